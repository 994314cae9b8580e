/-
  A walk of a Go function, printed by a program of this repo. Conditions: what the theorems name.
-/
import Derived.Test.YtplpgfcjjnaigaaDoorWShown13
import Derived.Test.YtplpgfcjjnaigaaDoorWCopyM
import Derived.Test.YtplpgfcjjnaigaaDoorWSame
import Derived.Test.YtplpgfcjjnaigaaDoorPureLaw13T
set_option linter.unusedVariables false
set_option linter.unusedSimpArgs false
namespace Go.Proofs.YtplpgfcjjnaigaaDoor
open Go Go.RowKit

attribute [local irreducible] ofZ fromW wordsD ofD ofW lsD lenW lenN fullW withW lessW hasW hasD inW inD leastD putD onI tzI orS andS minusS orD andD minusD fullD emptyD
set_option maxHeartbeats 4000000 in
theorem two13_any {Ag0 Ag1 Ag2 : Option Addr} {cg0 cg1 cg2 : Nat} {g : GameL} {Ah0 Ah1 Ah2 : Option Addr} {ch0 ch1 ch2 : Nat} {h : GameL} {w : World} (rg : RdG w 0 w.heap.size Ag0 Ag1 Ag2 cg0 cg1 cg2 g) (rh : RdG w 0 w.heap.size Ah0 Ah1 Ah2 ch0 ch1 ch2 h) (rT : RdT w 0 w.heap.size) :
    Calls Tryd.prog 8 #[.agg #[.slice Ag0 g.ow.length cg0, .slice Ag1 g.pr.length cg1, .slice Ag2 g.mv.length cg2], .agg #[.slice Ah0 h.ow.length ch0, .slice Ah1 h.pr.length ch1, .slice Ah2 h.mv.length ch2]] w fun e w' => e = .returned (.bool true) ∧ Ext w w' := by
 have hlg0 := rg.ow.len; have hlg1 := rg.pr.len; have hlg2 := rg.mv.len; have hkg0 := rg.k0; have hkg1 := rg.k1; have hkg2 := rg.k2; have hlh0 := rh.ow.len; have hlh1 := rh.pr.len; have hlh2 := rh.mv.len; have hkh0 := rh.k0; have hkh1 := rh.k1; have hkh2 := rh.k2
 refine enter_ (args := [.agg #[.slice Ag0 g.ow.length cg0, .slice Ag1 g.pr.length cg1, .slice Ag2 g.mv.length cg2], .agg #[.slice Ah0 h.ow.length ch0, .slice Ah1 h.pr.length ch1, .slice Ah2 h.mv.length ch2]]) Tryd.func8 rfl Tryd.ntmps8 (Nat.le_of_ble_eq_true rfl) (fun act0 f0 => ?_)
 have e0 : Ext w w := Ext.refl w
 refine wp_seq ?_
 refine At.start ?_
 refine At.seq f0 1 [[]] [(2, .pointer (some ⟨w.heap.size, 0, none⟩))] (w.alloc (.cells #[.slice Ag0 g.ow.length cg0, .slice Ag1 g.pr.length cg1, .slice Ag2 g.mv.length cg2] 25 (0, 0))) [] (by kernel_rfl) trivial (fun act4 w1 hw2 f3 => ?_)
 clear f0; have g5 := gr_alloc hw2; have := g5.size; replace e0 := e0.gn g5; have r8 := rg.gn g5; clear rg; have r9 := rh.gn g5; clear rh; have cE := rT.gn g5; clear rT; have aR : Bx w1 (w.heap.size) [.slice Ag0 g.ow.length cg0, .slice Ag1 g.pr.length cg1, .slice Ag2 g.mv.length cg2] 25 := Bx.new hw2; have := aR.lt; clear g5 hw2
 refine At.seq f3 1 [[]] [(3, .pointer (some ⟨w1.heap.size, 0, none⟩))] (w1.alloc (.cells #[.slice Ah0 h.ow.length ch0, .slice Ah1 h.pr.length ch1, .slice Ah2 h.mv.length ch2] 25 (0, 0))) [] (by kernel_rfl) trivial (fun vJ sU kE nG => ?_)
 clear f3; have gO := gr_alloc kE; have := gO.size; replace e0 := e0.gn gO; replace r8 := r8.gn gO; replace r9 := r9.gn gO; replace cE := cE.gn gO; replace aR := aR.gn gO; have bA : Bx sU (w1.heap.size) [.slice Ah0 h.ow.length ch0, .slice Ah1 h.pr.length ch1, .slice Ah2 h.mv.length ch2] 25 := Bx.new kE; have := bA.lt; clear gO kE
 refine At.rd nG 1 [[]] [(4, .bool false)] [] (by kernel_rfl) trivial (fun vK nH => ?_)
 clear nG
 refine At.done rfl ?_
 refine t_n ?_
 refine wp_seq ?_
 refine At.start ?_
 refine At.call nH 12 #[] (some 24) (by kernel_rfl) (shown13_any (cE.wide (Nat.zero_le _) (by omega))) ?_
 rintro e_ kF ⟨rfl, he⟩
 refine ⟨_, rfl, _, rfl, fun vL nI => ?_⟩
 clear nH; have gD := gr_ext he; have := gD.size; replace e0 := e0.gn gD; replace r8 := r8.gn gD; replace r9 := r9.gn gD; replace cE := cE.gn gD; replace aR := aR.gn gD; replace bA := bA.gn gD; clear gD he
 refine At.rd nI 1 [[]] [(5, .bool true)] [] (by kernel_rfl) trivial (fun vM nJ => ?_)
 clear nI
 refine At.done rfl ?_
 refine t_n ?_
 refine wp_seq ?_
 refine At.start ?_
 refine At.rd nJ 1 [[.ld (.slice Ag0 g.ow.length cg0), .ld (.slice Ag1 g.pr.length cg1), .ld (.slice Ag2 g.mv.length cg2)]] [(26, .agg #[.slice Ag0 g.ow.length cg0, .slice Ag1 g.pr.length cg1, .slice Ag2 g.mv.length cg2])] [(kF.cell? ⟨w.heap.size, 0, none⟩ = some (.slice Ag0 g.ow.length cg0)), (kF.cell? ⟨w.heap.size, 1, none⟩ = some (.slice Ag1 g.pr.length cg1)), (kF.cell? ⟨w.heap.size, 2, none⟩ = some (.slice Ag2 g.mv.length cg2))] (by kernel_rfl) ⟨(aR.cell (i := 0) rfl), (aR.cell (i := 1) rfl), (aR.cell (i := 2) rfl), trivial⟩ (fun vN nK => ?_)
 clear nJ
 refine At.call nK 21 #[.agg #[.slice Ag0 g.ow.length cg0, .slice Ag1 g.pr.length cg1, .slice Ag2 g.mv.length cg2]] (some 27) (by kernel_rfl) (right_any (r8.wide (Nat.zero_le _) (by omega))) ?_
 rintro e_ kG ⟨rfl, he⟩
 refine ⟨_, rfl, _, rfl, fun vO nL => ?_⟩
 clear nK; have gE := gr_ext he; have := gE.size; replace e0 := e0.gn gE; replace r8 := r8.gn gE; replace r9 := r9.gn gE; replace cE := cE.gn gE; replace aR := aR.gn gE; replace bA := bA.gn gE; clear gE he
 refine At.rd nL 5 [[], [], [], [], []] [(7, .int .i64 ((rightP g).2)), (6, .int .i64 ((rightP g).1)), (29, .int .i64 ((rightP g).2)), (28, .int .i64 ((rightP g).1)), (25, .tuple #[.int .i64 ((rightP g).1), .int .i64 ((rightP g).2)])] [] (by kernel_rfl) trivial (fun vP nM => ?_)
 clear nL
 refine At.done rfl ?_
 refine t_n ?_
 refine wp_seq ?_
 refine At.start ?_
 refine At.rd nM 1 [[.ld (.slice Ah0 h.ow.length ch0), .ld (.slice Ah1 h.pr.length ch1), .ld (.slice Ah2 h.mv.length ch2)]] [(31, .agg #[.slice Ah0 h.ow.length ch0, .slice Ah1 h.pr.length ch1, .slice Ah2 h.mv.length ch2])] [(kG.cell? ⟨w1.heap.size, 0, none⟩ = some (.slice Ah0 h.ow.length ch0)), (kG.cell? ⟨w1.heap.size, 1, none⟩ = some (.slice Ah1 h.pr.length ch1)), (kG.cell? ⟨w1.heap.size, 2, none⟩ = some (.slice Ah2 h.mv.length ch2))] (by kernel_rfl) ⟨(bA.cell (i := 0) rfl), (bA.cell (i := 1) rfl), (bA.cell (i := 2) rfl), trivial⟩ (fun vQ nN => ?_)
 clear nM
 refine At.call nN 21 #[.agg #[.slice Ah0 h.ow.length ch0, .slice Ah1 h.pr.length ch1, .slice Ah2 h.mv.length ch2]] (some 32) (by kernel_rfl) (right_any (r9.wide (Nat.zero_le _) (by omega))) ?_
 rintro e_ aB ⟨rfl, he⟩
 refine ⟨_, rfl, _, rfl, fun vR nO => ?_⟩
 clear nN; have gF := gr_ext he; have := gF.size; replace e0 := e0.gn gF; replace r8 := r8.gn gF; replace r9 := r9.gn gF; replace cE := cE.gn gF; replace aR := aR.gn gF; replace bA := bA.gn gF; clear gF he
 refine At.rd nO 5 [[], [], [], [], []] [(9, .int .i64 ((rightP h).2)), (8, .int .i64 ((rightP h).1)), (34, .int .i64 ((rightP h).2)), (33, .int .i64 ((rightP h).1)), (30, .tuple #[.int .i64 ((rightP h).1), .int .i64 ((rightP h).2)])] [] (by kernel_rfl) trivial (fun vS nP => ?_)
 clear nO
 refine At.done rfl ?_
 refine t_n ?_
 refine wp_seq ?_
 refine At.start ?_
 refine At.rd nP 4 [[], [.ld (.slice Ag0 g.ow.length cg0)], [], []] [(10, .int .i64 (((g.ow.length : Nat) : Int))), (37, .int .i64 (((g.ow.length : Nat) : Int))), (36, .slice Ag0 g.ow.length cg0), (35, .pointer (some ⟨w.heap.size, 0, none⟩))] [(aB.cell? ⟨w.heap.size, 0, none⟩ = some (.slice Ag0 g.ow.length cg0))] (by kernel_rfl) ⟨(aR.cell (i := 0) rfl), trivial⟩ (fun vT hK => ?_)
 clear nP
 refine At.done rfl ?_
 refine t_n ?_
 refine wp_seq ?_
 refine wp_seq ?_
 refine At.start ?_
 rcases Bool.eq_false_or_eq_true (((rightP g).2 : Int) != 0) with hL | hL
 ·have vU := bne_iff_ne.1 hL
  refine At.rd hK 18 [[], [], [], [], [], [], [.as_ (.bool true)], [], [], [], [], [], [], [], [], [], [], []] [(55, .bool true), (54, undef), (53, undef), (52, undef), (51, undef), (50, undef), (49, undef), (48, .bool true), (47, .bool true), (46, undef), (45, undef), (44, .bool true), (43, .bool (((rightP g).2 : Int) != 0)), (42, .bool (((rightP g).2 : Int) != 0)), (41, .int .i64 ((rightP g).2)), (40, .bool false), (39, .bool false), (38, .bool true)] [((.bool (((rightP g).2 : Int) != 0) : Value) = .bool true)] (by kernel_rfl) ⟨(congrArg Value.bool hL), trivial⟩ (fun vV kH => ?_)
  clear hK
  refine At.done rfl ?_
  refine t_n ?_
  refine cond_T kH rfl ?_
  refine wp_seq ?_
  refine At.start ?_
  refine At.rd kH 2 [[], []] [(4, .bool true), (56, .bool true)] [] (by kernel_rfl) trivial (fun vW sV => ?_)
  clear kH
  refine At.done rfl ?_
  refine t_n ?_
  clear aR; clear bA
  refine wp_ret ?_
  refine t_r ?_
  refine ret_ sV [] [.bool true] [] (by kernel_rfl) trivial ?_
  exact ⟨rfl, e0⟩
 have vX := bne_eq_false_iff_eq.1 hL
 rcases Bool.eq_false_or_eq_true (((rightP h).2 : Int) != 0) with iJ | iJ
 ·have vY := bne_iff_ne.1 iJ
  refine At.rd hK 18 [[], [], [], [], [], [], [.as_ (.bool false)], [], [], [], [.as_ (.bool true)], [], [], [], [], [], [], []] [(55, .bool true), (54, undef), (53, undef), (52, undef), (51, undef), (50, undef), (49, undef), (48, .bool true), (47, .bool (((rightP h).2 : Int) != 0)), (46, .bool (((rightP h).2 : Int) != 0)), (45, .int .i64 ((rightP h).2)), (44, .bool false), (43, .bool (((rightP g).2 : Int) != 0)), (42, .bool (((rightP g).2 : Int) != 0)), (41, .int .i64 ((rightP g).2)), (40, .bool false), (39, .bool false), (38, .bool true)] [((.bool (((rightP g).2 : Int) != 0) : Value) = .bool false), ((.bool (((rightP h).2 : Int) != 0) : Value) = .bool true)] (by kernel_rfl) ⟨(congrArg Value.bool hL), (congrArg Value.bool iJ), trivial⟩ (fun vZ kI => ?_)
  clear hK
  refine At.done rfl ?_
  refine t_n ?_
  refine cond_T kI rfl ?_
  refine wp_seq ?_
  refine At.start ?_
  refine At.rd kI 2 [[], []] [(4, .bool true), (56, .bool true)] [] (by kernel_rfl) trivial (fun wA sW => ?_)
  clear kI
  refine At.done rfl ?_
  refine t_n ?_
  clear aR; clear bA
  refine wp_ret ?_
  refine t_r ?_
  refine ret_ sW [] [.bool true] [] (by kernel_rfl) trivial ?_
  exact ⟨rfl, e0⟩
 have wB := bne_eq_false_iff_eq.1 iJ
 refine At.rd hK 18 [[], [], [], [], [], [], [.as_ (.bool false)], [], [], [], [.as_ (.bool false)], [], [], [.ld (.slice Ah0 h.ow.length ch0)], [], [.as_ (.int .i64 (((g.ow.length : Nat) : Int) + ((h.ow.length : Nat) : Int)))], [], []] [(55, .bool (decide ((((g.ow.length : Nat) : Int) + ((h.ow.length : Nat) : Int) : Int) > 200))), (54, .bool (decide ((((g.ow.length : Nat) : Int) + ((h.ow.length : Nat) : Int) : Int) > 200))), (53, .int .i64 (((g.ow.length : Nat) : Int) + ((h.ow.length : Nat) : Int))), (52, .int .i64 (((h.ow.length : Nat) : Int))), (51, .slice Ah0 h.ow.length ch0), (50, .pointer (some ⟨w1.heap.size, 0, none⟩)), (49, .int .i64 (((g.ow.length : Nat) : Int))), (48, .bool false), (47, .bool (((rightP h).2 : Int) != 0)), (46, .bool (((rightP h).2 : Int) != 0)), (45, .int .i64 ((rightP h).2)), (44, .bool false), (43, .bool (((rightP g).2 : Int) != 0)), (42, .bool (((rightP g).2 : Int) != 0)), (41, .int .i64 ((rightP g).2)), (40, .bool false), (39, .bool false), (38, .bool true)] [((.bool (((rightP g).2 : Int) != 0) : Value) = .bool false), ((.bool (((rightP h).2 : Int) != 0) : Value) = .bool false), (aB.cell? ⟨w1.heap.size, 0, none⟩ = some (.slice Ah0 h.ow.length ch0)), ((.int .i64 (IntKind.i64.wrap (((g.ow.length : Nat) : Int) + ((h.ow.length : Nat) : Int))) : Value) = .int .i64 (((g.ow.length : Nat) : Int) + ((h.ow.length : Nat) : Int)))] (by kernel_rfl) ⟨(congrArg Value.bool hL), (congrArg Value.bool iJ), (bA.cell (i := 0) rfl), (w64 (by omega) (by omega)), trivial⟩ (fun wC iK => ?_)
 clear hK
 refine At.done rfl ?_
 refine t_n ?_
 refine cond_S iK (t := decide ((((g.ow.length : Nat) : Int) + ((h.ow.length : Nat) : Int) : Int) > 200)) rfl (fun kJ => ?_) (fun kJ => ?_)
 ·have wD := of_decide_eq_true kJ
  refine wp_seq ?_
  refine At.start ?_
  refine At.rd iK 2 [[], []] [(4, .bool true), (56, .bool true)] [] (by kernel_rfl) trivial (fun wE sX => ?_)
  clear iK
  refine At.done rfl ?_
  refine t_n ?_
  clear aR; clear bA
  refine wp_ret ?_
  refine t_r ?_
  refine ret_ sX [] [.bool true] [] (by kernel_rfl) trivial ?_
  exact ⟨rfl, e0⟩
 have wF := of_decide_eq_false kJ
 refine wp_skip ?_
 refine t_n ?_
 refine wp_seq ?_
 have hR : isR g = true := right_of2 (by omega); have hG := isR_ok hR; have hn1 := hG.n1; have hn0 := hG.n0; have hpl := hG.pl; have hml := hG.ml; have hR2 : isR h = true := right_of2 (by omega); have hH := isR_ok hR2; have hn1h := hH.n1; have hn0h := hH.n0; have hplh := hH.pl; have hmlh := hH.ml
 refine At.start ?_
 refine At.rd iK 1 [[.ld (.slice Ag0 g.ow.length cg0), .ld (.slice Ag1 g.pr.length cg1), .ld (.slice Ag2 g.mv.length cg2)]] [(57, .agg #[.slice Ag0 g.ow.length cg0, .slice Ag1 g.pr.length cg1, .slice Ag2 g.mv.length cg2])] [(aB.cell? ⟨w.heap.size, 0, none⟩ = some (.slice Ag0 g.ow.length cg0)), (aB.cell? ⟨w.heap.size, 1, none⟩ = some (.slice Ag1 g.pr.length cg1)), (aB.cell? ⟨w.heap.size, 2, none⟩ = some (.slice Ag2 g.mv.length cg2))] (by kernel_rfl) ⟨(aR.cell (i := 0) rfl), (aR.cell (i := 1) rfl), (aR.cell (i := 2) rfl), trivial⟩ (fun wG nQ => ?_)
 clear iK
 refine At.call nQ 24 #[.agg #[.slice Ag0 g.ow.length cg0, .slice Ag1 g.pr.length cg1, .slice Ag2 g.mv.length cg2]] (some 58) (by kernel_rfl) (copyM_any (g := g) (r8.wide (Nat.zero_le _) (by omega))) ?_
 rintro e_ aA ⟨kK, kL, kM, kN, kO, kP, rfl, he, hM, hN, hO⟩
 have hip103 := inner_len (RdG.mv (r8.wide (Nat.zero_le _) (by omega)))
 refine ⟨_, rfl, _, rfl, fun wH nR => ?_⟩
 clear nQ; have gG := gr_ext he; have := gG.size; replace e0 := e0.gn gG; replace r8 := r8.gn gG; replace r9 := r9.gn gG; replace cE := cE.gn gG; replace aR := aR.gn gG; replace bA := bA.gn gG; clear gG he
 refine At.seq nR 1 [[]] [(11, .pointer (some ⟨aA.heap.size, 0, none⟩))] (aA.alloc (.cells #[.slice none 0 0, .slice none 0 0, .slice none 0 0] 25 (0, 0))) [] (by kernel_rfl) trivial (fun wI sY kQ nS => ?_)
 clear nR; have fE := gr_alloc kQ; have := fE.size; replace e0 := e0.gn fE; replace r8 := r8.gn fE; replace r9 := r9.gn fE; replace cE := cE.gn fE; replace aR := aR.gn fE; replace bA := bA.gn fE; replace hM := hM.grN fE; replace hN := hN.grN fE; replace hO := hO.grN fE; have kR : Bx sY (aA.heap.size) [.slice none 0 0, .slice none 0 0, .slice none 0 0] 25 := Bx.new kQ; have := kR.lt; clear fE kQ
 refine At.store nS (t := 25) (b := aA.heap.size) (off := 0) (v := .agg #[.slice kK g.ow.length kL, .slice kM g.pr.length kN, .slice kO g.mv.length kP]) (by kernel_rfl) kR (by kernel_rfl) (fun wJ sZ fF jD nT => ?_)
 clear nS; replace jD : Bx sZ (aA.heap.size) [.slice kK g.ow.length kL, .slice kM g.pr.length kN, .slice kO g.mv.length kP] 25 := jD; have := fF.size; replace e0 := e0.gr fF (fun k h => by injection h; omega); replace r8 := r8.gb fF (by omega); replace r9 := r9.gb fF (by omega); replace cE := cE.gb fF (by omega); replace aR := aR.gb fF (by omega); replace bA := bA.gb fF (by omega)
 replace hM := hM.gr fF (fun k hk => hk.1); replace hN := hN.gr fF (fun k hk => hk.1); replace hO := hO.gr fF (fun k hk => hk.1); clear kR fF
 refine At.done rfl ?_
 refine t_n ?_
 refine wp_seq ?_
 refine wp_seq ?_
 refine At.start ?_
 refine At.rd nT 1 [[]] [(12, .int .i64 (0))] [] (by kernel_rfl) trivial (fun wK nU => ?_)
 clear nT
 refine At.done rfl ?_
 refine t_n ?_
 refine wp_block ?_
 have nV := nU.sub (r := [(12, .int .i64 (0)), (11, .pointer (some ⟨aA.heap.size, 0, none⟩)), (10, .int .i64 (((g.ow.length : Nat) : Int))), (4, .bool false), (3, .pointer (some ⟨w1.heap.size, 0, none⟩)), (2, .pointer (some ⟨w.heap.size, 0, none⟩))]) ⟨rfl, rfl, rfl, rfl, rfl, rfl, trivial⟩
 refine loop_g (fun (m_ : Nat) a_ w_ => ∃ (i : Int) (xo : List Int) (cX : Option Addr) (dL : Nat) (xp : List Int) (aS : Option Addr) (bU : Nat) (xm : List (List Int)) (aC : Option Addr) (aT : Nat), m_ = ((h.ow.length : Int) - i).toNat ∧ (Frm 168 a_ [(12, .int .i64 (i)), (11, .pointer (some ⟨aA.heap.size, 0, none⟩)), (10, .int .i64 (((g.ow.length : Nat) : Int))), (4, .bool false), (3, .pointer (some ⟨w1.heap.size, 0, none⟩)), (2, .pointer (some ⟨w.heap.size, 0, none⟩))]) ∧ (Ext w w_) ∧ (RdG w_ 0 w.heap.size Ag0 Ag1 Ag2 cg0 cg1 cg2 g) ∧ (RdG w_ 0 w.heap.size Ah0 Ah1 Ah2 ch0 ch1 ch2 h) ∧ (RdT w_ 0 w.heap.size) ∧ (Bx w_ (w.heap.size) [.slice Ag0 g.ow.length cg0, .slice Ag1 g.pr.length cg1, .slice Ag2 g.mv.length cg2] 25) ∧ (Bx w_ (w1.heap.size) [.slice Ah0 h.ow.length ch0, .slice Ah1 h.pr.length ch1, .slice Ah2 h.mv.length ch2] 25) ∧ (OwnR w_ (Sx (aB.heap.size) [some (aA.heap.size), obk (aS), obk (aC)]) cX dL 3 (xo : List Int)) ∧ (OwnR w_ (Sx (aB.heap.size) [some (aA.heap.size), obk (cX), obk (aC)]) aS bU 3 (xp : List Int)) ∧ (OwnLL w_ (aB.heap.size) [some (aA.heap.size), obk (cX), obk (aS)] aC aT 22 3 (xm : List (List Int))) ∧ (Bx w_ (aA.heap.size) [.slice cX xo.length dL, .slice aS xp.length bU, .slice aC xm.length aT] 25) ∧ (0 ≤ i) ∧ (i ≤ (h.ow.length : Int)) ∧ (xo = g.ow ++ limL (fun j => gI h.ow j) i) ∧ (xp = g.pr ++ limL (fun j => gI h.pr j) i) ∧ (xm = g.mv ++ limL (fun j => rowT h ((g.ow.length : Nat) : Int) j) i) ∧ (aB.heap.size ≤ w_.heap.size)) _ ⟨0, (g.ow : List Int), kK, kL, (g.pr : List Int), kM, kN, (g.mv : List (List Int)), kO, kP, rfl, nV, e0, r8, r9, cE, aR, bA, hM, hN, hO, (jD.as (by first | rfl | (simp only [List.cons.injEq, Value.slice.injEq, true_and, and_true]; omega))), (by omega), (by omega), (List.append_nil _).symm, (List.append_nil _).symm, (List.append_nil _).symm, (by omega)⟩ ?_
 clear nV nU; clear r8; clear r9; clear cE; clear aR; clear bA; clear hM; clear hN; clear hO; clear jD; clear e0
 intro m_ wL bZ ⟨i, xo, cX, dL, xp, aS, bU, xm, aC, aT, hm156, nW, aH, aI, aG, aE, aQ, aN, aD, aJ, iL, aK, i167, i168, hxo, hxp, hxm, i169⟩
 have := aH.size; have := aQ.lt; have := aN.lt; have := aK.lt
 refine wp_seq ?_
 refine wp_seq ?_
 refine At.start ?_
 refine At.rd nW 5 [[], [], [.ld (.slice Ah0 h.ow.length ch0)], [], []] [(63, .bool (decide ((i : Int) < ((h.ow.length : Nat) : Int)))), (62, .int .i64 (((h.ow.length : Nat) : Int))), (61, .slice Ah0 h.ow.length ch0), (60, .pointer (some ⟨w1.heap.size, 0, none⟩)), (59, .int .i64 (i))] [(bZ.cell? ⟨w1.heap.size, 0, none⟩ = some (.slice Ah0 h.ow.length ch0))] (by kernel_rfl) ⟨(aN.cell (i := 0) rfl), trivial⟩ (fun wM hP => ?_)
 clear nW
 refine At.done rfl ?_
 refine t_n ?_
 refine cond_S hP (t := decide ((i : Int) < ((h.ow.length : Nat) : Int))) rfl (fun kS => ?_) (fun kS => ?_)
 ·have wN := of_decide_eq_true kS
  refine wp_skip ?_
  refine t_n ?_
  refine wp_seq ?_
  refine wp_block ?_
  have hxl0_ := congrArg List.length hxo; have hxl1_ := congrArg List.length hxp; have hxl2_ := congrArg List.length hxm
  rw [List.length_append, lim_len] at hxl0_ hxl1_ hxl2_
  refine wp_seq (cut (fun a_ w_ => ∃ (aO : Option Addr) (cI : Nat), (Frm 168 a_ [(12, .int .i64 (i)), (11, .pointer (some ⟨aA.heap.size, 0, none⟩)), (10, .int .i64 (((g.ow.length : Nat) : Int))), (4, .bool false), (3, .pointer (some ⟨w1.heap.size, 0, none⟩)), (2, .pointer (some ⟨w.heap.size, 0, none⟩))]) ∧ (Ext w w_) ∧ (RdG w_ 0 w.heap.size Ag0 Ag1 Ag2 cg0 cg1 cg2 g) ∧ (RdG w_ 0 w.heap.size Ah0 Ah1 Ah2 ch0 ch1 ch2 h) ∧ (RdT w_ 0 w.heap.size) ∧ (Bx w_ (w.heap.size) [.slice Ag0 g.ow.length cg0, .slice Ag1 g.pr.length cg1, .slice Ag2 g.mv.length cg2] 25) ∧ (Bx w_ (w1.heap.size) [.slice Ah0 h.ow.length ch0, .slice Ah1 h.pr.length ch1, .slice Ah2 h.mv.length ch2] 25) ∧ (OwnR w_ (Sx (aB.heap.size) [some (aA.heap.size), obk (aS), obk (aC)]) (aO) (cI) 3 (xo ++ ([gI h.ow (i)]) : List Int)) ∧ (OwnR w_ (Sx (aB.heap.size) [some (aA.heap.size), obk (aO), obk (aC)]) aS bU 3 (xp : List Int)) ∧ (OwnLL w_ (aB.heap.size) [some (aA.heap.size), obk (aO), obk (aS)] aC aT 22 3 (xm : List (List Int))) ∧ (Bx w_ (aA.heap.size) [.slice (aO) ((xo ++ ([gI h.ow (i)])).length) (cI), .slice aS xp.length bU, .slice aC xm.length aT] 25) ∧ (bZ.heap.size ≤ w_.heap.size)) ?_ ?_)
  ·obtain ⟨iM, tA, _, _, tB⟩ := RdI.get aG.ow (i) (by omega) (by omega)
   obtain ⟨jE, gP⟩ : ∃ c : List (Addr × Value), c = [(⟨w1.heap.size, 0, none⟩, (.slice Ah0 h.ow.length ch0)), ((iM.add ((i : Int).toNat * 1)), (.int .i64 (gI h.ow (i))))] := ⟨_, rfl⟩
   have nX : HoldsC jE bZ := by rw [gP]; exact ⟨(aN.cell (i := 0) rfl), tB, trivial⟩
   refine AtH.start jE 11 #[false, false, false, false, false, false, false, false, false, false, false] (by kernel_rfl) rfl rfl (fun dM nY => ?_)
   have dN := gr_drew nY; have jF := nX.gr dN; have := dN.size; replace aH := aH.gn dN; replace aI := aI.gn dN; replace aG := aG.gn dN; replace aE := aE.gn dN; replace aQ := aQ.gn dN; replace aN := aN.gn dN; replace aD := aD.gn dN; replace aJ := aJ.gn dN; have cJ := iL.gn dN; clear iL; replace aK := aK.gn dN; clear dN nY nX
   refine AtH.rd (by kernel_rfl) (fun d v c a w h => by cases d <;> exact h) jF [0, 2, 3, 4, 5, 6] [[], [], [.ld (.slice Ah0 h.ow.length ch0)], [], [.ad iM], [.ld (.int .i64 (gI h.ow (i)))]] [(72, .int .i64 (gI h.ow (i))), (71, .pointer (some (iM.add ((i : Int).toNat * 1)))), (70, .int .i64 (i)), (69, .slice Ah0 h.ow.length ch0), (68, .pointer (some ⟨w1.heap.size, 0, none⟩)), (66, .pointer (some ⟨aA.heap.size, 0, none⟩))] #[true, false, true, true, true, true, true, false, false, false, false] [(∃ j_ : Nat, jE[j_]? = some (⟨w1.heap.size, 0, none⟩, (.slice Ah0 h.ow.length ch0))), (Ah0 = some iM), (0 ≤ (i : Int)), ((i : Int) < (h.ow.length : Nat)), (∃ j_ : Nat, jE[j_]? = some ((iM.add ((i : Int).toNat * 1)), (.int .i64 (gI h.ow (i)))))] 5 hP (by kernel_rfl) ⟨⟨0, by rw [gP]; rfl⟩, tA, (by omega), (by omega), ⟨1, by rw [gP]; rfl⟩, trivial⟩ (fun wO jG => ?_)
   clear hP
   refine AtH.all [1, 7] 4 (by kernel_rfl) (by simp) ⟨?_, ?_, trivial⟩
   ·refine OneH.seq jG [[.ld (.slice cX xo.length dL)]] [(67, .slice cX xo.length dL)] dM [(dM.cell? ⟨aA.heap.size, 0, none⟩ = some (.slice cX xo.length dL))] #[true, true, true, true, true, true, true, false, false, false, false] (by kernel_rfl) (by kernel_rfl) (by kernel_rfl) ⟨(aK.cell (i := 0) rfl), trivial⟩ (fun wP tC tD nZ => ?_)
    obtain rfl : dM = tC := tD.symm
    clear jG
    refine ⟨jF, ?_⟩
    refine AtH.all [7] 3 (by kernel_rfl) (by simp) ⟨?_, trivial⟩
    refine OneH.seq nZ [[]] [(73, .slice (some ⟨dM.heap.size, 0, none⟩) 1 1)] (dM.alloc (.cells #[.int .i64 (gI h.ow (i))] 3 (0, 0))) [] #[true, true, true, true, true, true, true, true, false, false, false] (by kernel_rfl) (by kernel_rfl) (by kernel_rfl) trivial (fun wQ oA kT oB => ?_)
    clear nZ; have dO := gr_alloc kT; have oC := jF.gr dO
    refine ⟨oC, ?_⟩
    have := dO.size; replace aH := aH.gn dO; replace aI := aI.gn dO; replace aG := aG.gn dO; replace aE := aE.gn dO; replace aQ := aQ.gn dO; replace aN := aN.gn dO; replace aD := aD.grN dO; replace aJ := aJ.grN dO; replace cJ := cJ.grN dO; replace aK := aK.gn dO; have kU : Bx oA (dM.heap.size) [.int .i64 (gI h.ow (i))] 3 := Bx.new kT; have := kU.lt; clear dO kT
    refine AtH.all [8] 2 (by kernel_rfl) (by simp) ⟨?_, trivial⟩
    have tE : (xo ++ ([gI h.ow (i)])).length = (xo).length + ([gI h.ow (i)] : List Int).length := List.length_append
    simp only [List.length_cons, List.length_nil] at tE
    refine OneH.act oB #[true, true, true, true, true, true, true, true, true, false, false] (by kernel_rfl) (appendR (α := Int) (t := 22) (d := 74) (n := xo.length) (m := 1) (cc := 1) (xs := xo) (ys := [gI h.ow (i)]) (bytes := 8) (by first | rfl | omega | (simp; done) | (simp; omega)) (by first | rfl | omega | (simp; done) | (simp; omega)) (by kernel_rfl) rfl (by kernel_rfl) aD (Bx.srcR (l := ([gI h.ow (i)] : List Int)) kU rfl) (by simp only [List.length_cons, List.length_nil]; omega) (by simp only [List.length_cons, List.length_nil]; omega)) ?_
    rintro d_ v_ oD ⟨rfl, iN, kV, hQ⟩
    obtain rfl := hQ.val
    have eO := hQ.gr
    have kW := oC.grO eO (by rw [gP]; exact ⟨(fun e => by have := aD.ge _ e; simp only [add_block] at this; omega), (fun e => by have := aD.ge _ e; simp only [add_block] at this; omega), trivial⟩)
    refine ⟨_, rfl, fun wR oE => ⟨kW, ?_⟩⟩
    clear oB; clear kU
    have kX := hQ.own (Sx (aB.heap.size) [some (aA.heap.size), obk (aS), obk (aC)]) (fun g _ hs => ⟨hs.2.1, hs.2.2.1, hs.2.2.2.1, hs.2.2.2.2⟩) ⟨(fun e => by injection e; omega), aJ.ne_new, cJ.ne_new, (show aB.heap.size ≤ oA.heap.size by omega)⟩
    have := eO.size; replace aH := aH.gr eO (fun k hk => by have := aD.ge k hk; omega); replace aI := aI.gr eO (fun k hk => by have := aD.ge k hk; omega); replace aG := aG.gr eO (fun k hk => by have := aD.ge k hk; omega); replace aE := aE.gr eO (fun k hk => by have := aD.ge k hk; omega); replace aQ := aQ.gr eO (fun e => by have := aD.ge _ e; omega)
    replace aN := aN.gr eO (fun e => by have := aD.ge _ e; omega)
    replace aJ : OwnR oD (Sx (aB.heap.size) [some (dM.heap.size), some (aA.heap.size), obk (iN), obk (aC)]) aS bU 3 (xp : List Int) := aJ.grA eO (fun k hk => hk.2.2.1) (fun k hk hs => ⟨hs.1, hs.2.1, own_repl hQ.at_ hs.2.2.1 hk, hs.2.2.2.1, hs.2.2.2.2⟩)
    replace cJ : OwnLL oD (aB.heap.size) [some (dM.heap.size), some (aA.heap.size), obk (iN), obk (aS)] aC aT 22 3 (xm : List (List Int)) := cJ.grA eO (fun k hk => hk.2.2.1) (fun k hk hs => ⟨hs.1, hs.2.1, own_repl hQ.at_ hs.2.2.1 hk, hs.2.2.2.1, hs.2.2.2.2⟩)
    replace aK := aK.gr eO (aD.neb (fun g hs => hs.2.1)); clear aD eO hQ
    refine AtH.rd (by kernel_rfl) (fun d v c a w h => by cases d <;> exact h) kW [9] [[]] [(75, .pointer (some ⟨aA.heap.size, 0, none⟩))] #[true, true, true, true, true, true, true, true, true, true, false] [] 1 oE (by kernel_rfl) trivial (fun wS oF => ?_)
    clear oE
    refine AtH.all [10] 0 (by kernel_rfl) (by simp) ⟨?_, trivial⟩
    refine OneH.store oF (t := 22) (b := aA.heap.size) (off := 0) (v := .slice iN ((xo ++ ([gI h.ow (i)])).length) kV) #[true, true, true, true, true, true, true, true, true, true, true] (by kernel_rfl) (by kernel_rfl) aK (by kernel_rfl) (fun wT tF eP kY tG => ?_)
    clear oF; replace kY : Bx tF (aA.heap.size) [.slice iN ((xo ++ ([gI h.ow (i)])).length) kV, .slice aS xp.length bU, .slice aC xm.length aT] 25 := kY; have oG := kW.gr' eP (by rw [gP]; exact ⟨(by simp only [add_block]; omega), (by simp only [add_block]; omega), trivial⟩); have := eP.size; replace aH := aH.gr eP (fun k h => by injection h; omega); replace aI := aI.gb eP (by omega)
    replace aG := aG.gb eP (by omega); replace aE := aE.gb eP (by omega); replace aQ := aQ.gb eP (by omega); replace aN := aN.gb eP (by omega); replace kX := kX.gr eP (fun k hk => hk.1); replace aJ := aJ.gr eP (fun k hk => hk.2.1); replace cJ := cJ.gr eP (fun k hk => hk.2.1); clear aK eP
    refine ⟨oG, ?_⟩
    refine AtH.done (by kernel_rfl) ?_
    clear oG
    refine t_n ?_
    have tH := tG.sub (r := [(12, .int .i64 (i)), (11, .pointer (some ⟨aA.heap.size, 0, none⟩)), (10, .int .i64 (((g.ow.length : Nat) : Int))), (4, .bool false), (3, .pointer (some ⟨w1.heap.size, 0, none⟩)), (2, .pointer (some ⟨w.heap.size, 0, none⟩))]) ⟨rfl, rfl, rfl, rfl, rfl, rfl, trivial⟩
    exact ⟨iN, kV, tH, aH, aI, aG, aE, aQ, aN, kX, (aJ.imp (fun g _ hs => ⟨hs.2.1, hs.2.2.1, hs.2.2.2.1, (by have := Sx_base hs; show aB.heap.size ≤ g; omega)⟩)), (cJ.imp (fun g _ hs => ⟨hs.2.1, hs.2.2.1, hs.2.2.2.1, (by have := Sx_base hs; show aB.heap.size ≤ g; omega)⟩)), kY, (by omega)⟩
   refine OneH.seq jG [[]] [(73, .slice (some ⟨dM.heap.size, 0, none⟩) 1 1)] (dM.alloc (.cells #[.int .i64 (gI h.ow (i))] 3 (0, 0))) [] #[true, false, true, true, true, true, true, true, false, false, false] (by kernel_rfl) (by kernel_rfl) (by kernel_rfl) trivial (fun wU iO kZ oH => ?_)
   clear jG; have dP := gr_alloc kZ; have lA := jF.gr dP
   refine ⟨lA, ?_⟩
   have := dP.size; replace aH := aH.gn dP; replace aI := aI.gn dP; replace aG := aG.gn dP; replace aE := aE.gn dP; replace aQ := aQ.gn dP; replace aN := aN.gn dP; replace aD := aD.grN dP; replace aJ := aJ.grN dP; replace cJ := cJ.grN dP; replace aK := aK.gn dP; have lB : Bx iO (dM.heap.size) [.int .i64 (gI h.ow (i))] 3 := Bx.new kZ; have := lB.lt; clear dP kZ
   refine AtH.all [1] 3 (by kernel_rfl) (by simp) ⟨?_, trivial⟩
   refine OneH.seq oH [[.ld (.slice cX xo.length dL)]] [(67, .slice cX xo.length dL)] iO [(iO.cell? ⟨aA.heap.size, 0, none⟩ = some (.slice cX xo.length dL))] #[true, true, true, true, true, true, true, true, false, false, false] (by kernel_rfl) (by kernel_rfl) (by kernel_rfl) ⟨(aK.cell (i := 0) rfl), trivial⟩ (fun wV tI tJ oI => ?_)
   obtain rfl : iO = tI := tJ.symm
   clear oH
   refine ⟨lA, ?_⟩
   refine AtH.all [8] 2 (by kernel_rfl) (by simp) ⟨?_, trivial⟩
   have tK : (xo ++ ([gI h.ow (i)])).length = (xo).length + ([gI h.ow (i)] : List Int).length := List.length_append
   simp only [List.length_cons, List.length_nil] at tK
   refine OneH.act oI #[true, true, true, true, true, true, true, true, true, false, false] (by kernel_rfl) (appendR (α := Int) (t := 22) (d := 74) (n := xo.length) (m := 1) (cc := 1) (xs := xo) (ys := [gI h.ow (i)]) (bytes := 8) (by first | rfl | omega | (simp; done) | (simp; omega)) (by first | rfl | omega | (simp; done) | (simp; omega)) (by kernel_rfl) rfl (by kernel_rfl) aD (Bx.srcR (l := ([gI h.ow (i)] : List Int)) lB rfl) (by simp only [List.length_cons, List.length_nil]; omega) (by simp only [List.length_cons, List.length_nil]; omega)) ?_
   rintro d_ v_ oJ ⟨rfl, iP, lC, hS⟩
   obtain rfl := hS.val
   have eQ := hS.gr
   have lD := lA.grO eQ (by rw [gP]; exact ⟨(fun e => by have := aD.ge _ e; simp only [add_block] at this; omega), (fun e => by have := aD.ge _ e; simp only [add_block] at this; omega), trivial⟩)
   refine ⟨_, rfl, fun wW oK => ⟨lD, ?_⟩⟩
   clear oI; clear lB
   have lE := hS.own (Sx (aB.heap.size) [some (aA.heap.size), obk (aS), obk (aC)]) (fun g _ hs => ⟨hs.2.1, hs.2.2.1, hs.2.2.2.1, hs.2.2.2.2⟩) ⟨(fun e => by injection e; omega), aJ.ne_new, cJ.ne_new, (show aB.heap.size ≤ iO.heap.size by omega)⟩
   have := eQ.size; replace aH := aH.gr eQ (fun k hk => by have := aD.ge k hk; omega); replace aI := aI.gr eQ (fun k hk => by have := aD.ge k hk; omega); replace aG := aG.gr eQ (fun k hk => by have := aD.ge k hk; omega); replace aE := aE.gr eQ (fun k hk => by have := aD.ge k hk; omega); replace aQ := aQ.gr eQ (fun e => by have := aD.ge _ e; omega)
   replace aN := aN.gr eQ (fun e => by have := aD.ge _ e; omega)
   replace aJ : OwnR oJ (Sx (aB.heap.size) [some (dM.heap.size), some (aA.heap.size), obk (iP), obk (aC)]) aS bU 3 (xp : List Int) := aJ.grA eQ (fun k hk => hk.2.2.1) (fun k hk hs => ⟨hs.1, hs.2.1, own_repl hS.at_ hs.2.2.1 hk, hs.2.2.2.1, hs.2.2.2.2⟩)
   replace cJ : OwnLL oJ (aB.heap.size) [some (dM.heap.size), some (aA.heap.size), obk (iP), obk (aS)] aC aT 22 3 (xm : List (List Int)) := cJ.grA eQ (fun k hk => hk.2.2.1) (fun k hk hs => ⟨hs.1, hs.2.1, own_repl hS.at_ hs.2.2.1 hk, hs.2.2.2.1, hs.2.2.2.2⟩)
   replace aK := aK.gr eQ (aD.neb (fun g hs => hs.2.1)); clear aD eQ hS
   refine AtH.rd (by kernel_rfl) (fun d v c a w h => by cases d <;> exact h) lD [9] [[]] [(75, .pointer (some ⟨aA.heap.size, 0, none⟩))] #[true, true, true, true, true, true, true, true, true, true, false] [] 1 oK (by kernel_rfl) trivial (fun wX oL => ?_)
   clear oK
   refine AtH.all [10] 0 (by kernel_rfl) (by simp) ⟨?_, trivial⟩
   refine OneH.store oL (t := 22) (b := aA.heap.size) (off := 0) (v := .slice iP ((xo ++ ([gI h.ow (i)])).length) lC) #[true, true, true, true, true, true, true, true, true, true, true] (by kernel_rfl) (by kernel_rfl) aK (by kernel_rfl) (fun wY tL eR lF tM => ?_)
   clear oL; replace lF : Bx tL (aA.heap.size) [.slice iP ((xo ++ ([gI h.ow (i)])).length) lC, .slice aS xp.length bU, .slice aC xm.length aT] 25 := lF; have oM := lD.gr' eR (by rw [gP]; exact ⟨(by simp only [add_block]; omega), (by simp only [add_block]; omega), trivial⟩); have := eR.size; replace aH := aH.gr eR (fun k h => by injection h; omega); replace aI := aI.gb eR (by omega)
   replace aG := aG.gb eR (by omega); replace aE := aE.gb eR (by omega); replace aQ := aQ.gb eR (by omega); replace aN := aN.gb eR (by omega); replace lE := lE.gr eR (fun k hk => hk.1); replace aJ := aJ.gr eR (fun k hk => hk.2.1); replace cJ := cJ.gr eR (fun k hk => hk.2.1); clear aK eR
   refine ⟨oM, ?_⟩
   refine AtH.done (by kernel_rfl) ?_
   clear oM
   refine t_n ?_
   have tN := tM.sub (r := [(12, .int .i64 (i)), (11, .pointer (some ⟨aA.heap.size, 0, none⟩)), (10, .int .i64 (((g.ow.length : Nat) : Int))), (4, .bool false), (3, .pointer (some ⟨w1.heap.size, 0, none⟩)), (2, .pointer (some ⟨w.heap.size, 0, none⟩))]) ⟨rfl, rfl, rfl, rfl, rfl, rfl, trivial⟩
   exact ⟨iP, lC, tN, aH, aI, aG, aE, aQ, aN, lE, (aJ.imp (fun g _ hs => ⟨hs.2.1, hs.2.2.1, hs.2.2.2.1, (by have := Sx_base hs; show aB.heap.size ≤ g; omega)⟩)), (cJ.imp (fun g _ hs => ⟨hs.2.1, hs.2.2.1, hs.2.2.2.1, (by have := Sx_base hs; show aB.heap.size ≤ g; omega)⟩)), lF, (by omega)⟩
  clear aI; clear aG; clear aE; clear aQ; clear aN; clear aD; clear aJ; clear iL; clear aK; clear hP aH
  intro wZ oN ⟨aO, cI, lG, cA, cF, cB, cG, cC, bV, bW, aP, bX, cD, xA⟩
  have := cA.size; have := cC.lt; have := bV.lt; have := cD.lt; have hxl0_ := congrArg List.length hxo; have hxl1_ := congrArg List.length hxp; have hxl2_ := congrArg List.length hxm
  rw [List.length_append, lim_len] at hxl0_ hxl1_ hxl2_
  refine wp_seq (cut (fun a_ w_ => ∃ (aW : Option Addr) (fJ : Nat), (Frm 168 a_ [(12, .int .i64 (i)), (11, .pointer (some ⟨aA.heap.size, 0, none⟩)), (10, .int .i64 (((g.ow.length : Nat) : Int))), (4, .bool false), (3, .pointer (some ⟨w1.heap.size, 0, none⟩)), (2, .pointer (some ⟨w.heap.size, 0, none⟩))]) ∧ (Ext w w_) ∧ (RdG w_ 0 w.heap.size Ag0 Ag1 Ag2 cg0 cg1 cg2 g) ∧ (RdG w_ 0 w.heap.size Ah0 Ah1 Ah2 ch0 ch1 ch2 h) ∧ (RdT w_ 0 w.heap.size) ∧ (Bx w_ (w.heap.size) [.slice Ag0 g.ow.length cg0, .slice Ag1 g.pr.length cg1, .slice Ag2 g.mv.length cg2] 25) ∧ (Bx w_ (w1.heap.size) [.slice Ah0 h.ow.length ch0, .slice Ah1 h.pr.length ch1, .slice Ah2 h.mv.length ch2] 25) ∧ (OwnR w_ (Sx (aB.heap.size) [some (aA.heap.size), obk (aW), obk (aC)]) aO cI 3 (xo ++ ([gI h.ow (i)]) : List Int)) ∧ (OwnR w_ (Sx (aB.heap.size) [some (aA.heap.size), obk (aO), obk (aC)]) (aW) (fJ) 3 (xp ++ ([gI h.pr (i)]) : List Int)) ∧ (OwnLL w_ (aB.heap.size) [some (aA.heap.size), obk (aO), obk (aW)] aC aT 22 3 (xm : List (List Int))) ∧ (Bx w_ (aA.heap.size) [.slice aO ((xo ++ ([gI h.ow (i)])).length) cI, .slice (aW) ((xp ++ ([gI h.pr (i)])).length) (fJ), .slice aC xm.length aT] 25) ∧ (oN.heap.size ≤ w_.heap.size)) ?_ ?_)
  ·obtain ⟨iQ, tO, _, _, tP⟩ := RdI.get cB.pr (i) (by omega) (by omega)
   obtain ⟨jH, gQ⟩ : ∃ c : List (Addr × Value), c = [(⟨w1.heap.size, 1, none⟩, (.slice Ah1 h.pr.length ch1)), ((iQ.add ((i : Int).toNat * 1)), (.int .i64 (gI h.pr (i))))] := ⟨_, rfl⟩
   have oO : HoldsC jH oN := by rw [gQ]; exact ⟨(bV.cell (i := 1) rfl), tP, trivial⟩
   refine AtH.start jH 11 #[false, false, false, false, false, false, false, false, false, false, false] (by kernel_rfl) rfl rfl (fun dQ oP => ?_)
   have dR := gr_drew oP; have jI := oO.gr dR; have := dR.size; replace cA := cA.gn dR; replace cF := cF.gn dR; replace cB := cB.gn dR; replace cG := cG.gn dR; replace cC := cC.gn dR; replace bV := bV.gn dR; replace bW := bW.gn dR; replace aP := aP.gn dR; replace bX := bX.gn dR; replace cD := cD.gn dR; clear dR oP oO
   refine AtH.rd (by kernel_rfl) (fun d v c a w h => by cases d <;> exact h) jI [0, 2, 3, 4, 5, 6] [[], [], [.ld (.slice Ah1 h.pr.length ch1)], [], [.ad iQ], [.ld (.int .i64 (gI h.pr (i)))]] [(82, .int .i64 (gI h.pr (i))), (81, .pointer (some (iQ.add ((i : Int).toNat * 1)))), (80, .int .i64 (i)), (79, .slice Ah1 h.pr.length ch1), (78, .pointer (some ⟨w1.heap.size, 1, none⟩)), (76, .pointer (some ⟨aA.heap.size, 1, none⟩))] #[true, false, true, true, true, true, true, false, false, false, false] [(∃ j_ : Nat, jH[j_]? = some (⟨w1.heap.size, 1, none⟩, (.slice Ah1 h.pr.length ch1))), (Ah1 = some iQ), (0 ≤ (i : Int)), ((i : Int) < (h.pr.length : Nat)), (∃ j_ : Nat, jH[j_]? = some ((iQ.add ((i : Int).toNat * 1)), (.int .i64 (gI h.pr (i)))))] 5 lG (by kernel_rfl) ⟨⟨0, by rw [gQ]; rfl⟩, tO, (by omega), (by omega), ⟨1, by rw [gQ]; rfl⟩, trivial⟩ (fun xB jJ => ?_)
   clear lG
   refine AtH.all [1, 7] 4 (by kernel_rfl) (by simp) ⟨?_, ?_, trivial⟩
   ·refine OneH.seq jJ [[.ld (.slice aS xp.length bU)]] [(77, .slice aS xp.length bU)] dQ [(dQ.cell? ⟨aA.heap.size, 1, none⟩ = some (.slice aS xp.length bU))] #[true, true, true, true, true, true, true, false, false, false, false] (by kernel_rfl) (by kernel_rfl) (by kernel_rfl) ⟨(cD.cell (i := 1) rfl), trivial⟩ (fun xC tQ tR oQ => ?_)
    obtain rfl : dQ = tQ := tR.symm
    clear jJ
    refine ⟨jI, ?_⟩
    refine AtH.all [7] 3 (by kernel_rfl) (by simp) ⟨?_, trivial⟩
    refine OneH.seq oQ [[]] [(83, .slice (some ⟨dQ.heap.size, 0, none⟩) 1 1)] (dQ.alloc (.cells #[.int .i64 (gI h.pr (i))] 3 (0, 0))) [] #[true, true, true, true, true, true, true, true, false, false, false] (by kernel_rfl) (by kernel_rfl) (by kernel_rfl) trivial (fun xD oR lH oS => ?_)
    clear oQ; have dS := gr_alloc lH; have oT := jI.gr dS
    refine ⟨oT, ?_⟩
    have := dS.size; replace cA := cA.gn dS; replace cF := cF.gn dS; replace cB := cB.gn dS; replace cG := cG.gn dS; replace cC := cC.gn dS; replace bV := bV.gn dS; replace bW := bW.grN dS; replace aP := aP.grN dS; replace bX := bX.grN dS; replace cD := cD.gn dS; have lI : Bx oR (dQ.heap.size) [.int .i64 (gI h.pr (i))] 3 := Bx.new lH; have := lI.lt; clear dS lH
    refine AtH.all [8] 2 (by kernel_rfl) (by simp) ⟨?_, trivial⟩
    have tS : (xp ++ ([gI h.pr (i)])).length = (xp).length + ([gI h.pr (i)] : List Int).length := List.length_append
    simp only [List.length_cons, List.length_nil] at tS
    refine OneH.act oS #[true, true, true, true, true, true, true, true, true, false, false] (by kernel_rfl) (appendR (α := Int) (t := 22) (d := 84) (n := xp.length) (m := 1) (cc := 1) (xs := xp) (ys := [gI h.pr (i)]) (bytes := 8) (by first | rfl | omega | (simp; done) | (simp; omega)) (by first | rfl | omega | (simp; done) | (simp; omega)) (by kernel_rfl) rfl (by kernel_rfl) aP (Bx.srcR (l := ([gI h.pr (i)] : List Int)) lI rfl) (by simp only [List.length_cons, List.length_nil]; omega) (by simp only [List.length_cons, List.length_nil]; omega)) ?_
    rintro d_ v_ oU ⟨rfl, iR, lJ, hT⟩
    obtain rfl := hT.val
    have eS := hT.gr
    have lK := oT.grO eS (by rw [gQ]; exact ⟨(fun e => by have := aP.ge _ e; simp only [add_block] at this; omega), (fun e => by have := aP.ge _ e; simp only [add_block] at this; omega), trivial⟩)
    refine ⟨_, rfl, fun xE oV => ⟨lK, ?_⟩⟩
    clear oS; clear lI
    have lL := hT.own (Sx (aB.heap.size) [some (aA.heap.size), obk (aO), obk (aC)]) (fun g _ hs => ⟨hs.2.1, hs.2.2.1, hs.2.2.2.1, hs.2.2.2.2⟩) ⟨(fun e => by injection e; omega), bW.ne_new, bX.ne_new, (show aB.heap.size ≤ oR.heap.size by omega)⟩
    have := eS.size; replace cA := cA.gr eS (fun k hk => by have := aP.ge k hk; omega); replace cF := cF.gr eS (fun k hk => by have := aP.ge k hk; omega); replace cB := cB.gr eS (fun k hk => by have := aP.ge k hk; omega); replace cG := cG.gr eS (fun k hk => by have := aP.ge k hk; omega); replace cC := cC.gr eS (fun e => by have := aP.ge _ e; omega)
    replace bV := bV.gr eS (fun e => by have := aP.ge _ e; omega)
    replace bW : OwnR oU (Sx (aB.heap.size) [some (dQ.heap.size), some (aA.heap.size), obk (iR), obk (aC)]) aO cI 3 (xo ++ ([gI h.ow (i)]) : List Int) := bW.grA eS (fun k hk => hk.2.2.1) (fun k hk hs => ⟨hs.1, hs.2.1, own_repl hT.at_ hs.2.2.1 hk, hs.2.2.2.1, hs.2.2.2.2⟩)
    replace bX : OwnLL oU (aB.heap.size) [some (dQ.heap.size), some (aA.heap.size), obk (aO), obk (iR)] aC aT 22 3 (xm : List (List Int)) := bX.grA eS (fun k hk => hk.2.2.2.1) (fun k hk hs => ⟨hs.1, hs.2.1, hs.2.2.1, own_repl hT.at_ hs.2.2.2.1 hk, hs.2.2.2.2⟩)
    replace cD := cD.gr eS (aP.neb (fun g hs => hs.2.1)); clear aP eS hT
    refine AtH.rd (by kernel_rfl) (fun d v c a w h => by cases d <;> exact h) lK [9] [[]] [(85, .pointer (some ⟨aA.heap.size, 1, none⟩))] #[true, true, true, true, true, true, true, true, true, true, false] [] 1 oV (by kernel_rfl) trivial (fun xF oW => ?_)
    clear oV
    refine AtH.all [10] 0 (by kernel_rfl) (by simp) ⟨?_, trivial⟩
    refine OneH.store oW (t := 22) (b := aA.heap.size) (off := 1) (v := .slice iR ((xp ++ ([gI h.pr (i)])).length) lJ) #[true, true, true, true, true, true, true, true, true, true, true] (by kernel_rfl) (by kernel_rfl) cD (by kernel_rfl) (fun xG tT eT lM tU => ?_)
    clear oW
    replace lM : Bx tT (aA.heap.size) [.slice aO ((xo ++ ([gI h.ow (i)])).length) cI, .slice iR ((xp ++ ([gI h.pr (i)])).length) lJ, .slice aC xm.length aT] 25 := lM
    have oX := lK.gr' eT (by rw [gQ]; exact ⟨(by simp only [add_block]; omega), (by simp only [add_block]; omega), trivial⟩); have := eT.size; replace cA := cA.gr eT (fun k h => by injection h; omega); replace cF := cF.gb eT (by omega); replace cB := cB.gb eT (by omega); replace cG := cG.gb eT (by omega); replace cC := cC.gb eT (by omega); replace bV := bV.gb eT (by omega)
    replace bW := bW.gr eT (fun k hk => hk.2.1); replace lL := lL.gr eT (fun k hk => hk.1); replace bX := bX.gr eT (fun k hk => hk.2.1); clear cD eT
    refine ⟨oX, ?_⟩
    refine AtH.done (by kernel_rfl) ?_
    clear oX
    refine t_n ?_
    have tV := tU.sub (r := [(12, .int .i64 (i)), (11, .pointer (some ⟨aA.heap.size, 0, none⟩)), (10, .int .i64 (((g.ow.length : Nat) : Int))), (4, .bool false), (3, .pointer (some ⟨w1.heap.size, 0, none⟩)), (2, .pointer (some ⟨w.heap.size, 0, none⟩))]) ⟨rfl, rfl, rfl, rfl, rfl, rfl, trivial⟩
    exact ⟨iR, lJ, tV, cA, cF, cB, cG, cC, bV, (bW.imp (fun g _ hs => ⟨hs.2.1, hs.2.2.1, hs.2.2.2.1, (by have := Sx_base hs; show aB.heap.size ≤ g; omega)⟩)), lL, (bX.imp (fun g _ hs => ⟨hs.2.1, hs.2.2.1, hs.2.2.2.1, (by have := Sx_base hs; show aB.heap.size ≤ g; omega)⟩)), lM, (by omega)⟩
   refine OneH.seq jJ [[]] [(83, .slice (some ⟨dQ.heap.size, 0, none⟩) 1 1)] (dQ.alloc (.cells #[.int .i64 (gI h.pr (i))] 3 (0, 0))) [] #[true, false, true, true, true, true, true, true, false, false, false] (by kernel_rfl) (by kernel_rfl) (by kernel_rfl) trivial (fun xH iS lN oY => ?_)
   clear jJ; have dT := gr_alloc lN; have lO := jI.gr dT
   refine ⟨lO, ?_⟩
   have := dT.size; replace cA := cA.gn dT; replace cF := cF.gn dT; replace cB := cB.gn dT; replace cG := cG.gn dT; replace cC := cC.gn dT; replace bV := bV.gn dT; replace bW := bW.grN dT; replace aP := aP.grN dT; replace bX := bX.grN dT; replace cD := cD.gn dT; have lP : Bx iS (dQ.heap.size) [.int .i64 (gI h.pr (i))] 3 := Bx.new lN; have := lP.lt; clear dT lN
   refine AtH.all [1] 3 (by kernel_rfl) (by simp) ⟨?_, trivial⟩
   refine OneH.seq oY [[.ld (.slice aS xp.length bU)]] [(77, .slice aS xp.length bU)] iS [(iS.cell? ⟨aA.heap.size, 1, none⟩ = some (.slice aS xp.length bU))] #[true, true, true, true, true, true, true, true, false, false, false] (by kernel_rfl) (by kernel_rfl) (by kernel_rfl) ⟨(cD.cell (i := 1) rfl), trivial⟩ (fun xI tW tX oZ => ?_)
   obtain rfl : iS = tW := tX.symm
   clear oY
   refine ⟨lO, ?_⟩
   refine AtH.all [8] 2 (by kernel_rfl) (by simp) ⟨?_, trivial⟩
   have tY : (xp ++ ([gI h.pr (i)])).length = (xp).length + ([gI h.pr (i)] : List Int).length := List.length_append
   simp only [List.length_cons, List.length_nil] at tY
   refine OneH.act oZ #[true, true, true, true, true, true, true, true, true, false, false] (by kernel_rfl) (appendR (α := Int) (t := 22) (d := 84) (n := xp.length) (m := 1) (cc := 1) (xs := xp) (ys := [gI h.pr (i)]) (bytes := 8) (by first | rfl | omega | (simp; done) | (simp; omega)) (by first | rfl | omega | (simp; done) | (simp; omega)) (by kernel_rfl) rfl (by kernel_rfl) aP (Bx.srcR (l := ([gI h.pr (i)] : List Int)) lP rfl) (by simp only [List.length_cons, List.length_nil]; omega) (by simp only [List.length_cons, List.length_nil]; omega)) ?_
   rintro d_ v_ pA ⟨rfl, iT, lQ, hU⟩
   obtain rfl := hU.val
   have eU := hU.gr
   have lR := lO.grO eU (by rw [gQ]; exact ⟨(fun e => by have := aP.ge _ e; simp only [add_block] at this; omega), (fun e => by have := aP.ge _ e; simp only [add_block] at this; omega), trivial⟩)
   refine ⟨_, rfl, fun xJ pB => ⟨lR, ?_⟩⟩
   clear oZ; clear lP
   have lS := hU.own (Sx (aB.heap.size) [some (aA.heap.size), obk (aO), obk (aC)]) (fun g _ hs => ⟨hs.2.1, hs.2.2.1, hs.2.2.2.1, hs.2.2.2.2⟩) ⟨(fun e => by injection e; omega), bW.ne_new, bX.ne_new, (show aB.heap.size ≤ iS.heap.size by omega)⟩
   have := eU.size; replace cA := cA.gr eU (fun k hk => by have := aP.ge k hk; omega); replace cF := cF.gr eU (fun k hk => by have := aP.ge k hk; omega); replace cB := cB.gr eU (fun k hk => by have := aP.ge k hk; omega); replace cG := cG.gr eU (fun k hk => by have := aP.ge k hk; omega); replace cC := cC.gr eU (fun e => by have := aP.ge _ e; omega)
   replace bV := bV.gr eU (fun e => by have := aP.ge _ e; omega)
   replace bW : OwnR pA (Sx (aB.heap.size) [some (dQ.heap.size), some (aA.heap.size), obk (iT), obk (aC)]) aO cI 3 (xo ++ ([gI h.ow (i)]) : List Int) := bW.grA eU (fun k hk => hk.2.2.1) (fun k hk hs => ⟨hs.1, hs.2.1, own_repl hU.at_ hs.2.2.1 hk, hs.2.2.2.1, hs.2.2.2.2⟩)
   replace bX : OwnLL pA (aB.heap.size) [some (dQ.heap.size), some (aA.heap.size), obk (aO), obk (iT)] aC aT 22 3 (xm : List (List Int)) := bX.grA eU (fun k hk => hk.2.2.2.1) (fun k hk hs => ⟨hs.1, hs.2.1, hs.2.2.1, own_repl hU.at_ hs.2.2.2.1 hk, hs.2.2.2.2⟩)
   replace cD := cD.gr eU (aP.neb (fun g hs => hs.2.1)); clear aP eU hU
   refine AtH.rd (by kernel_rfl) (fun d v c a w h => by cases d <;> exact h) lR [9] [[]] [(85, .pointer (some ⟨aA.heap.size, 1, none⟩))] #[true, true, true, true, true, true, true, true, true, true, false] [] 1 pB (by kernel_rfl) trivial (fun xK pC => ?_)
   clear pB
   refine AtH.all [10] 0 (by kernel_rfl) (by simp) ⟨?_, trivial⟩
   refine OneH.store pC (t := 22) (b := aA.heap.size) (off := 1) (v := .slice iT ((xp ++ ([gI h.pr (i)])).length) lQ) #[true, true, true, true, true, true, true, true, true, true, true] (by kernel_rfl) (by kernel_rfl) cD (by kernel_rfl) (fun xL tZ eV lT uA => ?_)
   clear pC
   replace lT : Bx tZ (aA.heap.size) [.slice aO ((xo ++ ([gI h.ow (i)])).length) cI, .slice iT ((xp ++ ([gI h.pr (i)])).length) lQ, .slice aC xm.length aT] 25 := lT
   have pD := lR.gr' eV (by rw [gQ]; exact ⟨(by simp only [add_block]; omega), (by simp only [add_block]; omega), trivial⟩); have := eV.size; replace cA := cA.gr eV (fun k h => by injection h; omega); replace cF := cF.gb eV (by omega); replace cB := cB.gb eV (by omega); replace cG := cG.gb eV (by omega); replace cC := cC.gb eV (by omega); replace bV := bV.gb eV (by omega)
   replace bW := bW.gr eV (fun k hk => hk.2.1); replace lS := lS.gr eV (fun k hk => hk.1); replace bX := bX.gr eV (fun k hk => hk.2.1); clear cD eV
   refine ⟨pD, ?_⟩
   refine AtH.done (by kernel_rfl) ?_
   clear pD
   refine t_n ?_
   have uB := uA.sub (r := [(12, .int .i64 (i)), (11, .pointer (some ⟨aA.heap.size, 0, none⟩)), (10, .int .i64 (((g.ow.length : Nat) : Int))), (4, .bool false), (3, .pointer (some ⟨w1.heap.size, 0, none⟩)), (2, .pointer (some ⟨w.heap.size, 0, none⟩))]) ⟨rfl, rfl, rfl, rfl, rfl, rfl, trivial⟩
   exact ⟨iT, lQ, uB, cA, cF, cB, cG, cC, bV, (bW.imp (fun g _ hs => ⟨hs.2.1, hs.2.2.1, hs.2.2.2.1, (by have := Sx_base hs; show aB.heap.size ≤ g; omega)⟩)), lS, (bX.imp (fun g _ hs => ⟨hs.2.1, hs.2.2.1, hs.2.2.2.1, (by have := Sx_base hs; show aB.heap.size ≤ g; omega)⟩)), lT, (by omega)⟩
  clear cF; clear cB; clear cG; clear cC; clear bV; clear bW; clear aP; clear bX; clear cD; clear lG cA
  intro xM fT ⟨aW, fJ, pE, lU, pF, pG, pH, lV, lW, jK, jL, jM, lX, xN⟩
  have := lU.size; have := lV.lt; have := lW.lt; have := lX.lt
  refine wp_seq ?_
  have hrl_ := row_len hH (i := i) (by omega) (by omega)
  refine At.start ?_
  refine At.rd pE 1 [[]] [(13, .slice none 0 0)] [] (by kernel_rfl) trivial (fun xO pI => ?_)
  clear pE
  refine At.done rfl ?_
  refine t_n ?_
  refine wp_seq ?_
  refine wp_seq ?_
  refine At.start ?_
  refine At.rd pI 1 [[]] [(14, .int .i64 (0))] [] (by kernel_rfl) trivial (fun xP pJ => ?_)
  clear pI
  refine At.done rfl ?_
  refine t_n ?_
  refine wp_block ?_
  have pK : OwnR fT (Sx (fT.heap.size) [obk (aO), obk (aW), obk (aC)]) none 0 3 ([] : List Int) := OwnR.nil
  replace jK : OwnR fT (Sx (aB.heap.size) [obk none, some (aA.heap.size), obk (aW), obk (aC)]) aO cI 3 (xo ++ ([gI h.ow (i)]) : List Int) := jK.imp (fun g _ hs => ⟨by simp [obk], hs⟩)
  replace jL : OwnR fT (Sx (aB.heap.size) [obk none, some (aA.heap.size), obk (aO), obk (aC)]) aW fJ 3 (xp ++ ([gI h.pr (i)]) : List Int) := jL.imp (fun g _ hs => ⟨by simp [obk], hs⟩)
  replace jM : OwnLL fT (aB.heap.size) [obk none, some (aA.heap.size), obk (aO), obk (aW)] aC aT 22 3 (xm : List (List Int)) := jM.imp (fun g _ hs => ⟨by simp [obk], hs⟩)
  have pL := pJ.as 13 (.slice none 0 0) (.slice none (([] : List Int).length) 0) rfl (slice_len (by first | rfl | omega | (simp; done) | (simp; omega))); clear pJ
  have pM := pL.sub (r := [(13, .slice none (([] : List Int).length) 0), (14, .int .i64 (0)), (12, .int .i64 (i)), (11, .pointer (some ⟨aA.heap.size, 0, none⟩)), (10, .int .i64 (((g.ow.length : Nat) : Int))), (4, .bool false), (3, .pointer (some ⟨w1.heap.size, 0, none⟩)), (2, .pointer (some ⟨w.heap.size, 0, none⟩))]) ⟨rfl, rfl, rfl, rfl, rfl, rfl, rfl, rfl, trivial⟩
  refine loop_g (fun (m_ : Nat) a_ w_ => ∃ (q : Int) (bk : List Int) (dB : Option Addr) (gH : Nat), m_ = ((((gL h.mv i).length : Nat) : Int) - q).toNat ∧ (Frm 168 a_ [(13, .slice dB bk.length gH), (14, .int .i64 (q)), (12, .int .i64 (i)), (11, .pointer (some ⟨aA.heap.size, 0, none⟩)), (10, .int .i64 (((g.ow.length : Nat) : Int))), (4, .bool false), (3, .pointer (some ⟨w1.heap.size, 0, none⟩)), (2, .pointer (some ⟨w.heap.size, 0, none⟩))]) ∧ (Ext w w_) ∧ (RdG w_ 0 w.heap.size Ag0 Ag1 Ag2 cg0 cg1 cg2 g) ∧ (RdG w_ 0 w.heap.size Ah0 Ah1 Ah2 ch0 ch1 ch2 h) ∧ (RdT w_ 0 w.heap.size) ∧ (Bx w_ (w.heap.size) [.slice Ag0 g.ow.length cg0, .slice Ag1 g.pr.length cg1, .slice Ag2 g.mv.length cg2] 25) ∧ (Bx w_ (w1.heap.size) [.slice Ah0 h.ow.length ch0, .slice Ah1 h.pr.length ch1, .slice Ah2 h.mv.length ch2] 25) ∧ (OwnR w_ (Sx (aB.heap.size) [obk (dB), some (aA.heap.size), obk (aW), obk (aC)]) aO cI 3 (xo ++ ([gI h.ow (i)]) : List Int)) ∧ (OwnR w_ (Sx (aB.heap.size) [obk (dB), some (aA.heap.size), obk (aO), obk (aC)]) aW fJ 3 (xp ++ ([gI h.pr (i)]) : List Int)) ∧ (OwnLL w_ (aB.heap.size) [obk (dB), some (aA.heap.size), obk (aO), obk (aW)] aC aT 22 3 (xm : List (List Int))) ∧ (Bx w_ (aA.heap.size) [.slice aO ((xo ++ ([gI h.ow (i)])).length) cI, .slice aW ((xp ++ ([gI h.pr (i)])).length) fJ, .slice aC xm.length aT] 25) ∧ (OwnR w_ (Sx (fT.heap.size) [obk (aO), obk (aW), obk (aC)]) dB gH 3 (bk : List Int)) ∧ (0 ≤ q) ∧ (q ≤ (((gL h.mv i).length : Nat) : Int)) ∧ (bk = limL (fun j => gI (gL h.mv i) j + ((g.ow.length : Nat) : Int)) q) ∧ (aB.heap.size ≤ w_.heap.size) ∧ (fT.heap.size ≤ w_.heap.size)) _ ⟨0, ([] : List Int), none, 0, rfl, pM, lU, pF, pG, pH, lV, lW, jK, jL, jM, lX, pK, (by omega), (by omega), lim_0, (by omega), (by omega)⟩ ?_
  clear pM pL; clear pF; clear pG; clear pH; clear lV; clear lW; clear jK; clear jL; clear jM; clear lX; clear pK; clear lU
  intro m_ xQ cH ⟨q, bk, dB, gH, hm510, pN, dU, eW, dC, eX, dV, cY, dD, dE, jN, dW, cK, i522, i523, hbk, i524, i525⟩
  have := dU.size; have := dV.lt; have := cY.lt; have := dW.lt
  refine wp_seq ?_
  refine wp_seq ?_
  refine At.start ?_
  obtain ⟨jO, lY, lZ, uC, _, _, uD, xR, pO⟩ := RdII.get dC.mv (i) (by omega) (by omega)
  have xS := pO.len
  refine At.rd pN 8 [[], [], [.ld (.slice Ah2 h.mv.length ch2)], [], [.ad jO], [.ld (.slice lY ((gL h.mv (i)).length) lZ)], [], []] [(93, .bool (decide ((q : Int) < (((gL h.mv (i)).length : Nat) : Int)))), (92, .int .i64 ((((gL h.mv (i)).length : Nat) : Int))), (91, .slice lY ((gL h.mv (i)).length) lZ), (90, .pointer (some (jO.add ((i : Int).toNat * 1)))), (89, .int .i64 (i)), (88, .slice Ah2 h.mv.length ch2), (87, .pointer (some ⟨w1.heap.size, 2, none⟩)), (86, .int .i64 (q))] [(cH.cell? ⟨w1.heap.size, 2, none⟩ = some (.slice Ah2 h.mv.length ch2)), (Ah2 = some jO), (0 ≤ (i : Int)), ((i : Int) < (h.mv.length : Nat)), (cH.cell? (jO.add ((i : Int).toNat * 1)) = some (.slice lY ((gL h.mv (i)).length) lZ))] (by kernel_rfl) ⟨(cY.cell (i := 2) rfl), uC, (by omega), (by omega), uD, trivial⟩ (fun xT iU => ?_)
  clear pN
  refine At.done rfl ?_
  refine t_n ?_
  clear pO
  refine cond_S iU (t := decide ((q : Int) < (((gL h.mv (i)).length : Nat) : Int))) rfl (fun mA => ?_) (fun mA => ?_)
  ·have xU := of_decide_eq_true mA
   refine wp_skip ?_
   refine t_n ?_
   refine wp_seq ?_
   refine wp_block ?_
   have hmk := hH.mv i (by omega) (by omega) q (by omega) (by omega); have hbl_ := congrArg List.length hbk
   rw [lim_len] at hbl_
   refine At.start ?_
   obtain ⟨jP, jQ, mB, uE, _, _, uF, xV, gR⟩ := RdII.get dC.mv (i) (by omega) (by omega)
   have xW := gR.len
   obtain ⟨jR, uG, _, _, uH⟩ := RdI.get gR (q) (by omega) (by omega)
   refine At.rd iU 11 [[], [], [.ld (.slice Ah2 h.mv.length ch2)], [], [.ad jP], [.ld (.slice jQ ((gL h.mv (i)).length) mB)], [], [.ad jR], [.ld (.int .i64 (gI (gL h.mv (i)) (q)))], [], [.as_ (.int .i64 ((gI (gL h.mv (i)) (q)) + ((g.ow.length : Nat) : Int)))]] [(106, .int .i64 ((gI (gL h.mv (i)) (q)) + ((g.ow.length : Nat) : Int))), (105, .int .i64 (((g.ow.length : Nat) : Int))), (104, .int .i64 (gI (gL h.mv (i)) (q))), (103, .pointer (some (jR.add ((q : Int).toNat * 1)))), (102, .int .i64 (q)), (101, .slice jQ ((gL h.mv (i)).length) mB), (100, .pointer (some (jP.add ((i : Int).toNat * 1)))), (99, .int .i64 (i)), (98, .slice Ah2 h.mv.length ch2), (97, .pointer (some ⟨w1.heap.size, 2, none⟩)), (96, .slice dB bk.length gH)] [(cH.cell? ⟨w1.heap.size, 2, none⟩ = some (.slice Ah2 h.mv.length ch2)), (Ah2 = some jP), (0 ≤ (i : Int)), ((i : Int) < (h.mv.length : Nat)), (cH.cell? (jP.add ((i : Int).toNat * 1)) = some (.slice jQ ((gL h.mv (i)).length) mB)), (jQ = some jR), (0 ≤ (q : Int)), ((q : Int) < ((gL h.mv (i)).length : Nat)), (cH.cell? (jR.add ((q : Int).toNat * 1)) = some (.int .i64 (gI (gL h.mv (i)) (q)))), ((.int .i64 (IntKind.i64.wrap ((gI (gL h.mv (i)) (q)) + ((g.ow.length : Nat) : Int))) : Value) = .int .i64 ((gI (gL h.mv (i)) (q)) + ((g.ow.length : Nat) : Int)))] (by kernel_rfl) ⟨(cY.cell (i := 2) rfl), uE, (by omega), (by omega), uF, uG, (by omega), (by omega), uH, (w64 (by omega) (by omega)), trivial⟩ (fun xX pP => ?_)
   clear iU
   refine At.seq pP 1 [[]] [(107, .slice (some ⟨cH.heap.size, 0, none⟩) 1 1)] (cH.alloc (.cells #[.int .i64 ((gI (gL h.mv (i)) (q)) + ((g.ow.length : Nat) : Int))] 3 (0, 0))) [] (by kernel_rfl) trivial (fun xY pQ mC pR => ?_)
   clear pP; have dF := gr_alloc mC; have := dF.size; replace dU := dU.gn dF; replace eW := eW.gn dF; replace dC := dC.gn dF; replace eX := eX.gn dF; replace dV := dV.gn dF; replace cY := cY.gn dF; replace dD := dD.grN dF; replace dE := dE.grN dF; have jS := jN.grN dF; clear jN; replace dW := dW.gn dF; replace cK := cK.grN dF; replace gR := gR.gn dF
   have mD : Bx pQ (cH.heap.size) [.int .i64 ((gI (gL h.mv (i)) (q)) + ((g.ow.length : Nat) : Int))] 3 := Bx.new mC; have := mD.lt; clear dF mC
   have uI : (bk ++ ([(gI (gL h.mv (i)) (q)) + ((g.ow.length : Nat) : Int)])).length = (bk).length + ([(gI (gL h.mv (i)) (q)) + ((g.ow.length : Nat) : Int)] : List Int).length := List.length_append
   simp only [List.length_cons, List.length_nil] at uI
   refine At.act pR (appendR (α := Int) (t := 22) (d := 108) (n := bk.length) (m := 1) (cc := 1) (xs := bk) (ys := [(gI (gL h.mv (i)) (q)) + ((g.ow.length : Nat) : Int)]) (bytes := 8) (by first | rfl | omega | (simp; done) | (simp; omega)) (by first | rfl | omega | (simp; done) | (simp; omega)) (by kernel_rfl) rfl (by kernel_rfl) cK (Bx.srcR (l := ([(gI (gL h.mv (i)) (q)) + ((g.ow.length : Nat) : Int)] : List Int)) mD rfl) (by simp only [List.length_cons, List.length_nil]; omega) (by simp only [List.length_cons, List.length_nil]; omega)) ?_
   rintro d_ v_ mE ⟨rfl, gJ, iV, gS⟩
   obtain rfl := gS.val
   have dX := gS.gr
   refine ⟨_, rfl, fun xZ pS => ?_⟩
   clear pR; clear mD
   have uJ := gS.own (Sx (fT.heap.size) [obk (aO), obk (aW), obk (aC)]) (fun g _ hs => ⟨hs.2.1, hs.2.2.1, hs.2.2.2.1, hs.2.2.2.2⟩) ⟨dD.ne_new, dE.ne_new, jS.ne_new, (show fT.heap.size ≤ pQ.heap.size by omega)⟩
   have := dX.size; replace dU := dU.gr dX (fun k hk => by have := cK.ge k hk; omega); replace eW := eW.gr dX (fun k hk => by have := cK.ge k hk; omega); replace dC := dC.gr dX (fun k hk => by have := cK.ge k hk; omega); replace eX := eX.gr dX (fun k hk => by have := cK.ge k hk; omega); replace dV := dV.gr dX (fun e => by have := cK.ge _ e; omega)
   replace cY := cY.gr dX (fun e => by have := cK.ge _ e; omega)
   replace dD : OwnR mE (Sx (aB.heap.size) [some (cH.heap.size), obk (gJ), some (aA.heap.size), obk (aW), obk (aC)]) aO cI 3 (xo ++ ([gI h.ow (i)]) : List Int) := dD.grA dX (fun k hk => hk.2.1) (fun k hk hs => ⟨hs.1, own_repl gS.at_ hs.2.1 hk, hs.2.2.1, hs.2.2.2.1, hs.2.2.2.2.1, hs.2.2.2.2.2⟩)
   replace dE : OwnR mE (Sx (aB.heap.size) [some (cH.heap.size), obk (gJ), some (aA.heap.size), obk (aO), obk (aC)]) aW fJ 3 (xp ++ ([gI h.pr (i)]) : List Int) := dE.grA dX (fun k hk => hk.2.1) (fun k hk hs => ⟨hs.1, own_repl gS.at_ hs.2.1 hk, hs.2.2.1, hs.2.2.2.1, hs.2.2.2.2.1, hs.2.2.2.2.2⟩)
   replace jS : OwnLL mE (aB.heap.size) [some (cH.heap.size), obk (gJ), some (aA.heap.size), obk (aO), obk (aW)] aC aT 22 3 (xm : List (List Int)) := jS.grA dX (fun k hk => hk.2.1) (fun k hk hs => ⟨hs.1, own_repl gS.at_ hs.2.1 hk, hs.2.2.1, hs.2.2.2.1, hs.2.2.2.2.1, hs.2.2.2.2.2⟩)
   replace dW := dW.gr dX (fun e => by have := cK.ge _ e; omega); replace gR := gR.gr dX (fun k hk => by have := cK.ge k hk; omega); clear cK dX gS
   refine At.rd pS 1 [[]] [(13, .slice gJ ((bk ++ ([(gI (gL h.mv (i)) (q)) + ((g.ow.length : Nat) : Int)])).length) iV)] [] (by kernel_rfl) trivial (fun yA pT => ?_)
   clear pS
   refine At.done rfl ?_
   refine b_n ?_
   refine t_n ?_
   clear gR
   refine At.start ?_
   refine At.rd pT 3 [[], [.as_ (.int .i64 (q + 1))], []] [(14, .int .i64 (q + 1)), (95, .int .i64 (q + 1)), (94, .int .i64 (q))] [((.int .i64 (IntKind.i64.wrap (q + 1)) : Value) = .int .i64 (q + 1))] (by kernel_rfl) ⟨(w64 (by omega) (by omega)), trivial⟩ (fun yB pU => ?_)
   clear pT
   refine At.done rfl ?_
   refine t_n ?_
   have uK := pU.as 13 (.slice gJ ((bk ++ ([(gI (gL h.mv (i)) (q)) + ((g.ow.length : Nat) : Int)])).length) iV) (.slice gJ ((bk ++ ([(gI (gL h.mv (i)) (q)) + ((g.ow.length : Nat) : Int)]) : List Int).length) iV) rfl (slice_len (by first | rfl | omega | (simp; done) | (simp; omega)))
   clear pU
   have uL := uK.sub (r := [(13, .slice gJ ((bk ++ ([(gI (gL h.mv (i)) (q)) + ((g.ow.length : Nat) : Int)]) : List Int).length) iV), (14, .int .i64 (q + 1)), (12, .int .i64 (i)), (11, .pointer (some ⟨aA.heap.size, 0, none⟩)), (10, .int .i64 (((g.ow.length : Nat) : Int))), (4, .bool false), (3, .pointer (some ⟨w1.heap.size, 0, none⟩)), (2, .pointer (some ⟨w.heap.size, 0, none⟩))]) ⟨rfl, rfl, rfl, rfl, rfl, rfl, rfl, rfl, trivial⟩
   exact ⟨_, (by omega), (q + 1), (bk ++ ([(gI (gL h.mv (i)) (q)) + ((g.ow.length : Nat) : Int)]) : List Int), gJ, iV, rfl, uL, dU, eW, dC, eX, dV, cY, (dD.imp (fun g _ hs => ⟨hs.2.1, hs.2.2.1, hs.2.2.2.1, hs.2.2.2.2.1, hs.2.2.2.2.2⟩)), (dE.imp (fun g _ hs => ⟨hs.2.1, hs.2.2.1, hs.2.2.2.1, hs.2.2.2.2.1, hs.2.2.2.2.2⟩)), (jS.imp (fun g _ hs => ⟨hs.2.1, hs.2.2.1, hs.2.2.2.1, hs.2.2.2.2.1, hs.2.2.2.2.2⟩)), dW, uJ, (by omega), (by omega), (lim_push hbk (by omega)), (by omega), (by omega)⟩
  have yC := of_decide_eq_false mA
  refine wp_exit ?_
  refine t_e ?_
  refine t_e ?_
  refine b_e ?_
  refine t_n ?_
  have hxl0_ := congrArg List.length hxo; have hxl1_ := congrArg List.length hxp; have hxl2_ := congrArg List.length hxm
  rw [List.length_append, lim_len] at hxl0_ hxl1_ hxl2_
  have hbe : bk = rowT h ((g.ow.length : Nat) : Int) i := by rw [hbk, rowT]; congr 1; omega
  have hbl_ := congrArg List.length hbe
  rw [rowT_len] at hbl_
  refine At.start ?_
  refine At.rd iU 3 [[], [.ld (.slice aC xm.length aT)], []] [(111, .slice dB bk.length gH), (110, .slice aC xm.length aT), (109, .pointer (some ⟨aA.heap.size, 2, none⟩))] [(cH.cell? ⟨aA.heap.size, 2, none⟩ = some (.slice aC xm.length aT))] (by kernel_rfl) ⟨(dW.cell (i := 2) rfl), trivial⟩ (fun yD pV => ?_)
  clear iU
  refine At.seq pV 1 [[]] [(112, .slice (some ⟨cH.heap.size, 0, none⟩) 1 1)] (cH.alloc (.cells #[.slice dB bk.length gH] 22 (0, 0))) [] (by kernel_rfl) trivial (fun yE jT mF pW => ?_)
  clear pV; have dY := gr_alloc mF; have := dY.size; replace dU := dU.gn dY; replace eW := eW.gn dY; replace dC := dC.gn dY; replace eX := eX.gn dY; replace dV := dV.gn dY; replace cY := cY.gn dY; replace dD := dD.grN dY; replace dE := dE.grN dY; have fU := jN.grN dY; clear jN; replace dW := dW.gn dY; replace cK := cK.grN dY; have mG : Bx jT (cH.heap.size) [.slice dB bk.length gH] 22 := Bx.new mF
  have := mG.lt; clear dY mF
  have pX : OwnR jT (Sx (aB.heap.size) [some (aA.heap.size), obk (aO), obk (aW)]) dB gH 3 (bk : List Int) := cK.imp (fun g _ hs => ⟨(fun e => by have := Sx_base hs; injection e; omega), hs.2.1, hs.2.2.1, (by have := Sx_base hs; show aB.heap.size ≤ g; omega)⟩)
  have pY : OwnLL jT (aB.heap.size) [obk (dB), some (aA.heap.size), obk (aO), obk (aW)] aC aT 22 3 (xm : List (List Int)) := (fU.imp (fun g _ hs => ⟨hs.2.1, hs.2.2.1, hs.2.2.2.1, hs.2.2.2.2.1, hs.2.2.2.2.2⟩))
  have yF : (xm ++ [bk]).length = (xm).length + 1 := by simp
  refine At.act pW (appendLL (t := 23) (d := 113) (n := xm.length) (m := 1) (cc := 1) (ls := xm) (xs := bk) (bytes := 24) (by first | rfl | omega | (simp; done) | (simp; omega)) (by kernel_rfl) (by kernel_rfl) (mG.as (by first | rfl | (simp; done))) pY pX ⟨(fun e => by injection e; omega), dD.ne_new, dE.ne_new, (show aB.heap.size ≤ jT.heap.size by omega)⟩ (by omega) (by omega)) ?_
  rintro d_ v_ pZ ⟨rfl, iW, mH, rfl, fG, mI, mJ⟩
  refine ⟨_, rfl, fun yG qA => ?_⟩
  clear pW; clear mG cK pX pY; have := fG.size; replace dU := dU.gr fG (fun k hk => by have := fU.ge k hk; omega); replace eW := eW.gr fG (fun k hk => by have := fU.ge k hk; omega); replace dC := dC.gr fG (fun k hk => by have := fU.ge k hk; omega); replace eX := eX.gr fG (fun k hk => by have := fU.ge k hk; omega); replace dV := dV.gr fG (fun e => by have := fU.ge _ e; omega)
  replace cY := cY.gr fG (fun e => by have := fU.ge _ e; omega)
  replace dD : OwnR pZ (Sx (aB.heap.size) [some (cH.heap.size), obk (dB), some (aA.heap.size), obk (aW), obk (iW)]) aO cI 3 (xo ++ ([gI h.ow (i)]) : List Int) := dD.grA fG (fun k hk => hk.2.2.2.2.1) (fun k hk hs => ⟨hs.1, hs.2.1, hs.2.2.1, hs.2.2.2.1, own_repl mI hs.2.2.2.2.1 hk, hs.2.2.2.2.2⟩)
  replace dE : OwnR pZ (Sx (aB.heap.size) [some (cH.heap.size), obk (dB), some (aA.heap.size), obk (aO), obk (iW)]) aW fJ 3 (xp ++ ([gI h.pr (i)]) : List Int) := dE.grA fG (fun k hk => hk.2.2.2.2.1) (fun k hk hs => ⟨hs.1, hs.2.1, hs.2.2.1, hs.2.2.2.1, own_repl mI hs.2.2.2.2.1 hk, hs.2.2.2.2.2⟩)
  replace dW := dW.gr fG (fU.neb (fun g hs => hs.2.2.1)); clear fU fG mI
  refine At.rd qA 1 [[]] [(114, .pointer (some ⟨aA.heap.size, 2, none⟩))] [] (by kernel_rfl) trivial (fun yH qB => ?_)
  clear qA
  refine At.store qB (t := 23) (b := aA.heap.size) (off := 2) (v := .slice iW ((xm ++ [bk]).length) mH) (by kernel_rfl) dW (by kernel_rfl) (fun yI uM fH mK qC => ?_)
  clear qB
  replace mK : Bx uM (aA.heap.size) [.slice aO ((xo ++ ([gI h.ow (i)])).length) cI, .slice aW ((xp ++ ([gI h.pr (i)])).length) fJ, .slice iW ((xm ++ [bk]).length) mH] 25 := mK
  have := fH.size; replace dU := dU.gr fH (fun k h => by injection h; omega); replace eW := eW.gb fH (by omega); replace dC := dC.gb fH (by omega); replace eX := eX.gb fH (by omega); replace dV := dV.gb fH (by omega); replace cY := cY.gb fH (by omega); replace dD := dD.gr fH (fun k hk => hk.2.2.1); replace dE := dE.gr fH (fun k hk => hk.2.2.1); replace mJ := mJ.gr fH (fun k hk => hk.1); clear dW fH
  refine At.done rfl ?_
  refine b_n ?_
  refine t_n ?_
  refine At.start ?_
  refine At.rd qC 3 [[], [.as_ (.int .i64 (i + 1))], []] [(12, .int .i64 (i + 1)), (65, .int .i64 (i + 1)), (64, .int .i64 (i))] [((.int .i64 (IntKind.i64.wrap (i + 1)) : Value) = .int .i64 (i + 1))] (by kernel_rfl) ⟨(w64 (by omega) (by omega)), trivial⟩ (fun yJ uN => ?_)
  clear qC
  refine At.done rfl ?_
  refine t_n ?_
  have uO := uN.sub (r := [(12, .int .i64 (i + 1)), (11, .pointer (some ⟨aA.heap.size, 0, none⟩)), (10, .int .i64 (((g.ow.length : Nat) : Int))), (4, .bool false), (3, .pointer (some ⟨w1.heap.size, 0, none⟩)), (2, .pointer (some ⟨w.heap.size, 0, none⟩))]) ⟨rfl, rfl, rfl, rfl, rfl, rfl, trivial⟩
  exact ⟨_, (by omega), (i + 1), (xo ++ ([gI h.ow (i)]) : List Int), aO, cI, (xp ++ ([gI h.pr (i)]) : List Int), aW, fJ, (xm ++ [bk] : List (List Int)), iW, mH, rfl, uO, dU, eW, dC, eX, dV, cY, (dD.imp (fun g _ hs => ⟨hs.2.2.1, hs.2.2.2.1, hs.2.2.2.2.1, hs.2.2.2.2.2⟩)), (dE.imp (fun g _ hs => ⟨hs.2.2.1, hs.2.2.2.1, hs.2.2.2.2.1, hs.2.2.2.2.2⟩)), mJ, mK, (by omega), (by omega), (two_push hxo (by omega) rfl), (two_push hxp (by omega) rfl), (two_push hxm (by omega) hbe), (by omega)⟩
 have yK := of_decide_eq_false kS
 refine wp_exit ?_
 refine t_e ?_
 refine t_e ?_
 refine b_e ?_
 refine t_n ?_
 refine wp_seq ?_
 have hxl0_ := congrArg List.length hxo; have hxl1_ := congrArg List.length hxp; have hxl2_ := congrArg List.length hxm
 rw [List.length_append, lim_len] at hxl0_ hxl1_ hxl2_
 have hTT := two_t hxo hxp hxm (by omega); have hipx := two_inner hR hR2 (two_at hR hTT)
 refine At.start ?_
 refine At.rd hP 1 [[.ld (.slice Ag0 g.ow.length cg0), .ld (.slice Ag1 g.pr.length cg1), .ld (.slice Ag2 g.mv.length cg2)]] [(116, .agg #[.slice Ag0 g.ow.length cg0, .slice Ag1 g.pr.length cg1, .slice Ag2 g.mv.length cg2])] [(bZ.cell? ⟨w.heap.size, 0, none⟩ = some (.slice Ag0 g.ow.length cg0)), (bZ.cell? ⟨w.heap.size, 1, none⟩ = some (.slice Ag1 g.pr.length cg1)), (bZ.cell? ⟨w.heap.size, 2, none⟩ = some (.slice Ag2 g.mv.length cg2))] (by kernel_rfl) ⟨(aQ.cell (i := 0) rfl), (aQ.cell (i := 1) rfl), (aQ.cell (i := 2) rfl), trivial⟩ (fun yL qD => ?_)
 clear hP
 refine At.call qD 16 #[.agg #[.slice Ag0 g.ow.length cg0, .slice Ag1 g.pr.length cg1, .slice Ag2 g.mv.length cg2]] (some 117) (by kernel_rfl) (solve_any (g := g) (aI.wide (Nat.zero_le _) (by omega)) (aE.wide (Nat.zero_le _) (by omega))) ?_
 rintro e_ aL ⟨eY, fK, eZ, fL, fV, hV, fW, hW, la, lb, ma, mb, da, rfl, he, qE, qF, qG, qH, hsA⟩
 have hln_hsA := solve_lens hsA; have aZ : RdI aL (bZ.heap.size) aL.heap.size eY la := (OwnR.rdR qE (by show _ * 8 ≤ _; omega)).rdI; clear qE; have bB : RdI aL (bZ.heap.size) aL.heap.size eZ lb := (OwnR.rdR qF (by show _ * 8 ≤ _; omega)).rdI; clear qF; have bC : RdI aL (bZ.heap.size) aL.heap.size fV ma := (OwnR.rdR qG (by show _ * 8 ≤ _; omega)).rdI; clear qG
 have bD : RdI aL (bZ.heap.size) aL.heap.size fW mb := (OwnR.rdR qH (by show _ * 8 ≤ _; omega)).rdI; clear qH
 refine ⟨_, rfl, _, rfl, fun yM qI => ?_⟩
 clear qD; have fA := gr_ext he; have := fA.size; replace aH := aH.gn fA; replace aI := aI.gn fA; replace aG := aG.gn fA; replace aE := aE.gn fA; replace aQ := aQ.gn fA; replace aN := aN.gn fA; replace aD := aD.gn fA; replace aJ := aJ.gn fA; have bY := iL.gn fA; clear iL; replace aK := aK.gn fA; clear fA he
 refine At.rd qI 3 [[], [], []] [(119, .int .i64 (da)), (118, .agg #[.slice eY la.length fK, .slice eZ lb.length fL, .slice fV ma.length hV, .slice fW mb.length hW]), (115, .tuple #[.agg #[.slice eY la.length fK, .slice eZ lb.length fL, .slice fV ma.length hV, .slice fW mb.length hW], .int .i64 (da)])] [] (by kernel_rfl) trivial (fun yN qJ => ?_)
 clear qI
 refine At.seq qJ 1 [[]] [(15, .pointer (some ⟨aL.heap.size, 0, none⟩))] (aL.alloc (.cells #[.slice none 0 0, .slice none 0 0, .slice none 0 0, .slice none 0 0] 32 (0, 0))) [] (by kernel_rfl) trivial (fun yO uP mL qK => ?_)
 clear qJ; have cL := gr_alloc mL; have := cL.size; replace aH := aH.gn cL; replace aI := aI.gn cL; replace aG := aG.gn cL; replace aE := aE.gn cL; replace aQ := aQ.gn cL; replace aN := aN.gn cL; replace aD := aD.grN cL; replace aJ := aJ.grN cL; replace bY := bY.grN cL; replace aK := aK.gn cL; replace aZ := aZ.gn cL; replace bB := bB.gn cL; replace bC := bC.gn cL; replace bD := bD.gn cL
 have mM : Bx uP (aL.heap.size) [.slice none 0 0, .slice none 0 0, .slice none 0 0, .slice none 0 0] 32 := Bx.new mL; have := mM.lt; clear cL mL
 refine At.store qK (t := 32) (b := aL.heap.size) (off := 0) (v := .agg #[.slice eY la.length fK, .slice eZ lb.length fL, .slice fV ma.length hV, .slice fW mb.length hW]) (by kernel_rfl) mM (by kernel_rfl) (fun yP cM cN bI qL => ?_)
 clear qK; replace bI : Bx cM (aL.heap.size) [.slice eY la.length fK, .slice eZ lb.length fL, .slice fV ma.length hV, .slice fW mb.length hW] 32 := bI; have := cN.size; replace aH := aH.gr cN (fun k h => by injection h; omega); replace aI := aI.gb cN (by omega); replace aG := aG.gb cN (by omega); replace aE := aE.gb cN (by omega); replace aQ := aQ.gb cN (by omega); replace aN := aN.gb cN (by omega)
 replace aD := aD.gr cN (fun k hk => hk.1); replace aJ := aJ.gr cN (fun k hk => hk.1); replace bY := bY.gr cN (fun k hk => hk.1); replace aK := aK.gb cN (by omega); replace aZ := aZ.gb cN (by omega); replace bB := bB.gb cN (by omega); replace bC := bC.gb cN (by omega); replace bD := bD.gb cN (by omega); clear mM cN
 refine At.rd qL 1 [[]] [(16, .int .i64 (da))] [] (by kernel_rfl) trivial (fun yQ qM => ?_)
 clear qL
 refine At.done rfl ?_
 refine t_n ?_
 clear aQ
 refine wp_seq ?_
 refine At.start ?_
 refine At.rd qM 1 [[.ld (.slice Ah0 h.ow.length ch0), .ld (.slice Ah1 h.pr.length ch1), .ld (.slice Ah2 h.mv.length ch2)]] [(121, .agg #[.slice Ah0 h.ow.length ch0, .slice Ah1 h.pr.length ch1, .slice Ah2 h.mv.length ch2])] [(cM.cell? ⟨w1.heap.size, 0, none⟩ = some (.slice Ah0 h.ow.length ch0)), (cM.cell? ⟨w1.heap.size, 1, none⟩ = some (.slice Ah1 h.pr.length ch1)), (cM.cell? ⟨w1.heap.size, 2, none⟩ = some (.slice Ah2 h.mv.length ch2))] (by kernel_rfl) ⟨(aN.cell (i := 0) rfl), (aN.cell (i := 1) rfl), (aN.cell (i := 2) rfl), trivial⟩ (fun yR qN => ?_)
 clear qM
 refine At.call qN 16 #[.agg #[.slice Ah0 h.ow.length ch0, .slice Ah1 h.pr.length ch1, .slice Ah2 h.mv.length ch2]] (some 122) (by kernel_rfl) (solve_any (g := h) (aG.wide (Nat.zero_le _) (by omega)) (aE.wide (Nat.zero_le _) (by omega))) ?_
 rintro e_ aF ⟨cO, fB, cP, fC, fX, hX, fY, hY, lc, ld, mc, md, db, rfl, he, qO, qP, qQ, qR, hsB⟩
 have hln_hsB := solve_lens hsB; have cQ : RdI aF (cM.heap.size) aF.heap.size cO lc := (OwnR.rdR qO (by show _ * 8 ≤ _; omega)).rdI; clear qO; have cR : RdI aF (cM.heap.size) aF.heap.size cP ld := (OwnR.rdR qP (by show _ * 8 ≤ _; omega)).rdI; clear qP; have cS : RdI aF (cM.heap.size) aF.heap.size fX mc := (OwnR.rdR qQ (by show _ * 8 ≤ _; omega)).rdI; clear qQ
 have cT : RdI aF (cM.heap.size) aF.heap.size fY md := (OwnR.rdR qR (by show _ * 8 ≤ _; omega)).rdI; clear qR
 refine ⟨_, rfl, _, rfl, fun yS qS => ?_⟩
 clear qN; have cU := gr_ext he; have := cU.size; replace aH := aH.gn cU; replace aI := aI.gn cU; replace aG := aG.gn cU; replace aE := aE.gn cU; replace aN := aN.gn cU; replace aD := aD.gn cU; replace aJ := aJ.gn cU; replace bY := bY.gn cU; replace aK := aK.gn cU; replace aZ := aZ.gn cU; replace bB := bB.gn cU; replace bC := bC.gn cU; replace bD := bD.gn cU; replace bI := bI.gn cU; clear cU he
 refine At.rd qS 3 [[], [], []] [(124, .int .i64 (db)), (123, .agg #[.slice cO lc.length fB, .slice cP ld.length fC, .slice fX mc.length hX, .slice fY md.length hY]), (120, .tuple #[.agg #[.slice cO lc.length fB, .slice cP ld.length fC, .slice fX mc.length hX, .slice fY md.length hY], .int .i64 (db)])] [] (by kernel_rfl) trivial (fun yT qT => ?_)
 clear qS
 refine At.seq qT 1 [[]] [(17, .pointer (some ⟨aF.heap.size, 0, none⟩))] (aF.alloc (.cells #[.slice none 0 0, .slice none 0 0, .slice none 0 0, .slice none 0 0] 32 (0, 0))) [] (by kernel_rfl) trivial (fun yU uQ mN qU => ?_)
 clear qT; have bR := gr_alloc mN; have := bR.size; replace aH := aH.gn bR; replace aI := aI.gn bR; replace aG := aG.gn bR; replace aE := aE.gn bR; replace aN := aN.gn bR; replace aD := aD.grN bR; replace aJ := aJ.grN bR; replace bY := bY.grN bR; replace aK := aK.gn bR; replace aZ := aZ.gn bR; replace bB := bB.gn bR; replace bC := bC.gn bR; replace bD := bD.gn bR; replace bI := bI.gn bR
 replace cQ := cQ.gn bR; replace cR := cR.gn bR; replace cS := cS.gn bR; replace cT := cT.gn bR; have mO : Bx uQ (aF.heap.size) [.slice none 0 0, .slice none 0 0, .slice none 0 0, .slice none 0 0] 32 := Bx.new mN; have := mO.lt; clear bR mN
 refine At.store qU (t := 32) (b := aF.heap.size) (off := 0) (v := .agg #[.slice cO lc.length fB, .slice cP ld.length fC, .slice fX mc.length hX, .slice fY md.length hY]) (by kernel_rfl) mO (by kernel_rfl) (fun yV cV bS dG qV => ?_)
 clear qU; replace dG : Bx cV (aF.heap.size) [.slice cO lc.length fB, .slice cP ld.length fC, .slice fX mc.length hX, .slice fY md.length hY] 32 := dG; have := bS.size; replace aH := aH.gr bS (fun k h => by injection h; omega); replace aI := aI.gb bS (by omega); replace aG := aG.gb bS (by omega); replace aE := aE.gb bS (by omega); replace aN := aN.gb bS (by omega)
 replace aD := aD.gr bS (fun k hk => hk.1); replace aJ := aJ.gr bS (fun k hk => hk.1); replace bY := bY.gr bS (fun k hk => hk.1); replace aK := aK.gb bS (by omega); replace aZ := aZ.gb bS (by omega); replace bB := bB.gb bS (by omega); replace bC := bC.gb bS (by omega); replace bD := bD.gb bS (by omega); replace bI := bI.gb bS (by omega); replace cQ := cQ.gb bS (by omega)
 replace cR := cR.gb bS (by omega); replace cS := cS.gb bS (by omega); replace cT := cT.gb bS (by omega); clear mO bS
 refine At.rd qV 1 [[]] [(18, .int .i64 (db))] [] (by kernel_rfl) trivial (fun yW qW => ?_)
 clear qV
 refine At.done rfl ?_
 refine t_n ?_
 clear aN
 refine wp_seq ?_
 refine At.start ?_
 refine At.rd qW 1 [[.ld (.slice cX xo.length dL), .ld (.slice aS xp.length bU), .ld (.slice aC xm.length aT)]] [(126, .agg #[.slice cX xo.length dL, .slice aS xp.length bU, .slice aC xm.length aT])] [(cV.cell? ⟨aA.heap.size, 0, none⟩ = some (.slice cX xo.length dL)), (cV.cell? ⟨aA.heap.size, 1, none⟩ = some (.slice aS xp.length bU)), (cV.cell? ⟨aA.heap.size, 2, none⟩ = some (.slice aC xm.length aT))] (by kernel_rfl) ⟨(aK.cell (i := 0) rfl), (aK.cell (i := 1) rfl), (aK.cell (i := 2) rfl), trivial⟩ (fun yX qX => ?_)
 clear qW
 refine At.call qX 16 #[.agg #[.slice cX xo.length dL, .slice aS xp.length bU, .slice aC xm.length aT]] (some 127) (by kernel_rfl) (solve_any (g := (⟨xo, xp, xm⟩ : GameL)) (RdG.mk (G := (⟨xo, xp, xm⟩ : GameL)) (aD.rdI0 (by first | omega | (simp only [List.length_cons, List.length_nil]; omega) | (simp; done) | (simp; omega))) (aJ.rdI0 (by first | omega | (simp only [List.length_cons, List.length_nil]; omega) | (simp; done) | (simp; omega))) (bY.rdII0 (by first | omega | (simp only [List.length_cons, List.length_nil]; omega) | (simp; done) | (simp; omega)) (by assumption)) aD.cap aJ.cap bY.cap) (aE.wide (Nat.zero_le _) (by omega))) ?_
 rintro e_ aM ⟨dZ, fM, eA, fN, fZ, hZ, gA, iA, le, lf, me, mf, dc, rfl, he, qY, qZ, rA, rB, hsC⟩
 have hln_hsC := solve_lens hsC; have fO : RdI aM (cV.heap.size) aM.heap.size dZ le := (OwnR.rdR qY (by show _ * 8 ≤ _; omega)).rdI; clear qY; have fP : RdI aM (cV.heap.size) aM.heap.size eA lf := (OwnR.rdR qZ (by show _ * 8 ≤ _; omega)).rdI; clear qZ; have fQ : RdI aM (cV.heap.size) aM.heap.size fZ me := (OwnR.rdR rA (by show _ * 8 ≤ _; omega)).rdI; clear rA
 have fR : RdI aM (cV.heap.size) aM.heap.size gA mf := (OwnR.rdR rB (by show _ * 8 ≤ _; omega)).rdI; clear rB
 refine ⟨_, rfl, _, rfl, fun yY rC => ?_⟩
 clear qX; have bT := gr_ext he; have := bT.size; replace aH := aH.gn bT; replace aI := aI.gn bT; replace aG := aG.gn bT; replace aE := aE.gn bT; replace aD := aD.gn bT; replace aJ := aJ.gn bT; replace bY := bY.gn bT; replace aK := aK.gn bT; replace aZ := aZ.gn bT; replace bB := bB.gn bT; replace bC := bC.gn bT; replace bD := bD.gn bT; replace bI := bI.gn bT; replace cQ := cQ.gn bT
 replace cR := cR.gn bT; replace cS := cS.gn bT; replace cT := cT.gn bT; replace dG := dG.gn bT; clear bT he
 refine At.rd rC 3 [[], [], []] [(129, .int .i64 (dc)), (128, .agg #[.slice dZ le.length fM, .slice eA lf.length fN, .slice fZ me.length hZ, .slice gA mf.length iA]), (125, .tuple #[.agg #[.slice dZ le.length fM, .slice eA lf.length fN, .slice fZ me.length hZ, .slice gA mf.length iA], .int .i64 (dc)])] [] (by kernel_rfl) trivial (fun yZ rD => ?_)
 clear rC
 refine At.seq rD 1 [[]] [(19, .pointer (some ⟨aM.heap.size, 0, none⟩))] (aM.alloc (.cells #[.slice none 0 0, .slice none 0 0, .slice none 0 0, .slice none 0 0] 32 (0, 0))) [] (by kernel_rfl) trivial (fun zA uR mP rE => ?_)
 clear rD; have aX := gr_alloc mP; have := aX.size; replace aH := aH.gn aX; replace aI := aI.gn aX; replace aG := aG.gn aX; replace aE := aE.gn aX; replace aD := aD.grN aX; replace aJ := aJ.grN aX; replace bY := bY.grN aX; replace aK := aK.gn aX; replace aZ := aZ.gn aX; replace bB := bB.gn aX; replace bC := bC.gn aX; replace bD := bD.gn aX; replace bI := bI.gn aX; replace cQ := cQ.gn aX
 replace cR := cR.gn aX; replace cS := cS.gn aX; replace cT := cT.gn aX; replace dG := dG.gn aX; replace fO := fO.gn aX; replace fP := fP.gn aX; replace fQ := fQ.gn aX; replace fR := fR.gn aX; have mQ : Bx uR (aM.heap.size) [.slice none 0 0, .slice none 0 0, .slice none 0 0, .slice none 0 0] 32 := Bx.new mP; have := mQ.lt; clear aX mP
 refine At.store rE (t := 32) (b := aM.heap.size) (off := 0) (v := .agg #[.slice dZ le.length fM, .slice eA lf.length fN, .slice fZ me.length hZ, .slice gA mf.length iA]) (by kernel_rfl) mQ (by kernel_rfl) (fun zB eB aY gK rF => ?_)
 clear rE; replace gK : Bx eB (aM.heap.size) [.slice dZ le.length fM, .slice eA lf.length fN, .slice fZ me.length hZ, .slice gA mf.length iA] 32 := gK; have := aY.size; replace aH := aH.gr aY (fun k h => by injection h; omega); replace aI := aI.gb aY (by omega); replace aG := aG.gb aY (by omega); replace aE := aE.gb aY (by omega); replace aD := aD.gr aY (fun k hk => hk.1)
 replace aJ := aJ.gr aY (fun k hk => hk.1); replace bY := bY.gr aY (fun k hk => hk.1); replace aK := aK.gb aY (by omega); replace aZ := aZ.gb aY (by omega); replace bB := bB.gb aY (by omega); replace bC := bC.gb aY (by omega); replace bD := bD.gb aY (by omega); replace bI := bI.gb aY (by omega); replace cQ := cQ.gb aY (by omega); replace cR := cR.gb aY (by omega); replace cS := cS.gb aY (by omega)
 replace cT := cT.gb aY (by omega); replace dG := dG.gb aY (by omega); replace fO := fO.gb aY (by omega); replace fP := fP.gb aY (by omega); replace fQ := fQ.gb aY (by omega); replace fR := fR.gb aY (by omega); clear mQ aY
 refine At.rd rF 1 [[]] [(20, .int .i64 (dc))] [] (by kernel_rfl) trivial (fun zC rG => ?_)
 clear rF
 refine At.done rfl ?_
 refine t_n ?_
 clear aD; clear aJ; clear bY; clear aK
 refine wp_seq ?_
 refine wp_seq ?_
 refine At.start ?_
 refine At.rd rG 1 [[]] [(21, .int .i64 (0))] [] (by kernel_rfl) trivial (fun zD rH => ?_)
 clear rG
 refine At.done rfl ?_
 refine t_n ?_
 refine wp_block ?_
 have rI := rH.sub (r := [(21, .int .i64 (0)), (19, .pointer (some ⟨aM.heap.size, 0, none⟩)), (17, .pointer (some ⟨aF.heap.size, 0, none⟩)), (15, .pointer (some ⟨aL.heap.size, 0, none⟩)), (10, .int .i64 (((g.ow.length : Nat) : Int))), (4, .bool false)]) ⟨rfl, rfl, rfl, rfl, rfl, rfl, trivial⟩
 clear rH
 refine loop_u0 ?_
 refine loop_u ?_
 refine wp_seq ?_
 refine wp_seq ?_
 refine At.start ?_
 refine At.rd rI 2 [[], [.as_ (.bool true)]] [(131, .bool true), (130, .int .i64 (0))] [((.bool (decide ((0 : Int) < 2)) : Value) = .bool true)] (by kernel_rfl) ⟨(by kernel_rfl), trivial⟩ (fun zE mR => ?_)
 clear rI
 refine At.done rfl ?_
 refine t_n ?_
 refine cond_T mR rfl ?_
 refine wp_skip ?_
 refine t_n ?_
 refine wp_seq ?_
 refine wp_block ?_
 refine wp_seq ?_
 refine At.start ?_
 refine At.seq mR 1 [[]] [(134, .slice (some ⟨eB.heap.size, 0, none⟩) 0 0)] (eB.alloc (.cells #[] 3 (0, 0))) [] (by kernel_rfl) trivial (fun zF jU mS rJ => ?_)
 clear mR; have bJ := gr_alloc mS; have := bJ.size; replace aH := aH.gn bJ; replace aI := aI.gn bJ; replace aG := aG.gn bJ; replace aE := aE.gn bJ; replace aZ := aZ.gn bJ; replace bB := bB.gn bJ; replace bC := bC.gn bJ; replace bD := bD.gn bJ; replace bI := bI.gn bJ; replace cQ := cQ.gn bJ; replace cR := cR.gn bJ; replace cS := cS.gn bJ; replace cT := cT.gn bJ; replace dG := dG.gn bJ
 replace fO := fO.gn bJ; replace fP := fP.gn bJ; replace fQ := fQ.gn bJ; replace fR := fR.gn bJ; replace gK := gK.gn bJ; have mT : Bx jU (eB.heap.size) [] 3 := Bx.new mS; have := mT.lt; clear bJ mS
 refine At.rd rJ 4 [[], [], [], [.ld (.slice eY la.length fK)]] [(138, .slice eY la.length fK), (137, .pointer (some ⟨aL.heap.size, 0, none⟩)), (136, .pointer (some ⟨aL.heap.size, 0, none⟩)), (135, .int .i64 (0))] [(0 ≤ (0 : Int)), ((0 : Int) < (2 : Nat)), (jU.cell? ⟨aL.heap.size, 0, none⟩ = some (.slice eY la.length fK))] (by kernel_rfl) ⟨(by decide), (by decide), (bI.cell (i := 0) rfl), trivial⟩ (fun zG rK => ?_)
 clear rJ; have bK : OwnR jU (Sx (eB.heap.size) []) (some ⟨eB.heap.size, 0, none⟩) 0 3 ([] : List Int) := Bx.own0 mT (Nat.le_refl _); clear mT; have uS : (([] : List Int) ++ la).length = (([] : List Int)).length + (la : List Int).length := List.length_append
 simp only [List.length_cons, List.length_nil] at uS
 refine At.act rK (appendR (α := Int) (t := 22) (d := 139) (n := 0) (m := la.length) (cc := fK) (xs := []) (ys := la) (bytes := 8) (by first | rfl | omega | (simp; done) | (simp; omega)) (by first | rfl | omega | (simp; done) | (simp; omega)) (by kernel_rfl) rfl (by kernel_rfl) bK aZ.srcR (by simp only [List.length_cons, List.length_nil]; omega) (by simp only [List.length_cons, List.length_nil]; omega)) ?_
 rintro d_ v_ uT ⟨rfl, iB, iC, jV⟩
 obtain rfl := jV.val
 have bL := jV.gr
 refine ⟨_, rfl, fun zH rL => ?_⟩
 clear rK; have jW := jV.own (Sx (eB.heap.size) []) (fun g _ hs => hs) (show eB.heap.size ≤ jU.heap.size by omega); have := bL.size; replace aH := aH.gr bL (fun k hk => by have := bK.ge k hk; omega); replace aI := aI.gr bL (fun k hk => by have := bK.ge k hk; omega); replace aG := aG.gr bL (fun k hk => by have := bK.ge k hk; omega); replace aE := aE.gr bL (fun k hk => by have := bK.ge k hk; omega)
 replace aZ := aZ.gr bL (fun k hk => by have := bK.ge k hk; omega); replace bB := bB.gr bL (fun k hk => by have := bK.ge k hk; omega); replace bC := bC.gr bL (fun k hk => by have := bK.ge k hk; omega); replace bD := bD.gr bL (fun k hk => by have := bK.ge k hk; omega); replace bI := bI.gr bL (fun e => by have := bK.ge _ e; omega); replace cQ := cQ.gr bL (fun k hk => by have := bK.ge k hk; omega)
 replace cR := cR.gr bL (fun k hk => by have := bK.ge k hk; omega); replace cS := cS.gr bL (fun k hk => by have := bK.ge k hk; omega); replace cT := cT.gr bL (fun k hk => by have := bK.ge k hk; omega); replace dG := dG.gr bL (fun e => by have := bK.ge _ e; omega); replace fO := fO.gr bL (fun k hk => by have := bK.ge k hk; omega); replace fP := fP.gr bL (fun k hk => by have := bK.ge k hk; omega)
 replace fQ := fQ.gr bL (fun k hk => by have := bK.ge k hk; omega); replace fR := fR.gr bL (fun k hk => by have := bK.ge k hk; omega); replace gK := gK.gr bL (fun e => by have := bK.ge _ e; omega); clear bK bL jV; replace jW : OwnR uT (Sx (eB.heap.size) []) iB iC 3 (la : List Int) := jW
 refine At.rd rL 1 [[]] [(22, .slice iB ((([] : List Int) ++ la).length) iC)] [] (by kernel_rfl) trivial (fun zI rM => ?_)
 clear rL
 refine At.done rfl ?_
 refine t_n ?_
 refine wp_seq ?_
 refine wp_seq ?_
 refine At.start ?_
 refine At.rd rM 1 [[]] [(23, .int .i64 (0))] [] (by kernel_rfl) trivial (fun zJ rN => ?_)
 clear rM
 refine At.done rfl ?_
 refine t_n ?_
 refine wp_block ?_
 have rO := rN.as 22 (.slice iB ((([] : List Int) ++ la).length) iC) (.slice iB ((la : List Int).length) iC) rfl (slice_len (by first | rfl | omega | (simp; done) | (simp; omega)))
 clear rN
 have rP := rO.sub (r := [(22, .slice iB ((la : List Int).length) iC), (23, .int .i64 (0)), (21, .int .i64 (0)), (19, .pointer (some ⟨aM.heap.size, 0, none⟩)), (17, .pointer (some ⟨aF.heap.size, 0, none⟩)), (15, .pointer (some ⟨aL.heap.size, 0, none⟩)), (10, .int .i64 (((g.ow.length : Nat) : Int))), (4, .bool false)]) ⟨rfl, rfl, rfl, rfl, rfl, rfl, rfl, rfl, trivial⟩
 refine loop_g (fun (m_ : Nat) a_ w_ => ∃ (k0 : Int) (wt0 : List Int) (iD : Option Addr) (iE : Nat), m_ = ((lc.length : Int) - k0).toNat ∧ (Frm 168 a_ [(22, .slice iD wt0.length iE), (23, .int .i64 (k0)), (21, .int .i64 (0)), (19, .pointer (some ⟨aM.heap.size, 0, none⟩)), (17, .pointer (some ⟨aF.heap.size, 0, none⟩)), (15, .pointer (some ⟨aL.heap.size, 0, none⟩)), (10, .int .i64 (((g.ow.length : Nat) : Int))), (4, .bool false)]) ∧ (Ext w w_) ∧ (RdG w_ 0 w.heap.size Ag0 Ag1 Ag2 cg0 cg1 cg2 g) ∧ (RdG w_ 0 w.heap.size Ah0 Ah1 Ah2 ch0 ch1 ch2 h) ∧ (RdT w_ 0 w.heap.size) ∧ (RdI w_ (bZ.heap.size) aL.heap.size eY la) ∧ (RdI w_ (bZ.heap.size) aL.heap.size eZ lb) ∧ (RdI w_ (bZ.heap.size) aL.heap.size fV ma) ∧ (RdI w_ (bZ.heap.size) aL.heap.size fW mb) ∧ (Bx w_ (aL.heap.size) [.slice eY la.length fK, .slice eZ lb.length fL, .slice fV ma.length hV, .slice fW mb.length hW] 32) ∧ (RdI w_ (cM.heap.size) aF.heap.size cO lc) ∧ (RdI w_ (cM.heap.size) aF.heap.size cP ld) ∧ (RdI w_ (cM.heap.size) aF.heap.size fX mc) ∧ (RdI w_ (cM.heap.size) aF.heap.size fY md) ∧ (Bx w_ (aF.heap.size) [.slice cO lc.length fB, .slice cP ld.length fC, .slice fX mc.length hX, .slice fY md.length hY] 32) ∧ (RdI w_ (cV.heap.size) aM.heap.size dZ le) ∧ (RdI w_ (cV.heap.size) aM.heap.size eA lf) ∧ (RdI w_ (cV.heap.size) aM.heap.size fZ me) ∧ (RdI w_ (cV.heap.size) aM.heap.size gA mf) ∧ (Bx w_ (aM.heap.size) [.slice dZ le.length fM, .slice eA lf.length fN, .slice fZ me.length hZ, .slice gA mf.length iA] 32) ∧ (OwnR w_ (Sx (eB.heap.size) []) iD iE 3 (wt0 : List Int)) ∧ (0 ≤ k0) ∧ (k0 ≤ (lc.length : Int)) ∧ (wt0 = la ++ limL (fun z => gI lc z + ((g.ow.length : Nat) : Int)) k0) ∧ (eB.heap.size ≤ w_.heap.size)) _ ⟨0, (la : List Int), iB, iC, rfl, rP, aH, aI, aG, aE, aZ, bB, bC, bD, bI, cQ, cR, cS, cT, dG, fO, fP, fQ, fR, gK, jW, (by omega), (by omega), (by first | exact (List.append_nil _).symm | simp [limL]), (by omega)⟩ ?_
 clear rP rO; clear aI; clear aG; clear aE; clear aZ; clear bB; clear bC; clear bD; clear bI; clear cQ; clear cR; clear cS; clear cT; clear dG; clear fO; clear fP; clear fQ; clear fR; clear gK; clear jW; clear aH
 intro m_ zK gT ⟨k0, wt0, iD, iE, hm1009, rQ, dH, eC, eD, eE, eF, dI, eG, eH, cZ, dJ, eI, eJ, eK, cW, dK, eL, eM, eN, dA, aU, i1030, i1031, hwt0, i1032⟩
 have := dH.size; have := cZ.lt; have := cW.lt; have := dA.lt
 refine wp_seq ?_
 refine wp_seq ?_
 refine At.start ?_
 refine At.rd rQ 7 [[], [], [], [], [.ld (.slice cO lc.length fB)], [], []] [(146, .bool (decide ((k0 : Int) < ((lc.length : Nat) : Int)))), (145, .int .i64 (((lc.length : Nat) : Int))), (144, .slice cO lc.length fB), (143, .pointer (some ⟨aF.heap.size, 0, none⟩)), (142, .pointer (some ⟨aF.heap.size, 0, none⟩)), (141, .int .i64 (0)), (140, .int .i64 (k0))] [(0 ≤ (0 : Int)), ((0 : Int) < (2 : Nat)), (gT.cell? ⟨aF.heap.size, 0, none⟩ = some (.slice cO lc.length fB))] (by kernel_rfl) ⟨(by decide), (by decide), (cW.cell (i := 0) rfl), trivial⟩ (fun zL iX => ?_)
 clear rQ
 refine At.done rfl ?_
 refine t_n ?_
 refine cond_S iX (t := decide ((k0 : Int) < ((lc.length : Nat) : Int))) rfl (fun mU => ?_) (fun mU => ?_)
 ·have zM := of_decide_eq_true mU
  refine wp_skip ?_
  refine t_n ?_
  refine wp_seq ?_
  refine wp_block ?_
  first | (have hrg_ := (solve_rg hR2 hsB).2 k1 (by omega) (by omega)) | (have hrg_ := (solve_rg hR2 hsB).1 k0 (by omega) (by omega))
  first | (have hwl_ := congrArg List.length hwt1) | (have hwl_ := congrArg List.length hwt0)
  rw [List.length_append, lim_len] at hwl_
  refine At.start ?_
  obtain ⟨jX, uU, _, _, uV⟩ := RdI.get dJ (k0) (by omega) (by omega)
  refine At.rd iX 10 [[], [], [], [], [.ld (.slice cO lc.length fB)], [], [.ad jX], [.ld (.int .i64 (gI lc (k0)))], [], [.as_ (.int .i64 ((gI lc (k0)) + ((g.ow.length : Nat) : Int)))]] [(158, .int .i64 ((gI lc (k0)) + ((g.ow.length : Nat) : Int))), (157, .int .i64 (((g.ow.length : Nat) : Int))), (156, .int .i64 (gI lc (k0))), (155, .pointer (some (jX.add ((k0 : Int).toNat * 1)))), (154, .int .i64 (k0)), (153, .slice cO lc.length fB), (152, .pointer (some ⟨aF.heap.size, 0, none⟩)), (151, .pointer (some ⟨aF.heap.size, 0, none⟩)), (150, .int .i64 (0)), (149, .slice iD wt0.length iE)] [(0 ≤ (0 : Int)), ((0 : Int) < (2 : Nat)), (gT.cell? ⟨aF.heap.size, 0, none⟩ = some (.slice cO lc.length fB)), (cO = some jX), (0 ≤ (k0 : Int)), ((k0 : Int) < (lc.length : Nat)), (gT.cell? (jX.add ((k0 : Int).toNat * 1)) = some (.int .i64 (gI lc (k0)))), ((.int .i64 (IntKind.i64.wrap ((gI lc (k0)) + ((g.ow.length : Nat) : Int))) : Value) = .int .i64 ((gI lc (k0)) + ((g.ow.length : Nat) : Int)))] (by kernel_rfl) ⟨(by decide), (by decide), (cW.cell (i := 0) rfl), uU, (by omega), (by omega), uV, (w64 (by omega) (by omega)), trivial⟩ (fun zN rR => ?_)
  clear iX
  refine At.seq rR 1 [[]] [(159, .slice (some ⟨gT.heap.size, 0, none⟩) 1 1)] (gT.alloc (.cells #[.int .i64 ((gI lc (k0)) + ((g.ow.length : Nat) : Int))] 3 (0, 0))) [] (by kernel_rfl) trivial (fun zO rS mV rU => ?_)
  clear rR; have bE := gr_alloc mV; have := bE.size; replace dH := dH.gn bE; replace eC := eC.gn bE; replace eD := eD.gn bE; replace eE := eE.gn bE; replace eF := eF.gn bE; replace dI := dI.gn bE; replace eG := eG.gn bE; replace eH := eH.gn bE; replace cZ := cZ.gn bE; replace dJ := dJ.gn bE; replace eI := eI.gn bE; replace eJ := eJ.gn bE; replace eK := eK.gn bE; replace cW := cW.gn bE
  replace dK := dK.gn bE; replace eL := eL.gn bE; replace eM := eM.gn bE; replace eN := eN.gn bE; replace dA := dA.gn bE; replace aU := aU.grN bE; have mW : Bx rS (gT.heap.size) [.int .i64 ((gI lc (k0)) + ((g.ow.length : Nat) : Int))] 3 := Bx.new mV; have := mW.lt; clear bE mV
  have uW : (wt0 ++ ([(gI lc (k0)) + ((g.ow.length : Nat) : Int)])).length = (wt0).length + ([(gI lc (k0)) + ((g.ow.length : Nat) : Int)] : List Int).length := List.length_append
  simp only [List.length_cons, List.length_nil] at uW
  refine At.act rU (appendR (α := Int) (t := 22) (d := 160) (n := wt0.length) (m := 1) (cc := 1) (xs := wt0) (ys := [(gI lc (k0)) + ((g.ow.length : Nat) : Int)]) (bytes := 8) (by first | rfl | omega | (simp; done) | (simp; omega)) (by first | rfl | omega | (simp; done) | (simp; omega)) (by kernel_rfl) rfl (by kernel_rfl) aU (Bx.srcR (l := ([(gI lc (k0)) + ((g.ow.length : Nat) : Int)] : List Int)) mW rfl) (by simp only [List.length_cons, List.length_nil]; omega) (by simp only [List.length_cons, List.length_nil]; omega)) ?_
  rintro d_ v_ zP ⟨rfl, iY, iZ, jY⟩
  obtain rfl := jY.val
  have bM := jY.gr
  refine ⟨_, rfl, fun zQ rV => ?_⟩
  clear rU; clear mW; have uX := jY.own (Sx (eB.heap.size) []) (fun g _ hs => hs.2) (show eB.heap.size ≤ rS.heap.size by omega); have := bM.size; replace dH := dH.gr bM (fun k hk => by have := aU.ge k hk; omega); replace eC := eC.gr bM (fun k hk => by have := aU.ge k hk; omega); replace eD := eD.gr bM (fun k hk => by have := aU.ge k hk; omega)
  replace eE := eE.gr bM (fun k hk => by have := aU.ge k hk; omega); replace eF := eF.gr bM (fun k hk => by have := aU.ge k hk; omega); replace dI := dI.gr bM (fun k hk => by have := aU.ge k hk; omega); replace eG := eG.gr bM (fun k hk => by have := aU.ge k hk; omega); replace eH := eH.gr bM (fun k hk => by have := aU.ge k hk; omega); replace cZ := cZ.gr bM (fun e => by have := aU.ge _ e; omega)
  replace dJ := dJ.gr bM (fun k hk => by have := aU.ge k hk; omega); replace eI := eI.gr bM (fun k hk => by have := aU.ge k hk; omega); replace eJ := eJ.gr bM (fun k hk => by have := aU.ge k hk; omega); replace eK := eK.gr bM (fun k hk => by have := aU.ge k hk; omega); replace cW := cW.gr bM (fun e => by have := aU.ge _ e; omega); replace dK := dK.gr bM (fun k hk => by have := aU.ge k hk; omega)
  replace eL := eL.gr bM (fun k hk => by have := aU.ge k hk; omega); replace eM := eM.gr bM (fun k hk => by have := aU.ge k hk; omega); replace eN := eN.gr bM (fun k hk => by have := aU.ge k hk; omega); replace dA := dA.gr bM (fun e => by have := aU.ge _ e; omega); clear aU bM jY
  refine At.rd rV 1 [[]] [(22, .slice iY ((wt0 ++ ([(gI lc (k0)) + ((g.ow.length : Nat) : Int)])).length) iZ)] [] (by kernel_rfl) trivial (fun zR rW => ?_)
  clear rV
  refine At.done rfl ?_
  refine b_n ?_
  refine t_n ?_
  refine At.start ?_
  refine At.rd rW 3 [[], [.as_ (.int .i64 (k0 + 1))], []] [(23, .int .i64 (k0 + 1)), (148, .int .i64 (k0 + 1)), (147, .int .i64 (k0))] [((.int .i64 (IntKind.i64.wrap (k0 + 1)) : Value) = .int .i64 (k0 + 1))] (by kernel_rfl) ⟨(w64 (by omega) (by omega)), trivial⟩ (fun zS rX => ?_)
  clear rW
  refine At.done rfl ?_
  refine t_n ?_
  have uY := rX.as 22 (.slice iY ((wt0 ++ ([(gI lc (k0)) + ((g.ow.length : Nat) : Int)])).length) iZ) (.slice iY ((wt0 ++ ([(gI lc (k0)) + ((g.ow.length : Nat) : Int)]) : List Int).length) iZ) rfl (slice_len (by first | rfl | omega | (simp; done) | (simp; omega)))
  clear rX
  have uZ := uY.sub (r := [(22, .slice iY ((wt0 ++ ([(gI lc (k0)) + ((g.ow.length : Nat) : Int)]) : List Int).length) iZ), (23, .int .i64 (k0 + 1)), (21, .int .i64 (0)), (19, .pointer (some ⟨aM.heap.size, 0, none⟩)), (17, .pointer (some ⟨aF.heap.size, 0, none⟩)), (15, .pointer (some ⟨aL.heap.size, 0, none⟩)), (10, .int .i64 (((g.ow.length : Nat) : Int))), (4, .bool false)]) ⟨rfl, rfl, rfl, rfl, rfl, rfl, rfl, rfl, trivial⟩
  exact ⟨_, (by omega), (k0 + 1), (wt0 ++ ([(gI lc (k0)) + ((g.ow.length : Nat) : Int)]) : List Int), iY, iZ, rfl, uZ, dH, eC, eD, eE, eF, dI, eG, eH, cZ, dJ, eI, eJ, eK, cW, dK, eL, eM, eN, dA, uX, (by omega), (by omega), (two_push hwt0 (by omega) rfl), (by omega)⟩
 have zT := of_decide_eq_false mU
 refine wp_exit ?_
 refine t_e ?_
 refine t_e ?_
 refine b_e ?_
 refine t_n ?_
 refine wp_seq ?_
 first | (have hwl_ := congrArg List.length hwt1) | (have hwl_ := congrArg List.length hwt0)
 rw [List.length_append, lim_len] at hwl_
 refine At.start ?_
 refine At.rd iX 5 [[], [], [], [.ld (.slice dZ le.length fM)], []] [(165, .slice iD wt0.length iE), (164, .slice dZ le.length fM), (163, .pointer (some ⟨aM.heap.size, 0, none⟩)), (162, .pointer (some ⟨aM.heap.size, 0, none⟩)), (161, .int .i64 (0))] [(0 ≤ (0 : Int)), ((0 : Int) < (2 : Nat)), (gT.cell? ⟨aM.heap.size, 0, none⟩ = some (.slice dZ le.length fM))] (by kernel_rfl) ⟨(by decide), (by decide), (dA.cell (i := 0) rfl), trivial⟩ (fun zU rY => ?_)
 clear iX
 refine At.call rY 27 #[.slice dZ le.length fM, .slice iD wt0.length iE] (some 166) (by kernel_rfl) ((sameInts_any (la := le) (lb := wt0) (dK.wide (Nat.zero_le _) (by omega)) (aU.rdI0 (by first | omega | (simp only [List.length_cons, List.length_nil]; omega) | (simp; done) | (simp; omega)))).mono (R' := fun e w' => e = .returned (.bool true) ∧ Ext _ w') (fun e_ w_ h_ => by rw [show (decide (le = wt0) : Bool) = true from (by first | exact decide_eq_true (two_fin (two_sol hR hR2 (by omega) hTT hsA hsB hsC).1 hwt0 (by omega)) | exact decide_eq_true (two_fin (two_sol hR hR2 (by omega) hTT hsA hsB hsC).2 hwt1 (by omega)))] at h_; exact h_)) ?_
 rintro e_ fD ⟨rfl, he⟩
 refine ⟨_, rfl, _, rfl, fun zV rZ => ?_⟩
 clear rY; have bF := gr_ext he; have := bF.size; replace dH := dH.gn bF; replace eC := eC.gn bF; replace eD := eD.gn bF; replace eE := eE.gn bF; replace eF := eF.gn bF; replace dI := dI.gn bF; replace eG := eG.gn bF; replace eH := eH.gn bF; replace cZ := cZ.gn bF; replace dJ := dJ.gn bF; replace eI := eI.gn bF; replace eJ := eJ.gn bF; replace eK := eK.gn bF; replace cW := cW.gn bF
 replace dK := dK.gn bF; replace eL := eL.gn bF; replace eM := eM.gn bF; replace eN := eN.gn bF; replace dA := dA.gn bF; replace aU := aU.gn bF; clear bF he
 refine At.rd rZ 1 [[]] [(167, .bool false)] [] (by kernel_rfl) trivial (fun zW mX => ?_)
 clear rZ
 refine At.done rfl ?_
 refine t_n ?_
 clear aU
 refine cond_F mX rfl ?_
 refine wp_skip ?_
 refine b_n ?_
 refine t_n ?_
 refine At.start ?_
 refine At.rd mX 3 [[], [.as_ (.int .i64 (1))], []] [(21, .int .i64 (1)), (133, .int .i64 (1)), (132, .int .i64 (0))] [((.int .i64 (IntKind.i64.wrap (0 + 1)) : Value) = .int .i64 (1))] (by kernel_rfl) ⟨(by kernel_rfl), trivial⟩ (fun zX sA => ?_)
 clear mX
 refine At.done rfl ?_
 refine t_n ?_
 have sB := sA.sub (r := [(21, .int .i64 (1)), (19, .pointer (some ⟨aM.heap.size, 0, none⟩)), (17, .pointer (some ⟨aF.heap.size, 0, none⟩)), (15, .pointer (some ⟨aL.heap.size, 0, none⟩)), (10, .int .i64 (((g.ow.length : Nat) : Int))), (4, .bool false)]) ⟨rfl, rfl, rfl, rfl, rfl, rfl, trivial⟩
 clear sA
 refine loop_u ?_
 refine wp_seq ?_
 refine wp_seq ?_
 refine At.start ?_
 refine At.rd sB 2 [[], [.as_ (.bool true)]] [(131, .bool true), (130, .int .i64 (1))] [((.bool (decide ((1 : Int) < 2)) : Value) = .bool true)] (by kernel_rfl) ⟨(by kernel_rfl), trivial⟩ (fun zY mY => ?_)
 clear sB
 refine At.done rfl ?_
 refine t_n ?_
 refine cond_T mY rfl ?_
 refine wp_skip ?_
 refine t_n ?_
 refine wp_seq ?_
 refine wp_block ?_
 refine wp_seq ?_
 refine At.start ?_
 refine At.seq mY 1 [[]] [(134, .slice (some ⟨fD.heap.size, 0, none⟩) 0 0)] (fD.alloc (.cells #[] 3 (0, 0))) [] (by kernel_rfl) trivial (fun zZ jZ mZ sC => ?_)
 clear mY; have bN := gr_alloc mZ; have := bN.size; replace dH := dH.gn bN; replace eC := eC.gn bN; replace eD := eD.gn bN; replace eE := eE.gn bN; replace eF := eF.gn bN; replace dI := dI.gn bN; replace eG := eG.gn bN; replace eH := eH.gn bN; replace cZ := cZ.gn bN; replace dJ := dJ.gn bN; replace eI := eI.gn bN; replace eJ := eJ.gn bN; replace eK := eK.gn bN; replace cW := cW.gn bN
 replace dK := dK.gn bN; replace eL := eL.gn bN; replace eM := eM.gn bN; replace eN := eN.gn bN; replace dA := dA.gn bN; have nA : Bx jZ (fD.heap.size) [] 3 := Bx.new mZ; have := nA.lt; clear bN mZ
 refine At.rd sC 4 [[], [], [], [.ld (.slice eZ lb.length fL)]] [(138, .slice eZ lb.length fL), (137, .pointer (some ⟨aL.heap.size, 1, none⟩)), (136, .pointer (some ⟨aL.heap.size, 0, none⟩)), (135, .int .i64 (1))] [(0 ≤ (1 : Int)), ((1 : Int) < (2 : Nat)), (jZ.cell? ⟨aL.heap.size, 1, none⟩ = some (.slice eZ lb.length fL))] (by kernel_rfl) ⟨(by decide), (by decide), (cZ.cell (i := 1) rfl), trivial⟩ (fun aAa sD => ?_)
 clear sC; have bO : OwnR jZ (Sx (fD.heap.size) []) (some ⟨fD.heap.size, 0, none⟩) 0 3 ([] : List Int) := Bx.own0 nA (Nat.le_refl _); clear nA; have vA : (([] : List Int) ++ lb).length = (([] : List Int)).length + (lb : List Int).length := List.length_append
 simp only [List.length_cons, List.length_nil] at vA
 refine At.act sD (appendR (α := Int) (t := 22) (d := 139) (n := 0) (m := lb.length) (cc := fL) (xs := []) (ys := lb) (bytes := 8) (by first | rfl | omega | (simp; done) | (simp; omega)) (by first | rfl | omega | (simp; done) | (simp; omega)) (by kernel_rfl) rfl (by kernel_rfl) bO dI.srcR (by simp only [List.length_cons, List.length_nil]; omega) (by simp only [List.length_cons, List.length_nil]; omega)) ?_
 rintro d_ v_ vB ⟨rfl, iF, iG, kA⟩
 obtain rfl := kA.val
 have bP := kA.gr
 refine ⟨_, rfl, fun aAb sE => ?_⟩
 clear sD; have kB := kA.own (Sx (fD.heap.size) []) (fun g _ hs => hs) (show fD.heap.size ≤ jZ.heap.size by omega); have := bP.size; replace dH := dH.gr bP (fun k hk => by have := bO.ge k hk; omega); replace eC := eC.gr bP (fun k hk => by have := bO.ge k hk; omega); replace eD := eD.gr bP (fun k hk => by have := bO.ge k hk; omega); replace eE := eE.gr bP (fun k hk => by have := bO.ge k hk; omega)
 replace eF := eF.gr bP (fun k hk => by have := bO.ge k hk; omega); replace dI := dI.gr bP (fun k hk => by have := bO.ge k hk; omega); replace eG := eG.gr bP (fun k hk => by have := bO.ge k hk; omega); replace eH := eH.gr bP (fun k hk => by have := bO.ge k hk; omega); replace cZ := cZ.gr bP (fun e => by have := bO.ge _ e; omega); replace dJ := dJ.gr bP (fun k hk => by have := bO.ge k hk; omega)
 replace eI := eI.gr bP (fun k hk => by have := bO.ge k hk; omega); replace eJ := eJ.gr bP (fun k hk => by have := bO.ge k hk; omega); replace eK := eK.gr bP (fun k hk => by have := bO.ge k hk; omega); replace cW := cW.gr bP (fun e => by have := bO.ge _ e; omega); replace dK := dK.gr bP (fun k hk => by have := bO.ge k hk; omega); replace eL := eL.gr bP (fun k hk => by have := bO.ge k hk; omega)
 replace eM := eM.gr bP (fun k hk => by have := bO.ge k hk; omega); replace eN := eN.gr bP (fun k hk => by have := bO.ge k hk; omega); replace dA := dA.gr bP (fun e => by have := bO.ge _ e; omega); clear bO bP kA; replace kB : OwnR vB (Sx (fD.heap.size) []) iF iG 3 (lb : List Int) := kB
 refine At.rd sE 1 [[]] [(22, .slice iF ((([] : List Int) ++ lb).length) iG)] [] (by kernel_rfl) trivial (fun aAc sF => ?_)
 clear sE
 refine At.done rfl ?_
 refine t_n ?_
 refine wp_seq ?_
 refine wp_seq ?_
 refine At.start ?_
 refine At.rd sF 1 [[]] [(23, .int .i64 (0))] [] (by kernel_rfl) trivial (fun aAd sG => ?_)
 clear sF
 refine At.done rfl ?_
 refine t_n ?_
 refine wp_block ?_
 have sH := sG.as 22 (.slice iF ((([] : List Int) ++ lb).length) iG) (.slice iF ((lb : List Int).length) iG) rfl (slice_len (by first | rfl | omega | (simp; done) | (simp; omega)))
 clear sG
 have sI := sH.sub (r := [(22, .slice iF ((lb : List Int).length) iG), (23, .int .i64 (0)), (21, .int .i64 (1)), (19, .pointer (some ⟨aM.heap.size, 0, none⟩)), (17, .pointer (some ⟨aF.heap.size, 0, none⟩)), (15, .pointer (some ⟨aL.heap.size, 0, none⟩)), (10, .int .i64 (((g.ow.length : Nat) : Int))), (4, .bool false)]) ⟨rfl, rfl, rfl, rfl, rfl, rfl, rfl, rfl, trivial⟩
 refine loop_g (fun (m_ : Nat) a_ w_ => ∃ (k1 : Int) (wt1 : List Int) (iH : Option Addr) (iI : Nat), m_ = ((ld.length : Int) - k1).toNat ∧ (Frm 168 a_ [(22, .slice iH wt1.length iI), (23, .int .i64 (k1)), (21, .int .i64 (1)), (19, .pointer (some ⟨aM.heap.size, 0, none⟩)), (17, .pointer (some ⟨aF.heap.size, 0, none⟩)), (15, .pointer (some ⟨aL.heap.size, 0, none⟩)), (10, .int .i64 (((g.ow.length : Nat) : Int))), (4, .bool false)]) ∧ (Ext w w_) ∧ (RdG w_ 0 w.heap.size Ag0 Ag1 Ag2 cg0 cg1 cg2 g) ∧ (RdG w_ 0 w.heap.size Ah0 Ah1 Ah2 ch0 ch1 ch2 h) ∧ (RdT w_ 0 w.heap.size) ∧ (RdI w_ (bZ.heap.size) aL.heap.size eY la) ∧ (RdI w_ (bZ.heap.size) aL.heap.size eZ lb) ∧ (RdI w_ (bZ.heap.size) aL.heap.size fV ma) ∧ (RdI w_ (bZ.heap.size) aL.heap.size fW mb) ∧ (Bx w_ (aL.heap.size) [.slice eY la.length fK, .slice eZ lb.length fL, .slice fV ma.length hV, .slice fW mb.length hW] 32) ∧ (RdI w_ (cM.heap.size) aF.heap.size cO lc) ∧ (RdI w_ (cM.heap.size) aF.heap.size cP ld) ∧ (RdI w_ (cM.heap.size) aF.heap.size fX mc) ∧ (RdI w_ (cM.heap.size) aF.heap.size fY md) ∧ (Bx w_ (aF.heap.size) [.slice cO lc.length fB, .slice cP ld.length fC, .slice fX mc.length hX, .slice fY md.length hY] 32) ∧ (RdI w_ (cV.heap.size) aM.heap.size dZ le) ∧ (RdI w_ (cV.heap.size) aM.heap.size eA lf) ∧ (RdI w_ (cV.heap.size) aM.heap.size fZ me) ∧ (RdI w_ (cV.heap.size) aM.heap.size gA mf) ∧ (Bx w_ (aM.heap.size) [.slice dZ le.length fM, .slice eA lf.length fN, .slice fZ me.length hZ, .slice gA mf.length iA] 32) ∧ (OwnR w_ (Sx (fD.heap.size) []) iH iI 3 (wt1 : List Int)) ∧ (0 ≤ k1) ∧ (k1 ≤ (ld.length : Int)) ∧ (wt1 = lb ++ limL (fun z => gI ld z + ((g.ow.length : Nat) : Int)) k1) ∧ (fD.heap.size ≤ w_.heap.size)) _ ⟨0, (lb : List Int), iF, iG, rfl, sI, dH, eC, eD, eE, eF, dI, eG, eH, cZ, dJ, eI, eJ, eK, cW, dK, eL, eM, eN, dA, kB, (by omega), (by omega), (by first | exact (List.append_nil _).symm | simp [limL]), (by omega)⟩ ?_
 clear sI sH; clear eC; clear eD; clear eE; clear eF; clear dI; clear eG; clear eH; clear cZ; clear dJ; clear eI; clear eJ; clear eK; clear cW; clear dK; clear eL; clear eM; clear eN; clear dA; clear kB; clear dH
 intro m_ aAe gU ⟨k1, wt1, iH, iI, hm1206, sJ, gB, gV, gW, gX, gY, gZ, hA, hB, gC, hC, gM, hD, hE, fI, hF, gN, hI, hJ, fS, aV, i1227, i1228, hwt1, i1229⟩
 have := gB.size; have := gC.lt; have := fI.lt; have := fS.lt
 refine wp_seq ?_
 refine wp_seq ?_
 refine At.start ?_
 refine At.rd sJ 7 [[], [], [], [], [.ld (.slice cP ld.length fC)], [], []] [(146, .bool (decide ((k1 : Int) < ((ld.length : Nat) : Int)))), (145, .int .i64 (((ld.length : Nat) : Int))), (144, .slice cP ld.length fC), (143, .pointer (some ⟨aF.heap.size, 1, none⟩)), (142, .pointer (some ⟨aF.heap.size, 0, none⟩)), (141, .int .i64 (1)), (140, .int .i64 (k1))] [(0 ≤ (1 : Int)), ((1 : Int) < (2 : Nat)), (gU.cell? ⟨aF.heap.size, 1, none⟩ = some (.slice cP ld.length fC))] (by kernel_rfl) ⟨(by decide), (by decide), (fI.cell (i := 1) rfl), trivial⟩ (fun aAf jA => ?_)
 clear sJ
 refine At.done rfl ?_
 refine t_n ?_
 refine cond_S jA (t := decide ((k1 : Int) < ((ld.length : Nat) : Int))) rfl (fun nB => ?_) (fun nB => ?_)
 ·have aAg := of_decide_eq_true nB
  refine wp_skip ?_
  refine t_n ?_
  refine wp_seq ?_
  refine wp_block ?_
  first | (have hrg_ := (solve_rg hR2 hsB).2 k1 (by omega) (by omega)) | (have hrg_ := (solve_rg hR2 hsB).1 k0 (by omega) (by omega))
  first | (have hwl_ := congrArg List.length hwt1) | (have hwl_ := congrArg List.length hwt0)
  rw [List.length_append, lim_len] at hwl_
  refine At.start ?_
  obtain ⟨kC, vC, _, _, vD⟩ := RdI.get gM (k1) (by omega) (by omega)
  refine At.rd jA 10 [[], [], [], [], [.ld (.slice cP ld.length fC)], [], [.ad kC], [.ld (.int .i64 (gI ld (k1)))], [], [.as_ (.int .i64 ((gI ld (k1)) + ((g.ow.length : Nat) : Int)))]] [(158, .int .i64 ((gI ld (k1)) + ((g.ow.length : Nat) : Int))), (157, .int .i64 (((g.ow.length : Nat) : Int))), (156, .int .i64 (gI ld (k1))), (155, .pointer (some (kC.add ((k1 : Int).toNat * 1)))), (154, .int .i64 (k1)), (153, .slice cP ld.length fC), (152, .pointer (some ⟨aF.heap.size, 1, none⟩)), (151, .pointer (some ⟨aF.heap.size, 0, none⟩)), (150, .int .i64 (1)), (149, .slice iH wt1.length iI)] [(0 ≤ (1 : Int)), ((1 : Int) < (2 : Nat)), (gU.cell? ⟨aF.heap.size, 1, none⟩ = some (.slice cP ld.length fC)), (cP = some kC), (0 ≤ (k1 : Int)), ((k1 : Int) < (ld.length : Nat)), (gU.cell? (kC.add ((k1 : Int).toNat * 1)) = some (.int .i64 (gI ld (k1)))), ((.int .i64 (IntKind.i64.wrap ((gI ld (k1)) + ((g.ow.length : Nat) : Int))) : Value) = .int .i64 ((gI ld (k1)) + ((g.ow.length : Nat) : Int)))] (by kernel_rfl) ⟨(by decide), (by decide), (fI.cell (i := 1) rfl), vC, (by omega), (by omega), vD, (w64 (by omega) (by omega)), trivial⟩ (fun aAh sK => ?_)
  clear jA
  refine At.seq sK 1 [[]] [(159, .slice (some ⟨gU.heap.size, 0, none⟩) 1 1)] (gU.alloc (.cells #[.int .i64 ((gI ld (k1)) + ((g.ow.length : Nat) : Int))] 3 (0, 0))) [] (by kernel_rfl) trivial (fun aAi sL nC sM => ?_)
  clear sK; have bG := gr_alloc nC; have := bG.size; replace gB := gB.gn bG; replace gV := gV.gn bG; replace gW := gW.gn bG; replace gX := gX.gn bG; replace gY := gY.gn bG; replace gZ := gZ.gn bG; replace hA := hA.gn bG; replace hB := hB.gn bG; replace gC := gC.gn bG; replace hC := hC.gn bG; replace gM := gM.gn bG; replace hD := hD.gn bG; replace hE := hE.gn bG; replace fI := fI.gn bG
  replace hF := hF.gn bG; replace gN := gN.gn bG; replace hI := hI.gn bG; replace hJ := hJ.gn bG; replace fS := fS.gn bG; replace aV := aV.grN bG; have nD : Bx sL (gU.heap.size) [.int .i64 ((gI ld (k1)) + ((g.ow.length : Nat) : Int))] 3 := Bx.new nC; have := nD.lt; clear bG nC
  have vE : (wt1 ++ ([(gI ld (k1)) + ((g.ow.length : Nat) : Int)])).length = (wt1).length + ([(gI ld (k1)) + ((g.ow.length : Nat) : Int)] : List Int).length := List.length_append
  simp only [List.length_cons, List.length_nil] at vE
  refine At.act sM (appendR (α := Int) (t := 22) (d := 160) (n := wt1.length) (m := 1) (cc := 1) (xs := wt1) (ys := [(gI ld (k1)) + ((g.ow.length : Nat) : Int)]) (bytes := 8) (by first | rfl | omega | (simp; done) | (simp; omega)) (by first | rfl | omega | (simp; done) | (simp; omega)) (by kernel_rfl) rfl (by kernel_rfl) aV (Bx.srcR (l := ([(gI ld (k1)) + ((g.ow.length : Nat) : Int)] : List Int)) nD rfl) (by simp only [List.length_cons, List.length_nil]; omega) (by simp only [List.length_cons, List.length_nil]; omega)) ?_
  rintro d_ v_ aAj ⟨rfl, jB, jC, kD⟩
  obtain rfl := kD.val
  have bQ := kD.gr
  refine ⟨_, rfl, fun aAk sN => ?_⟩
  clear sM; clear nD; have vF := kD.own (Sx (fD.heap.size) []) (fun g _ hs => hs.2) (show fD.heap.size ≤ sL.heap.size by omega); have := bQ.size; replace gB := gB.gr bQ (fun k hk => by have := aV.ge k hk; omega); replace gV := gV.gr bQ (fun k hk => by have := aV.ge k hk; omega); replace gW := gW.gr bQ (fun k hk => by have := aV.ge k hk; omega)
  replace gX := gX.gr bQ (fun k hk => by have := aV.ge k hk; omega); replace gY := gY.gr bQ (fun k hk => by have := aV.ge k hk; omega); replace gZ := gZ.gr bQ (fun k hk => by have := aV.ge k hk; omega); replace hA := hA.gr bQ (fun k hk => by have := aV.ge k hk; omega); replace hB := hB.gr bQ (fun k hk => by have := aV.ge k hk; omega); replace gC := gC.gr bQ (fun e => by have := aV.ge _ e; omega)
  replace hC := hC.gr bQ (fun k hk => by have := aV.ge k hk; omega); replace gM := gM.gr bQ (fun k hk => by have := aV.ge k hk; omega); replace hD := hD.gr bQ (fun k hk => by have := aV.ge k hk; omega); replace hE := hE.gr bQ (fun k hk => by have := aV.ge k hk; omega); replace fI := fI.gr bQ (fun e => by have := aV.ge _ e; omega); replace hF := hF.gr bQ (fun k hk => by have := aV.ge k hk; omega)
  replace gN := gN.gr bQ (fun k hk => by have := aV.ge k hk; omega); replace hI := hI.gr bQ (fun k hk => by have := aV.ge k hk; omega); replace hJ := hJ.gr bQ (fun k hk => by have := aV.ge k hk; omega); replace fS := fS.gr bQ (fun e => by have := aV.ge _ e; omega); clear aV bQ kD
  refine At.rd sN 1 [[]] [(22, .slice jB ((wt1 ++ ([(gI ld (k1)) + ((g.ow.length : Nat) : Int)])).length) jC)] [] (by kernel_rfl) trivial (fun aAl sO => ?_)
  clear sN
  refine At.done rfl ?_
  refine b_n ?_
  refine t_n ?_
  refine At.start ?_
  refine At.rd sO 3 [[], [.as_ (.int .i64 (k1 + 1))], []] [(23, .int .i64 (k1 + 1)), (148, .int .i64 (k1 + 1)), (147, .int .i64 (k1))] [((.int .i64 (IntKind.i64.wrap (k1 + 1)) : Value) = .int .i64 (k1 + 1))] (by kernel_rfl) ⟨(w64 (by omega) (by omega)), trivial⟩ (fun aAm sP => ?_)
  clear sO
  refine At.done rfl ?_
  refine t_n ?_
  have vG := sP.as 22 (.slice jB ((wt1 ++ ([(gI ld (k1)) + ((g.ow.length : Nat) : Int)])).length) jC) (.slice jB ((wt1 ++ ([(gI ld (k1)) + ((g.ow.length : Nat) : Int)]) : List Int).length) jC) rfl (slice_len (by first | rfl | omega | (simp; done) | (simp; omega)))
  clear sP
  have vH := vG.sub (r := [(22, .slice jB ((wt1 ++ ([(gI ld (k1)) + ((g.ow.length : Nat) : Int)]) : List Int).length) jC), (23, .int .i64 (k1 + 1)), (21, .int .i64 (1)), (19, .pointer (some ⟨aM.heap.size, 0, none⟩)), (17, .pointer (some ⟨aF.heap.size, 0, none⟩)), (15, .pointer (some ⟨aL.heap.size, 0, none⟩)), (10, .int .i64 (((g.ow.length : Nat) : Int))), (4, .bool false)]) ⟨rfl, rfl, rfl, rfl, rfl, rfl, rfl, rfl, trivial⟩
  exact ⟨_, (by omega), (k1 + 1), (wt1 ++ ([(gI ld (k1)) + ((g.ow.length : Nat) : Int)]) : List Int), jB, jC, rfl, vH, gB, gV, gW, gX, gY, gZ, hA, hB, gC, hC, gM, hD, hE, fI, hF, gN, hI, hJ, fS, vF, (by omega), (by omega), (two_push hwt1 (by omega) rfl), (by omega)⟩
 have aAn := of_decide_eq_false nB
 refine wp_exit ?_
 refine t_e ?_
 refine t_e ?_
 refine b_e ?_
 refine t_n ?_
 refine wp_seq ?_
 first | (have hwl_ := congrArg List.length hwt1) | (have hwl_ := congrArg List.length hwt0)
 rw [List.length_append, lim_len] at hwl_
 refine At.start ?_
 refine At.rd jA 5 [[], [], [], [.ld (.slice eA lf.length fN)], []] [(165, .slice iH wt1.length iI), (164, .slice eA lf.length fN), (163, .pointer (some ⟨aM.heap.size, 1, none⟩)), (162, .pointer (some ⟨aM.heap.size, 0, none⟩)), (161, .int .i64 (1))] [(0 ≤ (1 : Int)), ((1 : Int) < (2 : Nat)), (gU.cell? ⟨aM.heap.size, 1, none⟩ = some (.slice eA lf.length fN))] (by kernel_rfl) ⟨(by decide), (by decide), (fS.cell (i := 1) rfl), trivial⟩ (fun aAo sQ => ?_)
 clear jA
 refine At.call sQ 27 #[.slice eA lf.length fN, .slice iH wt1.length iI] (some 166) (by kernel_rfl) ((sameInts_any (la := lf) (lb := wt1) (gN.wide (Nat.zero_le _) (by omega)) (aV.rdI0 (by first | omega | (simp only [List.length_cons, List.length_nil]; omega) | (simp; done) | (simp; omega)))).mono (R' := fun e w' => e = .returned (.bool true) ∧ Ext _ w') (fun e_ w_ h_ => by rw [show (decide (lf = wt1) : Bool) = true from (by first | exact decide_eq_true (two_fin (two_sol hR hR2 (by omega) hTT hsA hsB hsC).1 hwt0 (by omega)) | exact decide_eq_true (two_fin (two_sol hR hR2 (by omega) hTT hsA hsB hsC).2 hwt1 (by omega)))] at h_; exact h_)) ?_
 rintro e_ aAp ⟨rfl, he⟩
 refine ⟨_, rfl, _, rfl, fun aAq sR => ?_⟩
 clear sQ; have bH := gr_ext he; have := bH.size; replace gB := gB.gn bH; replace gV := gV.gn bH; replace gW := gW.gn bH; replace gX := gX.gn bH; replace gY := gY.gn bH; replace gZ := gZ.gn bH; replace hA := hA.gn bH; replace hB := hB.gn bH; replace gC := gC.gn bH; replace hC := hC.gn bH; replace gM := gM.gn bH; replace hD := hD.gn bH; replace hE := hE.gn bH; replace fI := fI.gn bH
 replace hF := hF.gn bH; replace gN := gN.gn bH; replace hI := hI.gn bH; replace hJ := hJ.gn bH; replace fS := fS.gn bH; replace aV := aV.gn bH; clear bH he
 refine At.rd sR 1 [[]] [(167, .bool false)] [] (by kernel_rfl) trivial (fun aAr nE => ?_)
 clear sR
 refine At.done rfl ?_
 refine t_n ?_
 clear aV
 refine cond_F nE rfl ?_
 refine wp_skip ?_
 refine b_n ?_
 refine t_n ?_
 refine At.start ?_
 refine At.rd nE 3 [[], [.as_ (.int .i64 (2))], []] [(21, .int .i64 (2)), (133, .int .i64 (2)), (132, .int .i64 (1))] [((.int .i64 (IntKind.i64.wrap (1 + 1)) : Value) = .int .i64 (2))] (by kernel_rfl) ⟨(by kernel_rfl), trivial⟩ (fun aAs sS => ?_)
 clear nE
 refine At.done rfl ?_
 refine t_n ?_
 have sT := sS.sub (r := [(21, .int .i64 (2)), (19, .pointer (some ⟨aM.heap.size, 0, none⟩)), (17, .pointer (some ⟨aF.heap.size, 0, none⟩)), (15, .pointer (some ⟨aL.heap.size, 0, none⟩)), (10, .int .i64 (((g.ow.length : Nat) : Int))), (4, .bool false)]) ⟨rfl, rfl, rfl, rfl, rfl, rfl, trivial⟩
 clear sS
 refine loop_u ?_
 refine wp_seq ?_
 refine wp_seq ?_
 refine At.start ?_
 refine At.rd sT 2 [[], [.as_ (.bool false)]] [(131, .bool false), (130, .int .i64 (2))] [((.bool (decide ((2 : Int) < 2)) : Value) = .bool false)] (by kernel_rfl) ⟨(by kernel_rfl), trivial⟩ (fun aAt nF => ?_)
 clear sT
 refine At.done rfl ?_
 refine t_n ?_
 refine cond_F nF rfl ?_
 refine wp_exit ?_
 refine t_e ?_
 refine t_e ?_
 refine b_e ?_
 refine t_n ?_
 clear gC; clear fI; clear fS
 refine wp_seq ?_
 refine At.start ?_
 refine At.rd nF 1 [[]] [(4, .bool true)] [] (by kernel_rfl) trivial (fun aAu vI => ?_)
 clear nF
 refine At.done rfl ?_
 refine t_n ?_
 refine wp_ret ?_
 refine ret_ vI [] [.bool true] [] (by kernel_rfl) trivial ?_
 exact ⟨rfl, gB⟩

end Go.Proofs.YtplpgfcjjnaigaaDoor
