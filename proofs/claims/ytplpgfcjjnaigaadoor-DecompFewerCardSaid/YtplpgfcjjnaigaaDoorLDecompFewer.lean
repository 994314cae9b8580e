/-
  A walk of a Go function, printed by a program of this repo. Conditions: what the theorems name.
-/
import Derived.Test.YtplpgfcjjnaigaaDoorWShown13
import Derived.Test.YtplpgfcjjnaigaaDoorWAlike
import Derived.Test.YtplpgfcjjnaigaaDoorWCopyM
import Derived.Test.YtplpgfcjjnaigaaDoorPureLaw13F
import Derived.Test.YtplpgfcjjnaigaaDoorRow
set_option linter.unusedVariables false
set_option linter.unusedSimpArgs false
namespace Go.Proofs.YtplpgfcjjnaigaaDoor
open Go Go.RowKit

attribute [local irreducible] ofZ fromW wordsD ofD ofW lsD lenW lenN fullW withW lessW hasW hasD inW inD leastD putD onI tzI orS andS minusS orD andD minusD fullD emptyD
set_option maxHeartbeats 4000000 in
theorem fewer13_any {Ag0 Ag1 Ag2 : Option Addr} {cg0 cg1 cg2 : Nat} {g : GameL} {Ak : Option Addr} {ck : Nat} {lk : List Int} {w : World} (rg : RdG w 0 w.heap.size Ag0 Ag1 Ag2 cg0 cg1 cg2 g) (rk : RdI w 0 w.heap.size Ak lk) (hok : ∀ z ∈ lk, I64 z) (rT : RdT w 0 w.heap.size) :
    Calls Tryd.prog 6 #[.agg #[.slice Ag0 g.ow.length cg0, .slice Ag1 g.pr.length cg1, .slice Ag2 g.mv.length cg2], .slice Ak lk.length ck] w fun e w' => e = .returned (.bool true) ∧ Ext w w' := by
 have hlg0 := rg.ow.len; have hlg1 := rg.pr.len; have hlg2 := rg.mv.len; have hkg0 := rg.k0; have hkg1 := rg.k1; have hkg2 := rg.k2; have hlk := rk.len
 refine enter_ (args := [.agg #[.slice Ag0 g.ow.length cg0, .slice Ag1 g.pr.length cg1, .slice Ag2 g.mv.length cg2], .slice Ak lk.length ck]) Tryd.func6 rfl Tryd.ntmps6 (Nat.le_of_ble_eq_true rfl) (fun act0 f0 => ?_)
 have e0 : Ext w w := Ext.refl w
 refine wp_seq ?_
 refine At.start ?_
 refine At.seq f0 1 [[]] [(2, .pointer (some ⟨w.heap.size, 0, none⟩))] (w.alloc (.cells #[.slice Ag0 g.ow.length cg0, .slice Ag1 g.pr.length cg1, .slice Ag2 g.mv.length cg2] 25 (0, 0))) [] (by kernel_rfl) trivial (fun act4 w1 hw2 f3 => ?_)
 clear f0; have g5 := gr_alloc hw2; have := g5.size; replace e0 := e0.gn g5; have r8 := rg.gn g5; clear rg; have r9 := rk.gn g5; clear rk; have aK := rT.gn g5; clear rT; have aJ : Bx w1 (w.heap.size) [.slice Ag0 g.ow.length cg0, .slice Ag1 g.pr.length cg1, .slice Ag2 g.mv.length cg2] 25 := Bx.new hw2; have := aJ.lt; clear g5 hw2
 refine At.rd f3 1 [[]] [(4, .bool false)] [] (by kernel_rfl) trivial (fun qR kT => ?_)
 clear f3
 refine At.done rfl ?_
 refine t_n ?_
 refine wp_seq ?_
 refine At.start ?_
 refine At.call kT 12 #[] (some 20) (by kernel_rfl) (shown13_any (aK.wide (Nat.zero_le _) (by omega))) ?_
 rintro e_ jB ⟨rfl, he⟩
 refine ⟨_, rfl, _, rfl, fun qS kU => ?_⟩
 clear kT; have fK := gr_ext he; have := fK.size; replace e0 := e0.gn fK; replace r8 := r8.gn fK; replace r9 := r9.gn fK; replace aK := aK.gn fK; replace aJ := aJ.gn fK; clear fK he
 refine At.rd kU 1 [[]] [(5, .bool true)] [] (by kernel_rfl) trivial (fun qT kV => ?_)
 clear kU
 refine At.done rfl ?_
 refine t_n ?_
 refine wp_seq ?_
 refine At.start ?_
 refine At.rd kV 1 [[.ld (.slice Ag0 g.ow.length cg0), .ld (.slice Ag1 g.pr.length cg1), .ld (.slice Ag2 g.mv.length cg2)]] [(22, .agg #[.slice Ag0 g.ow.length cg0, .slice Ag1 g.pr.length cg1, .slice Ag2 g.mv.length cg2])] [(jB.cell? ⟨w.heap.size, 0, none⟩ = some (.slice Ag0 g.ow.length cg0)), (jB.cell? ⟨w.heap.size, 1, none⟩ = some (.slice Ag1 g.pr.length cg1)), (jB.cell? ⟨w.heap.size, 2, none⟩ = some (.slice Ag2 g.mv.length cg2))] (by kernel_rfl) ⟨(aJ.cell (i := 0) rfl), (aJ.cell (i := 1) rfl), (aJ.cell (i := 2) rfl), trivial⟩ (fun qU kW => ?_)
 clear kV
 refine At.call kW 21 #[.agg #[.slice Ag0 g.ow.length cg0, .slice Ag1 g.pr.length cg1, .slice Ag2 g.mv.length cg2]] (some 23) (by kernel_rfl) (right_any (r8.wide (Nat.zero_le _) (by omega))) ?_
 rintro e_ aZ ⟨rfl, he⟩
 refine ⟨_, rfl, _, rfl, fun qV kX => ?_⟩
 clear kW; have fL := gr_ext he; have := fL.size; replace e0 := e0.gn fL; replace r8 := r8.gn fL; replace r9 := r9.gn fL; replace aK := aK.gn fL; replace aJ := aJ.gn fL; clear fL he
 refine At.rd kX 5 [[], [], [], [], []] [(7, .int .i64 ((rightP g).2)), (6, .int .i64 ((rightP g).1)), (25, .int .i64 ((rightP g).2)), (24, .int .i64 ((rightP g).1)), (21, .tuple #[.int .i64 ((rightP g).1), .int .i64 ((rightP g).2)])] [] (by kernel_rfl) trivial (fun qW kY => ?_)
 clear kX
 refine At.done rfl ?_
 refine t_n ?_
 refine wp_seq ?_
 refine wp_seq ?_
 refine At.start ?_
 refine At.rd kY 6 [[], [], [], [], [], []] [(31, .bool (((rightP g).2 : Int) != 0)), (30, .bool (((rightP g).2 : Int) != 0)), (29, .int .i64 ((rightP g).2)), (28, .bool false), (27, .bool false), (26, .bool true)] [] (by kernel_rfl) trivial (fun qX hA => ?_)
 clear kY
 refine At.done rfl ?_
 refine t_n ?_
 refine cond_S hA (t := ((rightP g).2 : Int) != 0) rfl (fun jC => ?_) (fun jC => ?_)
 ·have qY := bne_iff_ne.1 jC
  refine wp_seq ?_
  refine At.start ?_
  refine At.rd hA 2 [[], []] [(4, .bool true), (32, .bool true)] [] (by kernel_rfl) trivial (fun qZ oQ => ?_)
  clear hA
  refine At.done rfl ?_
  refine t_n ?_
  clear aJ
  refine wp_ret ?_
  refine t_r ?_
  refine ret_ oQ [] [.bool true] [] (by kernel_rfl) trivial ?_
  exact ⟨rfl, e0⟩
 have rA := bne_eq_false_iff_eq.1 jC
 refine wp_skip ?_
 refine t_n ?_
 refine wp_seq ?_
 have hR : isR g = true := right_of2 (by omega); have hG := isR_ok hR; have hn1 := hG.n1; have hn0 := hG.n0; have hpl := hG.pl; have hml := hG.ml
 refine At.start ?_
 refine At.rd hA 1 [[.ld (.slice Ag0 g.ow.length cg0), .ld (.slice Ag1 g.pr.length cg1), .ld (.slice Ag2 g.mv.length cg2)]] [(34, .agg #[.slice Ag0 g.ow.length cg0, .slice Ag1 g.pr.length cg1, .slice Ag2 g.mv.length cg2])] [(aZ.cell? ⟨w.heap.size, 0, none⟩ = some (.slice Ag0 g.ow.length cg0)), (aZ.cell? ⟨w.heap.size, 1, none⟩ = some (.slice Ag1 g.pr.length cg1)), (aZ.cell? ⟨w.heap.size, 2, none⟩ = some (.slice Ag2 g.mv.length cg2))] (by kernel_rfl) ⟨(aJ.cell (i := 0) rfl), (aJ.cell (i := 1) rfl), (aJ.cell (i := 2) rfl), trivial⟩ (fun rB kZ => ?_)
 clear hA
 refine At.call kZ 16 #[.agg #[.slice Ag0 g.ow.length cg0, .slice Ag1 g.pr.length cg1, .slice Ag2 g.mv.length cg2]] (some 35) (by kernel_rfl) (solve_any (g := g) (r8.wide (Nat.zero_le _) (by omega)) (aK.wide (Nat.zero_le _) (by omega))) ?_
 rintro e_ aA ⟨aN, cC, bQ, dC, bR, dI, bS, dJ, la, lb, ma, mb, da, rfl, he, lA, lB, lC, lD, hsA⟩
 have hln_hsA := solve_lens hsA; have aO : RdI aA (aZ.heap.size) aA.heap.size aN la := (OwnR.rdR lA (by show _ * 8 ≤ _; omega)).rdI; clear lA; have aR : RdI aA (aZ.heap.size) aA.heap.size bQ lb := (OwnR.rdR lB (by show _ * 8 ≤ _; omega)).rdI; clear lB; have aS : RdI aA (aZ.heap.size) aA.heap.size bR ma := (OwnR.rdR lC (by show _ * 8 ≤ _; omega)).rdI; clear lC
 have aT : RdI aA (aZ.heap.size) aA.heap.size bS mb := (OwnR.rdR lD (by show _ * 8 ≤ _; omega)).rdI; clear lD
 refine ⟨_, rfl, _, rfl, fun rC lE => ?_⟩
 clear kZ; have fM := gr_ext he; have := fM.size; replace e0 := e0.gn fM; replace r8 := r8.gn fM; replace r9 := r9.gn fM; replace aK := aK.gn fM; replace aJ := aJ.gn fM; clear fM he
 refine At.rd lE 3 [[], [], []] [(37, .int .i64 (da)), (36, .agg #[.slice aN la.length cC, .slice bQ lb.length dC, .slice bR ma.length dI, .slice bS mb.length dJ]), (33, .tuple #[.agg #[.slice aN la.length cC, .slice bQ lb.length dC, .slice bR ma.length dI, .slice bS mb.length dJ], .int .i64 (da)])] [] (by kernel_rfl) trivial (fun rD lF => ?_)
 clear lE
 refine At.seq lF 1 [[]] [(8, .pointer (some ⟨aA.heap.size, 0, none⟩))] (aA.alloc (.cells #[.slice none 0 0, .slice none 0 0, .slice none 0 0, .slice none 0 0] 32 (0, 0))) [] (by kernel_rfl) trivial (fun rE oR jD lG => ?_)
 clear lF; have eA := gr_alloc jD; have := eA.size; replace e0 := e0.gn eA; replace r8 := r8.gn eA; replace r9 := r9.gn eA; replace aK := aK.gn eA; replace aJ := aJ.gn eA; replace aO := aO.gn eA; replace aR := aR.gn eA; replace aS := aS.gn eA; replace aT := aT.gn eA; have jE : Bx oR (aA.heap.size) [.slice none 0 0, .slice none 0 0, .slice none 0 0, .slice none 0 0] 32 := Bx.new jD; have := jE.lt
 clear eA jD
 refine At.store lG (t := 32) (b := aA.heap.size) (off := 0) (v := .agg #[.slice aN la.length cC, .slice bQ lb.length dC, .slice bR ma.length dI, .slice bS mb.length dJ]) (by kernel_rfl) jE (by kernel_rfl) (fun rF gE eB aP lH => ?_)
 clear lG; replace aP : Bx gE (aA.heap.size) [.slice aN la.length cC, .slice bQ lb.length dC, .slice bR ma.length dI, .slice bS mb.length dJ] 32 := aP; have := eB.size; replace e0 := e0.gr eB (fun k h => by injection h; omega); replace r8 := r8.gb eB (by omega); replace r9 := r9.gb eB (by omega); replace aK := aK.gb eB (by omega); replace aJ := aJ.gb eB (by omega); replace aO := aO.gb eB (by omega)
 replace aR := aR.gb eB (by omega); replace aS := aS.gb eB (by omega); replace aT := aT.gb eB (by omega); clear jE eB
 refine At.rd lH 1 [[]] [(9, .int .i64 (da))] [] (by kernel_rfl) trivial (fun rG lI => ?_)
 clear lH
 refine At.done rfl ?_
 refine t_n ?_
 refine wp_seq ?_
 refine wp_seq ?_
 obtain ⟨s0, s1, hla_, hlb_, hS⟩ := hsA.right hR
 have hml0_ := hS.l0; have hml1_ := hS.l1
 refine At.start ?_
 refine At.rd lI 18 [[], [], [.ld (.slice bR ma.length dI)], [], [], [.ld (.slice Ag0 g.ow.length cg0)], [], [.as_ (.bool false)], [], [], [], [.ld (.slice bS mb.length dJ)], [], [], [.ld (.slice Ag0 g.ow.length cg0)], [], [.as_ (.bool false)], []] [(55, .bool false), (54, .bool false), (53, .int .i64 (((g.ow.length : Nat) : Int))), (52, .slice Ag0 g.ow.length cg0), (51, .pointer (some ⟨w.heap.size, 0, none⟩)), (50, .int .i64 (((mb.length : Nat) : Int))), (49, .slice bS mb.length dJ), (48, .pointer (some ⟨aA.heap.size, 3, none⟩)), (47, .pointer (some ⟨aA.heap.size, 2, none⟩)), (46, .bool false), (45, .bool false), (44, .int .i64 (((g.ow.length : Nat) : Int))), (43, .slice Ag0 g.ow.length cg0), (42, .pointer (some ⟨w.heap.size, 0, none⟩)), (41, .int .i64 (((ma.length : Nat) : Int))), (40, .slice bR ma.length dI), (39, .pointer (some ⟨aA.heap.size, 2, none⟩)), (38, .pointer (some ⟨aA.heap.size, 2, none⟩))] [(0 ≤ (0 : Int)), ((0 : Int) < (2 : Nat)), (gE.cell? ⟨aA.heap.size, 2, none⟩ = some (.slice bR ma.length dI)), (gE.cell? ⟨w.heap.size, 0, none⟩ = some (.slice Ag0 g.ow.length cg0)), ((.bool ((((ma.length : Nat) : Int) : Int) != ((g.ow.length : Nat) : Int)) : Value) = .bool false), (0 ≤ (1 : Int)), ((1 : Int) < (2 : Nat)), (gE.cell? ⟨aA.heap.size, 3, none⟩ = some (.slice bS mb.length dJ)), (gE.cell? ⟨w.heap.size, 0, none⟩ = some (.slice Ag0 g.ow.length cg0)), ((.bool ((((mb.length : Nat) : Int) : Int) != ((g.ow.length : Nat) : Int)) : Value) = .bool false)] (by kernel_rfl) ⟨(by decide), (by decide), (aP.cell (i := 2) rfl), (aJ.cell (i := 0) rfl), (congrArg Value.bool (bneF (by omega))), (by decide), (by decide), (aP.cell (i := 3) rfl), (aJ.cell (i := 0) rfl), (congrArg Value.bool (bneF (by omega))), trivial⟩ (fun rH lJ => ?_)
 clear lI
 refine At.done rfl ?_
 refine t_n ?_
 have jF := lJ.sub (r := [(55, .bool false), (8, .pointer (some ⟨aA.heap.size, 0, none⟩)), (4, .bool false), (2, .pointer (some ⟨w.heap.size, 0, none⟩)), (1, .slice Ak lk.length ck)]) ⟨rfl, rfl, rfl, rfl, rfl, trivial⟩
 clear lJ
 refine cond_F jF rfl ?_
 refine wp_skip ?_
 refine t_n ?_
 refine wp_seq ?_
 refine At.start ?_
 refine At.rd jF 3 [[], [], [.ld (.slice aN la.length cC)]] [(58, .slice aN la.length cC), (57, .pointer (some ⟨aA.heap.size, 0, none⟩)), (56, .pointer (some ⟨aA.heap.size, 0, none⟩))] [(0 ≤ (0 : Int)), ((0 : Int) < (2 : Nat)), (gE.cell? ⟨aA.heap.size, 0, none⟩ = some (.slice aN la.length cC))] (by kernel_rfl) ⟨(by decide), (by decide), (aP.cell (i := 0) rfl), trivial⟩ (fun rI lK => ?_)
 clear jF
 refine At.call lK 22 #[.slice aN la.length cC] (some 59) (by kernel_rfl) (of_any (la := la) (aO.wide (Nat.zero_le _) (by omega))) ?_
 rintro e_ bA ⟨rfl, he⟩
 refine ⟨_, rfl, _, rfl, fun rJ lL => ?_⟩
 clear lK; have dX := gr_ext he; have := dX.size; replace e0 := e0.gn dX; replace r8 := r8.gn dX; replace r9 := r9.gn dX; replace aK := aK.gn dX; replace aJ := aJ.gn dX; replace aO := aO.gn dX; replace aR := aR.gn dX; replace aS := aS.gn dX; replace aT := aT.gn dX; replace aP := aP.gn dX; clear dX he
 refine At.seq lL 1 [[]] [(10, .pointer (some ⟨bA.heap.size, 0, none⟩))] (bA.alloc (.cells ((List.replicate 4 (0 : Int) : List Int).map wV).toArray 44 (0, 0))) [] (by kernel_rfl) trivial (fun rK oS jG lM => ?_)
 clear lL; have dY := gr_alloc jG; have := dY.size; replace e0 := e0.gn dY; replace r8 := r8.gn dY; replace r9 := r9.gn dY; replace aK := aK.gn dY; replace aJ := aJ.gn dY; replace aO := aO.gn dY; replace aR := aR.gn dY; replace aS := aS.gn dY; replace aT := aT.gn dY; replace aP := aP.gn dY; have jH : Bx oS (bA.heap.size) ((List.replicate 4 (0 : Int) : List Int).map wV) 44 := Bx.new jG; have := jH.lt
 clear dY jG
 refine At.act lM (storeBlk (t := 44) (b := bA.heap.size) (n := 4) (cs' := ((ofW la : List Int).map wV)) (by kernel_rfl) (by kernel_rfl) ((List.length_map _).trans (okLen (ofW_ok _))) oneW_ ((show ((ofW la : List Int).map wV).length = 4 from ((List.length_map _).trans (okLen (ofW_ok _)))).trans (show ((List.replicate 4 (0 : Int) : List Int).map wV).length = 4 from (by simp only [List.length_map, List.length_set, List.length_replicate, List.length_cons, List.length_nil]; first | done | assumption | exact from_len _ | exact of_len _ | exact ofZ_len _ | exact (ofW_ok _).1 | exact (fullW_W _).1 | exact (okW_with (by assumption)).1 | exact (okW_less (by assumption)).1 | exact put_len (from_len _) | exact orD_len _ _ | exact andD_len _ _ | exact minusD_len _ _ | exact fullD_len _ | (refine okLen ?_; (repeat (first | assumption | exact ofW_ok _ | exact fullW_W _ | apply okW_with | apply okW_less | refine okW_orS ?_ ?_ | refine okW_andS ?_ ?_ | refine okW_minusS ?_ ?_)); done) | omega | rfl)).symm) jH) ?_
 rintro d_ v_ aQ ⟨rfl, dZ, dN⟩
 refine ⟨_, rfl, fun rL lN => ?_⟩
 clear lM; have := dZ.size; replace e0 := e0.gr dZ (fun k h => by injection h; omega); replace r8 := r8.gb dZ (by omega); replace r9 := r9.gb dZ (by omega); replace aK := aK.gb dZ (by omega); replace aJ := aJ.gb dZ (by omega); replace aO := aO.gb dZ (by omega); replace aR := aR.gb dZ (by omega); replace aS := aS.gb dZ (by omega); replace aT := aT.gb dZ (by omega); replace aP := aP.gb dZ (by omega)
 clear jH dZ
 refine At.done rfl ?_
 refine t_n ?_
 refine wp_seq ?_
 refine At.start ?_
 refine At.rd lN 1 [[.ld (.slice Ag0 g.ow.length cg0), .ld (.slice Ag1 g.pr.length cg1), .ld (.slice Ag2 g.mv.length cg2)]] [(60, .agg #[.slice Ag0 g.ow.length cg0, .slice Ag1 g.pr.length cg1, .slice Ag2 g.mv.length cg2])] [(aQ.cell? ⟨w.heap.size, 0, none⟩ = some (.slice Ag0 g.ow.length cg0)), (aQ.cell? ⟨w.heap.size, 1, none⟩ = some (.slice Ag1 g.pr.length cg1)), (aQ.cell? ⟨w.heap.size, 2, none⟩ = some (.slice Ag2 g.mv.length cg2))] (by kernel_rfl) ⟨(aJ.cell (i := 0) rfl), (aJ.cell (i := 1) rfl), (aJ.cell (i := 2) rfl), trivial⟩ (fun rM lO => ?_)
 clear lN
 refine At.call lO 24 #[.agg #[.slice Ag0 g.ow.length cg0, .slice Ag1 g.pr.length cg1, .slice Ag2 g.mv.length cg2]] (some 61) (by kernel_rfl) (copyM_any (g := g) (r8.wide (Nat.zero_le _) (by omega))) ?_
 rintro e_ aD ⟨aE, cU, aF, cV, eJ, hW, rfl, he, dS, dT, dU⟩
 have hip175 := inner_len (RdG.mv (r8.wide (Nat.zero_le _) (by omega)))
 refine ⟨_, rfl, _, rfl, fun rN lP => ?_⟩
 clear lO; have dV := gr_ext he; have := dV.size; replace e0 := e0.gn dV; replace r8 := r8.gn dV; replace r9 := r9.gn dV; replace aK := aK.gn dV; replace aJ := aJ.gn dV; replace aO := aO.gn dV; replace aR := aR.gn dV; replace aS := aS.gn dV; replace aT := aT.gn dV; replace aP := aP.gn dV; replace dN := dN.gn dV; clear dV he
 refine At.seq lP 1 [[]] [(11, .pointer (some ⟨aD.heap.size, 0, none⟩))] (aD.alloc (.cells #[.slice none 0 0, .slice none 0 0, .slice none 0 0] 25 (0, 0))) [] (by kernel_rfl) trivial (fun rO oT jI lQ => ?_)
 clear lP; have dD := gr_alloc jI; have := dD.size; replace e0 := e0.gn dD; replace r8 := r8.gn dD; replace r9 := r9.gn dD; replace aK := aK.gn dD; replace aJ := aJ.gn dD; replace aO := aO.gn dD; replace aR := aR.gn dD; replace aS := aS.gn dD; replace aT := aT.gn dD; replace aP := aP.gn dD; replace dN := dN.gn dD; replace dS := dS.grN dD; replace dT := dT.grN dD; replace dU := dU.grN dD
 have jJ : Bx oT (aD.heap.size) [.slice none 0 0, .slice none 0 0, .slice none 0 0] 25 := Bx.new jI; have := jJ.lt; clear dD jI
 refine At.store lQ (t := 25) (b := aD.heap.size) (off := 0) (v := .agg #[.slice aE g.ow.length cU, .slice aF g.pr.length cV, .slice eJ g.mv.length hW]) (by kernel_rfl) jJ (by kernel_rfl) (fun rP bB dE eG lR => ?_)
 clear lQ; replace eG : Bx bB (aD.heap.size) [.slice aE g.ow.length cU, .slice aF g.pr.length cV, .slice eJ g.mv.length hW] 25 := eG; have := dE.size; replace e0 := e0.gr dE (fun k h => by injection h; omega); replace r8 := r8.gb dE (by omega); replace r9 := r9.gb dE (by omega); replace aK := aK.gb dE (by omega); replace aJ := aJ.gb dE (by omega); replace aO := aO.gb dE (by omega)
 replace aR := aR.gb dE (by omega); replace aS := aS.gb dE (by omega); replace aT := aT.gb dE (by omega); replace aP := aP.gb dE (by omega); replace dN := dN.gb dE (by omega); replace dS := dS.gr dE (fun k hk => hk.1); replace dT := dT.gr dE (fun k hk => hk.1); replace dU := dU.gr dE (fun k hk => hk.1); clear jJ dE
 refine At.done rfl ?_
 refine t_n ?_
 refine wp_seq ?_
 refine At.start ?_
 refine At.rd lR 1 [[.ld (.slice Ag0 g.ow.length cg0), .ld (.slice Ag1 g.pr.length cg1), .ld (.slice Ag2 g.mv.length cg2)]] [(62, .agg #[.slice Ag0 g.ow.length cg0, .slice Ag1 g.pr.length cg1, .slice Ag2 g.mv.length cg2])] [(bB.cell? ⟨w.heap.size, 0, none⟩ = some (.slice Ag0 g.ow.length cg0)), (bB.cell? ⟨w.heap.size, 1, none⟩ = some (.slice Ag1 g.pr.length cg1)), (bB.cell? ⟨w.heap.size, 2, none⟩ = some (.slice Ag2 g.mv.length cg2))] (by kernel_rfl) ⟨(aJ.cell (i := 0) rfl), (aJ.cell (i := 1) rfl), (aJ.cell (i := 2) rfl), trivial⟩ (fun rQ lS => ?_)
 clear lR
 refine At.call lS 24 #[.agg #[.slice Ag0 g.ow.length cg0, .slice Ag1 g.pr.length cg1, .slice Ag2 g.mv.length cg2]] (some 63) (by kernel_rfl) (copyM_any (g := g) (r8.wide (Nat.zero_le _) (by omega))) ?_
 rintro e_ aB ⟨aG, dF, aH, dG, eK, hX, rfl, he, eC, eD, eE⟩
 have hip245 := inner_len (RdG.mv (r8.wide (Nat.zero_le _) (by omega)))
 refine ⟨_, rfl, _, rfl, fun rR lT => ?_⟩
 clear lS; have cW := gr_ext he; have hY := dS.lt; have hZ := dT.lt; have iA := dU.lt; have := cW.size; replace e0 := e0.gn cW; replace r8 := r8.gn cW; replace r9 := r9.gn cW; replace aK := aK.gn cW; replace aJ := aJ.gn cW; replace aO := aO.gn cW; replace aR := aR.gn cW; replace aS := aS.gn cW; replace aT := aT.gn cW; replace aP := aP.gn cW; replace dN := dN.gn cW
 replace dS : OwnR aB (Sx (aQ.heap.size) [obk (aG), obk (aH), obk (eK), some (aD.heap.size), obk (aF), obk (eJ)]) aE cU 3 (g.ow : List Int) := dS.grA cW (fun _ _ h => by cases h) (fun k hk hs => ⟨(fun e => by have := eC.ge _ e; omega), (fun e => by have := eD.ge _ e; omega), (fun e => by have := eE.ge _ e; omega), hs.1, hs.2.1, hs.2.2.1, hs.2.2.2⟩)
 replace dT : OwnR aB (Sx (aQ.heap.size) [obk (aG), obk (aH), obk (eK), some (aD.heap.size), obk (aE), obk (eJ)]) aF cV 3 (g.pr : List Int) := dT.grA cW (fun _ _ h => by cases h) (fun k hk hs => ⟨(fun e => by have := eC.ge _ e; omega), (fun e => by have := eD.ge _ e; omega), (fun e => by have := eE.ge _ e; omega), hs.1, hs.2.1, hs.2.2.1, hs.2.2.2⟩)
 replace dU : OwnLL aB (aQ.heap.size) [obk (aG), obk (aH), obk (eK), some (aD.heap.size), obk (aE), obk (aF)] eJ hW 22 3 (g.mv : List (List Int)) := dU.grA cW (fun _ _ h => by cases h) (fun k hk hs => ⟨(fun e => by have := eC.ge _ e; omega), (fun e => by have := eD.ge _ e; omega), (fun e => by have := eE.ge _ e; omega), hs.1, hs.2.1, hs.2.2.1, hs.2.2.2⟩)
 replace eG := eG.gn cW
 replace eC : OwnR aB (Sx (bB.heap.size) [obk (aE), obk (aF), obk (eJ), obk (aH), obk (eK)]) aG dF 3 (g.ow : List Int) := eC.imp (fun g _ hs => ⟨(fun e => by have := hY _ e; have := Sx_base hs; omega), (fun e => by have := hZ _ e; have := Sx_base hs; omega), (fun e => by have := iA _ e; have := Sx_base hs; omega), hs⟩)
 replace eD : OwnR aB (Sx (bB.heap.size) [obk (aE), obk (aF), obk (eJ), obk (aG), obk (eK)]) aH dG 3 (g.pr : List Int) := eD.imp (fun g _ hs => ⟨(fun e => by have := hY _ e; have := Sx_base hs; omega), (fun e => by have := hZ _ e; have := Sx_base hs; omega), (fun e => by have := iA _ e; have := Sx_base hs; omega), hs⟩)
 replace eE : OwnLL aB (bB.heap.size) [obk (aE), obk (aF), obk (eJ), obk (aG), obk (aH)] eK hX 22 3 (g.mv : List (List Int)) := eE.imp (fun g _ hs => ⟨(fun e => by have := hY _ e; have := Sx_base hs; omega), (fun e => by have := hZ _ e; have := Sx_base hs; omega), (fun e => by have := iA _ e; have := Sx_base hs; omega), hs⟩)
 clear hY hZ iA; clear cW he
 refine At.seq lT 1 [[]] [(12, .pointer (some ⟨aB.heap.size, 0, none⟩))] (aB.alloc (.cells #[.slice none 0 0, .slice none 0 0, .slice none 0 0] 25 (0, 0))) [] (by kernel_rfl) trivial (fun rS oU jK lU => ?_)
 clear lT; have cD := gr_alloc jK; have := cD.size; replace e0 := e0.gn cD; replace r8 := r8.gn cD; replace r9 := r9.gn cD; replace aK := aK.gn cD; replace aJ := aJ.gn cD; replace aO := aO.gn cD; replace aR := aR.gn cD; replace aS := aS.gn cD; replace aT := aT.gn cD; replace aP := aP.gn cD; replace dN := dN.gn cD; replace dS := dS.grN cD; replace dT := dT.grN cD; replace dU := dU.grN cD
 replace eG := eG.gn cD; replace eC := eC.grN cD; replace eD := eD.grN cD; replace eE := eE.grN cD; have jL : Bx oU (aB.heap.size) [.slice none 0 0, .slice none 0 0, .slice none 0 0] 25 := Bx.new jK; have := jL.lt; clear cD jK
 refine At.store lU (t := 25) (b := aB.heap.size) (off := 0) (v := .agg #[.slice aG g.ow.length dF, .slice aH g.pr.length dG, .slice eK g.mv.length hX]) (by kernel_rfl) jL (by kernel_rfl) (fun rU oV cE iB lV => ?_)
 clear lU; replace iB : Bx oV (aB.heap.size) [.slice aG g.ow.length dF, .slice aH g.pr.length dG, .slice eK g.mv.length hX] 25 := iB; have := cE.size; replace e0 := e0.gr cE (fun k h => by injection h; omega); replace r8 := r8.gb cE (by omega); replace r9 := r9.gb cE (by omega); replace aK := aK.gb cE (by omega); replace aJ := aJ.gb cE (by omega); replace aO := aO.gb cE (by omega)
 replace aR := aR.gb cE (by omega); replace aS := aS.gb cE (by omega); replace aT := aT.gb cE (by omega); replace aP := aP.gb cE (by omega); replace dN := dN.gb cE (by omega); replace dS := dS.gr cE (fun k hk => hk.1); replace dT := dT.gr cE (fun k hk => hk.1); replace dU := dU.gr cE (fun k hk => hk.1); replace eG := eG.gb cE (by omega); replace eC := eC.gr cE (fun k hk => hk.1)
 replace eD := eD.gr cE (fun k hk => hk.1); replace eE := eE.gr cE (fun k hk => hk.1); clear jL cE
 refine At.done rfl ?_
 refine t_n ?_
 refine wp_seq ?_
 refine wp_seq ?_
 refine At.start ?_
 refine At.rd lV 1 [[]] [(13, .int .i64 (0))] [] (by kernel_rfl) trivial (fun rV lW => ?_)
 clear lV
 refine At.done rfl ?_
 refine t_n ?_
 refine wp_block ?_
 have lX := lW.sub (r := [(13, .int .i64 (0)), (12, .pointer (some ⟨aB.heap.size, 0, none⟩)), (11, .pointer (some ⟨aD.heap.size, 0, none⟩)), (10, .pointer (some ⟨bA.heap.size, 0, none⟩)), (8, .pointer (some ⟨aA.heap.size, 0, none⟩)), (4, .bool false), (2, .pointer (some ⟨w.heap.size, 0, none⟩)), (1, .slice Ak lk.length ck)]) ⟨rfl, rfl, rfl, rfl, rfl, rfl, rfl, rfl, trivial⟩
 refine loop_g (fun (m_ : Nat) a_ w_ => ∃ (i : Int) (hm : List (List Int)) (aC : Option Addr) (aL : Nat) (km : List (List Int)) (aI : Option Addr) (bK : Nat), m_ = ((g.ow.length : Int) - i).toNat ∧ (Frm 150 a_ [(13, .int .i64 (i)), (12, .pointer (some ⟨aB.heap.size, 0, none⟩)), (11, .pointer (some ⟨aD.heap.size, 0, none⟩)), (10, .pointer (some ⟨bA.heap.size, 0, none⟩)), (8, .pointer (some ⟨aA.heap.size, 0, none⟩)), (4, .bool false), (2, .pointer (some ⟨w.heap.size, 0, none⟩)), (1, .slice Ak lk.length ck)]) ∧ (Ext w w_) ∧ (RdG w_ 0 w.heap.size Ag0 Ag1 Ag2 cg0 cg1 cg2 g) ∧ (RdI w_ 0 w.heap.size Ak lk) ∧ (RdT w_ 0 w.heap.size) ∧ (Bx w_ (w.heap.size) [.slice Ag0 g.ow.length cg0, .slice Ag1 g.pr.length cg1, .slice Ag2 g.mv.length cg2] 25) ∧ (RdI w_ (aZ.heap.size) aA.heap.size aN la) ∧ (RdI w_ (aZ.heap.size) aA.heap.size bQ lb) ∧ (RdI w_ (aZ.heap.size) aA.heap.size bR ma) ∧ (RdI w_ (aZ.heap.size) aA.heap.size bS mb) ∧ (Bx w_ (aA.heap.size) [.slice aN la.length cC, .slice bQ lb.length dC, .slice bR ma.length dI, .slice bS mb.length dJ] 32) ∧ (Bx w_ (bA.heap.size) ((ofW la : List Int).map wV) 44) ∧ (OwnR w_ (Sx (aQ.heap.size) [some (aB.heap.size), obk (aG), obk (aH), obk (aI), some (aD.heap.size), obk (aF), obk (aC)]) aE cU 3 (g.ow : List Int)) ∧ (OwnR w_ (Sx (aQ.heap.size) [some (aB.heap.size), obk (aG), obk (aH), obk (aI), some (aD.heap.size), obk (aE), obk (aC)]) aF cV 3 (g.pr : List Int)) ∧ (OwnLL w_ (aQ.heap.size) [some (aB.heap.size), obk (aG), obk (aH), obk (aI), some (aD.heap.size), obk (aE), obk (aF)] aC aL 22 3 (hm : List (List Int))) ∧ (Bx w_ (aD.heap.size) [.slice aE g.ow.length cU, .slice aF g.pr.length cV, .slice aC hm.length aL] 25) ∧ (OwnR w_ (Sx (bB.heap.size) [some (aB.heap.size), obk (aE), obk (aF), obk (aC), obk (aH), obk (aI)]) aG dF 3 (g.ow : List Int)) ∧ (OwnR w_ (Sx (bB.heap.size) [some (aB.heap.size), obk (aE), obk (aF), obk (aC), obk (aG), obk (aI)]) aH dG 3 (g.pr : List Int)) ∧ (OwnLL w_ (bB.heap.size) [some (aB.heap.size), obk (aE), obk (aF), obk (aC), obk (aG), obk (aH)] aI bK 22 3 (km : List (List Int))) ∧ (Bx w_ (aB.heap.size) [.slice aG g.ow.length dF, .slice aH g.pr.length dG, .slice aI km.length bK] 25) ∧ (0 ≤ i) ∧ (i ≤ (g.ow.length : Int)) ∧ (FewT g hm (fun i => gI g.ow i = wonBy s0 i) i) ∧ (FewF g hm (fun i => gI g.ow i = wonBy s0 i) (stratF s0 ma mb) i) ∧ (FewT g km (fun i => gI g.ow i ≠ wonBy s0 i) i) ∧ ((∀ i, i < (hm).length → ((hm).getD i []).length * 8 ≤ 140737488351232)) ∧ ((∀ i, i < (km).length → ((km).getD i []).length * 8 ≤ 140737488351232)) ∧ (hm.length = g.mv.length) ∧ (km.length = g.mv.length) ∧ (aQ.heap.size ≤ w_.heap.size) ∧ (bB.heap.size ≤ w_.heap.size)) _ ⟨0, (g.mv : List (List Int)), eJ, hW, (g.mv : List (List Int)), eK, hX, rfl, lX, e0, r8, r9, aK, aJ, aO, aR, aS, aT, aP, dN, dS, dT, dU, (eG.as (by first | rfl | (simp only [List.cons.injEq, Value.slice.injEq, true_and, and_true]; omega))), eC, eD, eE, (iB.as (by first | rfl | (simp only [List.cons.injEq, Value.slice.injEq, true_and, and_true]; omega))), (by omega), (by omega), few_0, fewF_0, few_0, (by assumption), (by assumption), rfl, rfl, (by omega), (by omega)⟩ ?_
 clear lX lW; clear r8; clear r9; clear aK; clear aJ; clear aO; clear aR; clear aS; clear aT; clear aP; clear dN; clear dS; clear dT; clear dU; clear eG; clear eC; clear eD; clear eE; clear iB; clear e0
 intro m_ rW eH ⟨i, hm, aC, aL, km, aI, bK, hm329, lY, bC, bT, bU, bD, eU, bE, bF, bV, bW, aM, eV, dO, dP, fN, dH, cF, cG, hB, bL, i349, i350, hfh, hff, hfk, hih, hik, i351, i352, i353, i354⟩
 have := bC.size; have := eU.lt; have := aM.lt; have := eV.lt; have := dH.lt; have := bL.lt
 refine wp_seq ?_
 refine wp_seq ?_
 refine At.start ?_
 refine At.rd lY 5 [[], [], [.ld (.slice Ag0 g.ow.length cg0)], [], []] [(68, .bool (decide ((i : Int) < ((g.ow.length : Nat) : Int)))), (67, .int .i64 (((g.ow.length : Nat) : Int))), (66, .slice Ag0 g.ow.length cg0), (65, .pointer (some ⟨w.heap.size, 0, none⟩)), (64, .int .i64 (i))] [(eH.cell? ⟨w.heap.size, 0, none⟩ = some (.slice Ag0 g.ow.length cg0))] (by kernel_rfl) ⟨(eU.cell (i := 0) rfl), trivial⟩ (fun rX hC => ?_)
 clear lY
 refine At.done rfl ?_
 refine t_n ?_
 refine cond_S hC (t := decide ((i : Int) < ((g.ow.length : Nat) : Int))) rfl (fun jM => ?_) (fun jM => ?_)
 ·have rY := of_decide_eq_true jM
  refine wp_skip ?_
  refine t_n ?_
  refine wp_seq ?_
  refine wp_block ?_
  refine wp_seq ?_
  refine At.start ?_
  refine At.rd hC 1 [[]] [(14, .int .i64 (1))] [] (by kernel_rfl) trivial (fun rZ jN => ?_)
  clear hC
  refine At.done rfl ?_
  refine t_n ?_
  refine wp_seq (cut (fun a_ w_ => ∃ (wn : Int), (Frm 150 a_ [(14, .int .i64 (wn)), (13, .int .i64 (i)), (12, .pointer (some ⟨aB.heap.size, 0, none⟩)), (11, .pointer (some ⟨aD.heap.size, 0, none⟩)), (10, .pointer (some ⟨bA.heap.size, 0, none⟩)), (8, .pointer (some ⟨aA.heap.size, 0, none⟩)), (4, .bool false), (2, .pointer (some ⟨w.heap.size, 0, none⟩)), (1, .slice Ak lk.length ck)]) ∧ (Ext w w_) ∧ (RdG w_ 0 w.heap.size Ag0 Ag1 Ag2 cg0 cg1 cg2 g) ∧ (RdI w_ 0 w.heap.size Ak lk) ∧ (RdT w_ 0 w.heap.size) ∧ (Bx w_ (w.heap.size) [.slice Ag0 g.ow.length cg0, .slice Ag1 g.pr.length cg1, .slice Ag2 g.mv.length cg2] 25) ∧ (RdI w_ (aZ.heap.size) aA.heap.size aN la) ∧ (RdI w_ (aZ.heap.size) aA.heap.size bQ lb) ∧ (RdI w_ (aZ.heap.size) aA.heap.size bR ma) ∧ (RdI w_ (aZ.heap.size) aA.heap.size bS mb) ∧ (Bx w_ (aA.heap.size) [.slice aN la.length cC, .slice bQ lb.length dC, .slice bR ma.length dI, .slice bS mb.length dJ] 32) ∧ (Bx w_ (bA.heap.size) ((ofW la : List Int).map wV) 44) ∧ (OwnR w_ (Sx (aQ.heap.size) [some (aB.heap.size), obk (aG), obk (aH), obk (aI), some (aD.heap.size), obk (aF), obk (aC)]) aE cU 3 (g.ow : List Int)) ∧ (OwnR w_ (Sx (aQ.heap.size) [some (aB.heap.size), obk (aG), obk (aH), obk (aI), some (aD.heap.size), obk (aE), obk (aC)]) aF cV 3 (g.pr : List Int)) ∧ (OwnLL w_ (aQ.heap.size) [some (aB.heap.size), obk (aG), obk (aH), obk (aI), some (aD.heap.size), obk (aE), obk (aF)] aC aL 22 3 (hm : List (List Int))) ∧ (Bx w_ (aD.heap.size) [.slice aE g.ow.length cU, .slice aF g.pr.length cV, .slice aC hm.length aL] 25) ∧ (OwnR w_ (Sx (bB.heap.size) [some (aB.heap.size), obk (aE), obk (aF), obk (aC), obk (aH), obk (aI)]) aG dF 3 (g.ow : List Int)) ∧ (OwnR w_ (Sx (bB.heap.size) [some (aB.heap.size), obk (aE), obk (aF), obk (aC), obk (aG), obk (aI)]) aH dG 3 (g.pr : List Int)) ∧ (OwnLL w_ (bB.heap.size) [some (aB.heap.size), obk (aE), obk (aF), obk (aC), obk (aG), obk (aH)] aI bK 22 3 (km : List (List Int))) ∧ (Bx w_ (aB.heap.size) [.slice aG g.ow.length dF, .slice aH g.pr.length dG, .slice aI km.length bK] 25) ∧ (wonBy s0 i = wn) ∧ (wn = 0 ∨ wn = 1) ∧ (wn = 0 ↔ inP s0 i) ∧ (eH.heap.size ≤ w_.heap.size)) ?_ ?_)
  ·refine wp_seq ?_
   refine At.start ?_
   refine At.rd jN 2 [[.cs ((ofW la : List Int).map wV)], []] [(72, .int .i64 (i)), (71, .agg ((ofW la : List Int).map wV).toArray)] [(((ofW la : List Int).map wV).length = 4), (∀ (j : Nat) (v : Value), ((ofW la : List Int).map wV)[j]? = some v → eH.cell? ((⟨bA.heap.size, 0, none⟩ : Addr).add j) = some v)] (by kernel_rfl) ⟨((List.length_map _).trans (okLen (ofW_ok _))), eV.whole, trivial⟩ (fun sA lZ => ?_)
   clear jN
   refine At.call lZ 23 #[.agg ((ofW la : List Int).map wV).toArray, .int .i64 (i)] (some 73) (by kernel_rfl) (has_any (s := ofW la) (n := i) (ofW_ok _)) ?_
   rintro e_ sB ⟨rfl, he⟩
   refine ⟨_, rfl, _, rfl, fun sC iC => ?_⟩
   clear lZ; have bX := gr_ext he; have := bX.size; replace bC := bC.gn bX; replace bT := bT.gn bX; replace bU := bU.gn bX; replace bD := bD.gn bX; replace eU := eU.gn bX; replace bE := bE.gn bX; replace bF := bF.gn bX; replace bV := bV.gn bX; replace bW := bW.gn bX; replace aM := aM.gn bX; replace eV := eV.gn bX; replace dO := dO.gn bX; replace dP := dP.gn bX; have mA := fN.gn bX; clear fN
   replace dH := dH.gn bX; replace cF := cF.gn bX; replace cG := cG.gn bX; have mB := hB.gn bX; clear hB; replace bL := bL.gn bX; clear bX he
   refine At.done rfl ?_
   refine t_n ?_
   refine cond_S iC (t := hasW (ofW la) i) rfl (fun oW => ?_) (fun oW => ?_)
   ·refine At.start ?_
    refine At.rd iC 1 [[]] [(14, .int .i64 (0))] [] (by kernel_rfl) trivial (fun sD oX => ?_)
    clear iC
    refine At.done rfl ?_
    refine t_n ?_
    have oY := oX.sub (r := [(14, .int .i64 (0)), (13, .int .i64 (i)), (12, .pointer (some ⟨aB.heap.size, 0, none⟩)), (11, .pointer (some ⟨aD.heap.size, 0, none⟩)), (10, .pointer (some ⟨bA.heap.size, 0, none⟩)), (8, .pointer (some ⟨aA.heap.size, 0, none⟩)), (4, .bool false), (2, .pointer (some ⟨w.heap.size, 0, none⟩)), (1, .slice Ak lk.length ck)]) ⟨rfl, rfl, rfl, rfl, rfl, rfl, rfl, rfl, rfl, trivial⟩
    exact ⟨0, oY, bC, bT, bU, bD, eU, bE, bF, bV, bW, aM, eV, dO, dP, mA, dH, cF, cG, mB, bL, (by first | exact (won_0 hS.ok0 hla_ (by assumption)).2 | exact (won_1 hS.ok0 hla_ (by assumption)).2), (by omega), (by first | exact ⟨fun _ => (won_0 hS.ok0 hla_ (by assumption)).1, fun _ => rfl⟩ | exact ⟨fun h_ => absurd h_ (by omega), fun h_ => absurd h_ (won_1 hS.ok0 hla_ (by assumption)).1⟩), (by omega)⟩
   refine wp_skip ?_
   refine t_n ?_
   have oZ := iC.sub (r := [(14, .int .i64 (1)), (13, .int .i64 (i)), (12, .pointer (some ⟨aB.heap.size, 0, none⟩)), (11, .pointer (some ⟨aD.heap.size, 0, none⟩)), (10, .pointer (some ⟨bA.heap.size, 0, none⟩)), (8, .pointer (some ⟨aA.heap.size, 0, none⟩)), (4, .bool false), (2, .pointer (some ⟨w.heap.size, 0, none⟩)), (1, .slice Ak lk.length ck)]) ⟨rfl, rfl, rfl, rfl, rfl, rfl, rfl, rfl, rfl, trivial⟩
   exact ⟨1, oZ, bC, bT, bU, bD, eU, bE, bF, bV, bW, aM, eV, dO, dP, mA, dH, cF, cG, mB, bL, (by first | exact (won_0 hS.ok0 hla_ (by assumption)).2 | exact (won_1 hS.ok0 hla_ (by assumption)).2), (by omega), (by first | exact ⟨fun _ => (won_0 hS.ok0 hla_ (by assumption)).1, fun _ => rfl⟩ | exact ⟨fun h_ => absurd h_ (by omega), fun h_ => absurd h_ (won_1 hS.ok0 hla_ (by assumption)).1⟩), (by omega)⟩
  clear bT; clear bU; clear bD; clear eU; clear bE; clear bF; clear bV; clear bW; clear aM; clear eV; clear dO; clear dP; clear fN; clear dH; clear cF; clear cG; clear hB; clear bL; clear jN bC
  intro sE gF ⟨wn, mC, cL, cM, cN, cX, cJ, cY, cZ, cO, cP, cH, cQ, fO, fP, fQ, aU, fR, fS, fT, cR, hwv, hwo, hwi, i415⟩
  have := cL.size; have := cJ.lt; have := cH.lt; have := cQ.lt; have := aU.lt; have := cR.lt
  refine wp_seq ?_
  refine wp_seq ?_
  refine At.start ?_
  obtain ⟨iD, pA, _, _, pB⟩ := RdI.get cM.ow (i) (by omega) (by omega)
  refine At.rd mC 7 [[], [.ld (.slice Ag0 g.ow.length cg0)], [], [.ad iD], [.ld (.int .i64 (gI g.ow (i)))], [], []] [(80, .bool ((gI g.ow (i) : Int) == wn)), (79, .int .i64 (wn)), (78, .int .i64 (gI g.ow (i))), (77, .pointer (some (iD.add ((i : Int).toNat * 1)))), (76, .int .i64 (i)), (75, .slice Ag0 g.ow.length cg0), (74, .pointer (some ⟨w.heap.size, 0, none⟩))] [(gF.cell? ⟨w.heap.size, 0, none⟩ = some (.slice Ag0 g.ow.length cg0)), (Ag0 = some iD), (0 ≤ (i : Int)), ((i : Int) < (g.ow.length : Nat)), (gF.cell? (iD.add ((i : Int).toNat * 1)) = some (.int .i64 (gI g.ow (i))))] (by kernel_rfl) ⟨(cJ.cell (i := 0) rfl), pA, (by omega), (by omega), pB, trivial⟩ (fun sF fU => ?_)
  clear mC
  refine At.done rfl ?_
  refine t_n ?_
  refine cond_S fU (t := (gI g.ow (i) : Int) == wn) rfl (fun jO => ?_) (fun jO => ?_)
  ·have sG := eq_of_beq jO
   refine wp_seq ?_
   rcases hwo with rfl | rfl
   ·obtain ⟨hD, pC, _, _, pD⟩ := RdI.get cO (i) (by omega) (by omega)
    obtain ⟨hE, hF⟩ : ∃ c : List (Addr × Value), c = [(⟨aD.heap.size, 2, none⟩, (.slice aC hm.length aL)), (⟨aA.heap.size, 2, none⟩, (.slice bR ma.length dI)), ((hD.add ((i : Int).toNat * 1)), (.int .i64 (gI ma (i))))] := ⟨_, rfl⟩
    have mD : HoldsC hE gF := by rw [hF]; exact ⟨(aU.cell (i := 2) rfl), (cH.cell (i := 2) rfl), pD, trivial⟩
    refine AtH.start hE 13 #[false, false, false, false, false, false, false, false, false, false, false, false, false] (by kernel_rfl) rfl rfl (fun fV mE => ?_)
    have bM := gr_drew mE; have mF := mD.gr bM; have := bM.size; replace cL := cL.gn bM; replace cM := cM.gn bM; replace cN := cN.gn bM; replace cX := cX.gn bM; replace cJ := cJ.gn bM; replace cY := cY.gn bM; replace cZ := cZ.gn bM; replace cO := cO.gn bM; replace cP := cP.gn bM; replace cH := cH.gn bM; replace cQ := cQ.gn bM; have gG := fO.gn bM; clear fO; have gH := fP.gn bM; clear fP
    have gJ := fQ.gn bM; clear fQ; replace aU := aU.gn bM; have gK := fR.gn bM; clear fR; have gM := fS.gn bM; clear fS; have gN := fT.gn bM; clear fT; replace cR := cR.gn bM; clear bM mE mD
    refine AtH.rd (by kernel_rfl) (fun d v c a w h => by cases d <;> exact h) mF [0, 1, 2, 3, 4, 5, 6, 7, 8, 9] [[], [.ld (.slice aC hm.length aL)], [], [], [], [], [.ld (.slice bR ma.length dI)], [], [.ad hD], [.ld (.int .i64 (gI ma (i)))]] [(90, .int .i64 (gI ma (i))), (89, .pointer (some (hD.add ((i : Int).toNat * 1)))), (88, .int .i64 (i)), (87, .slice bR ma.length dI), (86, .pointer (some ⟨aA.heap.size, 2, none⟩)), (85, .pointer (some ⟨aA.heap.size, 2, none⟩)), (84, .int .i64 (0)), (83, .int .i64 (i)), (82, .slice aC hm.length aL), (81, .pointer (some ⟨aD.heap.size, 2, none⟩))] #[true, true, true, true, true, true, true, true, true, true, false, false, false] [(∃ j_ : Nat, hE[j_]? = some (⟨aD.heap.size, 2, none⟩, (.slice aC hm.length aL))), (0 ≤ (0 : Int)), ((0 : Int) < (2 : Nat)), (∃ j_ : Nat, hE[j_]? = some (⟨aA.heap.size, 2, none⟩, (.slice bR ma.length dI))), (bR = some hD), (0 ≤ (i : Int)), ((i : Int) < (ma.length : Nat)), (∃ j_ : Nat, hE[j_]? = some ((hD.add ((i : Int).toNat * 1)), (.int .i64 (gI ma (i)))))] 3 fU (by kernel_rfl) ⟨⟨0, by rw [hF]; rfl⟩, (by decide), (by decide), ⟨1, by rw [hF]; rfl⟩, pC, (by omega), (by omega), ⟨2, by rw [hF]; rfl⟩, trivial⟩ (fun sH mG => ?_)
    clear fU
    refine AtH.all [10] 2 (by kernel_rfl) (by simp) ⟨?_, trivial⟩
    refine OneH.seq mG [[]] [(91, .slice (some ⟨fV.heap.size, 0, none⟩) 1 1)] (fV.alloc (.cells #[.int .i64 (gI ma (i))] 3 (0, 0))) [] #[true, true, true, true, true, true, true, true, true, true, true, false, false] (by kernel_rfl) (by kernel_rfl) (by kernel_rfl) trivial (fun sI iE jP mH => ?_)
    clear mG; have bN := gr_alloc jP; have jQ := mF.gr bN
    refine ⟨jQ, ?_⟩
    have := bN.size; replace cL := cL.gn bN; replace cM := cM.gn bN; replace cN := cN.gn bN; replace cX := cX.gn bN; replace cJ := cJ.gn bN; replace cY := cY.gn bN; replace cZ := cZ.gn bN; replace cO := cO.gn bN; replace cP := cP.gn bN; replace cH := cH.gn bN; replace cQ := cQ.gn bN; replace gG := gG.grN bN; replace gH := gH.grN bN; replace gJ := gJ.grN bN; replace aU := aU.gn bN
    replace gK := gK.grN bN; replace gM := gM.grN bN; replace gN := gN.grN bN; replace cR := cR.gn bN; have jR : Bx iE (fV.heap.size) [.int .i64 (gI ma (i))] 3 := Bx.new jP; have := jR.lt; clear bN jP
    obtain ⟨iF, sJ, sK, mI, sL, sM, pE, pF⟩ := gJ.get (i) (by omega) (by omega)
    refine AtH.rd (by kernel_rfl) (fun d v c a w h => by cases d <;> exact h) jQ [11] [[.ad iF]] [(92, .pointer (some (iF.add ((i : Int).toNat * 1))))] #[true, true, true, true, true, true, true, true, true, true, true, true, false] [(aC = some iF), (0 ≤ (i : Int)), ((i : Int) < (hm.length : Nat))] 1 mH (by kernel_rfl) ⟨mI, (by omega), (by omega), trivial⟩ (fun sN mJ => ?_)
    clear mH
    refine AtH.all [12] 0 (by kernel_rfl) (by simp) ⟨?_, trivial⟩
    clear pE; clear pF
    have mK : OwnR iE (Sx (fV.heap.size) [obk (aE), obk (aF), obk (aC), obk (aG), obk (aH), obk (aI)]) (some ⟨fV.heap.size, 0, none⟩) 1 3 ([gI ma (i)] : List Int) := Bx.ownR (n := 0) (l := ([gI ma (i)] : List Int)) jR rfl ⟨(gG.neb (fun g hs => hs.1)), (gH.neb (fun g hs => hs.1)), (gJ.neb (fun g hs => hs.1)), (gK.neb (fun g hs => hs.1)), (gM.neb (fun g hs => hs.1)), (gN.neb (fun g hs => hs.1)), (Nat.le_refl _)⟩ (show 1 ≤ maxLen by decide)
    clear jR
    have cS : OwnLL iE (aQ.heap.size) [obk (some ⟨fV.heap.size, 0, none⟩), some (aB.heap.size), obk (aG), obk (aH), obk (aI), some (aD.heap.size), obk (aE), obk (aF)] aC aL 22 3 (hm : List (List Int)) := gJ
    have mL : OwnR iE (Sx (aQ.heap.size) [some (aB.heap.size), obk (aG), obk (aH), obk (aI), some (aD.heap.size), obk (aE), obk (aF)]) (some ⟨fV.heap.size, 0, none⟩) 1 3 ([gI ma (i)] : List Int) := mK.imp (fun g _ hs => ⟨(fun e => by have := Sx_base hs; injection e; omega), hs.2.2.2.1, hs.2.2.2.2.1, hs.2.2.2.2.2.1, (fun e => by have := Sx_base hs; injection e; omega), hs.1, hs.2.1, (by have := Sx_base hs; show aQ.heap.size ≤ g; omega)⟩)
    have hip502 : ∀ q_, q_ < ((hm).set (i : Int).toNat [gI ma (i)]).length → (((hm).set (i : Int).toNat [gI ma (i)]).getD q_ []).length * 8 ≤ 140737488351232 := inner_set (by assumption) (by simp)
    refine OneH.act mJ #[true, true, true, true, true, true, true, true, true, true, true, true, true] (by kernel_rfl) (storeLLn (t := 22) (i := i) (ad := iF) (n := 1) (xs := [gI ma (i)]) (by kernel_rfl) (by kernel_rfl) mI cS mL (by first | rfl | omega | (simp; done) | (simp; omega)) (by omega) (by omega)) ?_
    rintro d_ v_ pG ⟨rfl, bY, pH⟩
    have mM := jQ.grO bY (by rw [hF]; exact ⟨(cS.neb (fun g hs => hs.2.2.2.2.2.1)), (fun e => by have := cS.ge _ e; simp only [add_block] at this; omega), (fun e => by have := cS.ge _ e; simp only [add_block] at this; omega), trivial⟩)
    refine ⟨_, rfl, fun sO mN => ⟨mM, ?_⟩⟩
    clear mJ; have sP : ((hm).set (i : Int).toNat [gI ma (i)]).length = (hm).length := List.length_set; clear gJ; clear mK; clear mL; have := bY.size; replace cL := cL.gr bY (fun k hk => by have := cS.ge k hk; omega); replace cM := cM.gr bY (fun k hk => by have := cS.ge k hk; omega); replace cN := cN.gr bY (fun k hk => by have := cS.ge k hk; omega)
    replace cX := cX.gr bY (fun k hk => by have := cS.ge k hk; omega); replace cJ := cJ.gr bY (fun e => by have := cS.ge _ e; omega); replace cY := cY.gr bY (fun k hk => by have := cS.ge k hk; omega); replace cZ := cZ.gr bY (fun k hk => by have := cS.ge k hk; omega); replace cO := cO.gr bY (fun k hk => by have := cS.ge k hk; omega); replace cP := cP.gr bY (fun k hk => by have := cS.ge k hk; omega)
    replace cH := cH.gr bY (fun e => by have := cS.ge _ e; omega); replace cQ := cQ.gr bY (fun e => by have := cS.ge _ e; omega); replace gG := gG.gr bY (fun k hk => hk.2.2.2.2.2.2.2.1); replace gH := gH.gr bY (fun k hk => hk.2.2.2.2.2.2.2.1); replace aU := aU.gr bY (cS.neb (fun g hs => hs.2.2.2.2.2.1)); replace gK := gK.gr bY (fun k hk => hk.2.2.2.2.1)
    replace gM := gM.gr bY (fun k hk => hk.2.2.2.2.1); replace gN := gN.gr bY (fun k hk => hk.2.2.2.2.1); replace cR := cR.gr bY (cS.neb (fun g hs => hs.2.1)); clear cS bY
    replace aU : Bx pG (aD.heap.size) [.slice aE g.ow.length cU, .slice aF g.pr.length cV, .slice aC (((hm).set (i : Int).toNat [gI ma (i)]).length) aL] 25 := aU.as (by first | rfl | (simp only [List.length_set]; done))
    refine AtH.done (by kernel_rfl) ?_
    clear mM
    refine t_n ?_
    refine wp_exit ?_
    refine t_e ?_
    refine b_e ?_
    refine t_n ?_
    refine At.start ?_
    refine At.rd mN 3 [[], [.as_ (.int .i64 (i + 1))], []] [(13, .int .i64 (i + 1)), (70, .int .i64 (i + 1)), (69, .int .i64 (i))] [((.int .i64 (IntKind.i64.wrap (i + 1)) : Value) = .int .i64 (i + 1))] (by kernel_rfl) ⟨(w64 (by omega) (by omega)), trivial⟩ (fun sQ pI => ?_)
    clear mN
    refine At.done rfl ?_
    refine t_n ?_
    have pJ := pI.sub (r := [(13, .int .i64 (i + 1)), (12, .pointer (some ⟨aB.heap.size, 0, none⟩)), (11, .pointer (some ⟨aD.heap.size, 0, none⟩)), (10, .pointer (some ⟨bA.heap.size, 0, none⟩)), (8, .pointer (some ⟨aA.heap.size, 0, none⟩)), (4, .bool false), (2, .pointer (some ⟨w.heap.size, 0, none⟩)), (1, .slice Ak lk.length ck)]) ⟨rfl, rfl, rfl, rfl, rfl, rfl, rfl, rfl, trivial⟩
    exact ⟨_, (by omega), (i + 1), ((hm).set (i : Int).toNat [gI ma (i)] : List (List Int)), aC, aL, (km : List (List Int)), aI, bK, rfl, pJ, cL, cM, cN, cX, cJ, cY, cZ, cO, cP, cH, cQ, (gG.imp (fun g _ hs => ⟨hs.2.1, hs.2.2.1, hs.2.2.2.1, hs.2.2.2.2.1, hs.2.2.2.2.2.1, hs.2.2.2.2.2.2.1, hs.2.2.2.2.2.2.2.1, hs.2.2.2.2.2.2.2.2⟩)), (gH.imp (fun g _ hs => ⟨hs.2.1, hs.2.2.1, hs.2.2.2.1, hs.2.2.2.2.1, hs.2.2.2.2.2.1, hs.2.2.2.2.2.2.1, hs.2.2.2.2.2.2.2.1, hs.2.2.2.2.2.2.2.2⟩)), pH, aU, (gK.imp (fun g _ hs => ⟨hs.2.1, hs.2.2.1, hs.2.2.2.1, hs.2.2.2.2.1, hs.2.2.2.2.2.1, hs.2.2.2.2.2.2.1, hs.2.2.2.2.2.2.2⟩)), (gM.imp (fun g _ hs => ⟨hs.2.1, hs.2.2.1, hs.2.2.2.1, hs.2.2.2.2.1, hs.2.2.2.2.2.1, hs.2.2.2.2.2.2.1, hs.2.2.2.2.2.2.2⟩)), (gN.imp (fun g _ hs => ⟨hs.2.1, hs.2.2.1, hs.2.2.2.1, hs.2.2.2.2.1, hs.2.2.2.2.2.1, hs.2.2.2.2.2.2.1, hs.2.2.2.2.2.2.2⟩)), cR, (by omega), (by omega), (few_yes hfh (by omega) (by omega) (show gI g.ow i = wonBy s0 i by omega) (by have h2_ := strat_in hR hS (i := i) (by omega) (by omega) (by omega); unfold stratF at h2_; first | (rw [if_pos (hwi.1 rfl)] at h2_; exact h2_) | (rw [if_neg (fun h_ => absurd (hwi.2 h_) (by decide))] at h2_; exact h2_))), (fewF_yes hfh.len hff (by omega) (by omega) (by unfold stratF; first | (rw [if_pos (hwi.1 rfl)]; done) | rw [if_neg (fun h_ => absurd (hwi.2 h_) (by decide))])), (few_no hfk (by intro hc_; exact hc_ (show gI g.ow i = wonBy s0 i by omega))), (inner_set hih (by simp)), hik, (by rw [List.length_set]; assumption), (by omega), (by omega), (by omega)⟩
   obtain ⟨hH, pK, _, _, pL⟩ := RdI.get cP (i) (by omega) (by omega)
   obtain ⟨hI, hJ⟩ : ∃ c : List (Addr × Value), c = [(⟨aD.heap.size, 2, none⟩, (.slice aC hm.length aL)), (⟨aA.heap.size, 3, none⟩, (.slice bS mb.length dJ)), ((hH.add ((i : Int).toNat * 1)), (.int .i64 (gI mb (i))))] := ⟨_, rfl⟩
   have mO : HoldsC hI gF := by rw [hJ]; exact ⟨(aU.cell (i := 2) rfl), (cH.cell (i := 3) rfl), pL, trivial⟩
   refine AtH.start hI 13 #[false, false, false, false, false, false, false, false, false, false, false, false, false] (by kernel_rfl) rfl rfl (fun fW mP => ?_)
   have bO := gr_drew mP; have mQ := mO.gr bO; have := bO.size; replace cL := cL.gn bO; replace cM := cM.gn bO; replace cN := cN.gn bO; replace cX := cX.gn bO; replace cJ := cJ.gn bO; replace cY := cY.gn bO; replace cZ := cZ.gn bO; replace cO := cO.gn bO; replace cP := cP.gn bO; replace cH := cH.gn bO; replace cQ := cQ.gn bO; have gO := fO.gn bO; clear fO; have gP := fP.gn bO; clear fP
   have gQ := fQ.gn bO; clear fQ; replace aU := aU.gn bO; have gR := fR.gn bO; clear fR; have gS := fS.gn bO; clear fS; have gT := fT.gn bO; clear fT; replace cR := cR.gn bO; clear bO mP mO
   refine AtH.rd (by kernel_rfl) (fun d v c a w h => by cases d <;> exact h) mQ [0, 1, 2, 3, 4, 5, 6, 7, 8, 9] [[], [.ld (.slice aC hm.length aL)], [], [], [], [], [.ld (.slice bS mb.length dJ)], [], [.ad hH], [.ld (.int .i64 (gI mb (i)))]] [(90, .int .i64 (gI mb (i))), (89, .pointer (some (hH.add ((i : Int).toNat * 1)))), (88, .int .i64 (i)), (87, .slice bS mb.length dJ), (86, .pointer (some ⟨aA.heap.size, 3, none⟩)), (85, .pointer (some ⟨aA.heap.size, 2, none⟩)), (84, .int .i64 (1)), (83, .int .i64 (i)), (82, .slice aC hm.length aL), (81, .pointer (some ⟨aD.heap.size, 2, none⟩))] #[true, true, true, true, true, true, true, true, true, true, false, false, false] [(∃ j_ : Nat, hI[j_]? = some (⟨aD.heap.size, 2, none⟩, (.slice aC hm.length aL))), (0 ≤ (1 : Int)), ((1 : Int) < (2 : Nat)), (∃ j_ : Nat, hI[j_]? = some (⟨aA.heap.size, 3, none⟩, (.slice bS mb.length dJ))), (bS = some hH), (0 ≤ (i : Int)), ((i : Int) < (mb.length : Nat)), (∃ j_ : Nat, hI[j_]? = some ((hH.add ((i : Int).toNat * 1)), (.int .i64 (gI mb (i)))))] 3 fU (by kernel_rfl) ⟨⟨0, by rw [hJ]; rfl⟩, (by decide), (by decide), ⟨1, by rw [hJ]; rfl⟩, pK, (by omega), (by omega), ⟨2, by rw [hJ]; rfl⟩, trivial⟩ (fun sR mR => ?_)
   clear fU
   refine AtH.all [10] 2 (by kernel_rfl) (by simp) ⟨?_, trivial⟩
   refine OneH.seq mR [[]] [(91, .slice (some ⟨fW.heap.size, 0, none⟩) 1 1)] (fW.alloc (.cells #[.int .i64 (gI mb (i))] 3 (0, 0))) [] #[true, true, true, true, true, true, true, true, true, true, true, false, false] (by kernel_rfl) (by kernel_rfl) (by kernel_rfl) trivial (fun sS iG jS mS => ?_)
   clear mR; have bP := gr_alloc jS; have jT := mQ.gr bP
   refine ⟨jT, ?_⟩
   have := bP.size; replace cL := cL.gn bP; replace cM := cM.gn bP; replace cN := cN.gn bP; replace cX := cX.gn bP; replace cJ := cJ.gn bP; replace cY := cY.gn bP; replace cZ := cZ.gn bP; replace cO := cO.gn bP; replace cP := cP.gn bP; replace cH := cH.gn bP; replace cQ := cQ.gn bP; replace gO := gO.grN bP; replace gP := gP.grN bP; replace gQ := gQ.grN bP; replace aU := aU.gn bP
   replace gR := gR.grN bP; replace gS := gS.grN bP; replace gT := gT.grN bP; replace cR := cR.gn bP; have jU : Bx iG (fW.heap.size) [.int .i64 (gI mb (i))] 3 := Bx.new jS; have := jU.lt; clear bP jS
   obtain ⟨iH, sT, sU, mT, sV, sW, pM, pN⟩ := gQ.get (i) (by omega) (by omega)
   refine AtH.rd (by kernel_rfl) (fun d v c a w h => by cases d <;> exact h) jT [11] [[.ad iH]] [(92, .pointer (some (iH.add ((i : Int).toNat * 1))))] #[true, true, true, true, true, true, true, true, true, true, true, true, false] [(aC = some iH), (0 ≤ (i : Int)), ((i : Int) < (hm.length : Nat))] 1 mS (by kernel_rfl) ⟨mT, (by omega), (by omega), trivial⟩ (fun sX mU => ?_)
   clear mS
   refine AtH.all [12] 0 (by kernel_rfl) (by simp) ⟨?_, trivial⟩
   clear pM; clear pN
   have mV : OwnR iG (Sx (fW.heap.size) [obk (aE), obk (aF), obk (aC), obk (aG), obk (aH), obk (aI)]) (some ⟨fW.heap.size, 0, none⟩) 1 3 ([gI mb (i)] : List Int) := Bx.ownR (n := 0) (l := ([gI mb (i)] : List Int)) jU rfl ⟨(gO.neb (fun g hs => hs.1)), (gP.neb (fun g hs => hs.1)), (gQ.neb (fun g hs => hs.1)), (gR.neb (fun g hs => hs.1)), (gS.neb (fun g hs => hs.1)), (gT.neb (fun g hs => hs.1)), (Nat.le_refl _)⟩ (show 1 ≤ maxLen by decide)
   clear jU
   have cT : OwnLL iG (aQ.heap.size) [obk (some ⟨fW.heap.size, 0, none⟩), some (aB.heap.size), obk (aG), obk (aH), obk (aI), some (aD.heap.size), obk (aE), obk (aF)] aC aL 22 3 (hm : List (List Int)) := gQ
   have mW : OwnR iG (Sx (aQ.heap.size) [some (aB.heap.size), obk (aG), obk (aH), obk (aI), some (aD.heap.size), obk (aE), obk (aF)]) (some ⟨fW.heap.size, 0, none⟩) 1 3 ([gI mb (i)] : List Int) := mV.imp (fun g _ hs => ⟨(fun e => by have := Sx_base hs; injection e; omega), hs.2.2.2.1, hs.2.2.2.2.1, hs.2.2.2.2.2.1, (fun e => by have := Sx_base hs; injection e; omega), hs.1, hs.2.1, (by have := Sx_base hs; show aQ.heap.size ≤ g; omega)⟩)
   have hip606 : ∀ q_, q_ < ((hm).set (i : Int).toNat [gI mb (i)]).length → (((hm).set (i : Int).toNat [gI mb (i)]).getD q_ []).length * 8 ≤ 140737488351232 := inner_set (by assumption) (by simp)
   refine OneH.act mU #[true, true, true, true, true, true, true, true, true, true, true, true, true] (by kernel_rfl) (storeLLn (t := 22) (i := i) (ad := iH) (n := 1) (xs := [gI mb (i)]) (by kernel_rfl) (by kernel_rfl) mT cT mW (by first | rfl | omega | (simp; done) | (simp; omega)) (by omega) (by omega)) ?_
   rintro d_ v_ pO ⟨rfl, bZ, pP⟩
   have mX := jT.grO bZ (by rw [hJ]; exact ⟨(cT.neb (fun g hs => hs.2.2.2.2.2.1)), (fun e => by have := cT.ge _ e; simp only [add_block] at this; omega), (fun e => by have := cT.ge _ e; simp only [add_block] at this; omega), trivial⟩)
   refine ⟨_, rfl, fun sY mY => ⟨mX, ?_⟩⟩
   clear mU; have sZ : ((hm).set (i : Int).toNat [gI mb (i)]).length = (hm).length := List.length_set; clear gQ; clear mV; clear mW; have := bZ.size; replace cL := cL.gr bZ (fun k hk => by have := cT.ge k hk; omega); replace cM := cM.gr bZ (fun k hk => by have := cT.ge k hk; omega); replace cN := cN.gr bZ (fun k hk => by have := cT.ge k hk; omega)
   replace cX := cX.gr bZ (fun k hk => by have := cT.ge k hk; omega); replace cJ := cJ.gr bZ (fun e => by have := cT.ge _ e; omega); replace cY := cY.gr bZ (fun k hk => by have := cT.ge k hk; omega); replace cZ := cZ.gr bZ (fun k hk => by have := cT.ge k hk; omega); replace cO := cO.gr bZ (fun k hk => by have := cT.ge k hk; omega); replace cP := cP.gr bZ (fun k hk => by have := cT.ge k hk; omega)
   replace cH := cH.gr bZ (fun e => by have := cT.ge _ e; omega); replace cQ := cQ.gr bZ (fun e => by have := cT.ge _ e; omega); replace gO := gO.gr bZ (fun k hk => hk.2.2.2.2.2.2.2.1); replace gP := gP.gr bZ (fun k hk => hk.2.2.2.2.2.2.2.1); replace aU := aU.gr bZ (cT.neb (fun g hs => hs.2.2.2.2.2.1)); replace gR := gR.gr bZ (fun k hk => hk.2.2.2.2.1)
   replace gS := gS.gr bZ (fun k hk => hk.2.2.2.2.1); replace gT := gT.gr bZ (fun k hk => hk.2.2.2.2.1); replace cR := cR.gr bZ (cT.neb (fun g hs => hs.2.1)); clear cT bZ
   replace aU : Bx pO (aD.heap.size) [.slice aE g.ow.length cU, .slice aF g.pr.length cV, .slice aC (((hm).set (i : Int).toNat [gI mb (i)]).length) aL] 25 := aU.as (by first | rfl | (simp only [List.length_set]; done))
   refine AtH.done (by kernel_rfl) ?_
   clear mX
   refine t_n ?_
   refine wp_exit ?_
   refine t_e ?_
   refine b_e ?_
   refine t_n ?_
   refine At.start ?_
   refine At.rd mY 3 [[], [.as_ (.int .i64 (i + 1))], []] [(13, .int .i64 (i + 1)), (70, .int .i64 (i + 1)), (69, .int .i64 (i))] [((.int .i64 (IntKind.i64.wrap (i + 1)) : Value) = .int .i64 (i + 1))] (by kernel_rfl) ⟨(w64 (by omega) (by omega)), trivial⟩ (fun tA pQ => ?_)
   clear mY
   refine At.done rfl ?_
   refine t_n ?_
   have pR := pQ.sub (r := [(13, .int .i64 (i + 1)), (12, .pointer (some ⟨aB.heap.size, 0, none⟩)), (11, .pointer (some ⟨aD.heap.size, 0, none⟩)), (10, .pointer (some ⟨bA.heap.size, 0, none⟩)), (8, .pointer (some ⟨aA.heap.size, 0, none⟩)), (4, .bool false), (2, .pointer (some ⟨w.heap.size, 0, none⟩)), (1, .slice Ak lk.length ck)]) ⟨rfl, rfl, rfl, rfl, rfl, rfl, rfl, rfl, trivial⟩
   exact ⟨_, (by omega), (i + 1), ((hm).set (i : Int).toNat [gI mb (i)] : List (List Int)), aC, aL, (km : List (List Int)), aI, bK, rfl, pR, cL, cM, cN, cX, cJ, cY, cZ, cO, cP, cH, cQ, (gO.imp (fun g _ hs => ⟨hs.2.1, hs.2.2.1, hs.2.2.2.1, hs.2.2.2.2.1, hs.2.2.2.2.2.1, hs.2.2.2.2.2.2.1, hs.2.2.2.2.2.2.2.1, hs.2.2.2.2.2.2.2.2⟩)), (gP.imp (fun g _ hs => ⟨hs.2.1, hs.2.2.1, hs.2.2.2.1, hs.2.2.2.2.1, hs.2.2.2.2.2.1, hs.2.2.2.2.2.2.1, hs.2.2.2.2.2.2.2.1, hs.2.2.2.2.2.2.2.2⟩)), pP, aU, (gR.imp (fun g _ hs => ⟨hs.2.1, hs.2.2.1, hs.2.2.2.1, hs.2.2.2.2.1, hs.2.2.2.2.2.1, hs.2.2.2.2.2.2.1, hs.2.2.2.2.2.2.2⟩)), (gS.imp (fun g _ hs => ⟨hs.2.1, hs.2.2.1, hs.2.2.2.1, hs.2.2.2.2.1, hs.2.2.2.2.2.1, hs.2.2.2.2.2.2.1, hs.2.2.2.2.2.2.2⟩)), (gT.imp (fun g _ hs => ⟨hs.2.1, hs.2.2.1, hs.2.2.2.1, hs.2.2.2.2.1, hs.2.2.2.2.2.1, hs.2.2.2.2.2.2.1, hs.2.2.2.2.2.2.2⟩)), cR, (by omega), (by omega), (few_yes hfh (by omega) (by omega) (show gI g.ow i = wonBy s0 i by omega) (by have h2_ := strat_in hR hS (i := i) (by omega) (by omega) (by omega); unfold stratF at h2_; first | (rw [if_pos (hwi.1 rfl)] at h2_; exact h2_) | (rw [if_neg (fun h_ => absurd (hwi.2 h_) (by decide))] at h2_; exact h2_))), (fewF_yes hfh.len hff (by omega) (by omega) (by unfold stratF; first | (rw [if_pos (hwi.1 rfl)]; done) | rw [if_neg (fun h_ => absurd (hwi.2 h_) (by decide))])), (few_no hfk (by intro hc_; exact hc_ (show gI g.ow i = wonBy s0 i by omega))), (inner_set hih (by simp)), hik, (by rw [List.length_set]; assumption), (by omega), (by omega), (by omega)⟩
  have tB := ne_of_beq_false jO
  refine wp_skip ?_
  refine t_n ?_
  refine wp_seq ?_
  refine At.start ?_
  refine At.rd fU 1 [[]] [(15, .int .i64 (0))] [] (by kernel_rfl) trivial (fun tC jV => ?_)
  clear fU
  refine At.done rfl ?_
  refine t_n ?_
  refine wp_seq (cut (fun a_ w_ => ∃ (y : Int), (Frm 150 a_ [(15, .int .i64 (y)), (13, .int .i64 (i)), (12, .pointer (some ⟨aB.heap.size, 0, none⟩)), (11, .pointer (some ⟨aD.heap.size, 0, none⟩)), (10, .pointer (some ⟨bA.heap.size, 0, none⟩)), (8, .pointer (some ⟨aA.heap.size, 0, none⟩)), (4, .bool false), (2, .pointer (some ⟨w.heap.size, 0, none⟩)), (1, .slice Ak lk.length ck)]) ∧ (Ext w w_) ∧ (RdG w_ 0 w.heap.size Ag0 Ag1 Ag2 cg0 cg1 cg2 g) ∧ (RdI w_ 0 w.heap.size Ak lk) ∧ (RdT w_ 0 w.heap.size) ∧ (Bx w_ (w.heap.size) [.slice Ag0 g.ow.length cg0, .slice Ag1 g.pr.length cg1, .slice Ag2 g.mv.length cg2] 25) ∧ (RdI w_ (aZ.heap.size) aA.heap.size aN la) ∧ (RdI w_ (aZ.heap.size) aA.heap.size bQ lb) ∧ (RdI w_ (aZ.heap.size) aA.heap.size bR ma) ∧ (RdI w_ (aZ.heap.size) aA.heap.size bS mb) ∧ (Bx w_ (aA.heap.size) [.slice aN la.length cC, .slice bQ lb.length dC, .slice bR ma.length dI, .slice bS mb.length dJ] 32) ∧ (Bx w_ (bA.heap.size) ((ofW la : List Int).map wV) 44) ∧ (OwnR w_ (Sx (aQ.heap.size) [some (aB.heap.size), obk (aG), obk (aH), obk (aI), some (aD.heap.size), obk (aF), obk (aC)]) aE cU 3 (g.ow : List Int)) ∧ (OwnR w_ (Sx (aQ.heap.size) [some (aB.heap.size), obk (aG), obk (aH), obk (aI), some (aD.heap.size), obk (aE), obk (aC)]) aF cV 3 (g.pr : List Int)) ∧ (OwnLL w_ (aQ.heap.size) [some (aB.heap.size), obk (aG), obk (aH), obk (aI), some (aD.heap.size), obk (aE), obk (aF)] aC aL 22 3 (hm : List (List Int))) ∧ (Bx w_ (aD.heap.size) [.slice aE g.ow.length cU, .slice aF g.pr.length cV, .slice aC hm.length aL] 25) ∧ (OwnR w_ (Sx (bB.heap.size) [some (aB.heap.size), obk (aE), obk (aF), obk (aC), obk (aH), obk (aI)]) aG dF 3 (g.ow : List Int)) ∧ (OwnR w_ (Sx (bB.heap.size) [some (aB.heap.size), obk (aE), obk (aF), obk (aC), obk (aG), obk (aI)]) aH dG 3 (g.pr : List Int)) ∧ (OwnLL w_ (bB.heap.size) [some (aB.heap.size), obk (aE), obk (aF), obk (aC), obk (aG), obk (aH)] aI bK 22 3 (km : List (List Int))) ∧ (Bx w_ (aB.heap.size) [.slice aG g.ow.length dF, .slice aH g.pr.length dG, .slice aI km.length bK] 25) ∧ (-9223372036854775808 ≤ y) ∧ (y ≤ 9223372036854775807) ∧ (gF.heap.size ≤ w_.heap.size)) ?_ ?_)
  ·refine wp_seq ?_
   refine At.start ?_
   refine At.rd jV 3 [[], [], []] [(95, .bool (decide ((((lk.length : Nat) : Int) : Int) > 0))), (94, .int .i64 (((lk.length : Nat) : Int))), (93, .slice Ak lk.length ck)] [] (by kernel_rfl) trivial (fun tD iI => ?_)
   clear jV
   refine At.done rfl ?_
   refine t_n ?_
   refine cond_S iI (t := decide ((((lk.length : Nat) : Int) : Int) > 0)) rfl (fun jW => ?_) (fun jW => ?_)
   ·have tE := of_decide_eq_true jW
    have hmod_ := Int.emod_lt_of_pos i (show (0 : Int) < (lk.length : Int) by omega); have hmod2_ := Int.emod_nonneg i (show ((lk.length : Nat) : Int) ≠ 0 by omega); have hmm_ := hok _ (mem_of_gI (l := lk) (k := i % ((lk.length : Nat) : Int)) (by omega) (by omega))
    unfold I64 at hmm_
    refine At.start ?_
    obtain ⟨iJ, pS, _, _, pT⟩ := RdI.get cN ((i : Int) % ((lk.length : Nat) : Int)) (by omega) (by omega)
    refine At.rd iI 8 [[], [], [], [], [.as_ (.int .i64 ((i : Int) % ((lk.length : Nat) : Int)))], [.ad iJ], [.ld (.int .i64 (gI lk ((i : Int) % ((lk.length : Nat) : Int))))], []] [(15, .int .i64 (gI lk ((i : Int) % ((lk.length : Nat) : Int)))), (102, .int .i64 (gI lk ((i : Int) % ((lk.length : Nat) : Int)))), (101, .pointer (some (iJ.add (((i : Int) % ((lk.length : Nat) : Int) : Int).toNat * 1)))), (100, .int .i64 ((i : Int) % ((lk.length : Nat) : Int))), (99, .int .i64 (((lk.length : Nat) : Int))), (98, .slice Ak lk.length ck), (97, .int .i64 (i)), (96, .slice Ak lk.length ck)] [((((lk.length : Nat) : Int) : Int) ≠ 0), ((.int .i64 ((i : Int).tmod ((lk.length : Nat) : Int)) : Value) = .int .i64 ((i : Int) % ((lk.length : Nat) : Int))), (Ak = some iJ), (0 ≤ ((i : Int) % ((lk.length : Nat) : Int) : Int)), (((i : Int) % ((lk.length : Nat) : Int) : Int) < (lk.length : Nat)), (gF.cell? (iJ.add (((i : Int) % ((lk.length : Nat) : Int) : Int).toNat * 1)) = some (.int .i64 (gI lk ((i : Int) % ((lk.length : Nat) : Int)))))] (by kernel_rfl) ⟨(by omega), (congrArg (Value.int .i64) (tmodE (by omega) _)), pS, (by omega), (by omega), pT, trivial⟩ (fun tF pU => ?_)
    clear iI
    refine At.done rfl ?_
    refine t_n ?_
    have pV := pU.sub (r := [(15, .int .i64 (gI lk ((i : Int) % ((lk.length : Nat) : Int)))), (13, .int .i64 (i)), (12, .pointer (some ⟨aB.heap.size, 0, none⟩)), (11, .pointer (some ⟨aD.heap.size, 0, none⟩)), (10, .pointer (some ⟨bA.heap.size, 0, none⟩)), (8, .pointer (some ⟨aA.heap.size, 0, none⟩)), (4, .bool false), (2, .pointer (some ⟨w.heap.size, 0, none⟩)), (1, .slice Ak lk.length ck)]) ⟨rfl, rfl, rfl, rfl, rfl, rfl, rfl, rfl, rfl, trivial⟩
    exact ⟨gI lk ((i : Int) % ((lk.length : Nat) : Int)), pV, cL, cM, cN, cX, cJ, cY, cZ, cO, cP, cH, cQ, fO, fP, fQ, aU, fR, fS, fT, cR, (by omega), (by omega), (by omega)⟩
   have tG := of_decide_eq_false jW
   refine wp_skip ?_
   refine t_n ?_
   have pW := iI.sub (r := [(15, .int .i64 (0)), (13, .int .i64 (i)), (12, .pointer (some ⟨aB.heap.size, 0, none⟩)), (11, .pointer (some ⟨aD.heap.size, 0, none⟩)), (10, .pointer (some ⟨bA.heap.size, 0, none⟩)), (8, .pointer (some ⟨aA.heap.size, 0, none⟩)), (4, .bool false), (2, .pointer (some ⟨w.heap.size, 0, none⟩)), (1, .slice Ak lk.length ck)]) ⟨rfl, rfl, rfl, rfl, rfl, rfl, rfl, rfl, rfl, trivial⟩
   exact ⟨0, pW, cL, cM, cN, cX, cJ, cY, cZ, cO, cP, cH, cQ, fO, fP, fQ, aU, fR, fS, fT, cR, (by omega), (by omega), (by omega)⟩
  clear cM; clear cN; clear cX; clear cJ; clear cY; clear cZ; clear cO; clear cP; clear cH; clear cQ; clear fO; clear fP; clear fQ; clear aU; clear fR; clear fS; clear fT; clear cR; clear jV cL
  intro tH pX ⟨y, jX, iK, jY, jZ, kA, iL, kB, kC, kD, kE, iM, iN, kF, kG, kH, iO, kI, kJ, kK, iP, i668, i669, i670⟩
  have := iK.size; have := iL.lt; have := iM.lt; have := iN.lt; have := iO.lt; have := iP.lt
  refine wp_seq (cut (fun a_ w_ => ∃ (z : Int), (Frm 150 a_ [(15, .int .i64 (z)), (13, .int .i64 (i)), (12, .pointer (some ⟨aB.heap.size, 0, none⟩)), (11, .pointer (some ⟨aD.heap.size, 0, none⟩)), (10, .pointer (some ⟨bA.heap.size, 0, none⟩)), (8, .pointer (some ⟨aA.heap.size, 0, none⟩)), (4, .bool false), (2, .pointer (some ⟨w.heap.size, 0, none⟩)), (1, .slice Ak lk.length ck)]) ∧ (Ext w w_) ∧ (RdG w_ 0 w.heap.size Ag0 Ag1 Ag2 cg0 cg1 cg2 g) ∧ (RdI w_ 0 w.heap.size Ak lk) ∧ (RdT w_ 0 w.heap.size) ∧ (Bx w_ (w.heap.size) [.slice Ag0 g.ow.length cg0, .slice Ag1 g.pr.length cg1, .slice Ag2 g.mv.length cg2] 25) ∧ (RdI w_ (aZ.heap.size) aA.heap.size aN la) ∧ (RdI w_ (aZ.heap.size) aA.heap.size bQ lb) ∧ (RdI w_ (aZ.heap.size) aA.heap.size bR ma) ∧ (RdI w_ (aZ.heap.size) aA.heap.size bS mb) ∧ (Bx w_ (aA.heap.size) [.slice aN la.length cC, .slice bQ lb.length dC, .slice bR ma.length dI, .slice bS mb.length dJ] 32) ∧ (Bx w_ (bA.heap.size) ((ofW la : List Int).map wV) 44) ∧ (OwnR w_ (Sx (aQ.heap.size) [some (aB.heap.size), obk (aG), obk (aH), obk (aI), some (aD.heap.size), obk (aF), obk (aC)]) aE cU 3 (g.ow : List Int)) ∧ (OwnR w_ (Sx (aQ.heap.size) [some (aB.heap.size), obk (aG), obk (aH), obk (aI), some (aD.heap.size), obk (aE), obk (aC)]) aF cV 3 (g.pr : List Int)) ∧ (OwnLL w_ (aQ.heap.size) [some (aB.heap.size), obk (aG), obk (aH), obk (aI), some (aD.heap.size), obk (aE), obk (aF)] aC aL 22 3 (hm : List (List Int))) ∧ (Bx w_ (aD.heap.size) [.slice aE g.ow.length cU, .slice aF g.pr.length cV, .slice aC hm.length aL] 25) ∧ (OwnR w_ (Sx (bB.heap.size) [some (aB.heap.size), obk (aE), obk (aF), obk (aC), obk (aH), obk (aI)]) aG dF 3 (g.ow : List Int)) ∧ (OwnR w_ (Sx (bB.heap.size) [some (aB.heap.size), obk (aE), obk (aF), obk (aC), obk (aG), obk (aI)]) aH dG 3 (g.pr : List Int)) ∧ (OwnLL w_ (bB.heap.size) [some (aB.heap.size), obk (aE), obk (aF), obk (aC), obk (aG), obk (aH)] aI bK 22 3 (km : List (List Int))) ∧ (Bx w_ (aB.heap.size) [.slice aG g.ow.length dF, .slice aH g.pr.length dG, .slice aI km.length bK] 25) ∧ (0 ≤ z) ∧ (z ≤ 9223372036854775807) ∧ (pX.heap.size ≤ w_.heap.size)) ?_ ?_)
  ·refine wp_seq ?_
   refine At.start ?_
   refine At.rd jX 2 [[], []] [(104, .bool (decide ((y : Int) < 0))), (103, .int .i64 (y))] [] (by kernel_rfl) trivial (fun tI iQ => ?_)
   clear jX
   refine At.done rfl ?_
   refine t_n ?_
   refine cond_S iQ (t := decide ((y : Int) < 0)) rfl (fun kL => ?_) (fun kL => ?_)
   ·have tJ := of_decide_eq_true kL
    refine At.start ?_
    refine At.rd iQ 4 [[], [.as_ (.int .i64 (y + 1))], [.as_ (.int .i64 (-(y + 1)))], []] [(15, .int .i64 (-(y + 1))), (107, .int .i64 (-(y + 1))), (106, .int .i64 (y + 1)), (105, .int .i64 (y))] [((.int .i64 (IntKind.i64.wrap (y + 1)) : Value) = .int .i64 (y + 1)), ((.int .i64 (IntKind.i64.wrap (0 - (y + 1))) : Value) = .int .i64 (-(y + 1)))] (by kernel_rfl) ⟨(w64 (by omega) (by omega)), (w64e (by omega) (by omega) (by omega)), trivial⟩ (fun tK pY => ?_)
    clear iQ
    refine At.done rfl ?_
    refine t_n ?_
    have pZ := pY.sub (r := [(15, .int .i64 (-(y + 1))), (13, .int .i64 (i)), (12, .pointer (some ⟨aB.heap.size, 0, none⟩)), (11, .pointer (some ⟨aD.heap.size, 0, none⟩)), (10, .pointer (some ⟨bA.heap.size, 0, none⟩)), (8, .pointer (some ⟨aA.heap.size, 0, none⟩)), (4, .bool false), (2, .pointer (some ⟨w.heap.size, 0, none⟩)), (1, .slice Ak lk.length ck)]) ⟨rfl, rfl, rfl, rfl, rfl, rfl, rfl, rfl, rfl, trivial⟩
    exact ⟨-(y + 1), pZ, iK, jY, jZ, kA, iL, kB, kC, kD, kE, iM, iN, kF, kG, kH, iO, kI, kJ, kK, iP, (by omega), (by omega), (by omega)⟩
   have tL := of_decide_eq_false kL
   refine wp_skip ?_
   refine t_n ?_
   have qA := iQ.sub (r := [(15, .int .i64 (y)), (13, .int .i64 (i)), (12, .pointer (some ⟨aB.heap.size, 0, none⟩)), (11, .pointer (some ⟨aD.heap.size, 0, none⟩)), (10, .pointer (some ⟨bA.heap.size, 0, none⟩)), (8, .pointer (some ⟨aA.heap.size, 0, none⟩)), (4, .bool false), (2, .pointer (some ⟨w.heap.size, 0, none⟩)), (1, .slice Ak lk.length ck)]) ⟨rfl, rfl, rfl, rfl, rfl, rfl, rfl, rfl, rfl, trivial⟩
   exact ⟨y, qA, iK, jY, jZ, kA, iL, kB, kC, kD, kE, iM, iN, kF, kG, kH, iO, kI, kJ, kK, iP, (by omega), (by omega), (by omega)⟩
  clear jY; clear jZ; clear kA; clear iL; clear kB; clear kC; clear kD; clear kE; clear iM; clear iN; clear kF; clear kG; clear kH; clear iO; clear kI; clear kJ; clear kK; clear iP; clear jX iK
  intro tM qB ⟨z, mZ, eW, eL, fX, fY, eI, fZ, gA, gB, gC, eX, eY, nA, nB, nC, eZ, nD, nE, nF, eF, i702, i703, i704⟩
  have := eW.size; have := eI.lt; have := eX.lt; have := eY.lt; have := eZ.lt; have := eF.lt; have hne_ := hG.ne i (by omega) (by omega); have hmod_ := Int.emod_lt_of_pos z (show (0 : Int) < ((gL g.mv i).length : Int) by omega); have hmod2_ := Int.emod_nonneg z (show (((gL g.mv i).length : Nat) : Int) ≠ 0 by omega)
  have hxin_ := mem_of_gI (l := gL g.mv i) (k := z % (((gL g.mv i).length : Nat) : Int)) (by omega) (by omega)
  obtain ⟨hK, hL, iR, qC, _, _, qD, tN, eM⟩ := RdII.get eL.mv (i) (by omega) (by omega)
  have tO := eM.len
  obtain ⟨hM, iS, iT, qE, _, _, qF, tP, fA⟩ := RdII.get eL.mv (i) (by omega) (by omega)
  have tQ := fA.len
  obtain ⟨hN, qG, _, _, qH⟩ := RdI.get eM ((z : Int) % (((gL g.mv (i)).length : Nat) : Int)) (by omega) (by omega)
  obtain ⟨fB, fC⟩ : ∃ c : List (Addr × Value), c = [(⟨aB.heap.size, 2, none⟩, (.slice aI km.length bK)), (⟨w.heap.size, 2, none⟩, (.slice Ag2 g.mv.length cg2)), ((hK.add ((i : Int).toNat * 1)), (.slice hL ((gL g.mv (i)).length) iR)), (⟨w.heap.size, 2, none⟩, (.slice Ag2 g.mv.length cg2)), ((hM.add ((i : Int).toNat * 1)), (.slice iS ((gL g.mv (i)).length) iT)), ((hN.add (((z : Int) % (((gL g.mv (i)).length : Nat) : Int) : Int).toNat * 1)), (.int .i64 (gI (gL g.mv (i)) ((z : Int) % (((gL g.mv (i)).length : Nat) : Int)))))] := ⟨_, rfl⟩
  have nG : HoldsC fB qB := by rw [fC]; exact ⟨(eF.cell (i := 2) rfl), (eI.cell (i := 2) rfl), qD, (eI.cell (i := 2) rfl), qF, qH, trivial⟩
  refine AtH.start fB 21 #[false, false, false, false, false, false, false, false, false, false, false, false, false, false, false, false, false, false, false, false, false] (by kernel_rfl) rfl rfl (fun gD nH => ?_)
  have aV := gr_drew nH; have nI := nG.gr aV; have := aV.size; replace eW := eW.gn aV; replace eL := eL.gn aV; replace fX := fX.gn aV; replace fY := fY.gn aV; replace eI := eI.gn aV; replace fZ := fZ.gn aV; replace gA := gA.gn aV; replace gB := gB.gn aV; replace gC := gC.gn aV; replace eX := eX.gn aV; replace eY := eY.gn aV; have gU := nA.gn aV; clear nA; have gV := nB.gn aV; clear nB
  have gW := nC.gn aV; clear nC; replace eZ := eZ.gn aV; have gX := nD.gn aV; clear nD; have gY := nE.gn aV; clear nE; have gZ := nF.gn aV; clear nF; replace eF := eF.gn aV; replace eM := eM.gn aV; replace fA := fA.gn aV; clear aV nH nG
  refine AtH.rd (by kernel_rfl) (fun d v c a w h => by cases d <;> exact h) nI [0, 1, 2, 3, 4, 5, 6, 7, 8, 9, 10, 11, 12, 13, 14, 15, 16, 17] [[], [.ld (.slice aI km.length bK)], [], [], [.ld (.slice Ag2 g.mv.length cg2)], [], [.ad hK], [.ld (.slice hL ((gL g.mv (i)).length) iR)], [], [], [.ld (.slice Ag2 g.mv.length cg2)], [], [.ad hM], [.ld (.slice iS ((gL g.mv (i)).length) iT)], [], [.as_ (.int .i64 ((z : Int) % (((gL g.mv (i)).length : Nat) : Int)))], [.ad hN], [.ld (.int .i64 (gI (gL g.mv (i)) ((z : Int) % (((gL g.mv (i)).length : Nat) : Int))))]] [(125, .int .i64 (gI (gL g.mv (i)) ((z : Int) % (((gL g.mv (i)).length : Nat) : Int)))), (124, .pointer (some (hN.add (((z : Int) % (((gL g.mv (i)).length : Nat) : Int) : Int).toNat * 1)))), (123, .int .i64 ((z : Int) % (((gL g.mv (i)).length : Nat) : Int))), (122, .int .i64 ((((gL g.mv (i)).length : Nat) : Int))), (121, .slice iS ((gL g.mv (i)).length) iT), (120, .pointer (some (hM.add ((i : Int).toNat * 1)))), (119, .int .i64 (i)), (118, .slice Ag2 g.mv.length cg2), (117, .pointer (some ⟨w.heap.size, 2, none⟩)), (116, .int .i64 (z)), (115, .slice hL ((gL g.mv (i)).length) iR), (114, .pointer (some (hK.add ((i : Int).toNat * 1)))), (113, .int .i64 (i)), (112, .slice Ag2 g.mv.length cg2), (111, .pointer (some ⟨w.heap.size, 2, none⟩)), (110, .int .i64 (i)), (109, .slice aI km.length bK), (108, .pointer (some ⟨aB.heap.size, 2, none⟩))] #[true, true, true, true, true, true, true, true, true, true, true, true, true, true, true, true, true, true, false, false, false] [(∃ j_ : Nat, fB[j_]? = some (⟨aB.heap.size, 2, none⟩, (.slice aI km.length bK))), (∃ j_ : Nat, fB[j_]? = some (⟨w.heap.size, 2, none⟩, (.slice Ag2 g.mv.length cg2))), (Ag2 = some hK), (0 ≤ (i : Int)), ((i : Int) < (g.mv.length : Nat)), (∃ j_ : Nat, fB[j_]? = some ((hK.add ((i : Int).toNat * 1)), (.slice hL ((gL g.mv (i)).length) iR))), (∃ j_ : Nat, fB[j_]? = some (⟨w.heap.size, 2, none⟩, (.slice Ag2 g.mv.length cg2))), (Ag2 = some hM), (0 ≤ (i : Int)), ((i : Int) < (g.mv.length : Nat)), (∃ j_ : Nat, fB[j_]? = some ((hM.add ((i : Int).toNat * 1)), (.slice iS ((gL g.mv (i)).length) iT))), (((((gL g.mv (i)).length : Nat) : Int) : Int) ≠ 0), ((.int .i64 ((z : Int).tmod (((gL g.mv (i)).length : Nat) : Int)) : Value) = .int .i64 ((z : Int) % (((gL g.mv (i)).length : Nat) : Int))), (hL = some hN), (0 ≤ ((z : Int) % (((gL g.mv (i)).length : Nat) : Int) : Int)), (((z : Int) % (((gL g.mv (i)).length : Nat) : Int) : Int) < ((gL g.mv (i)).length : Nat)), (∃ j_ : Nat, fB[j_]? = some ((hN.add (((z : Int) % (((gL g.mv (i)).length : Nat) : Int) : Int).toNat * 1)), (.int .i64 (gI (gL g.mv (i)) ((z : Int) % (((gL g.mv (i)).length : Nat) : Int))))))] 3 mZ (by kernel_rfl) ⟨⟨0, by rw [fC]; rfl⟩, ⟨1, by rw [fC]; rfl⟩, qC, (by omega), (by omega), ⟨2, by rw [fC]; rfl⟩, ⟨3, by rw [fC]; rfl⟩, qE, (by omega), (by omega), ⟨4, by rw [fC]; rfl⟩, (by omega), (congrArg (Value.int .i64) (tmodE (by omega) _)), qG, (by omega), (by omega), ⟨5, by rw [fC]; rfl⟩, trivial⟩ (fun tR nJ => ?_)
  clear mZ
  refine AtH.all [18] 2 (by kernel_rfl) (by simp) ⟨?_, trivial⟩
  refine OneH.seq nJ [[]] [(126, .slice (some ⟨gD.heap.size, 0, none⟩) 1 1)] (gD.alloc (.cells #[.int .i64 (gI (gL g.mv (i)) ((z : Int) % (((gL g.mv (i)).length : Nat) : Int)))] 3 (0, 0))) [] #[true, true, true, true, true, true, true, true, true, true, true, true, true, true, true, true, true, true, true, false, false] (by kernel_rfl) (by kernel_rfl) (by kernel_rfl) trivial (fun tS iU kM nK => ?_)
  clear nJ; have aW := gr_alloc kM; have kN := nI.gr aW
  refine ⟨kN, ?_⟩
  have := aW.size; replace eW := eW.gn aW; replace eL := eL.gn aW; replace fX := fX.gn aW; replace fY := fY.gn aW; replace eI := eI.gn aW; replace fZ := fZ.gn aW; replace gA := gA.gn aW; replace gB := gB.gn aW; replace gC := gC.gn aW; replace eX := eX.gn aW; replace eY := eY.gn aW; replace gU := gU.grN aW; replace gV := gV.grN aW; replace gW := gW.grN aW; replace eZ := eZ.gn aW
  replace gX := gX.grN aW; replace gY := gY.grN aW; replace gZ := gZ.grN aW; replace eF := eF.gn aW; replace eM := eM.gn aW; replace fA := fA.gn aW; have kO : Bx iU (gD.heap.size) [.int .i64 (gI (gL g.mv (i)) ((z : Int) % (((gL g.mv (i)).length : Nat) : Int)))] 3 := Bx.new kM; have := kO.lt; clear aW kM
  obtain ⟨iV, tT, tU, nL, tV, tW, qI, qJ⟩ := gZ.get (i) (by omega) (by omega)
  refine AtH.rd (by kernel_rfl) (fun d v c a w h => by cases d <;> exact h) kN [19] [[.ad iV]] [(127, .pointer (some (iV.add ((i : Int).toNat * 1))))] #[true, true, true, true, true, true, true, true, true, true, true, true, true, true, true, true, true, true, true, true, false] [(aI = some iV), (0 ≤ (i : Int)), ((i : Int) < (km.length : Nat))] 1 nK (by kernel_rfl) ⟨nL, (by omega), (by omega), trivial⟩ (fun tX nM => ?_)
  clear nK
  refine AtH.all [20] 0 (by kernel_rfl) (by simp) ⟨?_, trivial⟩
  clear qI; clear qJ
  have nN : OwnR iU (Sx (gD.heap.size) [obk (aE), obk (aF), obk (aC), obk (aG), obk (aH), obk (aI)]) (some ⟨gD.heap.size, 0, none⟩) 1 3 ([gI (gL g.mv (i)) ((z : Int) % (((gL g.mv (i)).length : Nat) : Int))] : List Int) := Bx.ownR (n := 0) (l := ([gI (gL g.mv (i)) ((z : Int) % (((gL g.mv (i)).length : Nat) : Int))] : List Int)) kO rfl ⟨(gU.neb (fun g hs => hs.1)), (gV.neb (fun g hs => hs.1)), (gW.neb (fun g hs => hs.1)), (gX.neb (fun g hs => hs.1)), (gY.neb (fun g hs => hs.1)), (gZ.neb (fun g hs => hs.1)), (Nat.le_refl _)⟩ (show 1 ≤ maxLen by decide)
  clear kO
  have bG : OwnLL iU (bB.heap.size) [obk (some ⟨gD.heap.size, 0, none⟩), some (aB.heap.size), obk (aE), obk (aF), obk (aC), obk (aG), obk (aH)] aI bK 22 3 (km : List (List Int)) := gZ
  have nO : OwnR iU (Sx (bB.heap.size) [some (aB.heap.size), obk (aE), obk (aF), obk (aC), obk (aG), obk (aH)]) (some ⟨gD.heap.size, 0, none⟩) 1 3 ([gI (gL g.mv (i)) ((z : Int) % (((gL g.mv (i)).length : Nat) : Int))] : List Int) := nN.imp (fun g _ hs => ⟨(fun e => by have := Sx_base hs; injection e; omega), hs.1, hs.2.1, hs.2.2.1, hs.2.2.2.1, hs.2.2.2.2.1, (by have := Sx_base hs; show bB.heap.size ≤ g; omega)⟩)
  have hip806 : ∀ q_, q_ < ((km).set (i : Int).toNat [gI (gL g.mv (i)) ((z : Int) % (((gL g.mv (i)).length : Nat) : Int))]).length → (((km).set (i : Int).toNat [gI (gL g.mv (i)) ((z : Int) % (((gL g.mv (i)).length : Nat) : Int))]).getD q_ []).length * 8 ≤ 140737488351232 := inner_set (by assumption) (by simp)
  refine OneH.act nM #[true, true, true, true, true, true, true, true, true, true, true, true, true, true, true, true, true, true, true, true, true] (by kernel_rfl) (storeLLn (t := 22) (i := i) (ad := iV) (n := 1) (xs := [gI (gL g.mv (i)) ((z : Int) % (((gL g.mv (i)).length : Nat) : Int))]) (by kernel_rfl) (by kernel_rfl) nL bG nO (by first | rfl | omega | (simp; done) | (simp; omega)) (by omega) (by omega)) ?_
  rintro d_ v_ qK ⟨rfl, bH, qL⟩
  have nP := kN.grO bH (by rw [fC]; exact ⟨(bG.neb (fun g hs => hs.2.1)), (fun e => by have := bG.ge _ e; simp only [add_block] at this; omega), (fun e => by have := bG.ge _ e; simp only [add_block] at this; omega), (fun e => by have := bG.ge _ e; simp only [add_block] at this; omega), (fun e => by have := bG.ge _ e; simp only [add_block] at this; omega), (fun e => by have := bG.ge _ e; simp only [add_block] at this; omega), trivial⟩)
  refine ⟨_, rfl, fun tY nQ => ⟨nP, ?_⟩⟩
  clear nM; have tZ : ((km).set (i : Int).toNat [gI (gL g.mv (i)) ((z : Int) % (((gL g.mv (i)).length : Nat) : Int))]).length = (km).length := List.length_set; clear gZ; clear nN; clear nO; have := bH.size; replace eW := eW.gr bH (fun k hk => by have := bG.ge k hk; omega); replace eL := eL.gr bH (fun k hk => by have := bG.ge k hk; omega)
  replace fX := fX.gr bH (fun k hk => by have := bG.ge k hk; omega); replace fY := fY.gr bH (fun k hk => by have := bG.ge k hk; omega); replace eI := eI.gr bH (fun e => by have := bG.ge _ e; omega); replace fZ := fZ.gr bH (fun k hk => by have := bG.ge k hk; omega); replace gA := gA.gr bH (fun k hk => by have := bG.ge k hk; omega); replace gB := gB.gr bH (fun k hk => by have := bG.ge k hk; omega)
  replace gC := gC.gr bH (fun k hk => by have := bG.ge k hk; omega); replace eX := eX.gr bH (fun e => by have := bG.ge _ e; omega); replace eY := eY.gr bH (fun e => by have := bG.ge _ e; omega); replace gU := gU.gr bH (fun k hk => hk.2.2.2.2.1); replace gV := gV.gr bH (fun k hk => hk.2.2.2.2.1); replace gW := gW.gr bH (fun k hk => hk.2.2.2.2.1)
  replace eZ := eZ.gr bH (fun e => by have := bG.ge _ e; omega); replace gX := gX.gr bH (fun k hk => hk.2.2.2.2.2.2.1); replace gY := gY.gr bH (fun k hk => hk.2.2.2.2.2.2.1); replace eF := eF.gr bH (bG.neb (fun g hs => hs.2.1)); replace eM := eM.gr bH (fun k hk => by have := bG.ge k hk; omega); replace fA := fA.gr bH (fun k hk => by have := bG.ge k hk; omega); clear bG bH
  replace eF : Bx qK (aB.heap.size) [.slice aG g.ow.length dF, .slice aH g.pr.length dG, .slice aI (((km).set (i : Int).toNat [gI (gL g.mv (i)) ((z : Int) % (((gL g.mv (i)).length : Nat) : Int))]).length) bK] 25 := eF.as (by first | rfl | (simp only [List.length_set]; done))
  refine AtH.done (by kernel_rfl) ?_
  clear nP
  refine b_n ?_
  refine t_n ?_
  clear eM; clear fA
  refine At.start ?_
  refine At.rd nQ 3 [[], [.as_ (.int .i64 (i + 1))], []] [(13, .int .i64 (i + 1)), (70, .int .i64 (i + 1)), (69, .int .i64 (i))] [((.int .i64 (IntKind.i64.wrap (i + 1)) : Value) = .int .i64 (i + 1))] (by kernel_rfl) ⟨(w64 (by omega) (by omega)), trivial⟩ (fun uA qM => ?_)
  clear nQ
  refine At.done rfl ?_
  refine t_n ?_
  have qN := qM.sub (r := [(13, .int .i64 (i + 1)), (12, .pointer (some ⟨aB.heap.size, 0, none⟩)), (11, .pointer (some ⟨aD.heap.size, 0, none⟩)), (10, .pointer (some ⟨bA.heap.size, 0, none⟩)), (8, .pointer (some ⟨aA.heap.size, 0, none⟩)), (4, .bool false), (2, .pointer (some ⟨w.heap.size, 0, none⟩)), (1, .slice Ak lk.length ck)]) ⟨rfl, rfl, rfl, rfl, rfl, rfl, rfl, rfl, trivial⟩
  exact ⟨_, (by omega), (i + 1), (hm : List (List Int)), aC, aL, ((km).set (i : Int).toNat [gI (gL g.mv (i)) ((z : Int) % (((gL g.mv (i)).length : Nat) : Int))] : List (List Int)), aI, bK, rfl, qN, eW, eL, fX, fY, eI, fZ, gA, gB, gC, eX, eY, (gU.imp (fun g _ hs => ⟨hs.2.1, hs.2.2.1, hs.2.2.2.1, hs.2.2.2.2.1, hs.2.2.2.2.2.1, hs.2.2.2.2.2.2.1, hs.2.2.2.2.2.2.2.1, hs.2.2.2.2.2.2.2.2⟩)), (gV.imp (fun g _ hs => ⟨hs.2.1, hs.2.2.1, hs.2.2.2.1, hs.2.2.2.2.1, hs.2.2.2.2.2.1, hs.2.2.2.2.2.2.1, hs.2.2.2.2.2.2.2.1, hs.2.2.2.2.2.2.2.2⟩)), (gW.imp (fun g _ hs => ⟨hs.2.1, hs.2.2.1, hs.2.2.2.1, hs.2.2.2.2.1, hs.2.2.2.2.2.1, hs.2.2.2.2.2.2.1, hs.2.2.2.2.2.2.2.1, hs.2.2.2.2.2.2.2.2⟩)), eZ, (gX.imp (fun g _ hs => ⟨hs.2.1, hs.2.2.1, hs.2.2.2.1, hs.2.2.2.2.1, hs.2.2.2.2.2.1, hs.2.2.2.2.2.2.1, hs.2.2.2.2.2.2.2⟩)), (gY.imp (fun g _ hs => ⟨hs.2.1, hs.2.2.1, hs.2.2.2.1, hs.2.2.2.2.1, hs.2.2.2.2.2.1, hs.2.2.2.2.2.2.1, hs.2.2.2.2.2.2.2⟩)), qL, eF, (by omega), (by omega), (few_no hfh (show ¬ gI g.ow i = wonBy s0 i by omega)), (fewF_no hff (show ¬ gI g.ow i = wonBy s0 i by omega)), (few_yes hfk (by omega) (by omega) (show ¬ gI g.ow i = wonBy s0 i by omega) hxin_), hih, (inner_set hik (by simp)), (by omega), (by rw [List.length_set]; assumption), (by omega), (by omega)⟩
 have uB := of_decide_eq_false jM
 refine wp_exit ?_
 refine t_e ?_
 refine t_e ?_
 refine b_e ?_
 refine t_n ?_
 clear eU; clear eV
 refine wp_seq ?_
 refine At.start ?_
 refine At.rd hC 1 [[.ld (.slice aE g.ow.length cU), .ld (.slice aF g.pr.length cV), .ld (.slice aC hm.length aL)]] [(129, .agg #[.slice aE g.ow.length cU, .slice aF g.pr.length cV, .slice aC hm.length aL])] [(eH.cell? ⟨aD.heap.size, 0, none⟩ = some (.slice aE g.ow.length cU)), (eH.cell? ⟨aD.heap.size, 1, none⟩ = some (.slice aF g.pr.length cV)), (eH.cell? ⟨aD.heap.size, 2, none⟩ = some (.slice aC hm.length aL))] (by kernel_rfl) ⟨(dH.cell (i := 0) rfl), (dH.cell (i := 1) rfl), (dH.cell (i := 2) rfl), trivial⟩ (fun uC nR => ?_)
 clear hC
 refine At.call nR 16 #[.agg #[.slice aE g.ow.length cU, .slice aF g.pr.length cV, .slice aC hm.length aL]] (some 130) (by kernel_rfl) (solve_any (g := (⟨g.ow, g.pr, hm⟩ : GameL)) (RdG.mk (G := (⟨g.ow, g.pr, hm⟩ : GameL)) (dO.rdI0 (by first | omega | (simp only [List.length_cons, List.length_nil]; omega) | (simp; done) | (simp; omega))) (dP.rdI0 (by first | omega | (simp only [List.length_cons, List.length_nil]; omega) | (simp; done) | (simp; omega))) (fN.rdII0 (by first | omega | (simp only [List.length_cons, List.length_nil]; omega) | (simp; done) | (simp; omega)) (by assumption)) dO.cap dP.cap fN.cap) (bD.wide (Nat.zero_le _) (by omega))) ?_
 rintro e_ dA ⟨eN, fD, eO, fE, hO, iW, hP, iX, lc, ld, mc, md, db, rfl, he, nS, nT, nU, nV, hsB⟩
 have hln_hsB := solve_lens hsB; have dK : RdI dA (eH.heap.size) dA.heap.size eN lc := (OwnR.rdR nS (by show _ * 8 ≤ _; omega)).rdI; clear nS; have dL : RdI dA (eH.heap.size) dA.heap.size eO ld := (OwnR.rdR nT (by show _ * 8 ≤ _; omega)).rdI; clear nT; have dQ : RdI dA (eH.heap.size) dA.heap.size hO mc := (OwnR.rdR nU (by show _ * 8 ≤ _; omega)).rdI; clear nU
 have dR : RdI dA (eH.heap.size) dA.heap.size hP md := (OwnR.rdR nV (by show _ * 8 ≤ _; omega)).rdI; clear nV
 refine ⟨_, rfl, _, rfl, fun uD nW => ?_⟩
 clear nR; have cK := gr_ext he; have := cK.size; replace bC := bC.gn cK; replace bT := bT.gn cK; replace bU := bU.gn cK; replace bD := bD.gn cK; replace bE := bE.gn cK; replace bF := bF.gn cK; replace bV := bV.gn cK; replace bW := bW.gn cK; replace aM := aM.gn cK; replace dO := dO.gn cK; replace dP := dP.gn cK; have hQ := fN.gn cK; clear fN; replace dH := dH.gn cK; replace cF := cF.gn cK
 replace cG := cG.gn cK; have dW := hB.gn cK; clear hB; replace bL := bL.gn cK; clear cK he
 refine At.rd nW 3 [[], [], []] [(132, .int .i64 (db)), (131, .agg #[.slice eN lc.length fD, .slice eO ld.length fE, .slice hO mc.length iW, .slice hP md.length iX]), (128, .tuple #[.agg #[.slice eN lc.length fD, .slice eO ld.length fE, .slice hO mc.length iW, .slice hP md.length iX], .int .i64 (db)])] [] (by kernel_rfl) trivial (fun uE nX => ?_)
 clear nW
 refine At.seq nX 1 [[]] [(16, .pointer (some ⟨dA.heap.size, 0, none⟩))] (dA.alloc (.cells #[.slice none 0 0, .slice none 0 0, .slice none 0 0, .slice none 0 0] 32 (0, 0))) [] (by kernel_rfl) trivial (fun uF qO kP nY => ?_)
 clear nX; have bI := gr_alloc kP; have := bI.size; replace bC := bC.gn bI; replace bT := bT.gn bI; replace bU := bU.gn bI; replace bD := bD.gn bI; replace bE := bE.gn bI; replace bF := bF.gn bI; replace bV := bV.gn bI; replace bW := bW.gn bI; replace aM := aM.gn bI; replace dO := dO.grN bI; replace dP := dP.grN bI; replace hQ := hQ.grN bI; replace dH := dH.gn bI; replace cF := cF.grN bI
 replace cG := cG.grN bI; replace dW := dW.grN bI; replace bL := bL.gn bI; replace dK := dK.gn bI; replace dL := dL.gn bI; replace dQ := dQ.gn bI; replace dR := dR.gn bI; have kQ : Bx qO (dA.heap.size) [.slice none 0 0, .slice none 0 0, .slice none 0 0, .slice none 0 0] 32 := Bx.new kP; have := kQ.lt; clear bI kP
 refine At.store nY (t := 32) (b := dA.heap.size) (off := 0) (v := .agg #[.slice eN lc.length fD, .slice eO ld.length fE, .slice hO mc.length iW, .slice hP md.length iX]) (by kernel_rfl) kQ (by kernel_rfl) (fun uG fF bJ dM nZ => ?_)
 clear nY; replace dM : Bx fF (dA.heap.size) [.slice eN lc.length fD, .slice eO ld.length fE, .slice hO mc.length iW, .slice hP md.length iX] 32 := dM; have := bJ.size; replace bC := bC.gr bJ (fun k h => by injection h; omega); replace bT := bT.gb bJ (by omega); replace bU := bU.gb bJ (by omega); replace bD := bD.gb bJ (by omega); replace bE := bE.gb bJ (by omega); replace bF := bF.gb bJ (by omega)
 replace bV := bV.gb bJ (by omega); replace bW := bW.gb bJ (by omega); replace aM := aM.gb bJ (by omega); replace dO := dO.gr bJ (fun k hk => hk.1); replace dP := dP.gr bJ (fun k hk => hk.1); replace hQ := hQ.gr bJ (fun k hk => hk.1); replace dH := dH.gb bJ (by omega); replace cF := cF.gr bJ (fun k hk => hk.1); replace cG := cG.gr bJ (fun k hk => hk.1); replace dW := dW.gr bJ (fun k hk => hk.1)
 replace bL := bL.gb bJ (by omega); replace dK := dK.gb bJ (by omega); replace dL := dL.gb bJ (by omega); replace dQ := dQ.gb bJ (by omega); replace dR := dR.gb bJ (by omega); clear kQ bJ
 refine At.rd nZ 1 [[]] [(17, .int .i64 (db))] [] (by kernel_rfl) trivial (fun uH oA => ?_)
 clear nZ
 refine At.done rfl ?_
 refine t_n ?_
 clear dO; clear dP; clear hQ; clear dH
 refine wp_seq ?_
 refine At.start ?_
 refine At.rd oA 1 [[.ld (.slice aG g.ow.length dF), .ld (.slice aH g.pr.length dG), .ld (.slice aI km.length bK)]] [(134, .agg #[.slice aG g.ow.length dF, .slice aH g.pr.length dG, .slice aI km.length bK])] [(fF.cell? ⟨aB.heap.size, 0, none⟩ = some (.slice aG g.ow.length dF)), (fF.cell? ⟨aB.heap.size, 1, none⟩ = some (.slice aH g.pr.length dG)), (fF.cell? ⟨aB.heap.size, 2, none⟩ = some (.slice aI km.length bK))] (by kernel_rfl) ⟨(bL.cell (i := 0) rfl), (bL.cell (i := 1) rfl), (bL.cell (i := 2) rfl), trivial⟩ (fun uI oB => ?_)
 clear oA
 refine At.call oB 16 #[.agg #[.slice aG g.ow.length dF, .slice aH g.pr.length dG, .slice aI km.length bK]] (some 135) (by kernel_rfl) (solve_any (g := (⟨g.ow, g.pr, km⟩ : GameL)) (RdG.mk (G := (⟨g.ow, g.pr, km⟩ : GameL)) (cF.rdI0 (by first | omega | (simp only [List.length_cons, List.length_nil]; omega) | (simp; done) | (simp; omega))) (cG.rdI0 (by first | omega | (simp only [List.length_cons, List.length_nil]; omega) | (simp; done) | (simp; omega))) (dW.rdII0 (by first | omega | (simp only [List.length_cons, List.length_nil]; omega) | (simp; done) | (simp; omega)) (by assumption)) cF.cap cG.cap dW.cap) (bD.wide (Nat.zero_le _) (by omega))) ?_
 rintro e_ dB ⟨eP, fG, eQ, fH, hT, iY, hU, iZ, le, lf, me, mf, dc, rfl, he, oC, oD, oE, oF, hsC⟩
 have hln_hsC := solve_lens hsC; have eR : RdI dB (fF.heap.size) dB.heap.size eP le := (OwnR.rdR oC (by show _ * 8 ≤ _; omega)).rdI; clear oC; have eS : RdI dB (fF.heap.size) dB.heap.size eQ lf := (OwnR.rdR oD (by show _ * 8 ≤ _; omega)).rdI; clear oD; have fI : RdI dB (fF.heap.size) dB.heap.size hT me := (OwnR.rdR oE (by show _ * 8 ≤ _; omega)).rdI; clear oE
 have fJ : RdI dB (fF.heap.size) dB.heap.size hU mf := (OwnR.rdR oF (by show _ * 8 ≤ _; omega)).rdI; clear oF
 refine ⟨_, rfl, _, rfl, fun uJ oG => ?_⟩
 clear oB; have cI := gr_ext he; have := cI.size; replace bC := bC.gn cI; replace bT := bT.gn cI; replace bU := bU.gn cI; replace bD := bD.gn cI; replace bE := bE.gn cI; replace bF := bF.gn cI; replace bV := bV.gn cI; replace bW := bW.gn cI; replace aM := aM.gn cI; replace cF := cF.gn cI; replace cG := cG.gn cI; replace dW := dW.gn cI; replace bL := bL.gn cI; replace dK := dK.gn cI
 replace dL := dL.gn cI; replace dQ := dQ.gn cI; replace dR := dR.gn cI; replace dM := dM.gn cI; clear cI he
 refine At.rd oG 3 [[], [], []] [(137, .int .i64 (dc)), (136, .agg #[.slice eP le.length fG, .slice eQ lf.length fH, .slice hT me.length iY, .slice hU mf.length iZ]), (133, .tuple #[.agg #[.slice eP le.length fG, .slice eQ lf.length fH, .slice hT me.length iY, .slice hU mf.length iZ], .int .i64 (dc)])] [] (by kernel_rfl) trivial (fun uK oH => ?_)
 clear oG
 refine At.seq oH 1 [[]] [(18, .pointer (some ⟨dB.heap.size, 0, none⟩))] (dB.alloc (.cells #[.slice none 0 0, .slice none 0 0, .slice none 0 0, .slice none 0 0] 32 (0, 0))) [] (by kernel_rfl) trivial (fun uL qP kR oI => ?_)
 clear oH; have aX := gr_alloc kR; have := aX.size; replace bC := bC.gn aX; replace bT := bT.gn aX; replace bU := bU.gn aX; replace bD := bD.gn aX; replace bE := bE.gn aX; replace bF := bF.gn aX; replace bV := bV.gn aX; replace bW := bW.gn aX; replace aM := aM.gn aX; replace cF := cF.grN aX; replace cG := cG.grN aX; replace dW := dW.grN aX; replace bL := bL.gn aX; replace dK := dK.gn aX
 replace dL := dL.gn aX; replace dQ := dQ.gn aX; replace dR := dR.gn aX; replace dM := dM.gn aX; replace eR := eR.gn aX; replace eS := eS.gn aX; replace fI := fI.gn aX; replace fJ := fJ.gn aX; have kS : Bx qP (dB.heap.size) [.slice none 0 0, .slice none 0 0, .slice none 0 0, .slice none 0 0] 32 := Bx.new kR; have := kS.lt; clear aX kR
 refine At.store oI (t := 32) (b := dB.heap.size) (off := 0) (v := .agg #[.slice eP le.length fG, .slice eQ lf.length fH, .slice hT me.length iY, .slice hU mf.length iZ]) (by kernel_rfl) kS (by kernel_rfl) (fun uM hV aY eT oJ => ?_)
 clear oI; replace eT : Bx hV (dB.heap.size) [.slice eP le.length fG, .slice eQ lf.length fH, .slice hT me.length iY, .slice hU mf.length iZ] 32 := eT; have := aY.size; replace bC := bC.gr aY (fun k h => by injection h; omega); replace bT := bT.gb aY (by omega); replace bU := bU.gb aY (by omega); replace bD := bD.gb aY (by omega); replace bE := bE.gb aY (by omega); replace bF := bF.gb aY (by omega)
 replace bV := bV.gb aY (by omega); replace bW := bW.gb aY (by omega); replace aM := aM.gb aY (by omega); replace cF := cF.gr aY (fun k hk => hk.1); replace cG := cG.gr aY (fun k hk => hk.1); replace dW := dW.gr aY (fun k hk => hk.1); replace bL := bL.gb aY (by omega); replace dK := dK.gb aY (by omega); replace dL := dL.gb aY (by omega); replace dQ := dQ.gb aY (by omega)
 replace dR := dR.gb aY (by omega); replace dM := dM.gb aY (by omega); replace eR := eR.gb aY (by omega); replace eS := eS.gb aY (by omega); replace fI := fI.gb aY (by omega); replace fJ := fJ.gb aY (by omega); clear kS aY
 refine At.rd oJ 1 [[]] [(19, .int .i64 (dc))] [] (by kernel_rfl) trivial (fun uN oK => ?_)
 clear oJ
 refine At.done rfl ?_
 refine t_n ?_
 clear cF; clear cG; clear dW; clear bL
 have oL := oK.sub (r := [(18, .pointer (some ⟨dB.heap.size, 0, none⟩)), (16, .pointer (some ⟨dA.heap.size, 0, none⟩)), (8, .pointer (some ⟨aA.heap.size, 0, none⟩))]) ⟨rfl, rfl, rfl, trivial⟩
 clear oK
 refine wp_seq ?_
 refine At.start ?_
 refine At.rd oL 4 [[], [.ld (.slice eN lc.length fD), .ld (.slice eO ld.length fE)], [], [.ld (.slice aN la.length cC), .ld (.slice bQ lb.length dC)]] [(141, .agg #[.slice aN la.length cC, .slice bQ lb.length dC]), (140, .pointer (some ⟨aA.heap.size, 0, none⟩)), (139, .agg #[.slice eN lc.length fD, .slice eO ld.length fE]), (138, .pointer (some ⟨dA.heap.size, 0, none⟩))] [(hV.cell? ⟨dA.heap.size, 0, none⟩ = some (.slice eN lc.length fD)), (hV.cell? ⟨dA.heap.size, 1, none⟩ = some (.slice eO ld.length fE)), (hV.cell? ⟨aA.heap.size, 0, none⟩ = some (.slice aN la.length cC)), (hV.cell? ⟨aA.heap.size, 1, none⟩ = some (.slice bQ lb.length dC))] (by kernel_rfl) ⟨(dM.cell (i := 0) rfl), (dM.cell (i := 1) rfl), (aM.cell (i := 0) rfl), (aM.cell (i := 1) rfl), trivial⟩ (fun uO oM => ?_)
 clear oL
 refine At.call oM 17 #[.agg #[.slice eN lc.length fD, .slice eO ld.length fE], .agg #[.slice aN la.length cC, .slice bQ lb.length dC]] (some 142) (by kernel_rfl) ((alike_any (la := lc) (lb := ld) (lc := la) (ld := lb) (dK.wide (Nat.zero_le _) (by omega)) (dL.wide (Nat.zero_le _) (by omega)) (bE.wide (Nat.zero_le _) (by omega)) (bF.wide (Nat.zero_le _) (by omega))).mono (R' := fun e w' => e = .returned (.bool true) ∧ Ext _ w') (fun e_ w_ h_ => by rw [show (decide (lc = la) && decide (ld = lb) : Bool) = true from by have h_ := (show lc = la ∧ ld = lb from by have h2_ := fewer_h hR hS hfh hff (by omega) hsB; rw [h2_.1, h2_.2, hla_, hlb_]; exact ⟨rfl, rfl⟩); rw [decide_eq_true h_.1, decide_eq_true h_.2]; rfl] at h_; exact h_)) ?_
 rintro e_ jA ⟨rfl, he⟩
 refine ⟨_, rfl, _, rfl, fun uP oN => ?_⟩
 clear oM; have cA := gr_ext he; have := cA.size; replace bC := bC.gn cA; replace bT := bT.gn cA; replace bU := bU.gn cA; replace bD := bD.gn cA; replace bE := bE.gn cA; replace bF := bF.gn cA; replace bV := bV.gn cA; replace bW := bW.gn cA; replace aM := aM.gn cA; replace dK := dK.gn cA; replace dL := dL.gn cA; replace dQ := dQ.gn cA; replace dR := dR.gn cA; replace dM := dM.gn cA
 replace eR := eR.gn cA; replace eS := eS.gn cA; replace fI := fI.gn cA; replace fJ := fJ.gn cA; replace eT := eT.gn cA; clear cA he
 refine At.rd oN 5 [[], [], [.ld (.slice eP le.length fG), .ld (.slice eQ lf.length fH)], [], [.ld (.slice aN la.length cC), .ld (.slice bQ lb.length dC)]] [(147, .agg #[.slice aN la.length cC, .slice bQ lb.length dC]), (146, .pointer (some ⟨aA.heap.size, 0, none⟩)), (145, .agg #[.slice eP le.length fG, .slice eQ lf.length fH]), (144, .pointer (some ⟨dB.heap.size, 0, none⟩)), (143, .bool true)] [(jA.cell? ⟨dB.heap.size, 0, none⟩ = some (.slice eP le.length fG)), (jA.cell? ⟨dB.heap.size, 1, none⟩ = some (.slice eQ lf.length fH)), (jA.cell? ⟨aA.heap.size, 0, none⟩ = some (.slice aN la.length cC)), (jA.cell? ⟨aA.heap.size, 1, none⟩ = some (.slice bQ lb.length dC))] (by kernel_rfl) ⟨(eT.cell (i := 0) rfl), (eT.cell (i := 1) rfl), (aM.cell (i := 0) rfl), (aM.cell (i := 1) rfl), trivial⟩ (fun uQ oO => ?_)
 clear oN
 refine At.call oO 17 #[.agg #[.slice eP le.length fG, .slice eQ lf.length fH], .agg #[.slice aN la.length cC, .slice bQ lb.length dC]] (some 148) (by kernel_rfl) ((alike_any (la := le) (lb := lf) (lc := la) (ld := lb) (eR.wide (Nat.zero_le _) (by omega)) (eS.wide (Nat.zero_le _) (by omega)) (bE.wide (Nat.zero_le _) (by omega)) (bF.wide (Nat.zero_le _) (by omega))).mono (R' := fun e w' => e = .returned (.bool true) ∧ Ext _ w') (fun e_ w_ h_ => by rw [show (decide (le = la) && decide (lf = lb) : Bool) = true from by have h_ := (show le = la ∧ lf = lb from by have h2_ := fewer_k hR hS hfk hsC; rw [h2_.1, h2_.2, hla_, hlb_]; exact ⟨rfl, rfl⟩); rw [decide_eq_true h_.1, decide_eq_true h_.2]; rfl] at h_; exact h_)) ?_
 rintro e_ uR ⟨rfl, he⟩
 refine ⟨_, rfl, _, rfl, fun uS oP => ?_⟩
 clear oO; have cB := gr_ext he; have := cB.size; replace bC := bC.gn cB; replace bT := bT.gn cB; replace bU := bU.gn cB; replace bD := bD.gn cB; replace bE := bE.gn cB; replace bF := bF.gn cB; replace bV := bV.gn cB; replace bW := bW.gn cB; replace aM := aM.gn cB; replace dK := dK.gn cB; replace dL := dL.gn cB; replace dQ := dQ.gn cB; replace dR := dR.gn cB; replace dM := dM.gn cB
 replace eR := eR.gn cB; replace eS := eS.gn cB; replace fI := fI.gn cB; replace fJ := fJ.gn cB; replace eT := eT.gn cB; clear cB he
 refine At.rd oP 2 [[], []] [(4, .bool true), (149, .bool true)] [] (by kernel_rfl) trivial (fun uT qQ => ?_)
 clear oP
 refine At.done rfl ?_
 refine t_n ?_
 clear aM; clear dM; clear eT
 refine wp_ret ?_
 refine ret_ qQ [] [.bool true] [] (by kernel_rfl) trivial ?_
 exact ⟨rfl, bC⟩

end Go.Proofs.YtplpgfcjjnaigaaDoor
