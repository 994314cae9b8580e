/-
  A walk of a Go function, printed by a program of this repo. Conditions: what the theorems name.
-/
import Derived.Test.YtplpgfcjjnaigaaDoorWRight2
import Derived.Test.YtplpgfcjjnaigaaDoorPureAttr
import Derived.Test.YtplpgfcjjnaigaaDoorWSetsP
set_option linter.unusedVariables false
set_option linter.unusedSimpArgs false
namespace Go.Proofs.YtplpgfcjjnaigaaDoor
open Go Go.RowKit

attribute [local irreducible] ofZ fromW wordsD ofD ofW lsD lenW lenN fullW withW lessW hasW hasD inW inD leastD putD onI tzI orS andS minusS orD andD minusD fullD emptyD
set_option maxHeartbeats 4000000 in
theorem attract_any {Ag0 Ag1 Ag2 : Option Addr} {cg0 cg1 cg2 : Nat} {g : GameL} {s : List Int} {t : List Int} {p : Int} {w : World} (rg : RdG w 0 w.heap.size Ag0 Ag1 Ag2 cg0 cg1 cg2 g) (hs : OkW s) (ht : OkW t) (rT : RdT w 0 w.heap.size) :
    Calls Tryd.prog 41 #[.agg #[.slice Ag0 g.ow.length cg0, .slice Ag1 g.pr.length cg1, .slice Ag2 g.mv.length cg2], .agg ((s : List Int).map wV).toArray, .int .i64 (p), .agg ((t : List Int).map wV).toArray] w fun e w' => ∃ A c ss mvs, e = .returned (.tuple #[.agg ((ss : List Int).map wV).toArray, .slice A (mvs : List Int).length c]) ∧ Ext w w' ∧ OwnR w' (Sx w.heap.size []) A c 3 mvs ∧ AttractT g s p t ss mvs := by
 have hlg0 := rg.ow.len; have hlg1 := rg.pr.len; have hlg2 := rg.mv.len; have hkg0 := rg.k0; have hkg1 := rg.k1; have hkg2 := rg.k2; have hls := hs.1; have hlt := ht.1
 refine enter_ (args := [.agg #[.slice Ag0 g.ow.length cg0, .slice Ag1 g.pr.length cg1, .slice Ag2 g.mv.length cg2], .agg ((s : List Int).map wV).toArray, .int .i64 (p), .agg ((t : List Int).map wV).toArray]) Tryd.func41 rfl Tryd.ntmps41 (Nat.le_of_ble_eq_true rfl) (fun act0 f0 => ?_)
 have e0 : Ext w w := Ext.refl w
 refine wp_seq ?_
 refine At.start ?_
 refine At.seq f0 1 [[]] [(4, .pointer (some ⟨w.heap.size, 0, none⟩))] (w.alloc (.cells #[.slice Ag0 g.ow.length cg0, .slice Ag1 g.pr.length cg1, .slice Ag2 g.mv.length cg2] 25 (0, 0))) [] (by kernel_rfl) trivial (fun act4 w1 hw2 f3 => ?_)
 clear f0; have g5 := gr_alloc hw2; have := g5.size; replace e0 := e0.gn g5; have r8 := rg.gn g5; clear rg; have r9 := rT.gn g5; clear rT; have bG : Bx w1 (w.heap.size) [.slice Ag0 g.ow.length cg0, .slice Ag1 g.pr.length cg1, .slice Ag2 g.mv.length cg2] 25 := Bx.new hw2; have := bG.lt; clear g5 hw2
 refine At.seq f3 1 [[]] [(5, .pointer (some ⟨w1.heap.size, 0, none⟩))] (w1.alloc (.cells ((s : List Int).map wV).toArray 44 (0, 0))) [] (by kernel_rfl) trivial (fun uH aY iX kO => ?_)
 clear f3; have fY := gr_alloc iX; have := fY.size; replace e0 := e0.gn fY; replace r8 := r8.gn fY; replace r9 := r9.gn fY; replace bG := bG.gn fY; have cE : Bx aY (w1.heap.size) ((s : List Int).map wV) 44 := Bx.new iX; have := cE.lt; clear fY iX
 refine At.seq kO 1 [[]] [(7, .pointer (some ⟨aY.heap.size, 0, none⟩))] (aY.alloc (.cells ((t : List Int).map wV).toArray 44 (0, 0))) [] (by kernel_rfl) trivial (fun uI aO iY kP => ?_)
 clear kO; have fO := gr_alloc iY; have := fO.size; replace e0 := e0.gn fO; replace r8 := r8.gn fO; replace r9 := r9.gn fO; replace bG := bG.gn fO; replace cE := cE.gn fO; have dE : Bx aO (aY.heap.size) ((t : List Int).map wV) 44 := Bx.new iY; have := dE.lt; clear fO iY
 refine At.seq kP 1 [[]] [(8, .pointer (some ⟨aO.heap.size, 0, none⟩))] (aO.alloc (.cells ((List.replicate 4 (0 : Int) : List Int).map wV).toArray 44 (0, 0))) [] (by kernel_rfl) trivial (fun uJ gH iZ kQ => ?_)
 clear kP; have fD := gr_alloc iZ; have := fD.size; replace e0 := e0.gn fD; replace r8 := r8.gn fD; replace r9 := r9.gn fD; replace bG := bG.gn fD; replace cE := cE.gn fD; replace dE := dE.gn fD; have eB : Bx gH (aO.heap.size) ((List.replicate 4 (0 : Int) : List Int).map wV) 44 := Bx.new iZ; have := eB.lt; clear fD iZ
 refine At.rd kQ 1 [[]] [(9, .slice none 0 0)] [] (by kernel_rfl) trivial (fun uK jA => ?_)
 clear kQ
 refine At.done rfl ?_
 refine t_n ?_
 refine wp_seq (cut (fun a_ w_ => (Frm 163 a_ [(8, .pointer (some ⟨aO.heap.size, 0, none⟩)), (7, .pointer (some ⟨aY.heap.size, 0, none⟩)), (5, .pointer (some ⟨w1.heap.size, 0, none⟩)), (4, .pointer (some ⟨w.heap.size, 0, none⟩)), (2, .int .i64 (p))]) ∧ (Ext w w_) ∧ (RdG w_ 0 w.heap.size Ag0 Ag1 Ag2 cg0 cg1 cg2 g) ∧ (RdT w_ 0 w.heap.size) ∧ (Bx w_ (w.heap.size) [.slice Ag0 g.ow.length cg0, .slice Ag1 g.pr.length cg1, .slice Ag2 g.mv.length cg2] 25) ∧ (Bx w_ (w1.heap.size) ((s : List Int).map wV) 44) ∧ (Bx w_ (aY.heap.size) ((t : List Int).map wV) 44) ∧ (Bx w_ (aO.heap.size) ((List.replicate 4 (0 : Int) : List Int).map wV) 44) ∧ ((rightP g).2 = 0) ∧ (p = 0 ∨ p = 1) ∧ (gH.heap.size ≤ w_.heap.size)) ?_ ?_)
 ·refine wp_seq ?_
  refine At.start ?_
  refine At.rd jA 1 [[.ld (.slice Ag0 g.ow.length cg0), .ld (.slice Ag1 g.pr.length cg1), .ld (.slice Ag2 g.mv.length cg2)]] [(25, .agg #[.slice Ag0 g.ow.length cg0, .slice Ag1 g.pr.length cg1, .slice Ag2 g.mv.length cg2])] [(gH.cell? ⟨w.heap.size, 0, none⟩ = some (.slice Ag0 g.ow.length cg0)), (gH.cell? ⟨w.heap.size, 1, none⟩ = some (.slice Ag1 g.pr.length cg1)), (gH.cell? ⟨w.heap.size, 2, none⟩ = some (.slice Ag2 g.mv.length cg2))] (by kernel_rfl) ⟨(bG.cell (i := 0) rfl), (bG.cell (i := 1) rfl), (bG.cell (i := 2) rfl), trivial⟩ (fun uL kR => ?_)
  clear jA
  refine At.call kR 21 #[.agg #[.slice Ag0 g.ow.length cg0, .slice Ag1 g.pr.length cg1, .slice Ag2 g.mv.length cg2]] (some 26) (by kernel_rfl) (right_any (r8.wide (Nat.zero_le _) (by omega))) ?_
  rintro e_ uM ⟨rfl, he⟩
  refine ⟨_, rfl, _, rfl, fun uN kS => ?_⟩
  clear kR; have eM := gr_ext he; have := eM.size; replace e0 := e0.gn eM; replace r8 := r8.gn eM; replace r9 := r9.gn eM; replace bG := bG.gn eM; replace cE := cE.gn eM; replace dE := dE.gn eM; replace eB := eB.gn eM; clear eM he
  refine At.rd kS 5 [[], [], [], [], []] [(11, .int .i64 ((rightP g).2)), (10, .int .i64 ((rightP g).1)), (28, .int .i64 ((rightP g).2)), (27, .int .i64 ((rightP g).1)), (24, .tuple #[.int .i64 ((rightP g).1), .int .i64 ((rightP g).2)])] [] (by kernel_rfl) trivial (fun uO fZ => ?_)
  clear kS
  refine At.done rfl ?_
  refine t_n ?_
  refine wp_seq ?_
  refine At.start ?_
  rcases Bool.eq_false_or_eq_true (((rightP g).2 : Int) != 0) with gA | gA
  ·have uP := bne_iff_ne.1 gA
   refine At.rd fZ 10 [[], [], [.as_ (.bool true)], [], [], [], [], [], [], []] [(38, .bool true), (37, undef), (36, undef), (35, undef), (34, undef), (33, undef), (32, undef), (31, .bool true), (30, .bool (((rightP g).2 : Int) != 0)), (29, .int .i64 ((rightP g).2))] [((.bool (((rightP g).2 : Int) != 0) : Value) = .bool true)] (by kernel_rfl) ⟨(congrArg Value.bool gA), trivial⟩ (fun uQ jB => ?_)
   clear fZ
   refine At.done rfl ?_
   refine t_n ?_
   refine cond_T jB rfl ?_
   refine wp_seq ?_
   have hRn : ¬ (isR g = true ∧ (p = 0 ∨ p = 1)) := right_no3 (by omega)
   refine At.start ?_
   refine At.rd jB 1 [[]] [(39, .agg (([0, 0, 0, 0] : List Int).map wV).toArray)] [] (by kernel_rfl) trivial (fun uR kT => ?_)
   clear jB
   refine At.act kT (storeBlk (t := 44) (b := aO.heap.size) (n := 4) (cs' := (([0, 0, 0, 0] : List Int).map wV)) (by kernel_rfl) (by kernel_rfl) ((List.length_map _).trans (okLen okW_00)) oneW_ ((show (([0, 0, 0, 0] : List Int).map wV).length = 4 from ((List.length_map _).trans (okLen okW_00))).trans (show ((List.replicate 4 (0 : Int) : List Int).map wV).length = 4 from (by simp only [List.length_map, List.length_set, List.length_replicate, List.length_cons, List.length_nil]; first | done | assumption | exact from_len _ | exact of_len _ | exact ofZ_len _ | exact (ofW_ok _).1 | exact (fullW_W _).1 | exact (okW_with (by assumption)).1 | exact (okW_less (by assumption)).1 | exact put_len (from_len _) | exact orD_len _ _ | exact andD_len _ _ | exact minusD_len _ _ | exact fullD_len _ | (refine okLen ?_; (repeat (first | assumption | exact ofW_ok _ | exact fullW_W _ | apply okW_with | apply okW_less | refine okW_orS ?_ ?_ | refine okW_andS ?_ ?_ | refine okW_minusS ?_ ?_)); done) | omega | rfl)).symm) eB) ?_
   rintro d_ v_ uS ⟨rfl, fE, rD⟩
   refine ⟨_, rfl, fun uT kU => ?_⟩
   clear kT; have := fE.size; replace e0 := e0.gr fE (fun k h => by injection h; omega); replace r8 := r8.gb fE (by omega); replace r9 := r9.gb fE (by omega); replace bG := bG.gb fE (by omega); replace cE := cE.gb fE (by omega); replace dE := dE.gb fE (by omega); clear eB fE
   refine At.rd kU 1 [[]] [(9, .slice none 0 0)] [] (by kernel_rfl) trivial (fun uU rE => ?_)
   clear kU
   refine At.done rfl ?_
   refine t_n ?_
   refine wp_ret ?_
   refine t_r ?_
   refine ret2B_ rE (sl := 8) (cs := (([0, 0, 0, 0] : List Int).map wV)) (m := 4) (q := 9) (v := .slice none 0 0) rfl (by kernel_rfl) (by kernel_rfl) (by kernel_rfl) ((List.length_map _).trans (okLen okW_00)) rD ?_
   exact ⟨none, 0, _, [], rfl, e0, OwnR.nil, okW_00, .inl ⟨hRn, rfl, rfl⟩⟩
  have uV := bne_eq_false_iff_eq.1 gA
  rcases Bool.eq_false_or_eq_true ((p : Int) != 0) with gJ | gJ
  ·have uW := bne_iff_ne.1 gJ
   refine At.rd fZ 10 [[], [], [.as_ (.bool false)], [], [], [.as_ (.bool true)], [], [], [], []] [(38, .bool ((p : Int) != 1)), (37, .bool ((p : Int) != 1)), (36, .bool ((p : Int) != 1)), (35, .int .i64 (p)), (34, .bool true), (33, .bool ((p : Int) != 0)), (32, .int .i64 (p)), (31, .bool false), (30, .bool (((rightP g).2 : Int) != 0)), (29, .int .i64 ((rightP g).2))] [((.bool (((rightP g).2 : Int) != 0) : Value) = .bool false), ((.bool ((p : Int) != 0) : Value) = .bool true)] (by kernel_rfl) ⟨(congrArg Value.bool gA), (congrArg Value.bool gJ), trivial⟩ (fun uX hP => ?_)
   clear fZ
   refine At.done rfl ?_
   refine t_n ?_
   refine cond_S hP (t := (p : Int) != 1) rfl (fun jC => ?_) (fun jC => ?_)
   ·have uY := bne_iff_ne.1 jC
    refine wp_seq ?_
    have hRn : ¬ (isR g = true ∧ (p = 0 ∨ p = 1)) := right_no3 (by omega)
    refine At.start ?_
    refine At.rd hP 1 [[]] [(39, .agg (([0, 0, 0, 0] : List Int).map wV).toArray)] [] (by kernel_rfl) trivial (fun uZ kV => ?_)
    clear hP
    refine At.act kV (storeBlk (t := 44) (b := aO.heap.size) (n := 4) (cs' := (([0, 0, 0, 0] : List Int).map wV)) (by kernel_rfl) (by kernel_rfl) ((List.length_map _).trans (okLen okW_00)) oneW_ ((show (([0, 0, 0, 0] : List Int).map wV).length = 4 from ((List.length_map _).trans (okLen okW_00))).trans (show ((List.replicate 4 (0 : Int) : List Int).map wV).length = 4 from (by simp only [List.length_map, List.length_set, List.length_replicate, List.length_cons, List.length_nil]; first | done | assumption | exact from_len _ | exact of_len _ | exact ofZ_len _ | exact (ofW_ok _).1 | exact (fullW_W _).1 | exact (okW_with (by assumption)).1 | exact (okW_less (by assumption)).1 | exact put_len (from_len _) | exact orD_len _ _ | exact andD_len _ _ | exact minusD_len _ _ | exact fullD_len _ | (refine okLen ?_; (repeat (first | assumption | exact ofW_ok _ | exact fullW_W _ | apply okW_with | apply okW_less | refine okW_orS ?_ ?_ | refine okW_andS ?_ ?_ | refine okW_minusS ?_ ?_)); done) | omega | rfl)).symm) eB) ?_
    rintro d_ v_ vA ⟨rfl, fF, rF⟩
    refine ⟨_, rfl, fun vB kW => ?_⟩
    clear kV; have := fF.size; replace e0 := e0.gr fF (fun k h => by injection h; omega); replace r8 := r8.gb fF (by omega); replace r9 := r9.gb fF (by omega); replace bG := bG.gb fF (by omega); replace cE := cE.gb fF (by omega); replace dE := dE.gb fF (by omega); clear eB fF
    refine At.rd kW 1 [[]] [(9, .slice none 0 0)] [] (by kernel_rfl) trivial (fun vC rG => ?_)
    clear kW
    refine At.done rfl ?_
    refine t_n ?_
    refine wp_ret ?_
    refine t_r ?_
    refine ret2B_ rG (sl := 8) (cs := (([0, 0, 0, 0] : List Int).map wV)) (m := 4) (q := 9) (v := .slice none 0 0) rfl (by kernel_rfl) (by kernel_rfl) (by kernel_rfl) ((List.length_map _).trans (okLen okW_00)) rF ?_
    exact ⟨none, 0, _, [], rfl, e0, OwnR.nil, okW_00, .inl ⟨hRn, rfl, rfl⟩⟩
   have vD := bne_eq_false_iff_eq.1 jC
   refine wp_skip ?_
   refine t_n ?_
   have rH := hP.sub (r := [(8, .pointer (some ⟨aO.heap.size, 0, none⟩)), (7, .pointer (some ⟨aY.heap.size, 0, none⟩)), (5, .pointer (some ⟨w1.heap.size, 0, none⟩)), (4, .pointer (some ⟨w.heap.size, 0, none⟩)), (2, .int .i64 (p))]) ⟨rfl, rfl, rfl, rfl, rfl, trivial⟩
   exact ⟨rH, e0, r8, r9, bG, cE, dE, eB, (by omega), (by omega), (by omega)⟩
  have vE := bne_eq_false_iff_eq.1 gJ
  refine At.rd fZ 10 [[], [], [.as_ (.bool false)], [], [], [.as_ (.bool false)], [], [], [], []] [(38, .bool false), (37, .bool false), (36, undef), (35, undef), (34, .bool false), (33, .bool ((p : Int) != 0)), (32, .int .i64 (p)), (31, .bool false), (30, .bool (((rightP g).2 : Int) != 0)), (29, .int .i64 ((rightP g).2))] [((.bool (((rightP g).2 : Int) != 0) : Value) = .bool false), ((.bool ((p : Int) != 0) : Value) = .bool false)] (by kernel_rfl) ⟨(congrArg Value.bool gA), (congrArg Value.bool gJ), trivial⟩ (fun vF kX => ?_)
  clear fZ
  refine At.done rfl ?_
  refine t_n ?_
  refine cond_F kX rfl ?_
  refine wp_skip ?_
  refine t_n ?_
  have rI := kX.sub (r := [(8, .pointer (some ⟨aO.heap.size, 0, none⟩)), (7, .pointer (some ⟨aY.heap.size, 0, none⟩)), (5, .pointer (some ⟨w1.heap.size, 0, none⟩)), (4, .pointer (some ⟨w.heap.size, 0, none⟩)), (2, .int .i64 (p))]) ⟨rfl, rfl, rfl, rfl, rfl, trivial⟩
  exact ⟨rI, e0, r8, r9, bG, cE, dE, eB, (by omega), (by omega), (by omega)⟩
 clear r8; clear r9; clear bG; clear cE; clear dE; clear eB; clear jA e0
 intro vG jD ⟨kY, bJ, bU, bV, bH, bK, bL, bM, i121, i122, i123⟩
 have := bJ.size; have := bH.lt; have := bK.lt; have := bL.lt; have := bM.lt
 refine wp_seq ?_
 have hR : isR g = true := right_of2 (by omega)
 have hp01 : p = 0 ∨ p = 1 := by omega
 have hG := isR_ok hR; have hn1 := hG.n1; have hn0 := hG.n0; have hpl := hG.pl; have hml := hG.ml; have hnd := mv_nd hG
 refine At.start ?_
 refine At.rd kY 4 [[], [.ld (.slice Ag0 g.ow.length cg0)], [], []] [(12, .int .i64 (((g.ow.length : Nat) : Int))), (42, .int .i64 (((g.ow.length : Nat) : Int))), (41, .slice Ag0 g.ow.length cg0), (40, .pointer (some ⟨w.heap.size, 0, none⟩))] [(jD.cell? ⟨w.heap.size, 0, none⟩ = some (.slice Ag0 g.ow.length cg0))] (by kernel_rfl) ⟨(bH.cell (i := 0) rfl), trivial⟩ (fun vH jE => ?_)
 clear kY
 refine At.done rfl ?_
 refine t_n ?_
 refine wp_seq (cut (fun a_ w_ => (Frm 163 a_ [(12, .int .i64 (((g.ow.length : Nat) : Int))), (8, .pointer (some ⟨aO.heap.size, 0, none⟩)), (7, .pointer (some ⟨aY.heap.size, 0, none⟩)), (5, .pointer (some ⟨w1.heap.size, 0, none⟩)), (4, .pointer (some ⟨w.heap.size, 0, none⟩)), (2, .int .i64 (p))]) ∧ (Ext w w_) ∧ (RdG w_ 0 w.heap.size Ag0 Ag1 Ag2 cg0 cg1 cg2 g) ∧ (RdT w_ 0 w.heap.size) ∧ (Bx w_ (w.heap.size) [.slice Ag0 g.ow.length cg0, .slice Ag1 g.pr.length cg1, .slice Ag2 g.mv.length cg2] 25) ∧ (Bx w_ (w1.heap.size) (((inS g s : List Int) : List Int).map wV) 44) ∧ (Bx w_ (aY.heap.size) ((t : List Int).map wV) 44) ∧ (Bx w_ (aO.heap.size) ((List.replicate 4 (0 : Int) : List Int).map wV) 44) ∧ (jD.heap.size ≤ w_.heap.size)) ?_ ?_)
 ·obtain ⟨kZ, jF⟩ : ∃ c : List (Addr × Value), c = [] := ⟨_, rfl⟩
  have lA : HoldsC kZ jD := by rw [jF]; exact trivial
  refine AtH.start kZ 5 #[false, false, false, false, false] (by kernel_rfl) rfl rfl (fun jG lB => ?_)
  have eC := gr_drew lB; have hQ := lA.gr eC; have := eC.size; replace bJ := bJ.gn eC; replace bU := bU.gn eC; replace bV := bV.gn eC; replace bH := bH.gn eC; replace bK := bK.gn eC; replace bL := bL.gn eC; replace bM := bM.gn eC; clear eC lB lA
  refine AtH.rd (by kernel_rfl) (fun d v c a w h => by cases d <;> exact h) hQ [1] [[]] [(44, .int .i64 (((g.ow.length : Nat) : Int)))] #[false, true, false, false, false] [] 4 jE (by kernel_rfl) trivial (fun vI hS => ?_)
  clear jE
  refine AtH.all [0, 2] 3 (by kernel_rfl) (by simp) ⟨?_, ?_, trivial⟩
  ·refine OneH.seq hS [[.cs ((s : List Int).map wV)]] [(43, .agg ((s : List Int).map wV).toArray)] jG [(((s : List Int).map wV).length = 4), (∀ (j : Nat) (v : Value), ((s : List Int).map wV)[j]? = some v → jG.cell? ((⟨w1.heap.size, 0, none⟩ : Addr).add j) = some v)] #[true, true, false, false, false] (by kernel_rfl) (by kernel_rfl) (by kernel_rfl) ⟨((List.length_map _).trans (by assumption)), bK.whole, trivial⟩ (fun vJ rJ rK lC => ?_)
   obtain rfl : jG = rJ := rK.symm
   clear hS
   refine ⟨hQ, ?_⟩
   refine AtH.all [2] 2 (by kernel_rfl) (by simp) ⟨?_, trivial⟩
   refine OneH.call lC 44 #[.int .i64 (((g.ow.length : Nat) : Int))] (some 45) #[true, true, true, false, false] (by kernel_rfl) (by kernel_rfl) (full_any (n := ((g.ow.length : Nat) : Int)) (by omega)) ?_
   rintro e_ vK ⟨rfl, he⟩
   refine ⟨_, rfl, _, rfl, fun vL lD => ?_⟩
   clear lC; have eD := gr_ext he; have lE := hQ.gr eD; have := eD.size; replace bJ := bJ.gn eD; replace bU := bU.gn eD; replace bV := bV.gn eD; replace bH := bH.gn eD; replace bK := bK.gn eD; replace bL := bL.gn eD; replace bM := bM.gn eD; clear eD he
   refine ⟨lE, ?_⟩
   refine AtH.all [3] 1 (by kernel_rfl) (by simp) ⟨?_, trivial⟩
   refine OneH.call lD 26 #[.agg ((s : List Int).map wV).toArray, .agg ((fullW ((g.ow.length : Nat) : Int) : List Int).map wV).toArray] (some 46) #[true, true, true, true, false] (by kernel_rfl) (by kernel_rfl) ((andS_any (s := s) (t := fullW ((g.ow.length : Nat) : Int)) (by assumption) (fullW_W _)).mono (R' := fun e w' => e = .returned (.agg (((inS g s : List Int) : List Int).map wV).toArray) ∧ Ext _ w') (fun e_ w_ h_ => by rw [show (andS s (fullW ((g.ow.length : Nat) : Int)) : List Int) = (inS g s : List Int) from rfl] at h_; exact h_)) ?_
   rintro e_ vM ⟨rfl, he⟩
   refine ⟨_, rfl, _, rfl, fun vN lF => ?_⟩
   clear lD; have eE := gr_ext he; have lG := lE.gr eE; have := eE.size; replace bJ := bJ.gn eE; replace bU := bU.gn eE; replace bV := bV.gn eE; replace bH := bH.gn eE; replace bK := bK.gn eE; replace bL := bL.gn eE; replace bM := bM.gn eE; clear eE he
   refine ⟨lG, ?_⟩
   refine AtH.all [4] 0 (by kernel_rfl) (by simp) ⟨?_, trivial⟩
   refine OneH.act lF #[true, true, true, true, true] (by kernel_rfl) (storeBlk (t := 44) (b := w1.heap.size) (n := 4) (cs' := (((inS g s : List Int) : List Int).map wV)) (by kernel_rfl) (by kernel_rfl) ((List.length_map _).trans (okLen (inS_ok (by assumption)))) oneW_ ((show (((inS g s : List Int) : List Int).map wV).length = 4 from ((List.length_map _).trans (okLen (inS_ok (by assumption))))).trans (show ((s : List Int).map wV).length = 4 from ((List.length_map _).trans (by assumption))).symm) bK) ?_
   rintro d_ v_ vO ⟨rfl, eN, rL⟩
   have lH := lG.gr' eN (by rw [jF]; exact trivial)
   refine ⟨_, rfl, fun vP rM => ⟨lH, ?_⟩⟩
   clear lF; have := eN.size; replace bJ := bJ.gr eN (fun k h => by injection h; omega); replace bU := bU.gb eN (by omega); replace bV := bV.gb eN (by omega); replace bH := bH.gb eN (by omega); replace bL := bL.gb eN (by omega); replace bM := bM.gb eN (by omega); clear bK eN
   refine AtH.done (by kernel_rfl) ?_
   clear lH
   refine t_n ?_
   have rN := rM.sub (r := [(12, .int .i64 (((g.ow.length : Nat) : Int))), (8, .pointer (some ⟨aO.heap.size, 0, none⟩)), (7, .pointer (some ⟨aY.heap.size, 0, none⟩)), (5, .pointer (some ⟨w1.heap.size, 0, none⟩)), (4, .pointer (some ⟨w.heap.size, 0, none⟩)), (2, .int .i64 (p))]) ⟨rfl, rfl, rfl, rfl, rfl, rfl, trivial⟩
   exact ⟨rN, bJ, bU, bV, bH, rL, bL, bM, (by omega)⟩
  refine OneH.call hS 44 #[.int .i64 (((g.ow.length : Nat) : Int))] (some 45) #[false, true, true, false, false] (by kernel_rfl) (by kernel_rfl) (full_any (n := ((g.ow.length : Nat) : Int)) (by omega)) ?_
  rintro e_ jH ⟨rfl, he⟩
  refine ⟨_, rfl, _, rfl, fun vQ lI => ?_⟩
  clear hS; have eF := gr_ext he; have jI := hQ.gr eF; have := eF.size; replace bJ := bJ.gn eF; replace bU := bU.gn eF; replace bV := bV.gn eF; replace bH := bH.gn eF; replace bK := bK.gn eF; replace bL := bL.gn eF; replace bM := bM.gn eF; clear eF he
  refine ⟨jI, ?_⟩
  refine AtH.all [0] 2 (by kernel_rfl) (by simp) ⟨?_, trivial⟩
  refine OneH.seq lI [[.cs ((s : List Int).map wV)]] [(43, .agg ((s : List Int).map wV).toArray)] jH [(((s : List Int).map wV).length = 4), (∀ (j : Nat) (v : Value), ((s : List Int).map wV)[j]? = some v → jH.cell? ((⟨w1.heap.size, 0, none⟩ : Addr).add j) = some v)] #[true, true, true, false, false] (by kernel_rfl) (by kernel_rfl) (by kernel_rfl) ⟨((List.length_map _).trans (by assumption)), bK.whole, trivial⟩ (fun vR rO rP lJ => ?_)
  obtain rfl : jH = rO := rP.symm
  clear lI
  refine ⟨jI, ?_⟩
  refine AtH.all [3] 1 (by kernel_rfl) (by simp) ⟨?_, trivial⟩
  refine OneH.call lJ 26 #[.agg ((s : List Int).map wV).toArray, .agg ((fullW ((g.ow.length : Nat) : Int) : List Int).map wV).toArray] (some 46) #[true, true, true, true, false] (by kernel_rfl) (by kernel_rfl) ((andS_any (s := s) (t := fullW ((g.ow.length : Nat) : Int)) (by assumption) (fullW_W _)).mono (R' := fun e w' => e = .returned (.agg (((inS g s : List Int) : List Int).map wV).toArray) ∧ Ext _ w') (fun e_ w_ h_ => by rw [show (andS s (fullW ((g.ow.length : Nat) : Int)) : List Int) = (inS g s : List Int) from rfl] at h_; exact h_)) ?_
  rintro e_ vS ⟨rfl, he⟩
  refine ⟨_, rfl, _, rfl, fun vT lK => ?_⟩
  clear lJ; have eG := gr_ext he; have lL := jI.gr eG; have := eG.size; replace bJ := bJ.gn eG; replace bU := bU.gn eG; replace bV := bV.gn eG; replace bH := bH.gn eG; replace bK := bK.gn eG; replace bL := bL.gn eG; replace bM := bM.gn eG; clear eG he
  refine ⟨lL, ?_⟩
  refine AtH.all [4] 0 (by kernel_rfl) (by simp) ⟨?_, trivial⟩
  refine OneH.act lK #[true, true, true, true, true] (by kernel_rfl) (storeBlk (t := 44) (b := w1.heap.size) (n := 4) (cs' := (((inS g s : List Int) : List Int).map wV)) (by kernel_rfl) (by kernel_rfl) ((List.length_map _).trans (okLen (inS_ok (by assumption)))) oneW_ ((show (((inS g s : List Int) : List Int).map wV).length = 4 from ((List.length_map _).trans (okLen (inS_ok (by assumption))))).trans (show ((s : List Int).map wV).length = 4 from ((List.length_map _).trans (by assumption))).symm) bK) ?_
  rintro d_ v_ vU ⟨rfl, eO, rQ⟩
  have lM := lL.gr' eO (by rw [jF]; exact trivial)
  refine ⟨_, rfl, fun vV rR => ⟨lM, ?_⟩⟩
  clear lK; have := eO.size; replace bJ := bJ.gr eO (fun k h => by injection h; omega); replace bU := bU.gb eO (by omega); replace bV := bV.gb eO (by omega); replace bH := bH.gb eO (by omega); replace bL := bL.gb eO (by omega); replace bM := bM.gb eO (by omega); clear bK eO
  refine AtH.done (by kernel_rfl) ?_
  clear lM
  refine t_n ?_
  have rS := rR.sub (r := [(12, .int .i64 (((g.ow.length : Nat) : Int))), (8, .pointer (some ⟨aO.heap.size, 0, none⟩)), (7, .pointer (some ⟨aY.heap.size, 0, none⟩)), (5, .pointer (some ⟨w1.heap.size, 0, none⟩)), (4, .pointer (some ⟨w.heap.size, 0, none⟩)), (2, .int .i64 (p))]) ⟨rfl, rfl, rfl, rfl, rfl, rfl, trivial⟩
  exact ⟨rS, bJ, bU, bV, bH, rQ, bL, bM, (by omega)⟩
 clear bU; clear bV; clear bH; clear bK; clear bL; clear bM; clear jE bJ
 intro vW aP ⟨lN, eP, fG, fH, eQ, eR, eS, eT, vX⟩
 have := eP.size; have := eQ.lt; have := eR.lt; have := eS.lt; have := eT.lt
 refine wp_seq ?_
 refine At.start ?_
 refine At.rd lN 1 [[]] [(47, .int .i64 (((g.ow.length : Nat) : Int)))] [] (by kernel_rfl) trivial (fun vY lO => ?_)
 clear lN
 refine At.act lO (makeR (k1 := .i64) (k2 := .i64) (α := SliceV) (e := 22) (bytes := 24) (t := 23) (d := 48) (n := ((g.ow.length : Nat) : Int)) (cap := ((g.ow.length : Nat) : Int)) ((⟨none, 0, 0⟩ : SliceV)) (by kernel_rfl) rfl (by kernel_rfl) (by omega) (by omega) (by omega) (by omega)) ?_
 rintro d_ v_ aW ⟨rfl, rfl, eU, jJ⟩
 refine ⟨_, rfl, fun vZ lP => ?_⟩
 clear lO; replace jJ := jJ (Sx (aP.heap.size) []) (Nat.le_refl _); have := eU.size; replace eP := eP.gn eU; replace fG := fG.gn eU; replace fH := fH.gn eU; replace eQ := eQ.gn eU; replace eR := eR.gn eU; replace eS := eS.gn eU; replace eT := eT.gn eU; clear eU
 have : (List.replicate (((g.ow.length : Nat) : Int) : Int).toNat ((⟨none, 0, 0⟩ : SliceV) : SliceV)).length = (((g.ow.length : Nat) : Int) : Int).toNat := List.length_replicate
 have jK : OwnLL aW (aP.heap.size) [] (some ⟨aP.heap.size, 0, none⟩) ((((g.ow.length : Nat) : Int) : Int).toNat) 22 3 (List.replicate (((g.ow.length : Nat) : Int) : Int).toNat ([] : List Int) : List (List Int)) := jJ.ll
 have : (List.replicate (((g.ow.length : Nat) : Int) : Int).toNat ([] : List Int)).length = (((g.ow.length : Nat) : Int) : Int).toNat := List.length_replicate
 refine At.rd lP 1 [[]] [(13, .slice (some ⟨aP.heap.size, 0, none⟩) ((List.replicate (((g.ow.length : Nat) : Int) : Int).toNat ((⟨none, 0, 0⟩ : SliceV) : SliceV)).length) ((((g.ow.length : Nat) : Int) : Int).toNat))] [] (by kernel_rfl) trivial (fun wA lQ => ?_)
 clear lP
 refine At.done rfl ?_
 refine t_n ?_
 refine wp_seq ?_
 refine At.start ?_
 refine At.rd lQ 1 [[]] [(49, .int .i64 (((g.ow.length : Nat) : Int)))] [] (by kernel_rfl) trivial (fun wB lR => ?_)
 clear lQ
 refine At.act lR (makeR (k1 := .i64) (k2 := .i64) (α := Int) (e := 3) (bytes := 8) (t := 22) (d := 50) (n := ((g.ow.length : Nat) : Int)) (cap := ((g.ow.length : Nat) : Int)) (0) (by kernel_rfl) rfl (by kernel_rfl) (by omega) (by omega) (by omega) (by omega)) ?_
 rintro d_ v_ aZ ⟨rfl, rfl, eH, gK⟩
 refine ⟨_, rfl, fun wC lS => ?_⟩
 clear lR; replace gK := gK (Sx (aW.heap.size) [obk (some ⟨aP.heap.size, 0, none⟩)]) ⟨jK.ne_new, (Nat.le_refl _)⟩; have := eH.size; replace eP := eP.gn eH; replace fG := fG.gn eH; replace fH := fH.gn eH; replace eQ := eQ.gn eH; replace eR := eR.gn eH; replace eS := eS.gn eH; replace eT := eT.gn eH
 have gM : OwnLL aZ (aP.heap.size) [obk (some ⟨aW.heap.size, 0, none⟩)] (some ⟨aP.heap.size, 0, none⟩) ((((g.ow.length : Nat) : Int) : Int).toNat) 22 3 (List.replicate (((g.ow.length : Nat) : Int) : Int).toNat ([] : List Int) : List (List Int)) := jK.grA eH (fun _ _ h => by cases h) (fun k hk hs => ⟨(fun e => by simp only [obk, Option.map_some] at e; injection e; omega), hs⟩)
 clear jK; clear eH; have : (List.replicate (((g.ow.length : Nat) : Int) : Int).toNat (0 : Int)).length = (((g.ow.length : Nat) : Int) : Int).toNat := List.length_replicate
 refine At.rd lS 1 [[]] [(14, .slice (some ⟨aW.heap.size, 0, none⟩) ((List.replicate (((g.ow.length : Nat) : Int) : Int).toNat (0 : Int)).length) ((((g.ow.length : Nat) : Int) : Int).toNat))] [] (by kernel_rfl) trivial (fun wD lT => ?_)
 clear lS
 refine At.done rfl ?_
 refine t_n ?_
 refine wp_seq ?_
 refine At.start ?_
 refine At.rd lT 1 [[]] [(51, .int .i64 (((g.ow.length : Nat) : Int)))] [] (by kernel_rfl) trivial (fun wE lU => ?_)
 clear lT
 refine At.act lU (makeR (k1 := .i64) (k2 := .i64) (α := Int) (e := 3) (bytes := 8) (t := 22) (d := 52) (n := ((g.ow.length : Nat) : Int)) (cap := ((g.ow.length : Nat) : Int)) (0) (by kernel_rfl) rfl (by kernel_rfl) (by omega) (by omega) (by omega) (by omega)) ?_
 rintro d_ v_ lV ⟨rfl, rfl, dW, hT⟩
 refine ⟨_, rfl, fun wF lW => ?_⟩
 clear lU; replace hT := hT (Sx (aZ.heap.size) [obk (some ⟨aP.heap.size, 0, none⟩), obk (some ⟨aW.heap.size, 0, none⟩)]) ⟨gM.ne_new, gK.ne_new, (Nat.le_refl _)⟩; have := dW.size; replace eP := eP.gn dW; replace fG := fG.gn dW; replace fH := fH.gn dW; replace eQ := eQ.gn dW; replace eR := eR.gn dW; replace eS := eS.gn dW; replace eT := eT.gn dW
 replace gM : OwnLL lV (aP.heap.size) [obk (some ⟨aZ.heap.size, 0, none⟩), obk (some ⟨aW.heap.size, 0, none⟩)] (some ⟨aP.heap.size, 0, none⟩) ((((g.ow.length : Nat) : Int) : Int).toNat) 22 3 (List.replicate (((g.ow.length : Nat) : Int) : Int).toNat ([] : List Int) : List (List Int)) := gM.grA dW (fun _ _ h => by cases h) (fun k hk hs => ⟨(fun e => by simp only [obk, Option.map_some] at e; injection e; omega), hs.1, hs.2⟩)
 have lX : OwnR lV (Sx (aW.heap.size) [obk (some ⟨aZ.heap.size, 0, none⟩), obk (some ⟨aP.heap.size, 0, none⟩)]) (some ⟨aW.heap.size, 0, none⟩) ((((g.ow.length : Nat) : Int) : Int).toNat) 3 (List.replicate (((g.ow.length : Nat) : Int) : Int).toNat (0 : Int) : List Int) := gK.grA dW (fun _ _ h => by cases h) (fun k hk hs => ⟨(fun e => by simp only [obk, Option.map_some] at e; injection e; omega), hs.1, hs.2⟩)
 clear gK; clear dW; have : (List.replicate (((g.ow.length : Nat) : Int) : Int).toNat (0 : Int)).length = (((g.ow.length : Nat) : Int) : Int).toNat := List.length_replicate
 refine At.rd lW 1 [[]] [(15, .slice (some ⟨aZ.heap.size, 0, none⟩) ((List.replicate (((g.ow.length : Nat) : Int) : Int).toNat (0 : Int)).length) ((((g.ow.length : Nat) : Int) : Int).toNat))] [] (by kernel_rfl) trivial (fun wG lY => ?_)
 clear lW
 refine At.done rfl ?_
 refine t_n ?_
 refine wp_seq ?_
 refine wp_seq ?_
 refine At.start ?_
 refine At.rd lY 2 [[], []] [(54, .int .i64 (0)), (53, .int .i64 (((g.ow.length : Nat) : Int)))] [] (by kernel_rfl) trivial (fun wH lZ => ?_)
 clear lY
 refine At.done rfl ?_
 refine t_n ?_
 refine wp_block ?_
 have mA := lZ.as 15 (.slice (some ⟨aZ.heap.size, 0, none⟩) ((List.replicate (((g.ow.length : Nat) : Int) : Int).toNat (0 : Int)).length) ((((g.ow.length : Nat) : Int) : Int).toNat)) (.slice (some ⟨aZ.heap.size, 0, none⟩) ((List.replicate (((g.ow.length : Nat) : Int) : Int).toNat (0 : Int) : List Int).length) ((((g.ow.length : Nat) : Int) : Int).toNat)) rfl (slice_len (by first | rfl | omega | (simp; done) | (simp; omega)))
 clear lZ
 have mB := mA.as 14 (.slice (some ⟨aW.heap.size, 0, none⟩) ((List.replicate (((g.ow.length : Nat) : Int) : Int).toNat (0 : Int)).length) ((((g.ow.length : Nat) : Int) : Int).toNat)) (.slice (some ⟨aW.heap.size, 0, none⟩) ((List.replicate (((g.ow.length : Nat) : Int) : Int).toNat (0 : Int) : List Int).length) ((((g.ow.length : Nat) : Int) : Int).toNat)) rfl (slice_len (by first | rfl | omega | (simp; done) | (simp; omega)))
 clear mA
 have mC := mB.as 13 (.slice (some ⟨aP.heap.size, 0, none⟩) ((List.replicate (((g.ow.length : Nat) : Int) : Int).toNat ((⟨none, 0, 0⟩ : SliceV) : SliceV)).length) ((((g.ow.length : Nat) : Int) : Int).toNat)) (.slice (some ⟨aP.heap.size, 0, none⟩) ((List.replicate (((g.ow.length : Nat) : Int) : Int).toNat ([] : List Int) : List (List Int)).length) ((((g.ow.length : Nat) : Int) : Int).toNat)) rfl (slice_len (by first | rfl | omega | (simp; done) | (simp; omega)))
 clear mB
 have mD := mC.sub (r := [(54, .int .i64 (0)), (53, .int .i64 (((g.ow.length : Nat) : Int))), (15, .slice (some ⟨aZ.heap.size, 0, none⟩) ((List.replicate (((g.ow.length : Nat) : Int) : Int).toNat (0 : Int) : List Int).length) ((((g.ow.length : Nat) : Int) : Int).toNat)), (14, .slice (some ⟨aW.heap.size, 0, none⟩) ((List.replicate (((g.ow.length : Nat) : Int) : Int).toNat (0 : Int) : List Int).length) ((((g.ow.length : Nat) : Int) : Int).toNat)), (13, .slice (some ⟨aP.heap.size, 0, none⟩) ((List.replicate (((g.ow.length : Nat) : Int) : Int).toNat ([] : List Int) : List (List Int)).length) ((((g.ow.length : Nat) : Int) : Int).toNat)), (8, .pointer (some ⟨aO.heap.size, 0, none⟩)), (7, .pointer (some ⟨aY.heap.size, 0, none⟩)), (5, .pointer (some ⟨w1.heap.size, 0, none⟩)), (4, .pointer (some ⟨w.heap.size, 0, none⟩)), (2, .int .i64 (p))]) ⟨rfl, rfl, rfl, rfl, rfl, rfl, rfl, rfl, rfl, rfl, trivial⟩
 refine loop_g (fun (m_ : Nat) a_ w_ => ∃ (i : Int) (fr : List (List Int)) (aC : Option Addr) (aU : Nat) (lf : List Int) (bE : Option Addr) (bY : Nat) (ms : List Int) (aT : Option Addr) (bC : Nat), m_ = ((g.ow.length : Int) - i).toNat ∧ (Frm 163 a_ [(54, .int .i64 (i)), (53, .int .i64 (((g.ow.length : Nat) : Int))), (15, .slice aT ms.length bC), (14, .slice bE lf.length bY), (13, .slice aC fr.length aU), (8, .pointer (some ⟨aO.heap.size, 0, none⟩)), (7, .pointer (some ⟨aY.heap.size, 0, none⟩)), (5, .pointer (some ⟨w1.heap.size, 0, none⟩)), (4, .pointer (some ⟨w.heap.size, 0, none⟩)), (2, .int .i64 (p))]) ∧ (Ext w w_) ∧ (RdG w_ 0 w.heap.size Ag0 Ag1 Ag2 cg0 cg1 cg2 g) ∧ (RdT w_ 0 w.heap.size) ∧ (Bx w_ (w.heap.size) [.slice Ag0 g.ow.length cg0, .slice Ag1 g.pr.length cg1, .slice Ag2 g.mv.length cg2] 25) ∧ (Bx w_ (w1.heap.size) (((inS g s : List Int) : List Int).map wV) 44) ∧ (Bx w_ (aY.heap.size) ((t : List Int).map wV) 44) ∧ (Bx w_ (aO.heap.size) ((List.replicate 4 (0 : Int) : List Int).map wV) 44) ∧ (OwnLL w_ (aP.heap.size) [obk (aT), obk (bE)] aC aU 22 3 (fr : List (List Int))) ∧ (OwnR w_ (Sx (aW.heap.size) [obk (aT), obk (aC)]) bE bY 3 (lf : List Int)) ∧ (OwnR w_ (Sx (aZ.heap.size) [obk (aC), obk (bE)]) aT bC 3 (ms : List Int)) ∧ (0 ≤ i) ∧ (i ≤ (g.ow.length : Int)) ∧ (FrA g (inT g s) fr lf i 0) ∧ (ms.length = g.ow.length) ∧ (∀ j : Int, 0 ≤ j → j < i → gI ms j = -1) ∧ (aP.heap.size ≤ w_.heap.size) ∧ (aW.heap.size ≤ w_.heap.size) ∧ (aZ.heap.size ≤ w_.heap.size)) _ ⟨0, (List.replicate (((g.ow.length : Nat) : Int) : Int).toNat ([] : List Int) : List (List Int)), some ⟨aP.heap.size, 0, none⟩, (((g.ow.length : Nat) : Int) : Int).toNat, (List.replicate (((g.ow.length : Nat) : Int) : Int).toNat (0 : Int) : List Int), some ⟨aW.heap.size, 0, none⟩, (((g.ow.length : Nat) : Int) : Int).toNat, (List.replicate (((g.ow.length : Nat) : Int) : Int).toNat (0 : Int) : List Int), some ⟨aZ.heap.size, 0, none⟩, (((g.ow.length : Nat) : Int) : Int).toNat, rfl, mD, eP, fG, fH, eQ, eR, eS, eT, gM, lX, hT, (by omega), (by omega), (by simp only [Int.toNat_natCast]; exact fra0), (by simp), (fun j a b => by omega), (by omega), (by omega), (by omega)⟩ ?_
 clear mD mC; clear fG; clear fH; clear eQ; clear eR; clear eS; clear eT; clear gM; clear lX; clear hT; clear eP
 intro m_ wI mE ⟨i, fr, aC, aU, lf, bE, bY, ms, aT, bC, hm310, mF, bN, bO, bP, bI, bW, bZ, bQ, hU, bR, bF, i321, i322, hfr, i323, hms, i324, i325, i326⟩
 have := bN.size; have := bI.lt; have := bW.lt; have := bZ.lt; have := bQ.lt; have hfl_ := hfr.len; have hll_ := hfr.ll
 refine wp_seq ?_
 refine At.start ?_
 refine At.rd mF 1 [[]] [(55, .bool (decide ((i : Int) < ((g.ow.length : Nat) : Int))))] [] (by kernel_rfl) trivial (fun wJ gN => ?_)
 clear mF
 refine At.done rfl ?_
 refine t_n ?_
 refine wp_seq ?_
 refine cond_S gN (t := decide ((i : Int) < ((g.ow.length : Nat) : Int))) rfl (fun jL => ?_) (fun jL => ?_)
 ·have wK := of_decide_eq_true jL
  refine wp_skip ?_
  refine t_n ?_
  refine wp_seq ?_
  refine wp_block ?_
  refine wp_seq ?_
  refine At.start ?_
  refine At.rd gN 2 [[], []] [(16, .int .i64 (i)), (56, .int .i64 (i))] [] (by kernel_rfl) trivial (fun wL mG => ?_)
  clear gN
  refine At.done rfl ?_
  refine t_n ?_
  refine wp_seq ?_
  refine At.start ?_
  obtain ⟨hV, mH, wM, wN, wO⟩ := bF.get (i) (by omega) (by omega) (sz := 1) rfl
  refine At.rd mG 3 [[], [], [.ad hV]] [(59, .pointer (some (hV.add ((i : Int).toNat * 1)))), (58, .int .i64 (i)), (57, .slice aT ms.length bC)] [(aT = some hV), (0 ≤ (i : Int)), ((i : Int) < (ms.length : Nat))] (by kernel_rfl) ⟨mH, (by omega), (by omega), trivial⟩ (fun wP mI => ?_)
  clear mG
  refine At.act mI (storeR (α := Int) (t := 3) (i := i) (ad := hV) (v := .int .i64 (-1)) (-1) (by kernel_rfl) rfl rfl (by kernel_rfl) mH bF (by omega) (by omega)) ?_
  rintro d_ v_ rU ⟨rfl, dX, gO⟩
  refine ⟨_, rfl, fun wQ mJ => ?_⟩
  clear mI; have wR : ((ms).set (i : Int).toNat (-1)).length = (ms).length := List.length_set; have := dX.size; replace bN := bN.gr dX (fun k hk => by have := bF.ge k hk; omega); replace bO := bO.gr dX (fun k hk => by have := bF.ge k hk; omega); replace bP := bP.gr dX (fun k hk => by have := bF.ge k hk; omega); replace bI := bI.gr dX (fun e => by have := bF.ge _ e; omega)
  replace bW := bW.gr dX (fun e => by have := bF.ge _ e; omega); replace bZ := bZ.gr dX (fun e => by have := bF.ge _ e; omega); replace bQ := bQ.gr dX (fun e => by have := bF.ge _ e; omega); have gP := hU.gr dX (fun k hk => hk.1); clear hU; replace bR := bR.gr dX (fun k hk => hk.1); clear bF dX
  refine At.done rfl ?_
  refine t_n ?_
  refine wp_seq ?_
  refine wp_seq ?_
  refine At.start ?_
  refine At.rd mJ 2 [[.cs (((inS g s : List Int) : List Int).map wV)], []] [(61, .int .i64 (i)), (60, .agg (((inS g s : List Int) : List Int).map wV).toArray)] [((((inS g s : List Int) : List Int).map wV).length = 4), (∀ (j : Nat) (v : Value), (((inS g s : List Int) : List Int).map wV)[j]? = some v → rU.cell? ((⟨w1.heap.size, 0, none⟩ : Addr).add j) = some v)] (by kernel_rfl) ⟨((List.length_map _).trans (okLen (inS_ok (by assumption)))), bW.whole, trivial⟩ (fun wS mK => ?_)
  clear mJ
  refine At.call mK 23 #[.agg (((inS g s : List Int) : List Int).map wV).toArray, .int .i64 (i)] (some 62) (by kernel_rfl) (has_any (s := (inS g s : List Int)) (n := i) (inS_ok (by assumption))) ?_
  rintro e_ mL ⟨rfl, he⟩
  refine ⟨_, rfl, _, rfl, fun wT mM => ?_⟩
  clear mK; have dF := gr_ext he; have := dF.size; replace bN := bN.gn dF; replace bO := bO.gn dF; replace bP := bP.gn dF; replace bI := bI.gn dF; replace bW := bW.gn dF; replace bZ := bZ.gn dF; replace bQ := bQ.gn dF; replace gP := gP.gn dF; replace bR := bR.gn dF; replace gO := gO.gn dF; clear dF he
  refine At.rd mM 1 [[]] [(63, .bool (!(hasW (inS g s : List Int) i)))] [] (by kernel_rfl) trivial (fun wU gQ => ?_)
  clear mM
  refine At.done rfl ?_
  refine t_n ?_
  refine cond_S gQ (t := !(hasW (inS g s : List Int) i)) rfl (fun fP => ?_) (fun fP => ?_)
  ·have wW : (hasW (inS g s : List Int) i) = false := by first | exact Eq.mp (Bool.not_eq_true' _) fP | exact Eq.mp (Bool.not_eq_false' _) fP | simpa using fP
   refine wp_exit ?_
   refine t_e ?_
   refine b_e ?_
   refine t_n ?_
   refine At.start ?_
   refine At.rd gQ 2 [[.as_ (.int .i64 (i + 1))], []] [(54, .int .i64 (i + 1)), (94, .int .i64 (i + 1))] [((.int .i64 (IntKind.i64.wrap (i + 1)) : Value) = .int .i64 (i + 1))] (by kernel_rfl) ⟨(w64 (by omega) (by omega)), trivial⟩ (fun wX mN => ?_)
   clear gQ
   refine At.done rfl ?_
   refine t_n ?_
   have mO := mN.as 15 (.slice aT ms.length bC) (.slice aT (((ms).set (i : Int).toNat (-1) : List Int).length) bC) rfl (slice_len (by first | rfl | omega | (simp; done) | (simp; omega)))
   clear mN; have mP := mO.as 14 (.slice bE lf.length bY) (.slice bE ((lf : List Int).length) bY) rfl (slice_len (by first | rfl | omega | (simp; done) | (simp; omega))); clear mO
   have rV := mP.as 13 (.slice aC fr.length aU) (.slice aC ((fr : List (List Int)).length) aU) rfl (slice_len (by first | rfl | omega | (simp; done) | (simp; omega)))
   clear mP
   have rW := rV.sub (r := [(54, .int .i64 (i + 1)), (53, .int .i64 (((g.ow.length : Nat) : Int))), (15, .slice aT (((ms).set (i : Int).toNat (-1) : List Int).length) bC), (14, .slice bE ((lf : List Int).length) bY), (13, .slice aC ((fr : List (List Int)).length) aU), (8, .pointer (some ⟨aO.heap.size, 0, none⟩)), (7, .pointer (some ⟨aY.heap.size, 0, none⟩)), (5, .pointer (some ⟨w1.heap.size, 0, none⟩)), (4, .pointer (some ⟨w.heap.size, 0, none⟩)), (2, .int .i64 (p))]) ⟨rfl, rfl, rfl, rfl, rfl, rfl, rfl, rfl, rfl, rfl, trivial⟩
   exact ⟨_, (by omega), (i + 1), (fr : List (List Int)), aC, aU, (lf : List Int), bE, bY, ((ms).set (i : Int).toNat (-1) : List Int), aT, bC, rfl, rW, bN, bO, bP, bI, bW, bZ, bQ, gP, bR, gO, (by omega), (by omega), (fra_out hG hfr (by omega) (by omega) (by rw [← has_inT (by omega) (by omega)]; assumption)), (by rw [List.length_set]; assumption), (ms_next hms (by omega) (by omega)), (by omega), (by omega), (by omega)⟩
  have wY : (hasW (inS g s : List Int) i) = true := by first | exact Eq.mp (Bool.not_eq_true' _) fP | exact Eq.mp (Bool.not_eq_false' _) fP | simpa using fP
  refine wp_skip ?_
  refine t_n ?_
  refine wp_seq ?_
  have hIi : gB (inT g s) i = true := by rw [← has_inT (by omega) (by omega)]; assumption
  have hrl := row_len hG (i := i) (by omega) (by omega)
  refine At.start ?_
  obtain ⟨hW, eV, fQ, rX, _, _, rY, wZ, jM⟩ := RdII.get bO.mv (i) (by omega) (by omega)
  have xA := jM.len
  refine At.rd gQ 7 [[], [.ld (.slice Ag2 g.mv.length cg2)], [], [.ad hW], [.ld (.slice eV ((gL g.mv (i)).length) fQ)], [], []] [(70, .int .i64 (0)), (69, .int .i64 ((((gL g.mv (i)).length : Nat) : Int))), (68, .slice eV ((gL g.mv (i)).length) fQ), (67, .pointer (some (hW.add ((i : Int).toNat * 1)))), (66, .int .i64 (i)), (65, .slice Ag2 g.mv.length cg2), (64, .pointer (some ⟨w.heap.size, 2, none⟩))] [(mL.cell? ⟨w.heap.size, 2, none⟩ = some (.slice Ag2 g.mv.length cg2)), (Ag2 = some hW), (0 ≤ (i : Int)), ((i : Int) < (g.mv.length : Nat)), (mL.cell? (hW.add ((i : Int).toNat * 1)) = some (.slice eV ((gL g.mv (i)).length) fQ))] (by kernel_rfl) ⟨(bI.cell (i := 2) rfl), rX, (by omega), (by omega), rY, trivial⟩ (fun xB mQ => ?_)
  clear gQ
  refine At.done rfl ?_
  refine t_n ?_
  refine wp_block ?_
  have mR := mQ.as 14 (.slice bE lf.length bY) (.slice bE ((lf : List Int).length) bY) rfl (slice_len (by first | rfl | omega | (simp; done) | (simp; omega))); clear mQ
  have mS := mR.as 13 (.slice aC fr.length aU) (.slice aC ((fr : List (List Int)).length) aU) rfl (slice_len (by first | rfl | omega | (simp; done) | (simp; omega)))
  clear mR
  have mT := mS.sub (r := [(70, .int .i64 (0)), (69, .int .i64 ((((gL g.mv (i)).length : Nat) : Int))), (68, .slice eV ((gL g.mv (i)).length) fQ), (16, .int .i64 (i)), (54, .int .i64 (i)), (53, .int .i64 (((g.ow.length : Nat) : Int))), (15, .slice aT ms.length bC), (14, .slice bE ((lf : List Int).length) bY), (13, .slice aC ((fr : List (List Int)).length) aU), (8, .pointer (some ⟨aO.heap.size, 0, none⟩)), (7, .pointer (some ⟨aY.heap.size, 0, none⟩)), (5, .pointer (some ⟨w1.heap.size, 0, none⟩)), (4, .pointer (some ⟨w.heap.size, 0, none⟩)), (2, .int .i64 (p))]) ⟨rfl, rfl, rfl, rfl, rfl, rfl, rfl, rfl, rfl, rfl, rfl, rfl, rfl, rfl, trivial⟩
  refine loop_g (fun (m_ : Nat) a_ w_ => ∃ (q : Int) (fr2 : List (List Int)) (bA : Option Addr) (bS : Nat) (lf2 : List Int) (bD : Option Addr) (cA : Nat), m_ = (((gL g.mv i).length : Int) - q).toNat ∧ (Frm 163 a_ [(70, .int .i64 (q)), (69, .int .i64 ((((gL g.mv (i)).length : Nat) : Int))), (68, .slice eV ((gL g.mv (i)).length) fQ), (16, .int .i64 (i)), (54, .int .i64 (i)), (53, .int .i64 (((g.ow.length : Nat) : Int))), (15, .slice aT ms.length bC), (14, .slice bD lf2.length cA), (13, .slice bA fr2.length bS), (8, .pointer (some ⟨aO.heap.size, 0, none⟩)), (7, .pointer (some ⟨aY.heap.size, 0, none⟩)), (5, .pointer (some ⟨w1.heap.size, 0, none⟩)), (4, .pointer (some ⟨w.heap.size, 0, none⟩)), (2, .int .i64 (p))]) ∧ (Ext w w_) ∧ (RdG w_ 0 w.heap.size Ag0 Ag1 Ag2 cg0 cg1 cg2 g) ∧ (RdT w_ 0 w.heap.size) ∧ (Bx w_ (w.heap.size) [.slice Ag0 g.ow.length cg0, .slice Ag1 g.pr.length cg1, .slice Ag2 g.mv.length cg2] 25) ∧ (Bx w_ (w1.heap.size) (((inS g s : List Int) : List Int).map wV) 44) ∧ (Bx w_ (aY.heap.size) ((t : List Int).map wV) 44) ∧ (Bx w_ (aO.heap.size) ((List.replicate 4 (0 : Int) : List Int).map wV) 44) ∧ (OwnLL w_ (aP.heap.size) [obk (aT), obk (bD)] bA bS 22 3 (fr2 : List (List Int))) ∧ (OwnR w_ (Sx (aW.heap.size) [obk (aT), obk (bA)]) bD cA 3 (lf2 : List Int)) ∧ (OwnR w_ (Sx (aZ.heap.size) [obk (bA), obk (bD)]) aT bC 3 ((ms).set (i : Int).toNat (-1) : List Int)) ∧ (RdI w_ 0 w.heap.size eV (gL g.mv (i))) ∧ (0 ≤ q) ∧ (q ≤ ((gL g.mv i).length : Int)) ∧ (FrA g (inT g s) fr2 lf2 i q) ∧ (aP.heap.size ≤ w_.heap.size) ∧ (aW.heap.size ≤ w_.heap.size) ∧ (aZ.heap.size ≤ w_.heap.size)) _ ⟨0, (fr : List (List Int)), aC, aU, (lf : List Int), bE, bY, rfl, mT, bN, bO, bP, bI, bW, bZ, bQ, gP, bR, gO, jM, (by omega), (by omega), hfr, (by omega), (by omega), (by omega)⟩ ?_
  clear mT mS; clear bO; clear bP; clear bI; clear bW; clear bZ; clear bQ; clear gP; clear bR; clear gO; clear jM; clear bN
  intro m_ xC mU ⟨q, fr2, bA, bS, lf2, bD, cA, hm405, mV, cF, cN, cO, cG, cC, cH, cI, jN, bB, cJ, cP, i417, i418, hfr2, i419, i420, i421⟩
  have := cF.size; have := cG.lt; have := cC.lt; have := cH.lt; have := cI.lt
  refine wp_seq ?_
  refine At.start ?_
  refine At.rd mV 1 [[]] [(71, .bool (decide ((q : Int) < (((gL g.mv (i)).length : Nat) : Int))))] [] (by kernel_rfl) trivial (fun xD gR => ?_)
  clear mV
  refine At.done rfl ?_
  refine t_n ?_
  refine wp_seq ?_
  refine cond_S gR (t := decide ((q : Int) < (((gL g.mv (i)).length : Nat) : Int))) rfl (fun jO => ?_) (fun jO => ?_)
  ·have xE := of_decide_eq_true jO
   refine wp_skip ?_
   refine t_n ?_
   refine wp_seq ?_
   refine wp_block ?_
   refine wp_seq ?_
   have hmk := hG.mv i (by omega) (by omega) q (by omega) (by omega); have hfl2 := hfr2.len; have hll2 := hfr2.ll; have hfc := hfr2.cnt _ hmk.1 hmk.2; have hlb := fra_lb hfr2 (by omega) (by omega) (by omega)
   refine At.start ?_
   obtain ⟨hX, rZ, _, _, sA⟩ := RdI.get cP (q) (by omega) (by omega)
   refine At.rd gR 3 [[.ad hX], [.ld (.int .i64 (gI (gL g.mv (i)) (q)))], []] [(18, .int .i64 (gI (gL g.mv (i)) (q))), (73, .int .i64 (gI (gL g.mv (i)) (q))), (72, .pointer (some (hX.add ((q : Int).toNat * 1))))] [(eV = some hX), (0 ≤ (q : Int)), ((q : Int) < ((gL g.mv (i)).length : Nat)), (mU.cell? (hX.add ((q : Int).toNat * 1)) = some (.int .i64 (gI (gL g.mv (i)) (q))))] (by kernel_rfl) ⟨rZ, (by omega), (by omega), sA, trivial⟩ (fun xF mW => ?_)
   clear gR
   refine At.done rfl ?_
   refine t_n ?_
   refine wp_seq ?_
   refine At.start ?_
   refine At.rd mW 2 [[.cs (((inS g s : List Int) : List Int).map wV)], []] [(75, .int .i64 (gI (gL g.mv (i)) (q))), (74, .agg (((inS g s : List Int) : List Int).map wV).toArray)] [((((inS g s : List Int) : List Int).map wV).length = 4), (∀ (j : Nat) (v : Value), (((inS g s : List Int) : List Int).map wV)[j]? = some v → mU.cell? ((⟨w1.heap.size, 0, none⟩ : Addr).add j) = some v)] (by kernel_rfl) ⟨((List.length_map _).trans (okLen (inS_ok (by assumption)))), cC.whole, trivial⟩ (fun xG mX => ?_)
   clear mW
   refine At.call mX 23 #[.agg (((inS g s : List Int) : List Int).map wV).toArray, .int .i64 (gI (gL g.mv (i)) (q))] (some 76) (by kernel_rfl) (has_any (s := (inS g s : List Int)) (n := gI (gL g.mv (i)) (q)) (inS_ok (by assumption))) ?_
   rintro e_ hY ⟨rfl, he⟩
   refine ⟨_, rfl, _, rfl, fun xH gS => ?_⟩
   clear mX; have cQ := gr_ext he; have := cQ.size; replace cF := cF.gn cQ; replace cN := cN.gn cQ; replace cO := cO.gn cQ; replace cG := cG.gn cQ; replace cC := cC.gn cQ; replace cH := cH.gn cQ; replace cI := cI.gn cQ; have gC := jN.gn cQ; clear jN; replace bB := bB.gn cQ; replace cJ := cJ.gn cQ; replace cP := cP.gn cQ; clear cQ he
   refine At.done rfl ?_
   refine t_n ?_
   refine cond_S gS (t := hasW (inS g s : List Int) (gI (gL g.mv (i)) (q))) rfl (fun sB => ?_) (fun sB => ?_)
   ·refine wp_seq ?_
    refine At.start ?_
    obtain ⟨fI, jP, jQ, jR, xI, sC, cK, cB⟩ := gC.get (gI (gL g.mv (i)) (q)) (by omega) (by omega)
    refine At.rd gS 7 [[], [], [], [], [.ad fI], [.ld (.slice jP ((gL fr2 (gI (gL g.mv (i)) (q))).length) jQ)], []] [(83, .int .i64 (i)), (82, .slice jP ((gL fr2 (gI (gL g.mv (i)) (q))).length) jQ), (81, .pointer (some (fI.add ((gI (gL g.mv (i)) (q) : Int).toNat * 1)))), (80, .int .i64 (gI (gL g.mv (i)) (q))), (79, .slice bA fr2.length bS), (78, .int .i64 (gI (gL g.mv (i)) (q))), (77, .slice bA fr2.length bS)] [(bA = some fI), (0 ≤ (gI (gL g.mv (i)) (q) : Int)), ((gI (gL g.mv (i)) (q) : Int) < (fr2.length : Nat)), (hY.cell? (fI.add ((gI (gL g.mv (i)) (q) : Int).toNat * 1)) = some (.slice jP ((gL fr2 (gI (gL g.mv (i)) (q))).length) jQ))] (by kernel_rfl) ⟨jR, (by omega), (by omega), sC, trivial⟩ (fun xJ mY => ?_)
    clear gS
    refine At.seq mY 1 [[]] [(84, .slice (some ⟨hY.heap.size, 0, none⟩) 1 1)] (hY.alloc (.cells #[.int .i64 (i)] 3 (0, 0))) [] (by kernel_rfl) trivial (fun xK mZ jS nA => ?_)
    clear mY; have cD := gr_alloc jS; have := cD.size; replace cF := cF.gn cD; replace cN := cN.gn cD; replace cO := cO.gn cD; replace cG := cG.gn cD; replace cC := cC.gn cD; replace cH := cH.gn cD; replace cI := cI.gn cD; replace gC := gC.grN cD; replace bB := bB.grN cD; replace cJ := cJ.grN cD; replace cP := cP.gn cD; replace cB := cB.grN cD; replace cK := cK.grN cD
    have jT : Bx mZ (hY.heap.size) [.int .i64 (i)] 3 := Bx.new jS; have := jT.lt; clear cD jS; have sD : ((gL fr2 (gI (gL g.mv (i)) (q))) ++ ([i])).length = (gL fr2 (gI (gL g.mv (i)) (q))).length + ([i] : List Int).length := List.length_append
    simp only [List.length_cons, List.length_nil] at sD
    refine At.act nA (appendR (α := Int) (t := 22) (d := 85) (n := (gL fr2 (gI (gL g.mv (i)) (q))).length) (m := 1) (cc := 1) (xs := gL fr2 (gI (gL g.mv (i)) (q))) (ys := [i]) (bytes := 8) (by first | rfl | omega | (simp; done) | (simp; omega)) (by first | rfl | omega | (simp; done) | (simp; omega)) (by kernel_rfl) rfl (by kernel_rfl) cK (Bx.srcR (l := ([i] : List Int)) jT rfl) (by simp only [List.length_cons, List.length_nil]; omega) (by simp only [List.length_cons, List.length_nil]; omega)) ?_
    rintro d_ v_ sE ⟨rfl, sF, xL, gT⟩
    obtain rfl := gT.val
    have cR := gT.gr
    refine ⟨_, rfl, fun xM nB => ?_⟩
    clear nA; clear jT
    have nC := gT.own (Sx (aP.heap.size) [obk (bA), obk (aT), obk (bD)]) (fun g _ hs => ⟨hs.2.1, hs.2.2.1, hs.2.2.2.1, hs.2.2.2.2⟩) ⟨gC.ne_new, cJ.ne_new, bB.ne_new, (show aP.heap.size ≤ mZ.heap.size by omega)⟩
    have := cR.size; replace cF := cF.gr cR (fun k hk => by have := cK.ge k hk; omega); replace cN := cN.gr cR (fun k hk => by have := cK.ge k hk; omega); replace cO := cO.gr cR (fun k hk => by have := cK.ge k hk; omega); replace cG := cG.gr cR (fun e => by have := cK.ge _ e; omega); replace cC := cC.gr cR (fun e => by have := cK.ge _ e; omega)
    replace cH := cH.gr cR (fun e => by have := cK.ge _ e; omega); replace cI := cI.gr cR (fun e => by have := cK.ge _ e; omega); clear gC; replace bB := bB.gr2 cR (fun k hk e => (cK.inS k e).2.2.2.1 hk); replace cJ := cJ.gr2 cR (fun k hk e => (cK.inS k e).2.2.1 hk); replace cP := cP.gr cR (fun k hk => by have := cK.ge k hk; omega); replace cB := cB.moved cR gT.at_; clear cK cR gT
    refine At.rd nB 1 [[.ad fI]] [(86, .pointer (some (fI.add ((gI (gL g.mv (i)) (q) : Int).toNat * 1))))] [(bA = some fI), (0 ≤ (gI (gL g.mv (i)) (q) : Int)), ((gI (gL g.mv (i)) (q) : Int) < (fr2.length : Nat))] (by kernel_rfl) ⟨jR, (by omega), (by omega), trivial⟩ (fun xN nD => ?_)
    clear nB
    replace cB : HoleLL sE (aP.heap.size) [obk (aT), obk (bD)] bA bS 22 3 (fr2 : List (List Int)) (gI (gL g.mv (i)) (q) : Int).toNat sF := cB.imp (fun g _ hs => ⟨hs.2.1, hs.2.2.1, hs.2.2.2⟩)
    refine At.act nD (storeLL (t := 22) (i := gI (gL g.mv (i)) (q)) (ad := fI) (xs := (gL fr2 (gI (gL g.mv (i)) (q))) ++ ([i])) (by kernel_rfl) (by kernel_rfl) jR cB nC (by first | rfl | omega | (simp; done) | (simp; omega)) (by omega) (by omega)) ?_
    rintro d_ v_ sG ⟨rfl, dG, jU⟩
    refine ⟨_, rfl, fun xO nE => ?_⟩
    clear nD; have xP : ((fr2).set (gI (gL g.mv (i)) (q) : Int).toNat ((gL fr2 (gI (gL g.mv (i)) (q))) ++ ([i]))).length = (fr2).length := List.length_set; have := dG.size; replace cF := cF.gr dG (fun k hk => by have := (HoleLLP.row cB).ge k hk; omega); replace cN := cN.gr dG (fun k hk => by have := (HoleLLP.row cB).ge k hk; omega)
    replace cO := cO.gr dG (fun k hk => by have := (HoleLLP.row cB).ge k hk; omega); replace cG := cG.gr dG (fun e => by have := (HoleLLP.row cB).ge _ e; omega); replace cC := cC.gr dG (fun e => by have := (HoleLLP.row cB).ge _ e; omega); replace cH := cH.gr dG (fun e => by have := (HoleLLP.row cB).ge _ e; omega); replace cI := cI.gr dG (fun e => by have := (HoleLLP.row cB).ge _ e; omega)
    replace bB := bB.gr dG (fun k hk => hk.2.2.1); replace cJ := cJ.gr dG (fun k hk => hk.2.1); replace cP := cP.gr dG (fun k hk => by have := (HoleLLP.row cB).ge k hk; omega); clear cB nC dG
    refine At.done rfl ?_
    refine t_n ?_
    refine At.start ?_
    obtain ⟨hZ, sH, xQ, sI, xR⟩ := bB.get (i) (by omega) (by omega) (sz := 1) rfl
    obtain ⟨iA, nF, xS, xT, xU⟩ := bB.get (i) (by omega) (by omega) (sz := 1) rfl
    refine At.rd nE 6 [[], [], [.ad hZ], [.ld (.int .i64 (gI lf2 i))], [.as_ (.int .i64 ((gI lf2 i) + 1))], [.ad iA]] [(92, .pointer (some (iA.add ((i : Int).toNat * 1)))), (91, .int .i64 ((gI lf2 i) + 1)), (90, .int .i64 (gI lf2 i)), (89, .pointer (some (hZ.add ((i : Int).toNat * 1)))), (88, .int .i64 (i)), (87, .slice bD lf2.length cA)] [(bD = some hZ), (0 ≤ (i : Int)), ((i : Int) < (lf2.length : Nat)), (sG.cell? (hZ.add ((i : Int).toNat * 1)) = some (.int .i64 (gI lf2 i))), ((.int .i64 (IntKind.i64.wrap ((gI lf2 i) + 1)) : Value) = .int .i64 ((gI lf2 i) + 1)), (bD = some iA), (0 ≤ (i : Int)), ((i : Int) < (lf2.length : Nat))] (by kernel_rfl) ⟨sH, (by omega), (by omega), sI, (w64 (by omega) (by omega)), nF, (by omega), (by omega), trivial⟩ (fun xV nG => ?_)
    clear nE
    refine At.act nG (storeR (α := Int) (t := 3) (i := i) (ad := iA) (v := .int .i64 ((gI lf2 i) + 1)) ((gI lf2 i) + 1) (by kernel_rfl) rfl rfl (by kernel_rfl) nF bB (by omega) (by omega)) ?_
    rintro d_ v_ xW ⟨rfl, dH, sJ⟩
    refine ⟨_, rfl, fun xX nH => ?_⟩
    clear nG; have xY : ((lf2).set (i : Int).toNat ((gI lf2 i) + 1)).length = (lf2).length := List.length_set; have := dH.size; replace cF := cF.gr dH (fun k hk => by have := bB.ge k hk; omega); replace cN := cN.gr dH (fun k hk => by have := bB.ge k hk; omega); replace cO := cO.gr dH (fun k hk => by have := bB.ge k hk; omega); replace cG := cG.gr dH (fun e => by have := bB.ge _ e; omega)
    replace cC := cC.gr dH (fun e => by have := bB.ge _ e; omega); replace cH := cH.gr dH (fun e => by have := bB.ge _ e; omega); replace cI := cI.gr dH (fun e => by have := bB.ge _ e; omega); replace cJ := cJ.gr dH (fun k hk => hk.2.2.1); replace cP := cP.gr dH (fun k hk => by have := bB.ge k hk; omega); replace jU := jU.gr dH (fun k hk => hk.2.1); clear bB dH
    refine At.done rfl ?_
    refine b_n ?_
    refine t_n ?_
    refine At.start ?_
    refine At.rd nH 2 [[.as_ (.int .i64 (q + 1))], []] [(70, .int .i64 (q + 1)), (93, .int .i64 (q + 1))] [((.int .i64 (IntKind.i64.wrap (q + 1)) : Value) = .int .i64 (q + 1))] (by kernel_rfl) ⟨(w64 (by omega) (by omega)), trivial⟩ (fun xZ nI => ?_)
    clear nH
    refine At.done rfl ?_
    refine t_n ?_
    have nJ := nI.as 14 (.slice bD lf2.length cA) (.slice bD (((lf2).set (i : Int).toNat ((gI lf2 i) + 1) : List Int).length) cA) rfl (slice_len (by first | rfl | omega | (simp; done) | (simp; omega)))
    clear nI
    have sK := nJ.as 13 (.slice bA fr2.length bS) (.slice bA (((fr2).set (gI (gL g.mv (i)) (q) : Int).toNat ((gL fr2 (gI (gL g.mv (i)) (q))) ++ ([i])) : List (List Int)).length) bS) rfl (slice_len (by first | rfl | omega | (simp; done) | (simp; omega)))
    clear nJ
    have sL := sK.sub (r := [(70, .int .i64 (q + 1)), (69, .int .i64 ((((gL g.mv (i)).length : Nat) : Int))), (68, .slice eV ((gL g.mv (i)).length) fQ), (16, .int .i64 (i)), (54, .int .i64 (i)), (53, .int .i64 (((g.ow.length : Nat) : Int))), (15, .slice aT ms.length bC), (14, .slice bD (((lf2).set (i : Int).toNat ((gI lf2 i) + 1) : List Int).length) cA), (13, .slice bA (((fr2).set (gI (gL g.mv (i)) (q) : Int).toNat ((gL fr2 (gI (gL g.mv (i)) (q))) ++ ([i])) : List (List Int)).length) bS), (8, .pointer (some ⟨aO.heap.size, 0, none⟩)), (7, .pointer (some ⟨aY.heap.size, 0, none⟩)), (5, .pointer (some ⟨w1.heap.size, 0, none⟩)), (4, .pointer (some ⟨w.heap.size, 0, none⟩)), (2, .int .i64 (p))]) ⟨rfl, rfl, rfl, rfl, rfl, rfl, rfl, rfl, rfl, rfl, rfl, rfl, rfl, rfl, trivial⟩
    exact ⟨_, (by omega), (q + 1), ((fr2).set (gI (gL g.mv (i)) (q) : Int).toNat ((gL fr2 (gI (gL g.mv (i)) (q))) ++ ([i])) : List (List Int)), bA, bS, ((lf2).set (i : Int).toNat ((gI lf2 i) + 1) : List Int), bD, cA, rfl, sL, cF, cN, cO, cG, cC, cH, cI, jU, (sJ.imp (fun g _ hs => ⟨hs.2.1, hs.2.2.1, hs.2.2.2⟩)), (cJ.imp (fun g _ hs => ⟨hs.2.1, hs.2.2.1, hs.2.2.2⟩)), cP, (by omega), (by omega), (fra_push hG hfr2 (by omega) (by omega) (by omega) (by omega) hIi (by rw [← has_inT (by omega) (by omega)]; assumption)), (by omega), (by omega), (by omega)⟩
   refine wp_skip ?_
   refine b_n ?_
   refine t_n ?_
   refine At.start ?_
   refine At.rd gS 2 [[.as_ (.int .i64 (q + 1))], []] [(70, .int .i64 (q + 1)), (93, .int .i64 (q + 1))] [((.int .i64 (IntKind.i64.wrap (q + 1)) : Value) = .int .i64 (q + 1))] (by kernel_rfl) ⟨(w64 (by omega) (by omega)), trivial⟩ (fun yA nK => ?_)
   clear gS
   refine At.done rfl ?_
   refine t_n ?_
   have nL := nK.as 14 (.slice bD lf2.length cA) (.slice bD ((lf2 : List Int).length) cA) rfl (slice_len (by first | rfl | omega | (simp; done) | (simp; omega)))
   clear nK
   have sM := nL.as 13 (.slice bA fr2.length bS) (.slice bA ((fr2 : List (List Int)).length) bS) rfl (slice_len (by first | rfl | omega | (simp; done) | (simp; omega)))
   clear nL
   have sN := sM.sub (r := [(70, .int .i64 (q + 1)), (69, .int .i64 ((((gL g.mv (i)).length : Nat) : Int))), (68, .slice eV ((gL g.mv (i)).length) fQ), (16, .int .i64 (i)), (54, .int .i64 (i)), (53, .int .i64 (((g.ow.length : Nat) : Int))), (15, .slice aT ms.length bC), (14, .slice bD ((lf2 : List Int).length) cA), (13, .slice bA ((fr2 : List (List Int)).length) bS), (8, .pointer (some ⟨aO.heap.size, 0, none⟩)), (7, .pointer (some ⟨aY.heap.size, 0, none⟩)), (5, .pointer (some ⟨w1.heap.size, 0, none⟩)), (4, .pointer (some ⟨w.heap.size, 0, none⟩)), (2, .int .i64 (p))]) ⟨rfl, rfl, rfl, rfl, rfl, rfl, rfl, rfl, rfl, rfl, rfl, rfl, rfl, rfl, trivial⟩
   exact ⟨_, (by omega), (q + 1), (fr2 : List (List Int)), bA, bS, (lf2 : List Int), bD, cA, rfl, sN, cF, cN, cO, cG, cC, cH, cI, gC, bB, cJ, cP, (by omega), (by omega), (fra_skip hG hfr2 (by omega) (by omega) (by omega) (by omega) (by rw [← has_inT (by omega) (by omega)]; assumption)), (by omega), (by omega), (by omega)⟩
  have yB := of_decide_eq_false jO
  refine wp_exit ?_
  refine t_e ?_
  refine t_e ?_
  refine b_e ?_
  refine b_n ?_
  refine t_n ?_
  refine At.start ?_
  refine At.rd gR 2 [[.as_ (.int .i64 (i + 1))], []] [(54, .int .i64 (i + 1)), (94, .int .i64 (i + 1))] [((.int .i64 (IntKind.i64.wrap (i + 1)) : Value) = .int .i64 (i + 1))] (by kernel_rfl) ⟨(w64 (by omega) (by omega)), trivial⟩ (fun yC nM => ?_)
  clear gR
  refine At.done rfl ?_
  refine t_n ?_
  have nN := nM.as 15 (.slice aT ms.length bC) (.slice aT (((ms).set (i : Int).toNat (-1) : List Int).length) bC) rfl (slice_len (by first | rfl | omega | (simp; done) | (simp; omega)))
  clear nM
  have nO := nN.as 14 (.slice bD lf2.length cA) (.slice bD ((lf2 : List Int).length) cA) rfl (slice_len (by first | rfl | omega | (simp; done) | (simp; omega)))
  clear nN
  have sO := nO.as 13 (.slice bA fr2.length bS) (.slice bA ((fr2 : List (List Int)).length) bS) rfl (slice_len (by first | rfl | omega | (simp; done) | (simp; omega)))
  clear nO
  have sP := sO.sub (r := [(54, .int .i64 (i + 1)), (53, .int .i64 (((g.ow.length : Nat) : Int))), (15, .slice aT (((ms).set (i : Int).toNat (-1) : List Int).length) bC), (14, .slice bD ((lf2 : List Int).length) cA), (13, .slice bA ((fr2 : List (List Int)).length) bS), (8, .pointer (some ⟨aO.heap.size, 0, none⟩)), (7, .pointer (some ⟨aY.heap.size, 0, none⟩)), (5, .pointer (some ⟨w1.heap.size, 0, none⟩)), (4, .pointer (some ⟨w.heap.size, 0, none⟩)), (2, .int .i64 (p))]) ⟨rfl, rfl, rfl, rfl, rfl, rfl, rfl, rfl, rfl, rfl, trivial⟩
  exact ⟨_, (by omega), (i + 1), (fr2 : List (List Int)), bA, bS, (lf2 : List Int), bD, cA, ((ms).set (i : Int).toNat (-1) : List Int), aT, bC, rfl, sP, cF, cN, cO, cG, cC, cH, cI, jN, bB, cJ, (by omega), (by omega), (fra_row hG hfr2 (by omega) (by omega) (by omega) (by omega) hIi), (by rw [List.length_set]; assumption), (ms_next hms (by omega) (by omega)), (by omega), (by omega), (by omega)⟩
 have yD := of_decide_eq_false jL
 refine wp_exit ?_
 refine t_e ?_
 refine t_e ?_
 refine b_e ?_
 refine t_n ?_
 refine wp_seq ?_
 have hE : FrA g (inT g s) fr lf (g.ow.length : Int) 0 := by have e_ : i = (g.ow.length : Int) := (by omega); rw [← e_]; exact hfr
 have hmsE : ∀ j : Int, 0 ≤ j → j < (g.ow.length : Int) → gI ms j = -1 := fun j a b => hms j a (by omega)
 have hfle := hE.len; have hlle := hE.ll
 refine At.start ?_
 refine At.rd gN 2 [[.cs ((t : List Int).map wV)], [.cs (((inS g s : List Int) : List Int).map wV)]] [(96, .agg (((inS g s : List Int) : List Int).map wV).toArray), (95, .agg ((t : List Int).map wV).toArray)] [(((t : List Int).map wV).length = 4), (∀ (j : Nat) (v : Value), ((t : List Int).map wV)[j]? = some v → mE.cell? ((⟨aY.heap.size, 0, none⟩ : Addr).add j) = some v), ((((inS g s : List Int) : List Int).map wV).length = 4), (∀ (j : Nat) (v : Value), (((inS g s : List Int) : List Int).map wV)[j]? = some v → mE.cell? ((⟨w1.heap.size, 0, none⟩ : Addr).add j) = some v)] (by kernel_rfl) ⟨((List.length_map _).trans (by assumption)), bZ.whole, ((List.length_map _).trans (okLen (inS_ok (by assumption)))), bW.whole, trivial⟩ (fun yE nP => ?_)
 clear gN
 refine At.call nP 26 #[.agg ((t : List Int).map wV).toArray, .agg (((inS g s : List Int) : List Int).map wV).toArray] (some 97) (by kernel_rfl) (andS_any (s := t) (t := (inS g s : List Int)) (by assumption) (inS_ok (by assumption))) ?_
 rintro e_ aE ⟨rfl, he⟩
 refine ⟨_, rfl, _, rfl, fun yF nQ => ?_⟩
 clear nP; have dI := gr_ext he; have := dI.size; replace bN := bN.gn dI; replace bO := bO.gn dI; replace bP := bP.gn dI; replace bI := bI.gn dI; replace bW := bW.gn dI; replace bZ := bZ.gn dI; replace bQ := bQ.gn dI; have eW := hU.gn dI; clear hU; replace bR := bR.gn dI; replace bF := bF.gn dI; clear dI he
 refine At.seq nQ 1 [[]] [(19, .pointer (some ⟨aE.heap.size, 0, none⟩))] (aE.alloc (.cells ((List.replicate 4 (0 : Int) : List Int).map wV).toArray 44 (0, 0))) [] (by kernel_rfl) trivial (fun yG sQ jV nR => ?_)
 clear nQ; have dJ := gr_alloc jV; have := dJ.size; replace bN := bN.gn dJ; replace bO := bO.gn dJ; replace bP := bP.gn dJ; replace bI := bI.gn dJ; replace bW := bW.gn dJ; replace bZ := bZ.gn dJ; replace bQ := bQ.gn dJ; replace eW := eW.grN dJ; replace bR := bR.grN dJ; replace bF := bF.grN dJ; have jW : Bx sQ (aE.heap.size) ((List.replicate 4 (0 : Int) : List Int).map wV) 44 := Bx.new jV
 have := jW.lt; clear dJ jV
 refine At.act nR (storeBlk (t := 44) (b := aE.heap.size) (n := 4) (cs' := ((andS t (inS g s : List Int) : List Int).map wV)) (by kernel_rfl) (by kernel_rfl) ((List.length_map _).trans (okLen (okW_andS (by assumption) (inS_ok (by assumption))))) oneW_ ((show ((andS t (inS g s : List Int) : List Int).map wV).length = 4 from ((List.length_map _).trans (okLen (okW_andS (by assumption) (inS_ok (by assumption)))))).trans (show ((List.replicate 4 (0 : Int) : List Int).map wV).length = 4 from (by simp only [List.length_map, List.length_set, List.length_replicate, List.length_cons, List.length_nil]; first | done | assumption | exact from_len _ | exact of_len _ | exact ofZ_len _ | exact (ofW_ok _).1 | exact (fullW_W _).1 | exact (okW_with (by assumption)).1 | exact (okW_less (by assumption)).1 | exact put_len (from_len _) | exact orD_len _ _ | exact andD_len _ _ | exact minusD_len _ _ | exact fullD_len _ | (refine okLen ?_; (repeat (first | assumption | exact ofW_ok _ | exact fullW_W _ | apply okW_with | apply okW_less | refine okW_orS ?_ ?_ | refine okW_andS ?_ ?_ | refine okW_minusS ?_ ?_)); done) | omega | rfl)).symm) jW) ?_
 rintro d_ v_ cL ⟨rfl, dK, gU⟩
 refine ⟨_, rfl, fun yH nS => ?_⟩
 clear nR; have := dK.size; replace bN := bN.gr dK (fun k h => by injection h; omega); replace bO := bO.gb dK (by omega); replace bP := bP.gb dK (by omega); replace bI := bI.gb dK (by omega); replace bW := bW.gb dK (by omega); replace bZ := bZ.gb dK (by omega); replace bQ := bQ.gb dK (by omega); replace eW := eW.gr dK (fun k hk => hk.1); replace bR := bR.gr dK (fun k hk => hk.1)
 replace bF := bF.gr dK (fun k hk => hk.1); clear jW dK
 refine At.done rfl ?_
 refine t_n ?_
 clear bW; clear bZ
 refine wp_seq ?_
 refine wp_seq ?_
 refine At.start ?_
 refine At.rd nS 1 [[.cs ((andS t (inS g s : List Int) : List Int).map wV)]] [(98, .agg ((andS t (inS g s : List Int) : List Int).map wV).toArray)] [(((andS t (inS g s : List Int) : List Int).map wV).length = 4), (∀ (j : Nat) (v : Value), ((andS t (inS g s : List Int) : List Int).map wV)[j]? = some v → cL.cell? ((⟨aE.heap.size, 0, none⟩ : Addr).add j) = some v)] (by kernel_rfl) ⟨((List.length_map _).trans (okLen (okW_andS (by assumption) (inS_ok (by assumption))))), gU.whole, trivial⟩ (fun yI nT => ?_)
 clear nS
 refine At.call nT 43 #[.agg ((andS t (inS g s : List Int) : List Int).map wV).toArray] (some 99) (by kernel_rfl) (list_any (s := andS t (inS g s : List Int)) (okW_andS (by assumption) (inS_ok (by assumption))) (bP.wide (Nat.zero_le _) (by omega))) ?_
 rintro e_ iB ⟨eX, gD, rfl, he, fR⟩
 have := ls_len (fromW (andS t (inS g s : List Int))) 256
 refine ⟨_, rfl, _, rfl, fun yJ nU => ?_⟩
 clear nT; have dY := gr_ext he; have nV := eW.lt; have nW := bR.lt; have nX := bF.lt; have := dY.size; replace bN := bN.gn dY; replace bO := bO.gn dY; replace bP := bP.gn dY; replace bI := bI.gn dY; replace bQ := bQ.gn dY
 replace eW : OwnLL iB (aP.heap.size) [obk (eX), some (aE.heap.size), obk (aT), obk (bE)] aC aU 22 3 (fr : List (List Int)) := eW.grA dY (fun _ _ h => by cases h) (fun k hk hs => ⟨(fun e => by have := fR.ge _ e; omega), hs.1, hs.2.1, hs.2.2.1, hs.2.2.2⟩)
 replace bR : OwnR iB (Sx (aW.heap.size) [obk (eX), some (aE.heap.size), obk (aT), obk (aC)]) bE bY 3 (lf : List Int) := bR.grA dY (fun _ _ h => by cases h) (fun k hk hs => ⟨(fun e => by have := fR.ge _ e; omega), hs.1, hs.2.1, hs.2.2.1, hs.2.2.2⟩)
 replace bF : OwnR iB (Sx (aZ.heap.size) [obk (eX), some (aE.heap.size), obk (aC), obk (bE)]) aT bC 3 (ms : List Int) := bF.grA dY (fun _ _ h => by cases h) (fun k hk hs => ⟨(fun e => by have := fR.ge _ e; omega), hs.1, hs.2.1, hs.2.2.1, hs.2.2.2⟩)
 replace gU := gU.gn dY
 replace fR : OwnR iB (Sx (cL.heap.size) [obk (aC), obk (bE), obk (aT)]) eX gD 3 ((lsD (fromW (andS t (inS g s : List Int))) 256) : List Int) := fR.imp (fun g _ hs => ⟨(fun e => by have := nV _ e; have := Sx_base hs; omega), (fun e => by have := nW _ e; have := Sx_base hs; omega), (fun e => by have := nX _ e; have := Sx_base hs; omega), hs⟩)
 clear nV nW nX; clear dY he
 refine At.rd nU 1 [[]] [(20, .slice eX ((lsD (fromW (andS t (inS g s : List Int))) 256).length) gD)] [] (by kernel_rfl) trivial (fun yK nY => ?_)
 clear nU
 refine At.done rfl ?_
 refine t_n ?_
 refine wp_block ?_
 have nZ := nY.as 20 (.slice eX ((lsD (fromW (andS t (inS g s : List Int))) 256).length) gD) (.slice eX (((lsD (fromW (andS t (inS g s : List Int))) 256) : List Int).length) gD) rfl (slice_len (by first | rfl | omega | (simp; done) | (simp; omega)))
 clear nY; have oA := nZ.as 15 (.slice aT ms.length bC) (.slice aT ((ms : List Int).length) bC) rfl (slice_len (by first | rfl | omega | (simp; done) | (simp; omega))); clear nZ; have oB := oA.as 14 (.slice bE lf.length bY) (.slice bE ((lf : List Int).length) bY) rfl (slice_len (by first | rfl | omega | (simp; done) | (simp; omega))); clear oA
 have oC := oB.sub (r := [(20, .slice eX (((lsD (fromW (andS t (inS g s : List Int))) 256) : List Int).length) gD), (19, .pointer (some ⟨aE.heap.size, 0, none⟩)), (15, .slice aT ((ms : List Int).length) bC), (14, .slice bE ((lf : List Int).length) bY), (13, .slice aC fr.length aU), (8, .pointer (some ⟨aO.heap.size, 0, none⟩)), (4, .pointer (some ⟨w.heap.size, 0, none⟩)), (2, .int .i64 (p))]) ⟨rfl, rfl, rfl, rfl, rfl, rfl, rfl, rfl, trivial⟩
 refine loop_g (fun (m_ : Nat) a_ w_ => ∃ (ss : List Int) (lf3 : List Int) (eI : Option Addr) (fS : Nat) (ms3 : List Int) (cM : Option Addr) (dZ : Nat) (op : List Int) (cS : Option Addr) (eY : Nat), m_ = (512 - 2 * lenW ss + (op.length : Int)).toNat ∧ (Frm 163 a_ [(20, .slice cS op.length eY), (19, .pointer (some ⟨aE.heap.size, 0, none⟩)), (15, .slice cM ms3.length dZ), (14, .slice eI lf3.length fS), (13, .slice aC fr.length aU), (8, .pointer (some ⟨aO.heap.size, 0, none⟩)), (4, .pointer (some ⟨w.heap.size, 0, none⟩)), (2, .int .i64 (p))]) ∧ (Ext w w_) ∧ (RdG w_ 0 w.heap.size Ag0 Ag1 Ag2 cg0 cg1 cg2 g) ∧ (RdT w_ 0 w.heap.size) ∧ (Bx w_ (w.heap.size) [.slice Ag0 g.ow.length cg0, .slice Ag1 g.pr.length cg1, .slice Ag2 g.mv.length cg2] 25) ∧ (Bx w_ (aO.heap.size) ((List.replicate 4 (0 : Int) : List Int).map wV) 44) ∧ (OwnLL w_ (aP.heap.size) [obk (cS), some (aE.heap.size), obk (cM), obk (eI)] aC aU 22 3 (fr : List (List Int))) ∧ (OwnR w_ (Sx (aW.heap.size) [obk (cS), some (aE.heap.size), obk (cM), obk (aC)]) eI fS 3 (lf3 : List Int)) ∧ (OwnR w_ (Sx (aZ.heap.size) [obk (cS), some (aE.heap.size), obk (aC), obk (eI)]) cM dZ 3 (ms3 : List Int)) ∧ (Bx w_ (aE.heap.size) ((ss : List Int).map wV) 44) ∧ (OwnR w_ (Sx (cL.heap.size) [obk (aC), obk (eI), obk (cM)]) cS eY 3 (op : List Int)) ∧ (ss.length = 4) ∧ (OkW ss) ∧ (∃ pr, AW g (inT g s) p (fromW t) (fromW ss) op lf3 ms3 pr [] []) ∧ (aP.heap.size ≤ w_.heap.size) ∧ (aW.heap.size ≤ w_.heap.size) ∧ (aZ.heap.size ≤ w_.heap.size) ∧ (cL.heap.size ≤ w_.heap.size)) _ ⟨andS t (inS g s : List Int), (lf : List Int), bE, bY, (ms : List Int), aT, bC, ((lsD (fromW (andS t (inS g s : List Int))) 256) : List Int), eX, gD, rfl, oC, bN, bO, bP, bI, bQ, eW, bR, bF, gU, fR, (okW_andS ht (inS_ok hs)).1, (okW_andS ht (inS_ok hs)), ⟨[], aw_start hG inT_lt (fun j a b => by rw [from_andS, gB_andD a b]; rfl) hE.ll (by omega) (fra_lf hE) hmsE⟩, (by omega), (by omega), (by omega), (by omega)⟩ ?_
 clear oC oB; clear bO; clear bP; clear bI; clear bQ; clear eW; clear bR; clear bF; clear gU; clear fR; clear bN
 intro m_ yL jX ⟨ss, lf3, eI, fS, ms3, cM, dZ, op, cS, eY, hm654, oD, gE, iC, iD, iE, gV, gW, iF, gX, fT, gY, i665, hok, hw, i666, i667, i668, i669⟩
 have := gE.size; have := iE.lt; have := gV.lt; have := fT.lt; have hlw_ := lenW_le ss
 have hawl : op.length ≤ g.ow.length ∧ lf3.length = g.ow.length ∧ ms3.length = g.ow.length := by obtain ⟨pr_, hw_⟩ := hw; exact ⟨aw_len hw_, hw_.ll, hw_.ml⟩
 refine wp_seq ?_
 refine wp_seq ?_
 refine At.start ?_
 refine At.rd oD 3 [[], [], []] [(102, .bool (decide ((((op.length : Nat) : Int) : Int) > 0))), (101, .int .i64 (((op.length : Nat) : Int))), (100, .slice cS op.length eY)] [] (by kernel_rfl) trivial (fun yM gZ => ?_)
 clear oD
 refine At.done rfl ?_
 refine t_n ?_
 refine cond_S gZ (t := decide ((((op.length : Nat) : Int) : Int) > 0)) rfl (fun jY => ?_) (fun jY => ?_)
 ·have yN := of_decide_eq_true jY
  refine wp_skip ?_
  refine t_n ?_
  refine wp_seq ?_
  refine wp_block ?_
  refine wp_seq ?_
  obtain ⟨pr, hw⟩ := hw
  have hop := op_cons (op := op) (by omega)
  have hw2 : AW g (inT g s) p (fromW t) (fromW ss) (gI op 0 :: op.drop 1) lf3 ms3 pr [] [] := by rw [← hop]; exact hw
  have hmr := hw2.rng (gI op 0) (by simp); have hld := fra_leads hE hmr.1 hmr.2.1; have hwo := aw_open hw2 hld; have hfc := hE.cnt _ hmr.1 hmr.2.1
  refine At.start ?_
  obtain ⟨iG, sR, yO, sS, yP⟩ := gY.get (0) (by omega) (by omega) (sz := 1) rfl
  refine At.rd gZ 4 [[], [.ad iG], [.ld (.int .i64 (gI op 0))], []] [(21, .int .i64 (gI op 0)), (107, .int .i64 (gI op 0)), (106, .pointer (some (iG.add ((0 : Int).toNat * 1)))), (105, .slice cS op.length eY)] [(cS = some iG), (0 ≤ (0 : Int)), ((0 : Int) < (op.length : Nat)), (jX.cell? (iG.add ((0 : Int).toNat * 1)) = some (.int .i64 (gI op 0)))] (by kernel_rfl) ⟨sR, (by omega), (by omega), sS, trivial⟩ (fun yQ oE => ?_)
  clear gZ
  refine At.done rfl ?_
  refine t_n ?_
  refine wp_seq ?_
  refine At.start ?_
  obtain ⟨iH, bT, bX, sT, yR, sU, oF, yS⟩ := gW.get (gI op 0) (by omega) (by omega)
  refine At.rd oE 6 [[], [], [.ad iH], [.ld (.slice bT ((gL fr (gI op 0)).length) bX)], [], []] [(113, .int .i64 (0)), (112, .int .i64 ((((gL fr (gI op 0)).length : Nat) : Int))), (111, .slice bT ((gL fr (gI op 0)).length) bX), (110, .pointer (some (iH.add ((gI op 0 : Int).toNat * 1)))), (109, .int .i64 (gI op 0)), (108, .slice aC fr.length aU)] [(aC = some iH), (0 ≤ (gI op 0 : Int)), ((gI op 0 : Int) < (fr.length : Nat)), (jX.cell? (iH.add ((gI op 0 : Int).toNat * 1)) = some (.slice bT ((gL fr (gI op 0)).length) bX))] (by kernel_rfl) ⟨sT, (by omega), (by omega), sU, trivial⟩ (fun yT oG => ?_)
  clear oE
  refine At.done rfl ?_
  refine t_n ?_
  refine wp_block ?_
  have oH := oG.as 20 (.slice cS op.length eY) (.slice cS ((op : List Int).length) eY) rfl (slice_len (by first | rfl | omega | (simp; done) | (simp; omega))); clear oG
  have oI := oH.as 15 (.slice cM ms3.length dZ) (.slice cM ((ms3 : List Int).length) dZ) rfl (slice_len (by first | rfl | omega | (simp; done) | (simp; omega)))
  clear oH
  have oJ := oI.as 14 (.slice eI lf3.length fS) (.slice eI ((lf3 : List Int).length) fS) rfl (slice_len (by first | rfl | omega | (simp; done) | (simp; omega)))
  clear oI
  have oK := oJ.sub (r := [(20, .slice cS ((op : List Int).length) eY), (113, .int .i64 (0)), (112, .int .i64 ((((gL fr (gI op 0)).length : Nat) : Int))), (111, .slice bT ((gL fr (gI op 0)).length) bX), (21, .int .i64 (gI op 0)), (19, .pointer (some ⟨aE.heap.size, 0, none⟩)), (15, .slice cM ((ms3 : List Int).length) dZ), (14, .slice eI ((lf3 : List Int).length) fS), (13, .slice aC fr.length aU), (8, .pointer (some ⟨aO.heap.size, 0, none⟩)), (4, .pointer (some ⟨w.heap.size, 0, none⟩)), (2, .int .i64 (p))]) ⟨rfl, rfl, rfl, rfl, rfl, rfl, rfl, rfl, rfl, rfl, rfl, rfl, trivial⟩
  refine loop_g (fun (m_ : Nat) a_ w_ => ∃ (q : Int) (ss2 : List Int) (lf4 : List Int) (aB : Option Addr) (aQ : Nat) (ms4 : List Int) (aD : Option Addr) (aR : Nat) (op4 : List Int) (aX : Option Addr) (aV : Nat), m_ = (((gL fr (gI op 0)).length : Int) - q).toNat ∧ (Frm 163 a_ [(20, .slice aX op4.length aV), (113, .int .i64 (q)), (112, .int .i64 ((((gL fr (gI op 0)).length : Nat) : Int))), (111, .slice bT ((gL fr (gI op 0)).length) bX), (21, .int .i64 (gI op 0)), (19, .pointer (some ⟨aE.heap.size, 0, none⟩)), (15, .slice aD ms4.length aR), (14, .slice aB lf4.length aQ), (13, .slice aC fr.length aU), (8, .pointer (some ⟨aO.heap.size, 0, none⟩)), (4, .pointer (some ⟨w.heap.size, 0, none⟩)), (2, .int .i64 (p))]) ∧ (Ext w w_) ∧ (RdG w_ 0 w.heap.size Ag0 Ag1 Ag2 cg0 cg1 cg2 g) ∧ (RdT w_ 0 w.heap.size) ∧ (Bx w_ (w.heap.size) [.slice Ag0 g.ow.length cg0, .slice Ag1 g.pr.length cg1, .slice Ag2 g.mv.length cg2] 25) ∧ (Bx w_ (aO.heap.size) ((List.replicate 4 (0 : Int) : List Int).map wV) 44) ∧ (OwnLL w_ (aP.heap.size) [obk (aX), some (aE.heap.size), obk (aD), obk (aB)] aC aU 22 3 (fr : List (List Int))) ∧ (OwnR w_ (Sx (aW.heap.size) [obk (aX), some (aE.heap.size), obk (aD), obk (aC)]) aB aQ 3 (lf4 : List Int)) ∧ (OwnR w_ (Sx (aZ.heap.size) [obk (aX), some (aE.heap.size), obk (aC), obk (aB)]) aD aR 3 (ms4 : List Int)) ∧ (Bx w_ (aE.heap.size) ((ss2 : List Int).map wV) 44) ∧ (OwnR w_ (Sx (cL.heap.size) [obk (aC), obk (aB), obk (aD)]) aX aV 3 (op4 : List Int)) ∧ (OwnR w_ (Sx (aP.heap.size) [obk (aC), obk (aX), some (aE.heap.size), obk (aD), obk (aB)]) bT bX 3 (gL fr (gI op 0) : List Int)) ∧ (0 ≤ q) ∧ (q ≤ ((gL fr (gI op 0)).length : Int)) ∧ (OkW ss2) ∧ (∃ tl, op4 = gI op 0 :: tl ∧ AW g (inT g s) p (fromW t) (fromW ss2) (gI op 0 :: tl) lf4 ms4 pr [gI op 0] ((gL fr (gI op 0)).drop q.toNat)) ∧ (2 * lenW ss - (op.length : Int) ≤ 2 * lenW ss2 - (op4.length : Int)) ∧ (ss2.length = 4) ∧ (aP.heap.size ≤ w_.heap.size) ∧ (aW.heap.size ≤ w_.heap.size) ∧ (aZ.heap.size ≤ w_.heap.size) ∧ (cL.heap.size ≤ w_.heap.size)) _ ⟨0, ss, (lf3 : List Int), eI, fS, (ms3 : List Int), cM, dZ, (op : List Int), cS, eY, rfl, oK, gE, iC, iD, iE, gV, gW, iF, gX, fT, gY, oF, (by omega), (by omega), hok, ⟨_, hop, by rw [show (0 : Int).toNat = 0 from rfl, List.drop_zero]; exact hwo⟩, (Int.le_refl _), hok.1, (by omega), (by omega), (by omega), (by omega)⟩ ?_
  clear oK oJ; clear iC; clear iD; clear iE; clear gV; clear gW; clear iF; clear gX; clear fT; clear gY; clear oF; clear gE
  intro m_ yU gF ⟨q, ss2, lf4, aB, aQ, ms4, aD, aR, op4, aX, aV, hm706, oL, aJ, aG, aM, aF, aK, iI, cT, aN, aS, aA, aH, i718, i719, hok2, hwi, hme, i720, i721, i722, i723, i724⟩
  have := aJ.size; have := aF.lt; have := aK.lt; have := aS.lt; have hlw2_ := lenW_le ss2
  refine wp_seq ?_
  refine At.start ?_
  refine At.rd oL 1 [[]] [(114, .bool (decide ((q : Int) < (((gL fr (gI op 0)).length : Nat) : Int))))] [] (by kernel_rfl) trivial (fun yV hA => ?_)
  clear oL
  refine At.done rfl ?_
  refine t_n ?_
  refine wp_seq ?_
  refine cond_S hA (t := decide ((q : Int) < (((gL fr (gI op 0)).length : Nat) : Int))) rfl (fun jZ => ?_) (fun jZ => ?_)
  ·have yW := of_decide_eq_true jZ
   refine wp_skip ?_
   refine t_n ?_
   refine wp_seq ?_
   refine wp_block ?_
   refine wp_seq ?_
   obtain ⟨tl, hop4, hwi⟩ := hwi
   rw [drop_at (r := []) (by omega) (by omega)] at hwi
   have hil := (hld.2 (gI (gL fr (gI op 0)) q)).1 (mem_of_gI (by omega) (by omega)); have hi1 := hil.1; have hi2 := hil.2.1; have hnr := nd_drop hld.1 (k := q) (by omega) (by omega); have hal := aw_lb hG hwi hi1 hi2 hil.2.2.1; have hll4 := hwi.ll; have hml4 := hwi.ml; have hol := aw_len hwi; have hol4 := congrArg List.length hop4
   simp only [List.length_cons] at hol hol4
   refine At.start ?_
   obtain ⟨iJ, sV, yX, sW, yY⟩ := aH.get (q) (by omega) (by omega) (sz := 1) rfl
   refine At.rd hA 3 [[.ad iJ], [.ld (.int .i64 (gI (gL fr (gI op 0)) q))], []] [(23, .int .i64 (gI (gL fr (gI op 0)) q)), (116, .int .i64 (gI (gL fr (gI op 0)) q)), (115, .pointer (some (iJ.add ((q : Int).toNat * 1))))] [(bT = some iJ), (0 ≤ (q : Int)), ((q : Int) < ((gL fr (gI op 0)).length : Nat)), (gF.cell? (iJ.add ((q : Int).toNat * 1)) = some (.int .i64 (gI (gL fr (gI op 0)) q)))] (by kernel_rfl) ⟨sV, (by omega), (by omega), sW, trivial⟩ (fun yZ oM => ?_)
   clear hA
   refine At.done rfl ?_
   refine t_n ?_
   refine wp_seq ?_
   refine At.start ?_
   obtain ⟨iK, sX, zA, sY, zB⟩ := cT.get (gI (gL fr (gI op 0)) q) (by omega) (by omega) (sz := 1) rfl
   obtain ⟨iL, oN, zC, zD, zE⟩ := cT.get (gI (gL fr (gI op 0)) q) (by omega) (by omega) (sz := 1) rfl
   refine At.rd oM 6 [[], [], [.ad iK], [.ld (.int .i64 (gI lf4 (gI (gL fr (gI op 0)) q)))], [.as_ (.int .i64 ((gI lf4 (gI (gL fr (gI op 0)) q)) - 1))], [.ad iL]] [(122, .pointer (some (iL.add ((gI (gL fr (gI op 0)) q : Int).toNat * 1)))), (121, .int .i64 ((gI lf4 (gI (gL fr (gI op 0)) q)) - 1)), (120, .int .i64 (gI lf4 (gI (gL fr (gI op 0)) q))), (119, .pointer (some (iK.add ((gI (gL fr (gI op 0)) q : Int).toNat * 1)))), (118, .int .i64 (gI (gL fr (gI op 0)) q)), (117, .slice aB lf4.length aQ)] [(aB = some iK), (0 ≤ (gI (gL fr (gI op 0)) q : Int)), ((gI (gL fr (gI op 0)) q : Int) < (lf4.length : Nat)), (gF.cell? (iK.add ((gI (gL fr (gI op 0)) q : Int).toNat * 1)) = some (.int .i64 (gI lf4 (gI (gL fr (gI op 0)) q)))), ((.int .i64 (IntKind.i64.wrap ((gI lf4 (gI (gL fr (gI op 0)) q)) - 1)) : Value) = .int .i64 ((gI lf4 (gI (gL fr (gI op 0)) q)) - 1)), (aB = some iL), (0 ≤ (gI (gL fr (gI op 0)) q : Int)), ((gI (gL fr (gI op 0)) q : Int) < (lf4.length : Nat))] (by kernel_rfl) ⟨sX, (by omega), (by omega), sY, (w64 (by omega) (by omega)), oN, (by omega), (by omega), trivial⟩ (fun zF oO => ?_)
   clear oM
   refine At.act oO (storeR (α := Int) (t := 3) (i := gI (gL fr (gI op 0)) q) (ad := iL) (v := .int .i64 ((gI lf4 (gI (gL fr (gI op 0)) q)) - 1)) ((gI lf4 (gI (gL fr (gI op 0)) q)) - 1) (by kernel_rfl) rfl rfl (by kernel_rfl) oN cT (by omega) (by omega)) ?_
   rintro d_ v_ sZ ⟨rfl, dL, aI⟩
   refine ⟨_, rfl, fun zG oP => ?_⟩
   clear oO; have zH : ((lf4).set (gI (gL fr (gI op 0)) q : Int).toNat ((gI lf4 (gI (gL fr (gI op 0)) q)) - 1)).length = (lf4).length := List.length_set; have := dL.size; replace aJ := aJ.gr dL (fun k hk => by have := cT.ge k hk; omega); replace aG := aG.gr dL (fun k hk => by have := cT.ge k hk; omega); replace aM := aM.gr dL (fun k hk => by have := cT.ge k hk; omega)
   replace aF := aF.gr dL (fun e => by have := cT.ge _ e; omega); replace aK := aK.gr dL (fun e => by have := cT.ge _ e; omega); have aL := iI.gr dL (fun k hk => hk.2.2.2.1); clear iI; replace aN := aN.gr dL (fun k hk => hk.2.2.2.1); replace aS := aS.gr dL (cT.neb (fun g hs => hs.2.1)); replace aA := aA.gr dL (fun k hk => hk.2.1); replace aH := aH.gr dL (fun k hk => hk.2.2.2.2.1); clear cT dL
   refine At.done rfl ?_
   refine t_n ?_
   refine wp_seq ?_
   refine wp_seq ?_
   have hgs : gI (lf4.set (gI (gL fr (gI op 0)) q).toNat (gI lf4 (gI (gL fr (gI op 0)) q) - 1)) (gI (gL fr (gI op 0)) q) = gI lf4 (gI (gL fr (gI op 0)) q) - 1 := by rw [gI_setE (by omega) (by omega) (by omega), if_pos rfl]
   refine At.start ?_
   refine At.rd oP 2 [[.cs ((ss2 : List Int).map wV)], []] [(124, .int .i64 (gI (gL fr (gI op 0)) q)), (123, .agg ((ss2 : List Int).map wV).toArray)] [(((ss2 : List Int).map wV).length = 4), (∀ (j : Nat) (v : Value), ((ss2 : List Int).map wV)[j]? = some v → sZ.cell? ((⟨aE.heap.size, 0, none⟩ : Addr).add j) = some v)] (by kernel_rfl) ⟨((List.length_map _).trans (by assumption)), aS.whole, trivial⟩ (fun zI oQ => ?_)
   clear oP
   refine At.call oQ 23 #[.agg ((ss2 : List Int).map wV).toArray, .int .i64 (gI (gL fr (gI op 0)) q)] (some 125) (by kernel_rfl) (has_any (s := ss2) (n := gI (gL fr (gI op 0)) q) (by assumption)) ?_
   rintro e_ eA ⟨rfl, he⟩
   refine ⟨_, rfl, _, rfl, fun zJ gG => ?_⟩
   clear oQ; have cU := gr_ext he; have := cU.size; replace aJ := aJ.gn cU; replace aG := aG.gn cU; replace aM := aM.gn cU; replace aF := aF.gn cU; replace aK := aK.gn cU; replace aL := aL.gn cU; replace aI := aI.gn cU; replace aN := aN.gn cU; replace aS := aS.gn cU; replace aA := aA.gn cU; replace aH := aH.gn cU; clear cU he
   rcases Bool.eq_false_or_eq_true (hasW ss2 (gI (gL fr (gI op 0)) q)) with iM | iM
   ·refine At.rd gG 16 [[.as_ (.bool true)], [], [], [], [], [], [], [], [], [], [], [], [], [], [], []] [(141, .bool true), (140, undef), (139, undef), (138, undef), (137, undef), (136, undef), (135, undef), (134, undef), (133, undef), (132, undef), (131, undef), (130, undef), (129, undef), (128, undef), (127, undef), (126, .bool true)] [((.bool (hasW ss2 (gI (gL fr (gI op 0)) q)) : Value) = .bool true)] (by kernel_rfl) ⟨(congrArg Value.bool iM), trivial⟩ (fun zK kA => ?_)
    clear gG
    refine At.done rfl ?_
    refine t_n ?_
    refine cond_T kA rfl ?_
    refine wp_exit ?_
    refine t_e ?_
    refine b_e ?_
    refine t_n ?_
    refine At.start ?_
    refine At.rd kA 2 [[.as_ (.int .i64 (q + 1))], []] [(113, .int .i64 (q + 1)), (160, .int .i64 (q + 1))] [((.int .i64 (IntKind.i64.wrap (q + 1)) : Value) = .int .i64 (q + 1))] (by kernel_rfl) ⟨(w64 (by omega) (by omega)), trivial⟩ (fun zL oR => ?_)
    clear kA
    refine At.done rfl ?_
    refine t_n ?_
    have oS := oR.as 20 (.slice aX op4.length aV) (.slice aX ((op4 : List Int).length) aV) rfl (slice_len (by first | rfl | omega | (simp; done) | (simp; omega)))
    clear oR
    have oT := oS.as 15 (.slice aD ms4.length aR) (.slice aD ((ms4 : List Int).length) aR) rfl (slice_len (by first | rfl | omega | (simp; done) | (simp; omega)))
    clear oS
    have tA := oT.as 14 (.slice aB lf4.length aQ) (.slice aB (((lf4).set (gI (gL fr (gI op 0)) q : Int).toNat ((gI lf4 (gI (gL fr (gI op 0)) q)) - 1) : List Int).length) aQ) rfl (slice_len (by first | rfl | omega | (simp; done) | (simp; omega)))
    clear oT
    have tB := tA.sub (r := [(20, .slice aX ((op4 : List Int).length) aV), (113, .int .i64 (q + 1)), (112, .int .i64 ((((gL fr (gI op 0)).length : Nat) : Int))), (111, .slice bT ((gL fr (gI op 0)).length) bX), (21, .int .i64 (gI op 0)), (19, .pointer (some ⟨aE.heap.size, 0, none⟩)), (15, .slice aD ((ms4 : List Int).length) aR), (14, .slice aB (((lf4).set (gI (gL fr (gI op 0)) q : Int).toNat ((gI lf4 (gI (gL fr (gI op 0)) q)) - 1) : List Int).length) aQ), (13, .slice aC fr.length aU), (8, .pointer (some ⟨aO.heap.size, 0, none⟩)), (4, .pointer (some ⟨w.heap.size, 0, none⟩)), (2, .int .i64 (p))]) ⟨rfl, rfl, rfl, rfl, rfl, rfl, rfl, rfl, rfl, rfl, rfl, rfl, trivial⟩
    exact ⟨_, (by omega), (q + 1), ss2, ((lf4).set (gI (gL fr (gI op 0)) q : Int).toNat ((gI lf4 (gI (gL fr (gI op 0)) q)) - 1) : List Int), aB, aQ, (ms4 : List Int), aD, aR, (op4 : List Int), aX, aV, rfl, tB, aJ, aG, aM, aF, aK, aL, aI, aN, aS, aA, aH, (by omega), (by omega), hok2, ⟨tl, hop4, aw_skip hnd hwi hil hnr (by first | exact .inl (by rw [← has_W (by omega) (by omega)]; assumption) | exact .inr ⟨by omega, by omega⟩)⟩, (by omega), hok2.1, (by omega), (by omega), (by omega), (by omega)⟩
   obtain ⟨fJ, oU, _, _, oV⟩ := RdI.get aG.ow (gI (gL fr (gI op 0)) q) (by omega) (by omega)
   rcases Bool.eq_false_or_eq_true ((gI g.ow (gI (gL fr (gI op 0)) q) : Int) != p) with hB | hB
   ·have zM := bne_iff_ne.1 hB
    obtain ⟨iN, tC, zN, tD, zO⟩ := aI.get (gI (gL fr (gI op 0)) q) (by omega) (by omega) (sz := 1) rfl
    refine At.rd gG 16 [[.as_ (.bool false)], [], [.ld (.slice Ag0 g.ow.length cg0)], [], [.ad fJ], [.ld (.int .i64 (gI g.ow (gI (gL fr (gI op 0)) q)))], [], [], [.as_ (.bool true)], [], [], [.ad iN], [.ld (.int .i64 (gI ((lf4).set (gI (gL fr (gI op 0)) q : Int).toNat ((gI lf4 (gI (gL fr (gI op 0)) q)) - 1)) (gI (gL fr (gI op 0)) q)))], [], [], []] [(141, .bool (decide ((gI ((lf4).set (gI (gL fr (gI op 0)) q : Int).toNat ((gI lf4 (gI (gL fr (gI op 0)) q)) - 1)) (gI (gL fr (gI op 0)) q) : Int) > 0))), (140, .bool (decide ((gI ((lf4).set (gI (gL fr (gI op 0)) q : Int).toNat ((gI lf4 (gI (gL fr (gI op 0)) q)) - 1)) (gI (gL fr (gI op 0)) q) : Int) > 0))), (139, .bool (decide ((gI ((lf4).set (gI (gL fr (gI op 0)) q : Int).toNat ((gI lf4 (gI (gL fr (gI op 0)) q)) - 1)) (gI (gL fr (gI op 0)) q) : Int) > 0))), (138, .int .i64 (gI ((lf4).set (gI (gL fr (gI op 0)) q : Int).toNat ((gI lf4 (gI (gL fr (gI op 0)) q)) - 1)) (gI (gL fr (gI op 0)) q))), (137, .pointer (some (iN.add ((gI (gL fr (gI op 0)) q : Int).toNat * 1)))), (136, .int .i64 (gI (gL fr (gI op 0)) q)), (135, .slice aB lf4.length aQ), (134, .bool true), (133, .bool ((gI g.ow (gI (gL fr (gI op 0)) q) : Int) != p)), (132, .int .i64 (p)), (131, .int .i64 (gI g.ow (gI (gL fr (gI op 0)) q))), (130, .pointer (some (fJ.add ((gI (gL fr (gI op 0)) q : Int).toNat * 1)))), (129, .int .i64 (gI (gL fr (gI op 0)) q)), (128, .slice Ag0 g.ow.length cg0), (127, .pointer (some ⟨w.heap.size, 0, none⟩)), (126, .bool false)] [((.bool (hasW ss2 (gI (gL fr (gI op 0)) q)) : Value) = .bool false), (eA.cell? ⟨w.heap.size, 0, none⟩ = some (.slice Ag0 g.ow.length cg0)), (Ag0 = some fJ), (0 ≤ (gI (gL fr (gI op 0)) q : Int)), ((gI (gL fr (gI op 0)) q : Int) < (g.ow.length : Nat)), (eA.cell? (fJ.add ((gI (gL fr (gI op 0)) q : Int).toNat * 1)) = some (.int .i64 (gI g.ow (gI (gL fr (gI op 0)) q)))), ((.bool ((gI g.ow (gI (gL fr (gI op 0)) q) : Int) != p) : Value) = .bool true), (aB = some iN), (0 ≤ (gI (gL fr (gI op 0)) q : Int)), ((gI (gL fr (gI op 0)) q : Int) < (lf4.length : Nat)), (eA.cell? (iN.add ((gI (gL fr (gI op 0)) q : Int).toNat * 1)) = some (.int .i64 (gI ((lf4).set (gI (gL fr (gI op 0)) q : Int).toNat ((gI lf4 (gI (gL fr (gI op 0)) q)) - 1)) (gI (gL fr (gI op 0)) q))))] (by kernel_rfl) ⟨(congrArg Value.bool iM), (aF.cell (i := 0) rfl), oU, (by omega), (by omega), oV, (congrArg Value.bool hB), tC, (by omega), (by omega), tD, trivial⟩ (fun zP hC => ?_)
    clear gG
    refine At.done rfl ?_
    refine t_n ?_
    refine cond_S hC (t := decide ((gI ((lf4).set (gI (gL fr (gI op 0)) q : Int).toNat ((gI lf4 (gI (gL fr (gI op 0)) q)) - 1)) (gI (gL fr (gI op 0)) q) : Int) > 0)) rfl (fun kB => ?_) (fun kB => ?_)
    ·have zQ := of_decide_eq_true kB
     refine wp_exit ?_
     refine t_e ?_
     refine b_e ?_
     refine t_n ?_
     refine At.start ?_
     refine At.rd hC 2 [[.as_ (.int .i64 (q + 1))], []] [(113, .int .i64 (q + 1)), (160, .int .i64 (q + 1))] [((.int .i64 (IntKind.i64.wrap (q + 1)) : Value) = .int .i64 (q + 1))] (by kernel_rfl) ⟨(w64 (by omega) (by omega)), trivial⟩ (fun zR oW => ?_)
     clear hC
     refine At.done rfl ?_
     refine t_n ?_
     have oX := oW.as 20 (.slice aX op4.length aV) (.slice aX ((op4 : List Int).length) aV) rfl (slice_len (by first | rfl | omega | (simp; done) | (simp; omega)))
     clear oW
     have oY := oX.as 15 (.slice aD ms4.length aR) (.slice aD ((ms4 : List Int).length) aR) rfl (slice_len (by first | rfl | omega | (simp; done) | (simp; omega)))
     clear oX
     have tE := oY.as 14 (.slice aB lf4.length aQ) (.slice aB (((lf4).set (gI (gL fr (gI op 0)) q : Int).toNat ((gI lf4 (gI (gL fr (gI op 0)) q)) - 1) : List Int).length) aQ) rfl (slice_len (by first | rfl | omega | (simp; done) | (simp; omega)))
     clear oY
     have tF := tE.sub (r := [(20, .slice aX ((op4 : List Int).length) aV), (113, .int .i64 (q + 1)), (112, .int .i64 ((((gL fr (gI op 0)).length : Nat) : Int))), (111, .slice bT ((gL fr (gI op 0)).length) bX), (21, .int .i64 (gI op 0)), (19, .pointer (some ⟨aE.heap.size, 0, none⟩)), (15, .slice aD ((ms4 : List Int).length) aR), (14, .slice aB (((lf4).set (gI (gL fr (gI op 0)) q : Int).toNat ((gI lf4 (gI (gL fr (gI op 0)) q)) - 1) : List Int).length) aQ), (13, .slice aC fr.length aU), (8, .pointer (some ⟨aO.heap.size, 0, none⟩)), (4, .pointer (some ⟨w.heap.size, 0, none⟩)), (2, .int .i64 (p))]) ⟨rfl, rfl, rfl, rfl, rfl, rfl, rfl, rfl, rfl, rfl, rfl, rfl, trivial⟩
     exact ⟨_, (by omega), (q + 1), ss2, ((lf4).set (gI (gL fr (gI op 0)) q : Int).toNat ((gI lf4 (gI (gL fr (gI op 0)) q)) - 1) : List Int), aB, aQ, (ms4 : List Int), aD, aR, (op4 : List Int), aX, aV, rfl, tF, aJ, aG, aM, aF, aK, aL, aI, aN, aS, aA, aH, (by omega), (by omega), hok2, ⟨tl, hop4, aw_skip hnd hwi hil hnr (by first | exact .inl (by rw [← has_W (by omega) (by omega)]; assumption) | exact .inr ⟨by omega, by omega⟩)⟩, (by omega), hok2.1, (by omega), (by omega), (by omega), (by omega)⟩
    have zS := of_decide_eq_false kB
    refine wp_skip ?_
    refine t_n ?_
    refine wp_seq ?_
    refine wp_seq ?_
    refine At.start ?_
    obtain ⟨iO, tG, _, _, tH⟩ := RdI.get aG.ow (gI (gL fr (gI op 0)) q) (by omega) (by omega)
    refine At.rd hC 7 [[], [.ld (.slice Ag0 g.ow.length cg0)], [], [.ad iO], [.ld (.int .i64 (gI g.ow (gI (gL fr (gI op 0)) q)))], [], []] [(148, .bool ((gI g.ow (gI (gL fr (gI op 0)) q) : Int) == p)), (147, .int .i64 (p)), (146, .int .i64 (gI g.ow (gI (gL fr (gI op 0)) q))), (145, .pointer (some (iO.add ((gI (gL fr (gI op 0)) q : Int).toNat * 1)))), (144, .int .i64 (gI (gL fr (gI op 0)) q)), (143, .slice Ag0 g.ow.length cg0), (142, .pointer (some ⟨w.heap.size, 0, none⟩))] [(eA.cell? ⟨w.heap.size, 0, none⟩ = some (.slice Ag0 g.ow.length cg0)), (Ag0 = some iO), (0 ≤ (gI (gL fr (gI op 0)) q : Int)), ((gI (gL fr (gI op 0)) q : Int) < (g.ow.length : Nat)), (eA.cell? (iO.add ((gI (gL fr (gI op 0)) q : Int).toNat * 1)) = some (.int .i64 (gI g.ow (gI (gL fr (gI op 0)) q))))] (by kernel_rfl) ⟨(aF.cell (i := 0) rfl), tG, (by omega), (by omega), tH, trivial⟩ (fun zT hD => ?_)
    clear hC
    refine At.done rfl ?_
    refine t_n ?_
    refine cond_S hD (t := (gI g.ow (gI (gL fr (gI op 0)) q) : Int) == p) rfl (fun kC => ?_) (fun kC => ?_)
    ·have zU := eq_of_beq kC
     refine At.start ?_
     obtain ⟨iP, oZ, zV, zW, zX⟩ := aN.get (gI (gL fr (gI op 0)) q) (by omega) (by omega) (sz := 1) rfl
     refine At.rd hD 4 [[], [], [], [.ad iP]] [(152, .pointer (some (iP.add ((gI (gL fr (gI op 0)) q : Int).toNat * 1)))), (151, .int .i64 (gI op 0)), (150, .int .i64 (gI (gL fr (gI op 0)) q)), (149, .slice aD ms4.length aR)] [(aD = some iP), (0 ≤ (gI (gL fr (gI op 0)) q : Int)), ((gI (gL fr (gI op 0)) q : Int) < (ms4.length : Nat))] (by kernel_rfl) ⟨oZ, (by omega), (by omega), trivial⟩ (fun zY pA => ?_)
     clear hD
     refine At.act pA (storeR (α := Int) (t := 3) (i := gI (gL fr (gI op 0)) q) (ad := iP) (v := .int .i64 (gI op 0)) (gI op 0) (by kernel_rfl) rfl rfl (by kernel_rfl) oZ aN (by omega) (by omega)) ?_
     rintro d_ v_ tI ⟨rfl, dM, eJ⟩
     refine ⟨_, rfl, fun zZ pB => ?_⟩
     clear pA; have aAa : ((ms4).set (gI (gL fr (gI op 0)) q : Int).toNat (gI op 0)).length = (ms4).length := List.length_set; have := dM.size; replace aJ := aJ.gr dM (fun k hk => by have := aN.ge k hk; omega); replace aG := aG.gr dM (fun k hk => by have := aN.ge k hk; omega); replace aM := aM.gr dM (fun k hk => by have := aN.ge k hk; omega); replace aF := aF.gr dM (fun e => by have := aN.ge _ e; omega)
     replace aK := aK.gr dM (fun e => by have := aN.ge _ e; omega); replace aL := aL.gr dM (fun k hk => hk.2.2.1); replace aI := aI.gr dM (fun k hk => hk.2.2.1); replace aS := aS.gr dM (aN.neb (fun g hs => hs.2.1)); replace aA := aA.gr dM (fun k hk => hk.2.2.1); replace aH := aH.gr dM (fun k hk => hk.2.2.2.1); clear aN dM
     refine At.done rfl ?_
     refine t_n ?_
     refine wp_seq ?_
     refine At.start ?_
     refine At.rd pB 2 [[.cs ((ss2 : List Int).map wV)], []] [(154, .int .i64 (gI (gL fr (gI op 0)) q)), (153, .agg ((ss2 : List Int).map wV).toArray)] [(((ss2 : List Int).map wV).length = 4), (∀ (j : Nat) (v : Value), ((ss2 : List Int).map wV)[j]? = some v → tI.cell? ((⟨aE.heap.size, 0, none⟩ : Addr).add j) = some v)] (by kernel_rfl) ⟨((List.length_map _).trans (by assumption)), aS.whole, trivial⟩ (fun aAb pC => ?_)
     clear pB
     refine At.call pC 25 #[.agg ((ss2 : List Int).map wV).toArray, .int .i64 (gI (gL fr (gI op 0)) q)] (some 155) (by kernel_rfl) (with_any (s := ss2) (n := gI (gL fr (gI op 0)) q) (by assumption)) ?_
     rintro e_ aAc ⟨rfl, he⟩
     refine ⟨_, rfl, _, rfl, fun aAd pD => ?_⟩
     clear pC; have cV := gr_ext he; have := cV.size; replace aJ := aJ.gn cV; replace aG := aG.gn cV; replace aM := aM.gn cV; replace aF := aF.gn cV; replace aK := aK.gn cV; replace aL := aL.gn cV; replace aI := aI.gn cV; replace eJ := eJ.gn cV; replace aS := aS.gn cV; replace aA := aA.gn cV; replace aH := aH.gn cV; clear cV he
     refine At.act pD (storeBlk (t := 44) (b := aE.heap.size) (n := 4) (cs' := ((withW ss2 (gI (gL fr (gI op 0)) q) : List Int).map wV)) (by kernel_rfl) (by kernel_rfl) ((List.length_map _).trans (okLen (okW_with (by assumption)))) oneW_ ((show ((withW ss2 (gI (gL fr (gI op 0)) q) : List Int).map wV).length = 4 from ((List.length_map _).trans (okLen (okW_with (by assumption))))).trans (show ((ss2 : List Int).map wV).length = 4 from ((List.length_map _).trans (by assumption))).symm) aS) ?_
     rintro d_ v_ fU ⟨rfl, dN, hF⟩
     refine ⟨_, rfl, fun aAe pE => ?_⟩
     clear pD; have := dN.size; replace aJ := aJ.gr dN (fun k h => by injection h; omega); replace aG := aG.gb dN (by omega); replace aM := aM.gb dN (by omega); replace aF := aF.gb dN (by omega); replace aK := aK.gb dN (by omega); replace aL := aL.gr dN (fun k hk => hk.2.1); replace aI := aI.gr dN (fun k hk => hk.2.1); replace eJ := eJ.gr dN (fun k hk => hk.2.1)
     replace aA := aA.gr dN (fun k hk e => by have := Sx_base hk; injection e; omega); replace aH := aH.gr dN (fun k hk => hk.2.2.1); clear aS dN
     refine At.done rfl ?_
     refine t_n ?_
     refine At.start ?_
     refine At.rd pE 2 [[], []] [(157, .int .i64 (gI (gL fr (gI op 0)) q)), (156, .slice aX op4.length aV)] [] (by kernel_rfl) trivial (fun aAf pF => ?_)
     clear pE
     refine At.seq pF 1 [[]] [(158, .slice (some ⟨fU.heap.size, 0, none⟩) 1 1)] (fU.alloc (.cells #[.int .i64 (gI (gL fr (gI op 0)) q)] 3 (0, 0))) [] (by kernel_rfl) trivial (fun aAg pG kD pH => ?_)
     clear pF; have cW := gr_alloc kD; have := cW.size; replace aJ := aJ.gn cW; replace aG := aG.gn cW; replace aM := aM.gn cW; replace aF := aF.gn cW; replace aK := aK.gn cW; replace aL := aL.grN cW; replace aI := aI.grN cW; replace eJ := eJ.grN cW; replace hF := hF.gn cW; replace aA := aA.grN cW; replace aH := aH.grN cW
     have kE : Bx pG (fU.heap.size) [.int .i64 (gI (gL fr (gI op 0)) q)] 3 := Bx.new kD; have := kE.lt; clear cW kD; have tJ : (op4 ++ ([gI (gL fr (gI op 0)) q])).length = (op4).length + ([gI (gL fr (gI op 0)) q] : List Int).length := List.length_append
     simp only [List.length_cons, List.length_nil] at tJ
     refine At.act pH (appendR (α := Int) (t := 22) (d := 159) (n := op4.length) (m := 1) (cc := 1) (xs := op4) (ys := [gI (gL fr (gI op 0)) q]) (bytes := 8) (by first | rfl | omega | (simp; done) | (simp; omega)) (by first | rfl | omega | (simp; done) | (simp; omega)) (by kernel_rfl) rfl (by kernel_rfl) aA (Bx.srcR (l := ([gI (gL fr (gI op 0)) q] : List Int)) kE rfl) (by simp only [List.length_cons, List.length_nil]; omega) (by simp only [List.length_cons, List.length_nil]; omega)) ?_
     rintro d_ v_ iQ ⟨rfl, eZ, hH, fK⟩
     obtain rfl := fK.val
     have dO := fK.gr
     refine ⟨_, rfl, fun aAh pI => ?_⟩
     clear pH; clear kE
     have tK := fK.own (Sx (cL.heap.size) [obk (aC), obk (aB), obk (aD)]) (fun g _ hs => ⟨hs.2.1, hs.2.2.1, hs.2.2.2.1, hs.2.2.2.2⟩) ⟨aL.ne_new, aI.ne_new, eJ.ne_new, (show cL.heap.size ≤ pG.heap.size by omega)⟩
     have := dO.size; replace aJ := aJ.gr dO (fun k hk => by have := aA.ge k hk; omega); replace aG := aG.gr dO (fun k hk => by have := aA.ge k hk; omega); replace aM := aM.gr dO (fun k hk => by have := aA.ge k hk; omega); replace aF := aF.gr dO (fun e => by have := aA.ge _ e; omega); replace aK := aK.gr dO (fun e => by have := aA.ge _ e; omega)
     replace aL : OwnLL iQ (aP.heap.size) [some (fU.heap.size), obk (eZ), some (aE.heap.size), obk (aD), obk (aB)] aC aU 22 3 (fr : List (List Int)) := aL.grA dO (fun k hk => hk.2.1) (fun k hk hs => ⟨hs.1, own_repl fK.at_ hs.2.1 hk, hs.2.2.1, hs.2.2.2.1, hs.2.2.2.2.1, hs.2.2.2.2.2⟩)
     replace aI : OwnR iQ (Sx (aW.heap.size) [some (fU.heap.size), obk (eZ), some (aE.heap.size), obk (aD), obk (aC)]) aB aQ 3 ((lf4).set (gI (gL fr (gI op 0)) q : Int).toNat ((gI lf4 (gI (gL fr (gI op 0)) q)) - 1) : List Int) := aI.grA dO (fun k hk => hk.2.1) (fun k hk hs => ⟨hs.1, own_repl fK.at_ hs.2.1 hk, hs.2.2.1, hs.2.2.2.1, hs.2.2.2.2.1, hs.2.2.2.2.2⟩)
     replace eJ : OwnR iQ (Sx (aZ.heap.size) [some (fU.heap.size), obk (eZ), some (aE.heap.size), obk (aC), obk (aB)]) aD aR 3 ((ms4).set (gI (gL fr (gI op 0)) q : Int).toNat (gI op 0) : List Int) := eJ.grA dO (fun k hk => hk.2.1) (fun k hk hs => ⟨hs.1, own_repl fK.at_ hs.2.1 hk, hs.2.2.1, hs.2.2.2.1, hs.2.2.2.2.1, hs.2.2.2.2.2⟩)
     replace hF := hF.gr dO (fun e => by have := aA.ge _ e; omega)
     replace aH : OwnR iQ (Sx (aP.heap.size) [some (fU.heap.size), obk (aC), obk (eZ), some (aE.heap.size), obk (aD), obk (aB)]) bT bX 3 (gL fr (gI op 0) : List Int) := aH.grA dO (fun k hk => hk.2.2.1) (fun k hk hs => ⟨hs.1, hs.2.1, own_repl fK.at_ hs.2.2.1 hk, hs.2.2.2.1, hs.2.2.2.2.1, hs.2.2.2.2.2.1, hs.2.2.2.2.2.2⟩)
     clear aA dO fK
     refine At.rd pI 1 [[]] [(20, .slice eZ ((op4 ++ ([gI (gL fr (gI op 0)) q])).length) hH)] [] (by kernel_rfl) trivial (fun aAi pJ => ?_)
     clear pI
     refine At.done rfl ?_
     refine b_n ?_
     refine t_n ?_
     refine At.start ?_
     refine At.rd pJ 2 [[.as_ (.int .i64 (q + 1))], []] [(113, .int .i64 (q + 1)), (160, .int .i64 (q + 1))] [((.int .i64 (IntKind.i64.wrap (q + 1)) : Value) = .int .i64 (q + 1))] (by kernel_rfl) ⟨(w64 (by omega) (by omega)), trivial⟩ (fun aAj pK => ?_)
     clear pJ
     refine At.done rfl ?_
     refine t_n ?_
     have pL := pK.as 20 (.slice eZ ((op4 ++ ([gI (gL fr (gI op 0)) q])).length) hH) (.slice eZ ((op4 ++ ([gI (gL fr (gI op 0)) q]) : List Int).length) hH) rfl (slice_len (by first | rfl | omega | (simp; done) | (simp; omega)))
     clear pK
     have pM := pL.as 15 (.slice aD ms4.length aR) (.slice aD (((ms4).set (gI (gL fr (gI op 0)) q : Int).toNat (gI op 0) : List Int).length) aR) rfl (slice_len (by first | rfl | omega | (simp; done) | (simp; omega)))
     clear pL
     have tL := pM.as 14 (.slice aB lf4.length aQ) (.slice aB (((lf4).set (gI (gL fr (gI op 0)) q : Int).toNat ((gI lf4 (gI (gL fr (gI op 0)) q)) - 1) : List Int).length) aQ) rfl (slice_len (by first | rfl | omega | (simp; done) | (simp; omega)))
     clear pM
     have tM := tL.sub (r := [(20, .slice eZ ((op4 ++ ([gI (gL fr (gI op 0)) q]) : List Int).length) hH), (113, .int .i64 (q + 1)), (112, .int .i64 ((((gL fr (gI op 0)).length : Nat) : Int))), (111, .slice bT ((gL fr (gI op 0)).length) bX), (21, .int .i64 (gI op 0)), (19, .pointer (some ⟨aE.heap.size, 0, none⟩)), (15, .slice aD (((ms4).set (gI (gL fr (gI op 0)) q : Int).toNat (gI op 0) : List Int).length) aR), (14, .slice aB (((lf4).set (gI (gL fr (gI op 0)) q : Int).toNat ((gI lf4 (gI (gL fr (gI op 0)) q)) - 1) : List Int).length) aQ), (13, .slice aC fr.length aU), (8, .pointer (some ⟨aO.heap.size, 0, none⟩)), (4, .pointer (some ⟨w.heap.size, 0, none⟩)), (2, .int .i64 (p))]) ⟨rfl, rfl, rfl, rfl, rfl, rfl, rfl, rfl, rfl, rfl, rfl, rfl, trivial⟩
     exact ⟨_, (by omega), (q + 1), withW ss2 (gI (gL fr (gI op 0)) q), ((lf4).set (gI (gL fr (gI op 0)) q : Int).toNat ((gI lf4 (gI (gL fr (gI op 0)) q)) - 1) : List Int), aB, aQ, ((ms4).set (gI (gL fr (gI op 0)) q : Int).toNat (gI op 0) : List Int), aD, aR, (op4 ++ ([gI (gL fr (gI op 0)) q]) : List Int), eZ, hH, rfl, tM, aJ, aG, aM, aF, aK, (aL.imp (fun g _ hs => ⟨hs.2.1, hs.2.2.1, hs.2.2.2.1, hs.2.2.2.2.1, hs.2.2.2.2.2⟩)), (aI.imp (fun g _ hs => ⟨hs.2.1, hs.2.2.1, hs.2.2.2.1, hs.2.2.2.2.1, hs.2.2.2.2.2⟩)), (eJ.imp (fun g _ hs => ⟨hs.2.1, hs.2.2.1, hs.2.2.2.1, hs.2.2.2.2.1, hs.2.2.2.2.2⟩)), hF, tK, (aH.imp (fun g _ hs => ⟨hs.2.1, hs.2.2.1, hs.2.2.2.1, hs.2.2.2.2.1, hs.2.2.2.2.2.1, hs.2.2.2.2.2.2⟩)), (by omega), (by omega), (okW_with hok2), ⟨tl ++ [gI (gL fr (gI op 0)) q], by rw [hop4]; rfl, by rw [from_with hok2]; exact aw_add hG hnd (from_len _) hwi hil hnr (by rw [← has_W (by omega) (by omega)]; assumption) (by omega) (.inl ⟨by omega, rfl⟩)⟩, (by have hlw := len_with (n := gI (gL fr (gI op 0)) q) (m := 1) hok2 (if_pos ⟨by omega, by omega, by assumption⟩).symm; rw [List.length_append]; simp only [List.length_singleton]; omega), (okW_with hok2).1, (by omega), (by omega), (by omega), (by omega)⟩
    have aAk := ne_of_beq_false kC
    refine wp_skip ?_
    refine t_n ?_
    refine wp_seq ?_
    refine At.start ?_
    refine At.rd hD 2 [[.cs ((ss2 : List Int).map wV)], []] [(154, .int .i64 (gI (gL fr (gI op 0)) q)), (153, .agg ((ss2 : List Int).map wV).toArray)] [(((ss2 : List Int).map wV).length = 4), (∀ (j : Nat) (v : Value), ((ss2 : List Int).map wV)[j]? = some v → eA.cell? ((⟨aE.heap.size, 0, none⟩ : Addr).add j) = some v)] (by kernel_rfl) ⟨((List.length_map _).trans (by assumption)), aS.whole, trivial⟩ (fun aAl pN => ?_)
    clear hD
    refine At.call pN 25 #[.agg ((ss2 : List Int).map wV).toArray, .int .i64 (gI (gL fr (gI op 0)) q)] (some 155) (by kernel_rfl) (with_any (s := ss2) (n := gI (gL fr (gI op 0)) q) (by assumption)) ?_
    rintro e_ aAm ⟨rfl, he⟩
    refine ⟨_, rfl, _, rfl, fun aAn pO => ?_⟩
    clear pN; have cX := gr_ext he; have := cX.size; replace aJ := aJ.gn cX; replace aG := aG.gn cX; replace aM := aM.gn cX; replace aF := aF.gn cX; replace aK := aK.gn cX; replace aL := aL.gn cX; replace aI := aI.gn cX; replace aN := aN.gn cX; replace aS := aS.gn cX; replace aA := aA.gn cX; replace aH := aH.gn cX; clear cX he
    refine At.act pO (storeBlk (t := 44) (b := aE.heap.size) (n := 4) (cs' := ((withW ss2 (gI (gL fr (gI op 0)) q) : List Int).map wV)) (by kernel_rfl) (by kernel_rfl) ((List.length_map _).trans (okLen (okW_with (by assumption)))) oneW_ ((show ((withW ss2 (gI (gL fr (gI op 0)) q) : List Int).map wV).length = 4 from ((List.length_map _).trans (okLen (okW_with (by assumption))))).trans (show ((ss2 : List Int).map wV).length = 4 from ((List.length_map _).trans (by assumption))).symm) aS) ?_
    rintro d_ v_ fV ⟨rfl, dP, hI⟩
    refine ⟨_, rfl, fun aAo pP => ?_⟩
    clear pO; have := dP.size; replace aJ := aJ.gr dP (fun k h => by injection h; omega); replace aG := aG.gb dP (by omega); replace aM := aM.gb dP (by omega); replace aF := aF.gb dP (by omega); replace aK := aK.gb dP (by omega); replace aL := aL.gr dP (fun k hk => hk.2.1); replace aI := aI.gr dP (fun k hk => hk.2.1); replace aN := aN.gr dP (fun k hk => hk.2.1)
    replace aA := aA.gr dP (fun k hk e => by have := Sx_base hk; injection e; omega); replace aH := aH.gr dP (fun k hk => hk.2.2.1); clear aS dP
    refine At.done rfl ?_
    refine t_n ?_
    refine At.start ?_
    refine At.rd pP 2 [[], []] [(157, .int .i64 (gI (gL fr (gI op 0)) q)), (156, .slice aX op4.length aV)] [] (by kernel_rfl) trivial (fun aAp pQ => ?_)
    clear pP
    refine At.seq pQ 1 [[]] [(158, .slice (some ⟨fV.heap.size, 0, none⟩) 1 1)] (fV.alloc (.cells #[.int .i64 (gI (gL fr (gI op 0)) q)] 3 (0, 0))) [] (by kernel_rfl) trivial (fun aAq pR kF pS => ?_)
    clear pQ; have cY := gr_alloc kF; have := cY.size; replace aJ := aJ.gn cY; replace aG := aG.gn cY; replace aM := aM.gn cY; replace aF := aF.gn cY; replace aK := aK.gn cY; replace aL := aL.grN cY; replace aI := aI.grN cY; replace aN := aN.grN cY; replace hI := hI.gn cY; replace aA := aA.grN cY; replace aH := aH.grN cY
    have kG : Bx pR (fV.heap.size) [.int .i64 (gI (gL fr (gI op 0)) q)] 3 := Bx.new kF; have := kG.lt; clear cY kF; have tN : (op4 ++ ([gI (gL fr (gI op 0)) q])).length = (op4).length + ([gI (gL fr (gI op 0)) q] : List Int).length := List.length_append
    simp only [List.length_cons, List.length_nil] at tN
    refine At.act pS (appendR (α := Int) (t := 22) (d := 159) (n := op4.length) (m := 1) (cc := 1) (xs := op4) (ys := [gI (gL fr (gI op 0)) q]) (bytes := 8) (by first | rfl | omega | (simp; done) | (simp; omega)) (by first | rfl | omega | (simp; done) | (simp; omega)) (by kernel_rfl) rfl (by kernel_rfl) aA (Bx.srcR (l := ([gI (gL fr (gI op 0)) q] : List Int)) kG rfl) (by simp only [List.length_cons, List.length_nil]; omega) (by simp only [List.length_cons, List.length_nil]; omega)) ?_
    rintro d_ v_ iR ⟨rfl, fA, hJ, fL⟩
    obtain rfl := fL.val
    have dQ := fL.gr
    refine ⟨_, rfl, fun aAr pT => ?_⟩
    clear pS; clear kG
    have tO := fL.own (Sx (cL.heap.size) [obk (aC), obk (aB), obk (aD)]) (fun g _ hs => ⟨hs.2.1, hs.2.2.1, hs.2.2.2.1, hs.2.2.2.2⟩) ⟨aL.ne_new, aI.ne_new, aN.ne_new, (show cL.heap.size ≤ pR.heap.size by omega)⟩
    have := dQ.size; replace aJ := aJ.gr dQ (fun k hk => by have := aA.ge k hk; omega); replace aG := aG.gr dQ (fun k hk => by have := aA.ge k hk; omega); replace aM := aM.gr dQ (fun k hk => by have := aA.ge k hk; omega); replace aF := aF.gr dQ (fun e => by have := aA.ge _ e; omega); replace aK := aK.gr dQ (fun e => by have := aA.ge _ e; omega)
    replace aL : OwnLL iR (aP.heap.size) [some (fV.heap.size), obk (fA), some (aE.heap.size), obk (aD), obk (aB)] aC aU 22 3 (fr : List (List Int)) := aL.grA dQ (fun k hk => hk.2.1) (fun k hk hs => ⟨hs.1, own_repl fL.at_ hs.2.1 hk, hs.2.2.1, hs.2.2.2.1, hs.2.2.2.2.1, hs.2.2.2.2.2⟩)
    replace aI : OwnR iR (Sx (aW.heap.size) [some (fV.heap.size), obk (fA), some (aE.heap.size), obk (aD), obk (aC)]) aB aQ 3 ((lf4).set (gI (gL fr (gI op 0)) q : Int).toNat ((gI lf4 (gI (gL fr (gI op 0)) q)) - 1) : List Int) := aI.grA dQ (fun k hk => hk.2.1) (fun k hk hs => ⟨hs.1, own_repl fL.at_ hs.2.1 hk, hs.2.2.1, hs.2.2.2.1, hs.2.2.2.2.1, hs.2.2.2.2.2⟩)
    replace aN : OwnR iR (Sx (aZ.heap.size) [some (fV.heap.size), obk (fA), some (aE.heap.size), obk (aC), obk (aB)]) aD aR 3 (ms4 : List Int) := aN.grA dQ (fun k hk => hk.2.1) (fun k hk hs => ⟨hs.1, own_repl fL.at_ hs.2.1 hk, hs.2.2.1, hs.2.2.2.1, hs.2.2.2.2.1, hs.2.2.2.2.2⟩)
    replace hI := hI.gr dQ (fun e => by have := aA.ge _ e; omega)
    replace aH : OwnR iR (Sx (aP.heap.size) [some (fV.heap.size), obk (aC), obk (fA), some (aE.heap.size), obk (aD), obk (aB)]) bT bX 3 (gL fr (gI op 0) : List Int) := aH.grA dQ (fun k hk => hk.2.2.1) (fun k hk hs => ⟨hs.1, hs.2.1, own_repl fL.at_ hs.2.2.1 hk, hs.2.2.2.1, hs.2.2.2.2.1, hs.2.2.2.2.2.1, hs.2.2.2.2.2.2⟩)
    clear aA dQ fL
    refine At.rd pT 1 [[]] [(20, .slice fA ((op4 ++ ([gI (gL fr (gI op 0)) q])).length) hJ)] [] (by kernel_rfl) trivial (fun aAs pU => ?_)
    clear pT
    refine At.done rfl ?_
    refine b_n ?_
    refine t_n ?_
    refine At.start ?_
    refine At.rd pU 2 [[.as_ (.int .i64 (q + 1))], []] [(113, .int .i64 (q + 1)), (160, .int .i64 (q + 1))] [((.int .i64 (IntKind.i64.wrap (q + 1)) : Value) = .int .i64 (q + 1))] (by kernel_rfl) ⟨(w64 (by omega) (by omega)), trivial⟩ (fun aAt pV => ?_)
    clear pU
    refine At.done rfl ?_
    refine t_n ?_
    have pW := pV.as 20 (.slice fA ((op4 ++ ([gI (gL fr (gI op 0)) q])).length) hJ) (.slice fA ((op4 ++ ([gI (gL fr (gI op 0)) q]) : List Int).length) hJ) rfl (slice_len (by first | rfl | omega | (simp; done) | (simp; omega)))
    clear pV
    have pX := pW.as 15 (.slice aD ms4.length aR) (.slice aD ((ms4 : List Int).length) aR) rfl (slice_len (by first | rfl | omega | (simp; done) | (simp; omega)))
    clear pW
    have tP := pX.as 14 (.slice aB lf4.length aQ) (.slice aB (((lf4).set (gI (gL fr (gI op 0)) q : Int).toNat ((gI lf4 (gI (gL fr (gI op 0)) q)) - 1) : List Int).length) aQ) rfl (slice_len (by first | rfl | omega | (simp; done) | (simp; omega)))
    clear pX
    have tQ := tP.sub (r := [(20, .slice fA ((op4 ++ ([gI (gL fr (gI op 0)) q]) : List Int).length) hJ), (113, .int .i64 (q + 1)), (112, .int .i64 ((((gL fr (gI op 0)).length : Nat) : Int))), (111, .slice bT ((gL fr (gI op 0)).length) bX), (21, .int .i64 (gI op 0)), (19, .pointer (some ⟨aE.heap.size, 0, none⟩)), (15, .slice aD ((ms4 : List Int).length) aR), (14, .slice aB (((lf4).set (gI (gL fr (gI op 0)) q : Int).toNat ((gI lf4 (gI (gL fr (gI op 0)) q)) - 1) : List Int).length) aQ), (13, .slice aC fr.length aU), (8, .pointer (some ⟨aO.heap.size, 0, none⟩)), (4, .pointer (some ⟨w.heap.size, 0, none⟩)), (2, .int .i64 (p))]) ⟨rfl, rfl, rfl, rfl, rfl, rfl, rfl, rfl, rfl, rfl, rfl, rfl, trivial⟩
    exact ⟨_, (by omega), (q + 1), withW ss2 (gI (gL fr (gI op 0)) q), ((lf4).set (gI (gL fr (gI op 0)) q : Int).toNat ((gI lf4 (gI (gL fr (gI op 0)) q)) - 1) : List Int), aB, aQ, (ms4 : List Int), aD, aR, (op4 ++ ([gI (gL fr (gI op 0)) q]) : List Int), fA, hJ, rfl, tQ, aJ, aG, aM, aF, aK, (aL.imp (fun g _ hs => ⟨hs.2.1, hs.2.2.1, hs.2.2.2.1, hs.2.2.2.2.1, hs.2.2.2.2.2⟩)), (aI.imp (fun g _ hs => ⟨hs.2.1, hs.2.2.1, hs.2.2.2.1, hs.2.2.2.2.1, hs.2.2.2.2.2⟩)), (aN.imp (fun g _ hs => ⟨hs.2.1, hs.2.2.1, hs.2.2.2.1, hs.2.2.2.2.1, hs.2.2.2.2.2⟩)), hI, tO, (aH.imp (fun g _ hs => ⟨hs.2.1, hs.2.2.1, hs.2.2.2.1, hs.2.2.2.2.1, hs.2.2.2.2.2.1, hs.2.2.2.2.2.2⟩)), (by omega), (by omega), (okW_with hok2), ⟨tl ++ [gI (gL fr (gI op 0)) q], by rw [hop4]; rfl, by rw [from_with hok2]; exact aw_add hG hnd (from_len _) hwi hil hnr (by rw [← has_W (by omega) (by omega)]; assumption) (by omega) (.inr ⟨by omega, rfl⟩)⟩, (by have hlw := len_with (n := gI (gL fr (gI op 0)) q) (m := 1) hok2 (if_pos ⟨by omega, by omega, by assumption⟩).symm; rw [List.length_append]; simp only [List.length_singleton]; omega), (okW_with hok2).1, (by omega), (by omega), (by omega), (by omega)⟩
   have aAu := bne_eq_false_iff_eq.1 hB
   refine At.rd gG 16 [[.as_ (.bool false)], [], [.ld (.slice Ag0 g.ow.length cg0)], [], [.ad fJ], [.ld (.int .i64 (gI g.ow (gI (gL fr (gI op 0)) q)))], [], [], [.as_ (.bool false)], [], [], [], [], [], [], []] [(141, .bool false), (140, .bool false), (139, undef), (138, undef), (137, undef), (136, undef), (135, undef), (134, .bool false), (133, .bool ((gI g.ow (gI (gL fr (gI op 0)) q) : Int) != p)), (132, .int .i64 (p)), (131, .int .i64 (gI g.ow (gI (gL fr (gI op 0)) q))), (130, .pointer (some (fJ.add ((gI (gL fr (gI op 0)) q : Int).toNat * 1)))), (129, .int .i64 (gI (gL fr (gI op 0)) q)), (128, .slice Ag0 g.ow.length cg0), (127, .pointer (some ⟨w.heap.size, 0, none⟩)), (126, .bool false)] [((.bool (hasW ss2 (gI (gL fr (gI op 0)) q)) : Value) = .bool false), (eA.cell? ⟨w.heap.size, 0, none⟩ = some (.slice Ag0 g.ow.length cg0)), (Ag0 = some fJ), (0 ≤ (gI (gL fr (gI op 0)) q : Int)), ((gI (gL fr (gI op 0)) q : Int) < (g.ow.length : Nat)), (eA.cell? (fJ.add ((gI (gL fr (gI op 0)) q : Int).toNat * 1)) = some (.int .i64 (gI g.ow (gI (gL fr (gI op 0)) q)))), ((.bool ((gI g.ow (gI (gL fr (gI op 0)) q) : Int) != p) : Value) = .bool false)] (by kernel_rfl) ⟨(congrArg Value.bool iM), (aF.cell (i := 0) rfl), oU, (by omega), (by omega), oV, (congrArg Value.bool hB), trivial⟩ (fun aAv kH => ?_)
   clear gG
   refine At.done rfl ?_
   refine t_n ?_
   refine cond_F kH rfl ?_
   refine wp_skip ?_
   refine t_n ?_
   refine wp_seq ?_
   refine wp_seq ?_
   refine At.start ?_
   obtain ⟨iS, tR, _, _, tS⟩ := RdI.get aG.ow (gI (gL fr (gI op 0)) q) (by omega) (by omega)
   refine At.rd kH 7 [[], [.ld (.slice Ag0 g.ow.length cg0)], [], [.ad iS], [.ld (.int .i64 (gI g.ow (gI (gL fr (gI op 0)) q)))], [], []] [(148, .bool ((gI g.ow (gI (gL fr (gI op 0)) q) : Int) == p)), (147, .int .i64 (p)), (146, .int .i64 (gI g.ow (gI (gL fr (gI op 0)) q))), (145, .pointer (some (iS.add ((gI (gL fr (gI op 0)) q : Int).toNat * 1)))), (144, .int .i64 (gI (gL fr (gI op 0)) q)), (143, .slice Ag0 g.ow.length cg0), (142, .pointer (some ⟨w.heap.size, 0, none⟩))] [(eA.cell? ⟨w.heap.size, 0, none⟩ = some (.slice Ag0 g.ow.length cg0)), (Ag0 = some iS), (0 ≤ (gI (gL fr (gI op 0)) q : Int)), ((gI (gL fr (gI op 0)) q : Int) < (g.ow.length : Nat)), (eA.cell? (iS.add ((gI (gL fr (gI op 0)) q : Int).toNat * 1)) = some (.int .i64 (gI g.ow (gI (gL fr (gI op 0)) q))))] (by kernel_rfl) ⟨(aF.cell (i := 0) rfl), tR, (by omega), (by omega), tS, trivial⟩ (fun aAw hK => ?_)
   clear kH
   refine At.done rfl ?_
   refine t_n ?_
   refine cond_S hK (t := (gI g.ow (gI (gL fr (gI op 0)) q) : Int) == p) rfl (fun kI => ?_) (fun kI => ?_)
   ·have aAx := eq_of_beq kI
    refine At.start ?_
    obtain ⟨iT, pY, aAy, aAz, aAA⟩ := aN.get (gI (gL fr (gI op 0)) q) (by omega) (by omega) (sz := 1) rfl
    refine At.rd hK 4 [[], [], [], [.ad iT]] [(152, .pointer (some (iT.add ((gI (gL fr (gI op 0)) q : Int).toNat * 1)))), (151, .int .i64 (gI op 0)), (150, .int .i64 (gI (gL fr (gI op 0)) q)), (149, .slice aD ms4.length aR)] [(aD = some iT), (0 ≤ (gI (gL fr (gI op 0)) q : Int)), ((gI (gL fr (gI op 0)) q : Int) < (ms4.length : Nat))] (by kernel_rfl) ⟨pY, (by omega), (by omega), trivial⟩ (fun aAB pZ => ?_)
    clear hK
    refine At.act pZ (storeR (α := Int) (t := 3) (i := gI (gL fr (gI op 0)) q) (ad := iT) (v := .int .i64 (gI op 0)) (gI op 0) (by kernel_rfl) rfl rfl (by kernel_rfl) pY aN (by omega) (by omega)) ?_
    rintro d_ v_ tT ⟨rfl, dR, eK⟩
    refine ⟨_, rfl, fun aAC qA => ?_⟩
    clear pZ; have aAD : ((ms4).set (gI (gL fr (gI op 0)) q : Int).toNat (gI op 0)).length = (ms4).length := List.length_set; have := dR.size; replace aJ := aJ.gr dR (fun k hk => by have := aN.ge k hk; omega); replace aG := aG.gr dR (fun k hk => by have := aN.ge k hk; omega); replace aM := aM.gr dR (fun k hk => by have := aN.ge k hk; omega); replace aF := aF.gr dR (fun e => by have := aN.ge _ e; omega)
    replace aK := aK.gr dR (fun e => by have := aN.ge _ e; omega); replace aL := aL.gr dR (fun k hk => hk.2.2.1); replace aI := aI.gr dR (fun k hk => hk.2.2.1); replace aS := aS.gr dR (aN.neb (fun g hs => hs.2.1)); replace aA := aA.gr dR (fun k hk => hk.2.2.1); replace aH := aH.gr dR (fun k hk => hk.2.2.2.1); clear aN dR
    refine At.done rfl ?_
    refine t_n ?_
    refine wp_seq ?_
    refine At.start ?_
    refine At.rd qA 2 [[.cs ((ss2 : List Int).map wV)], []] [(154, .int .i64 (gI (gL fr (gI op 0)) q)), (153, .agg ((ss2 : List Int).map wV).toArray)] [(((ss2 : List Int).map wV).length = 4), (∀ (j : Nat) (v : Value), ((ss2 : List Int).map wV)[j]? = some v → tT.cell? ((⟨aE.heap.size, 0, none⟩ : Addr).add j) = some v)] (by kernel_rfl) ⟨((List.length_map _).trans (by assumption)), aS.whole, trivial⟩ (fun aAE qB => ?_)
    clear qA
    refine At.call qB 25 #[.agg ((ss2 : List Int).map wV).toArray, .int .i64 (gI (gL fr (gI op 0)) q)] (some 155) (by kernel_rfl) (with_any (s := ss2) (n := gI (gL fr (gI op 0)) q) (by assumption)) ?_
    rintro e_ aAF ⟨rfl, he⟩
    refine ⟨_, rfl, _, rfl, fun aAG qC => ?_⟩
    clear qB; have cZ := gr_ext he; have := cZ.size; replace aJ := aJ.gn cZ; replace aG := aG.gn cZ; replace aM := aM.gn cZ; replace aF := aF.gn cZ; replace aK := aK.gn cZ; replace aL := aL.gn cZ; replace aI := aI.gn cZ; replace eK := eK.gn cZ; replace aS := aS.gn cZ; replace aA := aA.gn cZ; replace aH := aH.gn cZ; clear cZ he
    refine At.act qC (storeBlk (t := 44) (b := aE.heap.size) (n := 4) (cs' := ((withW ss2 (gI (gL fr (gI op 0)) q) : List Int).map wV)) (by kernel_rfl) (by kernel_rfl) ((List.length_map _).trans (okLen (okW_with (by assumption)))) oneW_ ((show ((withW ss2 (gI (gL fr (gI op 0)) q) : List Int).map wV).length = 4 from ((List.length_map _).trans (okLen (okW_with (by assumption))))).trans (show ((ss2 : List Int).map wV).length = 4 from ((List.length_map _).trans (by assumption))).symm) aS) ?_
    rintro d_ v_ fW ⟨rfl, dS, hL⟩
    refine ⟨_, rfl, fun aAH qD => ?_⟩
    clear qC; have := dS.size; replace aJ := aJ.gr dS (fun k h => by injection h; omega); replace aG := aG.gb dS (by omega); replace aM := aM.gb dS (by omega); replace aF := aF.gb dS (by omega); replace aK := aK.gb dS (by omega); replace aL := aL.gr dS (fun k hk => hk.2.1); replace aI := aI.gr dS (fun k hk => hk.2.1); replace eK := eK.gr dS (fun k hk => hk.2.1)
    replace aA := aA.gr dS (fun k hk e => by have := Sx_base hk; injection e; omega); replace aH := aH.gr dS (fun k hk => hk.2.2.1); clear aS dS
    refine At.done rfl ?_
    refine t_n ?_
    refine At.start ?_
    refine At.rd qD 2 [[], []] [(157, .int .i64 (gI (gL fr (gI op 0)) q)), (156, .slice aX op4.length aV)] [] (by kernel_rfl) trivial (fun aAI qE => ?_)
    clear qD
    refine At.seq qE 1 [[]] [(158, .slice (some ⟨fW.heap.size, 0, none⟩) 1 1)] (fW.alloc (.cells #[.int .i64 (gI (gL fr (gI op 0)) q)] 3 (0, 0))) [] (by kernel_rfl) trivial (fun aAJ qF kJ qG => ?_)
    clear qE; have dA := gr_alloc kJ; have := dA.size; replace aJ := aJ.gn dA; replace aG := aG.gn dA; replace aM := aM.gn dA; replace aF := aF.gn dA; replace aK := aK.gn dA; replace aL := aL.grN dA; replace aI := aI.grN dA; replace eK := eK.grN dA; replace hL := hL.gn dA; replace aA := aA.grN dA; replace aH := aH.grN dA
    have kK : Bx qF (fW.heap.size) [.int .i64 (gI (gL fr (gI op 0)) q)] 3 := Bx.new kJ; have := kK.lt; clear dA kJ; have tU : (op4 ++ ([gI (gL fr (gI op 0)) q])).length = (op4).length + ([gI (gL fr (gI op 0)) q] : List Int).length := List.length_append
    simp only [List.length_cons, List.length_nil] at tU
    refine At.act qG (appendR (α := Int) (t := 22) (d := 159) (n := op4.length) (m := 1) (cc := 1) (xs := op4) (ys := [gI (gL fr (gI op 0)) q]) (bytes := 8) (by first | rfl | omega | (simp; done) | (simp; omega)) (by first | rfl | omega | (simp; done) | (simp; omega)) (by kernel_rfl) rfl (by kernel_rfl) aA (Bx.srcR (l := ([gI (gL fr (gI op 0)) q] : List Int)) kK rfl) (by simp only [List.length_cons, List.length_nil]; omega) (by simp only [List.length_cons, List.length_nil]; omega)) ?_
    rintro d_ v_ iU ⟨rfl, fB, hM, fM⟩
    obtain rfl := fM.val
    have dT := fM.gr
    refine ⟨_, rfl, fun aAK qH => ?_⟩
    clear qG; clear kK
    have tV := fM.own (Sx (cL.heap.size) [obk (aC), obk (aB), obk (aD)]) (fun g _ hs => ⟨hs.2.1, hs.2.2.1, hs.2.2.2.1, hs.2.2.2.2⟩) ⟨aL.ne_new, aI.ne_new, eK.ne_new, (show cL.heap.size ≤ qF.heap.size by omega)⟩
    have := dT.size; replace aJ := aJ.gr dT (fun k hk => by have := aA.ge k hk; omega); replace aG := aG.gr dT (fun k hk => by have := aA.ge k hk; omega); replace aM := aM.gr dT (fun k hk => by have := aA.ge k hk; omega); replace aF := aF.gr dT (fun e => by have := aA.ge _ e; omega); replace aK := aK.gr dT (fun e => by have := aA.ge _ e; omega)
    replace aL : OwnLL iU (aP.heap.size) [some (fW.heap.size), obk (fB), some (aE.heap.size), obk (aD), obk (aB)] aC aU 22 3 (fr : List (List Int)) := aL.grA dT (fun k hk => hk.2.1) (fun k hk hs => ⟨hs.1, own_repl fM.at_ hs.2.1 hk, hs.2.2.1, hs.2.2.2.1, hs.2.2.2.2.1, hs.2.2.2.2.2⟩)
    replace aI : OwnR iU (Sx (aW.heap.size) [some (fW.heap.size), obk (fB), some (aE.heap.size), obk (aD), obk (aC)]) aB aQ 3 ((lf4).set (gI (gL fr (gI op 0)) q : Int).toNat ((gI lf4 (gI (gL fr (gI op 0)) q)) - 1) : List Int) := aI.grA dT (fun k hk => hk.2.1) (fun k hk hs => ⟨hs.1, own_repl fM.at_ hs.2.1 hk, hs.2.2.1, hs.2.2.2.1, hs.2.2.2.2.1, hs.2.2.2.2.2⟩)
    replace eK : OwnR iU (Sx (aZ.heap.size) [some (fW.heap.size), obk (fB), some (aE.heap.size), obk (aC), obk (aB)]) aD aR 3 ((ms4).set (gI (gL fr (gI op 0)) q : Int).toNat (gI op 0) : List Int) := eK.grA dT (fun k hk => hk.2.1) (fun k hk hs => ⟨hs.1, own_repl fM.at_ hs.2.1 hk, hs.2.2.1, hs.2.2.2.1, hs.2.2.2.2.1, hs.2.2.2.2.2⟩)
    replace hL := hL.gr dT (fun e => by have := aA.ge _ e; omega)
    replace aH : OwnR iU (Sx (aP.heap.size) [some (fW.heap.size), obk (aC), obk (fB), some (aE.heap.size), obk (aD), obk (aB)]) bT bX 3 (gL fr (gI op 0) : List Int) := aH.grA dT (fun k hk => hk.2.2.1) (fun k hk hs => ⟨hs.1, hs.2.1, own_repl fM.at_ hs.2.2.1 hk, hs.2.2.2.1, hs.2.2.2.2.1, hs.2.2.2.2.2.1, hs.2.2.2.2.2.2⟩)
    clear aA dT fM
    refine At.rd qH 1 [[]] [(20, .slice fB ((op4 ++ ([gI (gL fr (gI op 0)) q])).length) hM)] [] (by kernel_rfl) trivial (fun aAL qI => ?_)
    clear qH
    refine At.done rfl ?_
    refine b_n ?_
    refine t_n ?_
    refine At.start ?_
    refine At.rd qI 2 [[.as_ (.int .i64 (q + 1))], []] [(113, .int .i64 (q + 1)), (160, .int .i64 (q + 1))] [((.int .i64 (IntKind.i64.wrap (q + 1)) : Value) = .int .i64 (q + 1))] (by kernel_rfl) ⟨(w64 (by omega) (by omega)), trivial⟩ (fun aAM qJ => ?_)
    clear qI
    refine At.done rfl ?_
    refine t_n ?_
    have qK := qJ.as 20 (.slice fB ((op4 ++ ([gI (gL fr (gI op 0)) q])).length) hM) (.slice fB ((op4 ++ ([gI (gL fr (gI op 0)) q]) : List Int).length) hM) rfl (slice_len (by first | rfl | omega | (simp; done) | (simp; omega)))
    clear qJ
    have qL := qK.as 15 (.slice aD ms4.length aR) (.slice aD (((ms4).set (gI (gL fr (gI op 0)) q : Int).toNat (gI op 0) : List Int).length) aR) rfl (slice_len (by first | rfl | omega | (simp; done) | (simp; omega)))
    clear qK
    have tW := qL.as 14 (.slice aB lf4.length aQ) (.slice aB (((lf4).set (gI (gL fr (gI op 0)) q : Int).toNat ((gI lf4 (gI (gL fr (gI op 0)) q)) - 1) : List Int).length) aQ) rfl (slice_len (by first | rfl | omega | (simp; done) | (simp; omega)))
    clear qL
    have tX := tW.sub (r := [(20, .slice fB ((op4 ++ ([gI (gL fr (gI op 0)) q]) : List Int).length) hM), (113, .int .i64 (q + 1)), (112, .int .i64 ((((gL fr (gI op 0)).length : Nat) : Int))), (111, .slice bT ((gL fr (gI op 0)).length) bX), (21, .int .i64 (gI op 0)), (19, .pointer (some ⟨aE.heap.size, 0, none⟩)), (15, .slice aD (((ms4).set (gI (gL fr (gI op 0)) q : Int).toNat (gI op 0) : List Int).length) aR), (14, .slice aB (((lf4).set (gI (gL fr (gI op 0)) q : Int).toNat ((gI lf4 (gI (gL fr (gI op 0)) q)) - 1) : List Int).length) aQ), (13, .slice aC fr.length aU), (8, .pointer (some ⟨aO.heap.size, 0, none⟩)), (4, .pointer (some ⟨w.heap.size, 0, none⟩)), (2, .int .i64 (p))]) ⟨rfl, rfl, rfl, rfl, rfl, rfl, rfl, rfl, rfl, rfl, rfl, rfl, trivial⟩
    exact ⟨_, (by omega), (q + 1), withW ss2 (gI (gL fr (gI op 0)) q), ((lf4).set (gI (gL fr (gI op 0)) q : Int).toNat ((gI lf4 (gI (gL fr (gI op 0)) q)) - 1) : List Int), aB, aQ, ((ms4).set (gI (gL fr (gI op 0)) q : Int).toNat (gI op 0) : List Int), aD, aR, (op4 ++ ([gI (gL fr (gI op 0)) q]) : List Int), fB, hM, rfl, tX, aJ, aG, aM, aF, aK, (aL.imp (fun g _ hs => ⟨hs.2.1, hs.2.2.1, hs.2.2.2.1, hs.2.2.2.2.1, hs.2.2.2.2.2⟩)), (aI.imp (fun g _ hs => ⟨hs.2.1, hs.2.2.1, hs.2.2.2.1, hs.2.2.2.2.1, hs.2.2.2.2.2⟩)), (eK.imp (fun g _ hs => ⟨hs.2.1, hs.2.2.1, hs.2.2.2.1, hs.2.2.2.2.1, hs.2.2.2.2.2⟩)), hL, tV, (aH.imp (fun g _ hs => ⟨hs.2.1, hs.2.2.1, hs.2.2.2.1, hs.2.2.2.2.1, hs.2.2.2.2.2.1, hs.2.2.2.2.2.2⟩)), (by omega), (by omega), (okW_with hok2), ⟨tl ++ [gI (gL fr (gI op 0)) q], by rw [hop4]; rfl, by rw [from_with hok2]; exact aw_add hG hnd (from_len _) hwi hil hnr (by rw [← has_W (by omega) (by omega)]; assumption) (by omega) (.inl ⟨by omega, rfl⟩)⟩, (by have hlw := len_with (n := gI (gL fr (gI op 0)) q) (m := 1) hok2 (if_pos ⟨by omega, by omega, by assumption⟩).symm; rw [List.length_append]; simp only [List.length_singleton]; omega), (okW_with hok2).1, (by omega), (by omega), (by omega), (by omega)⟩
   have aAN := ne_of_beq_false kI
   refine wp_skip ?_
   refine t_n ?_
   refine wp_seq ?_
   refine At.start ?_
   refine At.rd hK 2 [[.cs ((ss2 : List Int).map wV)], []] [(154, .int .i64 (gI (gL fr (gI op 0)) q)), (153, .agg ((ss2 : List Int).map wV).toArray)] [(((ss2 : List Int).map wV).length = 4), (∀ (j : Nat) (v : Value), ((ss2 : List Int).map wV)[j]? = some v → eA.cell? ((⟨aE.heap.size, 0, none⟩ : Addr).add j) = some v)] (by kernel_rfl) ⟨((List.length_map _).trans (by assumption)), aS.whole, trivial⟩ (fun aAO qM => ?_)
   clear hK
   refine At.call qM 25 #[.agg ((ss2 : List Int).map wV).toArray, .int .i64 (gI (gL fr (gI op 0)) q)] (some 155) (by kernel_rfl) (with_any (s := ss2) (n := gI (gL fr (gI op 0)) q) (by assumption)) ?_
   rintro e_ aAP ⟨rfl, he⟩
   refine ⟨_, rfl, _, rfl, fun aAQ qN => ?_⟩
   clear qM; have dB := gr_ext he; have := dB.size; replace aJ := aJ.gn dB; replace aG := aG.gn dB; replace aM := aM.gn dB; replace aF := aF.gn dB; replace aK := aK.gn dB; replace aL := aL.gn dB; replace aI := aI.gn dB; replace aN := aN.gn dB; replace aS := aS.gn dB; replace aA := aA.gn dB; replace aH := aH.gn dB; clear dB he
   refine At.act qN (storeBlk (t := 44) (b := aE.heap.size) (n := 4) (cs' := ((withW ss2 (gI (gL fr (gI op 0)) q) : List Int).map wV)) (by kernel_rfl) (by kernel_rfl) ((List.length_map _).trans (okLen (okW_with (by assumption)))) oneW_ ((show ((withW ss2 (gI (gL fr (gI op 0)) q) : List Int).map wV).length = 4 from ((List.length_map _).trans (okLen (okW_with (by assumption))))).trans (show ((ss2 : List Int).map wV).length = 4 from ((List.length_map _).trans (by assumption))).symm) aS) ?_
   rintro d_ v_ fX ⟨rfl, dU, hN⟩
   refine ⟨_, rfl, fun aAR qO => ?_⟩
   clear qN; have := dU.size; replace aJ := aJ.gr dU (fun k h => by injection h; omega); replace aG := aG.gb dU (by omega); replace aM := aM.gb dU (by omega); replace aF := aF.gb dU (by omega); replace aK := aK.gb dU (by omega); replace aL := aL.gr dU (fun k hk => hk.2.1); replace aI := aI.gr dU (fun k hk => hk.2.1); replace aN := aN.gr dU (fun k hk => hk.2.1)
   replace aA := aA.gr dU (fun k hk e => by have := Sx_base hk; injection e; omega); replace aH := aH.gr dU (fun k hk => hk.2.2.1); clear aS dU
   refine At.done rfl ?_
   refine t_n ?_
   refine At.start ?_
   refine At.rd qO 2 [[], []] [(157, .int .i64 (gI (gL fr (gI op 0)) q)), (156, .slice aX op4.length aV)] [] (by kernel_rfl) trivial (fun aAS qP => ?_)
   clear qO
   refine At.seq qP 1 [[]] [(158, .slice (some ⟨fX.heap.size, 0, none⟩) 1 1)] (fX.alloc (.cells #[.int .i64 (gI (gL fr (gI op 0)) q)] 3 (0, 0))) [] (by kernel_rfl) trivial (fun aAT qQ kL qR => ?_)
   clear qP; have dC := gr_alloc kL; have := dC.size; replace aJ := aJ.gn dC; replace aG := aG.gn dC; replace aM := aM.gn dC; replace aF := aF.gn dC; replace aK := aK.gn dC; replace aL := aL.grN dC; replace aI := aI.grN dC; replace aN := aN.grN dC; replace hN := hN.gn dC; replace aA := aA.grN dC; replace aH := aH.grN dC
   have kM : Bx qQ (fX.heap.size) [.int .i64 (gI (gL fr (gI op 0)) q)] 3 := Bx.new kL; have := kM.lt; clear dC kL; have tY : (op4 ++ ([gI (gL fr (gI op 0)) q])).length = (op4).length + ([gI (gL fr (gI op 0)) q] : List Int).length := List.length_append
   simp only [List.length_cons, List.length_nil] at tY
   refine At.act qR (appendR (α := Int) (t := 22) (d := 159) (n := op4.length) (m := 1) (cc := 1) (xs := op4) (ys := [gI (gL fr (gI op 0)) q]) (bytes := 8) (by first | rfl | omega | (simp; done) | (simp; omega)) (by first | rfl | omega | (simp; done) | (simp; omega)) (by kernel_rfl) rfl (by kernel_rfl) aA (Bx.srcR (l := ([gI (gL fr (gI op 0)) q] : List Int)) kM rfl) (by simp only [List.length_cons, List.length_nil]; omega) (by simp only [List.length_cons, List.length_nil]; omega)) ?_
   rintro d_ v_ iV ⟨rfl, fC, hO, fN⟩
   obtain rfl := fN.val
   have dV := fN.gr
   refine ⟨_, rfl, fun aAU qS => ?_⟩
   clear qR; clear kM
   have tZ := fN.own (Sx (cL.heap.size) [obk (aC), obk (aB), obk (aD)]) (fun g _ hs => ⟨hs.2.1, hs.2.2.1, hs.2.2.2.1, hs.2.2.2.2⟩) ⟨aL.ne_new, aI.ne_new, aN.ne_new, (show cL.heap.size ≤ qQ.heap.size by omega)⟩
   have := dV.size; replace aJ := aJ.gr dV (fun k hk => by have := aA.ge k hk; omega); replace aG := aG.gr dV (fun k hk => by have := aA.ge k hk; omega); replace aM := aM.gr dV (fun k hk => by have := aA.ge k hk; omega); replace aF := aF.gr dV (fun e => by have := aA.ge _ e; omega); replace aK := aK.gr dV (fun e => by have := aA.ge _ e; omega)
   replace aL : OwnLL iV (aP.heap.size) [some (fX.heap.size), obk (fC), some (aE.heap.size), obk (aD), obk (aB)] aC aU 22 3 (fr : List (List Int)) := aL.grA dV (fun k hk => hk.2.1) (fun k hk hs => ⟨hs.1, own_repl fN.at_ hs.2.1 hk, hs.2.2.1, hs.2.2.2.1, hs.2.2.2.2.1, hs.2.2.2.2.2⟩)
   replace aI : OwnR iV (Sx (aW.heap.size) [some (fX.heap.size), obk (fC), some (aE.heap.size), obk (aD), obk (aC)]) aB aQ 3 ((lf4).set (gI (gL fr (gI op 0)) q : Int).toNat ((gI lf4 (gI (gL fr (gI op 0)) q)) - 1) : List Int) := aI.grA dV (fun k hk => hk.2.1) (fun k hk hs => ⟨hs.1, own_repl fN.at_ hs.2.1 hk, hs.2.2.1, hs.2.2.2.1, hs.2.2.2.2.1, hs.2.2.2.2.2⟩)
   replace aN : OwnR iV (Sx (aZ.heap.size) [some (fX.heap.size), obk (fC), some (aE.heap.size), obk (aC), obk (aB)]) aD aR 3 (ms4 : List Int) := aN.grA dV (fun k hk => hk.2.1) (fun k hk hs => ⟨hs.1, own_repl fN.at_ hs.2.1 hk, hs.2.2.1, hs.2.2.2.1, hs.2.2.2.2.1, hs.2.2.2.2.2⟩)
   replace hN := hN.gr dV (fun e => by have := aA.ge _ e; omega)
   replace aH : OwnR iV (Sx (aP.heap.size) [some (fX.heap.size), obk (aC), obk (fC), some (aE.heap.size), obk (aD), obk (aB)]) bT bX 3 (gL fr (gI op 0) : List Int) := aH.grA dV (fun k hk => hk.2.2.1) (fun k hk hs => ⟨hs.1, hs.2.1, own_repl fN.at_ hs.2.2.1 hk, hs.2.2.2.1, hs.2.2.2.2.1, hs.2.2.2.2.2.1, hs.2.2.2.2.2.2⟩)
   clear aA dV fN
   refine At.rd qS 1 [[]] [(20, .slice fC ((op4 ++ ([gI (gL fr (gI op 0)) q])).length) hO)] [] (by kernel_rfl) trivial (fun aAV qT => ?_)
   clear qS
   refine At.done rfl ?_
   refine b_n ?_
   refine t_n ?_
   refine At.start ?_
   refine At.rd qT 2 [[.as_ (.int .i64 (q + 1))], []] [(113, .int .i64 (q + 1)), (160, .int .i64 (q + 1))] [((.int .i64 (IntKind.i64.wrap (q + 1)) : Value) = .int .i64 (q + 1))] (by kernel_rfl) ⟨(w64 (by omega) (by omega)), trivial⟩ (fun aAW qU => ?_)
   clear qT
   refine At.done rfl ?_
   refine t_n ?_
   have qV := qU.as 20 (.slice fC ((op4 ++ ([gI (gL fr (gI op 0)) q])).length) hO) (.slice fC ((op4 ++ ([gI (gL fr (gI op 0)) q]) : List Int).length) hO) rfl (slice_len (by first | rfl | omega | (simp; done) | (simp; omega)))
   clear qU
   have qW := qV.as 15 (.slice aD ms4.length aR) (.slice aD ((ms4 : List Int).length) aR) rfl (slice_len (by first | rfl | omega | (simp; done) | (simp; omega)))
   clear qV
   have uA := qW.as 14 (.slice aB lf4.length aQ) (.slice aB (((lf4).set (gI (gL fr (gI op 0)) q : Int).toNat ((gI lf4 (gI (gL fr (gI op 0)) q)) - 1) : List Int).length) aQ) rfl (slice_len (by first | rfl | omega | (simp; done) | (simp; omega)))
   clear qW
   have uB := uA.sub (r := [(20, .slice fC ((op4 ++ ([gI (gL fr (gI op 0)) q]) : List Int).length) hO), (113, .int .i64 (q + 1)), (112, .int .i64 ((((gL fr (gI op 0)).length : Nat) : Int))), (111, .slice bT ((gL fr (gI op 0)).length) bX), (21, .int .i64 (gI op 0)), (19, .pointer (some ⟨aE.heap.size, 0, none⟩)), (15, .slice aD ((ms4 : List Int).length) aR), (14, .slice aB (((lf4).set (gI (gL fr (gI op 0)) q : Int).toNat ((gI lf4 (gI (gL fr (gI op 0)) q)) - 1) : List Int).length) aQ), (13, .slice aC fr.length aU), (8, .pointer (some ⟨aO.heap.size, 0, none⟩)), (4, .pointer (some ⟨w.heap.size, 0, none⟩)), (2, .int .i64 (p))]) ⟨rfl, rfl, rfl, rfl, rfl, rfl, rfl, rfl, rfl, rfl, rfl, rfl, trivial⟩
   exact ⟨_, (by omega), (q + 1), withW ss2 (gI (gL fr (gI op 0)) q), ((lf4).set (gI (gL fr (gI op 0)) q : Int).toNat ((gI lf4 (gI (gL fr (gI op 0)) q)) - 1) : List Int), aB, aQ, (ms4 : List Int), aD, aR, (op4 ++ ([gI (gL fr (gI op 0)) q]) : List Int), fC, hO, rfl, uB, aJ, aG, aM, aF, aK, (aL.imp (fun g _ hs => ⟨hs.2.1, hs.2.2.1, hs.2.2.2.1, hs.2.2.2.2.1, hs.2.2.2.2.2⟩)), (aI.imp (fun g _ hs => ⟨hs.2.1, hs.2.2.1, hs.2.2.2.1, hs.2.2.2.2.1, hs.2.2.2.2.2⟩)), (aN.imp (fun g _ hs => ⟨hs.2.1, hs.2.2.1, hs.2.2.2.1, hs.2.2.2.2.1, hs.2.2.2.2.2⟩)), hN, tZ, (aH.imp (fun g _ hs => ⟨hs.2.1, hs.2.2.1, hs.2.2.2.1, hs.2.2.2.2.1, hs.2.2.2.2.2.1, hs.2.2.2.2.2.2⟩)), (by omega), (by omega), (okW_with hok2), ⟨tl ++ [gI (gL fr (gI op 0)) q], by rw [hop4]; rfl, by rw [from_with hok2]; exact aw_add hG hnd (from_len _) hwi hil hnr (by rw [← has_W (by omega) (by omega)]; assumption) (by omega) (.inr ⟨by omega, rfl⟩)⟩, (by have hlw := len_with (n := gI (gL fr (gI op 0)) q) (m := 1) hok2 (if_pos ⟨by omega, by omega, by assumption⟩).symm; rw [List.length_append]; simp only [List.length_singleton]; omega), (okW_with hok2).1, (by omega), (by omega), (by omega), (by omega)⟩
  have aAX := of_decide_eq_false jZ
  refine wp_exit ?_
  refine t_e ?_
  refine t_e ?_
  refine b_e ?_
  refine b_n ?_
  refine t_n ?_
  obtain ⟨tl, hop4, hwi⟩ := hwi
  have hol4 := congrArg List.length hop4
  simp only [List.length_cons] at hol4
  rw [List.drop_of_length_le (by omega)] at hwi
  refine At.start ?_
  obtain ⟨dD, kN⟩ : ∃ A_ : Option Addr, (if aV = (1 : Int).toNat then aX else Option.map (fun a_ : Addr => a_.add ((1 : Int).toNat * 1)) (aX)) = A_ := ⟨_, rfl⟩
  have qX := aA.drop ((1 : Int).toNat) (by omega) (sz := 1) rfl
  rw [kN] at qX
  clear aA
  have iW : obk dD = obk aX := by rw [← kN]; exact obk_drop
  have : ((op4).drop (1 : Int).toNat).length = (op4).length - (1 : Int).toNat := List.length_drop
  have uC : OwnLL gF (aP.heap.size) [obk (dD), some (aE.heap.size), obk (aD), obk (aB)] aC aU 22 3 (fr : List (List Int)) := by rw [iW]; exact iI
  clear iI
  replace cT : OwnR gF (Sx (aW.heap.size) [obk (dD), some (aE.heap.size), obk (aD), obk (aC)]) aB aQ 3 (lf4 : List Int) := by rw [iW]; exact cT
  replace aN : OwnR gF (Sx (aZ.heap.size) [obk (dD), some (aE.heap.size), obk (aC), obk (aB)]) aD aR 3 (ms4 : List Int) := by rw [iW]; exact aN
  replace aH : OwnR gF (Sx (aP.heap.size) [obk (aC), obk (dD), some (aE.heap.size), obk (aD), obk (aB)]) bT bX 3 (gL fr (gI op 0) : List Int) := by rw [iW]; exact aH
  refine At.rd hA 3 [[], [.as_ (.slice dD (((op4).drop (1 : Int).toNat).length) (aV - (1 : Int).toNat))], []] [(20, .slice dD (((op4).drop (1 : Int).toNat).length) (aV - (1 : Int).toNat)), (104, .slice dD (((op4).drop (1 : Int).toNat).length) (aV - (1 : Int).toNat)), (103, .slice aX op4.length aV)] [(0 ≤ (1 : Int)), ((1 : Int) ≤ ((op4.length : Nat) : Int)), ((.slice (if aV = (1 : Int).toNat then aX else Option.map (fun a_ : Addr => a_.add ((1 : Int).toNat * 1)) (aX)) (op4.length - (1 : Int).toNat) (aV - (1 : Int).toNat) : Value) = .slice dD (((op4).drop (1 : Int).toNat).length) (aV - (1 : Int).toNat))] (by kernel_rfl) ⟨(by omega), (by omega), (by rw [kN, List.length_drop]), trivial⟩ (fun aAY qY => ?_)
  clear hA
  refine At.done rfl ?_
  refine t_n ?_
  have qZ := qY.as 20 (.slice dD (((op4).drop (1 : Int).toNat).length) (aV - (1 : Int).toNat)) (.slice dD (((op4).drop (1 : Int).toNat : List Int).length) (aV - (1 : Int).toNat)) rfl (slice_len (by first | rfl | omega | (simp; done) | (simp; omega)))
  clear qY
  have rA := qZ.as 15 (.slice aD ms4.length aR) (.slice aD ((ms4 : List Int).length) aR) rfl (slice_len (by first | rfl | omega | (simp; done) | (simp; omega)))
  clear qZ
  have uD := rA.as 14 (.slice aB lf4.length aQ) (.slice aB ((lf4 : List Int).length) aQ) rfl (slice_len (by first | rfl | omega | (simp; done) | (simp; omega)))
  clear rA
  have uE := uD.sub (r := [(20, .slice dD (((op4).drop (1 : Int).toNat : List Int).length) (aV - (1 : Int).toNat)), (19, .pointer (some ⟨aE.heap.size, 0, none⟩)), (15, .slice aD ((ms4 : List Int).length) aR), (14, .slice aB ((lf4 : List Int).length) aQ), (13, .slice aC fr.length aU), (8, .pointer (some ⟨aO.heap.size, 0, none⟩)), (4, .pointer (some ⟨w.heap.size, 0, none⟩)), (2, .int .i64 (p))]) ⟨rfl, rfl, rfl, rfl, rfl, rfl, rfl, rfl, trivial⟩
  exact ⟨_, (by omega), ss2, (lf4 : List Int), aB, aQ, (ms4 : List Int), aD, aR, ((op4).drop (1 : Int).toNat : List Int), dD, (aV - (1 : Int).toNat), rfl, uE, aJ, aG, aM, aF, aK, uC, cT, aN, aS, qX, hok2.1, hok2, ⟨_, by rw [hop4]; exact aw_close hwi⟩, (by omega), (by omega), (by omega), (by omega)⟩
 have aAZ := of_decide_eq_false jY
 refine wp_exit ?_
 refine t_e ?_
 refine t_e ?_
 refine b_e ?_
 refine t_n ?_
 clear iE
 refine wp_seq ?_
 obtain ⟨pr, hw⟩ := hw
 have hnil : op = [] := List.length_eq_zero_iff.1 (by omega)
 rw [hnil] at hw
 have hend := aw_end hG hw
 refine At.start ?_
 refine At.rd gZ 2 [[.cs ((ss : List Int).map wV)], []] [(162, .slice cM ms3.length dZ), (161, .agg ((ss : List Int).map wV).toArray)] [(((ss : List Int).map wV).length = 4), (∀ (j : Nat) (v : Value), ((ss : List Int).map wV)[j]? = some v → jX.cell? ((⟨aE.heap.size, 0, none⟩ : Addr).add j) = some v)] (by kernel_rfl) ⟨((List.length_map _).trans (by assumption)), fT.whole, trivial⟩ (fun aBa rB => ?_)
 clear gZ
 refine At.act rB (storeBlk (t := 44) (b := aO.heap.size) (n := 4) (cs' := ((ss : List Int).map wV)) (by kernel_rfl) (by kernel_rfl) ((List.length_map _).trans (by assumption)) oneW_ ((show ((ss : List Int).map wV).length = 4 from ((List.length_map _).trans (by assumption))).trans (show ((List.replicate 4 (0 : Int) : List Int).map wV).length = 4 from (by simp only [List.length_map, List.length_set, List.length_replicate, List.length_cons, List.length_nil]; first | done | assumption | exact from_len _ | exact of_len _ | exact ofZ_len _ | exact (ofW_ok _).1 | exact (fullW_W _).1 | exact (okW_with (by assumption)).1 | exact (okW_less (by assumption)).1 | exact put_len (from_len _) | exact orD_len _ _ | exact andD_len _ _ | exact minusD_len _ _ | exact fullD_len _ | (refine okLen ?_; (repeat (first | assumption | exact ofW_ok _ | exact fullW_W _ | apply okW_with | apply okW_less | refine okW_orS ?_ ?_ | refine okW_andS ?_ ?_ | refine okW_minusS ?_ ?_)); done) | omega | rfl)).symm) gV) ?_
 rintro d_ v_ aBb ⟨rfl, eL, uF⟩
 refine ⟨_, rfl, fun aBc rC => ?_⟩
 clear rB; have := eL.size; replace gE := gE.gr eL (fun k h => by injection h; omega); replace iC := iC.gb eL (by omega); replace iD := iD.gb eL (by omega); have aBd := gW.gr eL (fun k hk e => by have := Sx_base hk; injection e; omega); clear gW; replace iF := iF.gr eL (fun k hk e => by have := Sx_base hk; injection e; omega)
 replace gX := gX.gr eL (fun k hk e => by have := Sx_base hk; injection e; omega); replace fT := fT.gb eL (by omega); replace gY := gY.gr eL (fun k hk e => by have := Sx_base hk; injection e; omega); clear gV eL
 refine At.rd rC 1 [[]] [(9, .slice cM ms3.length dZ)] [] (by kernel_rfl) trivial (fun aBe uG => ?_)
 clear rC
 refine At.done rfl ?_
 refine t_n ?_
 clear fT
 refine wp_ret ?_
 refine ret2B_ uG (sl := 8) (cs := ((ss : List Int).map wV)) (m := 4) (q := 9) (v := .slice cM ms3.length dZ) rfl (by kernel_rfl) (by kernel_rfl) (by kernel_rfl) ((List.length_map _).trans (by assumption)) uF ?_
 exact ⟨cM, dZ, _, _, rfl, gE, (gX.imp (fun g _ hs => by have := Sx_base hs; show w.heap.size ≤ g; omega)), hok, .inr ⟨hR, hp01, hend.1, hend.2⟩⟩

end Go.Proofs.YtplpgfcjjnaigaaDoor
