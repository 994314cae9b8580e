/-
  A walk of a Go function, printed by a program of this repo. Conditions: what the theorems name.
-/
import Derived.Test.YtplpgfcjjnaigaaDoorWRight2
import Derived.Test.YtplpgfcjjnaigaaDoorWIs
import Derived.Test.YtplpgfcjjnaigaaDoorWCopyM
import Derived.Test.YtplpgfcjjnaigaaDoorPureDual
set_option linter.unusedVariables false
set_option linter.unusedSimpArgs false
namespace Go.Proofs.YtplpgfcjjnaigaaDoor
open Go Go.RowKit

set_option maxHeartbeats 4000000 in
theorem isM_any {Ag0 Ag1 Ag2 : Option Addr} {cg0 cg1 cg2 : Nat} {g : GameL} {w : World} (rg : RdG w 0 w.heap.size Ag0 Ag1 Ag2 cg0 cg1 cg2 g) :
    Calls Tryd.prog 48 #[.agg #[.slice Ag0 g.ow.length cg0, .slice Ag1 g.pr.length cg1, .slice Ag2 g.mv.length cg2]] w fun e w' => e = .returned (.bool (isR g)) ∧ Ext w w' := by
 have hlg0 := rg.ow.len; have hlg1 := rg.pr.len; have hlg2 := rg.mv.len; have hkg0 := rg.k0; have hkg1 := rg.k1; have hkg2 := rg.k2
 refine enter_ (args := [.agg #[.slice Ag0 g.ow.length cg0, .slice Ag1 g.pr.length cg1, .slice Ag2 g.mv.length cg2]]) Tryd.func48 rfl Tryd.ntmps48 (Nat.le_of_ble_eq_true rfl) (fun act0 f0 => ?_)
 have e0 : Ext w w := Ext.refl w
 refine wp_seq ?_
 refine At.start ?_
 refine At.seq f0 1 [[]] [(1, .pointer (some ⟨w.heap.size, 0, none⟩))] (w.alloc (.cells #[.slice Ag0 g.ow.length cg0, .slice Ag1 g.pr.length cg1, .slice Ag2 g.mv.length cg2] 25 (0, 0))) [] (by kernel_rfl) trivial (fun act4 w1 hw2 f3 => ?_)
 clear f0; have g5 := gr_alloc hw2; have := g5.size; replace e0 := e0.gn g5; have r8 := rg.gn g5; clear rg; have bx9 : Bx w1 (w.heap.size) [.slice Ag0 g.ow.length cg0, .slice Ag1 g.pr.length cg1, .slice Ag2 g.mv.length cg2] 25 := Bx.new hw2; have := bx9.lt; clear g5 hw2
 refine At.rd f3 1 [[]] [(2, .bool false)] [] (by kernel_rfl) trivial (fun aJ aB => ?_)
 clear f3
 refine At.done rfl ?_
 refine t_n ?_
 have aC := aB.sub (r := [(1, .pointer (some ⟨w.heap.size, 0, none⟩))]) ⟨rfl, trivial⟩; clear aB
 refine wp_seq ?_
 refine At.start ?_
 refine At.rd aC 1 [[.ld (.slice Ag0 g.ow.length cg0), .ld (.slice Ag1 g.pr.length cg1), .ld (.slice Ag2 g.mv.length cg2)]] [(6, .agg #[.slice Ag0 g.ow.length cg0, .slice Ag1 g.pr.length cg1, .slice Ag2 g.mv.length cg2])] [(w1.cell? ⟨w.heap.size, 0, none⟩ = some (.slice Ag0 g.ow.length cg0)), (w1.cell? ⟨w.heap.size, 1, none⟩ = some (.slice Ag1 g.pr.length cg1)), (w1.cell? ⟨w.heap.size, 2, none⟩ = some (.slice Ag2 g.mv.length cg2))] (by kernel_rfl) ⟨(bx9.cell (i := 0) rfl), (bx9.cell (i := 1) rfl), (bx9.cell (i := 2) rfl), trivial⟩ (fun aK aD => ?_)
 clear aC
 refine At.call aD 21 #[.agg #[.slice Ag0 g.ow.length cg0, .slice Ag1 g.pr.length cg1, .slice Ag2 g.mv.length cg2]] (some 7) (by kernel_rfl) (right_any (r8.wide (Nat.zero_le _) (by omega))) ?_
 rintro e_ aL ⟨rfl, he⟩
 refine ⟨_, rfl, _, rfl, fun aM aE => ?_⟩
 clear aD; have aA := gr_ext he; have := aA.size; replace e0 := e0.gn aA; replace r8 := r8.gn aA; replace bx9 := bx9.gn aA; clear aA he
 refine At.rd aE 5 [[], [], [], [], []] [(4, .int .i64 ((rightP g).2)), (3, .int .i64 ((rightP g).1)), (9, .int .i64 ((rightP g).2)), (8, .int .i64 ((rightP g).1)), (5, .tuple #[.int .i64 ((rightP g).1), .int .i64 ((rightP g).2)])] [] (by kernel_rfl) trivial (fun aN aF => ?_)
 clear aE
 refine At.done rfl ?_
 refine t_n ?_
 have aG := aF.sub (r := [(4, .int .i64 ((rightP g).2))]) ⟨rfl, trivial⟩; clear aF
 refine wp_seq ?_
 refine At.start ?_
 refine At.rd aG 3 [[], [], []] [(2, .bool (((rightP g).2 : Int) == 0)), (11, .bool (((rightP g).2 : Int) == 0)), (10, .int .i64 ((rightP g).2))] [] (by kernel_rfl) trivial (fun aO aH => ?_)
 clear aG
 refine At.done rfl ?_
 refine t_n ?_
 have aI := aH.sub (r := [(2, .bool (((rightP g).2 : Int) == 0))]) ⟨rfl, trivial⟩; clear aH
 refine wp_ret ?_
 refine ret_ aI [] [.bool (((rightP g).2 : Int) == 0)] [] (by kernel_rfl) trivial ?_
 exact ⟨rfl, e0⟩

set_option maxHeartbeats 4000000 in
theorem dualM_any {Ag0 Ag1 Ag2 : Option Addr} {cg0 cg1 cg2 : Nat} {g : GameL} {w : World} (rg : RdG w 0 w.heap.size Ag0 Ag1 Ag2 cg0 cg1 cg2 g) :
    Calls Tryd.prog 29 #[.agg #[.slice Ag0 g.ow.length cg0, .slice Ag1 g.pr.length cg1, .slice Ag2 g.mv.length cg2]] w fun e w' => ∃ A0 c0 A1 c1 A2 c2, e = .returned (.agg #[.slice A0 (dualG g).ow.length c0, .slice A1 (dualG g).pr.length c1, .slice A2 (dualG g).mv.length c2]) ∧ Ext w w' ∧ OwnR w' (Sx w.heap.size [obk A1, obk A2]) A0 c0 3 (dualG g).ow ∧ OwnR w' (Sx w.heap.size [obk A0, obk A2]) A1 c1 3 (dualG g).pr ∧ OwnLL w' w.heap.size [obk A0, obk A1] A2 c2 22 3 (dualG g).mv := by
 have hlg0 := rg.ow.len; have hlg1 := rg.pr.len; have hlg2 := rg.mv.len; have hkg0 := rg.k0; have hkg1 := rg.k1; have hkg2 := rg.k2
 refine enter_ (args := [.agg #[.slice Ag0 g.ow.length cg0, .slice Ag1 g.pr.length cg1, .slice Ag2 g.mv.length cg2]]) Tryd.func29 rfl Tryd.ntmps29 (Nat.le_of_ble_eq_true rfl) (fun act0 f0 => ?_)
 have e0 : Ext w w := Ext.refl w
 refine wp_seq ?_
 refine At.start ?_
 refine At.seq f0 1 [[]] [(1, .pointer (some ⟨w.heap.size, 0, none⟩))] (w.alloc (.cells #[.slice Ag0 g.ow.length cg0, .slice Ag1 g.pr.length cg1, .slice Ag2 g.mv.length cg2] 25 (0, 0))) [] (by kernel_rfl) trivial (fun act4 w1 hw2 f3 => ?_)
 clear f0; have g5 := gr_alloc hw2; have := g5.size; replace e0 := e0.gn g5; have r8 := rg.gn g5; clear rg; have bx9 : Bx w1 (w.heap.size) [.slice Ag0 g.ow.length cg0, .slice Ag1 g.pr.length cg1, .slice Ag2 g.mv.length cg2] 25 := Bx.new hw2; have := bx9.lt; clear g5 hw2
 refine At.seq f3 1 [[]] [(2, .pointer (some ⟨w1.heap.size, 0, none⟩))] (w1.alloc (.cells #[.slice none 0 0, .slice none 0 0, .slice none 0 0] 25 (0, 0))) [] (by kernel_rfl) trivial (fun fJ cV cL cW => ?_)
 clear f3; have bN := gr_alloc cL; have := bN.size; replace e0 := e0.gn bN; replace r8 := r8.gn bN; replace bx9 := bx9.gn bN; have aI : Bx cV (w1.heap.size) [.slice none 0 0, .slice none 0 0, .slice none 0 0] 25 := Bx.new cL; have := aI.lt; clear bN cL
 refine At.done rfl ?_
 refine t_n ?_
 have cX := cW.sub (r := [(2, .pointer (some ⟨w1.heap.size, 0, none⟩)), (1, .pointer (some ⟨w.heap.size, 0, none⟩))]) ⟨rfl, rfl, trivial⟩; clear cW
 refine wp_seq ?_
 refine At.start ?_
 refine At.rd cX 2 [[], [.ld (.slice Ag1 g.pr.length cg1)]] [(7, .slice Ag1 g.pr.length cg1), (6, .pointer (some ⟨w.heap.size, 1, none⟩))] [(cV.cell? ⟨w.heap.size, 1, none⟩ = some (.slice Ag1 g.pr.length cg1))] (by kernel_rfl) ⟨(bx9.cell (i := 1) rfl), trivial⟩ (fun fK cY => ?_)
 clear cX
 refine At.call cY 49 #[.slice Ag1 g.pr.length cg1, .int .i64 (7)] (some 8) (by kernel_rfl) (contains_any (v := 7) (r8.pr.wide (Nat.zero_le _) (by omega))) ?_
 rintro e_ bY ⟨rfl, he⟩
 refine ⟨_, rfl, _, rfl, fun fL cZ => ?_⟩
 clear cY; have bB := gr_ext he; have := bB.size; replace e0 := e0.gn bB; replace r8 := r8.gn bB; replace bx9 := bx9.gn bB; replace aI := aI.gn bB; clear bB he
 refine At.rd cZ 1 [[]] [(3, .bool (decide (7 ∈ g.pr)))] [] (by kernel_rfl) trivial (fun fM dA => ?_)
 clear cZ
 refine At.done rfl ?_
 refine t_n ?_
 have cM := dA.sub (r := [(3, .bool (decide (7 ∈ g.pr))), (2, .pointer (some ⟨w1.heap.size, 0, none⟩)), (1, .pointer (some ⟨w.heap.size, 0, none⟩))]) ⟨rfl, rfl, rfl, trivial⟩
 clear dA
 refine wp_seq (cut (fun a_ w_ => (Frm 53 a_ [(3, .bool (decide (7 ∈ g.pr))), (2, .pointer (some ⟨w1.heap.size, 0, none⟩)), (1, .pointer (some ⟨w.heap.size, 0, none⟩))]) ∧ (Ext w w_) ∧ (RdG w_ 0 w.heap.size Ag0 Ag1 Ag2 cg0 cg1 cg2 g) ∧ (Bx w_ (w.heap.size) [.slice Ag0 g.ow.length cg0, .slice Ag1 g.pr.length cg1, .slice Ag2 g.mv.length cg2] 25) ∧ (Bx w_ (w1.heap.size) [.slice none 0 0, .slice none 0 0, .slice none 0 0] 25) ∧ (isR g = true) ∧ (¬ (7 ∈ g.pr ∧ 0 ∈ g.pr)) ∧ (bY.heap.size ≤ w_.heap.size)) ?_ ?_)
 ·refine wp_seq ?_
  refine At.start ?_
  refine At.rd cM 1 [[.ld (.slice Ag0 g.ow.length cg0), .ld (.slice Ag1 g.pr.length cg1), .ld (.slice Ag2 g.mv.length cg2)]] [(9, .agg #[.slice Ag0 g.ow.length cg0, .slice Ag1 g.pr.length cg1, .slice Ag2 g.mv.length cg2])] [(bY.cell? ⟨w.heap.size, 0, none⟩ = some (.slice Ag0 g.ow.length cg0)), (bY.cell? ⟨w.heap.size, 1, none⟩ = some (.slice Ag1 g.pr.length cg1)), (bY.cell? ⟨w.heap.size, 2, none⟩ = some (.slice Ag2 g.mv.length cg2))] (by kernel_rfl) ⟨(bx9.cell (i := 0) rfl), (bx9.cell (i := 1) rfl), (bx9.cell (i := 2) rfl), trivial⟩ (fun fN dB => ?_)
  clear cM
  refine At.call dB 48 #[.agg #[.slice Ag0 g.ow.length cg0, .slice Ag1 g.pr.length cg1, .slice Ag2 g.mv.length cg2]] (some 10) (by kernel_rfl) (isM_any (r8.wide (Nat.zero_le _) (by omega))) ?_
  rintro e_ eP ⟨rfl, he⟩
  refine ⟨_, rfl, _, rfl, fun fO bC => ?_⟩
  clear dB; have bD := gr_ext he; have := bD.size; replace e0 := e0.gn bD; replace r8 := r8.gn bD; replace bx9 := bx9.gn bD; replace aI := aI.gn bD; clear bD he
  rcases Bool.eq_false_or_eq_true (!(isR g)) with aP | aP
  ·have fP : (isR g) = false := by first | exact Eq.mp (Bool.not_eq_true' _) aP | exact Eq.mp (Bool.not_eq_false' _) aP | simpa using aP
   refine At.rd bC 9 [[], [.as_ (.bool true)], [], [], [], [], [], [], []] [(19, .bool true), (18, undef), (17, undef), (16, undef), (15, undef), (14, undef), (13, undef), (12, .bool true), (11, .bool (!(isR g)))] [((.bool (!(isR g)) : Value) = .bool true)] (by kernel_rfl) ⟨(congrArg Value.bool aP), trivial⟩ (fun fQ dC => ?_)
   clear bC
   refine At.done rfl ?_
   refine t_n ?_
   have cN := dC.sub (r := [(19, .bool true), (3, .bool (decide (7 ∈ g.pr))), (2, .pointer (some ⟨w1.heap.size, 0, none⟩)), (1, .pointer (some ⟨w.heap.size, 0, none⟩))]) ⟨rfl, rfl, rfl, rfl, trivial⟩
   clear dC
   refine cond_T cN rfl ?_
   refine wp_seq ?_
   refine At.start ?_
   refine At.rd cN 1 [[]] [(20, .agg #[.slice none 0 0, .slice none 0 0, .slice none 0 0])] [] (by kernel_rfl) trivial (fun fR dD => ?_)
   clear cN
   refine At.store dD (t := 25) (b := w1.heap.size) (off := 0) (v := .agg #[.slice none 0 0, .slice none 0 0, .slice none 0 0]) (by kernel_rfl) aI (by kernel_rfl) (fun fS bZ bO bP dE => ?_)
   clear dD; replace bP : Bx bZ (w1.heap.size) [.slice none 0 0, .slice none 0 0, .slice none 0 0] 25 := bP; have := bO.size; replace e0 := e0.gr bO (fun k h => by injection h; omega); replace r8 := r8.gb bO (by omega); replace bx9 := bx9.gb bO (by omega); clear aI bO
   refine At.done rfl ?_
   refine t_n ?_
   have eQ := dE.sub (r := [(2, .pointer (some ⟨w1.heap.size, 0, none⟩))]) ⟨rfl, trivial⟩; clear dE
   refine wp_ret ?_
   refine t_r ?_
   refine ret_ eQ [[.slice none 0 0, .slice none 0 0, .slice none 0 0]] [.agg #[.slice none 0 0, .slice none 0 0, .slice none 0 0]] [(bZ.cell? ⟨w1.heap.size, 0, none⟩ = some (.slice none 0 0)), (bZ.cell? ⟨w1.heap.size, 1, none⟩ = some (.slice none 0 0)), (bZ.cell? ⟨w1.heap.size, 2, none⟩ = some (.slice none 0 0))] (by kernel_rfl) ⟨(bP.cell (i := 0) rfl), (bP.cell (i := 1) rfl), (bP.cell (i := 2) rfl), trivial⟩ ?_
   rw [dual_no (by first | exact .inl (by assumption) | exact .inr ⟨of_decide_eq_true (by assumption), of_decide_eq_true (by assumption)⟩)]
   exact ⟨none, 0, none, 0, none, 0, rfl, e0, OwnR.nil, OwnR.nil, OwnLL.nil⟩
  have fT : (isR g) = true := by first | exact Eq.mp (Bool.not_eq_true' _) aP | exact Eq.mp (Bool.not_eq_false' _) aP | simpa using aP
  rcases Bool.eq_false_or_eq_true (decide (7 ∈ g.pr)) with bQ | bQ
  ·have fU := of_decide_eq_true bQ
   refine At.rd bC 6 [[], [.as_ (.bool false)], [], [.as_ (.bool true)], [], [.ld (.slice Ag1 g.pr.length cg1)]] [(16, .slice Ag1 g.pr.length cg1), (15, .pointer (some ⟨w.heap.size, 1, none⟩)), (14, .bool true), (13, .bool (decide (7 ∈ g.pr))), (12, .bool false), (11, .bool (!(isR g)))] [((.bool (!(isR g)) : Value) = .bool false), ((.bool (decide (7 ∈ g.pr)) : Value) = .bool true), (eP.cell? ⟨w.heap.size, 1, none⟩ = some (.slice Ag1 g.pr.length cg1))] (by kernel_rfl) ⟨(congrArg Value.bool aP), (congrArg Value.bool bQ), (bx9.cell (i := 1) rfl), trivial⟩ (fun fV dF => ?_)
   clear bC
   refine At.call dF 49 #[.slice Ag1 g.pr.length cg1, .int .i64 (0)] (some 17) (by kernel_rfl) (contains_any (v := 0) (r8.pr.wide (Nat.zero_le _) (by omega))) ?_
   rintro e_ fW ⟨rfl, he⟩
   refine ⟨_, rfl, _, rfl, fun fX dG => ?_⟩
   clear dF; have bE := gr_ext he; have := bE.size; replace e0 := e0.gn bE; replace r8 := r8.gn bE; replace bx9 := bx9.gn bE; replace aI := aI.gn bE; clear bE he
   refine At.rd dG 2 [[], []] [(19, .bool (decide (0 ∈ g.pr))), (18, .bool (decide (0 ∈ g.pr)))] [] (by kernel_rfl) trivial (fun fY dH => ?_)
   clear dG
   refine At.done rfl ?_
   refine t_n ?_
   have cA := dH.sub (r := [(19, .bool (decide (0 ∈ g.pr))), (3, .bool (decide (7 ∈ g.pr))), (2, .pointer (some ⟨w1.heap.size, 0, none⟩)), (1, .pointer (some ⟨w.heap.size, 0, none⟩))]) ⟨rfl, rfl, rfl, rfl, trivial⟩
   clear dH
   refine cond_S cA (t := decide (0 ∈ g.pr)) rfl (fun cO => ?_) (fun cO => ?_)
   ·have fZ := of_decide_eq_true cO
    refine wp_seq ?_
    refine At.start ?_
    refine At.rd cA 1 [[]] [(20, .agg #[.slice none 0 0, .slice none 0 0, .slice none 0 0])] [] (by kernel_rfl) trivial (fun gA dI => ?_)
    clear cA
    refine At.store dI (t := 25) (b := w1.heap.size) (off := 0) (v := .agg #[.slice none 0 0, .slice none 0 0, .slice none 0 0]) (by kernel_rfl) aI (by kernel_rfl) (fun gB cB bR bS dJ => ?_)
    clear dI; replace bS : Bx cB (w1.heap.size) [.slice none 0 0, .slice none 0 0, .slice none 0 0] 25 := bS; have := bR.size; replace e0 := e0.gr bR (fun k h => by injection h; omega); replace r8 := r8.gb bR (by omega); replace bx9 := bx9.gb bR (by omega); clear aI bR
    refine At.done rfl ?_
    refine t_n ?_
    have eR := dJ.sub (r := [(2, .pointer (some ⟨w1.heap.size, 0, none⟩))]) ⟨rfl, trivial⟩; clear dJ
    refine wp_ret ?_
    refine t_r ?_
    refine ret_ eR [[.slice none 0 0, .slice none 0 0, .slice none 0 0]] [.agg #[.slice none 0 0, .slice none 0 0, .slice none 0 0]] [(cB.cell? ⟨w1.heap.size, 0, none⟩ = some (.slice none 0 0)), (cB.cell? ⟨w1.heap.size, 1, none⟩ = some (.slice none 0 0)), (cB.cell? ⟨w1.heap.size, 2, none⟩ = some (.slice none 0 0))] (by kernel_rfl) ⟨(bS.cell (i := 0) rfl), (bS.cell (i := 1) rfl), (bS.cell (i := 2) rfl), trivial⟩ ?_
    rw [dual_no (by first | exact .inl (by assumption) | exact .inr ⟨of_decide_eq_true (by assumption), of_decide_eq_true (by assumption)⟩)]
    exact ⟨none, 0, none, 0, none, 0, rfl, e0, OwnR.nil, OwnR.nil, OwnLL.nil⟩
   have gC := of_decide_eq_false cO
   refine wp_skip ?_
   refine t_n ?_
   have eS := cA.sub (r := [(3, .bool (decide (7 ∈ g.pr))), (2, .pointer (some ⟨w1.heap.size, 0, none⟩)), (1, .pointer (some ⟨w.heap.size, 0, none⟩))]) ⟨rfl, rfl, rfl, trivial⟩
   exact ⟨eS, e0, r8, bx9, aI, (by assumption), (by first | exact fun h_ => absurd h_.1 (of_decide_eq_false (by assumption)) | exact fun h_ => absurd h_.2 (of_decide_eq_false (by assumption))), (by omega)⟩
  have gD := of_decide_eq_false bQ
  refine At.rd bC 9 [[], [.as_ (.bool false)], [], [.as_ (.bool false)], [], [], [], [], []] [(19, .bool false), (18, .bool false), (17, undef), (16, undef), (15, undef), (14, .bool false), (13, .bool (decide (7 ∈ g.pr))), (12, .bool false), (11, .bool (!(isR g)))] [((.bool (!(isR g)) : Value) = .bool false), ((.bool (decide (7 ∈ g.pr)) : Value) = .bool false)] (by kernel_rfl) ⟨(congrArg Value.bool aP), (congrArg Value.bool bQ), trivial⟩ (fun gE dK => ?_)
  clear bC
  refine At.done rfl ?_
  refine t_n ?_
  have dL := dK.sub (r := [(19, .bool false), (3, .bool (decide (7 ∈ g.pr))), (2, .pointer (some ⟨w1.heap.size, 0, none⟩)), (1, .pointer (some ⟨w.heap.size, 0, none⟩))]) ⟨rfl, rfl, rfl, rfl, trivial⟩
  clear dK
  refine cond_F dL rfl ?_
  refine wp_skip ?_
  refine t_n ?_
  have eT := dL.sub (r := [(3, .bool (decide (7 ∈ g.pr))), (2, .pointer (some ⟨w1.heap.size, 0, none⟩)), (1, .pointer (some ⟨w.heap.size, 0, none⟩))]) ⟨rfl, rfl, rfl, trivial⟩
  exact ⟨eT, e0, r8, bx9, aI, (by assumption), (by first | exact fun h_ => absurd h_.1 (of_decide_eq_false (by assumption)) | exact fun h_ => absurd h_.2 (of_decide_eq_false (by assumption))), (by omega)⟩
 clear r8; clear bx9; clear aI; clear cM e0
 intro gF bA ⟨dM, aS, aQ, aK, aT, hR, hno, i105⟩
 have := aS.size; have := aK.lt; have := aT.lt
 refine wp_seq ?_
 have hG := isR_ok hR; have hn1 := hG.n1; have hpl := hG.pl; have hml := hG.ml
 refine At.start ?_
 refine At.rd dM 1 [[.ld (.slice Ag0 g.ow.length cg0), .ld (.slice Ag1 g.pr.length cg1), .ld (.slice Ag2 g.mv.length cg2)]] [(21, .agg #[.slice Ag0 g.ow.length cg0, .slice Ag1 g.pr.length cg1, .slice Ag2 g.mv.length cg2])] [(bA.cell? ⟨w.heap.size, 0, none⟩ = some (.slice Ag0 g.ow.length cg0)), (bA.cell? ⟨w.heap.size, 1, none⟩ = some (.slice Ag1 g.pr.length cg1)), (bA.cell? ⟨w.heap.size, 2, none⟩ = some (.slice Ag2 g.mv.length cg2))] (by kernel_rfl) ⟨(aK.cell (i := 0) rfl), (aK.cell (i := 1) rfl), (aK.cell (i := 2) rfl), trivial⟩ (fun gG dN => ?_)
 clear dM
 refine At.call dN 24 #[.agg #[.slice Ag0 g.ow.length cg0, .slice Ag1 g.pr.length cg1, .slice Ag2 g.mv.length cg2]] (some 22) (by kernel_rfl) (copyM_any (g := g) (aQ.wide (Nat.zero_le _) (by omega))) ?_
 rintro e_ aA ⟨bF, bG, cP, cQ, aH, aJ, rfl, he, bH, bI, bJ⟩
 have hip120 := inner_len (RdG.mv (aQ.wide (Nat.zero_le _) (by omega)))
 refine ⟨_, rfl, _, rfl, fun gH dO => ?_⟩
 clear dN; have bK := gr_ext he; have := bK.size; replace aS := aS.gn bK; replace aQ := aQ.gn bK; replace aK := aK.gn bK; replace aT := aT.gn bK; clear bK he
 refine At.seq dO 1 [[]] [(4, .pointer (some ⟨aA.heap.size, 0, none⟩))] (aA.alloc (.cells #[.slice none 0 0, .slice none 0 0, .slice none 0 0] 25 (0, 0))) [] (by kernel_rfl) trivial (fun gJ eU cR dP => ?_)
 clear dO; have aU := gr_alloc cR; have := aU.size; replace aS := aS.gn aU; replace aQ := aQ.gn aU; replace aK := aK.gn aU; replace aT := aT.gn aU; replace bH := bH.grN aU; replace bI := bI.grN aU; replace bJ := bJ.grN aU; have cS : Bx eU (aA.heap.size) [.slice none 0 0, .slice none 0 0, .slice none 0 0] 25 := Bx.new cR; have := cS.lt; clear aU cR
 refine At.store dP (t := 25) (b := aA.heap.size) (off := 0) (v := .agg #[.slice bF g.ow.length bG, .slice cP g.pr.length cQ, .slice aH g.mv.length aJ]) (by kernel_rfl) cS (by kernel_rfl) (fun gK dQ aV bT dR => ?_)
 clear dP; replace bT : Bx dQ (aA.heap.size) [.slice bF g.ow.length bG, .slice cP g.pr.length cQ, .slice aH g.mv.length aJ] 25 := bT; have := aV.size; replace aS := aS.gr aV (fun k h => by injection h; omega); replace aQ := aQ.gb aV (by omega); replace aK := aK.gb aV (by omega); replace aT := aT.gb aV (by omega); replace bH := bH.gr aV (fun k hk => hk.1); replace bI := bI.gr aV (fun k hk => hk.1)
 replace bJ := bJ.gr aV (fun k hk => hk.1); clear cS aV
 refine At.done rfl ?_
 refine t_n ?_
 have dS := dR.sub (r := [(4, .pointer (some ⟨aA.heap.size, 0, none⟩)), (3, .bool (decide (7 ∈ g.pr))), (2, .pointer (some ⟨w1.heap.size, 0, none⟩))]) ⟨rfl, rfl, rfl, trivial⟩
 clear dR
 refine wp_seq ?_
 refine wp_seq ?_
 refine At.start ?_
 refine At.rd dS 4 [[], [.ld (.slice bF g.ow.length bG)], [], []] [(26, .int .i64 (0)), (25, .int .i64 (((g.ow.length : Nat) : Int))), (24, .slice bF g.ow.length bG), (23, .pointer (some ⟨aA.heap.size, 0, none⟩))] [(dQ.cell? ⟨aA.heap.size, 0, none⟩ = some (.slice bF g.ow.length bG))] (by kernel_rfl) ⟨(bT.cell (i := 0) rfl), trivial⟩ (fun gL dT => ?_)
 clear dS
 refine At.done rfl ?_
 refine t_n ?_
 have dU := dT.sub (r := [(26, .int .i64 (0)), (25, .int .i64 (((g.ow.length : Nat) : Int))), (4, .pointer (some ⟨aA.heap.size, 0, none⟩)), (3, .bool (decide (7 ∈ g.pr))), (2, .pointer (some ⟨w1.heap.size, 0, none⟩))]) ⟨rfl, rfl, rfl, rfl, rfl, trivial⟩
 clear dT
 refine wp_block ?_
 have dV := dU.sub (r := [(26, .int .i64 (0)), (25, .int .i64 (((g.ow.length : Nat) : Int))), (4, .pointer (some ⟨aA.heap.size, 0, none⟩)), (3, .bool (decide (7 ∈ g.pr))), (2, .pointer (some ⟨w1.heap.size, 0, none⟩))]) ⟨rfl, rfl, rfl, rfl, rfl, trivial⟩
 refine loop_g (fun (m_ : Nat) a_ w_ => ∃ (k : Int) (xa : List Int) (aD : Option Addr) (aF : Nat) (xp : List Int) (aB : Option Addr) (aE : Nat), m_ = ((g.ow.length : Int) - k).toNat ∧ (Frm 53 a_ [(26, .int .i64 (k)), (25, .int .i64 (((g.ow.length : Nat) : Int))), (4, .pointer (some ⟨aA.heap.size, 0, none⟩)), (3, .bool (decide (7 ∈ g.pr))), (2, .pointer (some ⟨w1.heap.size, 0, none⟩))]) ∧ (Ext w w_) ∧ (RdG w_ 0 w.heap.size Ag0 Ag1 Ag2 cg0 cg1 cg2 g) ∧ (Bx w_ (w.heap.size) [.slice Ag0 g.ow.length cg0, .slice Ag1 g.pr.length cg1, .slice Ag2 g.mv.length cg2] 25) ∧ (Bx w_ (w1.heap.size) [.slice none 0 0, .slice none 0 0, .slice none 0 0] 25) ∧ (OwnR w_ (Sx (bA.heap.size) [some (aA.heap.size), obk (aB), obk (aH)]) aD aF 3 (xa : List Int)) ∧ (OwnR w_ (Sx (bA.heap.size) [some (aA.heap.size), obk (aD), obk (aH)]) aB aE 3 (xp : List Int)) ∧ (OwnLL w_ (bA.heap.size) [some (aA.heap.size), obk (aD), obk (aB)] aH aJ 22 3 (g.mv : List (List Int))) ∧ (Bx w_ (aA.heap.size) [.slice aD xa.length aF, .slice aB xp.length aE, .slice aH g.mv.length aJ] 25) ∧ (0 ≤ k) ∧ (k ≤ (g.ow.length : Int)) ∧ (MapT g.ow xa (fun z => 1 - z) k) ∧ (MapT g.pr xp (fun z => z + dualBy g) k) ∧ (xa.length = g.ow.length) ∧ (xp.length = g.pr.length) ∧ (bA.heap.size ≤ w_.heap.size)) _ ⟨0, (g.ow : List Int), bF, bG, (g.pr : List Int), cP, cQ, rfl, dV, aS, aQ, aK, aT, bH, bI, bJ, (bT.as (by first | rfl | (simp only [List.cons.injEq, Value.slice.injEq, true_and, and_true]; omega))), (by omega), (by omega), map_0, map_0, rfl, rfl, (by omega)⟩ ?_
 clear dV dU; clear aQ; clear aK; clear aT; clear bH; clear bI; clear bJ; clear bT; clear aS
 intro m_ gM bU ⟨k, xa, aD, aF, xp, aB, aE, hm167, dW, aL, aR, aN, aO, aM, aC, cC, aG, i176, i177, hxa, hxp, i178, i179, i180⟩
 have := aL.size; have := aN.lt; have := aO.lt; have := aG.lt
 refine wp_seq ?_
 refine At.start ?_
 refine At.rd dW 1 [[]] [(27, .bool (decide ((k : Int) < ((g.ow.length : Nat) : Int))))] [] (by kernel_rfl) trivial (fun gN bV => ?_)
 clear dW
 refine At.done rfl ?_
 refine t_n ?_
 refine wp_seq ?_
 refine cond_S bV (t := decide ((k : Int) < ((g.ow.length : Nat) : Int))) rfl (fun cT => ?_) (fun cT => ?_)
 ·have gO := of_decide_eq_true cT
  refine wp_skip ?_
  refine t_n ?_
  have dX := bV.sub (r := [(26, .int .i64 (k)), (25, .int .i64 (((g.ow.length : Nat) : Int))), (4, .pointer (some ⟨aA.heap.size, 0, none⟩)), (3, .bool (decide (7 ∈ g.pr))), (2, .pointer (some ⟨w1.heap.size, 0, none⟩))]) ⟨rfl, rfl, rfl, rfl, rfl, trivial⟩
  clear bV
  refine wp_seq ?_
  refine wp_block ?_
  refine wp_seq ?_
  refine At.start ?_
  refine At.rd dX 2 [[], []] [(5, .int .i64 (k)), (28, .int .i64 (k))] [] (by kernel_rfl) trivial (fun gP dY => ?_)
  clear dX
  refine At.done rfl ?_
  refine t_n ?_
  have dZ := dY.sub (r := [(5, .int .i64 (k)), (26, .int .i64 (k)), (25, .int .i64 (((g.ow.length : Nat) : Int))), (4, .pointer (some ⟨aA.heap.size, 0, none⟩)), (3, .bool (decide (7 ∈ g.pr))), (2, .pointer (some ⟨w1.heap.size, 0, none⟩))]) ⟨rfl, rfl, rfl, rfl, rfl, rfl, trivial⟩
  clear dY
  refine wp_seq ?_
  have hgo := hG.ow k (by omega) (by omega); have hak := map_at hxa (by omega) (by omega)
  refine At.start ?_
  obtain ⟨cD, eV, gQ, eW, gR⟩ := aM.get (k) (by omega) (by omega) (sz := 1) rfl
  obtain ⟨cE, eA, gS, gT, gU⟩ := aM.get (k) (by omega) (by omega) (sz := 1) rfl
  refine At.rd dZ 7 [[], [.ld (.slice aD xa.length aF)], [], [.ad cD], [.ld (.int .i64 (gI xa k))], [.as_ (.int .i64 (1 - gI xa k))], [.ad cE]] [(35, .pointer (some (cE.add ((k : Int).toNat * 1)))), (34, .int .i64 (1 - gI xa k)), (33, .int .i64 (gI xa k)), (32, .pointer (some (cD.add ((k : Int).toNat * 1)))), (31, .int .i64 (k)), (30, .slice aD xa.length aF), (29, .pointer (some ⟨aA.heap.size, 0, none⟩))] [(bU.cell? ⟨aA.heap.size, 0, none⟩ = some (.slice aD xa.length aF)), (aD = some cD), (0 ≤ (k : Int)), ((k : Int) < (xa.length : Nat)), (bU.cell? (cD.add ((k : Int).toNat * 1)) = some (.int .i64 (gI xa k))), ((.int .i64 (IntKind.i64.wrap ((BitVec.ofInt 64 (gI xa k) ^^^ BitVec.ofInt 64 1).toNat : Int)) : Value) = .int .i64 (1 - gI xa k)), (aD = some cE), (0 ≤ (k : Int)), ((k : Int) < (xa.length : Nat))] (by kernel_rfl) ⟨(aG.cell (i := 0) rfl), eV, (by omega), (by omega), eW, (congrArg (Value.int .i64) (xor1 (by omega))), eA, (by omega), (by omega), trivial⟩ (fun gV eB => ?_)
  clear dZ
  refine At.act eB (storeR (α := Int) (t := 3) (i := k) (ad := cE) (v := .int .i64 (1 - gI xa k)) (1 - gI xa k) (by kernel_rfl) rfl rfl (by kernel_rfl) eA aM (by omega) (by omega)) ?_
  rintro d_ v_ cF ⟨rfl, aW, bL⟩
  refine ⟨_, rfl, fun gW eC => ?_⟩
  clear eB; have gX : ((xa).set (k : Int).toNat (1 - gI xa k)).length = (xa).length := List.length_set; have := aW.size; replace aL := aL.gr aW (fun k hk => by have := aM.ge k hk; omega); replace aR := aR.gr aW (fun k hk => by have := aM.ge k hk; omega); replace aN := aN.gr aW (fun e => by have := aM.ge _ e; omega); replace aO := aO.gr aW (fun e => by have := aM.ge _ e; omega)
  replace aC := aC.gr aW (fun k hk => hk.2.1); have bM := cC.gr aW (fun k hk => hk.2.1); clear cC; replace aG := aG.gr aW (aM.neb (fun g hs => hs.1)); clear aM aW
  refine At.done rfl ?_
  refine t_n ?_
  have eD := eC.sub (r := [(5, .int .i64 (k)), (26, .int .i64 (k)), (25, .int .i64 (((g.ow.length : Nat) : Int))), (4, .pointer (some ⟨aA.heap.size, 0, none⟩)), (3, .bool (decide (7 ∈ g.pr))), (2, .pointer (some ⟨w1.heap.size, 0, none⟩))]) ⟨rfl, rfl, rfl, rfl, rfl, rfl, trivial⟩
  clear eC
  refine wp_seq ?_
  have hgp := hG.pr k (by omega) (by omega); have hpk := map_at hxp (by omega) (by omega)
  refine At.start ?_
  refine At.rd eD 1 [[]] [(36, .bool (decide (7 ∈ g.pr)))] [] (by kernel_rfl) trivial (fun gY bW => ?_)
  clear eD
  refine At.done rfl ?_
  refine t_n ?_
  refine cond_S bW (t := decide (7 ∈ g.pr)) rfl (fun cU => ?_) (fun cU => ?_)
  ·have gZ := of_decide_eq_true cU
   refine At.start ?_
   obtain ⟨cG, eX, hA, eY, hB⟩ := aC.get (k) (by omega) (by omega) (sz := 1) rfl
   obtain ⟨cH, eE, hC, hD, hE⟩ := aC.get (k) (by omega) (by omega) (sz := 1) rfl
   refine At.rd bW 7 [[], [.ld (.slice aB xp.length aE)], [], [.ad cG], [.ld (.int .i64 (gI xp k))], [.as_ (.int .i64 ((gI xp k) - 1))], [.ad cH]] [(43, .pointer (some (cH.add ((k : Int).toNat * 1)))), (42, .int .i64 ((gI xp k) - 1)), (41, .int .i64 (gI xp k)), (40, .pointer (some (cG.add ((k : Int).toNat * 1)))), (39, .int .i64 (k)), (38, .slice aB xp.length aE), (37, .pointer (some ⟨aA.heap.size, 1, none⟩))] [(cF.cell? ⟨aA.heap.size, 1, none⟩ = some (.slice aB xp.length aE)), (aB = some cG), (0 ≤ (k : Int)), ((k : Int) < (xp.length : Nat)), (cF.cell? (cG.add ((k : Int).toNat * 1)) = some (.int .i64 (gI xp k))), ((.int .i64 (IntKind.i64.wrap ((gI xp k) - 1)) : Value) = .int .i64 ((gI xp k) - 1)), (aB = some cH), (0 ≤ (k : Int)), ((k : Int) < (xp.length : Nat))] (by kernel_rfl) ⟨(aG.cell (i := 1) rfl), eX, (by omega), (by omega), eY, (w64 (by omega) (by omega)), eE, (by omega), (by omega), trivial⟩ (fun hF eF => ?_)
   clear bW
   refine At.act eF (storeR (α := Int) (t := 3) (i := k) (ad := cH) (v := .int .i64 ((gI xp k) - 1)) ((gI xp k) - 1) (by kernel_rfl) rfl rfl (by kernel_rfl) eE aC (by omega) (by omega)) ?_
   rintro d_ v_ hH ⟨rfl, aX, eZ⟩
   refine ⟨_, rfl, fun hI eG => ?_⟩
   clear eF; have hJ : ((xp).set (k : Int).toNat ((gI xp k) - 1)).length = (xp).length := List.length_set; have := aX.size; replace aL := aL.gr aX (fun k hk => by have := aC.ge k hk; omega); replace aR := aR.gr aX (fun k hk => by have := aC.ge k hk; omega); replace aN := aN.gr aX (fun e => by have := aC.ge _ e; omega); replace aO := aO.gr aX (fun e => by have := aC.ge _ e; omega)
   replace bL := bL.gr aX (fun k hk => hk.2.1); replace bM := bM.gr aX (fun k hk => hk.2.2.1); replace aG := aG.gr aX (aC.neb (fun g hs => hs.1)); clear aC aX
   refine At.done rfl ?_
   refine b_n ?_
   refine t_n ?_
   have eH := eG.sub (r := [(26, .int .i64 (k)), (25, .int .i64 (((g.ow.length : Nat) : Int))), (4, .pointer (some ⟨aA.heap.size, 0, none⟩)), (3, .bool (decide (7 ∈ g.pr))), (2, .pointer (some ⟨w1.heap.size, 0, none⟩))]) ⟨rfl, rfl, rfl, rfl, rfl, trivial⟩
   clear eG
   refine At.start ?_
   refine At.rd eH 2 [[.as_ (.int .i64 (k + 1))], []] [(26, .int .i64 (k + 1)), (51, .int .i64 (k + 1))] [((.int .i64 (IntKind.i64.wrap (k + 1)) : Value) = .int .i64 (k + 1))] (by kernel_rfl) ⟨(w64 (by omega) (by omega)), trivial⟩ (fun hK fA => ?_)
   clear eH
   refine At.done rfl ?_
   refine t_n ?_
   have fB := fA.sub (r := [(26, .int .i64 (k + 1)), (25, .int .i64 (((g.ow.length : Nat) : Int))), (4, .pointer (some ⟨aA.heap.size, 0, none⟩)), (3, .bool (decide (7 ∈ g.pr))), (2, .pointer (some ⟨w1.heap.size, 0, none⟩))]) ⟨rfl, rfl, rfl, rfl, rfl, trivial⟩
   exact ⟨_, (by omega), (k + 1), ((xa).set (k : Int).toNat (1 - gI xa k) : List Int), aD, aF, ((xp).set (k : Int).toNat ((gI xp k) - 1) : List Int), aB, aE, rfl, fB, aL, aR, aN, aO, bL, eZ, bM, (aG.as (by first | rfl | (simp only [List.length_set]; done) | (simp; done) | (simp only [List.cons.injEq, Value.slice.injEq, true_and, and_true]; omega))), (by omega), (by omega), (map_next hxa (by omega) (by omega) (by rw [hak])), (map_next hxp (by omega) (by omega) (by rw [hpk]; first | (rw [by_hi (by assumption)]; omega) | (rw [by_lo (by assumption)]))), (by rw [List.length_set]; assumption), (by rw [List.length_set]; assumption), (by omega)⟩
  have hL := of_decide_eq_false cU
  refine At.start ?_
  obtain ⟨cI, fC, hM, fD, hN⟩ := aC.get (k) (by omega) (by omega) (sz := 1) rfl
  obtain ⟨cJ, eI, hO, hP, hQ⟩ := aC.get (k) (by omega) (by omega) (sz := 1) rfl
  refine At.rd bW 7 [[], [.ld (.slice aB xp.length aE)], [], [.ad cI], [.ld (.int .i64 (gI xp k))], [.as_ (.int .i64 ((gI xp k) + 1))], [.ad cJ]] [(50, .pointer (some (cJ.add ((k : Int).toNat * 1)))), (49, .int .i64 ((gI xp k) + 1)), (48, .int .i64 (gI xp k)), (47, .pointer (some (cI.add ((k : Int).toNat * 1)))), (46, .int .i64 (k)), (45, .slice aB xp.length aE), (44, .pointer (some ⟨aA.heap.size, 1, none⟩))] [(cF.cell? ⟨aA.heap.size, 1, none⟩ = some (.slice aB xp.length aE)), (aB = some cI), (0 ≤ (k : Int)), ((k : Int) < (xp.length : Nat)), (cF.cell? (cI.add ((k : Int).toNat * 1)) = some (.int .i64 (gI xp k))), ((.int .i64 (IntKind.i64.wrap ((gI xp k) + 1)) : Value) = .int .i64 ((gI xp k) + 1)), (aB = some cJ), (0 ≤ (k : Int)), ((k : Int) < (xp.length : Nat))] (by kernel_rfl) ⟨(aG.cell (i := 1) rfl), fC, (by omega), (by omega), fD, (w64 (by omega) (by omega)), eI, (by omega), (by omega), trivial⟩ (fun hS eJ => ?_)
  clear bW
  refine At.act eJ (storeR (α := Int) (t := 3) (i := k) (ad := cJ) (v := .int .i64 ((gI xp k) + 1)) ((gI xp k) + 1) (by kernel_rfl) rfl rfl (by kernel_rfl) eI aC (by omega) (by omega)) ?_
  rintro d_ v_ hT ⟨rfl, aY, fE⟩
  refine ⟨_, rfl, fun hU eK => ?_⟩
  clear eJ; have hV : ((xp).set (k : Int).toNat ((gI xp k) + 1)).length = (xp).length := List.length_set; have := aY.size; replace aL := aL.gr aY (fun k hk => by have := aC.ge k hk; omega); replace aR := aR.gr aY (fun k hk => by have := aC.ge k hk; omega); replace aN := aN.gr aY (fun e => by have := aC.ge _ e; omega); replace aO := aO.gr aY (fun e => by have := aC.ge _ e; omega)
  replace bL := bL.gr aY (fun k hk => hk.2.1); replace bM := bM.gr aY (fun k hk => hk.2.2.1); replace aG := aG.gr aY (aC.neb (fun g hs => hs.1)); clear aC aY
  refine At.done rfl ?_
  refine b_n ?_
  refine t_n ?_
  have eL := eK.sub (r := [(26, .int .i64 (k)), (25, .int .i64 (((g.ow.length : Nat) : Int))), (4, .pointer (some ⟨aA.heap.size, 0, none⟩)), (3, .bool (decide (7 ∈ g.pr))), (2, .pointer (some ⟨w1.heap.size, 0, none⟩))]) ⟨rfl, rfl, rfl, rfl, rfl, trivial⟩
  clear eK
  refine At.start ?_
  refine At.rd eL 2 [[.as_ (.int .i64 (k + 1))], []] [(26, .int .i64 (k + 1)), (51, .int .i64 (k + 1))] [((.int .i64 (IntKind.i64.wrap (k + 1)) : Value) = .int .i64 (k + 1))] (by kernel_rfl) ⟨(w64 (by omega) (by omega)), trivial⟩ (fun hW fF => ?_)
  clear eL
  refine At.done rfl ?_
  refine t_n ?_
  have fG := fF.sub (r := [(26, .int .i64 (k + 1)), (25, .int .i64 (((g.ow.length : Nat) : Int))), (4, .pointer (some ⟨aA.heap.size, 0, none⟩)), (3, .bool (decide (7 ∈ g.pr))), (2, .pointer (some ⟨w1.heap.size, 0, none⟩))]) ⟨rfl, rfl, rfl, rfl, rfl, trivial⟩
  exact ⟨_, (by omega), (k + 1), ((xa).set (k : Int).toNat (1 - gI xa k) : List Int), aD, aF, ((xp).set (k : Int).toNat ((gI xp k) + 1) : List Int), aB, aE, rfl, fG, aL, aR, aN, aO, bL, fE, bM, (aG.as (by first | rfl | (simp only [List.length_set]; done) | (simp; done) | (simp only [List.cons.injEq, Value.slice.injEq, true_and, and_true]; omega))), (by omega), (by omega), (map_next hxa (by omega) (by omega) (by rw [hak])), (map_next hxp (by omega) (by omega) (by rw [hpk]; first | (rw [by_hi (by assumption)]; omega) | (rw [by_lo (by assumption)]))), (by rw [List.length_set]; assumption), (by rw [List.length_set]; assumption), (by omega)⟩
 have hX := of_decide_eq_false cT
 refine wp_exit ?_
 refine t_e ?_
 refine t_e ?_
 refine b_e ?_
 refine t_n ?_
 have eM := bV.sub (r := [(4, .pointer (some ⟨aA.heap.size, 0, none⟩)), (2, .pointer (some ⟨w1.heap.size, 0, none⟩))]) ⟨rfl, rfl, trivial⟩; clear bV
 refine wp_seq ?_
 refine At.start ?_
 refine At.rd eM 1 [[.ld (.slice aD xa.length aF), .ld (.slice aB xp.length aE), .ld (.slice aH g.mv.length aJ)]] [(52, .agg #[.slice aD xa.length aF, .slice aB xp.length aE, .slice aH g.mv.length aJ])] [(bU.cell? ⟨aA.heap.size, 0, none⟩ = some (.slice aD xa.length aF)), (bU.cell? ⟨aA.heap.size, 1, none⟩ = some (.slice aB xp.length aE)), (bU.cell? ⟨aA.heap.size, 2, none⟩ = some (.slice aH g.mv.length aJ))] (by kernel_rfl) ⟨(aG.cell (i := 0) rfl), (aG.cell (i := 1) rfl), (aG.cell (i := 2) rfl), trivial⟩ (fun hY eN => ?_)
 clear eM
 refine At.store eN (t := 25) (b := w1.heap.size) (off := 0) (v := .agg #[.slice aD xa.length aF, .slice aB xp.length aE, .slice aH g.mv.length aJ]) (by kernel_rfl) aO (by kernel_rfl) (fun hZ cK aZ bX eO => ?_)
 clear eN; replace bX : Bx cK (w1.heap.size) [.slice aD xa.length aF, .slice aB xp.length aE, .slice aH g.mv.length aJ] 25 := bX; have := aZ.size; replace aL := aL.gr aZ (fun k h => by injection h; omega); replace aR := aR.gb aZ (by omega); replace aN := aN.gb aZ (by omega); replace aM := aM.gr aZ (fun k hk e => by have := Sx_base hk; injection e; omega)
 replace aC := aC.gr aZ (fun k hk e => by have := Sx_base hk; injection e; omega); have fH := cC.gr aZ (fun k hk e => by have := Sx_base hk; injection e; omega); clear cC; replace aG := aG.gb aZ (by omega); clear aO aZ
 refine At.done rfl ?_
 refine t_n ?_
 have fI := eO.sub (r := [(2, .pointer (some ⟨w1.heap.size, 0, none⟩))]) ⟨rfl, trivial⟩; clear eO
 refine wp_ret ?_
 refine ret_ fI [[.slice aD xa.length aF, .slice aB xp.length aE, .slice aH g.mv.length aJ]] [.agg #[.slice aD xa.length aF, .slice aB xp.length aE, .slice aH g.mv.length aJ]] [(cK.cell? ⟨w1.heap.size, 0, none⟩ = some (.slice aD xa.length aF)), (cK.cell? ⟨w1.heap.size, 1, none⟩ = some (.slice aB xp.length aE)), (cK.cell? ⟨w1.heap.size, 2, none⟩ = some (.slice aH g.mv.length aJ))] (by kernel_rfl) ⟨(bX.cell (i := 0) rfl), (bX.cell (i := 1) rfl), (bX.cell (i := 2) rfl), trivial⟩ ?_
 rw [dual_yes hR hno, ← map_end hxa (by omega), ← map_end hxp (by omega)]
 exact ⟨aD, aF, aB, aE, aH, aJ, rfl, aL, (aM.imp (fun g _ hs => ⟨hs.2.1, hs.2.2.1, (by have := Sx_base hs; show w.heap.size ≤ g; omega)⟩)), (aC.imp (fun g _ hs => ⟨hs.2.1, hs.2.2.1, (by have := Sx_base hs; show w.heap.size ≤ g; omega)⟩)), (fH.imp (fun g _ hs => ⟨hs.2.1, hs.2.2.1, (by have := Sx_base hs; show w.heap.size ≤ g; omega)⟩))⟩

end Go.Proofs.YtplpgfcjjnaigaaDoor
