/-
  A walk of a Go function, printed by a program of this repo. Conditions: what the theorems name.
-/
import Derived.Test.YtklbpajmoklheaaPureWork
import Derived.Test.YtklbpajmoklheaaWBest
import Derived.Test.YtklbpajmoklheaaWIs
import Derived.Test.YtklbpajmoklheaaFs
set_option linter.unusedVariables false
set_option linter.unusedSimpArgs false
namespace Go.Proofs.Ytklbpajmoklheaa
open Go Go.RowKit

set_option maxHeartbeats 4000000 in
theorem solveM_any {Ag0 Ag1 Ag2 : Option Addr} {cg0 cg1 cg2 : Nat} {g : GameL} {w : World} (rg : RdG w 0 w.heap.size Ag0 Ag1 Ag2 cg0 cg1 cg2 g) (hsm : g.ow.length ≤ 1000000000000) :
    Calls Try.prog 28 #[.agg #[.slice Ag0 g.ow.length cg0, .slice Ag1 g.pr.length cg1, .slice Ag2 g.mv.length cg2]] w fun e w' => ∃ A c l, e = .returned (.slice A l.length c) ∧ Ext w w' ∧ OwnR w' (Sx w.heap.size []) A c 41 (l : List Tup) ∧ SolvedT g l := by
 have hlg0 := rg.ow.len; have hlg1 := rg.pr.len; have hlg2 := rg.mv.len; have hkg0 := rg.k0; have hkg1 := rg.k1; have hkg2 := rg.k2
 refine enter_ (args := [.agg #[.slice Ag0 g.ow.length cg0, .slice Ag1 g.pr.length cg1, .slice Ag2 g.mv.length cg2]]) Try.func28 rfl Try.ntmps28 (Nat.le_of_ble_eq_true rfl) (fun act0 f0 => ?_)
 have e0 : Ext w w := Ext.refl w
 refine wp_seq ?_
 refine At.start ?_
 refine At.seq f0 1 [[]] [(1, .pointer (some ⟨w.heap.size, 0, none⟩))] (w.alloc (.cells #[.slice Ag0 g.ow.length cg0, .slice Ag1 g.pr.length cg1, .slice Ag2 g.mv.length cg2] 25 (0, 0))) [] (by kernel_rfl) trivial (fun act4 w1 hw2 f3 => ?_)
 clear f0; have g5 := gr_alloc hw2; have := g5.size; replace e0 := e0.gn g5; have r8 := rg.gn g5; clear rg; have bx9 : Bx w1 (w.heap.size) [.slice Ag0 g.ow.length cg0, .slice Ag1 g.pr.length cg1, .slice Ag2 g.mv.length cg2] 25 := Bx.new hw2; have := bx9.lt; clear g5 hw2
 refine At.rd f3 1 [[]] [(2, .slice none 0 0)] [] (by kernel_rfl) trivial (fun mZ gC => ?_)
 clear f3
 refine At.done rfl ?_
 refine t_n ?_
 have gD := gC.sub (r := [(2, .slice none 0 0), (1, .pointer (some ⟨w.heap.size, 0, none⟩))]) ⟨rfl, rfl, trivial⟩; clear gC
 refine wp_seq ?_
 refine At.start ?_
 refine At.rd gD 3 [[], [.ld (.slice Ag0 g.ow.length cg0)], []] [(19, .int .i64 (((g.ow.length : Nat) : Int))), (18, .slice Ag0 g.ow.length cg0), (17, .pointer (some ⟨w.heap.size, 0, none⟩))] [(w1.cell? ⟨w.heap.size, 0, none⟩ = some (.slice Ag0 g.ow.length cg0))] (by kernel_rfl) ⟨(bx9.cell (i := 0) rfl), trivial⟩ (fun nA gE => ?_)
 clear gD
 refine At.act gE (makeR (k1 := .i64) (k2 := .i64) (α := Tup) (e := 41) (bytes := 40) (t := 46) (d := 20) (n := ((g.ow.length : Nat) : Int)) (cap := ((g.ow.length : Nat) : Int)) ((⟨false, 0, 0, 0, 0⟩ : Tup)) (by kernel_rfl) rfl (by kernel_rfl) (by omega) (by omega) (by omega) (by omega)) ?_
 rintro d_ v_ fF ⟨rfl, rfl, dW, dX⟩
 refine ⟨_, rfl, fun nB gF => ?_⟩
 clear gE; replace dX := dX (Sx (w1.heap.size) []) (Nat.le_refl _); have := dW.size; replace e0 := e0.gn dW; replace r8 := r8.gn dW; replace bx9 := bx9.gn dW; clear dW
 have : (List.replicate (((g.ow.length : Nat) : Int) : Int).toNat ((⟨false, 0, 0, 0, 0⟩ : Tup) : Tup)).length = (((g.ow.length : Nat) : Int) : Int).toNat := List.length_replicate
 refine At.rd gF 1 [[]] [(3, .slice (some ⟨w1.heap.size, 0, none⟩) ((List.replicate (((g.ow.length : Nat) : Int) : Int).toNat ((⟨false, 0, 0, 0, 0⟩ : Tup) : Tup)).length) ((((g.ow.length : Nat) : Int) : Int).toNat))] [] (by kernel_rfl) trivial (fun nC gG => ?_)
 clear gF
 refine At.done rfl ?_
 refine t_n ?_
 have gH := gG.sub (r := [(3, .slice (some ⟨w1.heap.size, 0, none⟩) ((List.replicate (((g.ow.length : Nat) : Int) : Int).toNat ((⟨false, 0, 0, 0, 0⟩ : Tup) : Tup)).length) ((((g.ow.length : Nat) : Int) : Int).toNat)), (2, .slice none 0 0), (1, .pointer (some ⟨w.heap.size, 0, none⟩))]) ⟨rfl, rfl, rfl, trivial⟩
 clear gG
 refine wp_seq ?_
 refine wp_seq ?_
 refine At.start ?_
 refine At.rd gH 2 [[.ld (.slice Ag0 g.ow.length cg0), .ld (.slice Ag1 g.pr.length cg1), .ld (.slice Ag2 g.mv.length cg2)], []] [(22, .slice (some ⟨w1.heap.size, 0, none⟩) ((List.replicate (((g.ow.length : Nat) : Int) : Int).toNat ((⟨false, 0, 0, 0, 0⟩ : Tup) : Tup)).length) ((((g.ow.length : Nat) : Int) : Int).toNat)), (21, .agg #[.slice Ag0 g.ow.length cg0, .slice Ag1 g.pr.length cg1, .slice Ag2 g.mv.length cg2])] [(fF.cell? ⟨w.heap.size, 0, none⟩ = some (.slice Ag0 g.ow.length cg0)), (fF.cell? ⟨w.heap.size, 1, none⟩ = some (.slice Ag1 g.pr.length cg1)), (fF.cell? ⟨w.heap.size, 2, none⟩ = some (.slice Ag2 g.mv.length cg2))] (by kernel_rfl) ⟨(bx9.cell (i := 0) rfl), (bx9.cell (i := 1) rfl), (bx9.cell (i := 2) rfl), trivial⟩ (fun nD gJ => ?_)
 clear gH
 refine At.call gJ 45 #[.agg #[.slice Ag0 g.ow.length cg0, .slice Ag1 g.pr.length cg1, .slice Ag2 g.mv.length cg2], .slice (some ⟨w1.heap.size, 0, none⟩) ((List.replicate (((g.ow.length : Nat) : Int) : Int).toNat ((⟨false, 0, 0, 0, 0⟩ : Tup) : Tup)).length) ((((g.ow.length : Nat) : Int) : Int).toNat)] (some 23) (by kernel_rfl) (rightM_any (ls := List.replicate (((g.ow.length : Nat) : Int) : Int).toNat ((⟨false, 0, 0, 0, 0⟩ : Tup) : Tup)) (r8.wide (Nat.zero_le _) (by omega)) ((dX.rdR (by simp only [Enc.bytes]; omega)).wide (Nat.zero_le _) (by omega))) ?_
 rintro e_ fG ⟨rfl, he⟩
 refine ⟨_, rfl, _, rfl, fun nE gK => ?_⟩
 clear gJ; have dQ := gr_ext he; have := dQ.size; replace e0 := e0.gn dQ; replace r8 := r8.gn dQ; replace bx9 := bx9.gn dQ; have bC := dX.gn dQ; clear dX; clear dQ he
 refine At.rd gK 1 [[]] [(24, .bool (!(isR g && decide ((List.replicate (((g.ow.length : Nat) : Int) : Int).toNat ((⟨false, 0, 0, 0, 0⟩ : Tup) : Tup)).length = g.ow.length))))] [] (by kernel_rfl) trivial (fun nF gM => ?_)
 clear gK
 refine At.done rfl ?_
 refine t_n ?_
 have dY := gM.sub (r := [(24, .bool (!(isR g && decide ((List.replicate (((g.ow.length : Nat) : Int) : Int).toNat ((⟨false, 0, 0, 0, 0⟩ : Tup) : Tup)).length = g.ow.length)))), (3, .slice (some ⟨w1.heap.size, 0, none⟩) ((List.replicate (((g.ow.length : Nat) : Int) : Int).toNat ((⟨false, 0, 0, 0, 0⟩ : Tup) : Tup)).length) ((((g.ow.length : Nat) : Int) : Int).toNat)), (2, .slice none 0 0), (1, .pointer (some ⟨w.heap.size, 0, none⟩))]) ⟨rfl, rfl, rfl, rfl, trivial⟩
 clear gM
 refine cond_S dY (t := !(isR g && decide ((List.replicate (((g.ow.length : Nat) : Int) : Int).toNat ((⟨false, 0, 0, 0, 0⟩ : Tup) : Tup)).length = g.ow.length))) rfl (fun dK => ?_) (fun dK => ?_)
 ·have nG : (isR g && decide ((List.replicate (((g.ow.length : Nat) : Int) : Int).toNat ((⟨false, 0, 0, 0, 0⟩ : Tup) : Tup)).length = g.ow.length)) = false := by first | exact Eq.mp (Bool.not_eq_true' _) dK | exact Eq.mp (Bool.not_eq_false' _) dK | simpa using dK
  refine wp_seq ?_
  have hR : isR g = false := right_no2 (by assumption) List.length_replicate
  refine At.start ?_
  refine At.rd dY 1 [[]] [(2, .slice none 0 0)] [] (by kernel_rfl) trivial (fun nH gN => ?_)
  clear dY
  refine At.done rfl ?_
  refine t_n ?_
  have lL := gN.sub (r := [(2, .slice none 0 0)]) ⟨rfl, trivial⟩; clear gN
  refine wp_ret ?_
  refine t_r ?_
  refine ret_ lL [] [.slice none 0 0] [] (by kernel_rfl) trivial ?_
  exact ⟨none, 0, [], rfl, e0, OwnR.nil, .inl ⟨by assumption, rfl⟩⟩
 have nI : (isR g && decide ((List.replicate (((g.ow.length : Nat) : Int) : Int).toNat ((⟨false, 0, 0, 0, 0⟩ : Tup) : Tup)).length = g.ow.length)) = true := by first | exact Eq.mp (Bool.not_eq_true' _) dK | exact Eq.mp (Bool.not_eq_false' _) dK | simpa using dK
 refine wp_skip ?_
 refine t_n ?_
 have gO := dY.sub (r := [(3, .slice (some ⟨w1.heap.size, 0, none⟩) ((List.replicate (((g.ow.length : Nat) : Int) : Int).toNat ((⟨false, 0, 0, 0, 0⟩ : Tup) : Tup)).length) ((((g.ow.length : Nat) : Int) : Int).toNat)), (2, .slice none 0 0), (1, .pointer (some ⟨w.heap.size, 0, none⟩))]) ⟨rfl, rfl, rfl, trivial⟩
 clear dY
 refine wp_seq ?_
 have hR : isR g = true := right_yes2 (by assumption); have hG := isR_ok hR; have hn1 := hG.n1; have hpl := hG.pl; have hml := hG.ml
 refine At.start ?_
 refine At.rd gO 1 [[.ld (.slice Ag0 g.ow.length cg0), .ld (.slice Ag1 g.pr.length cg1), .ld (.slice Ag2 g.mv.length cg2)]] [(25, .agg #[.slice Ag0 g.ow.length cg0, .slice Ag1 g.pr.length cg1, .slice Ag2 g.mv.length cg2])] [(fG.cell? ⟨w.heap.size, 0, none⟩ = some (.slice Ag0 g.ow.length cg0)), (fG.cell? ⟨w.heap.size, 1, none⟩ = some (.slice Ag1 g.pr.length cg1)), (fG.cell? ⟨w.heap.size, 2, none⟩ = some (.slice Ag2 g.mv.length cg2))] (by kernel_rfl) ⟨(bx9.cell (i := 0) rfl), (bx9.cell (i := 1) rfl), (bx9.cell (i := 2) rfl), trivial⟩ (fun nJ gP => ?_)
 clear gO
 refine At.call gP 46 #[.agg #[.slice Ag0 g.ow.length cg0, .slice Ag1 g.pr.length cg1, .slice Ag2 g.mv.length cg2]] (some 26) (by kernel_rfl) (counts_any (r8.wide (Nat.zero_le _) (by omega))) ?_
 rintro e_ aA ⟨rfl, he⟩
 refine ⟨_, rfl, _, rfl, fun nK gQ => ?_⟩
 clear gP; have dR := gr_ext he; have := dR.size; replace e0 := e0.gn dR; replace r8 := r8.gn dR; replace bx9 := bx9.gn dR; replace bC := bC.gn dR; clear dR he
 refine At.seq gQ 1 [[]] [(4, .pointer (some ⟨aA.heap.size, 0, none⟩))] (aA.alloc (.cells #[.int .i64 (0), .int .i64 (0), .int .i64 (0), .int .i64 (0)] 38 (0, 0))) [] (by kernel_rfl) trivial (fun nL lM fH gR => ?_)
 clear gQ; have dS := gr_alloc fH; have := dS.size; replace e0 := e0.gn dS; replace r8 := r8.gn dS; replace bx9 := bx9.gn dS; replace bC := bC.grN dS; have fI : Bx lM (aA.heap.size) [.int .i64 (0), .int .i64 (0), .int .i64 (0), .int .i64 (0)] 38 := Bx.new fH; have := fI.lt; clear dS fH
 refine At.store gR (t := 38) (b := aA.heap.size) (off := 0) (v := .agg #[.int .i64 (cnt g.pr 1), .int .i64 (cnt g.pr 3), .int .i64 (cnt g.pr 5), .int .i64 (cnt g.pr 7)]) (by kernel_rfl) fI (by kernel_rfl) (fun nM aF dT cA gS => ?_)
 clear gR; replace cA : Bx aF (aA.heap.size) [.int .i64 (cnt g.pr 1), .int .i64 (cnt g.pr 3), .int .i64 (cnt g.pr 5), .int .i64 (cnt g.pr 7)] 38 := cA; have := dT.size; replace e0 := e0.gr dT (fun k h => by injection h; omega); replace r8 := r8.gb dT (by omega); replace bx9 := bx9.gb dT (by omega); replace bC := bC.gr dT (fun k hk => hk.1); clear fI dT
 refine At.done rfl ?_
 refine t_n ?_
 have gU := gS.sub (r := [(4, .pointer (some ⟨aA.heap.size, 0, none⟩)), (3, .slice (some ⟨w1.heap.size, 0, none⟩) ((List.replicate (((g.ow.length : Nat) : Int) : Int).toNat ((⟨false, 0, 0, 0, 0⟩ : Tup) : Tup)).length) ((((g.ow.length : Nat) : Int) : Int).toNat)), (2, .slice none 0 0), (1, .pointer (some ⟨w.heap.size, 0, none⟩))]) ⟨rfl, rfl, rfl, rfl, trivial⟩
 clear gS
 refine wp_seq ?_
 refine At.start ?_
 refine At.rd gU 2 [[], []] [(28, .int .i64 ((((List.replicate (((g.ow.length : Nat) : Int) : Int).toNat ((⟨false, 0, 0, 0, 0⟩ : Tup) : Tup)).length : Nat) : Int))), (27, .slice (some ⟨w1.heap.size, 0, none⟩) ((List.replicate (((g.ow.length : Nat) : Int) : Int).toNat ((⟨false, 0, 0, 0, 0⟩ : Tup) : Tup)).length) ((((g.ow.length : Nat) : Int) : Int).toNat))] [] (by kernel_rfl) trivial (fun nN gV => ?_)
 clear gU
 refine At.act gV (makeR (k1 := .i64) (k2 := .i64) (α := SliceV) (e := 22) (bytes := 24) (t := 23) (d := 29) (n := (((List.replicate (((g.ow.length : Nat) : Int) : Int).toNat ((⟨false, 0, 0, 0, 0⟩ : Tup) : Tup)).length : Nat) : Int)) (cap := (((List.replicate (((g.ow.length : Nat) : Int) : Int).toNat ((⟨false, 0, 0, 0, 0⟩ : Tup) : Tup)).length : Nat) : Int)) ((⟨none, 0, 0⟩ : SliceV)) (by kernel_rfl) rfl (by kernel_rfl) (by omega) (by omega) (by omega) (by omega)) ?_
 rintro d_ v_ aL ⟨rfl, rfl, dL, fJ⟩
 refine ⟨_, rfl, fun nO gW => ?_⟩
 clear gV; replace fJ := fJ (Sx (aF.heap.size) [obk (some ⟨w1.heap.size, 0, none⟩)]) ⟨bC.ne_new, (Nat.le_refl _)⟩; have := dL.size; replace e0 := e0.gn dL; replace r8 := r8.gn dL; replace bx9 := bx9.gn dL
 replace bC : OwnR aL (Sx (w1.heap.size) [obk (some ⟨aF.heap.size, 0, none⟩), some (aA.heap.size)]) (some ⟨w1.heap.size, 0, none⟩) ((((g.ow.length : Nat) : Int) : Int).toNat) 41 (List.replicate (((g.ow.length : Nat) : Int) : Int).toNat ((⟨false, 0, 0, 0, 0⟩ : Tup) : Tup) : List Tup) := bC.grA dL (fun _ _ h => by cases h) (fun k hk hs => ⟨(fun e => by simp only [obk, Option.map_some] at e; injection e; omega), hs.1, hs.2⟩)
 replace cA := cA.gn dL; clear dL
 have : (List.replicate ((((List.replicate (((g.ow.length : Nat) : Int) : Int).toNat ((⟨false, 0, 0, 0, 0⟩ : Tup) : Tup)).length : Nat) : Int) : Int).toNat ((⟨none, 0, 0⟩ : SliceV) : SliceV)).length = ((((List.replicate (((g.ow.length : Nat) : Int) : Int).toNat ((⟨false, 0, 0, 0, 0⟩ : Tup) : Tup)).length : Nat) : Int) : Int).toNat := List.length_replicate
 have fK : OwnLL aL (aF.heap.size) [obk (some ⟨w1.heap.size, 0, none⟩)] (some ⟨aF.heap.size, 0, none⟩) (((((List.replicate (((g.ow.length : Nat) : Int) : Int).toNat ((⟨false, 0, 0, 0, 0⟩ : Tup) : Tup)).length : Nat) : Int) : Int).toNat) 22 3 (List.replicate ((((List.replicate (((g.ow.length : Nat) : Int) : Int).toNat ((⟨false, 0, 0, 0, 0⟩ : Tup) : Tup)).length : Nat) : Int) : Int).toNat ([] : List Int) : List (List Int)) := fJ.ll
 have : (List.replicate ((((List.replicate (((g.ow.length : Nat) : Int) : Int).toNat ((⟨false, 0, 0, 0, 0⟩ : Tup) : Tup)).length : Nat) : Int) : Int).toNat ([] : List Int)).length = ((((List.replicate (((g.ow.length : Nat) : Int) : Int).toNat ((⟨false, 0, 0, 0, 0⟩ : Tup) : Tup)).length : Nat) : Int) : Int).toNat := List.length_replicate
 refine At.rd gW 1 [[]] [(5, .slice (some ⟨aF.heap.size, 0, none⟩) ((List.replicate ((((List.replicate (((g.ow.length : Nat) : Int) : Int).toNat ((⟨false, 0, 0, 0, 0⟩ : Tup) : Tup)).length : Nat) : Int) : Int).toNat ((⟨none, 0, 0⟩ : SliceV) : SliceV)).length) (((((List.replicate (((g.ow.length : Nat) : Int) : Int).toNat ((⟨false, 0, 0, 0, 0⟩ : Tup) : Tup)).length : Nat) : Int) : Int).toNat))] [] (by kernel_rfl) trivial (fun nP gX => ?_)
 clear gW
 refine At.done rfl ?_
 refine t_n ?_
 have gY := gX.sub (r := [(5, .slice (some ⟨aF.heap.size, 0, none⟩) ((List.replicate ((((List.replicate (((g.ow.length : Nat) : Int) : Int).toNat ((⟨false, 0, 0, 0, 0⟩ : Tup) : Tup)).length : Nat) : Int) : Int).toNat ((⟨none, 0, 0⟩ : SliceV) : SliceV)).length) (((((List.replicate (((g.ow.length : Nat) : Int) : Int).toNat ((⟨false, 0, 0, 0, 0⟩ : Tup) : Tup)).length : Nat) : Int) : Int).toNat)), (4, .pointer (some ⟨aA.heap.size, 0, none⟩)), (3, .slice (some ⟨w1.heap.size, 0, none⟩) ((List.replicate (((g.ow.length : Nat) : Int) : Int).toNat ((⟨false, 0, 0, 0, 0⟩ : Tup) : Tup)).length) ((((g.ow.length : Nat) : Int) : Int).toNat)), (2, .slice none 0 0), (1, .pointer (some ⟨w.heap.size, 0, none⟩))]) ⟨rfl, rfl, rfl, rfl, rfl, trivial⟩
 clear gX
 refine wp_seq ?_
 refine At.start ?_
 refine At.rd gY 2 [[], []] [(31, .int .i64 ((((List.replicate (((g.ow.length : Nat) : Int) : Int).toNat ((⟨false, 0, 0, 0, 0⟩ : Tup) : Tup)).length : Nat) : Int))), (30, .slice (some ⟨w1.heap.size, 0, none⟩) ((List.replicate (((g.ow.length : Nat) : Int) : Int).toNat ((⟨false, 0, 0, 0, 0⟩ : Tup) : Tup)).length) ((((g.ow.length : Nat) : Int) : Int).toNat))] [] (by kernel_rfl) trivial (fun nQ gZ => ?_)
 clear gY
 refine At.act gZ (makeR (k1 := .i64) (k2 := .i64) (α := Int) (e := 3) (bytes := 8) (t := 22) (d := 32) (n := (((List.replicate (((g.ow.length : Nat) : Int) : Int).toNat ((⟨false, 0, 0, 0, 0⟩ : Tup) : Tup)).length : Nat) : Int)) (cap := (((List.replicate (((g.ow.length : Nat) : Int) : Int).toNat ((⟨false, 0, 0, 0, 0⟩ : Tup) : Tup)).length : Nat) : Int)) (0) (by kernel_rfl) rfl (by kernel_rfl) (by omega) (by omega) (by omega) (by omega)) ?_
 rintro d_ v_ aT ⟨rfl, rfl, dE, dZ⟩
 refine ⟨_, rfl, fun nR hA => ?_⟩
 clear gZ; replace dZ := dZ (Sx (aL.heap.size) [obk (some ⟨w1.heap.size, 0, none⟩), obk (some ⟨aF.heap.size, 0, none⟩)]) ⟨bC.ne_new, fK.ne_new, (Nat.le_refl _)⟩; have := dE.size; replace e0 := e0.gn dE; replace r8 := r8.gn dE; replace bx9 := bx9.gn dE
 replace bC : OwnR aT (Sx (w1.heap.size) [obk (some ⟨aL.heap.size, 0, none⟩), obk (some ⟨aF.heap.size, 0, none⟩), some (aA.heap.size)]) (some ⟨w1.heap.size, 0, none⟩) ((((g.ow.length : Nat) : Int) : Int).toNat) 41 (List.replicate (((g.ow.length : Nat) : Int) : Int).toNat ((⟨false, 0, 0, 0, 0⟩ : Tup) : Tup) : List Tup) := bC.grA dE (fun _ _ h => by cases h) (fun k hk hs => ⟨(fun e => by simp only [obk, Option.map_some] at e; injection e; omega), hs.1, hs.2.1, hs.2.2⟩)
 replace cA := cA.gn dE
 have eA : OwnLL aT (aF.heap.size) [obk (some ⟨aL.heap.size, 0, none⟩), obk (some ⟨w1.heap.size, 0, none⟩)] (some ⟨aF.heap.size, 0, none⟩) (((((List.replicate (((g.ow.length : Nat) : Int) : Int).toNat ((⟨false, 0, 0, 0, 0⟩ : Tup) : Tup)).length : Nat) : Int) : Int).toNat) 22 3 (List.replicate ((((List.replicate (((g.ow.length : Nat) : Int) : Int).toNat ((⟨false, 0, 0, 0, 0⟩ : Tup) : Tup)).length : Nat) : Int) : Int).toNat ([] : List Int) : List (List Int)) := fK.grA dE (fun _ _ h => by cases h) (fun k hk hs => ⟨(fun e => by simp only [obk, Option.map_some] at e; injection e; omega), hs.1, hs.2⟩)
 clear fK; clear dE
 have : (List.replicate ((((List.replicate (((g.ow.length : Nat) : Int) : Int).toNat ((⟨false, 0, 0, 0, 0⟩ : Tup) : Tup)).length : Nat) : Int) : Int).toNat (0 : Int)).length = ((((List.replicate (((g.ow.length : Nat) : Int) : Int).toNat ((⟨false, 0, 0, 0, 0⟩ : Tup) : Tup)).length : Nat) : Int) : Int).toNat := List.length_replicate
 refine At.rd hA 1 [[]] [(6, .slice (some ⟨aL.heap.size, 0, none⟩) ((List.replicate ((((List.replicate (((g.ow.length : Nat) : Int) : Int).toNat ((⟨false, 0, 0, 0, 0⟩ : Tup) : Tup)).length : Nat) : Int) : Int).toNat (0 : Int)).length) (((((List.replicate (((g.ow.length : Nat) : Int) : Int).toNat ((⟨false, 0, 0, 0, 0⟩ : Tup) : Tup)).length : Nat) : Int) : Int).toNat))] [] (by kernel_rfl) trivial (fun nS hB => ?_)
 clear hA
 refine At.done rfl ?_
 refine t_n ?_
 have hC := hB.sub (r := [(6, .slice (some ⟨aL.heap.size, 0, none⟩) ((List.replicate ((((List.replicate (((g.ow.length : Nat) : Int) : Int).toNat ((⟨false, 0, 0, 0, 0⟩ : Tup) : Tup)).length : Nat) : Int) : Int).toNat (0 : Int)).length) (((((List.replicate (((g.ow.length : Nat) : Int) : Int).toNat ((⟨false, 0, 0, 0, 0⟩ : Tup) : Tup)).length : Nat) : Int) : Int).toNat)), (5, .slice (some ⟨aF.heap.size, 0, none⟩) ((List.replicate ((((List.replicate (((g.ow.length : Nat) : Int) : Int).toNat ((⟨false, 0, 0, 0, 0⟩ : Tup) : Tup)).length : Nat) : Int) : Int).toNat ((⟨none, 0, 0⟩ : SliceV) : SliceV)).length) (((((List.replicate (((g.ow.length : Nat) : Int) : Int).toNat ((⟨false, 0, 0, 0, 0⟩ : Tup) : Tup)).length : Nat) : Int) : Int).toNat)), (4, .pointer (some ⟨aA.heap.size, 0, none⟩)), (3, .slice (some ⟨w1.heap.size, 0, none⟩) ((List.replicate (((g.ow.length : Nat) : Int) : Int).toNat ((⟨false, 0, 0, 0, 0⟩ : Tup) : Tup)).length) ((((g.ow.length : Nat) : Int) : Int).toNat)), (2, .slice none 0 0), (1, .pointer (some ⟨w.heap.size, 0, none⟩))]) ⟨rfl, rfl, rfl, rfl, rfl, rfl, trivial⟩
 clear hB
 refine wp_seq ?_
 refine At.start ?_
 refine At.rd hC 2 [[], []] [(34, .int .i64 ((((List.replicate (((g.ow.length : Nat) : Int) : Int).toNat ((⟨false, 0, 0, 0, 0⟩ : Tup) : Tup)).length : Nat) : Int))), (33, .slice (some ⟨w1.heap.size, 0, none⟩) ((List.replicate (((g.ow.length : Nat) : Int) : Int).toNat ((⟨false, 0, 0, 0, 0⟩ : Tup) : Tup)).length) ((((g.ow.length : Nat) : Int) : Int).toNat))] [] (by kernel_rfl) trivial (fun nT hD => ?_)
 clear hC
 refine At.act hD (makeR (k1 := .i64) (k2 := .i64) (α := Bool) (e := 4) (bytes := 1) (t := 83) (d := 35) (n := (((List.replicate (((g.ow.length : Nat) : Int) : Int).toNat ((⟨false, 0, 0, 0, 0⟩ : Tup) : Tup)).length : Nat) : Int)) (cap := (((List.replicate (((g.ow.length : Nat) : Int) : Int).toNat ((⟨false, 0, 0, 0, 0⟩ : Tup) : Tup)).length : Nat) : Int)) (false) (by kernel_rfl) rfl (by kernel_rfl) (by omega) (by omega) (by omega) (by omega)) ?_
 rintro d_ v_ eK ⟨rfl, rfl, cO, eL⟩
 refine ⟨_, rfl, fun nU hE => ?_⟩
 clear hD
 replace eL := eL (Sx (aT.heap.size) [obk (some ⟨w1.heap.size, 0, none⟩), obk (some ⟨aF.heap.size, 0, none⟩), obk (some ⟨aL.heap.size, 0, none⟩)]) ⟨bC.ne_new, eA.ne_new, dZ.ne_new, (Nat.le_refl _)⟩
 have := cO.size; replace e0 := e0.gn cO; replace r8 := r8.gn cO; replace bx9 := bx9.gn cO
 replace bC : OwnR eK (Sx (w1.heap.size) [obk (some ⟨aT.heap.size, 0, none⟩), obk (some ⟨aL.heap.size, 0, none⟩), obk (some ⟨aF.heap.size, 0, none⟩), some (aA.heap.size)]) (some ⟨w1.heap.size, 0, none⟩) ((((g.ow.length : Nat) : Int) : Int).toNat) 41 (List.replicate (((g.ow.length : Nat) : Int) : Int).toNat ((⟨false, 0, 0, 0, 0⟩ : Tup) : Tup) : List Tup) := bC.grA cO (fun _ _ h => by cases h) (fun k hk hs => ⟨(fun e => by simp only [obk, Option.map_some] at e; injection e; omega), hs.1, hs.2.1, hs.2.2.1, hs.2.2.2⟩)
 replace cA := cA.gn cO
 replace eA : OwnLL eK (aF.heap.size) [obk (some ⟨aT.heap.size, 0, none⟩), obk (some ⟨aL.heap.size, 0, none⟩), obk (some ⟨w1.heap.size, 0, none⟩)] (some ⟨aF.heap.size, 0, none⟩) (((((List.replicate (((g.ow.length : Nat) : Int) : Int).toNat ((⟨false, 0, 0, 0, 0⟩ : Tup) : Tup)).length : Nat) : Int) : Int).toNat) 22 3 (List.replicate ((((List.replicate (((g.ow.length : Nat) : Int) : Int).toNat ((⟨false, 0, 0, 0, 0⟩ : Tup) : Tup)).length : Nat) : Int) : Int).toNat ([] : List Int) : List (List Int)) := eA.grA cO (fun _ _ h => by cases h) (fun k hk hs => ⟨(fun e => by simp only [obk, Option.map_some] at e; injection e; omega), hs.1, hs.2.1, hs.2.2⟩)
 have hF : OwnR eK (Sx (aL.heap.size) [obk (some ⟨aT.heap.size, 0, none⟩), obk (some ⟨w1.heap.size, 0, none⟩), obk (some ⟨aF.heap.size, 0, none⟩)]) (some ⟨aL.heap.size, 0, none⟩) (((((List.replicate (((g.ow.length : Nat) : Int) : Int).toNat ((⟨false, 0, 0, 0, 0⟩ : Tup) : Tup)).length : Nat) : Int) : Int).toNat) 3 (List.replicate ((((List.replicate (((g.ow.length : Nat) : Int) : Int).toNat ((⟨false, 0, 0, 0, 0⟩ : Tup) : Tup)).length : Nat) : Int) : Int).toNat (0 : Int) : List Int) := dZ.grA cO (fun _ _ h => by cases h) (fun k hk hs => ⟨(fun e => by simp only [obk, Option.map_some] at e; injection e; omega), hs.1, hs.2.1, hs.2.2⟩)
 clear dZ; clear cO
 have : (List.replicate ((((List.replicate (((g.ow.length : Nat) : Int) : Int).toNat ((⟨false, 0, 0, 0, 0⟩ : Tup) : Tup)).length : Nat) : Int) : Int).toNat (false : Bool)).length = ((((List.replicate (((g.ow.length : Nat) : Int) : Int).toNat ((⟨false, 0, 0, 0, 0⟩ : Tup) : Tup)).length : Nat) : Int) : Int).toNat := List.length_replicate
 refine At.rd hE 1 [[]] [(7, .slice (some ⟨aT.heap.size, 0, none⟩) ((List.replicate ((((List.replicate (((g.ow.length : Nat) : Int) : Int).toNat ((⟨false, 0, 0, 0, 0⟩ : Tup) : Tup)).length : Nat) : Int) : Int).toNat (false : Bool)).length) (((((List.replicate (((g.ow.length : Nat) : Int) : Int).toNat ((⟨false, 0, 0, 0, 0⟩ : Tup) : Tup)).length : Nat) : Int) : Int).toNat))] [] (by kernel_rfl) trivial (fun nV hH => ?_)
 clear hE
 refine At.done rfl ?_
 refine t_n ?_
 have hI := hH.sub (r := [(7, .slice (some ⟨aT.heap.size, 0, none⟩) ((List.replicate ((((List.replicate (((g.ow.length : Nat) : Int) : Int).toNat ((⟨false, 0, 0, 0, 0⟩ : Tup) : Tup)).length : Nat) : Int) : Int).toNat (false : Bool)).length) (((((List.replicate (((g.ow.length : Nat) : Int) : Int).toNat ((⟨false, 0, 0, 0, 0⟩ : Tup) : Tup)).length : Nat) : Int) : Int).toNat)), (6, .slice (some ⟨aL.heap.size, 0, none⟩) ((List.replicate ((((List.replicate (((g.ow.length : Nat) : Int) : Int).toNat ((⟨false, 0, 0, 0, 0⟩ : Tup) : Tup)).length : Nat) : Int) : Int).toNat (0 : Int)).length) (((((List.replicate (((g.ow.length : Nat) : Int) : Int).toNat ((⟨false, 0, 0, 0, 0⟩ : Tup) : Tup)).length : Nat) : Int) : Int).toNat)), (5, .slice (some ⟨aF.heap.size, 0, none⟩) ((List.replicate ((((List.replicate (((g.ow.length : Nat) : Int) : Int).toNat ((⟨false, 0, 0, 0, 0⟩ : Tup) : Tup)).length : Nat) : Int) : Int).toNat ((⟨none, 0, 0⟩ : SliceV) : SliceV)).length) (((((List.replicate (((g.ow.length : Nat) : Int) : Int).toNat ((⟨false, 0, 0, 0, 0⟩ : Tup) : Tup)).length : Nat) : Int) : Int).toNat)), (4, .pointer (some ⟨aA.heap.size, 0, none⟩)), (3, .slice (some ⟨w1.heap.size, 0, none⟩) ((List.replicate (((g.ow.length : Nat) : Int) : Int).toNat ((⟨false, 0, 0, 0, 0⟩ : Tup) : Tup)).length) ((((g.ow.length : Nat) : Int) : Int).toNat)), (2, .slice none 0 0), (1, .pointer (some ⟨w.heap.size, 0, none⟩))]) ⟨rfl, rfl, rfl, rfl, rfl, rfl, rfl, trivial⟩
 clear hH
 refine wp_seq ?_
 refine wp_seq ?_
 refine At.start ?_
 refine At.rd hI 4 [[], [.ld (.slice Ag2 g.mv.length cg2)], [], []] [(39, .int .i64 (0)), (38, .int .i64 (((g.mv.length : Nat) : Int))), (37, .slice Ag2 g.mv.length cg2), (36, .pointer (some ⟨w.heap.size, 2, none⟩))] [(eK.cell? ⟨w.heap.size, 2, none⟩ = some (.slice Ag2 g.mv.length cg2))] (by kernel_rfl) ⟨(bx9.cell (i := 2) rfl), trivial⟩ (fun nW hJ => ?_)
 clear hI
 refine At.done rfl ?_
 refine t_n ?_
 have hK := hJ.sub (r := [(39, .int .i64 (0)), (38, .int .i64 (((g.mv.length : Nat) : Int))), (37, .slice Ag2 g.mv.length cg2), (7, .slice (some ⟨aT.heap.size, 0, none⟩) ((List.replicate ((((List.replicate (((g.ow.length : Nat) : Int) : Int).toNat ((⟨false, 0, 0, 0, 0⟩ : Tup) : Tup)).length : Nat) : Int) : Int).toNat (false : Bool)).length) (((((List.replicate (((g.ow.length : Nat) : Int) : Int).toNat ((⟨false, 0, 0, 0, 0⟩ : Tup) : Tup)).length : Nat) : Int) : Int).toNat)), (6, .slice (some ⟨aL.heap.size, 0, none⟩) ((List.replicate ((((List.replicate (((g.ow.length : Nat) : Int) : Int).toNat ((⟨false, 0, 0, 0, 0⟩ : Tup) : Tup)).length : Nat) : Int) : Int).toNat (0 : Int)).length) (((((List.replicate (((g.ow.length : Nat) : Int) : Int).toNat ((⟨false, 0, 0, 0, 0⟩ : Tup) : Tup)).length : Nat) : Int) : Int).toNat)), (5, .slice (some ⟨aF.heap.size, 0, none⟩) ((List.replicate ((((List.replicate (((g.ow.length : Nat) : Int) : Int).toNat ((⟨false, 0, 0, 0, 0⟩ : Tup) : Tup)).length : Nat) : Int) : Int).toNat ((⟨none, 0, 0⟩ : SliceV) : SliceV)).length) (((((List.replicate (((g.ow.length : Nat) : Int) : Int).toNat ((⟨false, 0, 0, 0, 0⟩ : Tup) : Tup)).length : Nat) : Int) : Int).toNat)), (4, .pointer (some ⟨aA.heap.size, 0, none⟩)), (3, .slice (some ⟨w1.heap.size, 0, none⟩) ((List.replicate (((g.ow.length : Nat) : Int) : Int).toNat ((⟨false, 0, 0, 0, 0⟩ : Tup) : Tup)).length) ((((g.ow.length : Nat) : Int) : Int).toNat)), (2, .slice none 0 0), (1, .pointer (some ⟨w.heap.size, 0, none⟩))]) ⟨rfl, rfl, rfl, rfl, rfl, rfl, rfl, rfl, rfl, rfl, trivial⟩
 clear hJ
 refine wp_block ?_
 have hL := hK.as 7 (.slice (some ⟨aT.heap.size, 0, none⟩) ((List.replicate ((((List.replicate (((g.ow.length : Nat) : Int) : Int).toNat ((⟨false, 0, 0, 0, 0⟩ : Tup) : Tup)).length : Nat) : Int) : Int).toNat (false : Bool)).length) (((((List.replicate (((g.ow.length : Nat) : Int) : Int).toNat ((⟨false, 0, 0, 0, 0⟩ : Tup) : Tup)).length : Nat) : Int) : Int).toNat)) (.slice (some ⟨aT.heap.size, 0, none⟩) ((List.replicate ((((List.replicate (((g.ow.length : Nat) : Int) : Int).toNat ((⟨false, 0, 0, 0, 0⟩ : Tup) : Tup)).length : Nat) : Int) : Int).toNat (false : Bool) : List Bool).length) (((((List.replicate (((g.ow.length : Nat) : Int) : Int).toNat ((⟨false, 0, 0, 0, 0⟩ : Tup) : Tup)).length : Nat) : Int) : Int).toNat)) rfl (slice_len (by first | rfl | omega | (simp; done) | (simp; omega)))
 clear hK
 have hM := hL.as 6 (.slice (some ⟨aL.heap.size, 0, none⟩) ((List.replicate ((((List.replicate (((g.ow.length : Nat) : Int) : Int).toNat ((⟨false, 0, 0, 0, 0⟩ : Tup) : Tup)).length : Nat) : Int) : Int).toNat (0 : Int)).length) (((((List.replicate (((g.ow.length : Nat) : Int) : Int).toNat ((⟨false, 0, 0, 0, 0⟩ : Tup) : Tup)).length : Nat) : Int) : Int).toNat)) (.slice (some ⟨aL.heap.size, 0, none⟩) ((List.replicate ((((List.replicate (((g.ow.length : Nat) : Int) : Int).toNat ((⟨false, 0, 0, 0, 0⟩ : Tup) : Tup)).length : Nat) : Int) : Int).toNat (0 : Int) : List Int).length) (((((List.replicate (((g.ow.length : Nat) : Int) : Int).toNat ((⟨false, 0, 0, 0, 0⟩ : Tup) : Tup)).length : Nat) : Int) : Int).toNat)) rfl (slice_len (by first | rfl | omega | (simp; done) | (simp; omega)))
 clear hL
 have hN := hM.as 5 (.slice (some ⟨aF.heap.size, 0, none⟩) ((List.replicate ((((List.replicate (((g.ow.length : Nat) : Int) : Int).toNat ((⟨false, 0, 0, 0, 0⟩ : Tup) : Tup)).length : Nat) : Int) : Int).toNat ((⟨none, 0, 0⟩ : SliceV) : SliceV)).length) (((((List.replicate (((g.ow.length : Nat) : Int) : Int).toNat ((⟨false, 0, 0, 0, 0⟩ : Tup) : Tup)).length : Nat) : Int) : Int).toNat)) (.slice (some ⟨aF.heap.size, 0, none⟩) ((List.replicate ((((List.replicate (((g.ow.length : Nat) : Int) : Int).toNat ((⟨false, 0, 0, 0, 0⟩ : Tup) : Tup)).length : Nat) : Int) : Int).toNat ([] : List Int) : List (List Int)).length) (((((List.replicate (((g.ow.length : Nat) : Int) : Int).toNat ((⟨false, 0, 0, 0, 0⟩ : Tup) : Tup)).length : Nat) : Int) : Int).toNat)) rfl (slice_len (by first | rfl | omega | (simp; done) | (simp; omega)))
 clear hM
 have hO := hN.sub (r := [(39, .int .i64 (0)), (38, .int .i64 (((g.mv.length : Nat) : Int))), (37, .slice Ag2 g.mv.length cg2), (7, .slice (some ⟨aT.heap.size, 0, none⟩) ((List.replicate ((((List.replicate (((g.ow.length : Nat) : Int) : Int).toNat ((⟨false, 0, 0, 0, 0⟩ : Tup) : Tup)).length : Nat) : Int) : Int).toNat (false : Bool) : List Bool).length) (((((List.replicate (((g.ow.length : Nat) : Int) : Int).toNat ((⟨false, 0, 0, 0, 0⟩ : Tup) : Tup)).length : Nat) : Int) : Int).toNat)), (6, .slice (some ⟨aL.heap.size, 0, none⟩) ((List.replicate ((((List.replicate (((g.ow.length : Nat) : Int) : Int).toNat ((⟨false, 0, 0, 0, 0⟩ : Tup) : Tup)).length : Nat) : Int) : Int).toNat (0 : Int) : List Int).length) (((((List.replicate (((g.ow.length : Nat) : Int) : Int).toNat ((⟨false, 0, 0, 0, 0⟩ : Tup) : Tup)).length : Nat) : Int) : Int).toNat)), (5, .slice (some ⟨aF.heap.size, 0, none⟩) ((List.replicate ((((List.replicate (((g.ow.length : Nat) : Int) : Int).toNat ((⟨false, 0, 0, 0, 0⟩ : Tup) : Tup)).length : Nat) : Int) : Int).toNat ([] : List Int) : List (List Int)).length) (((((List.replicate (((g.ow.length : Nat) : Int) : Int).toNat ((⟨false, 0, 0, 0, 0⟩ : Tup) : Tup)).length : Nat) : Int) : Int).toNat)), (4, .pointer (some ⟨aA.heap.size, 0, none⟩)), (3, .slice (some ⟨w1.heap.size, 0, none⟩) ((List.replicate (((g.ow.length : Nat) : Int) : Int).toNat ((⟨false, 0, 0, 0, 0⟩ : Tup) : Tup)).length) ((((g.ow.length : Nat) : Int) : Int).toNat)), (2, .slice none 0 0), (1, .pointer (some ⟨w.heap.size, 0, none⟩))]) ⟨rfl, rfl, rfl, rfl, rfl, rfl, rfl, rfl, rfl, rfl, trivial⟩
 refine loop_g (fun (m_ : Nat) a_ w_ => ∃ (i : Int) (fr : List (List Int)) (aC : Option Addr) (aE : Nat) (td : List Int) (aG : Option Addr) (aN : Nat) (nn : List Bool) (aH : Option Addr) (aO : Nat), m_ = ((g.mv.length : Int) - i).toNat ∧ (Frm 128 a_ [(39, .int .i64 (i)), (38, .int .i64 (((g.mv.length : Nat) : Int))), (37, .slice Ag2 g.mv.length cg2), (7, .slice aH nn.length aO), (6, .slice aG td.length aN), (5, .slice aC fr.length aE), (4, .pointer (some ⟨aA.heap.size, 0, none⟩)), (3, .slice (some ⟨w1.heap.size, 0, none⟩) ((List.replicate (((g.ow.length : Nat) : Int) : Int).toNat ((⟨false, 0, 0, 0, 0⟩ : Tup) : Tup)).length) ((((g.ow.length : Nat) : Int) : Int).toNat)), (2, .slice none 0 0), (1, .pointer (some ⟨w.heap.size, 0, none⟩))]) ∧ (Ext w w_) ∧ (RdG w_ 0 w.heap.size Ag0 Ag1 Ag2 cg0 cg1 cg2 g) ∧ (Bx w_ (w.heap.size) [.slice Ag0 g.ow.length cg0, .slice Ag1 g.pr.length cg1, .slice Ag2 g.mv.length cg2] 25) ∧ (OwnR w_ (Sx (w1.heap.size) [obk (aH), obk (aG), obk (aC), some (aA.heap.size)]) (some ⟨w1.heap.size, 0, none⟩) ((((g.ow.length : Nat) : Int) : Int).toNat) 41 (List.replicate (((g.ow.length : Nat) : Int) : Int).toNat ((⟨false, 0, 0, 0, 0⟩ : Tup) : Tup) : List Tup)) ∧ (Bx w_ (aA.heap.size) [.int .i64 (cnt g.pr 1), .int .i64 (cnt g.pr 3), .int .i64 (cnt g.pr 5), .int .i64 (cnt g.pr 7)] 38) ∧ (OwnLL w_ (aF.heap.size) [obk (aH), obk (aG), obk (some ⟨w1.heap.size, 0, none⟩)] aC aE 22 3 (fr : List (List Int))) ∧ (OwnR w_ (Sx (aL.heap.size) [obk (aH), obk (some ⟨w1.heap.size, 0, none⟩), obk (aC)]) aG aN 3 (td : List Int)) ∧ (OwnR w_ (Sx (aT.heap.size) [obk (some ⟨w1.heap.size, 0, none⟩), obk (aC), obk (aG)]) aH aO 4 (nn : List Bool)) ∧ (0 ≤ i) ∧ (i ≤ (g.mv.length : Int)) ∧ (FromT g fr i 0) ∧ (td.length = g.ow.length) ∧ (nn.length = g.ow.length) ∧ (FillT td nn i) ∧ (w1.heap.size ≤ w_.heap.size) ∧ (aF.heap.size ≤ w_.heap.size) ∧ (aL.heap.size ≤ w_.heap.size) ∧ (aT.heap.size ≤ w_.heap.size)) _ ⟨0, (List.replicate ((((List.replicate (((g.ow.length : Nat) : Int) : Int).toNat ((⟨false, 0, 0, 0, 0⟩ : Tup) : Tup)).length : Nat) : Int) : Int).toNat ([] : List Int) : List (List Int)), some ⟨aF.heap.size, 0, none⟩, ((((List.replicate (((g.ow.length : Nat) : Int) : Int).toNat ((⟨false, 0, 0, 0, 0⟩ : Tup) : Tup)).length : Nat) : Int) : Int).toNat, (List.replicate ((((List.replicate (((g.ow.length : Nat) : Int) : Int).toNat ((⟨false, 0, 0, 0, 0⟩ : Tup) : Tup)).length : Nat) : Int) : Int).toNat (0 : Int) : List Int), some ⟨aL.heap.size, 0, none⟩, ((((List.replicate (((g.ow.length : Nat) : Int) : Int).toNat ((⟨false, 0, 0, 0, 0⟩ : Tup) : Tup)).length : Nat) : Int) : Int).toNat, (List.replicate ((((List.replicate (((g.ow.length : Nat) : Int) : Int).toNat ((⟨false, 0, 0, 0, 0⟩ : Tup) : Tup)).length : Nat) : Int) : Int).toNat (false : Bool) : List Bool), some ⟨aT.heap.size, 0, none⟩, ((((List.replicate (((g.ow.length : Nat) : Int) : Int).toNat ((⟨false, 0, 0, 0, 0⟩ : Tup) : Tup)).length : Nat) : Int) : Int).toNat, rfl, hO, e0, r8, bx9, bC, cA, eA, hF, eL, (by omega), (by omega), (by simp only [List.length_replicate, Int.toNat_natCast]; exact from0), (by simp), (by simp), (fun j a b => by omega), (by omega), (by omega), (by omega), (by omega)⟩ ?_
 clear hO hN; clear r8; clear bx9; clear bC; clear cA; clear eA; clear hF; clear eL; clear e0
 intro m_ nX lN ⟨i, fr, aC, aE, td, aG, aN, nn, aH, aO, hm152, hP, cP, cQ, cR, dF, cS, eM, cB, bP, i161, i162, hfr, i163, i164, hfl, i165, i166, i167, i168⟩
 have := cP.size; have := cR.lt; have := cS.lt; have hfrl := hfr.len
 refine wp_seq ?_
 refine At.start ?_
 refine At.rd hP 1 [[]] [(40, .bool (decide ((i : Int) < ((g.mv.length : Nat) : Int))))] [] (by kernel_rfl) trivial (fun nY eB => ?_)
 clear hP
 refine At.done rfl ?_
 refine t_n ?_
 refine wp_seq ?_
 refine cond_S eB (t := decide ((i : Int) < ((g.mv.length : Nat) : Int))) rfl (fun fL => ?_) (fun fL => ?_)
 ·have nZ := of_decide_eq_true fL
  refine wp_skip ?_
  refine t_n ?_
  have hQ := eB.sub (r := [(39, .int .i64 (i)), (38, .int .i64 (((g.mv.length : Nat) : Int))), (37, .slice Ag2 g.mv.length cg2), (7, .slice aH nn.length aO), (6, .slice aG td.length aN), (5, .slice aC fr.length aE), (4, .pointer (some ⟨aA.heap.size, 0, none⟩)), (3, .slice (some ⟨w1.heap.size, 0, none⟩) ((List.replicate (((g.ow.length : Nat) : Int) : Int).toNat ((⟨false, 0, 0, 0, 0⟩ : Tup) : Tup)).length) ((((g.ow.length : Nat) : Int) : Int).toNat)), (2, .slice none 0 0), (1, .pointer (some ⟨w.heap.size, 0, none⟩))]) ⟨rfl, rfl, rfl, rfl, rfl, rfl, rfl, rfl, rfl, rfl, trivial⟩
  clear eB
  refine wp_seq ?_
  refine wp_block ?_
  refine wp_seq ?_
  refine At.start ?_
  obtain ⟨eN, bE, bL, lO, _, _, lP, oA, dM⟩ := RdII.get cQ.mv (i) (by omega) (by omega)
  have oB := dM.len
  refine At.rd hQ 5 [[], [.ad eN], [.ld (.slice bE ((gL g.mv (i)).length) bL)], [], []] [(9, .slice bE ((gL g.mv (i)).length) bL), (8, .int .i64 (i)), (43, .slice bE ((gL g.mv (i)).length) bL), (42, .pointer (some (eN.add ((i : Int).toNat * 1)))), (41, .int .i64 (i))] [(Ag2 = some eN), (0 ≤ (i : Int)), ((i : Int) < (g.mv.length : Nat)), (lN.cell? (eN.add ((i : Int).toNat * 1)) = some (.slice bE ((gL g.mv (i)).length) bL))] (by kernel_rfl) ⟨lO, (by omega), (by omega), lP, trivial⟩ (fun oC hS => ?_)
  clear hQ
  refine At.done rfl ?_
  refine t_n ?_
  have hT := hS.sub (r := [(9, .slice bE ((gL g.mv (i)).length) bL), (8, .int .i64 (i)), (39, .int .i64 (i)), (38, .int .i64 (((g.mv.length : Nat) : Int))), (37, .slice Ag2 g.mv.length cg2), (7, .slice aH nn.length aO), (6, .slice aG td.length aN), (5, .slice aC fr.length aE), (4, .pointer (some ⟨aA.heap.size, 0, none⟩)), (3, .slice (some ⟨w1.heap.size, 0, none⟩) ((List.replicate (((g.ow.length : Nat) : Int) : Int).toNat ((⟨false, 0, 0, 0, 0⟩ : Tup) : Tup)).length) ((((g.ow.length : Nat) : Int) : Int).toNat)), (2, .slice none 0 0), (1, .pointer (some ⟨w.heap.size, 0, none⟩))]) ⟨rfl, rfl, rfl, rfl, rfl, rfl, rfl, rfl, rfl, rfl, rfl, rfl, trivial⟩
  clear hS
  refine wp_seq ?_
  refine At.start ?_
  obtain ⟨eO, hU, oD, oE, oF⟩ := cB.get (i) (by omega) (by omega) (sz := 1) rfl
  refine At.rd hT 6 [[], [], [], [], [], [.ad eO]] [(49, .pointer (some (eO.add ((i : Int).toNat * 1)))), (48, .int .i64 (i)), (47, .int .i64 (i)), (46, .slice aH nn.length aO), (45, .int .i64 (i)), (44, .slice aG td.length aN)] [(aG = some eO), (0 ≤ (i : Int)), ((i : Int) < (td.length : Nat))] (by kernel_rfl) ⟨hU, (by omega), (by omega), trivial⟩ (fun oG hV => ?_)
  clear hT
  refine At.act hV (storeR (α := Int) (t := 3) (i := i) (ad := eO) (v := .int .i64 (i)) (i) (by kernel_rfl) rfl rfl (by kernel_rfl) hU cB (by omega) (by omega)) ?_
  rintro d_ v_ oH ⟨rfl, cC, eP⟩
  refine ⟨_, rfl, fun oI hW => ?_⟩
  clear hV; have oJ : ((td).set (i : Int).toNat i).length = (td).length := List.length_set; have := cC.size; replace cP := cP.gr cC (fun k hk => by have := cB.ge k hk; omega); replace cQ := cQ.gr cC (fun k hk => by have := cB.ge k hk; omega); replace cR := cR.gr cC (fun e => by have := cB.ge _ e; omega); replace dF := dF.gr cC (fun k hk => hk.2.1)
  replace cS := cS.gr cC (fun e => by have := cB.ge _ e; omega); have eQ := eM.gr cC (fun k hk => hk.2.1); clear eM; replace bP := bP.gr cC (fun k hk => hk.2.2.1); replace dM := dM.gr cC (fun k hk => by have := cB.ge k hk; omega); clear cB cC
  obtain ⟨eR, hX, oK, oL, oM⟩ := bP.get (i) (by omega) (by omega) (sz := 1) rfl
  refine At.rd hW 1 [[.ad eR]] [(50, .pointer (some (eR.add ((i : Int).toNat * 1))))] [(aH = some eR), (0 ≤ (i : Int)), ((i : Int) < (nn.length : Nat))] (by kernel_rfl) ⟨hX, (by omega), (by omega), trivial⟩ (fun oN hY => ?_)
  clear hW
  refine At.act hY (storeR (α := Bool) (t := 4) (i := i) (ad := eR) (v := .bool true) (true) (by kernel_rfl) rfl rfl (by kernel_rfl) hX bP (by omega) (by omega)) ?_
  rintro d_ v_ oO ⟨rfl, cD, hZ⟩
  refine ⟨_, rfl, fun oP iA => ?_⟩
  clear hY; have oQ : ((nn).set (i : Int).toNat true).length = (nn).length := List.length_set; have := cD.size; replace cP := cP.gr cD (fun k hk => by have := bP.ge k hk; omega); replace cQ := cQ.gr cD (fun k hk => by have := bP.ge k hk; omega); replace cR := cR.gr cD (fun e => by have := bP.ge _ e; omega); replace dF := dF.gr cD (fun k hk => hk.1)
  replace cS := cS.gr cD (fun e => by have := bP.ge _ e; omega); replace eQ := eQ.gr cD (fun k hk => hk.1); replace eP := eP.gr cD (fun k hk => hk.1); replace dM := dM.gr cD (fun k hk => by have := bP.ge k hk; omega); clear bP cD
  refine At.done rfl ?_
  refine t_n ?_
  have iB := iA.sub (r := [(9, .slice bE ((gL g.mv (i)).length) bL), (8, .int .i64 (i)), (39, .int .i64 (i)), (38, .int .i64 (((g.mv.length : Nat) : Int))), (37, .slice Ag2 g.mv.length cg2), (7, .slice aH nn.length aO), (6, .slice aG td.length aN), (5, .slice aC fr.length aE), (4, .pointer (some ⟨aA.heap.size, 0, none⟩)), (3, .slice (some ⟨w1.heap.size, 0, none⟩) ((List.replicate (((g.ow.length : Nat) : Int) : Int).toNat ((⟨false, 0, 0, 0, 0⟩ : Tup) : Tup)).length) ((((g.ow.length : Nat) : Int) : Int).toNat)), (2, .slice none 0 0), (1, .pointer (some ⟨w.heap.size, 0, none⟩))]) ⟨rfl, rfl, rfl, rfl, rfl, rfl, rfl, rfl, rfl, rfl, rfl, rfl, trivial⟩
  clear iA
  refine wp_seq ?_
  refine At.start ?_
  refine At.rd iB 3 [[], [], []] [(53, .int .i64 (0)), (52, .int .i64 ((((gL g.mv (i)).length : Nat) : Int))), (51, .slice bE ((gL g.mv (i)).length) bL)] [] (by kernel_rfl) trivial (fun oR iC => ?_)
  clear iB
  refine At.done rfl ?_
  refine t_n ?_
  have iD := iC.sub (r := [(53, .int .i64 (0)), (52, .int .i64 ((((gL g.mv (i)).length : Nat) : Int))), (51, .slice bE ((gL g.mv (i)).length) bL), (8, .int .i64 (i)), (39, .int .i64 (i)), (38, .int .i64 (((g.mv.length : Nat) : Int))), (37, .slice Ag2 g.mv.length cg2), (7, .slice aH nn.length aO), (6, .slice aG td.length aN), (5, .slice aC fr.length aE), (4, .pointer (some ⟨aA.heap.size, 0, none⟩)), (3, .slice (some ⟨w1.heap.size, 0, none⟩) ((List.replicate (((g.ow.length : Nat) : Int) : Int).toNat ((⟨false, 0, 0, 0, 0⟩ : Tup) : Tup)).length) ((((g.ow.length : Nat) : Int) : Int).toNat)), (2, .slice none 0 0), (1, .pointer (some ⟨w.heap.size, 0, none⟩))]) ⟨rfl, rfl, rfl, rfl, rfl, rfl, rfl, rfl, rfl, rfl, rfl, rfl, rfl, rfl, trivial⟩
  clear iC
  refine wp_block ?_
  have iE := iD.as 5 (.slice aC fr.length aE) (.slice aC ((fr : List (List Int)).length) aE) rfl (slice_len (by first | rfl | omega | (simp; done) | (simp; omega)))
  clear iD
  have iF := iE.sub (r := [(53, .int .i64 (0)), (52, .int .i64 ((((gL g.mv (i)).length : Nat) : Int))), (51, .slice bE ((gL g.mv (i)).length) bL), (8, .int .i64 (i)), (39, .int .i64 (i)), (38, .int .i64 (((g.mv.length : Nat) : Int))), (37, .slice Ag2 g.mv.length cg2), (7, .slice aH nn.length aO), (6, .slice aG td.length aN), (5, .slice aC ((fr : List (List Int)).length) aE), (4, .pointer (some ⟨aA.heap.size, 0, none⟩)), (3, .slice (some ⟨w1.heap.size, 0, none⟩) ((List.replicate (((g.ow.length : Nat) : Int) : Int).toNat ((⟨false, 0, 0, 0, 0⟩ : Tup) : Tup)).length) ((((g.ow.length : Nat) : Int) : Int).toNat)), (2, .slice none 0 0), (1, .pointer (some ⟨w.heap.size, 0, none⟩))]) ⟨rfl, rfl, rfl, rfl, rfl, rfl, rfl, rfl, rfl, rfl, rfl, rfl, rfl, rfl, trivial⟩
  refine loop_g (fun (m_ : Nat) a_ w_ => ∃ (q : Int) (fr2 : List (List Int)) (aQ : Option Addr) (bA : Nat), m_ = (((gL g.mv i).length : Int) - q).toNat ∧ (Frm 128 a_ [(53, .int .i64 (q)), (52, .int .i64 ((((gL g.mv (i)).length : Nat) : Int))), (51, .slice bE ((gL g.mv (i)).length) bL), (8, .int .i64 (i)), (39, .int .i64 (i)), (38, .int .i64 (((g.mv.length : Nat) : Int))), (37, .slice Ag2 g.mv.length cg2), (7, .slice aH nn.length aO), (6, .slice aG td.length aN), (5, .slice aQ fr2.length bA), (4, .pointer (some ⟨aA.heap.size, 0, none⟩)), (3, .slice (some ⟨w1.heap.size, 0, none⟩) ((List.replicate (((g.ow.length : Nat) : Int) : Int).toNat ((⟨false, 0, 0, 0, 0⟩ : Tup) : Tup)).length) ((((g.ow.length : Nat) : Int) : Int).toNat)), (2, .slice none 0 0), (1, .pointer (some ⟨w.heap.size, 0, none⟩))]) ∧ (Ext w w_) ∧ (RdG w_ 0 w.heap.size Ag0 Ag1 Ag2 cg0 cg1 cg2 g) ∧ (Bx w_ (w.heap.size) [.slice Ag0 g.ow.length cg0, .slice Ag1 g.pr.length cg1, .slice Ag2 g.mv.length cg2] 25) ∧ (OwnR w_ (Sx (w1.heap.size) [obk (aH), obk (aG), obk (aQ), some (aA.heap.size)]) (some ⟨w1.heap.size, 0, none⟩) ((((g.ow.length : Nat) : Int) : Int).toNat) 41 (List.replicate (((g.ow.length : Nat) : Int) : Int).toNat ((⟨false, 0, 0, 0, 0⟩ : Tup) : Tup) : List Tup)) ∧ (Bx w_ (aA.heap.size) [.int .i64 (cnt g.pr 1), .int .i64 (cnt g.pr 3), .int .i64 (cnt g.pr 5), .int .i64 (cnt g.pr 7)] 38) ∧ (OwnLL w_ (aF.heap.size) [obk (aH), obk (aG), obk (some ⟨w1.heap.size, 0, none⟩)] aQ bA 22 3 (fr2 : List (List Int))) ∧ (OwnR w_ (Sx (aL.heap.size) [obk (aH), obk (some ⟨w1.heap.size, 0, none⟩), obk (aQ)]) aG aN 3 ((td).set (i : Int).toNat i : List Int)) ∧ (OwnR w_ (Sx (aT.heap.size) [obk (some ⟨w1.heap.size, 0, none⟩), obk (aQ), obk (aG)]) aH aO 4 ((nn).set (i : Int).toNat true : List Bool)) ∧ (RdI w_ 0 w.heap.size bE (gL g.mv (i))) ∧ (0 ≤ q) ∧ (q ≤ ((gL g.mv i).length : Int)) ∧ (FromT g fr2 i q) ∧ (w1.heap.size ≤ w_.heap.size) ∧ (aF.heap.size ≤ w_.heap.size) ∧ (aL.heap.size ≤ w_.heap.size) ∧ (aT.heap.size ≤ w_.heap.size)) _ ⟨0, (fr : List (List Int)), aC, aE, rfl, iF, cP, cQ, cR, dF, cS, eQ, eP, hZ, dM, (by omega), (by omega), hfr, (by omega), (by omega), (by omega), (by omega)⟩ ?_
  clear iF iE; clear cQ; clear cR; clear dF; clear cS; clear eQ; clear eP; clear hZ; clear dM; clear cP
  intro m_ oS eC ⟨q, fr2, aQ, bA, hm239, iG, cT, dG, cU, cV, cW, eS, cX, cY, dH, i249, i250, hfr2, i251, i252, i253, i254⟩
  have := cT.size; have := cU.lt; have := cW.lt
  refine wp_seq ?_
  refine At.start ?_
  refine At.rd iG 1 [[]] [(54, .bool (decide ((q : Int) < (((gL g.mv (i)).length : Nat) : Int))))] [] (by kernel_rfl) trivial (fun oT eD => ?_)
  clear iG
  refine At.done rfl ?_
  refine t_n ?_
  refine wp_seq ?_
  refine cond_S eD (t := decide ((q : Int) < (((gL g.mv (i)).length : Nat) : Int))) rfl (fun fM => ?_) (fun fM => ?_)
  ·have oU := of_decide_eq_true fM
   refine wp_skip ?_
   refine t_n ?_
   have iH := eD.sub (r := [(53, .int .i64 (q)), (52, .int .i64 ((((gL g.mv (i)).length : Nat) : Int))), (51, .slice bE ((gL g.mv (i)).length) bL), (8, .int .i64 (i)), (39, .int .i64 (i)), (38, .int .i64 (((g.mv.length : Nat) : Int))), (37, .slice Ag2 g.mv.length cg2), (7, .slice aH nn.length aO), (6, .slice aG td.length aN), (5, .slice aQ fr2.length bA), (4, .pointer (some ⟨aA.heap.size, 0, none⟩)), (3, .slice (some ⟨w1.heap.size, 0, none⟩) ((List.replicate (((g.ow.length : Nat) : Int) : Int).toNat ((⟨false, 0, 0, 0, 0⟩ : Tup) : Tup)).length) ((((g.ow.length : Nat) : Int) : Int).toNat)), (2, .slice none 0 0), (1, .pointer (some ⟨w.heap.size, 0, none⟩))]) ⟨rfl, rfl, rfl, rfl, rfl, rfl, rfl, rfl, rfl, rfl, rfl, rfl, rfl, rfl, trivial⟩
   clear eD
   refine wp_seq ?_
   refine wp_block ?_
   refine wp_seq ?_
   have hmk := hG.mv i (by omega) (by omega) q (by omega) (by omega); have hrl := row_len hG (i := i) (by omega) (by omega); have hfl2 := hfr2.len; have hfc := hfr2.cnt _ hmk.1 hmk.2
   refine At.start ?_
   obtain ⟨eT, lQ, _, _, lR⟩ := RdI.get dH (q) (by omega) (by omega)
   refine At.rd iH 3 [[.ad eT], [.ld (.int .i64 (gI (gL g.mv (i)) (q)))], []] [(11, .int .i64 (gI (gL g.mv (i)) (q))), (56, .int .i64 (gI (gL g.mv (i)) (q))), (55, .pointer (some (eT.add ((q : Int).toNat * 1))))] [(bE = some eT), (0 ≤ (q : Int)), ((q : Int) < ((gL g.mv (i)).length : Nat)), (eC.cell? (eT.add ((q : Int).toNat * 1)) = some (.int .i64 (gI (gL g.mv (i)) (q))))] (by kernel_rfl) ⟨lQ, (by omega), (by omega), lR, trivial⟩ (fun oV iI => ?_)
   clear iH
   refine At.done rfl ?_
   refine t_n ?_
   have iJ := iI.sub (r := [(11, .int .i64 (gI (gL g.mv (i)) (q))), (53, .int .i64 (q)), (52, .int .i64 ((((gL g.mv (i)).length : Nat) : Int))), (51, .slice bE ((gL g.mv (i)).length) bL), (8, .int .i64 (i)), (39, .int .i64 (i)), (38, .int .i64 (((g.mv.length : Nat) : Int))), (37, .slice Ag2 g.mv.length cg2), (7, .slice aH nn.length aO), (6, .slice aG td.length aN), (5, .slice aQ fr2.length bA), (4, .pointer (some ⟨aA.heap.size, 0, none⟩)), (3, .slice (some ⟨w1.heap.size, 0, none⟩) ((List.replicate (((g.ow.length : Nat) : Int) : Int).toNat ((⟨false, 0, 0, 0, 0⟩ : Tup) : Tup)).length) ((((g.ow.length : Nat) : Int) : Int).toNat)), (2, .slice none 0 0), (1, .pointer (some ⟨w.heap.size, 0, none⟩))]) ⟨rfl, rfl, rfl, rfl, rfl, rfl, rfl, rfl, rfl, rfl, rfl, rfl, rfl, rfl, rfl, trivial⟩
   clear iI
   refine At.start ?_
   obtain ⟨dI, fN, fO, fP, oW, lS, bQ, bM⟩ := eS.get (gI (gL g.mv (i)) (q)) (by omega) (by omega)
   refine At.rd iJ 7 [[], [], [], [], [.ad dI], [.ld (.slice fN ((gL fr2 (gI (gL g.mv (i)) (q))).length) fO)], []] [(63, .int .i64 (i)), (62, .slice fN ((gL fr2 (gI (gL g.mv (i)) (q))).length) fO), (61, .pointer (some (dI.add ((gI (gL g.mv (i)) (q) : Int).toNat * 1)))), (60, .int .i64 (gI (gL g.mv (i)) (q))), (59, .slice aQ fr2.length bA), (58, .int .i64 (gI (gL g.mv (i)) (q))), (57, .slice aQ fr2.length bA)] [(aQ = some dI), (0 ≤ (gI (gL g.mv (i)) (q) : Int)), ((gI (gL g.mv (i)) (q) : Int) < (fr2.length : Nat)), (eC.cell? (dI.add ((gI (gL g.mv (i)) (q) : Int).toNat * 1)) = some (.slice fN ((gL fr2 (gI (gL g.mv (i)) (q))).length) fO))] (by kernel_rfl) ⟨fP, (by omega), (by omega), lS, trivial⟩ (fun oX iK => ?_)
   clear iJ
   refine At.seq iK 1 [[]] [(64, .slice (some ⟨eC.heap.size, 0, none⟩) 1 1)] (eC.alloc (.cells #[.int .i64 (i)] 3 (0, 0))) [] (by kernel_rfl) trivial (fun oY iL fQ iM => ?_)
   clear iK; have bN := gr_alloc fQ; have := bN.size; replace cT := cT.gn bN; replace dG := dG.gn bN; replace cU := cU.gn bN; replace cV := cV.grN bN; replace cW := cW.gn bN; have iN := eS.grN bN; clear eS; replace cX := cX.grN bN; replace cY := cY.grN bN; replace dH := dH.gn bN; replace bM := bM.grN bN; replace bQ := bQ.grN bN; have fR : Bx iL (eC.heap.size) [.int .i64 (i)] 3 := Bx.new fQ
   have := fR.lt; clear bN fQ; have lT : ((gL fr2 (gI (gL g.mv (i)) (q))) ++ ([i])).length = (gL fr2 (gI (gL g.mv (i)) (q))).length + ([i] : List Int).length := List.length_append
   simp only [List.length_cons, List.length_nil] at lT
   refine At.act iM (appendR (α := Int) (t := 22) (d := 65) (n := (gL fr2 (gI (gL g.mv (i)) (q))).length) (m := 1) (cc := 1) (xs := gL fr2 (gI (gL g.mv (i)) (q))) (ys := [i]) (bytes := 8) (by first | rfl | omega | (simp; done) | (simp; omega)) (by first | rfl | omega | (simp; done) | (simp; omega)) (by kernel_rfl) rfl (by kernel_rfl) bQ (Bx.srcR (l := ([i] : List Int)) fR rfl) (by simp only [List.length_cons, List.length_nil]; omega) (by simp only [List.length_cons, List.length_nil]; omega)) ?_
   rintro d_ v_ lU ⟨rfl, lV, oZ, eE⟩
   obtain rfl := eE.val
   have bV := eE.gr
   refine ⟨_, rfl, fun pA iO => ?_⟩
   clear iM; clear fR
   have iP := eE.own (Sx (aF.heap.size) [obk (aQ), obk (aH), obk (aG), obk (some ⟨w1.heap.size, 0, none⟩)]) (fun g _ hs => ⟨hs.2.1, hs.2.2.1, hs.2.2.2.1, hs.2.2.2.2.1, hs.2.2.2.2.2⟩) ⟨iN.ne_new, cY.ne_new, cX.ne_new, cV.ne_new, (show aF.heap.size ≤ iL.heap.size by omega)⟩
   have := bV.size; replace cT := cT.gr bV (fun k hk => by have := bQ.ge k hk; omega); replace dG := dG.gr bV (fun k hk => by have := bQ.ge k hk; omega); replace cU := cU.gr bV (fun e => by have := bQ.ge _ e; omega); replace cV := cV.gr2 bV (fun k hk e => (bQ.inS k e).2.2.2.2.1 hk); replace cW := cW.gr bV (fun e => by have := bQ.ge _ e; omega); clear iN
   replace cX := cX.gr2 bV (fun k hk e => (bQ.inS k e).2.2.2.1 hk); replace cY := cY.gr2 bV (fun k hk e => (bQ.inS k e).2.2.1 hk); replace dH := dH.gr bV (fun k hk => by have := bQ.ge k hk; omega); replace bM := bM.moved bV eE.at_; clear bQ bV eE
   refine At.rd iO 1 [[.ad dI]] [(66, .pointer (some (dI.add ((gI (gL g.mv (i)) (q) : Int).toNat * 1))))] [(aQ = some dI), (0 ≤ (gI (gL g.mv (i)) (q) : Int)), ((gI (gL g.mv (i)) (q) : Int) < (fr2.length : Nat))] (by kernel_rfl) ⟨fP, (by omega), (by omega), trivial⟩ (fun pB iQ => ?_)
   clear iO
   replace bM : HoleLL lU (aF.heap.size) [obk (aH), obk (aG), obk (some ⟨w1.heap.size, 0, none⟩)] aQ bA 22 3 (fr2 : List (List Int)) (gI (gL g.mv (i)) (q) : Int).toNat lV := bM.imp (fun g _ hs => ⟨hs.2.1, hs.2.2.1, hs.2.2.2.1, hs.2.2.2.2⟩)
   refine At.act iQ (storeLL (t := 22) (i := gI (gL g.mv (i)) (q)) (ad := dI) (xs := (gL fr2 (gI (gL g.mv (i)) (q))) ++ ([i])) (by kernel_rfl) (by kernel_rfl) fP bM iP (by first | rfl | omega | (simp; done) | (simp; omega)) (by omega) (by omega)) ?_
   rintro d_ v_ pC ⟨rfl, cE, lW⟩
   refine ⟨_, rfl, fun pD iR => ?_⟩
   clear iQ; have pE : ((fr2).set (gI (gL g.mv (i)) (q) : Int).toNat ((gL fr2 (gI (gL g.mv (i)) (q))) ++ ([i]))).length = (fr2).length := List.length_set; have := cE.size; replace cT := cT.gr cE (fun k hk => by have := (HoleLLP.row bM).ge k hk; omega); replace dG := dG.gr cE (fun k hk => by have := (HoleLLP.row bM).ge k hk; omega)
   replace cU := cU.gr cE (fun e => by have := (HoleLLP.row bM).ge _ e; omega); replace cV := cV.gr cE (fun k hk => hk.2.2.2.1); replace cW := cW.gr cE (fun e => by have := (HoleLLP.row bM).ge _ e; omega); replace cX := cX.gr cE (fun k hk => hk.2.2.2.1); replace cY := cY.gr cE (fun k hk => hk.2.2.1); replace dH := dH.gr cE (fun k hk => by have := (HoleLLP.row bM).ge k hk; omega); clear bM iP cE
   refine At.done rfl ?_
   refine b_n ?_
   refine t_n ?_
   have iS := iR.sub (r := [(53, .int .i64 (q)), (52, .int .i64 ((((gL g.mv (i)).length : Nat) : Int))), (51, .slice bE ((gL g.mv (i)).length) bL), (8, .int .i64 (i)), (39, .int .i64 (i)), (38, .int .i64 (((g.mv.length : Nat) : Int))), (37, .slice Ag2 g.mv.length cg2), (7, .slice aH nn.length aO), (6, .slice aG td.length aN), (5, .slice aQ fr2.length bA), (4, .pointer (some ⟨aA.heap.size, 0, none⟩)), (3, .slice (some ⟨w1.heap.size, 0, none⟩) ((List.replicate (((g.ow.length : Nat) : Int) : Int).toNat ((⟨false, 0, 0, 0, 0⟩ : Tup) : Tup)).length) ((((g.ow.length : Nat) : Int) : Int).toNat)), (2, .slice none 0 0), (1, .pointer (some ⟨w.heap.size, 0, none⟩))]) ⟨rfl, rfl, rfl, rfl, rfl, rfl, rfl, rfl, rfl, rfl, rfl, rfl, rfl, rfl, trivial⟩
   clear iR
   refine At.start ?_
   refine At.rd iS 2 [[.as_ (.int .i64 (q + 1))], []] [(53, .int .i64 (q + 1)), (67, .int .i64 (q + 1))] [((.int .i64 (IntKind.i64.wrap (q + 1)) : Value) = .int .i64 (q + 1))] (by kernel_rfl) ⟨(w64 (by omega) (by omega)), trivial⟩ (fun pF iT => ?_)
   clear iS
   refine At.done rfl ?_
   refine t_n ?_
   have lX := iT.as 5 (.slice aQ fr2.length bA) (.slice aQ (((fr2).set (gI (gL g.mv (i)) (q) : Int).toNat ((gL fr2 (gI (gL g.mv (i)) (q))) ++ ([i])) : List (List Int)).length) bA) rfl (slice_len (by first | (simp only [List.length_set]; done) | rfl | omega | (simp; done) | (simp; omega)))
   clear iT
   have lY := lX.sub (r := [(53, .int .i64 (q + 1)), (52, .int .i64 ((((gL g.mv (i)).length : Nat) : Int))), (51, .slice bE ((gL g.mv (i)).length) bL), (8, .int .i64 (i)), (39, .int .i64 (i)), (38, .int .i64 (((g.mv.length : Nat) : Int))), (37, .slice Ag2 g.mv.length cg2), (7, .slice aH nn.length aO), (6, .slice aG td.length aN), (5, .slice aQ (((fr2).set (gI (gL g.mv (i)) (q) : Int).toNat ((gL fr2 (gI (gL g.mv (i)) (q))) ++ ([i])) : List (List Int)).length) bA), (4, .pointer (some ⟨aA.heap.size, 0, none⟩)), (3, .slice (some ⟨w1.heap.size, 0, none⟩) ((List.replicate (((g.ow.length : Nat) : Int) : Int).toNat ((⟨false, 0, 0, 0, 0⟩ : Tup) : Tup)).length) ((((g.ow.length : Nat) : Int) : Int).toNat)), (2, .slice none 0 0), (1, .pointer (some ⟨w.heap.size, 0, none⟩))]) ⟨rfl, rfl, rfl, rfl, rfl, rfl, rfl, rfl, rfl, rfl, rfl, rfl, rfl, rfl, trivial⟩
   exact ⟨_, (by omega), (q + 1), ((fr2).set (gI (gL g.mv (i)) (q) : Int).toNat ((gL fr2 (gI (gL g.mv (i)) (q))) ++ ([i])) : List (List Int)), aQ, bA, rfl, lY, cT, dG, cU, (cV.imp (fun g _ hs => ⟨hs.2.1, hs.2.2.1, hs.2.2.2.1, hs.2.2.2.2.1, hs.2.2.2.2.2⟩)), cW, lW, (cX.imp (fun g _ hs => ⟨hs.2.1, hs.2.2.1, hs.2.2.2.1, hs.2.2.2.2⟩)), (cY.imp (fun g _ hs => ⟨hs.2.1, hs.2.2.1, hs.2.2.2.1, hs.2.2.2.2⟩)), dH, (by omega), (by omega), (from_push hG hfr2 (by omega) (by omega) (by omega) (by omega)), (by omega), (by omega), (by omega), (by omega)⟩
  have pG := of_decide_eq_false fM
  refine wp_exit ?_
  refine t_e ?_
  clear hm239
  refine t_e ?_
  refine b_e ?_
  refine b_n ?_
  refine t_n ?_
  have iU := eD.sub (r := [(39, .int .i64 (i)), (38, .int .i64 (((g.mv.length : Nat) : Int))), (37, .slice Ag2 g.mv.length cg2), (7, .slice aH nn.length aO), (6, .slice aG td.length aN), (5, .slice aQ fr2.length bA), (4, .pointer (some ⟨aA.heap.size, 0, none⟩)), (3, .slice (some ⟨w1.heap.size, 0, none⟩) ((List.replicate (((g.ow.length : Nat) : Int) : Int).toNat ((⟨false, 0, 0, 0, 0⟩ : Tup) : Tup)).length) ((((g.ow.length : Nat) : Int) : Int).toNat)), (2, .slice none 0 0), (1, .pointer (some ⟨w.heap.size, 0, none⟩))]) ⟨rfl, rfl, rfl, rfl, rfl, rfl, rfl, rfl, rfl, rfl, trivial⟩
  clear eD
  refine At.start ?_
  refine At.rd iU 2 [[.as_ (.int .i64 (i + 1))], []] [(39, .int .i64 (i + 1)), (68, .int .i64 (i + 1))] [((.int .i64 (IntKind.i64.wrap (i + 1)) : Value) = .int .i64 (i + 1))] (by kernel_rfl) ⟨(w64 (by omega) (by omega)), trivial⟩ (fun pH iV => ?_)
  clear iU
  refine At.done rfl ?_
  refine t_n ?_
  have iW := iV.as 7 (.slice aH nn.length aO) (.slice aH (((nn).set (i : Int).toNat true : List Bool).length) aO) rfl (slice_len (by first | (simp only [List.length_set]; done) | rfl | omega | (simp; done) | (simp; omega)))
  clear iV
  have iX := iW.as 6 (.slice aG td.length aN) (.slice aG (((td).set (i : Int).toNat i : List Int).length) aN) rfl (slice_len (by first | (simp only [List.length_set]; done) | rfl | omega | (simp; done) | (simp; omega)))
  clear iW
  have lZ := iX.as 5 (.slice aQ fr2.length bA) (.slice aQ ((fr2 : List (List Int)).length) bA) rfl (slice_len (by first | rfl | omega | (simp; done) | (simp; omega)))
  clear iX
  have mA := lZ.sub (r := [(39, .int .i64 (i + 1)), (38, .int .i64 (((g.mv.length : Nat) : Int))), (37, .slice Ag2 g.mv.length cg2), (7, .slice aH (((nn).set (i : Int).toNat true : List Bool).length) aO), (6, .slice aG (((td).set (i : Int).toNat i : List Int).length) aN), (5, .slice aQ ((fr2 : List (List Int)).length) bA), (4, .pointer (some ⟨aA.heap.size, 0, none⟩)), (3, .slice (some ⟨w1.heap.size, 0, none⟩) ((List.replicate (((g.ow.length : Nat) : Int) : Int).toNat ((⟨false, 0, 0, 0, 0⟩ : Tup) : Tup)).length) ((((g.ow.length : Nat) : Int) : Int).toNat)), (2, .slice none 0 0), (1, .pointer (some ⟨w.heap.size, 0, none⟩))]) ⟨rfl, rfl, rfl, rfl, rfl, rfl, rfl, rfl, rfl, rfl, trivial⟩
  exact ⟨_, (by omega), (i + 1), (fr2 : List (List Int)), aQ, bA, ((td).set (i : Int).toNat i : List Int), aG, aN, ((nn).set (i : Int).toNat true : List Bool), aH, aO, rfl, mA, cT, dG, cU, cV, cW, eS, cX, cY, (by omega), (by omega), (from_row hG hfr2 (by omega) (by omega) (by omega) (by omega)), (by omega), (by omega), (fill_next hfl (by omega) (by omega) (by omega)), (by omega), (by omega), (by omega), (by omega)⟩
 have pI := of_decide_eq_false fL
 refine wp_exit ?_
 refine t_e ?_
 clear hm152
 refine t_e ?_
 refine b_e ?_
 refine t_n ?_
 have iY := eB.sub (r := [(7, .slice aH nn.length aO), (6, .slice aG td.length aN), (5, .slice aC fr.length aE), (4, .pointer (some ⟨aA.heap.size, 0, none⟩)), (3, .slice (some ⟨w1.heap.size, 0, none⟩) ((List.replicate (((g.ow.length : Nat) : Int) : Int).toNat ((⟨false, 0, 0, 0, 0⟩ : Tup) : Tup)).length) ((((g.ow.length : Nat) : Int) : Int).toNat)), (2, .slice none 0 0), (1, .pointer (some ⟨w.heap.size, 0, none⟩))]) ⟨rfl, rfl, rfl, rfl, rfl, rfl, rfl, trivial⟩
 clear eB
 refine wp_seq ?_
 refine wp_block ?_
 have iZ := iY.as 6 (.slice aG td.length aN) (.slice aG ((td : List Int).length) aN) rfl (slice_len (by first | rfl | omega | (simp; done) | (simp; omega))); clear iY; have jA := iZ.as 7 (.slice aH nn.length aO) (.slice aH ((nn : List Bool).length) aO) rfl (slice_len (by first | rfl | omega | (simp; done) | (simp; omega))); clear iZ
 have jB := jA.as 3 (.slice (some ⟨w1.heap.size, 0, none⟩) ((List.replicate (((g.ow.length : Nat) : Int) : Int).toNat ((⟨false, 0, 0, 0, 0⟩ : Tup) : Tup)).length) ((((g.ow.length : Nat) : Int) : Int).toNat)) (.slice (some ⟨w1.heap.size, 0, none⟩) ((List.replicate (((g.ow.length : Nat) : Int) : Int).toNat ((⟨false, 0, 0, 0, 0⟩ : Tup) : Tup) : List Tup).length) ((((g.ow.length : Nat) : Int) : Int).toNat)) rfl (slice_len (by first | rfl | omega | (simp; done) | (simp; omega)))
 clear jA
 have jC := jB.sub (r := [(6, .slice aG ((td : List Int).length) aN), (7, .slice aH ((nn : List Bool).length) aO), (5, .slice aC fr.length aE), (4, .pointer (some ⟨aA.heap.size, 0, none⟩)), (3, .slice (some ⟨w1.heap.size, 0, none⟩) ((List.replicate (((g.ow.length : Nat) : Int) : Int).toNat ((⟨false, 0, 0, 0, 0⟩ : Tup) : Tup) : List Tup).length) ((((g.ow.length : Nat) : Int) : Int).toNat)), (2, .slice none 0 0), (1, .pointer (some ⟨w.heap.size, 0, none⟩))]) ⟨rfl, rfl, rfl, rfl, rfl, rfl, rfl, trivial⟩
 refine loop_g (fun (m_ : Nat) a_ w_ => ∃ (l : List Tup) (aB : Option Addr) (aD : Nat) (td2 : List Int) (aK : Option Addr) (aM : Nat) (nn2 : List Bool) (aP : Option Addr) (aV : Nat), m_ = farG g l * 40401 + td2.length ∧ (Frm 128 a_ [(6, .slice aK td2.length aM), (7, .slice aP nn2.length aV), (5, .slice aC fr.length aE), (4, .pointer (some ⟨aA.heap.size, 0, none⟩)), (3, .slice aB l.length aD), (2, .slice none 0 0), (1, .pointer (some ⟨w.heap.size, 0, none⟩))]) ∧ (Ext w w_) ∧ (RdG w_ 0 w.heap.size Ag0 Ag1 Ag2 cg0 cg1 cg2 g) ∧ (Bx w_ (w.heap.size) [.slice Ag0 g.ow.length cg0, .slice Ag1 g.pr.length cg1, .slice Ag2 g.mv.length cg2] 25) ∧ (OwnR w_ (Sx (w1.heap.size) [obk (aP), obk (aK), obk (aC), some (aA.heap.size)]) aB aD 41 (l : List Tup)) ∧ (Bx w_ (aA.heap.size) [.int .i64 (cnt g.pr 1), .int .i64 (cnt g.pr 3), .int .i64 (cnt g.pr 5), .int .i64 (cnt g.pr 7)] 38) ∧ (OwnLL w_ (aF.heap.size) [obk (aP), obk (aK), obk (aB)] aC aE 22 3 (fr : List (List Int))) ∧ (OwnR w_ (Sx (aL.heap.size) [obk (aP), obk (aB), obk (aC)]) aK aM 3 (td2 : List Int)) ∧ (OwnR w_ (Sx (aT.heap.size) [obk (aB), obk (aC), obk (aK)]) aP aV 4 (nn2 : List Bool)) ∧ (WorkT g l td2 nn2 []) ∧ (FromT g fr (g.ow.length : Int) 0) ∧ (w1.heap.size ≤ w_.heap.size) ∧ (aF.heap.size ≤ w_.heap.size) ∧ (aL.heap.size ≤ w_.heap.size) ∧ (aT.heap.size ≤ w_.heap.size)) _ ⟨(List.replicate (((g.ow.length : Nat) : Int) : Int).toNat ((⟨false, 0, 0, 0, 0⟩ : Tup) : Tup) : List Tup), some ⟨w1.heap.size, 0, none⟩, (((g.ow.length : Nat) : Int) : Int).toNat, (td : List Int), aG, aN, (nn : List Bool), aH, aO, rfl, jC, cP, cQ, cR, dF, cS, eM, cB, bP, (work_start (bnd_zero g) (low_zero g) (by omega) (by omega) (fun j a b => hfl j a (by omega))), (by have e_ : i = (g.ow.length : Int) := (by omega); rw [← e_]; exact hfr), (by omega), (by omega), (by omega), (by omega)⟩ ?_
 clear jC jB; clear cQ; clear cR; clear dF; clear cS; clear eM; clear cB; clear bP; clear cP
 intro m_ pJ mB ⟨l, aB, aD, td2, aK, aM, nn2, aP, aV, hm359, jD, aZ, bB, aW, aR, aU, jE, eU, dN, hwk, hfrE, i368, i369, i370, i371⟩
 have := aZ.size; have := aW.lt; have := aU.lt; have hbl := hwk.bnd.1; have hok := bnd_ok hwk.bnd; have hwl0 := work_len hG hwk
 refine wp_seq ?_
 refine wp_seq ?_
 refine At.start ?_
 refine At.rd jD 3 [[], [], []] [(71, .bool (decide ((((td2.length : Nat) : Int) : Int) > 0))), (70, .int .i64 (((td2.length : Nat) : Int))), (69, .slice aK td2.length aM)] [] (by kernel_rfl) trivial (fun pK jF => ?_)
 clear jD
 refine At.done rfl ?_
 refine t_n ?_
 have eF := jF.sub (r := [(71, .bool (decide ((((td2.length : Nat) : Int) : Int) > 0))), (6, .slice aK td2.length aM), (7, .slice aP nn2.length aV), (5, .slice aC fr.length aE), (4, .pointer (some ⟨aA.heap.size, 0, none⟩)), (3, .slice aB l.length aD), (2, .slice none 0 0), (1, .pointer (some ⟨w.heap.size, 0, none⟩))]) ⟨rfl, rfl, rfl, rfl, rfl, rfl, rfl, rfl, trivial⟩
 clear jF
 refine cond_S eF (t := decide ((((td2.length : Nat) : Int) : Int) > 0)) rfl (fun fS => ?_) (fun fS => ?_)
 ·have pL := of_decide_eq_true fS
  refine wp_skip ?_
  refine t_n ?_
  have jG := eF.sub (r := [(6, .slice aK td2.length aM), (7, .slice aP nn2.length aV), (5, .slice aC fr.length aE), (4, .pointer (some ⟨aA.heap.size, 0, none⟩)), (3, .slice aB l.length aD), (2, .slice none 0 0), (1, .pointer (some ⟨w.heap.size, 0, none⟩))]) ⟨rfl, rfl, rfl, rfl, rfl, rfl, rfl, trivial⟩
  clear eF
  refine wp_block ?_
  refine wp_seq ?_
  have hsp := last_split (l := td2) (k := ((td2.length : Nat) : Int) - 1) (by omega) rfl; have hwk2 := hwk
  rw [hsp] at hwk2
  obtain ⟨hi, hni, hri, hnd, hnl, hnm⟩ := work_pop hwk2
  have hil := hwk.il
  refine At.start ?_
  obtain ⟨eV, mC, pM, mD, pN⟩ := eU.get (((td2.length : Nat) : Int) - 1) (by omega) (by omega) (sz := 1) rfl
  refine At.rd jG 7 [[], [], [], [.as_ (.int .i64 (((td2.length : Nat) : Int) - 1))], [.ad eV], [.ld (.int .i64 (gI td2 (((td2.length : Nat) : Int) - 1)))], []] [(12, .int .i64 (gI td2 (((td2.length : Nat) : Int) - 1))), (77, .int .i64 (gI td2 (((td2.length : Nat) : Int) - 1))), (76, .pointer (some (eV.add ((((td2.length : Nat) : Int) - 1 : Int).toNat * 1)))), (75, .int .i64 (((td2.length : Nat) : Int) - 1)), (74, .int .i64 (((td2.length : Nat) : Int))), (73, .slice aK td2.length aM), (72, .slice aK td2.length aM)] [((.int .i64 (IntKind.i64.wrap (((td2.length : Nat) : Int) - 1)) : Value) = .int .i64 (((td2.length : Nat) : Int) - 1)), (aK = some eV), (0 ≤ (((td2.length : Nat) : Int) - 1 : Int)), ((((td2.length : Nat) : Int) - 1 : Int) < (td2.length : Nat)), (mB.cell? (eV.add ((((td2.length : Nat) : Int) - 1 : Int).toNat * 1)) = some (.int .i64 (gI td2 (((td2.length : Nat) : Int) - 1))))] (by kernel_rfl) ⟨(w64 (by omega) (by omega)), mC, (by omega), (by omega), mD, trivial⟩ (fun pO jH => ?_)
  clear jG
  refine At.done rfl ?_
  refine t_n ?_
  have jI := jH.sub (r := [(12, .int .i64 (gI td2 (((td2.length : Nat) : Int) - 1))), (6, .slice aK td2.length aM), (7, .slice aP nn2.length aV), (5, .slice aC fr.length aE), (4, .pointer (some ⟨aA.heap.size, 0, none⟩)), (3, .slice aB l.length aD), (2, .slice none 0 0), (1, .pointer (some ⟨w.heap.size, 0, none⟩))]) ⟨rfl, rfl, rfl, rfl, rfl, rfl, rfl, rfl, trivial⟩
  clear jH
  refine wp_seq ?_
  refine At.start ?_
  have := eU.cap; have bD := eU.take ((((td2.length : Nat) : Int) - 1 : Int).toNat) (by omega)
  have : ((td2).take (((td2.length : Nat) : Int) - 1 : Int).toNat).length = (((td2.length : Nat) : Int) - 1 : Int).toNat := by rw [List.length_take]; omega
  clear eU
  obtain ⟨eW, jJ, pP, pQ, pR⟩ := dN.get (gI td2 (((td2.length : Nat) : Int) - 1)) (by omega) (by omega) (sz := 1) rfl
  refine At.rd jI 9 [[], [], [], [], [], [.as_ (.int .i64 (((td2.length : Nat) : Int) - 1))], [], [], [.ad eW]] [(85, .pointer (some (eW.add ((gI td2 (((td2.length : Nat) : Int) - 1) : Int).toNat * 1)))), (6, .slice aK ((((td2.length : Nat) : Int) - 1 : Int).toNat) aM), (84, .slice aK ((((td2.length : Nat) : Int) - 1 : Int).toNat) aM), (83, .int .i64 (((td2.length : Nat) : Int) - 1)), (82, .int .i64 (((td2.length : Nat) : Int))), (81, .slice aK td2.length aM), (80, .slice aK td2.length aM), (79, .int .i64 (gI td2 (((td2.length : Nat) : Int) - 1))), (78, .slice aP nn2.length aV)] [((.int .i64 (IntKind.i64.wrap (((td2.length : Nat) : Int) - 1)) : Value) = .int .i64 (((td2.length : Nat) : Int) - 1)), (0 ≤ (((td2.length : Nat) : Int) - 1 : Int)), ((((td2.length : Nat) : Int) - 1 : Int) ≤ (aM : Nat)), (aP = some eW), (0 ≤ (gI td2 (((td2.length : Nat) : Int) - 1) : Int)), ((gI td2 (((td2.length : Nat) : Int) - 1) : Int) < (nn2.length : Nat))] (by kernel_rfl) ⟨(w64 (by omega) (by omega)), (by omega), (by omega), jJ, (by omega), (by omega), trivial⟩ (fun pS jK => ?_)
  clear jI
  refine At.act jK (storeR (α := Bool) (t := 4) (i := gI td2 (((td2.length : Nat) : Int) - 1)) (ad := eW) (v := .bool false) (false) (by kernel_rfl) rfl rfl (by kernel_rfl) jJ dN (by omega) (by omega)) ?_
  rintro d_ v_ dO ⟨rfl, cZ, bJ⟩
  refine ⟨_, rfl, fun pT jL => ?_⟩
  clear jK; have pU : ((nn2).set (gI td2 (((td2.length : Nat) : Int) - 1) : Int).toNat false).length = (nn2).length := List.length_set; have := cZ.size; replace aZ := aZ.gr cZ (fun k hk => by have := dN.ge k hk; omega); replace bB := bB.gr cZ (fun k hk => by have := dN.ge k hk; omega); replace aW := aW.gr cZ (fun e => by have := dN.ge _ e; omega); replace aR := aR.gr cZ (fun k hk => hk.1)
  replace aU := aU.gr cZ (fun e => by have := dN.ge _ e; omega); have bF := jE.gr cZ (fun k hk => hk.1); clear jE; replace bD := bD.gr cZ (fun k hk => hk.1); clear dN cZ
  refine At.done rfl ?_
  refine t_n ?_
  have jM := jL.sub (r := [(6, .slice aK ((((td2.length : Nat) : Int) - 1 : Int).toNat) aM), (12, .int .i64 (gI td2 (((td2.length : Nat) : Int) - 1))), (7, .slice aP nn2.length aV), (5, .slice aC fr.length aE), (4, .pointer (some ⟨aA.heap.size, 0, none⟩)), (3, .slice aB l.length aD), (2, .slice none 0 0), (1, .pointer (some ⟨w.heap.size, 0, none⟩))]) ⟨rfl, rfl, rfl, rfl, rfl, rfl, rfl, rfl, trivial⟩
  clear jL
  refine wp_seq ?_
  refine At.start ?_
  refine At.rd jM 4 [[.ld (.slice Ag0 g.ow.length cg0), .ld (.slice Ag1 g.pr.length cg1), .ld (.slice Ag2 g.mv.length cg2)], [.ld (.int .i64 (cnt g.pr 1)), .ld (.int .i64 (cnt g.pr 3)), .ld (.int .i64 (cnt g.pr 5)), .ld (.int .i64 (cnt g.pr 7))], [], []] [(90, .int .i64 (gI td2 (((td2.length : Nat) : Int) - 1))), (89, .slice aB l.length aD), (88, .agg #[.int .i64 (cnt g.pr 1), .int .i64 (cnt g.pr 3), .int .i64 (cnt g.pr 5), .int .i64 (cnt g.pr 7)]), (87, .agg #[.slice Ag0 g.ow.length cg0, .slice Ag1 g.pr.length cg1, .slice Ag2 g.mv.length cg2])] [(dO.cell? ⟨w.heap.size, 0, none⟩ = some (.slice Ag0 g.ow.length cg0)), (dO.cell? ⟨w.heap.size, 1, none⟩ = some (.slice Ag1 g.pr.length cg1)), (dO.cell? ⟨w.heap.size, 2, none⟩ = some (.slice Ag2 g.mv.length cg2)), (dO.cell? ⟨aA.heap.size, 0, none⟩ = some (.int .i64 (cnt g.pr 1))), (dO.cell? ⟨aA.heap.size, 1, none⟩ = some (.int .i64 (cnt g.pr 3))), (dO.cell? ⟨aA.heap.size, 2, none⟩ = some (.int .i64 (cnt g.pr 5))), (dO.cell? ⟨aA.heap.size, 3, none⟩ = some (.int .i64 (cnt g.pr 7)))] (by kernel_rfl) ⟨(aW.cell (i := 0) rfl), (aW.cell (i := 1) rfl), (aW.cell (i := 2) rfl), (aU.cell (i := 0) rfl), (aU.cell (i := 1) rfl), (aU.cell (i := 2) rfl), (aU.cell (i := 3) rfl), trivial⟩ (fun pV jN => ?_)
  clear jM
  refine At.call jN 47 #[.agg #[.slice Ag0 g.ow.length cg0, .slice Ag1 g.pr.length cg1, .slice Ag2 g.mv.length cg2], .agg #[.int .i64 (cnt g.pr 1), .int .i64 (cnt g.pr 3), .int .i64 (cnt g.pr 5), .int .i64 (cnt g.pr 7)], .slice aB l.length aD, .int .i64 (gI td2 (((td2.length : Nat) : Int) - 1))] (some 91) (by kernel_rfl) (best_any (ls := l) (at_ := gI td2 (((td2.length : Nat) : Int) - 1)) (bB.wide (Nat.zero_le _) (by omega)) ((aR.rdR (by simp only [Enc.bytes]; omega)).wide (Nat.zero_le _) (by omega)) hG (by omega) (by assumption) (by omega) (by omega)) ?_
  rintro e_ aI ⟨rfl, he⟩
  refine ⟨_, rfl, _, rfl, fun pW jO => ?_⟩
  clear jN; have cF := gr_ext he; have := cF.size; replace aZ := aZ.gn cF; replace bB := bB.gn cF; replace aW := aW.gn cF; replace aR := aR.gn cF; replace aU := aU.gn cF; replace bF := bF.gn cF; replace bD := bD.gn cF; replace bJ := bJ.gn cF; clear cF he
  refine At.rd jO 3 [[], [], []] [(93, .int .i64 ((bestB (upG g l (gI td2 (((td2.length : Nat) : Int) - 1))) (gI g.ow (gI td2 (((td2.length : Nat) : Int) - 1))) (gL g.mv (gI td2 (((td2.length : Nat) : Int) - 1)))).2)), (92, tupV ((bestB (upG g l (gI td2 (((td2.length : Nat) : Int) - 1))) (gI g.ow (gI td2 (((td2.length : Nat) : Int) - 1))) (gL g.mv (gI td2 (((td2.length : Nat) : Int) - 1)))).1)), (86, .tuple #[tupV ((bestB (upG g l (gI td2 (((td2.length : Nat) : Int) - 1))) (gI g.ow (gI td2 (((td2.length : Nat) : Int) - 1))) (gL g.mv (gI td2 (((td2.length : Nat) : Int) - 1)))).1), .int .i64 ((bestB (upG g l (gI td2 (((td2.length : Nat) : Int) - 1))) (gI g.ow (gI td2 (((td2.length : Nat) : Int) - 1))) (gL g.mv (gI td2 (((td2.length : Nat) : Int) - 1)))).2)])] [] (by kernel_rfl) trivial (fun pX jP => ?_)
  clear jO
  refine At.seq jP 1 [[]] [(13, .pointer (some ⟨aI.heap.size, 0, none⟩))] (aI.alloc (.cells #[.bool false, .int .i64 (0), .int .i64 (0), .int .i64 (0), .int .i64 (0)] 41 (0, 0))) [] (by kernel_rfl) trivial (fun pY mE fT jQ => ?_)
  clear jP; have cG := gr_alloc fT; have := cG.size; replace aZ := aZ.gn cG; replace bB := bB.gn cG; replace aW := aW.gn cG; replace aR := aR.grN cG; replace aU := aU.gn cG; replace bF := bF.grN cG; replace bD := bD.grN cG; replace bJ := bJ.grN cG; have fU : Bx mE (aI.heap.size) [.bool false, .int .i64 (0), .int .i64 (0), .int .i64 (0), .int .i64 (0)] 41 := Bx.new fT; have := fU.lt; clear cG fT
  refine At.store jQ (t := 41) (b := aI.heap.size) (off := 0) (v := tupV ((bestB (upG g l (gI td2 (((td2.length : Nat) : Int) - 1))) (gI g.ow (gI td2 (((td2.length : Nat) : Int) - 1))) (gL g.mv (gI td2 (((td2.length : Nat) : Int) - 1)))).1)) (by kernel_rfl) fU (by kernel_rfl) (fun pZ jR cH aX jS => ?_)
  clear jQ
  replace aX : Bx jR (aI.heap.size) (tupC ((bestB (upG g l (gI td2 (((td2.length : Nat) : Int) - 1))) (gI g.ow (gI td2 (((td2.length : Nat) : Int) - 1))) (gL g.mv (gI td2 (((td2.length : Nat) : Int) - 1)))).1)) 41 := aX
  have := cH.size; replace aZ := aZ.gr cH (fun k h => by injection h; omega); replace bB := bB.gb cH (by omega); replace aW := aW.gb cH (by omega); replace aR := aR.gr cH (fun k hk => hk.1); replace aU := aU.gb cH (by omega); replace bF := bF.gr cH (fun k hk => hk.1); replace bD := bD.gr cH (fun k hk => hk.1); replace bJ := bJ.gr cH (fun k hk => hk.1); clear fU cH
  refine At.rd jS 1 [[]] [(14, .int .i64 ((bestB (upG g l (gI td2 (((td2.length : Nat) : Int) - 1))) (gI g.ow (gI td2 (((td2.length : Nat) : Int) - 1))) (gL g.mv (gI td2 (((td2.length : Nat) : Int) - 1)))).2))] [] (by kernel_rfl) trivial (fun qA jT => ?_)
  clear jS
  refine At.done rfl ?_
  refine t_n ?_
  have jU := jT.sub (r := [(13, .pointer (some ⟨aI.heap.size, 0, none⟩)), (6, .slice aK ((((td2.length : Nat) : Int) - 1 : Int).toNat) aM), (12, .int .i64 (gI td2 (((td2.length : Nat) : Int) - 1))), (7, .slice aP nn2.length aV), (5, .slice aC fr.length aE), (4, .pointer (some ⟨aA.heap.size, 0, none⟩)), (3, .slice aB l.length aD), (2, .slice none 0 0), (1, .pointer (some ⟨w.heap.size, 0, none⟩))]) ⟨rfl, rfl, rfl, rfl, rfl, rfl, rfl, rfl, rfl, trivial⟩
  clear jT
  refine wp_seq ?_
  refine wp_seq ?_
  obtain ⟨bO, mF, qB, mG, eX⟩ := aR.get (gI td2 (((td2.length : Nat) : Int) - 1)) (by omega) (by omega) (sz := 5) rfl
  obtain ⟨bR, bW⟩ : ∃ c : List (Addr × Value), c = [(⟨aI.heap.size, 0, none⟩, (.bool ((bestB (upG g l (gI td2 (((td2.length : Nat) : Int) - 1))) (gI g.ow (gI td2 (((td2.length : Nat) : Int) - 1))) (gL g.mv (gI td2 (((td2.length : Nat) : Int) - 1)))).1.top))), (⟨aI.heap.size, 1, none⟩, (.int .i64 ((bestB (upG g l (gI td2 (((td2.length : Nat) : Int) - 1))) (gI g.ow (gI td2 (((td2.length : Nat) : Int) - 1))) (gL g.mv (gI td2 (((td2.length : Nat) : Int) - 1)))).1.c0))), (⟨aI.heap.size, 2, none⟩, (.int .i64 ((bestB (upG g l (gI td2 (((td2.length : Nat) : Int) - 1))) (gI g.ow (gI td2 (((td2.length : Nat) : Int) - 1))) (gL g.mv (gI td2 (((td2.length : Nat) : Int) - 1)))).1.c1))), (⟨aI.heap.size, 3, none⟩, (.int .i64 ((bestB (upG g l (gI td2 (((td2.length : Nat) : Int) - 1))) (gI g.ow (gI td2 (((td2.length : Nat) : Int) - 1))) (gL g.mv (gI td2 (((td2.length : Nat) : Int) - 1)))).1.c2))), (⟨aI.heap.size, 4, none⟩, (.int .i64 ((bestB (upG g l (gI td2 (((td2.length : Nat) : Int) - 1))) (gI g.ow (gI td2 (((td2.length : Nat) : Int) - 1))) (gL g.mv (gI td2 (((td2.length : Nat) : Int) - 1)))).1.c3))), ((bO.add ((gI td2 (((td2.length : Nat) : Int) - 1) : Int).toNat * 5)), (.bool ((gT l (gI td2 (((td2.length : Nat) : Int) - 1))).top))), (((bO.add ((gI td2 (((td2.length : Nat) : Int) - 1) : Int).toNat * 5)).add 1), (.int .i64 ((gT l (gI td2 (((td2.length : Nat) : Int) - 1))).c0))), (((bO.add ((gI td2 (((td2.length : Nat) : Int) - 1) : Int).toNat * 5)).add 2), (.int .i64 ((gT l (gI td2 (((td2.length : Nat) : Int) - 1))).c1))), (((bO.add ((gI td2 (((td2.length : Nat) : Int) - 1) : Int).toNat * 5)).add 3), (.int .i64 ((gT l (gI td2 (((td2.length : Nat) : Int) - 1))).c2))), (((bO.add ((gI td2 (((td2.length : Nat) : Int) - 1) : Int).toNat * 5)).add 4), (.int .i64 ((gT l (gI td2 (((td2.length : Nat) : Int) - 1))).c3)))] := ⟨_, rfl⟩
  have jV : HoldsC bR jR := by rw [bW]; exact ⟨(aX.cell (i := 0) rfl), (aX.cell (i := 1) rfl), (aX.cell (i := 2) rfl), (aX.cell (i := 3) rfl), (aX.cell (i := 4) rfl), mG, (eX 1 _ rfl), (eX 2 _ rfl), (eX 3 _ rfl), (eX 4 _ rfl), trivial⟩
  refine AtH.start bR 7 #[false, false, false, false, false, false, false] (by kernel_rfl) rfl rfl (fun qC jW => ?_)
  have bS := gr_drew jW; have jX := jV.gr bS; have := bS.size; replace aZ := aZ.gn bS; replace bB := bB.gn bS; replace aW := aW.gn bS; replace aR := aR.gn bS; replace aU := aU.gn bS; replace bF := bF.gn bS; replace bD := bD.gn bS; replace bJ := bJ.gn bS; replace aX := aX.gn bS; clear bS jW jV
  refine AtH.rd (by kernel_rfl) (fun d v c a w h => by cases d <;> exact h) jX [0, 1, 2, 3, 4] [[.ld (.bool ((bestB (upG g l (gI td2 (((td2.length : Nat) : Int) - 1))) (gI g.ow (gI td2 (((td2.length : Nat) : Int) - 1))) (gL g.mv (gI td2 (((td2.length : Nat) : Int) - 1)))).1.top)), .ld (.int .i64 ((bestB (upG g l (gI td2 (((td2.length : Nat) : Int) - 1))) (gI g.ow (gI td2 (((td2.length : Nat) : Int) - 1))) (gL g.mv (gI td2 (((td2.length : Nat) : Int) - 1)))).1.c0)), .ld (.int .i64 ((bestB (upG g l (gI td2 (((td2.length : Nat) : Int) - 1))) (gI g.ow (gI td2 (((td2.length : Nat) : Int) - 1))) (gL g.mv (gI td2 (((td2.length : Nat) : Int) - 1)))).1.c1)), .ld (.int .i64 ((bestB (upG g l (gI td2 (((td2.length : Nat) : Int) - 1))) (gI g.ow (gI td2 (((td2.length : Nat) : Int) - 1))) (gL g.mv (gI td2 (((td2.length : Nat) : Int) - 1)))).1.c2)), .ld (.int .i64 ((bestB (upG g l (gI td2 (((td2.length : Nat) : Int) - 1))) (gI g.ow (gI td2 (((td2.length : Nat) : Int) - 1))) (gL g.mv (gI td2 (((td2.length : Nat) : Int) - 1)))).1.c3))], [], [], [.ad bO], [.ld (.bool ((gT l (gI td2 (((td2.length : Nat) : Int) - 1))).top)), .ld (.int .i64 ((gT l (gI td2 (((td2.length : Nat) : Int) - 1))).c0)), .ld (.int .i64 ((gT l (gI td2 (((td2.length : Nat) : Int) - 1))).c1)), .ld (.int .i64 ((gT l (gI td2 (((td2.length : Nat) : Int) - 1))).c2)), .ld (.int .i64 ((gT l (gI td2 (((td2.length : Nat) : Int) - 1))).c3))]] [(98, tupV (gT l (gI td2 (((td2.length : Nat) : Int) - 1)))), (97, .pointer (some (bO.add ((gI td2 (((td2.length : Nat) : Int) - 1) : Int).toNat * 5)))), (96, .int .i64 (gI td2 (((td2.length : Nat) : Int) - 1))), (95, .slice aB l.length aD), (94, tupV ((bestB (upG g l (gI td2 (((td2.length : Nat) : Int) - 1))) (gI g.ow (gI td2 (((td2.length : Nat) : Int) - 1))) (gL g.mv (gI td2 (((td2.length : Nat) : Int) - 1)))).1))] #[true, true, true, true, true, false, false] [(∃ j_ : Nat, bR[j_]? = some (⟨aI.heap.size, 0, none⟩, (.bool ((bestB (upG g l (gI td2 (((td2.length : Nat) : Int) - 1))) (gI g.ow (gI td2 (((td2.length : Nat) : Int) - 1))) (gL g.mv (gI td2 (((td2.length : Nat) : Int) - 1)))).1.top)))), (∃ j_ : Nat, bR[j_]? = some (⟨aI.heap.size, 1, none⟩, (.int .i64 ((bestB (upG g l (gI td2 (((td2.length : Nat) : Int) - 1))) (gI g.ow (gI td2 (((td2.length : Nat) : Int) - 1))) (gL g.mv (gI td2 (((td2.length : Nat) : Int) - 1)))).1.c0)))), (∃ j_ : Nat, bR[j_]? = some (⟨aI.heap.size, 2, none⟩, (.int .i64 ((bestB (upG g l (gI td2 (((td2.length : Nat) : Int) - 1))) (gI g.ow (gI td2 (((td2.length : Nat) : Int) - 1))) (gL g.mv (gI td2 (((td2.length : Nat) : Int) - 1)))).1.c1)))), (∃ j_ : Nat, bR[j_]? = some (⟨aI.heap.size, 3, none⟩, (.int .i64 ((bestB (upG g l (gI td2 (((td2.length : Nat) : Int) - 1))) (gI g.ow (gI td2 (((td2.length : Nat) : Int) - 1))) (gL g.mv (gI td2 (((td2.length : Nat) : Int) - 1)))).1.c2)))), (∃ j_ : Nat, bR[j_]? = some (⟨aI.heap.size, 4, none⟩, (.int .i64 ((bestB (upG g l (gI td2 (((td2.length : Nat) : Int) - 1))) (gI g.ow (gI td2 (((td2.length : Nat) : Int) - 1))) (gL g.mv (gI td2 (((td2.length : Nat) : Int) - 1)))).1.c3)))), (aB = some bO), (0 ≤ (gI td2 (((td2.length : Nat) : Int) - 1) : Int)), ((gI td2 (((td2.length : Nat) : Int) - 1) : Int) < (l.length : Nat)), (∃ j_ : Nat, bR[j_]? = some ((bO.add ((gI td2 (((td2.length : Nat) : Int) - 1) : Int).toNat * 5)), (.bool ((gT l (gI td2 (((td2.length : Nat) : Int) - 1))).top)))), (∃ j_ : Nat, bR[j_]? = some (((bO.add ((gI td2 (((td2.length : Nat) : Int) - 1) : Int).toNat * 5)).add 1), (.int .i64 ((gT l (gI td2 (((td2.length : Nat) : Int) - 1))).c0)))), (∃ j_ : Nat, bR[j_]? = some (((bO.add ((gI td2 (((td2.length : Nat) : Int) - 1) : Int).toNat * 5)).add 2), (.int .i64 ((gT l (gI td2 (((td2.length : Nat) : Int) - 1))).c1)))), (∃ j_ : Nat, bR[j_]? = some (((bO.add ((gI td2 (((td2.length : Nat) : Int) - 1) : Int).toNat * 5)).add 3), (.int .i64 ((gT l (gI td2 (((td2.length : Nat) : Int) - 1))).c2)))), (∃ j_ : Nat, bR[j_]? = some (((bO.add ((gI td2 (((td2.length : Nat) : Int) - 1) : Int).toNat * 5)).add 4), (.int .i64 ((gT l (gI td2 (((td2.length : Nat) : Int) - 1))).c3))))] 2 jU (by kernel_rfl) ⟨⟨0, by rw [bW]; rfl⟩, ⟨1, by rw [bW]; rfl⟩, ⟨2, by rw [bW]; rfl⟩, ⟨3, by rw [bW]; rfl⟩, ⟨4, by rw [bW]; rfl⟩, mF, (by omega), (by omega), ⟨5, by rw [bW]; rfl⟩, ⟨6, by rw [bW]; rfl⟩, ⟨7, by rw [bW]; rfl⟩, ⟨8, by rw [bW]; rfl⟩, ⟨9, by rw [bW]; rfl⟩, trivial⟩ (fun qD jY => ?_)
  clear jU
  refine AtH.all [5] 1 (by kernel_rfl) (by simp) ⟨?_, trivial⟩
  refine OneH.call jY 23 #[tupV ((bestB (upG g l (gI td2 (((td2.length : Nat) : Int) - 1))) (gI g.ow (gI td2 (((td2.length : Nat) : Int) - 1))) (gL g.mv (gI td2 (((td2.length : Nat) : Int) - 1)))).1), tupV (gT l (gI td2 (((td2.length : Nat) : Int) - 1))), .int .i64 (0)] (some 99) #[true, true, true, true, true, true, false] (by kernel_rfl) (by kernel_rfl) (cmpM_any (a := (bestB (upG g l (gI td2 (((td2.length : Nat) : Int) - 1))) (gI g.ow (gI td2 (((td2.length : Nat) : Int) - 1))) (gL g.mv (gI td2 (((td2.length : Nat) : Int) - 1)))).1) (b := (gT l (gI td2 (((td2.length : Nat) : Int) - 1)))) (p := 0)) ?_
  rintro e_ eG ⟨rfl, he⟩
  have := cmp_rng ((bestB (upG g l (gI td2 (((td2.length : Nat) : Int) - 1))) (gI g.ow (gI td2 (((td2.length : Nat) : Int) - 1))) (gL g.mv (gI td2 (((td2.length : Nat) : Int) - 1)))).1) (gT l (gI td2 (((td2.length : Nat) : Int) - 1))) 0
  refine ⟨_, rfl, _, rfl, fun qE jZ => ?_⟩
  clear jY; have bT := gr_ext he; have fV := jX.gr bT; have := bT.size; replace aZ := aZ.gn bT; replace bB := bB.gn bT; replace aW := aW.gn bT; replace aR := aR.gn bT; replace aU := aU.gn bT; replace bF := bF.gn bT; replace bD := bD.gn bT; replace bJ := bJ.gn bT; replace aX := aX.gn bT; clear bT he
  refine ⟨fV, ?_⟩
  refine AtH.rd (by kernel_rfl) (fun d v c a w h => by cases d <;> exact h) fV [6] [[]] [(100, .bool (decide ((cmpT ((bestB (upG g l (gI td2 (((td2.length : Nat) : Int) - 1))) (gI g.ow (gI td2 (((td2.length : Nat) : Int) - 1))) (gL g.mv (gI td2 (((td2.length : Nat) : Int) - 1)))).1) (gT l (gI td2 (((td2.length : Nat) : Int) - 1))) 0 : Int) ≤ 0)))] #[true, true, true, true, true, true, true] [] 0 jZ (by kernel_rfl) trivial (fun qF kA => ?_)
  clear jZ
  refine AtH.done (by kernel_rfl) ?_
  clear fV
  refine t_n ?_
  have eH := kA.sub (r := [(100, .bool (decide ((cmpT ((bestB (upG g l (gI td2 (((td2.length : Nat) : Int) - 1))) (gI g.ow (gI td2 (((td2.length : Nat) : Int) - 1))) (gL g.mv (gI td2 (((td2.length : Nat) : Int) - 1)))).1) (gT l (gI td2 (((td2.length : Nat) : Int) - 1))) 0 : Int) ≤ 0))), (13, .pointer (some ⟨aI.heap.size, 0, none⟩)), (6, .slice aK ((((td2.length : Nat) : Int) - 1 : Int).toNat) aM), (12, .int .i64 (gI td2 (((td2.length : Nat) : Int) - 1))), (7, .slice aP nn2.length aV), (5, .slice aC fr.length aE), (4, .pointer (some ⟨aA.heap.size, 0, none⟩)), (3, .slice aB l.length aD), (2, .slice none 0 0), (1, .pointer (some ⟨w.heap.size, 0, none⟩))]) ⟨rfl, rfl, rfl, rfl, rfl, rfl, rfl, rfl, rfl, rfl, trivial⟩
  clear kA
  refine cond_S eH (t := decide ((cmpT ((bestB (upG g l (gI td2 (((td2.length : Nat) : Int) - 1))) (gI g.ow (gI td2 (((td2.length : Nat) : Int) - 1))) (gL g.mv (gI td2 (((td2.length : Nat) : Int) - 1)))).1) (gT l (gI td2 (((td2.length : Nat) : Int) - 1))) 0 : Int) ≤ 0)) rfl (fun fW => ?_) (fun fW => ?_)
  ·have qG := of_decide_eq_true fW
   refine wp_exit ?_
   refine t_e ?_
   refine b_e ?_
   refine t_n ?_
   have kB := eH.as 6 (.slice aK ((((td2.length : Nat) : Int) - 1 : Int).toNat) aM) (.slice aK (((td2).take (((td2.length : Nat) : Int) - 1 : Int).toNat : List Int).length) aM) rfl (slice_len (by first | rfl | omega | (simp; done) | (simp; omega)))
   clear eH
   have kC := kB.as 7 (.slice aP nn2.length aV) (.slice aP (((nn2).set (gI td2 (((td2.length : Nat) : Int) - 1) : Int).toNat false : List Bool).length) aV) rfl (slice_len (by first | (simp only [List.length_set]; done) | rfl | omega | (simp; done) | (simp; omega)))
   clear kB; have mH := kC.as 3 (.slice aB l.length aD) (.slice aB ((l : List Tup).length) aD) rfl (slice_len (by first | rfl | omega | (simp; done) | (simp; omega))); clear kC
   have mI := mH.sub (r := [(6, .slice aK (((td2).take (((td2.length : Nat) : Int) - 1 : Int).toNat : List Int).length) aM), (7, .slice aP (((nn2).set (gI td2 (((td2.length : Nat) : Int) - 1) : Int).toNat false : List Bool).length) aV), (5, .slice aC fr.length aE), (4, .pointer (some ⟨aA.heap.size, 0, none⟩)), (3, .slice aB ((l : List Tup).length) aD), (2, .slice none 0 0), (1, .pointer (some ⟨w.heap.size, 0, none⟩))]) ⟨rfl, rfl, rfl, rfl, rfl, rfl, rfl, trivial⟩
   exact ⟨_, (by rw [hm359]; first | omega | (simp only [liftT] at hfar; omega)), (l : List Tup), aB, aD, ((td2).take (((td2.length : Nat) : Int) - 1 : Int).toNat : List Int), aK, aM, ((nn2).set (gI td2 (((td2.length : Nat) : Int) - 1) : Int).toNat false : List Bool), aP, aV, rfl, mI, aZ, bB, aW, (aR.imp (fun g _ hs => ⟨hs.2.1, hs.2.2.1, hs.2.2.2.1, hs.2.2.2.2.1, hs.2.2.2.2.2⟩)), aU, (bF.imp (fun g _ hs => ⟨hs.2.1, hs.2.2.1, hs.2.2.2.1, hs.2.2.2.2⟩)), (bD.imp (fun g _ hs => ⟨hs.2.1, hs.2.2.1, hs.2.2.2.1, hs.2.2.2.2⟩)), (bJ.imp (fun g _ hs => ⟨hs.2.1, hs.2.2.1, hs.2.2.2.1, hs.2.2.2.2⟩)), (work_keep hwk2 (by simp only [liftT]; omega)), hfrE, (by omega), (by omega), (by omega), (by omega)⟩
  have qH := of_decide_eq_false fW
  refine wp_skip ?_
  refine t_n ?_
  have kD := eH.sub (r := [(13, .pointer (some ⟨aI.heap.size, 0, none⟩)), (6, .slice aK ((((td2.length : Nat) : Int) - 1 : Int).toNat) aM), (12, .int .i64 (gI td2 (((td2.length : Nat) : Int) - 1))), (7, .slice aP nn2.length aV), (5, .slice aC fr.length aE), (4, .pointer (some ⟨aA.heap.size, 0, none⟩)), (3, .slice aB l.length aD), (2, .slice none 0 0), (1, .pointer (some ⟨w.heap.size, 0, none⟩))]) ⟨rfl, rfl, rfl, rfl, rfl, rfl, rfl, rfl, rfl, trivial⟩
  clear eH
  refine wp_seq ?_
  have hfar := farG_lt hG hwk.bnd hi.1 hi.2 (by simp only [liftT]; omega)
  refine At.start ?_
  obtain ⟨eY, kE, qI, qJ, qK⟩ := aR.get (gI td2 (((td2.length : Nat) : Int) - 1)) (by omega) (by omega) (sz := 5) rfl
  refine At.rd kD 4 [[], [], [.ld (.bool ((bestB (upG g l (gI td2 (((td2.length : Nat) : Int) - 1))) (gI g.ow (gI td2 (((td2.length : Nat) : Int) - 1))) (gL g.mv (gI td2 (((td2.length : Nat) : Int) - 1)))).1.top)), .ld (.int .i64 ((bestB (upG g l (gI td2 (((td2.length : Nat) : Int) - 1))) (gI g.ow (gI td2 (((td2.length : Nat) : Int) - 1))) (gL g.mv (gI td2 (((td2.length : Nat) : Int) - 1)))).1.c0)), .ld (.int .i64 ((bestB (upG g l (gI td2 (((td2.length : Nat) : Int) - 1))) (gI g.ow (gI td2 (((td2.length : Nat) : Int) - 1))) (gL g.mv (gI td2 (((td2.length : Nat) : Int) - 1)))).1.c1)), .ld (.int .i64 ((bestB (upG g l (gI td2 (((td2.length : Nat) : Int) - 1))) (gI g.ow (gI td2 (((td2.length : Nat) : Int) - 1))) (gL g.mv (gI td2 (((td2.length : Nat) : Int) - 1)))).1.c2)), .ld (.int .i64 ((bestB (upG g l (gI td2 (((td2.length : Nat) : Int) - 1))) (gI g.ow (gI td2 (((td2.length : Nat) : Int) - 1))) (gL g.mv (gI td2 (((td2.length : Nat) : Int) - 1)))).1.c3))], [.ad eY]] [(104, .pointer (some (eY.add ((gI td2 (((td2.length : Nat) : Int) - 1) : Int).toNat * 5)))), (103, tupV ((bestB (upG g l (gI td2 (((td2.length : Nat) : Int) - 1))) (gI g.ow (gI td2 (((td2.length : Nat) : Int) - 1))) (gL g.mv (gI td2 (((td2.length : Nat) : Int) - 1)))).1)), (102, .int .i64 (gI td2 (((td2.length : Nat) : Int) - 1))), (101, .slice aB l.length aD)] [(eG.cell? ⟨aI.heap.size, 0, none⟩ = some (.bool ((bestB (upG g l (gI td2 (((td2.length : Nat) : Int) - 1))) (gI g.ow (gI td2 (((td2.length : Nat) : Int) - 1))) (gL g.mv (gI td2 (((td2.length : Nat) : Int) - 1)))).1.top))), (eG.cell? ⟨aI.heap.size, 1, none⟩ = some (.int .i64 ((bestB (upG g l (gI td2 (((td2.length : Nat) : Int) - 1))) (gI g.ow (gI td2 (((td2.length : Nat) : Int) - 1))) (gL g.mv (gI td2 (((td2.length : Nat) : Int) - 1)))).1.c0))), (eG.cell? ⟨aI.heap.size, 2, none⟩ = some (.int .i64 ((bestB (upG g l (gI td2 (((td2.length : Nat) : Int) - 1))) (gI g.ow (gI td2 (((td2.length : Nat) : Int) - 1))) (gL g.mv (gI td2 (((td2.length : Nat) : Int) - 1)))).1.c1))), (eG.cell? ⟨aI.heap.size, 3, none⟩ = some (.int .i64 ((bestB (upG g l (gI td2 (((td2.length : Nat) : Int) - 1))) (gI g.ow (gI td2 (((td2.length : Nat) : Int) - 1))) (gL g.mv (gI td2 (((td2.length : Nat) : Int) - 1)))).1.c2))), (eG.cell? ⟨aI.heap.size, 4, none⟩ = some (.int .i64 ((bestB (upG g l (gI td2 (((td2.length : Nat) : Int) - 1))) (gI g.ow (gI td2 (((td2.length : Nat) : Int) - 1))) (gL g.mv (gI td2 (((td2.length : Nat) : Int) - 1)))).1.c3))), (aB = some eY), (0 ≤ (gI td2 (((td2.length : Nat) : Int) - 1) : Int)), ((gI td2 (((td2.length : Nat) : Int) - 1) : Int) < (l.length : Nat))] (by kernel_rfl) ⟨(aX.cell (i := 0) rfl), (aX.cell (i := 1) rfl), (aX.cell (i := 2) rfl), (aX.cell (i := 3) rfl), (aX.cell (i := 4) rfl), kE, (by omega), (by omega), trivial⟩ (fun qL kF => ?_)
  clear kD
  refine At.act kF (storeR (α := Tup) (t := 41) (i := gI td2 (((td2.length : Nat) : Int) - 1)) (ad := eY) (v := tupV ((bestB (upG g l (gI td2 (((td2.length : Nat) : Int) - 1))) (gI g.ow (gI td2 (((td2.length : Nat) : Int) - 1))) (gL g.mv (gI td2 (((td2.length : Nat) : Int) - 1)))).1)) ((bestB (upG g l (gI td2 (((td2.length : Nat) : Int) - 1))) (gI g.ow (gI td2 (((td2.length : Nat) : Int) - 1))) (gL g.mv (gI td2 (((td2.length : Nat) : Int) - 1)))).1) (by kernel_rfl) rfl rfl (by kernel_rfl) kE aR (by omega) (by omega)) ?_
  rintro d_ v_ mJ ⟨rfl, cI, kG⟩
  refine ⟨_, rfl, fun qM kH => ?_⟩
  clear kF
  have qN : ((l).set (gI td2 (((td2.length : Nat) : Int) - 1) : Int).toNat ((bestB (upG g l (gI td2 (((td2.length : Nat) : Int) - 1))) (gI g.ow (gI td2 (((td2.length : Nat) : Int) - 1))) (gL g.mv (gI td2 (((td2.length : Nat) : Int) - 1)))).1)).length = (l).length := List.length_set
  have := cI.size; replace aZ := aZ.gr cI (fun k hk => by have := aR.ge k hk; omega); replace bB := bB.gr cI (fun k hk => by have := aR.ge k hk; omega); replace aW := aW.gr cI (fun e => by have := aR.ge _ e; omega); replace aU := aU.gr cI (aR.neb (fun g hs => hs.2.2.2.2.1)); replace bF := bF.gr cI (fun k hk => hk.2.2.2.1); replace bD := bD.gr cI (fun k hk => hk.2.2.1)
  replace bJ := bJ.gr cI (fun k hk => hk.2.1); replace aX := aX.gr cI (aR.neb (fun g hs => hs.1)); clear aR cI
  refine At.done rfl ?_
  refine t_n ?_
  have kI := kH.sub (r := [(6, .slice aK ((((td2.length : Nat) : Int) - 1 : Int).toNat) aM), (12, .int .i64 (gI td2 (((td2.length : Nat) : Int) - 1))), (7, .slice aP nn2.length aV), (5, .slice aC fr.length aE), (4, .pointer (some ⟨aA.heap.size, 0, none⟩)), (3, .slice aB l.length aD), (2, .slice none 0 0), (1, .pointer (some ⟨w.heap.size, 0, none⟩))]) ⟨rfl, rfl, rfl, rfl, rfl, rfl, rfl, rfl, trivial⟩
  clear kH
  refine wp_seq ?_
  have hfrl := hfrE.len; have hfrc := hfrE.cnt _ hi.1 hi.2
  refine At.start ?_
  obtain ⟨eZ, bG, bK, mK, qO, mL, kJ, qP⟩ := bF.get (gI td2 (((td2.length : Nat) : Int) - 1)) (by omega) (by omega)
  refine At.rd kI 6 [[], [], [.ad eZ], [.ld (.slice bG ((gL fr (gI td2 (((td2.length : Nat) : Int) - 1))).length) bK)], [], []] [(110, .int .i64 (0)), (109, .int .i64 ((((gL fr (gI td2 (((td2.length : Nat) : Int) - 1))).length : Nat) : Int))), (108, .slice bG ((gL fr (gI td2 (((td2.length : Nat) : Int) - 1))).length) bK), (107, .pointer (some (eZ.add ((gI td2 (((td2.length : Nat) : Int) - 1) : Int).toNat * 1)))), (106, .int .i64 (gI td2 (((td2.length : Nat) : Int) - 1))), (105, .slice aC fr.length aE)] [(aC = some eZ), (0 ≤ (gI td2 (((td2.length : Nat) : Int) - 1) : Int)), ((gI td2 (((td2.length : Nat) : Int) - 1) : Int) < (fr.length : Nat)), (mJ.cell? (eZ.add ((gI td2 (((td2.length : Nat) : Int) - 1) : Int).toNat * 1)) = some (.slice bG ((gL fr (gI td2 (((td2.length : Nat) : Int) - 1))).length) bK))] (by kernel_rfl) ⟨mK, (by omega), (by omega), mL, trivial⟩ (fun qQ kK => ?_)
  clear kI
  refine At.done rfl ?_
  refine t_n ?_
  have kL := kK.sub (r := [(110, .int .i64 (0)), (109, .int .i64 ((((gL fr (gI td2 (((td2.length : Nat) : Int) - 1))).length : Nat) : Int))), (108, .slice bG ((gL fr (gI td2 (((td2.length : Nat) : Int) - 1))).length) bK), (6, .slice aK ((((td2.length : Nat) : Int) - 1 : Int).toNat) aM), (7, .slice aP nn2.length aV), (5, .slice aC fr.length aE), (4, .pointer (some ⟨aA.heap.size, 0, none⟩)), (3, .slice aB l.length aD), (2, .slice none 0 0), (1, .pointer (some ⟨w.heap.size, 0, none⟩))]) ⟨rfl, rfl, rfl, rfl, rfl, rfl, rfl, rfl, rfl, rfl, trivial⟩
  clear kK
  refine wp_block ?_
  have kM := kL.as 6 (.slice aK ((((td2.length : Nat) : Int) - 1 : Int).toNat) aM) (.slice aK (((td2).take (((td2.length : Nat) : Int) - 1 : Int).toNat : List Int).length) aM) rfl (slice_len (by first | rfl | omega | (simp; done) | (simp; omega)))
  clear kL
  have kN := kM.as 7 (.slice aP nn2.length aV) (.slice aP (((nn2).set (gI td2 (((td2.length : Nat) : Int) - 1) : Int).toNat false : List Bool).length) aV) rfl (slice_len (by first | (simp only [List.length_set]; done) | rfl | omega | (simp; done) | (simp; omega)))
  clear kM
  have kO := kN.sub (r := [(6, .slice aK (((td2).take (((td2.length : Nat) : Int) - 1 : Int).toNat : List Int).length) aM), (110, .int .i64 (0)), (109, .int .i64 ((((gL fr (gI td2 (((td2.length : Nat) : Int) - 1))).length : Nat) : Int))), (108, .slice bG ((gL fr (gI td2 (((td2.length : Nat) : Int) - 1))).length) bK), (7, .slice aP (((nn2).set (gI td2 (((td2.length : Nat) : Int) - 1) : Int).toNat false : List Bool).length) aV), (5, .slice aC fr.length aE), (4, .pointer (some ⟨aA.heap.size, 0, none⟩)), (3, .slice aB l.length aD), (2, .slice none 0 0), (1, .pointer (some ⟨w.heap.size, 0, none⟩))]) ⟨rfl, rfl, rfl, rfl, rfl, rfl, rfl, rfl, rfl, rfl, trivial⟩
  refine loop_g (fun (m_ : Nat) a_ w_ => ∃ (q : Int) (td3 : List Int) (aY : Option Addr) (bH : Nat) (nn3 : List Bool) (aJ : Option Addr) (aS : Nat), m_ = (((gL fr (gI td2 (((td2.length : Nat) : Int) - 1))).length : Int) - q).toNat ∧ (Frm 128 a_ [(6, .slice aY td3.length bH), (110, .int .i64 (q)), (109, .int .i64 ((((gL fr (gI td2 (((td2.length : Nat) : Int) - 1))).length : Nat) : Int))), (108, .slice bG ((gL fr (gI td2 (((td2.length : Nat) : Int) - 1))).length) bK), (7, .slice aJ nn3.length aS), (5, .slice aC fr.length aE), (4, .pointer (some ⟨aA.heap.size, 0, none⟩)), (3, .slice aB l.length aD), (2, .slice none 0 0), (1, .pointer (some ⟨w.heap.size, 0, none⟩))]) ∧ (Ext w w_) ∧ (RdG w_ 0 w.heap.size Ag0 Ag1 Ag2 cg0 cg1 cg2 g) ∧ (Bx w_ (w.heap.size) [.slice Ag0 g.ow.length cg0, .slice Ag1 g.pr.length cg1, .slice Ag2 g.mv.length cg2] 25) ∧ (OwnR w_ (Sx (w1.heap.size) [some (aI.heap.size), obk (aJ), obk (aY), obk (aC), some (aA.heap.size)]) aB aD 41 ((l).set (gI td2 (((td2.length : Nat) : Int) - 1) : Int).toNat ((bestB (upG g l (gI td2 (((td2.length : Nat) : Int) - 1))) (gI g.ow (gI td2 (((td2.length : Nat) : Int) - 1))) (gL g.mv (gI td2 (((td2.length : Nat) : Int) - 1)))).1) : List Tup)) ∧ (Bx w_ (aA.heap.size) [.int .i64 (cnt g.pr 1), .int .i64 (cnt g.pr 3), .int .i64 (cnt g.pr 5), .int .i64 (cnt g.pr 7)] 38) ∧ (OwnLL w_ (aF.heap.size) [some (aI.heap.size), obk (aJ), obk (aY), obk (aB)] aC aE 22 3 (fr : List (List Int))) ∧ (OwnR w_ (Sx (aL.heap.size) [some (aI.heap.size), obk (aJ), obk (aB), obk (aC)]) aY bH 3 (td3 : List Int)) ∧ (OwnR w_ (Sx (aT.heap.size) [some (aI.heap.size), obk (aB), obk (aC), obk (aY)]) aJ aS 4 (nn3 : List Bool)) ∧ (Bx w_ (aI.heap.size) (tupC ((bestB (upG g l (gI td2 (((td2.length : Nat) : Int) - 1))) (gI g.ow (gI td2 (((td2.length : Nat) : Int) - 1))) (gL g.mv (gI td2 (((td2.length : Nat) : Int) - 1)))).1)) 41) ∧ (OwnR w_ (Sx (aF.heap.size) [obk (aC), some (aI.heap.size), obk (aJ), obk (aY), obk (aB)]) bG bK 3 (gL fr (gI td2 (((td2.length : Nat) : Int) - 1)) : List Int)) ∧ (0 ≤ q) ∧ (q ≤ ((gL fr (gI td2 (((td2.length : Nat) : Int) - 1))).length : Int)) ∧ (WorkT g ((l).set (gI td2 (((td2.length : Nat) : Int) - 1) : Int).toNat ((bestB (upG g l (gI td2 (((td2.length : Nat) : Int) - 1))) (gI g.ow (gI td2 (((td2.length : Nat) : Int) - 1))) (gL g.mv (gI td2 (((td2.length : Nat) : Int) - 1)))).1)) td3 nn3 ((gL fr (gI td2 (((td2.length : Nat) : Int) - 1))).drop q.toNat)) ∧ (w1.heap.size ≤ w_.heap.size) ∧ (aF.heap.size ≤ w_.heap.size) ∧ (aL.heap.size ≤ w_.heap.size) ∧ (aT.heap.size ≤ w_.heap.size)) _ ⟨0, ((td2).take (((td2.length : Nat) : Int) - 1 : Int).toNat : List Int), aK, aM, ((nn2).set (gI td2 (((td2.length : Nat) : Int) - 1) : Int).toNat false : List Bool), aP, aV, rfl, kO, aZ, bB, aW, kG, aU, bF, bD, bJ, aX, kJ, (by omega), (by omega), (work_lift hG hwk2 hfrE), (by omega), (by omega), (by omega), (by omega)⟩ ?_
  clear kO kN; clear bB; clear aW; clear kG; clear aU; clear bF; clear bD; clear bJ; clear aX; clear kJ; clear aZ
  intro m_ qR dA ⟨q, td3, aY, bH, nn3, aJ, aS, hm548, kP, cJ, dB, cK, cL, cM, fA, bX, bI, dC, dD, i559, i560, hwr, i561, i562, i563, i564⟩
  have := cJ.size; have := cK.lt; have := cM.lt; have := dC.lt; have hwl := work_len hG hwr
  refine wp_seq ?_
  refine At.start ?_
  refine At.rd kP 1 [[]] [(111, .bool (decide ((q : Int) < (((gL fr (gI td2 (((td2.length : Nat) : Int) - 1))).length : Nat) : Int))))] [] (by kernel_rfl) trivial (fun qS eI => ?_)
  clear kP
  refine At.done rfl ?_
  refine t_n ?_
  refine wp_seq ?_
  refine cond_S eI (t := decide ((q : Int) < (((gL fr (gI td2 (((td2.length : Nat) : Int) - 1))).length : Nat) : Int))) rfl (fun fX => ?_) (fun fX => ?_)
  ·have qT := of_decide_eq_true fX
   refine wp_skip ?_
   refine t_n ?_
   have kQ := eI.sub (r := [(6, .slice aY td3.length bH), (110, .int .i64 (q)), (109, .int .i64 ((((gL fr (gI td2 (((td2.length : Nat) : Int) - 1))).length : Nat) : Int))), (108, .slice bG ((gL fr (gI td2 (((td2.length : Nat) : Int) - 1))).length) bK), (7, .slice aJ nn3.length aS), (5, .slice aC fr.length aE), (4, .pointer (some ⟨aA.heap.size, 0, none⟩)), (3, .slice aB l.length aD), (2, .slice none 0 0), (1, .pointer (some ⟨w.heap.size, 0, none⟩))]) ⟨rfl, rfl, rfl, rfl, rfl, rfl, rfl, rfl, rfl, rfl, trivial⟩
   clear eI
   refine wp_seq ?_
   refine wp_block ?_
   refine wp_seq ?_
   have hdr := drop_split (l := gL fr (gI td2 (((td2.length : Nat) : Int) - 1))) (k := q) (by omega) (by omega); have hwr2 := hwr
   rw [hdr] at hwr2
   have hrf := hfrE.rng _ _ hi.1 hi.2 (mem_of_gI (l := gL fr (gI td2 (((td2.length : Nat) : Int) - 1))) (k := q) (by omega) (by omega)); have hrl := hwr.il
   refine At.start ?_
   obtain ⟨fB, mM, qU, mN, qV⟩ := dD.get (q) (by omega) (by omega) (sz := 1) rfl
   refine At.rd kQ 3 [[.ad fB], [.ld (.int .i64 (gI (gL fr (gI td2 (((td2.length : Nat) : Int) - 1))) q))], []] [(16, .int .i64 (gI (gL fr (gI td2 (((td2.length : Nat) : Int) - 1))) q)), (113, .int .i64 (gI (gL fr (gI td2 (((td2.length : Nat) : Int) - 1))) q)), (112, .pointer (some (fB.add ((q : Int).toNat * 1))))] [(bG = some fB), (0 ≤ (q : Int)), ((q : Int) < ((gL fr (gI td2 (((td2.length : Nat) : Int) - 1))).length : Nat)), (dA.cell? (fB.add ((q : Int).toNat * 1)) = some (.int .i64 (gI (gL fr (gI td2 (((td2.length : Nat) : Int) - 1))) q)))] (by kernel_rfl) ⟨mM, (by omega), (by omega), mN, trivial⟩ (fun qW kR => ?_)
   clear kQ
   refine At.done rfl ?_
   refine t_n ?_
   have kS := kR.sub (r := [(16, .int .i64 (gI (gL fr (gI td2 (((td2.length : Nat) : Int) - 1))) q)), (6, .slice aY td3.length bH), (110, .int .i64 (q)), (109, .int .i64 ((((gL fr (gI td2 (((td2.length : Nat) : Int) - 1))).length : Nat) : Int))), (108, .slice bG ((gL fr (gI td2 (((td2.length : Nat) : Int) - 1))).length) bK), (7, .slice aJ nn3.length aS), (5, .slice aC fr.length aE), (4, .pointer (some ⟨aA.heap.size, 0, none⟩)), (3, .slice aB l.length aD), (2, .slice none 0 0), (1, .pointer (some ⟨w.heap.size, 0, none⟩))]) ⟨rfl, rfl, rfl, rfl, rfl, rfl, rfl, rfl, rfl, rfl, rfl, trivial⟩
   clear kR
   refine wp_seq ?_
   refine At.start ?_
   obtain ⟨fC, mO, qX, mP, qY⟩ := bI.get (gI (gL fr (gI td2 (((td2.length : Nat) : Int) - 1))) q) (by omega) (by omega) (sz := 1) rfl
   refine At.rd kS 5 [[], [], [.ad fC], [.ld (.bool (gB nn3 (gI (gL fr (gI td2 (((td2.length : Nat) : Int) - 1))) q)))], []] [(118, .bool (!(gB nn3 (gI (gL fr (gI td2 (((td2.length : Nat) : Int) - 1))) q)))), (117, .bool (gB nn3 (gI (gL fr (gI td2 (((td2.length : Nat) : Int) - 1))) q))), (116, .pointer (some (fC.add ((gI (gL fr (gI td2 (((td2.length : Nat) : Int) - 1))) q : Int).toNat * 1)))), (115, .int .i64 (gI (gL fr (gI td2 (((td2.length : Nat) : Int) - 1))) q)), (114, .slice aJ nn3.length aS)] [(aJ = some fC), (0 ≤ (gI (gL fr (gI td2 (((td2.length : Nat) : Int) - 1))) q : Int)), ((gI (gL fr (gI td2 (((td2.length : Nat) : Int) - 1))) q : Int) < (nn3.length : Nat)), (dA.cell? (fC.add ((gI (gL fr (gI td2 (((td2.length : Nat) : Int) - 1))) q : Int).toNat * 1)) = some (.bool (gB nn3 (gI (gL fr (gI td2 (((td2.length : Nat) : Int) - 1))) q))))] (by kernel_rfl) ⟨mO, (by omega), (by omega), mP, trivial⟩ (fun qZ kT => ?_)
   clear kS
   refine At.done rfl ?_
   refine t_n ?_
   have eJ := kT.sub (r := [(118, .bool (!(gB nn3 (gI (gL fr (gI td2 (((td2.length : Nat) : Int) - 1))) q)))), (16, .int .i64 (gI (gL fr (gI td2 (((td2.length : Nat) : Int) - 1))) q)), (6, .slice aY td3.length bH), (110, .int .i64 (q)), (109, .int .i64 ((((gL fr (gI td2 (((td2.length : Nat) : Int) - 1))).length : Nat) : Int))), (108, .slice bG ((gL fr (gI td2 (((td2.length : Nat) : Int) - 1))).length) bK), (7, .slice aJ nn3.length aS), (5, .slice aC fr.length aE), (4, .pointer (some ⟨aA.heap.size, 0, none⟩)), (3, .slice aB l.length aD), (2, .slice none 0 0), (1, .pointer (some ⟨w.heap.size, 0, none⟩))]) ⟨rfl, rfl, rfl, rfl, rfl, rfl, rfl, rfl, rfl, rfl, rfl, rfl, trivial⟩
   clear kT
   refine cond_S eJ (t := !(gB nn3 (gI (gL fr (gI td2 (((td2.length : Nat) : Int) - 1))) q))) rfl (fun dP => ?_) (fun dP => ?_)
   ·have rA : (gB nn3 (gI (gL fr (gI td2 (((td2.length : Nat) : Int) - 1))) q)) = false := by first | exact Eq.mp (Bool.not_eq_true' _) dP | exact Eq.mp (Bool.not_eq_false' _) dP | simpa using dP
    refine At.start ?_
    refine At.rd eJ 4 [[], [], [], []] [(122, .int .i64 (gI (gL fr (gI td2 (((td2.length : Nat) : Int) - 1))) q)), (121, .slice aY td3.length bH), (120, .int .i64 (gI (gL fr (gI td2 (((td2.length : Nat) : Int) - 1))) q)), (119, .slice aJ nn3.length aS)] [] (by kernel_rfl) trivial (fun rB kU => ?_)
    clear eJ
    refine At.seq kU 1 [[]] [(123, .slice (some ⟨dA.heap.size, 0, none⟩) 1 1)] (dA.alloc (.cells #[.int .i64 (gI (gL fr (gI td2 (((td2.length : Nat) : Int) - 1))) q)] 3 (0, 0))) [] (by kernel_rfl) trivial (fun rC kV fY kW => ?_)
    clear kU; have bU := gr_alloc fY; have := bU.size; replace cJ := cJ.gn bU; replace dB := dB.gn bU; replace cK := cK.gn bU; replace cL := cL.grN bU; replace cM := cM.gn bU; have dU := fA.grN bU; clear fA; replace bX := bX.grN bU; replace bI := bI.grN bU; replace dC := dC.gn bU; replace dD := dD.grN bU
    have fZ : Bx kV (dA.heap.size) [.int .i64 (gI (gL fr (gI td2 (((td2.length : Nat) : Int) - 1))) q)] 3 := Bx.new fY; have := fZ.lt; clear bU fY
    have mQ : (td3 ++ ([gI (gL fr (gI td2 (((td2.length : Nat) : Int) - 1))) q])).length = (td3).length + ([gI (gL fr (gI td2 (((td2.length : Nat) : Int) - 1))) q] : List Int).length := List.length_append
    simp only [List.length_cons, List.length_nil] at mQ
    refine At.act kW (appendR (α := Int) (t := 22) (d := 124) (n := td3.length) (m := 1) (cc := 1) (xs := td3) (ys := [gI (gL fr (gI td2 (((td2.length : Nat) : Int) - 1))) q]) (bytes := 8) (by first | rfl | omega | (simp; done) | (simp; omega)) (by first | rfl | omega | (simp; done) | (simp; omega)) (by kernel_rfl) rfl (by kernel_rfl) bX (Bx.srcR (l := ([gI (gL fr (gI td2 (((td2.length : Nat) : Int) - 1))) q] : List Int)) fZ rfl) (by simp only [List.length_cons, List.length_nil]; omega) (by simp only [List.length_cons, List.length_nil]; omega)) ?_
    rintro d_ v_ fD ⟨rfl, cN, dV, dJ⟩
    obtain rfl := dJ.val
    have bY := dJ.gr
    refine ⟨_, rfl, fun rD kX => ?_⟩
    clear kW; clear fZ
    have gA := dJ.own (Sx (aL.heap.size) [some (aI.heap.size), obk (aJ), obk (aB), obk (aC)]) (fun g _ hs => ⟨hs.2.1, hs.2.2.1, hs.2.2.2.1, hs.2.2.2.2.1, hs.2.2.2.2.2⟩) ⟨(fun e => by injection e; omega), bI.ne_new, cL.ne_new, dU.ne_new, (show aL.heap.size ≤ kV.heap.size by omega)⟩
    have := bY.size; replace cJ := cJ.gr bY (fun k hk => by have := bX.ge k hk; omega); replace dB := dB.gr bY (fun k hk => by have := bX.ge k hk; omega); replace cK := cK.gr bY (fun e => by have := bX.ge _ e; omega)
    replace cL : OwnR fD (Sx (w1.heap.size) [some (dA.heap.size), some (aI.heap.size), obk (aJ), obk (cN), obk (aC), some (aA.heap.size)]) aB aD 41 ((l).set (gI td2 (((td2.length : Nat) : Int) - 1) : Int).toNat ((bestB (upG g l (gI td2 (((td2.length : Nat) : Int) - 1))) (gI g.ow (gI td2 (((td2.length : Nat) : Int) - 1))) (gL g.mv (gI td2 (((td2.length : Nat) : Int) - 1)))).1) : List Tup) := cL.grA bY (fun k hk => hk.2.2.2.1) (fun k hk hs => ⟨hs.1, hs.2.1, hs.2.2.1, own_repl dJ.at_ hs.2.2.2.1 hk, hs.2.2.2.2.1, hs.2.2.2.2.2.1, hs.2.2.2.2.2.2⟩)
    replace cM := cM.gr bY (fun e => by have := bX.ge _ e; omega)
    replace dU : OwnLL fD (aF.heap.size) [some (dA.heap.size), some (aI.heap.size), obk (aJ), obk (cN), obk (aB)] aC aE 22 3 (fr : List (List Int)) := dU.grA bY (fun k hk => hk.2.2.2.1) (fun k hk hs => ⟨hs.1, hs.2.1, hs.2.2.1, own_repl dJ.at_ hs.2.2.2.1 hk, hs.2.2.2.2.1, hs.2.2.2.2.2⟩)
    replace bI : OwnR fD (Sx (aT.heap.size) [some (dA.heap.size), some (aI.heap.size), obk (aB), obk (aC), obk (cN)]) aJ aS 4 (nn3 : List Bool) := bI.grA bY (fun k hk => hk.2.2.2.2.1) (fun k hk hs => ⟨hs.1, hs.2.1, hs.2.2.1, hs.2.2.2.1, own_repl dJ.at_ hs.2.2.2.2.1 hk, hs.2.2.2.2.2⟩)
    replace dC := dC.gr bY (bX.neb (fun g hs => hs.2.1))
    replace dD : OwnR fD (Sx (aF.heap.size) [some (dA.heap.size), obk (aC), some (aI.heap.size), obk (aJ), obk (cN), obk (aB)]) bG bK 3 (gL fr (gI td2 (((td2.length : Nat) : Int) - 1)) : List Int) := dD.grA bY (fun k hk => hk.2.2.2.2.1) (fun k hk hs => ⟨hs.1, hs.2.1, hs.2.2.1, hs.2.2.2.1, own_repl dJ.at_ hs.2.2.2.2.1 hk, hs.2.2.2.2.2.1, hs.2.2.2.2.2.2⟩)
    clear bX bY dJ
    obtain ⟨fE, kY, rE, rF, rG⟩ := bI.get (gI (gL fr (gI td2 (((td2.length : Nat) : Int) - 1))) q) (by omega) (by omega) (sz := 1) rfl
    refine At.rd kX 2 [[], [.ad fE]] [(125, .pointer (some (fE.add ((gI (gL fr (gI td2 (((td2.length : Nat) : Int) - 1))) q : Int).toNat * 1)))), (6, .slice cN ((td3 ++ ([gI (gL fr (gI td2 (((td2.length : Nat) : Int) - 1))) q])).length) dV)] [(aJ = some fE), (0 ≤ (gI (gL fr (gI td2 (((td2.length : Nat) : Int) - 1))) q : Int)), ((gI (gL fr (gI td2 (((td2.length : Nat) : Int) - 1))) q : Int) < (nn3.length : Nat))] (by kernel_rfl) ⟨kY, (by omega), (by omega), trivial⟩ (fun rH kZ => ?_)
    clear kX
    refine At.act kZ (storeR (α := Bool) (t := 4) (i := gI (gL fr (gI td2 (((td2.length : Nat) : Int) - 1))) q) (ad := fE) (v := .bool true) (true) (by kernel_rfl) rfl rfl (by kernel_rfl) kY bI (by omega) (by omega)) ?_
    rintro d_ v_ rI ⟨rfl, bZ, mR⟩
    refine ⟨_, rfl, fun rJ lA => ?_⟩
    clear kZ; have rK : ((nn3).set (gI (gL fr (gI td2 (((td2.length : Nat) : Int) - 1))) q : Int).toNat true).length = (nn3).length := List.length_set; have := bZ.size; replace cJ := cJ.gr bZ (fun k hk => by have := bI.ge k hk; omega); replace dB := dB.gr bZ (fun k hk => by have := bI.ge k hk; omega); replace cK := cK.gr bZ (fun e => by have := bI.ge _ e; omega)
    replace cL := cL.gr bZ (fun k hk => hk.2.2.1); replace cM := cM.gr bZ (fun e => by have := bI.ge _ e; omega); replace dU := dU.gr bZ (fun k hk => hk.2.2.1); replace gA := gA.gr bZ (fun k hk => hk.2.1); replace dC := dC.gr bZ (bI.neb (fun g hs => hs.2.1)); replace dD := dD.gr bZ (fun k hk => hk.2.2.2.1); clear bI bZ
    refine At.done rfl ?_
    refine b_n ?_
    refine t_n ?_
    have lB := lA.sub (r := [(6, .slice cN ((td3 ++ ([gI (gL fr (gI td2 (((td2.length : Nat) : Int) - 1))) q])).length) dV), (110, .int .i64 (q)), (109, .int .i64 ((((gL fr (gI td2 (((td2.length : Nat) : Int) - 1))).length : Nat) : Int))), (108, .slice bG ((gL fr (gI td2 (((td2.length : Nat) : Int) - 1))).length) bK), (7, .slice aJ nn3.length aS), (5, .slice aC fr.length aE), (4, .pointer (some ⟨aA.heap.size, 0, none⟩)), (3, .slice aB l.length aD), (2, .slice none 0 0), (1, .pointer (some ⟨w.heap.size, 0, none⟩))]) ⟨rfl, rfl, rfl, rfl, rfl, rfl, rfl, rfl, rfl, rfl, trivial⟩
    clear lA
    refine At.start ?_
    refine At.rd lB 2 [[.as_ (.int .i64 (q + 1))], []] [(110, .int .i64 (q + 1)), (126, .int .i64 (q + 1))] [((.int .i64 (IntKind.i64.wrap (q + 1)) : Value) = .int .i64 (q + 1))] (by kernel_rfl) ⟨(w64 (by omega) (by omega)), trivial⟩ (fun rL lC => ?_)
    clear lB
    refine At.done rfl ?_
    refine t_n ?_
    have lD := lC.as 6 (.slice cN ((td3 ++ ([gI (gL fr (gI td2 (((td2.length : Nat) : Int) - 1))) q])).length) dV) (.slice cN ((td3 ++ ([gI (gL fr (gI td2 (((td2.length : Nat) : Int) - 1))) q]) : List Int).length) dV) rfl (slice_len (by first | rfl | omega | (simp; done) | (simp; omega)))
    clear lC
    have mS := lD.as 7 (.slice aJ nn3.length aS) (.slice aJ (((nn3).set (gI (gL fr (gI td2 (((td2.length : Nat) : Int) - 1))) q : Int).toNat true : List Bool).length) aS) rfl (slice_len (by first | (simp only [List.length_set]; done) | rfl | omega | (simp; done) | (simp; omega)))
    clear lD
    have mT := mS.sub (r := [(6, .slice cN ((td3 ++ ([gI (gL fr (gI td2 (((td2.length : Nat) : Int) - 1))) q]) : List Int).length) dV), (110, .int .i64 (q + 1)), (109, .int .i64 ((((gL fr (gI td2 (((td2.length : Nat) : Int) - 1))).length : Nat) : Int))), (108, .slice bG ((gL fr (gI td2 (((td2.length : Nat) : Int) - 1))).length) bK), (7, .slice aJ (((nn3).set (gI (gL fr (gI td2 (((td2.length : Nat) : Int) - 1))) q : Int).toNat true : List Bool).length) aS), (5, .slice aC fr.length aE), (4, .pointer (some ⟨aA.heap.size, 0, none⟩)), (3, .slice aB l.length aD), (2, .slice none 0 0), (1, .pointer (some ⟨w.heap.size, 0, none⟩))]) ⟨rfl, rfl, rfl, rfl, rfl, rfl, rfl, rfl, rfl, rfl, trivial⟩
    exact ⟨_, (by omega), (q + 1), (td3 ++ ([gI (gL fr (gI td2 (((td2.length : Nat) : Int) - 1))) q]) : List Int), cN, dV, ((nn3).set (gI (gL fr (gI td2 (((td2.length : Nat) : Int) - 1))) q : Int).toNat true : List Bool), aJ, aS, rfl, mT, cJ, dB, cK, (cL.imp (fun g _ hs => ⟨hs.2.1, hs.2.2.1, hs.2.2.2.1, hs.2.2.2.2.1, hs.2.2.2.2.2.1, hs.2.2.2.2.2.2⟩)), cM, (dU.imp (fun g _ hs => ⟨hs.2.1, hs.2.2.1, hs.2.2.2.1, hs.2.2.2.2.1, hs.2.2.2.2.2⟩)), gA, (mR.imp (fun g _ hs => ⟨hs.2.1, hs.2.2.1, hs.2.2.2.1, hs.2.2.2.2.1, hs.2.2.2.2.2⟩)), dC, (dD.imp (fun g _ hs => ⟨hs.2.1, hs.2.2.1, hs.2.2.2.1, hs.2.2.2.2.1, hs.2.2.2.2.2.1, hs.2.2.2.2.2.2⟩)), (by omega), (by omega), (work_push hwr2 hrf.1 hrf.2 (by assumption)), (by omega), (by omega), (by omega), (by omega)⟩
   have rM : (gB nn3 (gI (gL fr (gI td2 (((td2.length : Nat) : Int) - 1))) q)) = true := by first | exact Eq.mp (Bool.not_eq_true' _) dP | exact Eq.mp (Bool.not_eq_false' _) dP | simpa using dP
   refine wp_skip ?_
   refine b_n ?_
   refine t_n ?_
   have lE := eJ.sub (r := [(6, .slice aY td3.length bH), (110, .int .i64 (q)), (109, .int .i64 ((((gL fr (gI td2 (((td2.length : Nat) : Int) - 1))).length : Nat) : Int))), (108, .slice bG ((gL fr (gI td2 (((td2.length : Nat) : Int) - 1))).length) bK), (7, .slice aJ nn3.length aS), (5, .slice aC fr.length aE), (4, .pointer (some ⟨aA.heap.size, 0, none⟩)), (3, .slice aB l.length aD), (2, .slice none 0 0), (1, .pointer (some ⟨w.heap.size, 0, none⟩))]) ⟨rfl, rfl, rfl, rfl, rfl, rfl, rfl, rfl, rfl, rfl, trivial⟩
   clear eJ
   refine At.start ?_
   refine At.rd lE 2 [[.as_ (.int .i64 (q + 1))], []] [(110, .int .i64 (q + 1)), (126, .int .i64 (q + 1))] [((.int .i64 (IntKind.i64.wrap (q + 1)) : Value) = .int .i64 (q + 1))] (by kernel_rfl) ⟨(w64 (by omega) (by omega)), trivial⟩ (fun rN lF => ?_)
   clear lE
   refine At.done rfl ?_
   refine t_n ?_
   have lG := lF.as 6 (.slice aY td3.length bH) (.slice aY ((td3 : List Int).length) bH) rfl (slice_len (by first | rfl | omega | (simp; done) | (simp; omega)))
   clear lF
   have mU := lG.as 7 (.slice aJ nn3.length aS) (.slice aJ ((nn3 : List Bool).length) aS) rfl (slice_len (by first | rfl | omega | (simp; done) | (simp; omega)))
   clear lG
   have mV := mU.sub (r := [(6, .slice aY ((td3 : List Int).length) bH), (110, .int .i64 (q + 1)), (109, .int .i64 ((((gL fr (gI td2 (((td2.length : Nat) : Int) - 1))).length : Nat) : Int))), (108, .slice bG ((gL fr (gI td2 (((td2.length : Nat) : Int) - 1))).length) bK), (7, .slice aJ ((nn3 : List Bool).length) aS), (5, .slice aC fr.length aE), (4, .pointer (some ⟨aA.heap.size, 0, none⟩)), (3, .slice aB l.length aD), (2, .slice none 0 0), (1, .pointer (some ⟨w.heap.size, 0, none⟩))]) ⟨rfl, rfl, rfl, rfl, rfl, rfl, rfl, rfl, rfl, rfl, trivial⟩
   exact ⟨_, (by omega), (q + 1), (td3 : List Int), aY, bH, (nn3 : List Bool), aJ, aS, rfl, mV, cJ, dB, cK, cL, cM, fA, bX, bI, dC, dD, (by omega), (by omega), (work_skip hwr2 hrf.1 hrf.2 (by assumption)), (by omega), (by omega), (by omega), (by omega)⟩
  have rO := of_decide_eq_false fX
  refine wp_exit ?_
  refine t_e ?_
  clear hm548
  refine t_e ?_
  refine b_e ?_
  refine b_n ?_
  refine t_n ?_
  have lH := eI.as 6 (.slice aY td3.length bH) (.slice aY ((td3 : List Int).length) bH) rfl (slice_len (by first | rfl | omega | (simp; done) | (simp; omega))); clear eI
  have lI := lH.as 7 (.slice aJ nn3.length aS) (.slice aJ ((nn3 : List Bool).length) aS) rfl (slice_len (by first | rfl | omega | (simp; done) | (simp; omega)))
  clear lH
  have mW := lI.as 3 (.slice aB l.length aD) (.slice aB (((l).set (gI td2 (((td2.length : Nat) : Int) - 1) : Int).toNat ((bestB (upG g l (gI td2 (((td2.length : Nat) : Int) - 1))) (gI g.ow (gI td2 (((td2.length : Nat) : Int) - 1))) (gL g.mv (gI td2 (((td2.length : Nat) : Int) - 1)))).1) : List Tup).length) aD) rfl (slice_len (by first | (simp only [List.length_set]; done) | rfl | omega | (simp; done) | (simp; omega)))
  clear lI
  have mX := mW.sub (r := [(6, .slice aY ((td3 : List Int).length) bH), (7, .slice aJ ((nn3 : List Bool).length) aS), (5, .slice aC fr.length aE), (4, .pointer (some ⟨aA.heap.size, 0, none⟩)), (3, .slice aB (((l).set (gI td2 (((td2.length : Nat) : Int) - 1) : Int).toNat ((bestB (upG g l (gI td2 (((td2.length : Nat) : Int) - 1))) (gI g.ow (gI td2 (((td2.length : Nat) : Int) - 1))) (gL g.mv (gI td2 (((td2.length : Nat) : Int) - 1)))).1) : List Tup).length) aD), (2, .slice none 0 0), (1, .pointer (some ⟨w.heap.size, 0, none⟩))]) ⟨rfl, rfl, rfl, rfl, rfl, rfl, rfl, trivial⟩
  exact ⟨_, (by rw [hm359]; first | omega | (simp only [liftT] at hfar; omega)), ((l).set (gI td2 (((td2.length : Nat) : Int) - 1) : Int).toNat ((bestB (upG g l (gI td2 (((td2.length : Nat) : Int) - 1))) (gI g.ow (gI td2 (((td2.length : Nat) : Int) - 1))) (gL g.mv (gI td2 (((td2.length : Nat) : Int) - 1)))).1) : List Tup), aB, aD, (td3 : List Int), aY, bH, (nn3 : List Bool), aJ, aS, rfl, mX, cJ, dB, cK, (cL.imp (fun g _ hs => ⟨hs.2.1, hs.2.2.1, hs.2.2.2.1, hs.2.2.2.2.1, hs.2.2.2.2.2⟩)), cM, (fA.imp (fun g _ hs => ⟨hs.2.1, hs.2.2.1, hs.2.2.2.1, hs.2.2.2.2⟩)), (bX.imp (fun g _ hs => ⟨hs.2.1, hs.2.2.1, hs.2.2.2.1, hs.2.2.2.2⟩)), (bI.imp (fun g _ hs => ⟨hs.2.1, hs.2.2.1, hs.2.2.2.1, hs.2.2.2.2⟩)), (by have e_ : (gL fr (gI td2 (((td2.length : Nat) : Int) - 1))).drop q.toNat = [] := List.drop_of_length_le (by omega); rw [e_] at hwr; exact hwr), hfrE, (by omega), (by omega), (by omega), (by omega)⟩
 have rP := of_decide_eq_false fS
 refine wp_exit ?_
 refine t_e ?_
 clear hm359
 refine t_e ?_
 refine b_e ?_
 refine t_n ?_
 have lJ := eF.sub (r := [(3, .slice aB l.length aD)]) ⟨rfl, trivial⟩; clear eF
 refine wp_seq ?_
 have hnil : td2 = [] := List.length_eq_zero_iff.1 (by omega)
 rw [hnil] at hwk
 have solved_ : LeastT g l := work_end hwk
 refine At.start ?_
 refine At.rd lJ 2 [[], []] [(2, .slice aB l.length aD), (127, .slice aB l.length aD)] [] (by kernel_rfl) trivial (fun rQ lK => ?_)
 clear lJ
 refine At.done rfl ?_
 refine t_n ?_
 have mY := lK.sub (r := [(2, .slice aB l.length aD)]) ⟨rfl, trivial⟩; clear lK
 refine wp_ret ?_
 refine ret_ mY [] [.slice aB l.length aD] [] (by kernel_rfl) trivial ?_
 exact ⟨aB, aD, _, rfl, aZ, (aR.imp (fun g _ hs => by have := Sx_base hs; show w.heap.size ≤ g; omega)), .inr ⟨by assumption, solved_⟩⟩

end Go.Proofs.Ytklbpajmoklheaa
