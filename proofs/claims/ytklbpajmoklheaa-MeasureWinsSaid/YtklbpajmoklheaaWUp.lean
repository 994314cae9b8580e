/-
  A walk of a Go function, printed by a program of this repo. Conditions: what the theorems name.
-/
import Derived.Test.YtklbpajmoklheaaPureTup
import Derived.Test.YtklbpajmoklheaaWTup
import Derived.Test.YtklbpajmoklheaaWCounts
set_option linter.unusedVariables false
set_option linter.unusedSimpArgs false
namespace Go.Proofs.Ytklbpajmoklheaa
open Go Go.RowKit

set_option maxHeartbeats 4000000 in
theorem up_any {n0 n1 n2 n3 p : Int} {t : Tup} {w : World} (h0 : n0 ≤ 140737488351232) (h1 : n1 ≤ 140737488351232) (h2 : n2 ≤ 140737488351232) (h3 : n3 ≤ 140737488351232) (ht : okT t) :
    Calls Try.prog 55 #[.agg #[.int .i64 (n0), .int .i64 (n1), .int .i64 (n2), .int .i64 (n3)], .int .i64 (p), tupV t] w fun e w' => e = .returned (.agg #[.bool (upT n0 n1 n2 n3 p t).top, .int .i64 (upT n0 n1 n2 n3 p t).c0, .int .i64 (upT n0 n1 n2 n3 p t).c1, .int .i64 (upT n0 n1 n2 n3 p t).c2, .int .i64 (upT n0 n1 n2 n3 p t).c3]) ∧ Ext w w' := by
 refine enter_ (args := [.agg #[.int .i64 (n0), .int .i64 (n1), .int .i64 (n2), .int .i64 (n3)], .int .i64 (p), tupV t]) Try.func55 rfl Try.ntmps55 (Nat.le_of_ble_eq_true rfl) (fun act0 f0 => ?_)
 have e0 : Ext w w := Ext.refl w
 refine wp_seq ?_
 refine At.start ?_
 refine At.seq f0 1 [[]] [(3, .pointer (some ⟨w.heap.size, 0, none⟩))] (w.alloc (.cells #[.int .i64 (n0), .int .i64 (n1), .int .i64 (n2), .int .i64 (n3)] 38 (0, 0))) [] (by kernel_rfl) trivial (fun act4 w1 hw2 f3 => ?_)
 clear f0; have g5 := gr_alloc hw2; have := g5.size; replace e0 := e0.gn g5; have bx8 : Bx w1 (w.heap.size) [.int .i64 (n0), .int .i64 (n1), .int .i64 (n2), .int .i64 (n3)] 38 := Bx.new hw2; have := bx8.lt; clear g5 hw2
 refine At.seq f3 1 [[]] [(5, .pointer (some ⟨w1.heap.size, 0, none⟩))] (w1.alloc (.cells ((tupC t)).toArray 41 (0, 0))) [] (by kernel_rfl) trivial (fun eS w9 bQ bY => ?_)
 clear f3; have bP := gr_alloc bQ; have := bP.size; replace e0 := e0.gn bP; replace bx8 := bx8.gn bP; have aJ : Bx w9 (w1.heap.size) (tupC t) 41 := Bx.new bQ; have := aJ.lt; clear bP bQ
 refine At.seq bY 1 [[]] [(6, .pointer (some ⟨w9.heap.size, 0, none⟩))] (w9.alloc (.cells #[.bool false, .int .i64 (0), .int .i64 (0), .int .i64 (0), .int .i64 (0)] 41 (0, 0))) [] (by kernel_rfl) trivial (fun eT bZ bR cA => ?_)
 clear bY; have aY := gr_alloc bR; have := aY.size; replace e0 := e0.gn aY; replace bx8 := bx8.gn aY; replace aJ := aJ.gn aY; have aZ : Bx bZ (w9.heap.size) [.bool false, .int .i64 (0), .int .i64 (0), .int .i64 (0), .int .i64 (0)] 41 := Bx.new bR; have := aZ.lt; clear aY bR
 refine At.done rfl ?_
 refine t_n ?_
 have cB := cA.sub (r := [(6, .pointer (some ⟨w9.heap.size, 0, none⟩)), (5, .pointer (some ⟨w1.heap.size, 0, none⟩)), (3, .pointer (some ⟨w.heap.size, 0, none⟩)), (1, .int .i64 (p))]) ⟨rfl, rfl, rfl, rfl, trivial⟩
 clear cA
 refine wp_seq ?_
 refine wp_seq ?_
 refine At.start ?_
 refine At.rd cB 2 [[], [.ld (.bool (t.top))]] [(10, .bool (t.top)), (9, .pointer (some ⟨w1.heap.size, 0, none⟩))] [(bZ.cell? ⟨w1.heap.size, 0, none⟩ = some (.bool (t.top)))] (by kernel_rfl) ⟨(aJ.cell (i := 0) rfl), trivial⟩ (fun eU cC => ?_)
 clear cB
 refine At.done rfl ?_
 refine t_n ?_
 have bA := cC.sub (r := [(10, .bool (t.top)), (6, .pointer (some ⟨w9.heap.size, 0, none⟩)), (5, .pointer (some ⟨w1.heap.size, 0, none⟩)), (3, .pointer (some ⟨w.heap.size, 0, none⟩)), (1, .int .i64 (p))]) ⟨rfl, rfl, rfl, rfl, rfl, trivial⟩
 clear cC
 refine cond_S bA (t := t.top) rfl (fun dY => ?_) (fun dY => ?_)
 ·refine wp_seq ?_
  refine At.start ?_
  refine At.rd bA 1 [[]] [(11, .agg #[.bool true, .int .i64 (0), .int .i64 (0), .int .i64 (0), .int .i64 (0)])] [] (by kernel_rfl) trivial (fun eV cD => ?_)
  clear bA
  refine At.store cD (t := 41) (b := w9.heap.size) (off := 0) (v := .agg #[.bool true, .int .i64 (0), .int .i64 (0), .int .i64 (0), .int .i64 (0)]) (by kernel_rfl) aZ (by kernel_rfl) (fun eW aQ bB aK cE => ?_)
  clear cD; replace aK : Bx aQ (w9.heap.size) [.bool true, .int .i64 (0), .int .i64 (0), .int .i64 (0), .int .i64 (0)] 41 := aK; have := bB.size; replace e0 := e0.gr bB (fun k h => by injection h; omega); replace bx8 := bx8.gb bB (by omega); replace aJ := aJ.gb bB (by omega); clear aZ bB
  refine At.done rfl ?_
  refine t_n ?_
  have dZ := cE.sub (r := [(6, .pointer (some ⟨w9.heap.size, 0, none⟩))]) ⟨rfl, trivial⟩; clear cE
  refine wp_ret ?_
  refine t_r ?_
  refine ret_ dZ [[.bool true, .int .i64 (0), .int .i64 (0), .int .i64 (0), .int .i64 (0)]] [.agg #[.bool true, .int .i64 (0), .int .i64 (0), .int .i64 (0), .int .i64 (0)]] [(aQ.cell? ⟨w9.heap.size, 0, none⟩ = some (.bool true)), (aQ.cell? ⟨w9.heap.size, 1, none⟩ = some (.int .i64 (0))), (aQ.cell? ⟨w9.heap.size, 2, none⟩ = some (.int .i64 (0))), (aQ.cell? ⟨w9.heap.size, 3, none⟩ = some (.int .i64 (0))), (aQ.cell? ⟨w9.heap.size, 4, none⟩ = some (.int .i64 (0)))] (by kernel_rfl) ⟨(aK.cell (i := 0) rfl), (aK.cell (i := 1) rfl), (aK.cell (i := 2) rfl), (aK.cell (i := 3) rfl), (aK.cell (i := 4) rfl), trivial⟩ ?_
  exact ⟨tup_ret (by first | exact up_top (by assumption) | exact up_odd (by assumption) (by assumption) (inc_no hfu (by omega))), e0⟩
 refine wp_skip ?_
 refine t_n ?_
 have cF := bA.sub (r := [(6, .pointer (some ⟨w9.heap.size, 0, none⟩)), (5, .pointer (some ⟨w1.heap.size, 0, none⟩)), (3, .pointer (some ⟨w.heap.size, 0, none⟩)), (1, .int .i64 (p))]) ⟨rfl, rfl, rfl, rfl, trivial⟩
 clear bA
 refine wp_seq ?_
 refine wp_seq ?_
 refine At.start ?_
 refine At.rd cF 1 [[]] [(12, .int .i64 (0))] [] (by kernel_rfl) trivial (fun eX cG => ?_)
 clear cF
 refine At.done rfl ?_
 refine t_n ?_
 refine wp_block ?_
 have cH := cG.sub (r := [(12, .int .i64 (0)), (6, .pointer (some ⟨w9.heap.size, 0, none⟩)), (5, .pointer (some ⟨w1.heap.size, 0, none⟩)), (3, .pointer (some ⟨w.heap.size, 0, none⟩)), (1, .int .i64 (p))]) ⟨rfl, rfl, rfl, rfl, rfl, trivial⟩
 refine loop_g (fun (m_ : Nat) a_ w_ => ∃ (k : Int), m_ = (4 - k).toNat ∧ (Frm 55 a_ [(12, .int .i64 (k)), (6, .pointer (some ⟨w9.heap.size, 0, none⟩)), (5, .pointer (some ⟨w1.heap.size, 0, none⟩)), (3, .pointer (some ⟨w.heap.size, 0, none⟩)), (1, .int .i64 (p))]) ∧ (Ext w w_) ∧ (Bx w_ (w.heap.size) [.int .i64 (n0), .int .i64 (n1), .int .i64 (n2), .int .i64 (n3)] 38) ∧ (Bx w_ (w1.heap.size) [.bool (t.top), .int .i64 (kp p k 1 0 t.c0), .int .i64 (kp p k 3 1 t.c1), .int .i64 (kp p k 5 2 t.c2), .int .i64 (kp p k 7 3 t.c3)] 41) ∧ (Bx w_ (w9.heap.size) [.bool false, .int .i64 (0), .int .i64 (0), .int .i64 (0), .int .i64 (0)] 41) ∧ (0 ≤ k) ∧ (k ≤ 4)) _ ⟨0, rfl, cH, e0, bx8, (aJ.as (v5_eq rfl (kp0 (by omega)) (kp0 (by omega)) (kp0 (by omega)) (kp0 (by omega)))), aZ, (by omega), (by omega)⟩ ?_
 clear cH cG; clear bx8; clear aJ; clear aZ; clear e0
 intro m_ eY bC ⟨k, hm53, cI, aF, aG, aC, aH, i58, i59⟩
 have := aF.size; have := aG.lt; have := aC.lt; have := aH.lt
 refine wp_seq ?_
 refine At.start ?_
 refine At.rd cI 1 [[]] [(13, .bool (decide ((k : Int) < 4)))] [] (by kernel_rfl) trivial (fun eZ bD => ?_)
 clear cI
 refine At.done rfl ?_
 refine t_n ?_
 refine wp_seq ?_
 refine cond_S bD (t := decide ((k : Int) < 4)) rfl (fun bS => ?_) (fun bS => ?_)
 ·have q63 := of_decide_eq_true bS
  refine wp_skip ?_
  refine t_n ?_
  have cJ := bD.sub (r := [(12, .int .i64 (k)), (6, .pointer (some ⟨w9.heap.size, 0, none⟩)), (5, .pointer (some ⟨w1.heap.size, 0, none⟩)), (3, .pointer (some ⟨w.heap.size, 0, none⟩)), (1, .int .i64 (p))]) ⟨rfl, rfl, rfl, rfl, rfl, trivial⟩
  clear bD
  refine wp_seq ?_
  refine wp_block ?_
  refine wp_seq ?_
  refine At.start ?_
  refine At.rd cJ 2 [[], []] [(7, .int .i64 (k)), (14, .int .i64 (k))] [] (by kernel_rfl) trivial (fun fA cK => ?_)
  clear cJ
  refine At.done rfl ?_
  refine t_n ?_
  have cL := cK.sub (r := [(7, .int .i64 (k)), (12, .int .i64 (k)), (6, .pointer (some ⟨w9.heap.size, 0, none⟩)), (5, .pointer (some ⟨w1.heap.size, 0, none⟩)), (3, .pointer (some ⟨w.heap.size, 0, none⟩)), (1, .int .i64 (p))]) ⟨rfl, rfl, rfl, rfl, rfl, rfl, trivial⟩
  clear cK
  refine wp_seq ?_
  refine At.start ?_
  refine At.rd cL 2 [[], []] [(16, .int .i64 (p)), (15, .int .i64 (k))] [] (by kernel_rfl) trivial (fun fB cM => ?_)
  clear cL
  refine At.call cM 43 #[.int .i64 (k), .int .i64 (p)] (some 17) (by kernel_rfl) (above_any (k := k) (p := p) (by omega) (by omega)) ?_
  rintro e_ fC ⟨rfl, he⟩
  refine ⟨_, rfl, _, rfl, fun fD cN => ?_⟩
  clear cM; have aR := gr_ext he; have := aR.size; replace aF := aF.gn aR; replace aG := aG.gn aR; replace aC := aC.gn aR; replace aH := aH.gn aR; clear aR he
  refine At.rd cN 1 [[]] [(18, .bool (!(decide (2 * k + 1 ≥ p))))] [] (by kernel_rfl) trivial (fun fE cO => ?_)
  clear cN
  refine At.done rfl ?_
  refine t_n ?_
  have bE := cO.sub (r := [(18, .bool (!(decide (2 * k + 1 ≥ p)))), (7, .int .i64 (k)), (12, .int .i64 (k)), (6, .pointer (some ⟨w9.heap.size, 0, none⟩)), (5, .pointer (some ⟨w1.heap.size, 0, none⟩)), (3, .pointer (some ⟨w.heap.size, 0, none⟩)), (1, .int .i64 (p))]) ⟨rfl, rfl, rfl, rfl, rfl, rfl, rfl, trivial⟩
  clear cO
  refine cond_S bE (t := !(decide (2 * k + 1 ≥ p))) rfl (fun aL => ?_) (fun aL => ?_)
  ·have eA : (decide (2 * k + 1 ≥ p)) = false := by first | exact Eq.mp (Bool.not_eq_true' _) aL | exact Eq.mp (Bool.not_eq_false' _) aL | simpa using aL
   have fF := of_decide_eq_false eA
   refine At.start ?_
   refine At.rd bE 3 [[], [], []] [(21, .pointer (some ((⟨w1.heap.size, 1, none⟩ : Addr).add ((k : Int).toNat * 1)))), (20, .pointer (some ⟨w1.heap.size, 1, none⟩)), (19, .int .i64 (k))] [(0 ≤ (k : Int)), ((k : Int) < (4 : Nat))] (by kernel_rfl) ⟨(by omega), (by omega), trivial⟩ (fun fG cP => ?_)
   clear bE
   refine At.act cP (storeArr (pre := [.bool (t.top)]) (l := [kp p k 1 0 t.c0, kp p k 3 1 t.c1, kp p k 5 2 t.c2, kp p k 7 3 t.c3]) (post := []) (t := 3) (v := 0) (i := k) (by kernel_rfl) (by kernel_rfl) aC rfl rfl (by omega) (by simp only [List.length_cons, List.length_nil]; omega)) ?_
   rintro d_ v_ eB ⟨rfl, bF, bT⟩
   refine ⟨_, rfl, fun fH cQ => ?_⟩
   clear cP
   replace bT : Bx eB (w1.heap.size) [.bool (t.top), .int .i64 (if k = 0 then 0 else kp p k 1 0 t.c0), .int .i64 (if k = 1 then 0 else kp p k 3 1 t.c1), .int .i64 (if k = 2 then 0 else kp p k 5 2 t.c2), .int .i64 (if k = 3 then 0 else kp p k 7 3 t.c3)] 41 := bT.as (by rw [set4 k (by omega) (by omega)]; rfl)
   have := bF.size; replace aF := aF.gr bF (fun k h => by injection h; omega); replace aG := aG.gb bF (by omega); replace aH := aH.gb bF (by omega); clear aC bF
   refine At.done rfl ?_
   refine b_n ?_
   refine t_n ?_
   have cR := cQ.sub (r := [(12, .int .i64 (k)), (6, .pointer (some ⟨w9.heap.size, 0, none⟩)), (5, .pointer (some ⟨w1.heap.size, 0, none⟩)), (3, .pointer (some ⟨w.heap.size, 0, none⟩)), (1, .int .i64 (p))]) ⟨rfl, rfl, rfl, rfl, rfl, trivial⟩
   clear cQ
   refine At.start ?_
   refine At.rd cR 2 [[.as_ (.int .i64 (k + 1))], []] [(12, .int .i64 (k + 1)), (22, .int .i64 (k + 1))] [((.int .i64 (IntKind.i64.wrap (k + 1)) : Value) = .int .i64 (k + 1))] (by kernel_rfl) ⟨(w64 (by omega) (by omega)), trivial⟩ (fun fI eC => ?_)
   clear cR
   refine At.done rfl ?_
   refine t_n ?_
   have eD := eC.sub (r := [(12, .int .i64 (k + 1)), (6, .pointer (some ⟨w9.heap.size, 0, none⟩)), (5, .pointer (some ⟨w1.heap.size, 0, none⟩)), (3, .pointer (some ⟨w.heap.size, 0, none⟩)), (1, .int .i64 (p))]) ⟨rfl, rfl, rfl, rfl, rfl, trivial⟩
   exact ⟨_, (by omega), (k + 1), rfl, eD, aF, aG, (bT.as (by first | exact (v5_eq rfl (kp_keep (by omega) rfl) (kp_keep (by omega) rfl) (kp_keep (by omega) rfl) (kp_keep (by omega) rfl)) | exact (v5_eq rfl (kp_zero (by omega) rfl) (kp_zero (by omega) rfl) (kp_zero (by omega) rfl) (kp_zero (by omega) rfl)))), aH, (by omega), (by omega)⟩
  have eE : (decide (2 * k + 1 ≥ p)) = true := by first | exact Eq.mp (Bool.not_eq_true' _) aL | exact Eq.mp (Bool.not_eq_false' _) aL | simpa using aL
  have fJ := of_decide_eq_true eE
  refine wp_skip ?_
  refine b_n ?_
  refine t_n ?_
  have cS := bE.sub (r := [(12, .int .i64 (k)), (6, .pointer (some ⟨w9.heap.size, 0, none⟩)), (5, .pointer (some ⟨w1.heap.size, 0, none⟩)), (3, .pointer (some ⟨w.heap.size, 0, none⟩)), (1, .int .i64 (p))]) ⟨rfl, rfl, rfl, rfl, rfl, trivial⟩
  clear bE
  refine At.start ?_
  refine At.rd cS 2 [[.as_ (.int .i64 (k + 1))], []] [(12, .int .i64 (k + 1)), (22, .int .i64 (k + 1))] [((.int .i64 (IntKind.i64.wrap (k + 1)) : Value) = .int .i64 (k + 1))] (by kernel_rfl) ⟨(w64 (by omega) (by omega)), trivial⟩ (fun fK eF => ?_)
  clear cS
  refine At.done rfl ?_
  refine t_n ?_
  have eG := eF.sub (r := [(12, .int .i64 (k + 1)), (6, .pointer (some ⟨w9.heap.size, 0, none⟩)), (5, .pointer (some ⟨w1.heap.size, 0, none⟩)), (3, .pointer (some ⟨w.heap.size, 0, none⟩)), (1, .int .i64 (p))]) ⟨rfl, rfl, rfl, rfl, rfl, trivial⟩
  exact ⟨_, (by omega), (k + 1), rfl, eG, aF, aG, (aC.as (by first | exact (v5_eq rfl (kp_keep (by omega) rfl) (kp_keep (by omega) rfl) (kp_keep (by omega) rfl) (kp_keep (by omega) rfl)) | exact (v5_eq rfl (kp_zero (by omega) rfl) (kp_zero (by omega) rfl) (kp_zero (by omega) rfl) (kp_zero (by omega) rfl)))), aH, (by omega), (by omega)⟩
 have fL := of_decide_eq_false bS
 refine wp_exit ?_
 refine t_e ?_
 clear hm53
 refine t_e ?_
 refine b_e ?_
 refine t_n ?_
 have cT := bD.sub (r := [(6, .pointer (some ⟨w9.heap.size, 0, none⟩)), (5, .pointer (some ⟨w1.heap.size, 0, none⟩)), (3, .pointer (some ⟨w.heap.size, 0, none⟩)), (1, .int .i64 (p))]) ⟨rfl, rfl, rfl, rfl, trivial⟩
 clear bD
 refine wp_seq ?_
 refine wp_seq ?_
 refine At.start ?_
 refine At.rd cT 3 [[], [], []] [(25, .bool ((IntKind.i64.wrap ((BitVec.ofInt 64 p &&& BitVec.ofInt 64 1).toNat : Int) : Int) == 0)), (24, .int .i64 (IntKind.i64.wrap ((BitVec.ofInt 64 p &&& BitVec.ofInt 64 1).toNat : Int))), (23, .int .i64 (p))] [] (by kernel_rfl) trivial (fun fM cU => ?_)
 clear cT
 refine At.done rfl ?_
 refine t_n ?_
 have bG := cU.sub (r := [(25, .bool ((IntKind.i64.wrap ((BitVec.ofInt 64 p &&& BitVec.ofInt 64 1).toNat : Int) : Int) == 0)), (6, .pointer (some ⟨w9.heap.size, 0, none⟩)), (5, .pointer (some ⟨w1.heap.size, 0, none⟩)), (3, .pointer (some ⟨w.heap.size, 0, none⟩)), (1, .int .i64 (p))]) ⟨rfl, rfl, rfl, rfl, rfl, trivial⟩
 clear cU
 refine cond_S bG (t := (IntKind.i64.wrap ((BitVec.ofInt 64 p &&& BitVec.ofInt 64 1).toNat : Int) : Int) == 0) rfl (fun bU => ?_) (fun bU => ?_)
 ·have fN := eq_of_beq bU
  refine wp_seq ?_
  refine At.start ?_
  refine At.rd bG 1 [[.ld (.bool (t.top)), .ld (.int .i64 (kp p k 1 0 t.c0)), .ld (.int .i64 (kp p k 3 1 t.c1)), .ld (.int .i64 (kp p k 5 2 t.c2)), .ld (.int .i64 (kp p k 7 3 t.c3))]] [(26, .agg #[.bool (t.top), .int .i64 (kp p k 1 0 t.c0), .int .i64 (kp p k 3 1 t.c1), .int .i64 (kp p k 5 2 t.c2), .int .i64 (kp p k 7 3 t.c3)])] [(bC.cell? ⟨w1.heap.size, 0, none⟩ = some (.bool (t.top))), (bC.cell? ⟨w1.heap.size, 1, none⟩ = some (.int .i64 (kp p k 1 0 t.c0))), (bC.cell? ⟨w1.heap.size, 2, none⟩ = some (.int .i64 (kp p k 3 1 t.c1))), (bC.cell? ⟨w1.heap.size, 3, none⟩ = some (.int .i64 (kp p k 5 2 t.c2))), (bC.cell? ⟨w1.heap.size, 4, none⟩ = some (.int .i64 (kp p k 7 3 t.c3)))] (by kernel_rfl) ⟨(aC.cell (i := 0) rfl), (aC.cell (i := 1) rfl), (aC.cell (i := 2) rfl), (aC.cell (i := 3) rfl), (aC.cell (i := 4) rfl), trivial⟩ (fun fO cV => ?_)
  clear bG
  refine At.store cV (t := 41) (b := w9.heap.size) (off := 0) (v := .agg #[.bool (t.top), .int .i64 (kp p k 1 0 t.c0), .int .i64 (kp p k 3 1 t.c1), .int .i64 (kp p k 5 2 t.c2), .int .i64 (kp p k 7 3 t.c3)]) (by kernel_rfl) aH (by kernel_rfl) (fun fP aS bH aM cW => ?_)
  clear cV
  replace aM : Bx aS (w9.heap.size) [.bool (t.top), .int .i64 (kp p k 1 0 t.c0), .int .i64 (kp p k 3 1 t.c1), .int .i64 (kp p k 5 2 t.c2), .int .i64 (kp p k 7 3 t.c3)] 41 := aM
  have := bH.size; replace aF := aF.gr bH (fun k h => by injection h; omega); replace aG := aG.gb bH (by omega); replace aC := aC.gb bH (by omega); clear aH bH
  refine At.done rfl ?_
  refine t_n ?_
  have eH := cW.sub (r := [(6, .pointer (some ⟨w9.heap.size, 0, none⟩))]) ⟨rfl, trivial⟩; clear cW
  refine wp_ret ?_
  refine t_r ?_
  refine ret_ eH [[.bool (t.top), .int .i64 (kp p k 1 0 t.c0), .int .i64 (kp p k 3 1 t.c1), .int .i64 (kp p k 5 2 t.c2), .int .i64 (kp p k 7 3 t.c3)]] [.agg #[.bool (t.top), .int .i64 (kp p k 1 0 t.c0), .int .i64 (kp p k 3 1 t.c1), .int .i64 (kp p k 5 2 t.c2), .int .i64 (kp p k 7 3 t.c3)]] [(aS.cell? ⟨w9.heap.size, 0, none⟩ = some (.bool (t.top))), (aS.cell? ⟨w9.heap.size, 1, none⟩ = some (.int .i64 (kp p k 1 0 t.c0))), (aS.cell? ⟨w9.heap.size, 2, none⟩ = some (.int .i64 (kp p k 3 1 t.c1))), (aS.cell? ⟨w9.heap.size, 3, none⟩ = some (.int .i64 (kp p k 5 2 t.c2))), (aS.cell? ⟨w9.heap.size, 4, none⟩ = some (.int .i64 (kp p k 7 3 t.c3)))] (by kernel_rfl) ⟨(aM.cell (i := 0) rfl), (aM.cell (i := 1) rfl), (aM.cell (i := 2) rfl), (aM.cell (i := 3) rfl), (aM.cell (i := 4) rfl), trivial⟩ ?_
  exact ⟨tup_ret (by (obtain rfl : k = 4 := by omega); exact up_even (by assumption) (by assumption) (by assumption)), aF⟩
 have fQ := ne_of_beq_false bU
 refine wp_skip ?_
 refine t_n ?_
 have cX := bG.sub (r := [(6, .pointer (some ⟨w9.heap.size, 0, none⟩)), (5, .pointer (some ⟨w1.heap.size, 0, none⟩)), (3, .pointer (some ⟨w.heap.size, 0, none⟩)), (1, .int .i64 (p))]) ⟨rfl, rfl, rfl, rfl, trivial⟩
 clear bG
 refine wp_seq ?_
 refine wp_seq ?_
 refine At.start ?_
 refine At.rd cX 1 [[]] [(27, .int .i64 (0))] [] (by kernel_rfl) trivial (fun fR cY => ?_)
 clear cX
 refine At.done rfl ?_
 refine t_n ?_
 refine wp_block ?_
 have cZ := cY.sub (r := [(27, .int .i64 (0)), (6, .pointer (some ⟨w9.heap.size, 0, none⟩)), (5, .pointer (some ⟨w1.heap.size, 0, none⟩)), (3, .pointer (some ⟨w.heap.size, 0, none⟩)), (1, .int .i64 (p))]) ⟨rfl, rfl, rfl, rfl, rfl, trivial⟩
 refine loop_g (fun (m_ : Nat) a_ w_ => ∃ (i : Int), m_ = (4 - i).toNat ∧ (Frm 55 a_ [(27, .int .i64 (i)), (6, .pointer (some ⟨w9.heap.size, 0, none⟩)), (5, .pointer (some ⟨w1.heap.size, 0, none⟩)), (3, .pointer (some ⟨w.heap.size, 0, none⟩)), (1, .int .i64 (p))]) ∧ (Ext w w_) ∧ (Bx w_ (w.heap.size) [.int .i64 (n0), .int .i64 (n1), .int .i64 (n2), .int .i64 (n3)] 38) ∧ (Bx w_ (w1.heap.size) [.bool (t.top), .int .i64 (k2 p i 1 0 (keepT p t).c0), .int .i64 (k2 p i 3 1 (keepT p t).c1), .int .i64 (k2 p i 5 2 (keepT p t).c2), .int .i64 (k2 p i 7 3 (keepT p t).c3)] 41) ∧ (Bx w_ (w9.heap.size) [.bool false, .int .i64 (0), .int .i64 (0), .int .i64 (0), .int .i64 (0)] 41) ∧ (0 ≤ i) ∧ (i ≤ 4) ∧ (full4 n0 n1 n2 n3 p i (keepT p t))) _ ⟨0, rfl, cZ, aF, aG, (aC.as (by (obtain rfl : k = 4 := by omega); exact kp_k2 rfl)), aH, (by omega), (by omega), full0⟩ ?_
 clear cZ cY; clear aG; clear aC; clear aH; clear aF
 intro m_ fS fT ⟨i, hm130, dA, aA, aB, aE, aD, i135, i136, hfu⟩
 have := aA.size; have := aB.lt; have := aE.lt; have := aD.lt
 refine wp_seq ?_
 refine At.start ?_
 refine At.rd dA 1 [[]] [(28, .bool (decide ((i : Int) < 4)))] [] (by kernel_rfl) trivial (fun fU bI => ?_)
 clear dA
 refine At.done rfl ?_
 refine t_n ?_
 refine wp_seq ?_
 refine cond_S bI (t := decide ((i : Int) < 4)) rfl (fun bV => ?_) (fun bV => ?_)
 ·have fV := of_decide_eq_true bV
  refine wp_skip ?_
  refine t_n ?_
  have dB := bI.sub (r := [(27, .int .i64 (i)), (6, .pointer (some ⟨w9.heap.size, 0, none⟩)), (5, .pointer (some ⟨w1.heap.size, 0, none⟩)), (3, .pointer (some ⟨w.heap.size, 0, none⟩)), (1, .int .i64 (p))]) ⟨rfl, rfl, rfl, rfl, rfl, trivial⟩
  clear bI
  refine wp_seq ?_
  refine wp_block ?_
  refine wp_seq ?_
  refine At.start ?_
  refine At.rd dB 2 [[], []] [(8, .int .i64 (i)), (29, .int .i64 (i))] [] (by kernel_rfl) trivial (fun fW dC => ?_)
  clear dB
  refine At.done rfl ?_
  refine t_n ?_
  have dD := dC.sub (r := [(8, .int .i64 (i)), (27, .int .i64 (i)), (6, .pointer (some ⟨w9.heap.size, 0, none⟩)), (5, .pointer (some ⟨w1.heap.size, 0, none⟩)), (3, .pointer (some ⟨w.heap.size, 0, none⟩)), (1, .int .i64 (p))]) ⟨rfl, rfl, rfl, rfl, rfl, rfl, trivial⟩
  clear dC
  refine wp_seq ?_
  refine wp_seq ?_
  refine At.start ?_
  refine At.rd dD 2 [[], []] [(31, .int .i64 (p)), (30, .int .i64 (i))] [] (by kernel_rfl) trivial (fun fX dE => ?_)
  clear dD
  refine At.call dE 43 #[.int .i64 (i), .int .i64 (p)] (some 32) (by kernel_rfl) (above_any (k := i) (p := p) (by omega) (by omega)) ?_
  rintro e_ dF ⟨rfl, he⟩
  refine ⟨_, rfl, _, rfl, fun fY dG => ?_⟩
  clear dE; have aT := gr_ext he; have := aT.size; replace aA := aA.gn aT; replace aB := aB.gn aT; replace aE := aE.gn aT; replace aD := aD.gn aT; clear aT he
  refine At.rd dG 1 [[]] [(33, .bool (!(decide (2 * i + 1 ≥ p))))] [] (by kernel_rfl) trivial (fun fZ dH => ?_)
  clear dG
  refine At.done rfl ?_
  refine t_n ?_
  have bJ := dH.sub (r := [(33, .bool (!(decide (2 * i + 1 ≥ p)))), (8, .int .i64 (i)), (27, .int .i64 (i)), (6, .pointer (some ⟨w9.heap.size, 0, none⟩)), (5, .pointer (some ⟨w1.heap.size, 0, none⟩)), (3, .pointer (some ⟨w.heap.size, 0, none⟩)), (1, .int .i64 (p))]) ⟨rfl, rfl, rfl, rfl, rfl, rfl, rfl, trivial⟩
  clear dH
  refine cond_S bJ (t := !(decide (2 * i + 1 ≥ p))) rfl (fun aN => ?_) (fun aN => ?_)
  ·have eI : (decide (2 * i + 1 ≥ p)) = false := by first | exact Eq.mp (Bool.not_eq_true' _) aN | exact Eq.mp (Bool.not_eq_false' _) aN | simpa using aN
   have gA := of_decide_eq_false eI
   refine wp_exit ?_
   refine t_e ?_
   refine b_e ?_
   refine t_n ?_
   have dI := bJ.sub (r := [(27, .int .i64 (i)), (6, .pointer (some ⟨w9.heap.size, 0, none⟩)), (5, .pointer (some ⟨w1.heap.size, 0, none⟩)), (3, .pointer (some ⟨w.heap.size, 0, none⟩)), (1, .int .i64 (p))]) ⟨rfl, rfl, rfl, rfl, rfl, trivial⟩
   clear bJ
   refine At.start ?_
   refine At.rd dI 2 [[.as_ (.int .i64 (i + 1))], []] [(27, .int .i64 (i + 1)), (53, .int .i64 (i + 1))] [((.int .i64 (IntKind.i64.wrap (i + 1)) : Value) = .int .i64 (i + 1))] (by kernel_rfl) ⟨(w64 (by omega) (by omega)), trivial⟩ (fun gB eJ => ?_)
   clear dI
   refine At.done rfl ?_
   refine t_n ?_
   have eK := eJ.sub (r := [(27, .int .i64 (i + 1)), (6, .pointer (some ⟨w9.heap.size, 0, none⟩)), (5, .pointer (some ⟨w1.heap.size, 0, none⟩)), (3, .pointer (some ⟨w.heap.size, 0, none⟩)), (1, .int .i64 (p))]) ⟨rfl, rfl, rfl, rfl, rfl, trivial⟩
   exact ⟨_, (by omega), (i + 1), rfl, eK, aA, aB, (aE.as (by first | exact (v5_eq rfl (k2_keep (by omega) rfl) (k2_keep (by omega) rfl) (k2_keep (by omega) rfl) (k2_keep (by omega) rfl)) | exact (v5_eq rfl (k2_zero (by omega) rfl) (k2_zero (by omega) rfl) (k2_zero (by omega) rfl) (k2_zero (by omega) rfl)))), aD, (by omega), (by omega), (by first | exact full_keep hfu (by omega) (by omega) | exact full_next hfu (by omega) (by omega) (by assumption))⟩
  have eL : (decide (2 * i + 1 ≥ p)) = true := by first | exact Eq.mp (Bool.not_eq_true' _) aN | exact Eq.mp (Bool.not_eq_false' _) aN | simpa using aN
  have gC := of_decide_eq_true eL
  refine wp_skip ?_
  refine t_n ?_
  have dJ := bJ.sub (r := [(8, .int .i64 (i)), (27, .int .i64 (i)), (6, .pointer (some ⟨w9.heap.size, 0, none⟩)), (5, .pointer (some ⟨w1.heap.size, 0, none⟩)), (3, .pointer (some ⟨w.heap.size, 0, none⟩)), (1, .int .i64 (p))]) ⟨rfl, rfl, rfl, rfl, rfl, rfl, trivial⟩
  clear bJ
  refine wp_seq ?_
  refine wp_seq ?_
  refine drawn_ro dJ (by kernel_rfl) (by kernel_rfl) [[], [], [], [.ld (.int .i64 (gI [k2 p i 1 0 (keepT p t).c0, k2 p i 3 1 (keepT p t).c1, k2 p i 5 2 (keepT p t).c2, k2 p i 7 3 (keepT p t).c3] i))], [], [], [.ld (.int .i64 (gI [n0, n1, n2, n3] i))], []] [(41, .bool (decide ((gI [k2 p i 1 0 (keepT p t).c0, k2 p i 3 1 (keepT p t).c1, k2 p i 5 2 (keepT p t).c2, k2 p i 7 3 (keepT p t).c3] i : Int) < (gI [n0, n1, n2, n3] i)))), (40, .int .i64 (gI [n0, n1, n2, n3] i)), (39, .pointer (some ((⟨w.heap.size, 0, none⟩ : Addr).add ((i : Int).toNat * 1)))), (38, .int .i64 (i)), (37, .int .i64 (gI [k2 p i 1 0 (keepT p t).c0, k2 p i 3 1 (keepT p t).c1, k2 p i 5 2 (keepT p t).c2, k2 p i 7 3 (keepT p t).c3] i)), (36, .pointer (some ((⟨w1.heap.size, 1, none⟩ : Addr).add ((i : Int).toNat * 1)))), (35, .pointer (some ⟨w1.heap.size, 1, none⟩)), (34, .int .i64 (i))] [(0 ≤ (i : Int)), ((i : Int) < (4 : Nat)), (dF.cell? ((⟨w1.heap.size, 1, none⟩ : Addr).add ((i : Int).toNat * 1)) = some (.int .i64 (gI [k2 p i 1 0 (keepT p t).c0, k2 p i 3 1 (keepT p t).c1, k2 p i 5 2 (keepT p t).c2, k2 p i 7 3 (keepT p t).c3] i))), (0 ≤ (i : Int)), ((i : Int) < (4 : Nat)), (dF.cell? ((⟨w.heap.size, 0, none⟩ : Addr).add ((i : Int).toNat * 1)) = some (.int .i64 (gI [n0, n1, n2, n3] i)))] (by kernel_rfl) ⟨(by omega), (by omega), (Bx.arr (pre := [.bool (t.top)]) (l := [k2 p i 1 0 (keepT p t).c0, k2 p i 3 1 (keepT p t).c1, k2 p i 5 2 (keepT p t).c2, k2 p i 7 3 (keepT p t).c3]) (post := []) aE rfl i (by omega) (by simp only [List.length_cons, List.length_nil]; omega)), (by omega), (by omega), (Bx.arr (pre := []) (l := [n0, n1, n2, n3]) (post := []) aB rfl i (by omega) (by simp only [List.length_cons, List.length_nil]; omega)), trivial⟩ (fun gD eM dK dL => ?_)
  clear dJ; have aU := gr_drew dK; have := aU.size; replace aA := aA.gn aU; replace aB := aB.gn aU; replace aE := aE.gn aU; replace aD := aD.gn aU; clear aU dK
  refine t_n ?_
  have bK := dL.sub (r := [(41, .bool (decide ((gI [k2 p i 1 0 (keepT p t).c0, k2 p i 3 1 (keepT p t).c1, k2 p i 5 2 (keepT p t).c2, k2 p i 7 3 (keepT p t).c3] i : Int) < (gI [n0, n1, n2, n3] i)))), (8, .int .i64 (i)), (27, .int .i64 (i)), (6, .pointer (some ⟨w9.heap.size, 0, none⟩)), (5, .pointer (some ⟨w1.heap.size, 0, none⟩)), (3, .pointer (some ⟨w.heap.size, 0, none⟩)), (1, .int .i64 (p))]) ⟨rfl, rfl, rfl, rfl, rfl, rfl, rfl, trivial⟩
  clear dL
  refine cond_S bK (t := decide ((gI [k2 p i 1 0 (keepT p t).c0, k2 p i 3 1 (keepT p t).c1, k2 p i 5 2 (keepT p t).c2, k2 p i 7 3 (keepT p t).c3] i : Int) < (gI [n0, n1, n2, n3] i))) rfl (fun bW => ?_) (fun bW => ?_)
  ·have gE := of_decide_eq_true bW
   refine wp_seq ?_
   have hko := keep_ok (p := p) ht
   have hlb := gI4_lb (B := -9223372036854775808) (i := i) (by omega) (by omega) (k2_lb (p := p) (k := i) (q := 1) (j := 0) (by omega) hko.1) (k2_lb (p := p) (k := i) (q := 3) (j := 1) (by omega) hko.2.1) (k2_lb (p := p) (k := i) (q := 5) (j := 2) (by omega) hko.2.2.1) (k2_lb (p := p) (k := i) (q := 7) (j := 3) (by omega) hko.2.2.2)
   have hub := gI4_ub (B := 140737488351232) (i := i) (by omega) (by omega) h0 h1 h2 h3
   refine At.start ?_
   refine At.rd bK 7 [[], [], [], [.ld (.int .i64 (gI [k2 p i 1 0 (keepT p t).c0, k2 p i 3 1 (keepT p t).c1, k2 p i 5 2 (keepT p t).c2, k2 p i 7 3 (keepT p t).c3] i))], [.as_ (.int .i64 ((gI [k2 p i 1 0 (keepT p t).c0, k2 p i 3 1 (keepT p t).c1, k2 p i 5 2 (keepT p t).c2, k2 p i 7 3 (keepT p t).c3] i) + 1))], [], []] [(48, .pointer (some ((⟨w1.heap.size, 1, none⟩ : Addr).add ((i : Int).toNat * 1)))), (47, .pointer (some ⟨w1.heap.size, 1, none⟩)), (46, .int .i64 ((gI [k2 p i 1 0 (keepT p t).c0, k2 p i 3 1 (keepT p t).c1, k2 p i 5 2 (keepT p t).c2, k2 p i 7 3 (keepT p t).c3] i) + 1)), (45, .int .i64 (gI [k2 p i 1 0 (keepT p t).c0, k2 p i 3 1 (keepT p t).c1, k2 p i 5 2 (keepT p t).c2, k2 p i 7 3 (keepT p t).c3] i)), (44, .pointer (some ((⟨w1.heap.size, 1, none⟩ : Addr).add ((i : Int).toNat * 1)))), (43, .pointer (some ⟨w1.heap.size, 1, none⟩)), (42, .int .i64 (i))] [(0 ≤ (i : Int)), ((i : Int) < (4 : Nat)), (eM.cell? ((⟨w1.heap.size, 1, none⟩ : Addr).add ((i : Int).toNat * 1)) = some (.int .i64 (gI [k2 p i 1 0 (keepT p t).c0, k2 p i 3 1 (keepT p t).c1, k2 p i 5 2 (keepT p t).c2, k2 p i 7 3 (keepT p t).c3] i))), ((.int .i64 (IntKind.i64.wrap ((gI [k2 p i 1 0 (keepT p t).c0, k2 p i 3 1 (keepT p t).c1, k2 p i 5 2 (keepT p t).c2, k2 p i 7 3 (keepT p t).c3] i) + 1)) : Value) = .int .i64 ((gI [k2 p i 1 0 (keepT p t).c0, k2 p i 3 1 (keepT p t).c1, k2 p i 5 2 (keepT p t).c2, k2 p i 7 3 (keepT p t).c3] i) + 1)), (0 ≤ (i : Int)), ((i : Int) < (4 : Nat))] (by kernel_rfl) ⟨(by omega), (by omega), (Bx.arr (pre := [.bool (t.top)]) (l := [k2 p i 1 0 (keepT p t).c0, k2 p i 3 1 (keepT p t).c1, k2 p i 5 2 (keepT p t).c2, k2 p i 7 3 (keepT p t).c3]) (post := []) aE rfl i (by omega) (by simp only [List.length_cons, List.length_nil]; omega)), (w64 (by omega) (by omega)), (by omega), (by omega), trivial⟩ (fun gF dM => ?_)
   clear bK
   refine At.act dM (storeArr (pre := [.bool (t.top)]) (l := [k2 p i 1 0 (keepT p t).c0, k2 p i 3 1 (keepT p t).c1, k2 p i 5 2 (keepT p t).c2, k2 p i 7 3 (keepT p t).c3]) (post := []) (t := 3) (v := (gI [k2 p i 1 0 (keepT p t).c0, k2 p i 3 1 (keepT p t).c1, k2 p i 5 2 (keepT p t).c2, k2 p i 7 3 (keepT p t).c3] i) + 1) (i := i) (by kernel_rfl) (by kernel_rfl) aE rfl rfl (by omega) (by simp only [List.length_cons, List.length_nil]; omega)) ?_
   rintro d_ v_ aV ⟨rfl, bL, aI⟩
   refine ⟨_, rfl, fun gG dN => ?_⟩
   clear dM
   replace aI : Bx aV (w1.heap.size) [.bool (t.top), .int .i64 (if i = 0 then (gI [k2 p i 1 0 (keepT p t).c0, k2 p i 3 1 (keepT p t).c1, k2 p i 5 2 (keepT p t).c2, k2 p i 7 3 (keepT p t).c3] i) + 1 else k2 p i 1 0 (keepT p t).c0), .int .i64 (if i = 1 then (gI [k2 p i 1 0 (keepT p t).c0, k2 p i 3 1 (keepT p t).c1, k2 p i 5 2 (keepT p t).c2, k2 p i 7 3 (keepT p t).c3] i) + 1 else k2 p i 3 1 (keepT p t).c1), .int .i64 (if i = 2 then (gI [k2 p i 1 0 (keepT p t).c0, k2 p i 3 1 (keepT p t).c1, k2 p i 5 2 (keepT p t).c2, k2 p i 7 3 (keepT p t).c3] i) + 1 else k2 p i 5 2 (keepT p t).c2), .int .i64 (if i = 3 then (gI [k2 p i 1 0 (keepT p t).c0, k2 p i 3 1 (keepT p t).c1, k2 p i 5 2 (keepT p t).c2, k2 p i 7 3 (keepT p t).c3] i) + 1 else k2 p i 7 3 (keepT p t).c3)] 41 := aI.as (by rw [set4 i (by omega) (by omega)]; rfl)
   have := bL.size; replace aA := aA.gr bL (fun k h => by injection h; omega); replace aB := aB.gb bL (by omega); replace aD := aD.gb bL (by omega); clear aE bL
   refine At.done rfl ?_
   refine t_n ?_
   have dO := dN.sub (r := [(6, .pointer (some ⟨w9.heap.size, 0, none⟩)), (5, .pointer (some ⟨w1.heap.size, 0, none⟩))]) ⟨rfl, rfl, trivial⟩; clear dN
   refine wp_seq ?_
   refine At.start ?_
   refine At.rd dO 1 [[.ld (.bool (t.top)), .ld (.int .i64 (if i = 0 then (gI [k2 p i 1 0 (keepT p t).c0, k2 p i 3 1 (keepT p t).c1, k2 p i 5 2 (keepT p t).c2, k2 p i 7 3 (keepT p t).c3] i) + 1 else k2 p i 1 0 (keepT p t).c0)), .ld (.int .i64 (if i = 1 then (gI [k2 p i 1 0 (keepT p t).c0, k2 p i 3 1 (keepT p t).c1, k2 p i 5 2 (keepT p t).c2, k2 p i 7 3 (keepT p t).c3] i) + 1 else k2 p i 3 1 (keepT p t).c1)), .ld (.int .i64 (if i = 2 then (gI [k2 p i 1 0 (keepT p t).c0, k2 p i 3 1 (keepT p t).c1, k2 p i 5 2 (keepT p t).c2, k2 p i 7 3 (keepT p t).c3] i) + 1 else k2 p i 5 2 (keepT p t).c2)), .ld (.int .i64 (if i = 3 then (gI [k2 p i 1 0 (keepT p t).c0, k2 p i 3 1 (keepT p t).c1, k2 p i 5 2 (keepT p t).c2, k2 p i 7 3 (keepT p t).c3] i) + 1 else k2 p i 7 3 (keepT p t).c3))]] [(49, .agg #[.bool (t.top), .int .i64 (if i = 0 then (gI [k2 p i 1 0 (keepT p t).c0, k2 p i 3 1 (keepT p t).c1, k2 p i 5 2 (keepT p t).c2, k2 p i 7 3 (keepT p t).c3] i) + 1 else k2 p i 1 0 (keepT p t).c0), .int .i64 (if i = 1 then (gI [k2 p i 1 0 (keepT p t).c0, k2 p i 3 1 (keepT p t).c1, k2 p i 5 2 (keepT p t).c2, k2 p i 7 3 (keepT p t).c3] i) + 1 else k2 p i 3 1 (keepT p t).c1), .int .i64 (if i = 2 then (gI [k2 p i 1 0 (keepT p t).c0, k2 p i 3 1 (keepT p t).c1, k2 p i 5 2 (keepT p t).c2, k2 p i 7 3 (keepT p t).c3] i) + 1 else k2 p i 5 2 (keepT p t).c2), .int .i64 (if i = 3 then (gI [k2 p i 1 0 (keepT p t).c0, k2 p i 3 1 (keepT p t).c1, k2 p i 5 2 (keepT p t).c2, k2 p i 7 3 (keepT p t).c3] i) + 1 else k2 p i 7 3 (keepT p t).c3)])] [(aV.cell? ⟨w1.heap.size, 0, none⟩ = some (.bool (t.top))), (aV.cell? ⟨w1.heap.size, 1, none⟩ = some (.int .i64 (if i = 0 then (gI [k2 p i 1 0 (keepT p t).c0, k2 p i 3 1 (keepT p t).c1, k2 p i 5 2 (keepT p t).c2, k2 p i 7 3 (keepT p t).c3] i) + 1 else k2 p i 1 0 (keepT p t).c0))), (aV.cell? ⟨w1.heap.size, 2, none⟩ = some (.int .i64 (if i = 1 then (gI [k2 p i 1 0 (keepT p t).c0, k2 p i 3 1 (keepT p t).c1, k2 p i 5 2 (keepT p t).c2, k2 p i 7 3 (keepT p t).c3] i) + 1 else k2 p i 3 1 (keepT p t).c1))), (aV.cell? ⟨w1.heap.size, 3, none⟩ = some (.int .i64 (if i = 2 then (gI [k2 p i 1 0 (keepT p t).c0, k2 p i 3 1 (keepT p t).c1, k2 p i 5 2 (keepT p t).c2, k2 p i 7 3 (keepT p t).c3] i) + 1 else k2 p i 5 2 (keepT p t).c2))), (aV.cell? ⟨w1.heap.size, 4, none⟩ = some (.int .i64 (if i = 3 then (gI [k2 p i 1 0 (keepT p t).c0, k2 p i 3 1 (keepT p t).c1, k2 p i 5 2 (keepT p t).c2, k2 p i 7 3 (keepT p t).c3] i) + 1 else k2 p i 7 3 (keepT p t).c3)))] (by kernel_rfl) ⟨(aI.cell (i := 0) rfl), (aI.cell (i := 1) rfl), (aI.cell (i := 2) rfl), (aI.cell (i := 3) rfl), (aI.cell (i := 4) rfl), trivial⟩ (fun gH dP => ?_)
   clear dO
   refine At.store dP (t := 41) (b := w9.heap.size) (off := 0) (v := .agg #[.bool (t.top), .int .i64 (if i = 0 then (gI [k2 p i 1 0 (keepT p t).c0, k2 p i 3 1 (keepT p t).c1, k2 p i 5 2 (keepT p t).c2, k2 p i 7 3 (keepT p t).c3] i) + 1 else k2 p i 1 0 (keepT p t).c0), .int .i64 (if i = 1 then (gI [k2 p i 1 0 (keepT p t).c0, k2 p i 3 1 (keepT p t).c1, k2 p i 5 2 (keepT p t).c2, k2 p i 7 3 (keepT p t).c3] i) + 1 else k2 p i 3 1 (keepT p t).c1), .int .i64 (if i = 2 then (gI [k2 p i 1 0 (keepT p t).c0, k2 p i 3 1 (keepT p t).c1, k2 p i 5 2 (keepT p t).c2, k2 p i 7 3 (keepT p t).c3] i) + 1 else k2 p i 5 2 (keepT p t).c2), .int .i64 (if i = 3 then (gI [k2 p i 1 0 (keepT p t).c0, k2 p i 3 1 (keepT p t).c1, k2 p i 5 2 (keepT p t).c2, k2 p i 7 3 (keepT p t).c3] i) + 1 else k2 p i 7 3 (keepT p t).c3)]) (by kernel_rfl) aD (by kernel_rfl) (fun gJ aW bM aO dQ => ?_)
   clear dP
   replace aO : Bx aW (w9.heap.size) [.bool (t.top), .int .i64 (if i = 0 then (gI [k2 p i 1 0 (keepT p t).c0, k2 p i 3 1 (keepT p t).c1, k2 p i 5 2 (keepT p t).c2, k2 p i 7 3 (keepT p t).c3] i) + 1 else k2 p i 1 0 (keepT p t).c0), .int .i64 (if i = 1 then (gI [k2 p i 1 0 (keepT p t).c0, k2 p i 3 1 (keepT p t).c1, k2 p i 5 2 (keepT p t).c2, k2 p i 7 3 (keepT p t).c3] i) + 1 else k2 p i 3 1 (keepT p t).c1), .int .i64 (if i = 2 then (gI [k2 p i 1 0 (keepT p t).c0, k2 p i 3 1 (keepT p t).c1, k2 p i 5 2 (keepT p t).c2, k2 p i 7 3 (keepT p t).c3] i) + 1 else k2 p i 5 2 (keepT p t).c2), .int .i64 (if i = 3 then (gI [k2 p i 1 0 (keepT p t).c0, k2 p i 3 1 (keepT p t).c1, k2 p i 5 2 (keepT p t).c2, k2 p i 7 3 (keepT p t).c3] i) + 1 else k2 p i 7 3 (keepT p t).c3)] 41 := aO
   have := bM.size; replace aA := aA.gr bM (fun k h => by injection h; omega); replace aB := aB.gb bM (by omega); replace aI := aI.gb bM (by omega); clear aD bM
   refine At.done rfl ?_
   refine t_n ?_
   have eN := dQ.sub (r := [(6, .pointer (some ⟨w9.heap.size, 0, none⟩))]) ⟨rfl, trivial⟩; clear dQ
   refine wp_ret ?_
   refine t_r ?_
   refine b_r ?_
   refine t_r ?_
   refine t_r ?_
   refine b_r ?_
   refine t_r ?_
   refine ret_ eN [[.bool (t.top), .int .i64 (if i = 0 then (gI [k2 p i 1 0 (keepT p t).c0, k2 p i 3 1 (keepT p t).c1, k2 p i 5 2 (keepT p t).c2, k2 p i 7 3 (keepT p t).c3] i) + 1 else k2 p i 1 0 (keepT p t).c0), .int .i64 (if i = 1 then (gI [k2 p i 1 0 (keepT p t).c0, k2 p i 3 1 (keepT p t).c1, k2 p i 5 2 (keepT p t).c2, k2 p i 7 3 (keepT p t).c3] i) + 1 else k2 p i 3 1 (keepT p t).c1), .int .i64 (if i = 2 then (gI [k2 p i 1 0 (keepT p t).c0, k2 p i 3 1 (keepT p t).c1, k2 p i 5 2 (keepT p t).c2, k2 p i 7 3 (keepT p t).c3] i) + 1 else k2 p i 5 2 (keepT p t).c2), .int .i64 (if i = 3 then (gI [k2 p i 1 0 (keepT p t).c0, k2 p i 3 1 (keepT p t).c1, k2 p i 5 2 (keepT p t).c2, k2 p i 7 3 (keepT p t).c3] i) + 1 else k2 p i 7 3 (keepT p t).c3)]] [.agg #[.bool (t.top), .int .i64 (if i = 0 then (gI [k2 p i 1 0 (keepT p t).c0, k2 p i 3 1 (keepT p t).c1, k2 p i 5 2 (keepT p t).c2, k2 p i 7 3 (keepT p t).c3] i) + 1 else k2 p i 1 0 (keepT p t).c0), .int .i64 (if i = 1 then (gI [k2 p i 1 0 (keepT p t).c0, k2 p i 3 1 (keepT p t).c1, k2 p i 5 2 (keepT p t).c2, k2 p i 7 3 (keepT p t).c3] i) + 1 else k2 p i 3 1 (keepT p t).c1), .int .i64 (if i = 2 then (gI [k2 p i 1 0 (keepT p t).c0, k2 p i 3 1 (keepT p t).c1, k2 p i 5 2 (keepT p t).c2, k2 p i 7 3 (keepT p t).c3] i) + 1 else k2 p i 5 2 (keepT p t).c2), .int .i64 (if i = 3 then (gI [k2 p i 1 0 (keepT p t).c0, k2 p i 3 1 (keepT p t).c1, k2 p i 5 2 (keepT p t).c2, k2 p i 7 3 (keepT p t).c3] i) + 1 else k2 p i 7 3 (keepT p t).c3)]] [(aW.cell? ⟨w9.heap.size, 0, none⟩ = some (.bool (t.top))), (aW.cell? ⟨w9.heap.size, 1, none⟩ = some (.int .i64 (if i = 0 then (gI [k2 p i 1 0 (keepT p t).c0, k2 p i 3 1 (keepT p t).c1, k2 p i 5 2 (keepT p t).c2, k2 p i 7 3 (keepT p t).c3] i) + 1 else k2 p i 1 0 (keepT p t).c0))), (aW.cell? ⟨w9.heap.size, 2, none⟩ = some (.int .i64 (if i = 1 then (gI [k2 p i 1 0 (keepT p t).c0, k2 p i 3 1 (keepT p t).c1, k2 p i 5 2 (keepT p t).c2, k2 p i 7 3 (keepT p t).c3] i) + 1 else k2 p i 3 1 (keepT p t).c1))), (aW.cell? ⟨w9.heap.size, 3, none⟩ = some (.int .i64 (if i = 2 then (gI [k2 p i 1 0 (keepT p t).c0, k2 p i 3 1 (keepT p t).c1, k2 p i 5 2 (keepT p t).c2, k2 p i 7 3 (keepT p t).c3] i) + 1 else k2 p i 5 2 (keepT p t).c2))), (aW.cell? ⟨w9.heap.size, 4, none⟩ = some (.int .i64 (if i = 3 then (gI [k2 p i 1 0 (keepT p t).c0, k2 p i 3 1 (keepT p t).c1, k2 p i 5 2 (keepT p t).c2, k2 p i 7 3 (keepT p t).c3] i) + 1 else k2 p i 7 3 (keepT p t).c3)))] (by kernel_rfl) ⟨(aO.cell (i := 0) rfl), (aO.cell (i := 1) rfl), (aO.cell (i := 2) rfl), (aO.cell (i := 3) rfl), (aO.cell (i := 4) rfl), trivial⟩ ?_
   exact ⟨tup_ret (up_odd (by assumption) (by assumption) (inc_at hfu (by omega) (by omega) (by omega) (by omega) (by first | rfl | assumption) rfl)), aA⟩
  have gK := of_decide_eq_false bW
  refine wp_skip ?_
  refine t_n ?_
  have dR := bK.sub (r := [(8, .int .i64 (i)), (27, .int .i64 (i)), (6, .pointer (some ⟨w9.heap.size, 0, none⟩)), (5, .pointer (some ⟨w1.heap.size, 0, none⟩)), (3, .pointer (some ⟨w.heap.size, 0, none⟩)), (1, .int .i64 (p))]) ⟨rfl, rfl, rfl, rfl, rfl, rfl, trivial⟩
  clear bK
  refine At.start ?_
  refine At.rd dR 3 [[], [], []] [(52, .pointer (some ((⟨w1.heap.size, 1, none⟩ : Addr).add ((i : Int).toNat * 1)))), (51, .pointer (some ⟨w1.heap.size, 1, none⟩)), (50, .int .i64 (i))] [(0 ≤ (i : Int)), ((i : Int) < (4 : Nat))] (by kernel_rfl) ⟨(by omega), (by omega), trivial⟩ (fun gL dS => ?_)
  clear dR
  refine At.act dS (storeArr (pre := [.bool (t.top)]) (l := [k2 p i 1 0 (keepT p t).c0, k2 p i 3 1 (keepT p t).c1, k2 p i 5 2 (keepT p t).c2, k2 p i 7 3 (keepT p t).c3]) (post := []) (t := 3) (v := 0) (i := i) (by kernel_rfl) (by kernel_rfl) aE rfl rfl (by omega) (by simp only [List.length_cons, List.length_nil]; omega)) ?_
  rintro d_ v_ eO ⟨rfl, bN, bX⟩
  refine ⟨_, rfl, fun gM dT => ?_⟩
  clear dS
  replace bX : Bx eO (w1.heap.size) [.bool (t.top), .int .i64 (if i = 0 then 0 else k2 p i 1 0 (keepT p t).c0), .int .i64 (if i = 1 then 0 else k2 p i 3 1 (keepT p t).c1), .int .i64 (if i = 2 then 0 else k2 p i 5 2 (keepT p t).c2), .int .i64 (if i = 3 then 0 else k2 p i 7 3 (keepT p t).c3)] 41 := bX.as (by rw [set4 i (by omega) (by omega)]; rfl)
  have := bN.size; replace aA := aA.gr bN (fun k h => by injection h; omega); replace aB := aB.gb bN (by omega); replace aD := aD.gb bN (by omega); clear aE bN
  refine At.done rfl ?_
  refine b_n ?_
  refine t_n ?_
  have dU := dT.sub (r := [(27, .int .i64 (i)), (6, .pointer (some ⟨w9.heap.size, 0, none⟩)), (5, .pointer (some ⟨w1.heap.size, 0, none⟩)), (3, .pointer (some ⟨w.heap.size, 0, none⟩)), (1, .int .i64 (p))]) ⟨rfl, rfl, rfl, rfl, rfl, trivial⟩
  clear dT
  refine At.start ?_
  refine At.rd dU 2 [[.as_ (.int .i64 (i + 1))], []] [(27, .int .i64 (i + 1)), (53, .int .i64 (i + 1))] [((.int .i64 (IntKind.i64.wrap (i + 1)) : Value) = .int .i64 (i + 1))] (by kernel_rfl) ⟨(w64 (by omega) (by omega)), trivial⟩ (fun gN eP => ?_)
  clear dU
  refine At.done rfl ?_
  refine t_n ?_
  have eQ := eP.sub (r := [(27, .int .i64 (i + 1)), (6, .pointer (some ⟨w9.heap.size, 0, none⟩)), (5, .pointer (some ⟨w1.heap.size, 0, none⟩)), (3, .pointer (some ⟨w.heap.size, 0, none⟩)), (1, .int .i64 (p))]) ⟨rfl, rfl, rfl, rfl, rfl, trivial⟩
  exact ⟨_, (by omega), (i + 1), rfl, eQ, aA, aB, (bX.as (by first | exact (v5_eq rfl (k2_keep (by omega) rfl) (k2_keep (by omega) rfl) (k2_keep (by omega) rfl) (k2_keep (by omega) rfl)) | exact (v5_eq rfl (k2_zero (by omega) rfl) (k2_zero (by omega) rfl) (k2_zero (by omega) rfl) (k2_zero (by omega) rfl)))), aD, (by omega), (by omega), (by first | exact full_keep hfu (by omega) (by omega) | exact full_next hfu (by omega) (by omega) (by assumption))⟩
 have gO := of_decide_eq_false bV
 refine wp_exit ?_
 refine t_e ?_
 clear hm130
 refine t_e ?_
 refine b_e ?_
 refine t_n ?_
 have dV := bI.sub (r := [(6, .pointer (some ⟨w9.heap.size, 0, none⟩))]) ⟨rfl, trivial⟩; clear bI
 refine wp_seq ?_
 refine At.start ?_
 refine At.rd dV 1 [[]] [(54, .agg #[.bool true, .int .i64 (0), .int .i64 (0), .int .i64 (0), .int .i64 (0)])] [] (by kernel_rfl) trivial (fun gP dW => ?_)
 clear dV
 refine At.store dW (t := 41) (b := w9.heap.size) (off := 0) (v := .agg #[.bool true, .int .i64 (0), .int .i64 (0), .int .i64 (0), .int .i64 (0)]) (by kernel_rfl) aD (by kernel_rfl) (fun gQ aX bO aP dX => ?_)
 clear dW; replace aP : Bx aX (w9.heap.size) [.bool true, .int .i64 (0), .int .i64 (0), .int .i64 (0), .int .i64 (0)] 41 := aP; have := bO.size; replace aA := aA.gr bO (fun k h => by injection h; omega); replace aB := aB.gb bO (by omega); replace aE := aE.gb bO (by omega); clear aD bO
 refine At.done rfl ?_
 refine t_n ?_
 have eR := dX.sub (r := [(6, .pointer (some ⟨w9.heap.size, 0, none⟩))]) ⟨rfl, trivial⟩; clear dX
 refine wp_ret ?_
 refine ret_ eR [[.bool true, .int .i64 (0), .int .i64 (0), .int .i64 (0), .int .i64 (0)]] [.agg #[.bool true, .int .i64 (0), .int .i64 (0), .int .i64 (0), .int .i64 (0)]] [(aX.cell? ⟨w9.heap.size, 0, none⟩ = some (.bool true)), (aX.cell? ⟨w9.heap.size, 1, none⟩ = some (.int .i64 (0))), (aX.cell? ⟨w9.heap.size, 2, none⟩ = some (.int .i64 (0))), (aX.cell? ⟨w9.heap.size, 3, none⟩ = some (.int .i64 (0))), (aX.cell? ⟨w9.heap.size, 4, none⟩ = some (.int .i64 (0)))] (by kernel_rfl) ⟨(aP.cell (i := 0) rfl), (aP.cell (i := 1) rfl), (aP.cell (i := 2) rfl), (aP.cell (i := 3) rfl), (aP.cell (i := 4) rfl), trivial⟩ ?_
 exact ⟨tup_ret (by first | exact up_top (by assumption) | exact up_odd (by assumption) (by assumption) (inc_no hfu (by omega))), aA⟩

end Go.Proofs.Ytklbpajmoklheaa
