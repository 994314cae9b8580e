/-
  A walk of a Go function, printed by a program of this repo. Conditions: what the theorems name.
-/
import Derived.Test.YtklbpajmoklheaaPureBest
import Derived.Test.YtklbpajmoklheaaWUp
import Derived.Test.YtklbpajmoklheaaWRight2
set_option linter.unusedVariables false
set_option linter.unusedSimpArgs false
namespace Go.Proofs.Ytklbpajmoklheaa
open Go Go.RowKit

set_option maxHeartbeats 4000000 in
theorem rightM_any {Ag0 Ag1 Ag2 : Option Addr} {cg0 cg1 cg2 : Nat} {g : GameL} {As : Option Addr} {cs : Nat} {ls : List Tup} {w : World} (rg : RdG w 0 w.heap.size Ag0 Ag1 Ag2 cg0 cg1 cg2 g) (rs : RdR w 0 w.heap.size As ls) :
    Calls Try.prog 45 #[.agg #[.slice Ag0 g.ow.length cg0, .slice Ag1 g.pr.length cg1, .slice Ag2 g.mv.length cg2], .slice As ls.length cs] w fun e w' => e = .returned (.bool (isR g && decide (ls.length = g.ow.length))) ∧ Ext w w' := by
 have hlg0 := rg.ow.len; have hlg1 := rg.pr.len; have hlg2 := rg.mv.len; have hkg0 := rg.k0; have hkg1 := rg.k1; have hkg2 := rg.k2; have hls := rs.len
 simp only [Enc.bytes] at hls
 refine enter_ (args := [.agg #[.slice Ag0 g.ow.length cg0, .slice Ag1 g.pr.length cg1, .slice Ag2 g.mv.length cg2], .slice As ls.length cs]) Try.func45 rfl Try.ntmps45 (Nat.le_of_ble_eq_true rfl) (fun act0 f0 => ?_)
 have e0 : Ext w w := Ext.refl w
 refine wp_seq ?_
 refine At.start ?_
 refine At.seq f0 1 [[]] [(2, .pointer (some ⟨w.heap.size, 0, none⟩))] (w.alloc (.cells #[.slice Ag0 g.ow.length cg0, .slice Ag1 g.pr.length cg1, .slice Ag2 g.mv.length cg2] 25 (0, 0))) [] (by kernel_rfl) trivial (fun act4 w1 hw2 f3 => ?_)
 clear f0; have g5 := gr_alloc hw2; have := g5.size; replace e0 := e0.gn g5; have r8 := rg.gn g5; clear rg; have r9 := rs.gn g5; clear rs; have aA : Bx w1 (w.heap.size) [.slice Ag0 g.ow.length cg0, .slice Ag1 g.pr.length cg1, .slice Ag2 g.mv.length cg2] 25 := Bx.new hw2; have := aA.lt; clear g5 hw2
 refine At.rd f3 1 [[]] [(4, .bool false)] [] (by kernel_rfl) trivial (fun aO aE => ?_)
 clear f3
 refine At.done rfl ?_
 refine t_n ?_
 have aF := aE.sub (r := [(2, .pointer (some ⟨w.heap.size, 0, none⟩)), (1, .slice As ls.length cs)]) ⟨rfl, rfl, trivial⟩; clear aE
 refine wp_seq ?_
 refine At.start ?_
 refine At.rd aF 1 [[.ld (.slice Ag0 g.ow.length cg0), .ld (.slice Ag1 g.pr.length cg1), .ld (.slice Ag2 g.mv.length cg2)]] [(8, .agg #[.slice Ag0 g.ow.length cg0, .slice Ag1 g.pr.length cg1, .slice Ag2 g.mv.length cg2])] [(w1.cell? ⟨w.heap.size, 0, none⟩ = some (.slice Ag0 g.ow.length cg0)), (w1.cell? ⟨w.heap.size, 1, none⟩ = some (.slice Ag1 g.pr.length cg1)), (w1.cell? ⟨w.heap.size, 2, none⟩ = some (.slice Ag2 g.mv.length cg2))] (by kernel_rfl) ⟨(aA.cell (i := 0) rfl), (aA.cell (i := 1) rfl), (aA.cell (i := 2) rfl), trivial⟩ (fun aP aG => ?_)
 clear aF
 refine At.call aG 36 #[.agg #[.slice Ag0 g.ow.length cg0, .slice Ag1 g.pr.length cg1, .slice Ag2 g.mv.length cg2]] (some 9) (by kernel_rfl) (right_any (r8.wide (Nat.zero_le _) (by omega))) ?_
 rintro e_ aL ⟨rfl, he⟩
 refine ⟨_, rfl, _, rfl, fun aQ aH => ?_⟩
 clear aG; have aB := gr_ext he; have := aB.size; replace e0 := e0.gn aB; replace r8 := r8.gn aB; replace r9 := r9.gn aB; replace aA := aA.gn aB; clear aB he
 refine At.rd aH 5 [[], [], [], [], []] [(6, .int .i64 ((rightP g).2)), (5, .int .i64 ((rightP g).1)), (11, .int .i64 ((rightP g).2)), (10, .int .i64 ((rightP g).1)), (7, .tuple #[.int .i64 ((rightP g).1), .int .i64 ((rightP g).2)])] [] (by kernel_rfl) trivial (fun aR aI => ?_)
 clear aH
 refine At.done rfl ?_
 refine t_n ?_
 have aD := aI.sub (r := [(6, .int .i64 ((rightP g).2)), (2, .pointer (some ⟨w.heap.size, 0, none⟩)), (1, .slice As ls.length cs)]) ⟨rfl, rfl, rfl, trivial⟩; clear aI
 refine wp_seq ?_
 refine At.start ?_
 rcases Bool.eq_false_or_eq_true (((rightP g).2 : Int) == 0) with aC | aC
 ·have aS := eq_of_beq aC
  refine At.rd aD 11 [[], [], [.as_ (.bool true)], [], [], [], [.ld (.slice Ag0 g.ow.length cg0)], [], [], [], []] [(4, .bool ((((ls.length : Nat) : Int) : Int) == ((g.ow.length : Nat) : Int))), (21, .bool ((((ls.length : Nat) : Int) : Int) == ((g.ow.length : Nat) : Int))), (20, .bool ((((ls.length : Nat) : Int) : Int) == ((g.ow.length : Nat) : Int))), (19, .int .i64 (((g.ow.length : Nat) : Int))), (18, .slice Ag0 g.ow.length cg0), (17, .pointer (some ⟨w.heap.size, 0, none⟩)), (16, .int .i64 (((ls.length : Nat) : Int))), (15, .slice As ls.length cs), (14, .bool true), (13, .bool (((rightP g).2 : Int) == 0)), (12, .int .i64 ((rightP g).2))] [((.bool (((rightP g).2 : Int) == 0) : Value) = .bool true), (aL.cell? ⟨w.heap.size, 0, none⟩ = some (.slice Ag0 g.ow.length cg0))] (by kernel_rfl) ⟨(congrArg Value.bool aC), (aA.cell (i := 0) rfl), trivial⟩ (fun aT aJ => ?_)
  clear aD
  refine At.done rfl ?_
  refine t_n ?_
  have aM := aJ.sub (r := [(4, .bool ((((ls.length : Nat) : Int) : Int) == ((g.ow.length : Nat) : Int)))]) ⟨rfl, trivial⟩; clear aJ
  refine wp_ret ?_
  refine ret_ aM [] [.bool ((((ls.length : Nat) : Int) : Int) == ((g.ow.length : Nat) : Int))] [] (by kernel_rfl) trivial ?_
  exact ⟨ret_eq (congrArg Value.bool (by first | exact right_t (by omega) | exact right_f (by assumption))), e0⟩
 have aU := ne_of_beq_false aC
 refine At.rd aD 11 [[], [], [.as_ (.bool false)], [], [], [], [], [], [], [], []] [(4, .bool false), (21, .bool false), (20, undef), (19, undef), (18, undef), (17, undef), (16, undef), (15, undef), (14, .bool false), (13, .bool (((rightP g).2 : Int) == 0)), (12, .int .i64 ((rightP g).2))] [((.bool (((rightP g).2 : Int) == 0) : Value) = .bool false)] (by kernel_rfl) ⟨(congrArg Value.bool aC), trivial⟩ (fun aV aK => ?_)
 clear aD
 refine At.done rfl ?_
 refine t_n ?_
 have aN := aK.sub (r := [(4, .bool false)]) ⟨rfl, trivial⟩; clear aK
 refine wp_ret ?_
 refine ret_ aN [] [.bool false] [] (by kernel_rfl) trivial ?_
 exact ⟨ret_eq (congrArg Value.bool (by first | exact right_t (by omega) | exact right_f (by assumption))), e0⟩

set_option maxHeartbeats 4000000 in
theorem best_any {Ag0 Ag1 Ag2 : Option Addr} {cg0 cg1 cg2 : Nat} {g : GameL} {As : Option Addr} {cs : Nat} {ls : List Tup} {at_ : Int} {w : World} (rg : RdG w 0 w.heap.size Ag0 Ag1 Ag2 cg0 cg1 cg2 g) (rs : RdR w 0 w.heap.size As ls) (hG : RightG g) (hl : ls.length = g.ow.length) (hok : okL ls) (ha0 : 0 ≤ at_) (ha1 : at_ < (ls.length : Int)) :
    Calls Try.prog 47 #[.agg #[.slice Ag0 g.ow.length cg0, .slice Ag1 g.pr.length cg1, .slice Ag2 g.mv.length cg2], .agg #[.int .i64 (cnt g.pr 1), .int .i64 (cnt g.pr 3), .int .i64 (cnt g.pr 5), .int .i64 (cnt g.pr 7)], .slice As ls.length cs, .int .i64 (at_)] w fun e w' => e = .returned (.tuple #[.agg #[.bool (bestB (upG g ls at_) (gI g.ow at_) (gL g.mv at_)).1.top, .int .i64 (bestB (upG g ls at_) (gI g.ow at_) (gL g.mv at_)).1.c0, .int .i64 (bestB (upG g ls at_) (gI g.ow at_) (gL g.mv at_)).1.c1, .int .i64 (bestB (upG g ls at_) (gI g.ow at_) (gL g.mv at_)).1.c2, .int .i64 (bestB (upG g ls at_) (gI g.ow at_) (gL g.mv at_)).1.c3], .int .i64 (bestB (upG g ls at_) (gI g.ow at_) (gL g.mv at_)).2]) ∧ Ext w w' := by
 have hlg0 := rg.ow.len; have hlg1 := rg.pr.len; have hlg2 := rg.mv.len; have hkg0 := rg.k0; have hkg1 := rg.k1; have hkg2 := rg.k2; have hls := rs.len
 simp only [Enc.bytes] at hls
 have hpl := hG.pl; have hml := hG.ml; have hn1 := hG.n1; have hmv := hG.mv at_ ha0 (by omega); have hc1 := cnt_le g.pr 1; have hc3 := cnt_le g.pr 3; have hc5 := cnt_le g.pr 5; have hc7 := cnt_le g.pr 7
 refine enter_ (args := [.agg #[.slice Ag0 g.ow.length cg0, .slice Ag1 g.pr.length cg1, .slice Ag2 g.mv.length cg2], .agg #[.int .i64 (cnt g.pr 1), .int .i64 (cnt g.pr 3), .int .i64 (cnt g.pr 5), .int .i64 (cnt g.pr 7)], .slice As ls.length cs, .int .i64 (at_)]) Try.func47 rfl Try.ntmps47 (Nat.le_of_ble_eq_true rfl) (fun act0 f0 => ?_)
 have e0 : Ext w w := Ext.refl w
 refine wp_seq ?_
 refine At.start ?_
 refine At.seq f0 1 [[]] [(4, .pointer (some ⟨w.heap.size, 0, none⟩))] (w.alloc (.cells #[.slice Ag0 g.ow.length cg0, .slice Ag1 g.pr.length cg1, .slice Ag2 g.mv.length cg2] 25 (0, 0))) [] (by kernel_rfl) trivial (fun act4 w1 hw2 f3 => ?_)
 clear f0; have g5 := gr_alloc hw2; have := g5.size; replace e0 := e0.gn g5; have r8 := rg.gn g5; clear rg; have r9 := rs.gn g5; clear rs; have bI : Bx w1 (w.heap.size) [.slice Ag0 g.ow.length cg0, .slice Ag1 g.pr.length cg1, .slice Ag2 g.mv.length cg2] 25 := Bx.new hw2; have := bI.lt; clear g5 hw2
 refine At.seq f3 1 [[]] [(5, .pointer (some ⟨w1.heap.size, 0, none⟩))] (w1.alloc (.cells #[.int .i64 (cnt g.pr 1), .int .i64 (cnt g.pr 3), .int .i64 (cnt g.pr 5), .int .i64 (cnt g.pr 7)] 38 (0, 0))) [] (by kernel_rfl) trivial (fun hK aB cO dL => ?_)
 clear f3; have bW := gr_alloc cO; have := bW.size; replace e0 := e0.gn bW; replace r8 := r8.gn bW; replace r9 := r9.gn bW; replace bI := bI.gn bW; have bR : Bx aB (w1.heap.size) [.int .i64 (cnt g.pr 1), .int .i64 (cnt g.pr 3), .int .i64 (cnt g.pr 5), .int .i64 (cnt g.pr 7)] 38 := Bx.new cO; have := bR.lt; clear bW cO
 refine At.seq dL 1 [[]] [(8, .pointer (some ⟨aB.heap.size, 0, none⟩))] (aB.alloc (.cells #[.bool false, .int .i64 (0), .int .i64 (0), .int .i64 (0), .int .i64 (0)] 41 (0, 0))) [] (by kernel_rfl) trivial (fun hL aA cP dM => ?_)
 clear dL; have bS := gr_alloc cP; have := bS.size; replace e0 := e0.gn bS; replace r8 := r8.gn bS; replace r9 := r9.gn bS; replace bI := bI.gn bS; replace bR := bR.gn bS; have bY : Bx aA (aB.heap.size) [.bool false, .int .i64 (0), .int .i64 (0), .int .i64 (0), .int .i64 (0)] 41 := Bx.new cP; have := bY.lt; clear bS cP
 refine At.rd dM 1 [[]] [(9, .int .i64 (0))] [] (by kernel_rfl) trivial (fun hM dN => ?_)
 clear dM
 refine At.done rfl ?_
 refine t_n ?_
 have dO := dN.sub (r := [(9, .int .i64 (0)), (8, .pointer (some ⟨aB.heap.size, 0, none⟩)), (5, .pointer (some ⟨w1.heap.size, 0, none⟩)), (4, .pointer (some ⟨w.heap.size, 0, none⟩)), (2, .slice As ls.length cs), (3, .int .i64 (at_))]) ⟨rfl, rfl, rfl, rfl, rfl, rfl, trivial⟩
 clear dN
 refine wp_seq ?_
 refine At.start ?_
 refine At.seq dO 1 [[]] [(10, .pointer (some ⟨aA.heap.size, 0, none⟩))] (aA.alloc (.cells #[.bool false, .int .i64 (0), .int .i64 (0), .int .i64 (0), .int .i64 (0)] 41 (0, 0))) [] (by kernel_rfl) trivial (fun hN cQ cR dP => ?_)
 clear dO; have bQ := gr_alloc cR; have := bQ.size; replace e0 := e0.gn bQ; replace r8 := r8.gn bQ; replace r9 := r9.gn bQ; replace bI := bI.gn bQ; replace bR := bR.gn bQ; replace bY := bY.gn bQ; have cS : Bx cQ (aA.heap.size) [.bool false, .int .i64 (0), .int .i64 (0), .int .i64 (0), .int .i64 (0)] 41 := Bx.new cR; have := cS.lt; clear bQ cR
 refine At.done rfl ?_
 refine t_n ?_
 refine wp_seq ?_
 refine At.start ?_
 refine At.rd dP 1 [[]] [(11, .int .i64 (-1))] [] (by kernel_rfl) trivial (fun hO dQ => ?_)
 clear dP
 refine At.done rfl ?_
 refine t_n ?_
 refine wp_seq ?_
 refine wp_seq ?_
 refine At.start ?_
 obtain ⟨cH, aE, aF, fX, _, _, fY, hP, cT⟩ := RdII.get r8.mv (at_) (by omega) (by omega)
 have hQ := cT.len
 refine At.rd dQ 7 [[], [.ld (.slice Ag2 g.mv.length cg2)], [], [.ad cH], [.ld (.slice aE ((gL g.mv (at_)).length) aF)], [], []] [(22, .int .i64 (0)), (21, .int .i64 ((((gL g.mv (at_)).length : Nat) : Int))), (20, .slice aE ((gL g.mv (at_)).length) aF), (19, .pointer (some (cH.add ((at_ : Int).toNat * 1)))), (18, .int .i64 (at_)), (17, .slice Ag2 g.mv.length cg2), (16, .pointer (some ⟨w.heap.size, 2, none⟩))] [(cQ.cell? ⟨w.heap.size, 2, none⟩ = some (.slice Ag2 g.mv.length cg2)), (Ag2 = some cH), (0 ≤ (at_ : Int)), ((at_ : Int) < (g.mv.length : Nat)), (cQ.cell? (cH.add ((at_ : Int).toNat * 1)) = some (.slice aE ((gL g.mv (at_)).length) aF))] (by kernel_rfl) ⟨(bI.cell (i := 2) rfl), fX, (by omega), (by omega), fY, trivial⟩ (fun hR dR => ?_)
 clear dQ
 refine At.done rfl ?_
 refine t_n ?_
 have dS := dR.sub (r := [(22, .int .i64 (0)), (21, .int .i64 ((((gL g.mv (at_)).length : Nat) : Int))), (20, .slice aE ((gL g.mv (at_)).length) aF), (11, .int .i64 (-1)), (10, .pointer (some ⟨aA.heap.size, 0, none⟩)), (9, .int .i64 (0)), (8, .pointer (some ⟨aB.heap.size, 0, none⟩)), (5, .pointer (some ⟨w1.heap.size, 0, none⟩)), (4, .pointer (some ⟨w.heap.size, 0, none⟩)), (2, .slice As ls.length cs), (3, .int .i64 (at_))]) ⟨rfl, rfl, rfl, rfl, rfl, rfl, rfl, rfl, rfl, rfl, rfl, trivial⟩
 clear dR
 refine wp_block ?_
 have dT := dS.as 11 (.int .i64 (-1)) (.int .i64 ((bestB (upG g ls at_) (gI g.ow at_) ((gL g.mv at_).take (0 : Int).toNat)).2)) rfl (congrArg (Value.int .i64) (by rw [bestB_zero]))
 clear dS
 have dU := dT.sub (r := [(22, .int .i64 (0)), (11, .int .i64 ((bestB (upG g ls at_) (gI g.ow at_) ((gL g.mv at_).take (0 : Int).toNat)).2)), (21, .int .i64 ((((gL g.mv (at_)).length : Nat) : Int))), (20, .slice aE ((gL g.mv (at_)).length) aF), (10, .pointer (some ⟨aA.heap.size, 0, none⟩)), (9, .int .i64 (0)), (8, .pointer (some ⟨aB.heap.size, 0, none⟩)), (5, .pointer (some ⟨w1.heap.size, 0, none⟩)), (4, .pointer (some ⟨w.heap.size, 0, none⟩)), (2, .slice As ls.length cs), (3, .int .i64 (at_))]) ⟨rfl, rfl, rfl, rfl, rfl, rfl, rfl, rfl, rfl, rfl, rfl, trivial⟩
 refine loop_g (fun (m_ : Nat) a_ w_ => ∃ (k : Int), m_ = (((gL g.mv at_).length : Int) - k).toNat ∧ (Frm 59 a_ [(22, .int .i64 (k)), (11, .int .i64 ((bestB (upG g ls at_) (gI g.ow at_) ((gL g.mv at_).take k.toNat)).2)), (21, .int .i64 ((((gL g.mv (at_)).length : Nat) : Int))), (20, .slice aE ((gL g.mv (at_)).length) aF), (10, .pointer (some ⟨aA.heap.size, 0, none⟩)), (9, .int .i64 (0)), (8, .pointer (some ⟨aB.heap.size, 0, none⟩)), (5, .pointer (some ⟨w1.heap.size, 0, none⟩)), (4, .pointer (some ⟨w.heap.size, 0, none⟩)), (2, .slice As ls.length cs), (3, .int .i64 (at_))]) ∧ (Ext w w_) ∧ (RdG w_ 0 w.heap.size Ag0 Ag1 Ag2 cg0 cg1 cg2 g) ∧ (RdR w_ 0 w.heap.size As (ls : List Tup)) ∧ (Bx w_ (w.heap.size) [.slice Ag0 g.ow.length cg0, .slice Ag1 g.pr.length cg1, .slice Ag2 g.mv.length cg2] 25) ∧ (Bx w_ (w1.heap.size) [.int .i64 (cnt g.pr 1), .int .i64 (cnt g.pr 3), .int .i64 (cnt g.pr 5), .int .i64 (cnt g.pr 7)] 38) ∧ (Bx w_ (aB.heap.size) [.bool false, .int .i64 (0), .int .i64 (0), .int .i64 (0), .int .i64 (0)] 41) ∧ (Bx w_ (aA.heap.size) (tupC ((bestB (upG g ls at_) (gI g.ow at_) ((gL g.mv at_).take k.toNat)).1)) 41) ∧ (RdI w_ 0 w.heap.size aE (gL g.mv (at_))) ∧ (0 ≤ k) ∧ (k ≤ ((gL g.mv at_).length : Int))) _ ⟨0, rfl, dU, e0, r8, r9, bI, bR, bY, (cS.as (tupC_eq (t := tup0) (by rw [bestB_zero]))), cT, (by omega), (Int.natCast_nonneg _)⟩ ?_
 clear dU dT; clear r8; clear r9; clear bI; clear bR; clear bY; clear cS; clear cT; clear e0
 intro m_ hS bO ⟨k, hm69, dV, aJ, aL, aM, aK, aH, aN, aG, aO, i78, i79⟩
 have := aJ.size; have := aK.lt; have := aH.lt; have := aN.lt; have := aG.lt
 refine wp_seq ?_
 refine At.start ?_
 refine At.rd dV 1 [[]] [(23, .bool (decide ((k : Int) < (((gL g.mv (at_)).length : Nat) : Int))))] [] (by kernel_rfl) trivial (fun hT bZ => ?_)
 clear dV
 refine At.done rfl ?_
 refine t_n ?_
 refine wp_seq ?_
 refine cond_S bZ (t := decide ((k : Int) < (((gL g.mv (at_)).length : Nat) : Int))) rfl (fun cU => ?_) (fun cU => ?_)
 ·have hU := of_decide_eq_true cU
  refine wp_skip ?_
  refine t_n ?_
  have dW := bZ.sub (r := [(22, .int .i64 (k)), (11, .int .i64 ((bestB (upG g ls at_) (gI g.ow at_) ((gL g.mv at_).take k.toNat)).2)), (21, .int .i64 ((((gL g.mv (at_)).length : Nat) : Int))), (20, .slice aE ((gL g.mv (at_)).length) aF), (10, .pointer (some ⟨aA.heap.size, 0, none⟩)), (9, .int .i64 (0)), (8, .pointer (some ⟨aB.heap.size, 0, none⟩)), (5, .pointer (some ⟨w1.heap.size, 0, none⟩)), (4, .pointer (some ⟨w.heap.size, 0, none⟩)), (2, .slice As ls.length cs), (3, .int .i64 (at_))]) ⟨rfl, rfl, rfl, rfl, rfl, rfl, rfl, rfl, rfl, rfl, rfl, trivial⟩
  clear bZ
  refine wp_seq ?_
  refine wp_block ?_
  refine wp_seq ?_
  refine At.start ?_
  obtain ⟨cI, fZ, _, _, gA⟩ := RdI.get aO (k) (by omega) (by omega)
  refine At.rd dW 3 [[.ad cI], [.ld (.int .i64 (gI (gL g.mv (at_)) (k)))], []] [(13, .int .i64 (gI (gL g.mv (at_)) (k))), (25, .int .i64 (gI (gL g.mv (at_)) (k))), (24, .pointer (some (cI.add ((k : Int).toNat * 1))))] [(aE = some cI), (0 ≤ (k : Int)), ((k : Int) < ((gL g.mv (at_)).length : Nat)), (bO.cell? (cI.add ((k : Int).toNat * 1)) = some (.int .i64 (gI (gL g.mv (at_)) (k))))] (by kernel_rfl) ⟨fZ, (by omega), (by omega), gA, trivial⟩ (fun hV dX => ?_)
  clear dW
  refine At.done rfl ?_
  refine t_n ?_
  have cV := dX.sub (r := [(13, .int .i64 (gI (gL g.mv (at_)) (k))), (22, .int .i64 (k)), (11, .int .i64 ((bestB (upG g ls at_) (gI g.ow at_) ((gL g.mv at_).take k.toNat)).2)), (21, .int .i64 ((((gL g.mv (at_)).length : Nat) : Int))), (20, .slice aE ((gL g.mv (at_)).length) aF), (10, .pointer (some ⟨aA.heap.size, 0, none⟩)), (9, .int .i64 (0)), (8, .pointer (some ⟨aB.heap.size, 0, none⟩)), (5, .pointer (some ⟨w1.heap.size, 0, none⟩)), (4, .pointer (some ⟨w.heap.size, 0, none⟩)), (2, .slice As ls.length cs), (3, .int .i64 (at_))]) ⟨rfl, rfl, rfl, rfl, rfl, rfl, rfl, rfl, rfl, rfl, rfl, rfl, trivial⟩
  clear dX; have hmk := hmv k (by omega) (by omega)
  refine wp_seq (cut (fun a_ w_ => ∃ (aC : Nat), (Frm 59 a_ [(14, .pointer (some ⟨aC, 0, none⟩)), (13, .int .i64 (gI (gL g.mv (at_)) (k))), (22, .int .i64 (k)), (11, .int .i64 ((bestB (upG g ls at_) (gI g.ow at_) ((gL g.mv at_).take k.toNat)).2)), (21, .int .i64 ((((gL g.mv (at_)).length : Nat) : Int))), (20, .slice aE ((gL g.mv (at_)).length) aF), (10, .pointer (some ⟨aA.heap.size, 0, none⟩)), (9, .int .i64 (0)), (8, .pointer (some ⟨aB.heap.size, 0, none⟩)), (5, .pointer (some ⟨w1.heap.size, 0, none⟩)), (4, .pointer (some ⟨w.heap.size, 0, none⟩)), (2, .slice As ls.length cs), (3, .int .i64 (at_))]) ∧ (Ext w w_) ∧ (RdG w_ 0 w.heap.size Ag0 Ag1 Ag2 cg0 cg1 cg2 g) ∧ (RdR w_ 0 w.heap.size As (ls : List Tup)) ∧ (Bx w_ (w.heap.size) [.slice Ag0 g.ow.length cg0, .slice Ag1 g.pr.length cg1, .slice Ag2 g.mv.length cg2] 25) ∧ (Bx w_ (w1.heap.size) [.int .i64 (cnt g.pr 1), .int .i64 (cnt g.pr 3), .int .i64 (cnt g.pr 5), .int .i64 (cnt g.pr 7)] 38) ∧ (Bx w_ (aB.heap.size) [.bool false, .int .i64 (0), .int .i64 (0), .int .i64 (0), .int .i64 (0)] 41) ∧ (Bx w_ (aA.heap.size) (tupC ((bestB (upG g ls at_) (gI g.ow at_) ((gL g.mv at_).take k.toNat)).1)) 41) ∧ (RdI w_ 0 w.heap.size aE (gL g.mv (at_))) ∧ (Bx w_ (aC) (tupC (upG g ls at_ (gI (gL g.mv (at_)) (k)))) 41) ∧ (bO.heap.size ≤ aC) ∧ (bO.heap.size ≤ w_.heap.size)) ?_ ?_)
  ·obtain ⟨cA, gB, _, _, gC⟩ := RdI.get aL.pr (at_) (by omega) (by omega)
   obtain ⟨aY, gD, hW, gE, cJ⟩ := aM.get (gI (gL g.mv (at_)) (k)) (by omega) (by omega) (sz := 5) rfl
   obtain ⟨aZ, aX⟩ : ∃ c : List (Addr × Value), c = [(⟨w1.heap.size, 0, none⟩, (.int .i64 (cnt g.pr 1))), (⟨w1.heap.size, 1, none⟩, (.int .i64 (cnt g.pr 3))), (⟨w1.heap.size, 2, none⟩, (.int .i64 (cnt g.pr 5))), (⟨w1.heap.size, 3, none⟩, (.int .i64 (cnt g.pr 7))), (⟨w.heap.size, 1, none⟩, (.slice Ag1 g.pr.length cg1)), ((cA.add ((at_ : Int).toNat * 1)), (.int .i64 (gI g.pr (at_)))), ((aY.add ((gI (gL g.mv (at_)) (k) : Int).toNat * 5)), (.bool ((gT ls (gI (gL g.mv (at_)) (k))).top))), (((aY.add ((gI (gL g.mv (at_)) (k) : Int).toNat * 5)).add 1), (.int .i64 ((gT ls (gI (gL g.mv (at_)) (k))).c0))), (((aY.add ((gI (gL g.mv (at_)) (k) : Int).toNat * 5)).add 2), (.int .i64 ((gT ls (gI (gL g.mv (at_)) (k))).c1))), (((aY.add ((gI (gL g.mv (at_)) (k) : Int).toNat * 5)).add 3), (.int .i64 ((gT ls (gI (gL g.mv (at_)) (k))).c2))), (((aY.add ((gI (gL g.mv (at_)) (k) : Int).toNat * 5)).add 4), (.int .i64 ((gT ls (gI (gL g.mv (at_)) (k))).c3)))] := ⟨_, rfl⟩
   have dY : HoldsC aZ bO := by rw [aX]; exact ⟨(aH.cell (i := 0) rfl), (aH.cell (i := 1) rfl), (aH.cell (i := 2) rfl), (aH.cell (i := 3) rfl), (aK.cell (i := 1) rfl), gC, gE, (cJ 1 _ rfl), (cJ 2 _ rfl), (cJ 3 _ rfl), (cJ 4 _ rfl), trivial⟩
   refine AtH.start aZ 13 #[false, false, false, false, false, false, false, false, false, false, false, false, false] (by kernel_rfl) rfl rfl (fun bT dZ => ?_)
   have bB := gr_drew dZ; have cW := dY.gr bB; have := bB.size; replace aJ := aJ.gn bB; replace aL := aL.gn bB; replace aM := aM.gn bB; replace aK := aK.gn bB; replace aH := aH.gn bB; replace aN := aN.gn bB; replace aG := aG.gn bB; replace aO := aO.gn bB; clear bB dZ dY
   refine AtH.rd (by kernel_rfl) (fun d v c a w h => by cases d <;> exact h) cW [0, 1, 2, 3, 4, 5, 6, 7, 8, 9] [[.ld (.int .i64 (cnt g.pr 1)), .ld (.int .i64 (cnt g.pr 3)), .ld (.int .i64 (cnt g.pr 5)), .ld (.int .i64 (cnt g.pr 7))], [], [.ld (.slice Ag1 g.pr.length cg1)], [], [.ad cA], [.ld (.int .i64 (gI g.pr (at_)))], [], [], [.ad aY], [.ld (.bool ((gT ls (gI (gL g.mv (at_)) (k))).top)), .ld (.int .i64 ((gT ls (gI (gL g.mv (at_)) (k))).c0)), .ld (.int .i64 ((gT ls (gI (gL g.mv (at_)) (k))).c1)), .ld (.int .i64 ((gT ls (gI (gL g.mv (at_)) (k))).c2)), .ld (.int .i64 ((gT ls (gI (gL g.mv (at_)) (k))).c3))]] [(35, tupV (gT ls (gI (gL g.mv (at_)) (k)))), (34, .pointer (some (aY.add ((gI (gL g.mv (at_)) (k) : Int).toNat * 5)))), (33, .int .i64 (gI (gL g.mv (at_)) (k))), (32, .slice As ls.length cs), (31, .int .i64 (gI g.pr (at_))), (30, .pointer (some (cA.add ((at_ : Int).toNat * 1)))), (29, .int .i64 (at_)), (28, .slice Ag1 g.pr.length cg1), (27, .pointer (some ⟨w.heap.size, 1, none⟩)), (26, .agg #[.int .i64 (cnt g.pr 1), .int .i64 (cnt g.pr 3), .int .i64 (cnt g.pr 5), .int .i64 (cnt g.pr 7)])] #[true, true, true, true, true, true, true, true, true, true, false, false, false] [(∃ j_ : Nat, aZ[j_]? = some (⟨w1.heap.size, 0, none⟩, (.int .i64 (cnt g.pr 1)))), (∃ j_ : Nat, aZ[j_]? = some (⟨w1.heap.size, 1, none⟩, (.int .i64 (cnt g.pr 3)))), (∃ j_ : Nat, aZ[j_]? = some (⟨w1.heap.size, 2, none⟩, (.int .i64 (cnt g.pr 5)))), (∃ j_ : Nat, aZ[j_]? = some (⟨w1.heap.size, 3, none⟩, (.int .i64 (cnt g.pr 7)))), (∃ j_ : Nat, aZ[j_]? = some (⟨w.heap.size, 1, none⟩, (.slice Ag1 g.pr.length cg1))), (Ag1 = some cA), (0 ≤ (at_ : Int)), ((at_ : Int) < (g.pr.length : Nat)), (∃ j_ : Nat, aZ[j_]? = some ((cA.add ((at_ : Int).toNat * 1)), (.int .i64 (gI g.pr (at_))))), (As = some aY), (0 ≤ (gI (gL g.mv (at_)) (k) : Int)), ((gI (gL g.mv (at_)) (k) : Int) < (ls.length : Nat)), (∃ j_ : Nat, aZ[j_]? = some ((aY.add ((gI (gL g.mv (at_)) (k) : Int).toNat * 5)), (.bool ((gT ls (gI (gL g.mv (at_)) (k))).top)))), (∃ j_ : Nat, aZ[j_]? = some (((aY.add ((gI (gL g.mv (at_)) (k) : Int).toNat * 5)).add 1), (.int .i64 ((gT ls (gI (gL g.mv (at_)) (k))).c0)))), (∃ j_ : Nat, aZ[j_]? = some (((aY.add ((gI (gL g.mv (at_)) (k) : Int).toNat * 5)).add 2), (.int .i64 ((gT ls (gI (gL g.mv (at_)) (k))).c1)))), (∃ j_ : Nat, aZ[j_]? = some (((aY.add ((gI (gL g.mv (at_)) (k) : Int).toNat * 5)).add 3), (.int .i64 ((gT ls (gI (gL g.mv (at_)) (k))).c2)))), (∃ j_ : Nat, aZ[j_]? = some (((aY.add ((gI (gL g.mv (at_)) (k) : Int).toNat * 5)).add 4), (.int .i64 ((gT ls (gI (gL g.mv (at_)) (k))).c3))))] 3 cV (by kernel_rfl) ⟨⟨0, by rw [aX]; rfl⟩, ⟨1, by rw [aX]; rfl⟩, ⟨2, by rw [aX]; rfl⟩, ⟨3, by rw [aX]; rfl⟩, ⟨4, by rw [aX]; rfl⟩, gB, (by omega), (by omega), ⟨5, by rw [aX]; rfl⟩, gD, (by omega), (by omega), ⟨6, by rw [aX]; rfl⟩, ⟨7, by rw [aX]; rfl⟩, ⟨8, by rw [aX]; rfl⟩, ⟨9, by rw [aX]; rfl⟩, ⟨10, by rw [aX]; rfl⟩, trivial⟩ (fun hX cK => ?_)
   clear cV
   refine AtH.all [10, 11] 2 (by kernel_rfl) (by simp) ⟨?_, ?_, trivial⟩
   ·refine OneH.call cK 55 #[.agg #[.int .i64 (cnt g.pr 1), .int .i64 (cnt g.pr 3), .int .i64 (cnt g.pr 5), .int .i64 (cnt g.pr 7)], .int .i64 (gI g.pr (at_)), tupV (gT ls (gI (gL g.mv (at_)) (k)))] (some 36) #[true, true, true, true, true, true, true, true, true, true, true, false, false] (by kernel_rfl) (by kernel_rfl) (up_any (n0 := cnt g.pr 1) (n1 := cnt g.pr 3) (n2 := cnt g.pr 5) (n3 := cnt g.pr 7) (p := gI g.pr (at_)) (t := (gT ls (gI (gL g.mv (at_)) (k)))) (by omega) (by omega) (by omega) (by omega) (by first | assumption | exact hok _)) ?_
    rintro e_ bU ⟨rfl, he⟩
    refine ⟨_, rfl, _, rfl, fun hY eA => ?_⟩
    clear cK; have bC := gr_ext he; have eB := cW.gr bC; have := bC.size; replace aJ := aJ.gn bC; replace aL := aL.gn bC; replace aM := aM.gn bC; replace aK := aK.gn bC; replace aH := aH.gn bC; replace aN := aN.gn bC; replace aG := aG.gn bC; replace aO := aO.gn bC; clear bC he
    refine ⟨eB, ?_⟩
    refine AtH.all [11] 1 (by kernel_rfl) (by simp) ⟨?_, trivial⟩
    refine OneH.seq eA [[]] [(14, .pointer (some ⟨bU.heap.size, 0, none⟩))] (bU.alloc (.cells #[.bool false, .int .i64 (0), .int .i64 (0), .int .i64 (0), .int .i64 (0)] 41 (0, 0))) [] #[true, true, true, true, true, true, true, true, true, true, true, true, false] (by kernel_rfl) (by kernel_rfl) (by kernel_rfl) trivial (fun hZ gF cX eC => ?_)
    clear eA; have bD := gr_alloc cX; have eD := eB.gr bD; have := bD.size; replace aJ := aJ.gn bD; replace aL := aL.gn bD; replace aM := aM.gn bD; replace aK := aK.gn bD; replace aH := aH.gn bD; replace aN := aN.gn bD; replace aG := aG.gn bD; replace aO := aO.gn bD; have cY : Bx gF (bU.heap.size) [.bool false, .int .i64 (0), .int .i64 (0), .int .i64 (0), .int .i64 (0)] 41 := Bx.new cX; have := cY.lt
    clear bD cX
    refine ⟨eD, ?_⟩
    refine AtH.all [12] 0 (by kernel_rfl) (by simp) ⟨?_, trivial⟩
    refine OneH.store eC (t := 41) (b := bU.heap.size) (off := 0) (v := tupV (upG g ls at_ (gI (gL g.mv (at_)) (k)))) #[true, true, true, true, true, true, true, true, true, true, true, true, true] (by kernel_rfl) (by kernel_rfl) cY (by kernel_rfl) (fun iA gG bE cZ gH => ?_)
    clear eC; replace cZ : Bx gG (bU.heap.size) (tupC (upG g ls at_ (gI (gL g.mv (at_)) (k)))) 41 := cZ
    have eE := eD.gr' bE (by rw [aX]; exact ⟨(by simp only [add_block]; omega), (by simp only [add_block]; omega), (by simp only [add_block]; omega), (by simp only [add_block]; omega), (by simp only [add_block]; omega), (by simp only [add_block]; omega), (by simp only [add_block]; omega), (by simp only [add_block]; omega), (by simp only [add_block]; omega), (by simp only [add_block]; omega), (by simp only [add_block]; omega), trivial⟩)
    have := bE.size; replace aJ := aJ.gr bE (fun k h => by injection h; omega); replace aL := aL.gb bE (by omega); replace aM := aM.gb bE (by omega); replace aK := aK.gb bE (by omega); replace aH := aH.gb bE (by omega); replace aN := aN.gb bE (by omega); replace aG := aG.gb bE (by omega); replace aO := aO.gb bE (by omega); clear cY bE
    refine ⟨eE, ?_⟩
    refine AtH.done (by kernel_rfl) ?_
    clear eE
    refine t_n ?_
    have gJ := gH.sub (r := [(14, .pointer (some ⟨bU.heap.size, 0, none⟩)), (13, .int .i64 (gI (gL g.mv (at_)) (k))), (22, .int .i64 (k)), (11, .int .i64 ((bestB (upG g ls at_) (gI g.ow at_) ((gL g.mv at_).take k.toNat)).2)), (21, .int .i64 ((((gL g.mv (at_)).length : Nat) : Int))), (20, .slice aE ((gL g.mv (at_)).length) aF), (10, .pointer (some ⟨aA.heap.size, 0, none⟩)), (9, .int .i64 (0)), (8, .pointer (some ⟨aB.heap.size, 0, none⟩)), (5, .pointer (some ⟨w1.heap.size, 0, none⟩)), (4, .pointer (some ⟨w.heap.size, 0, none⟩)), (2, .slice As ls.length cs), (3, .int .i64 (at_))]) ⟨rfl, rfl, rfl, rfl, rfl, rfl, rfl, rfl, rfl, rfl, rfl, rfl, rfl, trivial⟩
    exact ⟨bU.heap.size, gJ, aJ, aL, aM, aK, aH, aN, aG, aO, cZ, (by omega), (by omega)⟩
   refine OneH.seq cK [[]] [(14, .pointer (some ⟨bT.heap.size, 0, none⟩))] (bT.alloc (.cells #[.bool false, .int .i64 (0), .int .i64 (0), .int .i64 (0), .int .i64 (0)] 41 (0, 0))) [] #[true, true, true, true, true, true, true, true, true, true, false, true, false] (by kernel_rfl) (by kernel_rfl) (by kernel_rfl) trivial (fun iB gK dA eF => ?_)
   clear cK; have bF := gr_alloc dA; have eG := cW.gr bF; have := bF.size; replace aJ := aJ.gn bF; replace aL := aL.gn bF; replace aM := aM.gn bF; replace aK := aK.gn bF; replace aH := aH.gn bF; replace aN := aN.gn bF; replace aG := aG.gn bF; replace aO := aO.gn bF; have cB : Bx gK (bT.heap.size) [.bool false, .int .i64 (0), .int .i64 (0), .int .i64 (0), .int .i64 (0)] 41 := Bx.new dA; have := cB.lt
   clear bF dA
   refine ⟨eG, ?_⟩
   refine AtH.all [10] 1 (by kernel_rfl) (by simp) ⟨?_, trivial⟩
   refine OneH.call eF 55 #[.agg #[.int .i64 (cnt g.pr 1), .int .i64 (cnt g.pr 3), .int .i64 (cnt g.pr 5), .int .i64 (cnt g.pr 7)], .int .i64 (gI g.pr (at_)), tupV (gT ls (gI (gL g.mv (at_)) (k)))] (some 36) #[true, true, true, true, true, true, true, true, true, true, true, true, false] (by kernel_rfl) (by kernel_rfl) (up_any (n0 := cnt g.pr 1) (n1 := cnt g.pr 3) (n2 := cnt g.pr 5) (n3 := cnt g.pr 7) (p := gI g.pr (at_)) (t := (gT ls (gI (gL g.mv (at_)) (k)))) (by omega) (by omega) (by omega) (by omega) (by first | assumption | exact hok _)) ?_
   rintro e_ iC ⟨rfl, he⟩
   refine ⟨_, rfl, _, rfl, fun iD eH => ?_⟩
   clear eF; have bA := gr_ext he; have eI := eG.gr bA; have := bA.size; replace aJ := aJ.gn bA; replace aL := aL.gn bA; replace aM := aM.gn bA; replace aK := aK.gn bA; replace aH := aH.gn bA; replace aN := aN.gn bA; replace aG := aG.gn bA; replace aO := aO.gn bA; replace cB := cB.gn bA; clear bA he
   refine ⟨eI, ?_⟩
   refine AtH.all [12] 0 (by kernel_rfl) (by simp) ⟨?_, trivial⟩
   refine OneH.store eH (t := 41) (b := bT.heap.size) (off := 0) (v := tupV (upG g ls at_ (gI (gL g.mv (at_)) (k)))) #[true, true, true, true, true, true, true, true, true, true, true, true, true] (by kernel_rfl) (by kernel_rfl) cB (by kernel_rfl) (fun iE gM bG dB gN => ?_)
   clear eH; replace dB : Bx gM (bT.heap.size) (tupC (upG g ls at_ (gI (gL g.mv (at_)) (k)))) 41 := dB
   have eJ := eI.gr' bG (by rw [aX]; exact ⟨(by simp only [add_block]; omega), (by simp only [add_block]; omega), (by simp only [add_block]; omega), (by simp only [add_block]; omega), (by simp only [add_block]; omega), (by simp only [add_block]; omega), (by simp only [add_block]; omega), (by simp only [add_block]; omega), (by simp only [add_block]; omega), (by simp only [add_block]; omega), (by simp only [add_block]; omega), trivial⟩)
   have := bG.size; replace aJ := aJ.gr bG (fun k h => by injection h; omega); replace aL := aL.gb bG (by omega); replace aM := aM.gb bG (by omega); replace aK := aK.gb bG (by omega); replace aH := aH.gb bG (by omega); replace aN := aN.gb bG (by omega); replace aG := aG.gb bG (by omega); replace aO := aO.gb bG (by omega); clear cB bG
   refine ⟨eJ, ?_⟩
   refine AtH.done (by kernel_rfl) ?_
   clear eJ
   refine t_n ?_
   have gO := gN.sub (r := [(14, .pointer (some ⟨bT.heap.size, 0, none⟩)), (13, .int .i64 (gI (gL g.mv (at_)) (k))), (22, .int .i64 (k)), (11, .int .i64 ((bestB (upG g ls at_) (gI g.ow at_) ((gL g.mv at_).take k.toNat)).2)), (21, .int .i64 ((((gL g.mv (at_)).length : Nat) : Int))), (20, .slice aE ((gL g.mv (at_)).length) aF), (10, .pointer (some ⟨aA.heap.size, 0, none⟩)), (9, .int .i64 (0)), (8, .pointer (some ⟨aB.heap.size, 0, none⟩)), (5, .pointer (some ⟨w1.heap.size, 0, none⟩)), (4, .pointer (some ⟨w.heap.size, 0, none⟩)), (2, .slice As ls.length cs), (3, .int .i64 (at_))]) ⟨rfl, rfl, rfl, rfl, rfl, rfl, rfl, rfl, rfl, rfl, rfl, rfl, rfl, trivial⟩
   exact ⟨bT.heap.size, gO, aJ, aL, aM, aK, aH, aN, aG, aO, dB, (by omega), (by omega)⟩
  clear aL; clear aM; clear aK; clear aH; clear aN; clear aG; clear aO; clear cV aJ
  intro iF bJ ⟨aC, eK, aR, aS, aV, aP, aT, aU, aQ, aW, aD, iG, iH⟩
  have := aR.size; have := aP.lt; have := aT.lt; have := aU.lt; have := aQ.lt; have := aD.lt
  refine wp_seq ?_
  refine At.start ?_
  refine At.rd eK 2 [[.ld (.bool ((upG g ls at_ (gI (gL g.mv (at_)) (k))).top)), .ld (.int .i64 ((upG g ls at_ (gI (gL g.mv (at_)) (k))).c0)), .ld (.int .i64 ((upG g ls at_ (gI (gL g.mv (at_)) (k))).c1)), .ld (.int .i64 ((upG g ls at_ (gI (gL g.mv (at_)) (k))).c2)), .ld (.int .i64 ((upG g ls at_ (gI (gL g.mv (at_)) (k))).c3))], [.ld (.bool ((bestB (upG g ls at_) (gI g.ow at_) ((gL g.mv at_).take k.toNat)).1.top)), .ld (.int .i64 ((bestB (upG g ls at_) (gI g.ow at_) ((gL g.mv at_).take k.toNat)).1.c0)), .ld (.int .i64 ((bestB (upG g ls at_) (gI g.ow at_) ((gL g.mv at_).take k.toNat)).1.c1)), .ld (.int .i64 ((bestB (upG g ls at_) (gI g.ow at_) ((gL g.mv at_).take k.toNat)).1.c2)), .ld (.int .i64 ((bestB (upG g ls at_) (gI g.ow at_) ((gL g.mv at_).take k.toNat)).1.c3))]] [(38, tupV ((bestB (upG g ls at_) (gI g.ow at_) ((gL g.mv at_).take k.toNat)).1)), (37, tupV (upG g ls at_ (gI (gL g.mv (at_)) (k))))] [(bJ.cell? ⟨aC, 0, none⟩ = some (.bool ((upG g ls at_ (gI (gL g.mv (at_)) (k))).top))), (bJ.cell? ⟨aC, 1, none⟩ = some (.int .i64 ((upG g ls at_ (gI (gL g.mv (at_)) (k))).c0))), (bJ.cell? ⟨aC, 2, none⟩ = some (.int .i64 ((upG g ls at_ (gI (gL g.mv (at_)) (k))).c1))), (bJ.cell? ⟨aC, 3, none⟩ = some (.int .i64 ((upG g ls at_ (gI (gL g.mv (at_)) (k))).c2))), (bJ.cell? ⟨aC, 4, none⟩ = some (.int .i64 ((upG g ls at_ (gI (gL g.mv (at_)) (k))).c3))), (bJ.cell? ⟨aA.heap.size, 0, none⟩ = some (.bool ((bestB (upG g ls at_) (gI g.ow at_) ((gL g.mv at_).take k.toNat)).1.top))), (bJ.cell? ⟨aA.heap.size, 1, none⟩ = some (.int .i64 ((bestB (upG g ls at_) (gI g.ow at_) ((gL g.mv at_).take k.toNat)).1.c0))), (bJ.cell? ⟨aA.heap.size, 2, none⟩ = some (.int .i64 ((bestB (upG g ls at_) (gI g.ow at_) ((gL g.mv at_).take k.toNat)).1.c1))), (bJ.cell? ⟨aA.heap.size, 3, none⟩ = some (.int .i64 ((bestB (upG g ls at_) (gI g.ow at_) ((gL g.mv at_).take k.toNat)).1.c2))), (bJ.cell? ⟨aA.heap.size, 4, none⟩ = some (.int .i64 ((bestB (upG g ls at_) (gI g.ow at_) ((gL g.mv at_).take k.toNat)).1.c3)))] (by kernel_rfl) ⟨(aD.cell (i := 0) rfl), (aD.cell (i := 1) rfl), (aD.cell (i := 2) rfl), (aD.cell (i := 3) rfl), (aD.cell (i := 4) rfl), (aQ.cell (i := 0) rfl), (aQ.cell (i := 1) rfl), (aQ.cell (i := 2) rfl), (aQ.cell (i := 3) rfl), (aQ.cell (i := 4) rfl), trivial⟩ (fun iI eL => ?_)
  clear eK
  refine At.call eL 23 #[tupV (upG g ls at_ (gI (gL g.mv (at_)) (k))), tupV ((bestB (upG g ls at_) (gI g.ow at_) ((gL g.mv at_).take k.toNat)).1), .int .i64 (0)] (some 39) (by kernel_rfl) (cmpM_any (a := (upG g ls at_ (gI (gL g.mv (at_)) (k)))) (b := (bestB (upG g ls at_) (gI g.ow at_) ((gL g.mv at_).take k.toNat)).1) (p := 0)) ?_
  rintro e_ aI ⟨rfl, he⟩
  have := cmp_rng (upG g ls at_ (gI (gL g.mv (at_)) (k))) ((bestB (upG g ls at_) (gI g.ow at_) ((gL g.mv at_).take k.toNat)).1) 0
  refine ⟨_, rfl, _, rfl, fun iJ eM => ?_⟩
  clear eL; have bH := gr_ext he; have := bH.size; replace aR := aR.gn bH; replace aS := aS.gn bH; replace aV := aV.gn bH; replace aP := aP.gn bH; replace aT := aT.gn bH; replace aU := aU.gn bH; replace aQ := aQ.gn bH; replace aW := aW.gn bH; replace aD := aD.gn bH; clear bH he
  refine At.rd eM 1 [[]] [(15, .int .i64 (cmpT (upG g ls at_ (gI (gL g.mv (at_)) (k))) ((bestB (upG g ls at_) (gI g.ow at_) ((gL g.mv at_).take k.toNat)).1) 0))] [] (by kernel_rfl) trivial (fun iK eN => ?_)
  clear eM
  refine At.done rfl ?_
  refine t_n ?_
  have eO := eN.sub (r := [(15, .int .i64 (cmpT (upG g ls at_ (gI (gL g.mv (at_)) (k))) ((bestB (upG g ls at_) (gI g.ow at_) ((gL g.mv at_).take k.toNat)).1) 0)), (14, .pointer (some ⟨aC, 0, none⟩)), (13, .int .i64 (gI (gL g.mv (at_)) (k))), (22, .int .i64 (k)), (11, .int .i64 ((bestB (upG g ls at_) (gI g.ow at_) ((gL g.mv at_).take k.toNat)).2)), (21, .int .i64 ((((gL g.mv (at_)).length : Nat) : Int))), (20, .slice aE ((gL g.mv (at_)).length) aF), (10, .pointer (some ⟨aA.heap.size, 0, none⟩)), (9, .int .i64 (0)), (8, .pointer (some ⟨aB.heap.size, 0, none⟩)), (5, .pointer (some ⟨w1.heap.size, 0, none⟩)), (4, .pointer (some ⟨w.heap.size, 0, none⟩)), (2, .slice As ls.length cs), (3, .int .i64 (at_))]) ⟨rfl, rfl, rfl, rfl, rfl, rfl, rfl, rfl, rfl, rfl, rfl, rfl, rfl, rfl, trivial⟩
  clear eN
  refine wp_seq ?_
  refine wp_seq ?_
  refine At.start ?_
  obtain ⟨cL, gP, _, _, gQ⟩ := RdI.get aS.ow (at_) (by omega) (by omega)
  refine At.rd eO 6 [[], [.ld (.slice Ag0 g.ow.length cg0)], [], [.ad cL], [.ld (.int .i64 (gI g.ow (at_)))], []] [(45, .bool ((gI g.ow (at_) : Int) == 1)), (44, .int .i64 (gI g.ow (at_))), (43, .pointer (some (cL.add ((at_ : Int).toNat * 1)))), (42, .int .i64 (at_)), (41, .slice Ag0 g.ow.length cg0), (40, .pointer (some ⟨w.heap.size, 0, none⟩))] [(aI.cell? ⟨w.heap.size, 0, none⟩ = some (.slice Ag0 g.ow.length cg0)), (Ag0 = some cL), (0 ≤ (at_ : Int)), ((at_ : Int) < (g.ow.length : Nat)), (aI.cell? (cL.add ((at_ : Int).toNat * 1)) = some (.int .i64 (gI g.ow (at_))))] (by kernel_rfl) ⟨(aP.cell (i := 0) rfl), gP, (by omega), (by omega), gQ, trivial⟩ (fun iL eP => ?_)
  clear eO
  refine At.done rfl ?_
  refine t_n ?_
  have cC := eP.sub (r := [(45, .bool ((gI g.ow (at_) : Int) == 1)), (15, .int .i64 (cmpT (upG g ls at_ (gI (gL g.mv (at_)) (k))) ((bestB (upG g ls at_) (gI g.ow at_) ((gL g.mv at_).take k.toNat)).1) 0)), (14, .pointer (some ⟨aC, 0, none⟩)), (13, .int .i64 (gI (gL g.mv (at_)) (k))), (22, .int .i64 (k)), (11, .int .i64 ((bestB (upG g ls at_) (gI g.ow at_) ((gL g.mv at_).take k.toNat)).2)), (21, .int .i64 ((((gL g.mv (at_)).length : Nat) : Int))), (20, .slice aE ((gL g.mv (at_)).length) aF), (10, .pointer (some ⟨aA.heap.size, 0, none⟩)), (9, .int .i64 (0)), (8, .pointer (some ⟨aB.heap.size, 0, none⟩)), (5, .pointer (some ⟨w1.heap.size, 0, none⟩)), (4, .pointer (some ⟨w.heap.size, 0, none⟩)), (2, .slice As ls.length cs), (3, .int .i64 (at_))]) ⟨rfl, rfl, rfl, rfl, rfl, rfl, rfl, rfl, rfl, rfl, rfl, rfl, rfl, rfl, rfl, trivial⟩
  clear eP
  refine cond_S cC (t := (gI g.ow (at_) : Int) == 1) rfl (fun dC => ?_) (fun dC => ?_)
  ·have iM := eq_of_beq dC
   refine At.start ?_
   refine At.rd cC 3 [[], [.as_ (.int .i64 (-(cmpT (upG g ls at_ (gI (gL g.mv (at_)) (k))) ((bestB (upG g ls at_) (gI g.ow at_) ((gL g.mv at_).take k.toNat)).1) 0)))], []] [(15, .int .i64 (-(cmpT (upG g ls at_ (gI (gL g.mv (at_)) (k))) ((bestB (upG g ls at_) (gI g.ow at_) ((gL g.mv at_).take k.toNat)).1) 0))), (47, .int .i64 (-(cmpT (upG g ls at_ (gI (gL g.mv (at_)) (k))) ((bestB (upG g ls at_) (gI g.ow at_) ((gL g.mv at_).take k.toNat)).1) 0))), (46, .int .i64 (cmpT (upG g ls at_ (gI (gL g.mv (at_)) (k))) ((bestB (upG g ls at_) (gI g.ow at_) ((gL g.mv at_).take k.toNat)).1) 0))] [((.int .i64 (IntKind.i64.wrap (0 - (cmpT (upG g ls at_ (gI (gL g.mv (at_)) (k))) ((bestB (upG g ls at_) (gI g.ow at_) ((gL g.mv at_).take k.toNat)).1) 0))) : Value) = .int .i64 (-(cmpT (upG g ls at_ (gI (gL g.mv (at_)) (k))) ((bestB (upG g ls at_) (gI g.ow at_) ((gL g.mv at_).take k.toNat)).1) 0)))] (by kernel_rfl) ⟨(w64e (by omega) (by omega) (by omega)), trivial⟩ (fun iN eQ => ?_)
   clear cC
   refine At.done rfl ?_
   refine t_n ?_
   have cM := eQ.sub (r := [(15, .int .i64 (-(cmpT (upG g ls at_ (gI (gL g.mv (at_)) (k))) ((bestB (upG g ls at_) (gI g.ow at_) ((gL g.mv at_).take k.toNat)).1) 0))), (14, .pointer (some ⟨aC, 0, none⟩)), (13, .int .i64 (gI (gL g.mv (at_)) (k))), (22, .int .i64 (k)), (11, .int .i64 ((bestB (upG g ls at_) (gI g.ow at_) ((gL g.mv at_).take k.toNat)).2)), (21, .int .i64 ((((gL g.mv (at_)).length : Nat) : Int))), (20, .slice aE ((gL g.mv (at_)).length) aF), (10, .pointer (some ⟨aA.heap.size, 0, none⟩)), (9, .int .i64 (0)), (8, .pointer (some ⟨aB.heap.size, 0, none⟩)), (5, .pointer (some ⟨w1.heap.size, 0, none⟩)), (4, .pointer (some ⟨w.heap.size, 0, none⟩)), (2, .slice As ls.length cs), (3, .int .i64 (at_))]) ⟨rfl, rfl, rfl, rfl, rfl, rfl, rfl, rfl, rfl, rfl, rfl, rfl, rfl, rfl, trivial⟩
   clear eQ
   refine wp_seq ?_
   refine At.start ?_
   rcases Bool.eq_false_or_eq_true (decide (((bestB (upG g ls at_) (gI g.ow at_) ((gL g.mv at_).take k.toNat)).2 : Int) < 0)) with cD | cD
   ·have iO := of_decide_eq_true cD
    refine At.rd cM 6 [[], [], [.as_ (.bool true)], [], [], []] [(53, .bool true), (52, undef), (51, undef), (50, .bool true), (49, .bool (decide (((bestB (upG g ls at_) (gI g.ow at_) ((gL g.mv at_).take k.toNat)).2 : Int) < 0))), (48, .int .i64 ((bestB (upG g ls at_) (gI g.ow at_) ((gL g.mv at_).take k.toNat)).2))] [((.bool (decide (((bestB (upG g ls at_) (gI g.ow at_) ((gL g.mv at_).take k.toNat)).2 : Int) < 0)) : Value) = .bool true)] (by kernel_rfl) ⟨(congrArg Value.bool cD), trivial⟩ (fun iP eR => ?_)
    clear cM
    refine At.done rfl ?_
    refine t_n ?_
    have dD := eR.sub (r := [(53, .bool true), (14, .pointer (some ⟨aC, 0, none⟩)), (13, .int .i64 (gI (gL g.mv (at_)) (k))), (22, .int .i64 (k)), (11, .int .i64 ((bestB (upG g ls at_) (gI g.ow at_) ((gL g.mv at_).take k.toNat)).2)), (21, .int .i64 ((((gL g.mv (at_)).length : Nat) : Int))), (20, .slice aE ((gL g.mv (at_)).length) aF), (10, .pointer (some ⟨aA.heap.size, 0, none⟩)), (9, .int .i64 (0)), (8, .pointer (some ⟨aB.heap.size, 0, none⟩)), (5, .pointer (some ⟨w1.heap.size, 0, none⟩)), (4, .pointer (some ⟨w.heap.size, 0, none⟩)), (2, .slice As ls.length cs), (3, .int .i64 (at_))]) ⟨rfl, rfl, rfl, rfl, rfl, rfl, rfl, rfl, rfl, rfl, rfl, rfl, rfl, rfl, trivial⟩
    clear eR
    refine cond_T dD rfl ?_
    refine At.start ?_
    refine At.rd dD 2 [[.ld (.bool ((upG g ls at_ (gI (gL g.mv (at_)) (k))).top)), .ld (.int .i64 ((upG g ls at_ (gI (gL g.mv (at_)) (k))).c0)), .ld (.int .i64 ((upG g ls at_ (gI (gL g.mv (at_)) (k))).c1)), .ld (.int .i64 ((upG g ls at_ (gI (gL g.mv (at_)) (k))).c2)), .ld (.int .i64 ((upG g ls at_ (gI (gL g.mv (at_)) (k))).c3))], []] [(55, .int .i64 (gI (gL g.mv (at_)) (k))), (54, tupV (upG g ls at_ (gI (gL g.mv (at_)) (k))))] [(aI.cell? ⟨aC, 0, none⟩ = some (.bool ((upG g ls at_ (gI (gL g.mv (at_)) (k))).top))), (aI.cell? ⟨aC, 1, none⟩ = some (.int .i64 ((upG g ls at_ (gI (gL g.mv (at_)) (k))).c0))), (aI.cell? ⟨aC, 2, none⟩ = some (.int .i64 ((upG g ls at_ (gI (gL g.mv (at_)) (k))).c1))), (aI.cell? ⟨aC, 3, none⟩ = some (.int .i64 ((upG g ls at_ (gI (gL g.mv (at_)) (k))).c2))), (aI.cell? ⟨aC, 4, none⟩ = some (.int .i64 ((upG g ls at_ (gI (gL g.mv (at_)) (k))).c3)))] (by kernel_rfl) ⟨(aD.cell (i := 0) rfl), (aD.cell (i := 1) rfl), (aD.cell (i := 2) rfl), (aD.cell (i := 3) rfl), (aD.cell (i := 4) rfl), trivial⟩ (fun iQ eS => ?_)
    clear dD
    refine At.store eS (t := 41) (b := aA.heap.size) (off := 0) (v := tupV (upG g ls at_ (gI (gL g.mv (at_)) (k)))) (by kernel_rfl) aQ (by kernel_rfl) (fun iR gR bK dE eT => ?_)
    clear eS; replace dE : Bx gR (aA.heap.size) (tupC (upG g ls at_ (gI (gL g.mv (at_)) (k)))) 41 := dE; have := bK.size; replace aR := aR.gr bK (fun k h => by injection h; omega); replace aS := aS.gb bK (by omega); replace aV := aV.gb bK (by omega); replace aP := aP.gb bK (by omega); replace aT := aT.gb bK (by omega); replace aU := aU.gb bK (by omega); replace aW := aW.gb bK (by omega)
    replace aD := aD.gb bK (by omega); clear aQ bK
    refine At.rd eT 1 [[]] [(11, .int .i64 (gI (gL g.mv (at_)) (k)))] [] (by kernel_rfl) trivial (fun iS eU => ?_)
    clear eT
    refine At.done rfl ?_
    refine b_n ?_
    refine t_n ?_
    have eV := eU.sub (r := [(11, .int .i64 (gI (gL g.mv (at_)) (k))), (22, .int .i64 (k)), (21, .int .i64 ((((gL g.mv (at_)).length : Nat) : Int))), (20, .slice aE ((gL g.mv (at_)).length) aF), (10, .pointer (some ⟨aA.heap.size, 0, none⟩)), (9, .int .i64 (0)), (8, .pointer (some ⟨aB.heap.size, 0, none⟩)), (5, .pointer (some ⟨w1.heap.size, 0, none⟩)), (4, .pointer (some ⟨w.heap.size, 0, none⟩)), (2, .slice As ls.length cs), (3, .int .i64 (at_))]) ⟨rfl, rfl, rfl, rfl, rfl, rfl, rfl, rfl, rfl, rfl, rfl, trivial⟩
    clear eU
    refine At.start ?_
    refine At.rd eV 2 [[.as_ (.int .i64 (k + 1))], []] [(22, .int .i64 (k + 1)), (56, .int .i64 (k + 1))] [((.int .i64 (IntKind.i64.wrap (k + 1)) : Value) = .int .i64 (k + 1))] (by kernel_rfl) ⟨(w64 (by omega) (by omega)), trivial⟩ (fun iT eW => ?_)
    clear eV
    refine At.done rfl ?_
    refine t_n ?_
    have gS := eW.as 11 (.int .i64 (gI (gL g.mv (at_)) (k))) (.int .i64 ((bestB (upG g ls at_) (gI g.ow at_) ((gL g.mv at_).take ((k + 1) : Int).toNat)).2)) rfl (congrArg (Value.int .i64) (by first | exact congrArg Prod.snd (bestB_yes (f := upG g ls at_) (by omega) (by omega) (by first | exact .inl (by omega) | exact .inr (.inl ⟨by omega, by omega⟩) | exact .inr (.inr ⟨by omega, by omega⟩))) | exact congrArg Prod.snd (bestB_no (f := upG g ls at_) (by omega) (by omega) (by omega) (fun _ => by omega) (fun _ => by omega))))
    clear eW
    have gU := gS.sub (r := [(22, .int .i64 (k + 1)), (11, .int .i64 ((bestB (upG g ls at_) (gI g.ow at_) ((gL g.mv at_).take ((k + 1) : Int).toNat)).2)), (21, .int .i64 ((((gL g.mv (at_)).length : Nat) : Int))), (20, .slice aE ((gL g.mv (at_)).length) aF), (10, .pointer (some ⟨aA.heap.size, 0, none⟩)), (9, .int .i64 (0)), (8, .pointer (some ⟨aB.heap.size, 0, none⟩)), (5, .pointer (some ⟨w1.heap.size, 0, none⟩)), (4, .pointer (some ⟨w.heap.size, 0, none⟩)), (2, .slice As ls.length cs), (3, .int .i64 (at_))]) ⟨rfl, rfl, rfl, rfl, rfl, rfl, rfl, rfl, rfl, rfl, rfl, trivial⟩
    exact ⟨_, (by omega), (k + 1), rfl, gU, aR, aS, aV, aP, aT, aU, (dE.as (by first | exact tupC_eq (t := upG g ls at_ (gI (gL g.mv at_) k)) (congrArg Prod.fst (bestB_yes (f := upG g ls at_) (by omega) (by omega) (by first | exact .inl (by omega) | exact .inr (.inl ⟨by omega, by omega⟩) | exact .inr (.inr ⟨by omega, by omega⟩)))) | exact tupC_eq (congrArg Prod.fst (bestB_no (f := upG g ls at_) (by omega) (by omega) (by omega) (fun _ => by omega) (fun _ => by omega))))), aW, (by omega), (by omega)⟩
   have iU := of_decide_eq_false cD
   refine At.rd cM 6 [[], [], [.as_ (.bool false)], [], [], []] [(53, .bool (decide ((-(cmpT (upG g ls at_ (gI (gL g.mv (at_)) (k))) ((bestB (upG g ls at_) (gI g.ow at_) ((gL g.mv at_).take k.toNat)).1) 0) : Int) < 0))), (52, .bool (decide ((-(cmpT (upG g ls at_ (gI (gL g.mv (at_)) (k))) ((bestB (upG g ls at_) (gI g.ow at_) ((gL g.mv at_).take k.toNat)).1) 0) : Int) < 0))), (51, .int .i64 (-(cmpT (upG g ls at_ (gI (gL g.mv (at_)) (k))) ((bestB (upG g ls at_) (gI g.ow at_) ((gL g.mv at_).take k.toNat)).1) 0))), (50, .bool false), (49, .bool (decide (((bestB (upG g ls at_) (gI g.ow at_) ((gL g.mv at_).take k.toNat)).2 : Int) < 0))), (48, .int .i64 ((bestB (upG g ls at_) (gI g.ow at_) ((gL g.mv at_).take k.toNat)).2))] [((.bool (decide (((bestB (upG g ls at_) (gI g.ow at_) ((gL g.mv at_).take k.toNat)).2 : Int) < 0)) : Value) = .bool false)] (by kernel_rfl) ⟨(congrArg Value.bool cD), trivial⟩ (fun iV eX => ?_)
   clear cM
   refine At.done rfl ?_
   refine t_n ?_
   have cE := eX.sub (r := [(53, .bool (decide ((-(cmpT (upG g ls at_ (gI (gL g.mv (at_)) (k))) ((bestB (upG g ls at_) (gI g.ow at_) ((gL g.mv at_).take k.toNat)).1) 0) : Int) < 0))), (52, .bool (decide ((-(cmpT (upG g ls at_ (gI (gL g.mv (at_)) (k))) ((bestB (upG g ls at_) (gI g.ow at_) ((gL g.mv at_).take k.toNat)).1) 0) : Int) < 0))), (51, .int .i64 (-(cmpT (upG g ls at_ (gI (gL g.mv (at_)) (k))) ((bestB (upG g ls at_) (gI g.ow at_) ((gL g.mv at_).take k.toNat)).1) 0))), (14, .pointer (some ⟨aC, 0, none⟩)), (13, .int .i64 (gI (gL g.mv (at_)) (k))), (22, .int .i64 (k)), (11, .int .i64 ((bestB (upG g ls at_) (gI g.ow at_) ((gL g.mv at_).take k.toNat)).2)), (21, .int .i64 ((((gL g.mv (at_)).length : Nat) : Int))), (20, .slice aE ((gL g.mv (at_)).length) aF), (10, .pointer (some ⟨aA.heap.size, 0, none⟩)), (9, .int .i64 (0)), (8, .pointer (some ⟨aB.heap.size, 0, none⟩)), (5, .pointer (some ⟨w1.heap.size, 0, none⟩)), (4, .pointer (some ⟨w.heap.size, 0, none⟩)), (2, .slice As ls.length cs), (3, .int .i64 (at_))]) ⟨rfl, rfl, rfl, rfl, rfl, rfl, rfl, rfl, rfl, rfl, rfl, rfl, rfl, rfl, rfl, rfl, trivial⟩
   clear eX
   refine cond_S cE (t := decide ((-(cmpT (upG g ls at_ (gI (gL g.mv (at_)) (k))) ((bestB (upG g ls at_) (gI g.ow at_) ((gL g.mv at_).take k.toNat)).1) 0) : Int) < 0)) rfl (fun dF => ?_) (fun dF => ?_)
   ·have iW := of_decide_eq_true dF
    refine At.start ?_
    refine At.rd cE 2 [[.ld (.bool ((upG g ls at_ (gI (gL g.mv (at_)) (k))).top)), .ld (.int .i64 ((upG g ls at_ (gI (gL g.mv (at_)) (k))).c0)), .ld (.int .i64 ((upG g ls at_ (gI (gL g.mv (at_)) (k))).c1)), .ld (.int .i64 ((upG g ls at_ (gI (gL g.mv (at_)) (k))).c2)), .ld (.int .i64 ((upG g ls at_ (gI (gL g.mv (at_)) (k))).c3))], []] [(55, .int .i64 (gI (gL g.mv (at_)) (k))), (54, tupV (upG g ls at_ (gI (gL g.mv (at_)) (k))))] [(aI.cell? ⟨aC, 0, none⟩ = some (.bool ((upG g ls at_ (gI (gL g.mv (at_)) (k))).top))), (aI.cell? ⟨aC, 1, none⟩ = some (.int .i64 ((upG g ls at_ (gI (gL g.mv (at_)) (k))).c0))), (aI.cell? ⟨aC, 2, none⟩ = some (.int .i64 ((upG g ls at_ (gI (gL g.mv (at_)) (k))).c1))), (aI.cell? ⟨aC, 3, none⟩ = some (.int .i64 ((upG g ls at_ (gI (gL g.mv (at_)) (k))).c2))), (aI.cell? ⟨aC, 4, none⟩ = some (.int .i64 ((upG g ls at_ (gI (gL g.mv (at_)) (k))).c3)))] (by kernel_rfl) ⟨(aD.cell (i := 0) rfl), (aD.cell (i := 1) rfl), (aD.cell (i := 2) rfl), (aD.cell (i := 3) rfl), (aD.cell (i := 4) rfl), trivial⟩ (fun iX eY => ?_)
    clear cE
    refine At.store eY (t := 41) (b := aA.heap.size) (off := 0) (v := tupV (upG g ls at_ (gI (gL g.mv (at_)) (k)))) (by kernel_rfl) aQ (by kernel_rfl) (fun iY gV bL dG eZ => ?_)
    clear eY; replace dG : Bx gV (aA.heap.size) (tupC (upG g ls at_ (gI (gL g.mv (at_)) (k)))) 41 := dG; have := bL.size; replace aR := aR.gr bL (fun k h => by injection h; omega); replace aS := aS.gb bL (by omega); replace aV := aV.gb bL (by omega); replace aP := aP.gb bL (by omega); replace aT := aT.gb bL (by omega); replace aU := aU.gb bL (by omega); replace aW := aW.gb bL (by omega)
    replace aD := aD.gb bL (by omega); clear aQ bL
    refine At.rd eZ 1 [[]] [(11, .int .i64 (gI (gL g.mv (at_)) (k)))] [] (by kernel_rfl) trivial (fun iZ fA => ?_)
    clear eZ
    refine At.done rfl ?_
    refine b_n ?_
    refine t_n ?_
    have fB := fA.sub (r := [(11, .int .i64 (gI (gL g.mv (at_)) (k))), (52, .bool (decide ((-(cmpT (upG g ls at_ (gI (gL g.mv (at_)) (k))) ((bestB (upG g ls at_) (gI g.ow at_) ((gL g.mv at_).take k.toNat)).1) 0) : Int) < 0))), (51, .int .i64 (-(cmpT (upG g ls at_ (gI (gL g.mv (at_)) (k))) ((bestB (upG g ls at_) (gI g.ow at_) ((gL g.mv at_).take k.toNat)).1) 0))), (22, .int .i64 (k)), (21, .int .i64 ((((gL g.mv (at_)).length : Nat) : Int))), (20, .slice aE ((gL g.mv (at_)).length) aF), (10, .pointer (some ⟨aA.heap.size, 0, none⟩)), (9, .int .i64 (0)), (8, .pointer (some ⟨aB.heap.size, 0, none⟩)), (5, .pointer (some ⟨w1.heap.size, 0, none⟩)), (4, .pointer (some ⟨w.heap.size, 0, none⟩)), (2, .slice As ls.length cs), (3, .int .i64 (at_))]) ⟨rfl, rfl, rfl, rfl, rfl, rfl, rfl, rfl, rfl, rfl, rfl, rfl, rfl, trivial⟩
    clear fA
    refine At.start ?_
    refine At.rd fB 2 [[.as_ (.int .i64 (k + 1))], []] [(22, .int .i64 (k + 1)), (56, .int .i64 (k + 1))] [((.int .i64 (IntKind.i64.wrap (k + 1)) : Value) = .int .i64 (k + 1))] (by kernel_rfl) ⟨(w64 (by omega) (by omega)), trivial⟩ (fun jA fC => ?_)
    clear fB
    refine At.done rfl ?_
    refine t_n ?_
    have gW := fC.as 11 (.int .i64 (gI (gL g.mv (at_)) (k))) (.int .i64 ((bestB (upG g ls at_) (gI g.ow at_) ((gL g.mv at_).take ((k + 1) : Int).toNat)).2)) rfl (congrArg (Value.int .i64) (by first | exact congrArg Prod.snd (bestB_yes (f := upG g ls at_) (by omega) (by omega) (by first | exact .inl (by omega) | exact .inr (.inl ⟨by omega, by omega⟩) | exact .inr (.inr ⟨by omega, by omega⟩))) | exact congrArg Prod.snd (bestB_no (f := upG g ls at_) (by omega) (by omega) (by omega) (fun _ => by omega) (fun _ => by omega))))
    clear fC
    have gX := gW.sub (r := [(22, .int .i64 (k + 1)), (11, .int .i64 ((bestB (upG g ls at_) (gI g.ow at_) ((gL g.mv at_).take ((k + 1) : Int).toNat)).2)), (21, .int .i64 ((((gL g.mv (at_)).length : Nat) : Int))), (20, .slice aE ((gL g.mv (at_)).length) aF), (10, .pointer (some ⟨aA.heap.size, 0, none⟩)), (9, .int .i64 (0)), (8, .pointer (some ⟨aB.heap.size, 0, none⟩)), (5, .pointer (some ⟨w1.heap.size, 0, none⟩)), (4, .pointer (some ⟨w.heap.size, 0, none⟩)), (2, .slice As ls.length cs), (3, .int .i64 (at_))]) ⟨rfl, rfl, rfl, rfl, rfl, rfl, rfl, rfl, rfl, rfl, rfl, trivial⟩
    exact ⟨_, (by omega), (k + 1), rfl, gX, aR, aS, aV, aP, aT, aU, (dG.as (by first | exact tupC_eq (t := upG g ls at_ (gI (gL g.mv at_) k)) (congrArg Prod.fst (bestB_yes (f := upG g ls at_) (by omega) (by omega) (by first | exact .inl (by omega) | exact .inr (.inl ⟨by omega, by omega⟩) | exact .inr (.inr ⟨by omega, by omega⟩)))) | exact tupC_eq (congrArg Prod.fst (bestB_no (f := upG g ls at_) (by omega) (by omega) (by omega) (fun _ => by omega) (fun _ => by omega))))), aW, (by omega), (by omega)⟩
   have jB := of_decide_eq_false dF
   refine wp_skip ?_
   refine b_n ?_
   refine t_n ?_
   have fD := cE.sub (r := [(52, .bool (decide ((-(cmpT (upG g ls at_ (gI (gL g.mv (at_)) (k))) ((bestB (upG g ls at_) (gI g.ow at_) ((gL g.mv at_).take k.toNat)).1) 0) : Int) < 0))), (51, .int .i64 (-(cmpT (upG g ls at_ (gI (gL g.mv (at_)) (k))) ((bestB (upG g ls at_) (gI g.ow at_) ((gL g.mv at_).take k.toNat)).1) 0))), (22, .int .i64 (k)), (11, .int .i64 ((bestB (upG g ls at_) (gI g.ow at_) ((gL g.mv at_).take k.toNat)).2)), (21, .int .i64 ((((gL g.mv (at_)).length : Nat) : Int))), (20, .slice aE ((gL g.mv (at_)).length) aF), (10, .pointer (some ⟨aA.heap.size, 0, none⟩)), (9, .int .i64 (0)), (8, .pointer (some ⟨aB.heap.size, 0, none⟩)), (5, .pointer (some ⟨w1.heap.size, 0, none⟩)), (4, .pointer (some ⟨w.heap.size, 0, none⟩)), (2, .slice As ls.length cs), (3, .int .i64 (at_))]) ⟨rfl, rfl, rfl, rfl, rfl, rfl, rfl, rfl, rfl, rfl, rfl, rfl, rfl, trivial⟩
   clear cE
   refine At.start ?_
   refine At.rd fD 2 [[.as_ (.int .i64 (k + 1))], []] [(22, .int .i64 (k + 1)), (56, .int .i64 (k + 1))] [((.int .i64 (IntKind.i64.wrap (k + 1)) : Value) = .int .i64 (k + 1))] (by kernel_rfl) ⟨(w64 (by omega) (by omega)), trivial⟩ (fun jC fE => ?_)
   clear fD
   refine At.done rfl ?_
   refine t_n ?_
   have gY := fE.as 11 (.int .i64 ((bestB (upG g ls at_) (gI g.ow at_) ((gL g.mv at_).take k.toNat)).2)) (.int .i64 ((bestB (upG g ls at_) (gI g.ow at_) ((gL g.mv at_).take ((k + 1) : Int).toNat)).2)) rfl (congrArg (Value.int .i64) (by first | exact congrArg Prod.snd (bestB_yes (f := upG g ls at_) (by omega) (by omega) (by first | exact .inl (by omega) | exact .inr (.inl ⟨by omega, by omega⟩) | exact .inr (.inr ⟨by omega, by omega⟩))) | exact congrArg Prod.snd (bestB_no (f := upG g ls at_) (by omega) (by omega) (by omega) (fun _ => by omega) (fun _ => by omega))))
   clear fE
   have gZ := gY.sub (r := [(22, .int .i64 (k + 1)), (11, .int .i64 ((bestB (upG g ls at_) (gI g.ow at_) ((gL g.mv at_).take ((k + 1) : Int).toNat)).2)), (21, .int .i64 ((((gL g.mv (at_)).length : Nat) : Int))), (20, .slice aE ((gL g.mv (at_)).length) aF), (10, .pointer (some ⟨aA.heap.size, 0, none⟩)), (9, .int .i64 (0)), (8, .pointer (some ⟨aB.heap.size, 0, none⟩)), (5, .pointer (some ⟨w1.heap.size, 0, none⟩)), (4, .pointer (some ⟨w.heap.size, 0, none⟩)), (2, .slice As ls.length cs), (3, .int .i64 (at_))]) ⟨rfl, rfl, rfl, rfl, rfl, rfl, rfl, rfl, rfl, rfl, rfl, trivial⟩
   exact ⟨_, (by omega), (k + 1), rfl, gZ, aR, aS, aV, aP, aT, aU, (aQ.as (by first | exact tupC_eq (t := upG g ls at_ (gI (gL g.mv at_) k)) (congrArg Prod.fst (bestB_yes (f := upG g ls at_) (by omega) (by omega) (by first | exact .inl (by omega) | exact .inr (.inl ⟨by omega, by omega⟩) | exact .inr (.inr ⟨by omega, by omega⟩)))) | exact tupC_eq (congrArg Prod.fst (bestB_no (f := upG g ls at_) (by omega) (by omega) (by omega) (fun _ => by omega) (fun _ => by omega))))), aW, (by omega), (by omega)⟩
  have jD := ne_of_beq_false dC
  refine wp_skip ?_
  refine t_n ?_
  have cN := cC.sub (r := [(15, .int .i64 (cmpT (upG g ls at_ (gI (gL g.mv (at_)) (k))) ((bestB (upG g ls at_) (gI g.ow at_) ((gL g.mv at_).take k.toNat)).1) 0)), (14, .pointer (some ⟨aC, 0, none⟩)), (13, .int .i64 (gI (gL g.mv (at_)) (k))), (22, .int .i64 (k)), (11, .int .i64 ((bestB (upG g ls at_) (gI g.ow at_) ((gL g.mv at_).take k.toNat)).2)), (21, .int .i64 ((((gL g.mv (at_)).length : Nat) : Int))), (20, .slice aE ((gL g.mv (at_)).length) aF), (10, .pointer (some ⟨aA.heap.size, 0, none⟩)), (9, .int .i64 (0)), (8, .pointer (some ⟨aB.heap.size, 0, none⟩)), (5, .pointer (some ⟨w1.heap.size, 0, none⟩)), (4, .pointer (some ⟨w.heap.size, 0, none⟩)), (2, .slice As ls.length cs), (3, .int .i64 (at_))]) ⟨rfl, rfl, rfl, rfl, rfl, rfl, rfl, rfl, rfl, rfl, rfl, rfl, rfl, rfl, trivial⟩
  clear cC
  refine wp_seq ?_
  refine At.start ?_
  rcases Bool.eq_false_or_eq_true (decide (((bestB (upG g ls at_) (gI g.ow at_) ((gL g.mv at_).take k.toNat)).2 : Int) < 0)) with cF | cF
  ·have jE := of_decide_eq_true cF
   refine At.rd cN 6 [[], [], [.as_ (.bool true)], [], [], []] [(53, .bool true), (52, undef), (51, undef), (50, .bool true), (49, .bool (decide (((bestB (upG g ls at_) (gI g.ow at_) ((gL g.mv at_).take k.toNat)).2 : Int) < 0))), (48, .int .i64 ((bestB (upG g ls at_) (gI g.ow at_) ((gL g.mv at_).take k.toNat)).2))] [((.bool (decide (((bestB (upG g ls at_) (gI g.ow at_) ((gL g.mv at_).take k.toNat)).2 : Int) < 0)) : Value) = .bool true)] (by kernel_rfl) ⟨(congrArg Value.bool cF), trivial⟩ (fun jF fF => ?_)
   clear cN
   refine At.done rfl ?_
   refine t_n ?_
   have dH := fF.sub (r := [(53, .bool true), (14, .pointer (some ⟨aC, 0, none⟩)), (13, .int .i64 (gI (gL g.mv (at_)) (k))), (22, .int .i64 (k)), (11, .int .i64 ((bestB (upG g ls at_) (gI g.ow at_) ((gL g.mv at_).take k.toNat)).2)), (21, .int .i64 ((((gL g.mv (at_)).length : Nat) : Int))), (20, .slice aE ((gL g.mv (at_)).length) aF), (10, .pointer (some ⟨aA.heap.size, 0, none⟩)), (9, .int .i64 (0)), (8, .pointer (some ⟨aB.heap.size, 0, none⟩)), (5, .pointer (some ⟨w1.heap.size, 0, none⟩)), (4, .pointer (some ⟨w.heap.size, 0, none⟩)), (2, .slice As ls.length cs), (3, .int .i64 (at_))]) ⟨rfl, rfl, rfl, rfl, rfl, rfl, rfl, rfl, rfl, rfl, rfl, rfl, rfl, rfl, trivial⟩
   clear fF
   refine cond_T dH rfl ?_
   refine At.start ?_
   refine At.rd dH 2 [[.ld (.bool ((upG g ls at_ (gI (gL g.mv (at_)) (k))).top)), .ld (.int .i64 ((upG g ls at_ (gI (gL g.mv (at_)) (k))).c0)), .ld (.int .i64 ((upG g ls at_ (gI (gL g.mv (at_)) (k))).c1)), .ld (.int .i64 ((upG g ls at_ (gI (gL g.mv (at_)) (k))).c2)), .ld (.int .i64 ((upG g ls at_ (gI (gL g.mv (at_)) (k))).c3))], []] [(55, .int .i64 (gI (gL g.mv (at_)) (k))), (54, tupV (upG g ls at_ (gI (gL g.mv (at_)) (k))))] [(aI.cell? ⟨aC, 0, none⟩ = some (.bool ((upG g ls at_ (gI (gL g.mv (at_)) (k))).top))), (aI.cell? ⟨aC, 1, none⟩ = some (.int .i64 ((upG g ls at_ (gI (gL g.mv (at_)) (k))).c0))), (aI.cell? ⟨aC, 2, none⟩ = some (.int .i64 ((upG g ls at_ (gI (gL g.mv (at_)) (k))).c1))), (aI.cell? ⟨aC, 3, none⟩ = some (.int .i64 ((upG g ls at_ (gI (gL g.mv (at_)) (k))).c2))), (aI.cell? ⟨aC, 4, none⟩ = some (.int .i64 ((upG g ls at_ (gI (gL g.mv (at_)) (k))).c3)))] (by kernel_rfl) ⟨(aD.cell (i := 0) rfl), (aD.cell (i := 1) rfl), (aD.cell (i := 2) rfl), (aD.cell (i := 3) rfl), (aD.cell (i := 4) rfl), trivial⟩ (fun jG fG => ?_)
   clear dH
   refine At.store fG (t := 41) (b := aA.heap.size) (off := 0) (v := tupV (upG g ls at_ (gI (gL g.mv (at_)) (k)))) (by kernel_rfl) aQ (by kernel_rfl) (fun jH hA bM dI fH => ?_)
   clear fG; replace dI : Bx hA (aA.heap.size) (tupC (upG g ls at_ (gI (gL g.mv (at_)) (k)))) 41 := dI; have := bM.size; replace aR := aR.gr bM (fun k h => by injection h; omega); replace aS := aS.gb bM (by omega); replace aV := aV.gb bM (by omega); replace aP := aP.gb bM (by omega); replace aT := aT.gb bM (by omega); replace aU := aU.gb bM (by omega); replace aW := aW.gb bM (by omega)
   replace aD := aD.gb bM (by omega); clear aQ bM
   refine At.rd fH 1 [[]] [(11, .int .i64 (gI (gL g.mv (at_)) (k)))] [] (by kernel_rfl) trivial (fun jI fI => ?_)
   clear fH
   refine At.done rfl ?_
   refine b_n ?_
   refine t_n ?_
   have fJ := fI.sub (r := [(11, .int .i64 (gI (gL g.mv (at_)) (k))), (22, .int .i64 (k)), (21, .int .i64 ((((gL g.mv (at_)).length : Nat) : Int))), (20, .slice aE ((gL g.mv (at_)).length) aF), (10, .pointer (some ⟨aA.heap.size, 0, none⟩)), (9, .int .i64 (0)), (8, .pointer (some ⟨aB.heap.size, 0, none⟩)), (5, .pointer (some ⟨w1.heap.size, 0, none⟩)), (4, .pointer (some ⟨w.heap.size, 0, none⟩)), (2, .slice As ls.length cs), (3, .int .i64 (at_))]) ⟨rfl, rfl, rfl, rfl, rfl, rfl, rfl, rfl, rfl, rfl, rfl, trivial⟩
   clear fI
   refine At.start ?_
   refine At.rd fJ 2 [[.as_ (.int .i64 (k + 1))], []] [(22, .int .i64 (k + 1)), (56, .int .i64 (k + 1))] [((.int .i64 (IntKind.i64.wrap (k + 1)) : Value) = .int .i64 (k + 1))] (by kernel_rfl) ⟨(w64 (by omega) (by omega)), trivial⟩ (fun jJ fK => ?_)
   clear fJ
   refine At.done rfl ?_
   refine t_n ?_
   have hB := fK.as 11 (.int .i64 (gI (gL g.mv (at_)) (k))) (.int .i64 ((bestB (upG g ls at_) (gI g.ow at_) ((gL g.mv at_).take ((k + 1) : Int).toNat)).2)) rfl (congrArg (Value.int .i64) (by first | exact congrArg Prod.snd (bestB_yes (f := upG g ls at_) (by omega) (by omega) (by first | exact .inl (by omega) | exact .inr (.inl ⟨by omega, by omega⟩) | exact .inr (.inr ⟨by omega, by omega⟩))) | exact congrArg Prod.snd (bestB_no (f := upG g ls at_) (by omega) (by omega) (by omega) (fun _ => by omega) (fun _ => by omega))))
   clear fK
   have hC := hB.sub (r := [(22, .int .i64 (k + 1)), (11, .int .i64 ((bestB (upG g ls at_) (gI g.ow at_) ((gL g.mv at_).take ((k + 1) : Int).toNat)).2)), (21, .int .i64 ((((gL g.mv (at_)).length : Nat) : Int))), (20, .slice aE ((gL g.mv (at_)).length) aF), (10, .pointer (some ⟨aA.heap.size, 0, none⟩)), (9, .int .i64 (0)), (8, .pointer (some ⟨aB.heap.size, 0, none⟩)), (5, .pointer (some ⟨w1.heap.size, 0, none⟩)), (4, .pointer (some ⟨w.heap.size, 0, none⟩)), (2, .slice As ls.length cs), (3, .int .i64 (at_))]) ⟨rfl, rfl, rfl, rfl, rfl, rfl, rfl, rfl, rfl, rfl, rfl, trivial⟩
   exact ⟨_, (by omega), (k + 1), rfl, hC, aR, aS, aV, aP, aT, aU, (dI.as (by first | exact tupC_eq (t := upG g ls at_ (gI (gL g.mv at_) k)) (congrArg Prod.fst (bestB_yes (f := upG g ls at_) (by omega) (by omega) (by first | exact .inl (by omega) | exact .inr (.inl ⟨by omega, by omega⟩) | exact .inr (.inr ⟨by omega, by omega⟩)))) | exact tupC_eq (congrArg Prod.fst (bestB_no (f := upG g ls at_) (by omega) (by omega) (by omega) (fun _ => by omega) (fun _ => by omega))))), aW, (by omega), (by omega)⟩
  have jK := of_decide_eq_false cF
  refine At.rd cN 6 [[], [], [.as_ (.bool false)], [], [], []] [(53, .bool (decide ((cmpT (upG g ls at_ (gI (gL g.mv (at_)) (k))) ((bestB (upG g ls at_) (gI g.ow at_) ((gL g.mv at_).take k.toNat)).1) 0 : Int) < 0))), (52, .bool (decide ((cmpT (upG g ls at_ (gI (gL g.mv (at_)) (k))) ((bestB (upG g ls at_) (gI g.ow at_) ((gL g.mv at_).take k.toNat)).1) 0 : Int) < 0))), (51, .int .i64 (cmpT (upG g ls at_ (gI (gL g.mv (at_)) (k))) ((bestB (upG g ls at_) (gI g.ow at_) ((gL g.mv at_).take k.toNat)).1) 0)), (50, .bool false), (49, .bool (decide (((bestB (upG g ls at_) (gI g.ow at_) ((gL g.mv at_).take k.toNat)).2 : Int) < 0))), (48, .int .i64 ((bestB (upG g ls at_) (gI g.ow at_) ((gL g.mv at_).take k.toNat)).2))] [((.bool (decide (((bestB (upG g ls at_) (gI g.ow at_) ((gL g.mv at_).take k.toNat)).2 : Int) < 0)) : Value) = .bool false)] (by kernel_rfl) ⟨(congrArg Value.bool cF), trivial⟩ (fun jL fL => ?_)
  clear cN
  refine At.done rfl ?_
  refine t_n ?_
  have cG := fL.sub (r := [(53, .bool (decide ((cmpT (upG g ls at_ (gI (gL g.mv (at_)) (k))) ((bestB (upG g ls at_) (gI g.ow at_) ((gL g.mv at_).take k.toNat)).1) 0 : Int) < 0))), (52, .bool (decide ((cmpT (upG g ls at_ (gI (gL g.mv (at_)) (k))) ((bestB (upG g ls at_) (gI g.ow at_) ((gL g.mv at_).take k.toNat)).1) 0 : Int) < 0))), (51, .int .i64 (cmpT (upG g ls at_ (gI (gL g.mv (at_)) (k))) ((bestB (upG g ls at_) (gI g.ow at_) ((gL g.mv at_).take k.toNat)).1) 0)), (14, .pointer (some ⟨aC, 0, none⟩)), (13, .int .i64 (gI (gL g.mv (at_)) (k))), (22, .int .i64 (k)), (11, .int .i64 ((bestB (upG g ls at_) (gI g.ow at_) ((gL g.mv at_).take k.toNat)).2)), (21, .int .i64 ((((gL g.mv (at_)).length : Nat) : Int))), (20, .slice aE ((gL g.mv (at_)).length) aF), (10, .pointer (some ⟨aA.heap.size, 0, none⟩)), (9, .int .i64 (0)), (8, .pointer (some ⟨aB.heap.size, 0, none⟩)), (5, .pointer (some ⟨w1.heap.size, 0, none⟩)), (4, .pointer (some ⟨w.heap.size, 0, none⟩)), (2, .slice As ls.length cs), (3, .int .i64 (at_))]) ⟨rfl, rfl, rfl, rfl, rfl, rfl, rfl, rfl, rfl, rfl, rfl, rfl, rfl, rfl, rfl, rfl, trivial⟩
  clear fL
  refine cond_S cG (t := decide ((cmpT (upG g ls at_ (gI (gL g.mv (at_)) (k))) ((bestB (upG g ls at_) (gI g.ow at_) ((gL g.mv at_).take k.toNat)).1) 0 : Int) < 0)) rfl (fun dJ => ?_) (fun dJ => ?_)
  ·have jM := of_decide_eq_true dJ
   refine At.start ?_
   refine At.rd cG 2 [[.ld (.bool ((upG g ls at_ (gI (gL g.mv (at_)) (k))).top)), .ld (.int .i64 ((upG g ls at_ (gI (gL g.mv (at_)) (k))).c0)), .ld (.int .i64 ((upG g ls at_ (gI (gL g.mv (at_)) (k))).c1)), .ld (.int .i64 ((upG g ls at_ (gI (gL g.mv (at_)) (k))).c2)), .ld (.int .i64 ((upG g ls at_ (gI (gL g.mv (at_)) (k))).c3))], []] [(55, .int .i64 (gI (gL g.mv (at_)) (k))), (54, tupV (upG g ls at_ (gI (gL g.mv (at_)) (k))))] [(aI.cell? ⟨aC, 0, none⟩ = some (.bool ((upG g ls at_ (gI (gL g.mv (at_)) (k))).top))), (aI.cell? ⟨aC, 1, none⟩ = some (.int .i64 ((upG g ls at_ (gI (gL g.mv (at_)) (k))).c0))), (aI.cell? ⟨aC, 2, none⟩ = some (.int .i64 ((upG g ls at_ (gI (gL g.mv (at_)) (k))).c1))), (aI.cell? ⟨aC, 3, none⟩ = some (.int .i64 ((upG g ls at_ (gI (gL g.mv (at_)) (k))).c2))), (aI.cell? ⟨aC, 4, none⟩ = some (.int .i64 ((upG g ls at_ (gI (gL g.mv (at_)) (k))).c3)))] (by kernel_rfl) ⟨(aD.cell (i := 0) rfl), (aD.cell (i := 1) rfl), (aD.cell (i := 2) rfl), (aD.cell (i := 3) rfl), (aD.cell (i := 4) rfl), trivial⟩ (fun jN fM => ?_)
   clear cG
   refine At.store fM (t := 41) (b := aA.heap.size) (off := 0) (v := tupV (upG g ls at_ (gI (gL g.mv (at_)) (k)))) (by kernel_rfl) aQ (by kernel_rfl) (fun jO hD bN dK fN => ?_)
   clear fM; replace dK : Bx hD (aA.heap.size) (tupC (upG g ls at_ (gI (gL g.mv (at_)) (k)))) 41 := dK; have := bN.size; replace aR := aR.gr bN (fun k h => by injection h; omega); replace aS := aS.gb bN (by omega); replace aV := aV.gb bN (by omega); replace aP := aP.gb bN (by omega); replace aT := aT.gb bN (by omega); replace aU := aU.gb bN (by omega); replace aW := aW.gb bN (by omega)
   replace aD := aD.gb bN (by omega); clear aQ bN
   refine At.rd fN 1 [[]] [(11, .int .i64 (gI (gL g.mv (at_)) (k)))] [] (by kernel_rfl) trivial (fun jP fO => ?_)
   clear fN
   refine At.done rfl ?_
   refine b_n ?_
   refine t_n ?_
   have fP := fO.sub (r := [(11, .int .i64 (gI (gL g.mv (at_)) (k))), (52, .bool (decide ((cmpT (upG g ls at_ (gI (gL g.mv (at_)) (k))) ((bestB (upG g ls at_) (gI g.ow at_) ((gL g.mv at_).take k.toNat)).1) 0 : Int) < 0))), (51, .int .i64 (cmpT (upG g ls at_ (gI (gL g.mv (at_)) (k))) ((bestB (upG g ls at_) (gI g.ow at_) ((gL g.mv at_).take k.toNat)).1) 0)), (22, .int .i64 (k)), (21, .int .i64 ((((gL g.mv (at_)).length : Nat) : Int))), (20, .slice aE ((gL g.mv (at_)).length) aF), (10, .pointer (some ⟨aA.heap.size, 0, none⟩)), (9, .int .i64 (0)), (8, .pointer (some ⟨aB.heap.size, 0, none⟩)), (5, .pointer (some ⟨w1.heap.size, 0, none⟩)), (4, .pointer (some ⟨w.heap.size, 0, none⟩)), (2, .slice As ls.length cs), (3, .int .i64 (at_))]) ⟨rfl, rfl, rfl, rfl, rfl, rfl, rfl, rfl, rfl, rfl, rfl, rfl, rfl, trivial⟩
   clear fO
   refine At.start ?_
   refine At.rd fP 2 [[.as_ (.int .i64 (k + 1))], []] [(22, .int .i64 (k + 1)), (56, .int .i64 (k + 1))] [((.int .i64 (IntKind.i64.wrap (k + 1)) : Value) = .int .i64 (k + 1))] (by kernel_rfl) ⟨(w64 (by omega) (by omega)), trivial⟩ (fun jQ fQ => ?_)
   clear fP
   refine At.done rfl ?_
   refine t_n ?_
   have hE := fQ.as 11 (.int .i64 (gI (gL g.mv (at_)) (k))) (.int .i64 ((bestB (upG g ls at_) (gI g.ow at_) ((gL g.mv at_).take ((k + 1) : Int).toNat)).2)) rfl (congrArg (Value.int .i64) (by first | exact congrArg Prod.snd (bestB_yes (f := upG g ls at_) (by omega) (by omega) (by first | exact .inl (by omega) | exact .inr (.inl ⟨by omega, by omega⟩) | exact .inr (.inr ⟨by omega, by omega⟩))) | exact congrArg Prod.snd (bestB_no (f := upG g ls at_) (by omega) (by omega) (by omega) (fun _ => by omega) (fun _ => by omega))))
   clear fQ
   have hF := hE.sub (r := [(22, .int .i64 (k + 1)), (11, .int .i64 ((bestB (upG g ls at_) (gI g.ow at_) ((gL g.mv at_).take ((k + 1) : Int).toNat)).2)), (21, .int .i64 ((((gL g.mv (at_)).length : Nat) : Int))), (20, .slice aE ((gL g.mv (at_)).length) aF), (10, .pointer (some ⟨aA.heap.size, 0, none⟩)), (9, .int .i64 (0)), (8, .pointer (some ⟨aB.heap.size, 0, none⟩)), (5, .pointer (some ⟨w1.heap.size, 0, none⟩)), (4, .pointer (some ⟨w.heap.size, 0, none⟩)), (2, .slice As ls.length cs), (3, .int .i64 (at_))]) ⟨rfl, rfl, rfl, rfl, rfl, rfl, rfl, rfl, rfl, rfl, rfl, trivial⟩
   exact ⟨_, (by omega), (k + 1), rfl, hF, aR, aS, aV, aP, aT, aU, (dK.as (by first | exact tupC_eq (t := upG g ls at_ (gI (gL g.mv at_) k)) (congrArg Prod.fst (bestB_yes (f := upG g ls at_) (by omega) (by omega) (by first | exact .inl (by omega) | exact .inr (.inl ⟨by omega, by omega⟩) | exact .inr (.inr ⟨by omega, by omega⟩)))) | exact tupC_eq (congrArg Prod.fst (bestB_no (f := upG g ls at_) (by omega) (by omega) (by omega) (fun _ => by omega) (fun _ => by omega))))), aW, (by omega), (by omega)⟩
  have jR := of_decide_eq_false dJ
  refine wp_skip ?_
  refine b_n ?_
  refine t_n ?_
  have fR := cG.sub (r := [(52, .bool (decide ((cmpT (upG g ls at_ (gI (gL g.mv (at_)) (k))) ((bestB (upG g ls at_) (gI g.ow at_) ((gL g.mv at_).take k.toNat)).1) 0 : Int) < 0))), (51, .int .i64 (cmpT (upG g ls at_ (gI (gL g.mv (at_)) (k))) ((bestB (upG g ls at_) (gI g.ow at_) ((gL g.mv at_).take k.toNat)).1) 0)), (22, .int .i64 (k)), (11, .int .i64 ((bestB (upG g ls at_) (gI g.ow at_) ((gL g.mv at_).take k.toNat)).2)), (21, .int .i64 ((((gL g.mv (at_)).length : Nat) : Int))), (20, .slice aE ((gL g.mv (at_)).length) aF), (10, .pointer (some ⟨aA.heap.size, 0, none⟩)), (9, .int .i64 (0)), (8, .pointer (some ⟨aB.heap.size, 0, none⟩)), (5, .pointer (some ⟨w1.heap.size, 0, none⟩)), (4, .pointer (some ⟨w.heap.size, 0, none⟩)), (2, .slice As ls.length cs), (3, .int .i64 (at_))]) ⟨rfl, rfl, rfl, rfl, rfl, rfl, rfl, rfl, rfl, rfl, rfl, rfl, rfl, trivial⟩
  clear cG
  refine At.start ?_
  refine At.rd fR 2 [[.as_ (.int .i64 (k + 1))], []] [(22, .int .i64 (k + 1)), (56, .int .i64 (k + 1))] [((.int .i64 (IntKind.i64.wrap (k + 1)) : Value) = .int .i64 (k + 1))] (by kernel_rfl) ⟨(w64 (by omega) (by omega)), trivial⟩ (fun jS fS => ?_)
  clear fR
  refine At.done rfl ?_
  refine t_n ?_
  have hH := fS.as 11 (.int .i64 ((bestB (upG g ls at_) (gI g.ow at_) ((gL g.mv at_).take k.toNat)).2)) (.int .i64 ((bestB (upG g ls at_) (gI g.ow at_) ((gL g.mv at_).take ((k + 1) : Int).toNat)).2)) rfl (congrArg (Value.int .i64) (by first | exact congrArg Prod.snd (bestB_yes (f := upG g ls at_) (by omega) (by omega) (by first | exact .inl (by omega) | exact .inr (.inl ⟨by omega, by omega⟩) | exact .inr (.inr ⟨by omega, by omega⟩))) | exact congrArg Prod.snd (bestB_no (f := upG g ls at_) (by omega) (by omega) (by omega) (fun _ => by omega) (fun _ => by omega))))
  clear fS
  have hI := hH.sub (r := [(22, .int .i64 (k + 1)), (11, .int .i64 ((bestB (upG g ls at_) (gI g.ow at_) ((gL g.mv at_).take ((k + 1) : Int).toNat)).2)), (21, .int .i64 ((((gL g.mv (at_)).length : Nat) : Int))), (20, .slice aE ((gL g.mv (at_)).length) aF), (10, .pointer (some ⟨aA.heap.size, 0, none⟩)), (9, .int .i64 (0)), (8, .pointer (some ⟨aB.heap.size, 0, none⟩)), (5, .pointer (some ⟨w1.heap.size, 0, none⟩)), (4, .pointer (some ⟨w.heap.size, 0, none⟩)), (2, .slice As ls.length cs), (3, .int .i64 (at_))]) ⟨rfl, rfl, rfl, rfl, rfl, rfl, rfl, rfl, rfl, rfl, rfl, trivial⟩
  exact ⟨_, (by omega), (k + 1), rfl, hI, aR, aS, aV, aP, aT, aU, (aQ.as (by first | exact tupC_eq (t := upG g ls at_ (gI (gL g.mv at_) k)) (congrArg Prod.fst (bestB_yes (f := upG g ls at_) (by omega) (by omega) (by first | exact .inl (by omega) | exact .inr (.inl ⟨by omega, by omega⟩) | exact .inr (.inr ⟨by omega, by omega⟩)))) | exact tupC_eq (congrArg Prod.fst (bestB_no (f := upG g ls at_) (by omega) (by omega) (by omega) (fun _ => by omega) (fun _ => by omega))))), aW, (by omega), (by omega)⟩
 have jT := of_decide_eq_false cU
 refine wp_exit ?_
 refine t_e ?_
 clear hm69
 refine t_e ?_
 refine b_e ?_
 refine t_n ?_
 have fT := bZ.sub (r := [(11, .int .i64 ((bestB (upG g ls at_) (gI g.ow at_) ((gL g.mv at_).take k.toNat)).2)), (10, .pointer (some ⟨aA.heap.size, 0, none⟩)), (8, .pointer (some ⟨aB.heap.size, 0, none⟩))]) ⟨rfl, rfl, rfl, trivial⟩
 clear bZ
 refine wp_seq ?_
 refine At.start ?_
 refine At.rd fT 2 [[.ld (.bool ((bestB (upG g ls at_) (gI g.ow at_) ((gL g.mv at_).take k.toNat)).1.top)), .ld (.int .i64 ((bestB (upG g ls at_) (gI g.ow at_) ((gL g.mv at_).take k.toNat)).1.c0)), .ld (.int .i64 ((bestB (upG g ls at_) (gI g.ow at_) ((gL g.mv at_).take k.toNat)).1.c1)), .ld (.int .i64 ((bestB (upG g ls at_) (gI g.ow at_) ((gL g.mv at_).take k.toNat)).1.c2)), .ld (.int .i64 ((bestB (upG g ls at_) (gI g.ow at_) ((gL g.mv at_).take k.toNat)).1.c3))], []] [(58, .int .i64 ((bestB (upG g ls at_) (gI g.ow at_) ((gL g.mv at_).take k.toNat)).2)), (57, tupV ((bestB (upG g ls at_) (gI g.ow at_) ((gL g.mv at_).take k.toNat)).1))] [(bO.cell? ⟨aA.heap.size, 0, none⟩ = some (.bool ((bestB (upG g ls at_) (gI g.ow at_) ((gL g.mv at_).take k.toNat)).1.top))), (bO.cell? ⟨aA.heap.size, 1, none⟩ = some (.int .i64 ((bestB (upG g ls at_) (gI g.ow at_) ((gL g.mv at_).take k.toNat)).1.c0))), (bO.cell? ⟨aA.heap.size, 2, none⟩ = some (.int .i64 ((bestB (upG g ls at_) (gI g.ow at_) ((gL g.mv at_).take k.toNat)).1.c1))), (bO.cell? ⟨aA.heap.size, 3, none⟩ = some (.int .i64 ((bestB (upG g ls at_) (gI g.ow at_) ((gL g.mv at_).take k.toNat)).1.c2))), (bO.cell? ⟨aA.heap.size, 4, none⟩ = some (.int .i64 ((bestB (upG g ls at_) (gI g.ow at_) ((gL g.mv at_).take k.toNat)).1.c3)))] (by kernel_rfl) ⟨(aG.cell (i := 0) rfl), (aG.cell (i := 1) rfl), (aG.cell (i := 2) rfl), (aG.cell (i := 3) rfl), (aG.cell (i := 4) rfl), trivial⟩ (fun jU fU => ?_)
 clear fT
 refine At.store fU (t := 41) (b := aB.heap.size) (off := 0) (v := tupV ((bestB (upG g ls at_) (gI g.ow at_) ((gL g.mv at_).take k.toNat)).1)) (by kernel_rfl) aN (by kernel_rfl) (fun jV bX bP bV fV => ?_)
 clear fU; replace bV : Bx bX (aB.heap.size) (tupC ((bestB (upG g ls at_) (gI g.ow at_) ((gL g.mv at_).take k.toNat)).1)) 41 := bV; have := bP.size; replace aJ := aJ.gr bP (fun k h => by injection h; omega); replace aL := aL.gb bP (by omega); replace aM := aM.gb bP (by omega); replace aK := aK.gb bP (by omega); replace aH := aH.gb bP (by omega); replace aG := aG.gb bP (by omega)
 replace aO := aO.gb bP (by omega); clear aN bP
 refine At.rd fV 1 [[]] [(9, .int .i64 ((bestB (upG g ls at_) (gI g.ow at_) ((gL g.mv at_).take k.toNat)).2))] [] (by kernel_rfl) trivial (fun jW fW => ?_)
 clear fV
 refine At.done rfl ?_
 refine t_n ?_
 have hJ := fW.sub (r := [(9, .int .i64 ((bestB (upG g ls at_) (gI g.ow at_) ((gL g.mv at_).take k.toNat)).2)), (8, .pointer (some ⟨aB.heap.size, 0, none⟩))]) ⟨rfl, rfl, trivial⟩
 clear fW
 refine wp_ret ?_
 refine ret_ hJ [[.bool ((bestB (upG g ls at_) (gI g.ow at_) ((gL g.mv at_).take k.toNat)).1.top), .int .i64 ((bestB (upG g ls at_) (gI g.ow at_) ((gL g.mv at_).take k.toNat)).1.c0), .int .i64 ((bestB (upG g ls at_) (gI g.ow at_) ((gL g.mv at_).take k.toNat)).1.c1), .int .i64 ((bestB (upG g ls at_) (gI g.ow at_) ((gL g.mv at_).take k.toNat)).1.c2), .int .i64 ((bestB (upG g ls at_) (gI g.ow at_) ((gL g.mv at_).take k.toNat)).1.c3)]] [tupV ((bestB (upG g ls at_) (gI g.ow at_) ((gL g.mv at_).take k.toNat)).1), .int .i64 ((bestB (upG g ls at_) (gI g.ow at_) ((gL g.mv at_).take k.toNat)).2)] [(bX.cell? ⟨aB.heap.size, 0, none⟩ = some (.bool ((bestB (upG g ls at_) (gI g.ow at_) ((gL g.mv at_).take k.toNat)).1.top))), (bX.cell? ⟨aB.heap.size, 1, none⟩ = some (.int .i64 ((bestB (upG g ls at_) (gI g.ow at_) ((gL g.mv at_).take k.toNat)).1.c0))), (bX.cell? ⟨aB.heap.size, 2, none⟩ = some (.int .i64 ((bestB (upG g ls at_) (gI g.ow at_) ((gL g.mv at_).take k.toNat)).1.c1))), (bX.cell? ⟨aB.heap.size, 3, none⟩ = some (.int .i64 ((bestB (upG g ls at_) (gI g.ow at_) ((gL g.mv at_).take k.toNat)).1.c2))), (bX.cell? ⟨aB.heap.size, 4, none⟩ = some (.int .i64 ((bestB (upG g ls at_) (gI g.ow at_) ((gL g.mv at_).take k.toNat)).1.c3)))] (by kernel_rfl) ⟨(bV.cell (i := 0) rfl), (bV.cell (i := 1) rfl), (bV.cell (i := 2) rfl), (bV.cell (i := 3) rfl), (bV.cell (i := 4) rfl), trivial⟩ ?_
 exact ⟨best_ret (bestB_all (by omega)), aJ⟩

end Go.Proofs.Ytklbpajmoklheaa
