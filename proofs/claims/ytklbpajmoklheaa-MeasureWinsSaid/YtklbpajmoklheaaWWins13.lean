/-
  A walk of a Go function, printed by a program of this repo. Conditions: what the theorems name.
-/
import Derived.Test.YtklbpajmoklheaaPureWins
import Derived.Test.YtklbpajmoklheaaWRef13
import Derived.Test.YtklbpajmoklheaaFl
import Derived.Test.YtklbpajmoklheaaFm
set_option linter.unusedVariables false
set_option linter.unusedSimpArgs false
namespace Go.Proofs.Ytklbpajmoklheaa
open Go Go.RowKit

set_option maxHeartbeats 4000000 in
theorem count_any {Aa : Option Addr} {ca : Nat} {la : List Int} {v : Int} {w : World} (ra : RdI w 0 w.heap.size Aa la) :
    Calls Try.prog 34 #[.slice Aa la.length ca, .int .i64 (v)] w fun e w' => e = .returned (.int .i64 (la.count v : Int)) ∧ Ext w w' := by
 have hla := ra.len
 refine enter_ (args := [.slice Aa la.length ca, .int .i64 (v)]) Try.func34 rfl Try.ntmps34 (Nat.le_of_ble_eq_true rfl) (fun act0 f0 => ?_)
 have e0 : Ext w w := Ext.refl w
 refine wp_seq ?_
 refine At.start ?_
 refine At.rd f0 1 [[]] [(4, .int .i64 (0))] [] (by kernel_rfl) trivial (fun act2 f1 => ?_)
 clear f0
 refine At.done rfl ?_
 refine t_n ?_
 refine wp_seq ?_
 refine At.start ?_
 refine At.rd f1 1 [[]] [(5, .int .i64 (0))] [] (by kernel_rfl) trivial (fun act4 f3 => ?_)
 clear f1
 refine At.done rfl ?_
 refine t_n ?_
 refine wp_seq ?_
 refine wp_seq ?_
 refine At.start ?_
 refine At.rd f3 1 [[]] [(6, .int .i64 (0))] [] (by kernel_rfl) trivial (fun act6 f5 => ?_)
 clear f3
 refine At.done rfl ?_
 refine t_n ?_
 refine wp_block ?_
 have f7 := f5.sub (r := [(6, .int .i64 (0)), (5, .int .i64 (0)), (4, .int .i64 (0)), (0, .slice Aa la.length ca), (1, .int .i64 (v))]) ⟨rfl, rfl, rfl, rfl, rfl, trivial⟩
 refine loop_g (fun (m_ : Nat) a_ w_ => ∃ (k : Int) (c : Int), m_ = ((la.length : Int) - k).toNat ∧ (Frm 22 a_ [(6, .int .i64 (k)), (5, .int .i64 (c)), (4, .int .i64 (0)), (0, .slice Aa la.length ca), (1, .int .i64 (v))]) ∧ (Ext w w_) ∧ (RdI w_ 0 w.heap.size Aa la) ∧ (0 ≤ k) ∧ (k ≤ (la.length : Int)) ∧ (c = ((la.take k.toNat).count v : Int))) _ ⟨0, 0, rfl, f7, e0, ra, (by omega), (Int.natCast_nonneg _), rfl⟩ ?_
 clear f7 f5; clear ra; clear e0
 intro m_ act8 w9 ⟨k, c, hm11, aH, aC, aE, i14, i15, hc⟩
 have := aC.size; have hcb := count_b hc (by omega)
 refine wp_seq ?_
 refine wp_seq ?_
 refine At.start ?_
 refine At.rd aH 4 [[], [], [], []] [(10, .bool (decide ((k : Int) < ((la.length : Nat) : Int)))), (9, .int .i64 (((la.length : Nat) : Int))), (8, .slice Aa la.length ca), (7, .int .i64 (k))] [] (by kernel_rfl) trivial (fun aQ aA => ?_)
 clear aH
 refine At.done rfl ?_
 refine t_n ?_
 refine cond_S aA (t := decide ((k : Int) < ((la.length : Nat) : Int))) rfl (fun aF => ?_) (fun aF => ?_)
 ·have aR := of_decide_eq_true aF
  refine wp_skip ?_
  refine t_n ?_
  refine wp_seq ?_
  refine wp_block ?_
  refine wp_seq ?_
  refine At.start ?_
  obtain ⟨aD, aJ, _, _, aK⟩ := RdI.get aE (k) (by omega) (by omega)
  refine At.rd aA 6 [[], [], [.ad aD], [.ld (.int .i64 (gI la (k)))], [], []] [(18, .bool ((gI la (k) : Int) == v)), (17, .int .i64 (v)), (16, .int .i64 (gI la (k))), (15, .pointer (some (aD.add ((k : Int).toNat * 1)))), (14, .int .i64 (k)), (13, .slice Aa la.length ca)] [(Aa = some aD), (0 ≤ (k : Int)), ((k : Int) < (la.length : Nat)), (w9.cell? (aD.add ((k : Int).toNat * 1)) = some (.int .i64 (gI la (k))))] (by kernel_rfl) ⟨aJ, (by omega), (by omega), aK, trivial⟩ (fun aS aB => ?_)
  clear aA
  refine At.done rfl ?_
  refine t_n ?_
  refine cond_S aB (t := (gI la (k) : Int) == v) rfl (fun aG => ?_) (fun aG => ?_)
  ·have aT := eq_of_beq aG
   refine At.start ?_
   refine At.rd aB 3 [[], [.as_ (.int .i64 (c + 1))], []] [(5, .int .i64 (c + 1)), (20, .int .i64 (c + 1)), (19, .int .i64 (c))] [((.int .i64 (IntKind.i64.wrap (c + 1)) : Value) = .int .i64 (c + 1))] (by kernel_rfl) ⟨(w64 (by omega) (by omega)), trivial⟩ (fun aU aI => ?_)
   clear aB
   refine At.done rfl ?_
   refine b_n ?_
   refine t_n ?_
   refine At.start ?_
   refine At.rd aI 3 [[], [.as_ (.int .i64 (k + 1))], []] [(6, .int .i64 (k + 1)), (12, .int .i64 (k + 1)), (11, .int .i64 (k))] [((.int .i64 (IntKind.i64.wrap (k + 1)) : Value) = .int .i64 (k + 1))] (by kernel_rfl) ⟨(w64 (by omega) (by omega)), trivial⟩ (fun aV aL => ?_)
   clear aI
   refine At.done rfl ?_
   refine t_n ?_
   have aM := aL.sub (r := [(6, .int .i64 (k + 1)), (5, .int .i64 (c + 1)), (4, .int .i64 (0)), (0, .slice Aa la.length ca), (1, .int .i64 (v))]) ⟨rfl, rfl, rfl, rfl, rfl, trivial⟩
   exact ⟨_, (by omega), (k + 1), c + 1, rfl, aM, aC, aE, (by omega), (by omega), (by first | exact count_next hc (by omega) (by omega) (by assumption) | exact count_skip hc (by omega) (by omega) (by assumption))⟩
  have aW := ne_of_beq_false aG
  refine wp_skip ?_
  refine b_n ?_
  refine t_n ?_
  refine At.start ?_
  refine At.rd aB 3 [[], [.as_ (.int .i64 (k + 1))], []] [(6, .int .i64 (k + 1)), (12, .int .i64 (k + 1)), (11, .int .i64 (k))] [((.int .i64 (IntKind.i64.wrap (k + 1)) : Value) = .int .i64 (k + 1))] (by kernel_rfl) ⟨(w64 (by omega) (by omega)), trivial⟩ (fun aX aN => ?_)
  clear aB
  refine At.done rfl ?_
  refine t_n ?_
  have aO := aN.sub (r := [(6, .int .i64 (k + 1)), (5, .int .i64 (c)), (4, .int .i64 (0)), (0, .slice Aa la.length ca), (1, .int .i64 (v))]) ⟨rfl, rfl, rfl, rfl, rfl, trivial⟩
  exact ⟨_, (by omega), (k + 1), c, rfl, aO, aC, aE, (by omega), (by omega), (by first | exact count_next hc (by omega) (by omega) (by assumption) | exact count_skip hc (by omega) (by omega) (by assumption))⟩
 have aY := of_decide_eq_false aF
 refine wp_exit ?_
 refine t_e ?_
 clear hm11
 refine t_e ?_
 refine b_e ?_
 refine t_n ?_
 refine wp_seq ?_
 refine At.start ?_
 refine At.rd aA 2 [[], []] [(4, .int .i64 (c)), (21, .int .i64 (c))] [] (by kernel_rfl) trivial (fun aZ aP => ?_)
 clear aA
 refine At.done rfl ?_
 refine t_n ?_
 refine wp_ret ?_
 refine ret_ aP [] [.int .i64 (c)] [] (by kernel_rfl) trivial ?_
 exact ⟨ret_eq (congrArg (Value.int .i64) (count_end hc (by omega))), aC⟩

set_option maxHeartbeats 4000000 in
theorem kept_any {Ag0 Ag1 Ag2 : Option Addr} {cg0 cg1 cg2 : Nat} {g : GameL} {Ar : Option Addr} {cr : Nat} {lr : List Int} {Am : Option Addr} {cm : Nat} {lm : List Int} {p i : Int} {hg : Nat} {w : World} (rg : RdG w 0 hg Ag0 Ag1 Ag2 cg0 cg1 cg2 g) (hgw : hg ≤ w.heap.size) (rr : RdI w 0 w.heap.size Ar lr) (rm : RdI w 0 w.heap.size Am lm) (hR : isR g = true) (hi0 : 0 ≤ i) (hi1 : i < (g.ow.length : Int)) (hml_ : lm.length = g.ow.length) (hnx : ∀ m ∈ nxL g p lm i, m ∈ lr) (hmv : gI g.ow i = p → gI lm i ∈ gL g.mv i) :
    Calls Try.prog 51 #[.agg #[.slice Ag0 g.ow.length cg0, .slice Ag1 g.pr.length cg1, .slice Ag2 g.mv.length cg2], .slice Ar lr.length cr, .slice Am lm.length cm, .int .i64 (p), .int .i64 (i)] w fun e w' => ∃ A c lo hi, e = .returned (.tuple #[.slice A (nxL g p lm i).length c, .bool true]) ∧ Ext w w' ∧ RdI w' lo hi A (nxL g p lm i) ∧ (nxL g p lm i).length ≤ c ∧ hi ≤ w'.heap.size ∧ (hi ≤ hg ∨ w.heap.size ≤ lo) := by
 have hlg0 := rg.ow.len; have hlg1 := rg.pr.len; have hlg2 := rg.mv.len; have hkg0 := rg.k0; have hkg1 := rg.k1; have hkg2 := rg.k2; have hG := isR_ok hR; have hn1 := hG.n1; have hpl := hG.pl; have hml := hG.ml; have hlm := rm.len; have hrl := row_len hG hi0 hi1
 refine enter_ (args := [.agg #[.slice Ag0 g.ow.length cg0, .slice Ag1 g.pr.length cg1, .slice Ag2 g.mv.length cg2], .slice Ar lr.length cr, .slice Am lm.length cm, .int .i64 (p), .int .i64 (i)]) Try.func51 rfl Try.ntmps51 (Nat.le_of_ble_eq_true rfl) (fun act0 f0 => ?_)
 have e0 : Ext w w := Ext.refl w
 refine wp_seq ?_
 refine At.start ?_
 refine At.seq f0 1 [[]] [(5, .pointer (some ⟨w.heap.size, 0, none⟩))] (w.alloc (.cells #[.slice Ag0 g.ow.length cg0, .slice Ag1 g.pr.length cg1, .slice Ag2 g.mv.length cg2] 25 (0, 0))) [] (by kernel_rfl) trivial (fun act4 w1 hw2 f3 => ?_)
 clear f0; have g5 := gr_alloc hw2; have := g5.size; replace e0 := e0.gn g5; have r8 := rg.gn g5; clear rg; have r9 := rr.gn g5; clear rr; have aB := rm.gn g5; clear rm; have aA : Bx w1 (w.heap.size) [.slice Ag0 g.ow.length cg0, .slice Ag1 g.pr.length cg1, .slice Ag2 g.mv.length cg2] 25 := Bx.new hw2; have := aA.lt; clear g5 hw2
 refine At.rd f3 2 [[], []] [(11, .bool false), (10, .slice none 0 0)] [] (by kernel_rfl) trivial (fun cM bC => ?_)
 clear f3
 refine At.done rfl ?_
 refine t_n ?_
 refine wp_seq ?_
 refine At.start ?_
 obtain ⟨aM, aD, aE, bU, _, _, bV, cN, aI⟩ := RdII.get r8.mv (i) (by omega) (by omega)
 have cO := aI.len
 refine At.rd bC 6 [[], [.ld (.slice Ag2 g.mv.length cg2)], [], [.ad aM], [.ld (.slice aD ((gL g.mv (i)).length) aE)], []] [(12, .slice aD ((gL g.mv (i)).length) aE), (18, .slice aD ((gL g.mv (i)).length) aE), (17, .pointer (some (aM.add ((i : Int).toNat * 1)))), (16, .int .i64 (i)), (15, .slice Ag2 g.mv.length cg2), (14, .pointer (some ⟨w.heap.size, 2, none⟩))] [(w1.cell? ⟨w.heap.size, 2, none⟩ = some (.slice Ag2 g.mv.length cg2)), (Ag2 = some aM), (0 ≤ (i : Int)), ((i : Int) < (g.mv.length : Nat)), (w1.cell? (aM.add ((i : Int).toNat * 1)) = some (.slice aD ((gL g.mv (i)).length) aE))] (by kernel_rfl) ⟨(aA.cell (i := 2) rfl), bU, (by omega), (by omega), bV, trivial⟩ (fun cP aT => ?_)
 clear bC
 refine At.done rfl ?_
 refine t_n ?_
 refine wp_seq (cut (fun a_ w_ => ∃ (An : Option Addr) (cn : Nat) (nl : List Int) (lo_ : Nat) (hi_ : Nat), (Frm 58 a_ [(12, .slice An nl.length cn), (1, .slice Ar lr.length cr)]) ∧ (Ext w w_) ∧ (RdG w_ 0 hg Ag0 Ag1 Ag2 cg0 cg1 cg2 g) ∧ (RdI w_ 0 w.heap.size Ar lr) ∧ (RdI w_ 0 w.heap.size Am lm) ∧ (Bx w_ (w.heap.size) [.slice Ag0 g.ow.length cg0, .slice Ag1 g.pr.length cg1, .slice Ag2 g.mv.length cg2] 25) ∧ (RdI w_ lo_ hi_ An nl) ∧ (nl = nxL g p lm i) ∧ (nl.length ≤ cn) ∧ (hi_ ≤ w_.heap.size) ∧ (hi_ ≤ hg ∨ w.heap.size ≤ lo_) ∧ (nl.length ≤ 200) ∧ (w1.heap.size ≤ w_.heap.size)) ?_ ?_)
 ·refine wp_seq ?_
  refine At.start ?_
  obtain ⟨aN, bW, _, _, bX⟩ := RdI.get r8.ow (i) (by omega) (by omega)
  refine At.rd aT 7 [[], [.ld (.slice Ag0 g.ow.length cg0)], [], [.ad aN], [.ld (.int .i64 (gI g.ow (i)))], [], []] [(25, .bool ((gI g.ow (i) : Int) == p)), (24, .int .i64 (p)), (23, .int .i64 (gI g.ow (i))), (22, .pointer (some (aN.add ((i : Int).toNat * 1)))), (21, .int .i64 (i)), (20, .slice Ag0 g.ow.length cg0), (19, .pointer (some ⟨w.heap.size, 0, none⟩))] [(w1.cell? ⟨w.heap.size, 0, none⟩ = some (.slice Ag0 g.ow.length cg0)), (Ag0 = some aN), (0 ≤ (i : Int)), ((i : Int) < (g.ow.length : Nat)), (w1.cell? (aN.add ((i : Int).toNat * 1)) = some (.int .i64 (gI g.ow (i))))] (by kernel_rfl) ⟨(aA.cell (i := 0) rfl), bW, (by omega), (by omega), bX, trivial⟩ (fun cQ aO => ?_)
  clear aT
  refine At.done rfl ?_
  refine t_n ?_
  refine cond_S aO (t := (gI g.ow (i) : Int) == p) rfl (fun aU => ?_) (fun aU => ?_)
  ·have cR := eq_of_beq aU
   refine wp_seq ?_
   refine wp_seq ?_
   refine At.start ?_
   obtain ⟨aP, bY, _, _, bZ⟩ := RdI.get aB (i) (by omega) (by omega)
   refine At.rd aO 10 [[], [], [], [.as_ (.bool false)], [], [], [], [], [.ad aP], [.ld (.int .i64 (gI lm (i)))]] [(35, .int .i64 (gI lm (i))), (34, .pointer (some (aP.add ((i : Int).toNat * 1)))), (33, .int .i64 (i)), (32, .slice Am lm.length cm), (31, .slice aD ((gL g.mv (i)).length) aE), (30, .bool false), (29, .bool false), (28, .int .i64 (((lm.length : Nat) : Int))), (27, .slice Am lm.length cm), (26, .int .i64 (i))] [((.bool (decide ((i : Int) ≥ ((lm.length : Nat) : Int))) : Value) = .bool false), (Am = some aP), (0 ≤ (i : Int)), ((i : Int) < (lm.length : Nat)), (w1.cell? (aP.add ((i : Int).toNat * 1)) = some (.int .i64 (gI lm (i))))] (by kernel_rfl) ⟨(congrArg Value.bool (decide_eq_false (by omega))), bY, (by omega), (by omega), bZ, trivial⟩ (fun cS bD => ?_)
   clear aO
   refine At.call bD 34 #[.slice aD ((gL g.mv (i)).length) aE, .int .i64 (gI lm (i))] (some 36) (by kernel_rfl) (count_any (la := gL g.mv (i)) (v := gI lm (i)) (aI.wide (Nat.zero_le _) (by omega))) ?_
   rintro e_ aC ⟨rfl, he⟩
   refine ⟨_, rfl, _, rfl, fun cT bE => ?_⟩
   clear bD; have aF := gr_ext he; have := aF.size; replace e0 := e0.gn aF; replace r8 := r8.gn aF; replace r9 := r9.gn aF; replace aB := aB.gn aF; replace aA := aA.gn aF; replace aI := aI.gn aF; clear aF he
   refine At.rd bE 2 [[.as_ (.bool false)], []] [(38, .bool false), (37, .bool false)] [((.bool ((((gL g.mv (i)).count (gI lm (i)) : Int) : Int) == 0) : Value) = .bool false)] (by kernel_rfl) ⟨(congrArg Value.bool (count_in (hmv (by omega)))), trivial⟩ (fun cU bF => ?_)
   clear bE
   refine At.done rfl ?_
   refine t_n ?_
   clear aI
   have aV := bF.sub (r := [(38, .bool false), (11, .bool false), (10, .slice none 0 0), (1, .slice Ar lr.length cr), (2, .slice Am lm.length cm), (4, .int .i64 (i))]) ⟨rfl, rfl, rfl, rfl, rfl, rfl, trivial⟩
   clear bF
   refine cond_F aV rfl ?_
   refine wp_skip ?_
   refine t_n ?_
   refine At.start ?_
   obtain ⟨aQ, cA, _, _, cB⟩ := RdI.get aB (i) (by omega) (by omega)
   refine At.rd aV 4 [[], [], [.ad aQ], [.ld (.int .i64 (gI lm (i)))]] [(42, .int .i64 (gI lm (i))), (41, .pointer (some (aQ.add ((i : Int).toNat * 1)))), (40, .int .i64 (i)), (39, .slice Am lm.length cm)] [(Am = some aQ), (0 ≤ (i : Int)), ((i : Int) < (lm.length : Nat)), (aC.cell? (aQ.add ((i : Int).toNat * 1)) = some (.int .i64 (gI lm (i))))] (by kernel_rfl) ⟨cA, (by omega), (by omega), cB, trivial⟩ (fun cV bG => ?_)
   clear aV
   refine At.seq bG 1 [[]] [(43, .slice (some ⟨aC.heap.size, 0, none⟩) 1 1)] (aC.alloc (.cells #[.int .i64 (gI lm (i))] 3 (0, 0))) [] (by kernel_rfl) trivial (fun cW cC aW bH => ?_)
   clear bG; have aG := gr_alloc aW; have := aG.size; replace e0 := e0.gn aG; replace r8 := r8.gn aG; replace r9 := r9.gn aG; replace aB := aB.gn aG; replace aA := aA.gn aG; have bI : Bx cC (aC.heap.size) [.int .i64 (gI lm (i))] 3 := Bx.new aW; have := bI.lt; clear aG aW
   refine At.rd bH 1 [[]] [(12, .slice (some ⟨aC.heap.size, 0, none⟩) 1 1)] [] (by kernel_rfl) trivial (fun cX cD => ?_)
   clear bH
   refine At.done rfl ?_
   refine t_n ?_
   have cE := cD.sub (r := [(12, .slice (some ⟨aC.heap.size, 0, none⟩) 1 1), (1, .slice Ar lr.length cr)]) ⟨rfl, rfl, trivial⟩
   exact ⟨some ⟨aC.heap.size, 0, none⟩, 1, ([gI lm i] : List Int), aC.heap.size, (aC.heap.size + 1), cE, e0, r8, r9, aB, aA, (Bx.rdI1 (l := [gI lm i]) bI rfl (by simp)), (by first | exact nxL_own (by omega) | exact nxL_oth (by omega)), (by first | omega | (simp; done)), (by omega), (by omega), (by first | omega | (simp; done)), (by omega)⟩
  have cY := ne_of_beq_false aU
  refine wp_skip ?_
  refine t_n ?_
  have cF := aO.sub (r := [(12, .slice aD ((gL g.mv (i)).length) aE), (1, .slice Ar lr.length cr)]) ⟨rfl, rfl, trivial⟩
  exact ⟨aD, aE, (gL g.mv i), 0, hg, cF, e0, r8, r9, aB, aA, aI, (by first | exact nxL_own (by omega) | exact nxL_oth (by omega)), (by first | omega | (simp; done)), (by omega), (by omega), (by first | omega | (simp; done)), (by omega)⟩
 clear r8; clear r9; clear aB; clear aA; clear aT e0
 intro cZ dA ⟨An, cn, nl, lo_, hi_, bJ, aX, bK, bL, bM, bN, bO, hnl, i81, i82, i83, i84, i85⟩
 have := aX.size; have := bN.lt
 refine wp_seq ?_
 refine wp_seq ?_
 refine At.start ?_
 refine At.rd bJ 1 [[]] [(13, .int .i64 (0))] [] (by kernel_rfl) trivial (fun dB bP => ?_)
 clear bJ
 refine At.done rfl ?_
 refine t_n ?_
 clear bN
 refine wp_block ?_
 have bQ := bP.sub (r := [(13, .int .i64 (0)), (12, .slice An nl.length cn), (1, .slice Ar lr.length cr)]) ⟨rfl, rfl, rfl, trivial⟩
 refine loop_g (fun (m_ : Nat) a_ w_ => ∃ (k : Int), m_ = ((nl.length : Int) - k).toNat ∧ (Frm 58 a_ [(13, .int .i64 (k)), (12, .slice An nl.length cn), (1, .slice Ar lr.length cr)]) ∧ (Ext w w_) ∧ (RdG w_ 0 hg Ag0 Ag1 Ag2 cg0 cg1 cg2 g) ∧ (RdI w_ 0 w.heap.size Ar lr) ∧ (RdI w_ 0 w.heap.size Am lm) ∧ (RdI w_ lo_ hi_ An nl) ∧ (0 ≤ k) ∧ (k ≤ (nl.length : Int)) ∧ (hi_ ≤ w_.heap.size)) _ ⟨0, rfl, bQ, aX, bK, bL, bM, bO, (by omega), (Int.natCast_nonneg _), (by omega)⟩ ?_
 clear bQ bP; clear bK; clear bL; clear bM; clear bO; clear aX
 intro m_ dC cG ⟨k, hm92, bR, aJ, aY, aR, aZ, aK, i98, i99, i100⟩
 have := aJ.size
 refine wp_seq ?_
 refine wp_seq ?_
 refine At.start ?_
 refine At.rd bR 4 [[], [], [], []] [(47, .bool (decide ((k : Int) < ((nl.length : Nat) : Int)))), (46, .int .i64 (((nl.length : Nat) : Int))), (45, .slice An nl.length cn), (44, .int .i64 (k))] [] (by kernel_rfl) trivial (fun dD aL => ?_)
 clear bR
 refine At.done rfl ?_
 refine t_n ?_
 refine cond_S aL (t := decide ((k : Int) < ((nl.length : Nat) : Int))) rfl (fun bA => ?_) (fun bA => ?_)
 ·have dE := of_decide_eq_true bA
  refine wp_skip ?_
  refine t_n ?_
  refine wp_seq ?_
  refine wp_block ?_
  refine wp_seq ?_
  have hmk := hnx (gI nl k) (by rw [← hnl]; exact mem_at (by omega) (by omega))
  refine At.start ?_
  obtain ⟨aS, cH, _, _, cI⟩ := RdI.get aK (k) (by omega) (by omega)
  refine At.rd aL 5 [[], [], [], [.ad aS], [.ld (.int .i64 (gI nl (k)))]] [(54, .int .i64 (gI nl (k))), (53, .pointer (some (aS.add ((k : Int).toNat * 1)))), (52, .int .i64 (k)), (51, .slice An nl.length cn), (50, .slice Ar lr.length cr)] [(An = some aS), (0 ≤ (k : Int)), ((k : Int) < (nl.length : Nat)), (cG.cell? (aS.add ((k : Int).toNat * 1)) = some (.int .i64 (gI nl (k))))] (by kernel_rfl) ⟨cH, (by omega), (by omega), cI, trivial⟩ (fun dF bS => ?_)
  clear aL
  refine At.call bS 34 #[.slice Ar lr.length cr, .int .i64 (gI nl (k))] (some 55) (by kernel_rfl) (count_any (la := lr) (v := gI nl (k)) (aR.wide (Nat.zero_le _) (by omega))) ?_
  rintro e_ dG ⟨rfl, he⟩
  refine ⟨_, rfl, _, rfl, fun dH bT => ?_⟩
  clear bS; have aH := gr_ext he; have := aH.size; replace aJ := aJ.gn aH; replace aY := aY.gn aH; replace aR := aR.gn aH; replace aZ := aZ.gn aH; replace aK := aK.gn aH; clear aH he
  refine At.rd bT 1 [[.as_ (.bool false)]] [(56, .bool false)] [((.bool (((lr.count (gI nl (k)) : Int) : Int) == 0) : Value) = .bool false)] (by kernel_rfl) ⟨(congrArg Value.bool (count_in hmk)), trivial⟩ (fun dI bB => ?_)
  clear bT
  refine At.done rfl ?_
  refine t_n ?_
  refine cond_F bB rfl ?_
  refine wp_skip ?_
  refine b_n ?_
  refine t_n ?_
  refine At.start ?_
  refine At.rd bB 3 [[], [.as_ (.int .i64 (k + 1))], []] [(13, .int .i64 (k + 1)), (49, .int .i64 (k + 1)), (48, .int .i64 (k))] [((.int .i64 (IntKind.i64.wrap (k + 1)) : Value) = .int .i64 (k + 1))] (by kernel_rfl) ⟨(w64 (by omega) (by omega)), trivial⟩ (fun dJ cJ => ?_)
  clear bB
  refine At.done rfl ?_
  refine t_n ?_
  have cK := cJ.sub (r := [(13, .int .i64 (k + 1)), (12, .slice An nl.length cn), (1, .slice Ar lr.length cr)]) ⟨rfl, rfl, rfl, trivial⟩
  exact ⟨_, (by omega), (k + 1), rfl, cK, aJ, aY, aR, aZ, aK, (by omega), (by omega), (by omega)⟩
 have dK := of_decide_eq_false bA
 refine wp_exit ?_
 refine t_e ?_
 clear hm92
 refine t_e ?_
 refine b_e ?_
 refine t_n ?_
 refine wp_seq ?_
 refine At.start ?_
 refine At.rd aL 3 [[], [], []] [(11, .bool true), (10, .slice An nl.length cn), (57, .slice An nl.length cn)] [] (by kernel_rfl) trivial (fun dL cL => ?_)
 clear aL
 refine At.done rfl ?_
 refine t_n ?_
 refine wp_ret ?_
 refine ret_ cL [] [.slice An nl.length cn, .bool true] [] (by kernel_rfl) trivial ?_
 rw [← hnl]
 exact ⟨An, cn, lo_, hi_, rfl, aJ, aK, (by omega), (by omega), (by omega)⟩

set_option maxHeartbeats 4000000 in
theorem lost_any {Ag0 Ag1 Ag2 : Option Addr} {cg0 cg1 cg2 : Nat} {g : GameL} {An : Option Addr} {cn nn : Nat} {ls : List (List Int)} {i : Int} {P : Int → Prop} {w : World} (rg : RdG w 0 w.heap.size Ag0 Ag1 Ag2 cg0 cg1 cg2 g) (rn : RdII w 0 w.heap.size An ls) (hln : nn = g.ow.length) (hlq : ls.length = g.ow.length) (hn2 : g.ow.length ≤ 200) (hpl : g.pr.length = g.ow.length) (hPr : ∀ x, P x → 0 ≤ x ∧ x < (g.ow.length : Int)) (hPn : ∀ x, P x → ∀ m ∈ gL ls x, P m) (hPl : ∀ x, P x → (gL ls x).length ≤ 200) (hPi : P i) :
    Calls Try.prog 52 #[.agg #[.slice Ag0 g.ow.length cg0, .slice Ag1 g.pr.length cg1, .slice Ag2 g.mv.length cg2], .slice An nn cn, .int .i64 (i)] w fun e w' => ∃ b : Bool, e = .returned (.bool b) ∧ Ext w w' ∧ (b = true → Way (EL g ls i P) i i) := by
 have hlg0 := rg.ow.len; have hlg1 := rg.pr.len; have hlg2 := rg.mv.len; have hkg0 := rg.k0; have hkg1 := rg.k1; have hkg2 := rg.k2; have hir := hPr i hPi
 refine enter_ (args := [.agg #[.slice Ag0 g.ow.length cg0, .slice Ag1 g.pr.length cg1, .slice Ag2 g.mv.length cg2], .slice An nn cn, .int .i64 (i)]) Try.func52 rfl Try.ntmps52 (Nat.le_of_ble_eq_true rfl) (fun act0 f0 => ?_)
 have e0 : Ext w w := Ext.refl w
 refine wp_seq ?_
 refine At.start ?_
 refine At.seq f0 1 [[]] [(3, .pointer (some ⟨w.heap.size, 0, none⟩))] (w.alloc (.cells #[.slice Ag0 g.ow.length cg0, .slice Ag1 g.pr.length cg1, .slice Ag2 g.mv.length cg2] 25 (0, 0))) [] (by kernel_rfl) trivial (fun act4 w1 hw2 f3 => ?_)
 clear f0; have g5 := gr_alloc hw2; have := g5.size; replace e0 := e0.gn g5; have r8 := rg.gn g5; clear rg; have r9 := rn.gn g5; clear rn; have aV : Bx w1 (w.heap.size) [.slice Ag0 g.ow.length cg0, .slice Ag1 g.pr.length cg1, .slice Ag2 g.mv.length cg2] 25 := Bx.new hw2; have := aV.lt; clear g5 hw2
 refine At.rd f3 1 [[]] [(6, .bool false)] [] (by kernel_rfl) trivial (fun fH cK => ?_)
 clear f3
 refine At.done rfl ?_
 refine t_n ?_
 refine wp_seq ?_
 refine At.start ?_
 refine At.rd cK 2 [[], []] [(13, .int .i64 (((nn : Nat) : Int))), (12, .slice An nn cn)] [] (by kernel_rfl) trivial (fun fI cL => ?_)
 clear cK
 refine At.act cL (makeR (k1 := .i64) (k2 := .i64) (α := Bool) (e := 4) (bytes := 1) (t := 83) (d := 14) (n := ((nn : Nat) : Int)) (cap := ((nn : Nat) : Int)) (false) (by kernel_rfl) rfl (by kernel_rfl) (by omega) (by omega) (by omega) (by omega)) ?_
 rintro d_ v_ aG ⟨rfl, rfl, bA, bL⟩
 refine ⟨_, rfl, fun fJ cM => ?_⟩
 clear cL; replace bL := bL (Sx (w1.heap.size) []) (Nat.le_refl _); have := bA.size; replace e0 := e0.gn bA; replace r8 := r8.gn bA; replace r9 := r9.gn bA; replace aV := aV.gn bA; clear bA; have : (List.replicate (((nn : Nat) : Int) : Int).toNat (false : Bool)).length = (((nn : Nat) : Int) : Int).toNat := List.length_replicate
 refine At.rd cM 1 [[]] [(7, .slice (some ⟨w1.heap.size, 0, none⟩) ((List.replicate (((nn : Nat) : Int) : Int).toNat (false : Bool)).length) ((((nn : Nat) : Int) : Int).toNat))] [] (by kernel_rfl) trivial (fun fK cN => ?_)
 clear cM
 refine At.done rfl ?_
 refine t_n ?_
 refine wp_seq ?_
 refine At.start ?_
 refine At.rd cN 1 [[]] [(15, .int .i64 (i))] [] (by kernel_rfl) trivial (fun fL cO => ?_)
 clear cN
 refine At.seq cO 1 [[]] [(16, .slice (some ⟨aG.heap.size, 0, none⟩) 1 1)] (aG.alloc (.cells #[.int .i64 (i)] 3 (0, 0))) [] (by kernel_rfl) trivial (fun fM cP bY cQ => ?_)
 clear cO; have aW := gr_alloc bY; have := aW.size; replace e0 := e0.gn aW; replace r8 := r8.gn aW; replace r9 := r9.gn aW; replace aV := aV.gn aW; have bZ := bL.grN aW; clear bL; have cA : Bx cP (aG.heap.size) [.int .i64 (i)] 3 := Bx.new bY; have := cA.lt; clear aW bY
 refine At.rd cQ 1 [[]] [(8, .slice (some ⟨aG.heap.size, 0, none⟩) 1 1)] [] (by kernel_rfl) trivial (fun fN cR => ?_)
 clear cQ
 refine At.done rfl ?_
 refine t_n ?_
 refine wp_seq ?_
 refine wp_block ?_
 have cS : OwnR cP (Sx (aG.heap.size) [obk (some ⟨w1.heap.size, 0, none⟩)]) (some ⟨aG.heap.size, 0, none⟩) 1 3 ([i] : List Int) := Bx.ownR (n := 0) (l := ([i] : List Int)) cA rfl ⟨(bZ.neb (fun g hs => hs.1)), (Nat.le_refl _)⟩ (show 1 ≤ maxLen by decide)
 clear cA
 have cU := cR.as 8 (.slice (some ⟨aG.heap.size, 0, none⟩) 1 1) (.slice (some ⟨aG.heap.size, 0, none⟩) (([i] : List Int).length) 1) rfl (slice_len (by first | rfl | omega | (simp; done) | (simp; omega)))
 clear cR
 have cV := cU.as 7 (.slice (some ⟨w1.heap.size, 0, none⟩) ((List.replicate (((nn : Nat) : Int) : Int).toNat (false : Bool)).length) ((((nn : Nat) : Int) : Int).toNat)) (.slice (some ⟨w1.heap.size, 0, none⟩) ((List.replicate (((nn : Nat) : Int) : Int).toNat (false : Bool) : List Bool).length) ((((nn : Nat) : Int) : Int).toNat)) rfl (slice_len (by first | rfl | omega | (simp; done) | (simp; omega)))
 clear cU
 have cW := cV.sub (r := [(8, .slice (some ⟨aG.heap.size, 0, none⟩) (([i] : List Int).length) 1), (7, .slice (some ⟨w1.heap.size, 0, none⟩) ((List.replicate (((nn : Nat) : Int) : Int).toNat (false : Bool) : List Bool).length) ((((nn : Nat) : Int) : Int).toNat)), (6, .bool false), (3, .pointer (some ⟨w.heap.size, 0, none⟩)), (1, .slice An nn cn), (2, .int .i64 (i))]) ⟨rfl, rfl, rfl, rfl, rfl, rfl, trivial⟩
 refine loop_g (fun (m_ : Nat) a_ w_ => ∃ (iv : List Bool) (aO : Option Addr) (aP : Nat) (op : List Int) (aH : Option Addr) (aK : Nat), m_ = (2 * ((g.ow.length : Int) - cT iv 256) + op.length).toNat ∧ (Frm 76 a_ [(8, .slice aH op.length aK), (7, .slice aO iv.length aP), (6, .bool false), (3, .pointer (some ⟨w.heap.size, 0, none⟩)), (1, .slice An nn cn), (2, .int .i64 (i))]) ∧ (Ext w w_) ∧ (RdG w_ 0 w.heap.size Ag0 Ag1 Ag2 cg0 cg1 cg2 g) ∧ (RdII w_ 0 w.heap.size An ls) ∧ (Bx w_ (w.heap.size) [.slice Ag0 g.ow.length cg0, .slice Ag1 g.pr.length cg1, .slice Ag2 g.mv.length cg2] 25) ∧ (OwnR w_ (Sx (w1.heap.size) [obk (aH)]) aO aP 4 (iv : List Bool)) ∧ (OwnR w_ (Sx (aG.heap.size) [obk (aO)]) aH aK 3 (op : List Int)) ∧ (LoT g ls i P iv op) ∧ (iv.length = g.ow.length) ∧ ((op.length : Int) ≤ cT iv 256 + 1) ∧ (w1.heap.size ≤ w_.heap.size) ∧ (aG.heap.size ≤ w_.heap.size)) _ ⟨(List.replicate (((nn : Nat) : Int) : Int).toNat (false : Bool) : List Bool), some ⟨w1.heap.size, 0, none⟩, (((nn : Nat) : Int) : Int).toNat, ([i] : List Int), some ⟨aG.heap.size, 0, none⟩, 1, rfl, cW, e0, r8, r9, aV, bZ, cS, (by rw [hln, Int.toNat_natCast]; exact lo_0 hPi), (by simp; omega), (by rw [cT_rep]; simp), (by omega), (by omega)⟩ ?_
 clear cW cV; clear r8; clear r9; clear aV; clear bZ; clear cS; clear e0
 intro m_ fO cX ⟨iv, aO, aP, op, aH, aK, hm55, cY, bM, cZ, dA, bN, bO, bD, hlo, hil, hol, i62, i63⟩
 have := bM.size; have := bN.lt; have hct := cT_len iv; have hcu := cT_up iv 256
 refine wp_seq ?_
 refine wp_seq ?_
 refine At.start ?_
 refine At.rd cY 3 [[], [], []] [(19, .bool (decide ((((op.length : Nat) : Int) : Int) > 0))), (18, .int .i64 (((op.length : Nat) : Int))), (17, .slice aH op.length aK)] [] (by kernel_rfl) trivial (fun fP bE => ?_)
 clear cY
 refine At.done rfl ?_
 refine t_n ?_
 refine cond_S bE (t := decide ((((op.length : Nat) : Int) : Int) > 0)) rfl (fun cB => ?_) (fun cB => ?_)
 ·have fQ := of_decide_eq_true cB
  refine wp_skip ?_
  refine t_n ?_
  refine wp_block ?_
  refine wp_seq ?_
  obtain ⟨x, hxe⟩ : ∃ x : Int, gI op (((op.length : Nat) : Int) - 1) = x := ⟨_, rfl⟩
  refine At.start ?_
  obtain ⟨bP, eJ, fR, eK, fS⟩ := bD.get (((op.length : Nat) : Int) - 1) (by omega) (by omega) (sz := 1) rfl
  refine At.rd bE 7 [[], [], [], [.as_ (.int .i64 (((op.length : Nat) : Int) - 1))], [.ad bP], [.ld (.int .i64 (gI op (((op.length : Nat) : Int) - 1))), .as_ (.int .i64 (x))], []] [(9, .int .i64 (x)), (25, .int .i64 (x)), (24, .pointer (some (bP.add ((((op.length : Nat) : Int) - 1 : Int).toNat * 1)))), (23, .int .i64 (((op.length : Nat) : Int) - 1)), (22, .int .i64 (((op.length : Nat) : Int))), (21, .slice aH op.length aK), (20, .slice aH op.length aK)] [((.int .i64 (IntKind.i64.wrap (((op.length : Nat) : Int) - 1)) : Value) = .int .i64 (((op.length : Nat) : Int) - 1)), (aH = some bP), (0 ≤ (((op.length : Nat) : Int) - 1 : Int)), ((((op.length : Nat) : Int) - 1 : Int) < (op.length : Nat)), (cX.cell? (bP.add ((((op.length : Nat) : Int) - 1 : Int).toNat * 1)) = some (.int .i64 (gI op (((op.length : Nat) : Int) - 1)))), ((.int .i64 (gI op (((op.length : Nat) : Int) - 1)) : Value) = .int .i64 (x))] (by kernel_rfl) ⟨(w64 (by omega) (by omega)), eJ, (by omega), (by omega), eK, (congrArg (Value.int .i64) hxe), trivial⟩ (fun fT dB => ?_)
  clear bE
  refine At.done rfl ?_
  refine t_n ?_
  refine wp_seq ?_
  have hpop := lo_pop hlo (k := ((op.length : Nat) : Int) - 1) (by omega) (by omega)
  obtain ⟨hlo1, hx⟩ := hpop
  rw [hxe] at hx
  have hxr := hPr _ hx.1; have hxl := hPl _ hx.1
  refine At.start ?_
  have := bD.cap; have dC := bD.take ((((op.length : Nat) : Int) - 1 : Int).toNat) (by omega)
  have : ((op).take (((op.length : Nat) : Int) - 1 : Int).toNat).length = (((op.length : Nat) : Int) - 1 : Int).toNat := by rw [List.length_take]; omega
  clear bD
  refine At.rd dB 6 [[], [], [], [.as_ (.int .i64 (((op.length : Nat) : Int) - 1))], [], []] [(8, .slice aH ((((op.length : Nat) : Int) - 1 : Int).toNat) aK), (30, .slice aH ((((op.length : Nat) : Int) - 1 : Int).toNat) aK), (29, .int .i64 (((op.length : Nat) : Int) - 1)), (28, .int .i64 (((op.length : Nat) : Int))), (27, .slice aH op.length aK), (26, .slice aH op.length aK)] [((.int .i64 (IntKind.i64.wrap (((op.length : Nat) : Int) - 1)) : Value) = .int .i64 (((op.length : Nat) : Int) - 1)), (0 ≤ (((op.length : Nat) : Int) - 1 : Int)), ((((op.length : Nat) : Int) - 1 : Int) ≤ (aK : Nat))] (by kernel_rfl) ⟨(w64 (by omega) (by omega)), (by omega), (by omega), trivial⟩ (fun fU dD => ?_)
  clear dB
  refine At.done rfl ?_
  refine t_n ?_
  refine wp_seq ?_
  refine At.start ?_
  refine At.rd dD 1 [[]] [(10, .int .i64 (0))] [] (by kernel_rfl) trivial (fun fV dE => ?_)
  clear dD
  refine At.done rfl ?_
  refine t_n ?_
  refine wp_block ?_
  have dF := dE.as 8 (.slice aH ((((op.length : Nat) : Int) - 1 : Int).toNat) aK) (.slice aH (((op).take (((op.length : Nat) : Int) - 1 : Int).toNat : List Int).length) aK) rfl (slice_len (by first | rfl | omega | (simp; done) | (simp; omega)))
  clear dE; have dG := dF.as 7 (.slice aO iv.length aP) (.slice aO ((iv : List Bool).length) aP) rfl (slice_len (by first | rfl | omega | (simp; done) | (simp; omega))); clear dF
  have dH := dG.sub (r := [(8, .slice aH (((op).take (((op.length : Nat) : Int) - 1 : Int).toNat : List Int).length) aK), (10, .int .i64 (0)), (9, .int .i64 (x)), (7, .slice aO ((iv : List Bool).length) aP), (6, .bool false), (3, .pointer (some ⟨w.heap.size, 0, none⟩)), (1, .slice An nn cn), (2, .int .i64 (i))]) ⟨rfl, rfl, rfl, rfl, rfl, rfl, rfl, rfl, trivial⟩
  refine loop_g (fun (m_ : Nat) a_ w_ => ∃ (q : Int) (iv2 : List Bool) (aA : Option Addr) (aB : Nat) (op2 : List Int) (aC : Option Addr) (aE : Nat), m_ = (((gL ls x).length : Int) - q).toNat ∧ (Frm 76 a_ [(8, .slice aC op2.length aE), (10, .int .i64 (q)), (9, .int .i64 (x)), (7, .slice aA iv2.length aB), (6, .bool false), (3, .pointer (some ⟨w.heap.size, 0, none⟩)), (1, .slice An nn cn), (2, .int .i64 (i))]) ∧ (Ext w w_) ∧ (RdG w_ 0 w.heap.size Ag0 Ag1 Ag2 cg0 cg1 cg2 g) ∧ (RdII w_ 0 w.heap.size An ls) ∧ (Bx w_ (w.heap.size) [.slice Ag0 g.ow.length cg0, .slice Ag1 g.pr.length cg1, .slice Ag2 g.mv.length cg2] 25) ∧ (OwnR w_ (Sx (w1.heap.size) [obk (aC)]) aA aB 4 (iv2 : List Bool)) ∧ (OwnR w_ (Sx (aG.heap.size) [obk (aA)]) aC aE 3 (op2 : List Int)) ∧ (0 ≤ q) ∧ (q ≤ ((gL ls x).length : Int)) ∧ (LoT g ls i P iv2 op2) ∧ (iv2.length = g.ow.length) ∧ ((op2.length : Int) ≤ cT iv2 256 + 1) ∧ (2 * ((g.ow.length : Int) - cT iv2 256) + op2.length ≤ 2 * ((g.ow.length : Int) - cT iv 256) + op.length - 1) ∧ (w1.heap.size ≤ w_.heap.size) ∧ (aG.heap.size ≤ w_.heap.size)) _ ⟨0, (iv : List Bool), aO, aP, ((op).take (((op.length : Nat) : Int) - 1 : Int).toNat : List Int), aH, aK, rfl, dH, bM, cZ, dA, bN, bO, dC, (by omega), (Int.natCast_nonneg _), hlo1, hil, (by omega), (by omega), (by omega), (by omega)⟩ ?_
  clear dH dG; clear cZ; clear dA; clear bN; clear bO; clear dC; clear bM
  intro m_ fW aN ⟨q, iv2, aA, aB, op2, aC, aE, hm90, dI, aL, aI, aJ, aD, aM, aF, i97, i98, hlo2, hil2, hol2, hms, i99, i100⟩
  have := aL.size; have := aD.lt; have hct2 := cT_len iv2; have hcu2 := cT_up iv2 256
  refine wp_seq ?_
  refine wp_seq ?_
  refine At.start ?_
  obtain ⟨bQ, cC, cD, eL, _, _, eM, fX, dJ⟩ := RdII.get aJ (x) (by omega) (by omega)
  have fY := dJ.len
  refine At.rd dI 7 [[], [], [], [.ad bQ], [.ld (.slice cC ((gL ls (x)).length) cD)], [], []] [(37, .bool (decide ((q : Int) < (((gL ls (x)).length : Nat) : Int)))), (36, .int .i64 ((((gL ls (x)).length : Nat) : Int))), (35, .slice cC ((gL ls (x)).length) cD), (34, .pointer (some (bQ.add ((x : Int).toNat * 1)))), (33, .int .i64 (x)), (32, .slice An nn cn), (31, .int .i64 (q))] [(An = some bQ), (0 ≤ (x : Int)), ((x : Int) < (nn : Nat)), (aN.cell? (bQ.add ((x : Int).toNat * 1)) = some (.slice cC ((gL ls (x)).length) cD))] (by kernel_rfl) ⟨eL, (by omega), (by omega), eM, trivial⟩ (fun fZ bF => ?_)
  clear dI
  refine At.done rfl ?_
  refine t_n ?_
  clear dJ
  refine cond_S bF (t := decide ((q : Int) < (((gL ls (x)).length : Nat) : Int))) rfl (fun cE => ?_) (fun cE => ?_)
  ·have gA := of_decide_eq_true cE
   refine wp_skip ?_
   refine t_n ?_
   refine wp_seq ?_
   refine wp_block ?_
   refine wp_seq ?_
   refine At.start ?_
   obtain ⟨bR, bS, cF, eN, _, _, eO, gC, cG⟩ := RdII.get aJ (x) (by omega) (by omega)
   have gD := cG.len
   obtain ⟨bT, eP, _, _, eQ⟩ := RdI.get cG (q) (by omega) (by omega)
   refine At.rd bF 8 [[], [], [.ad bR], [.ld (.slice bS ((gL ls (x)).length) cF)], [], [.ad bT], [.ld (.int .i64 (gI (gL ls (x)) (q)))], []] [(11, .int .i64 (gI (gL ls (x)) (q))), (46, .int .i64 (gI (gL ls (x)) (q))), (45, .pointer (some (bT.add ((q : Int).toNat * 1)))), (44, .int .i64 (q)), (43, .slice bS ((gL ls (x)).length) cF), (42, .pointer (some (bR.add ((x : Int).toNat * 1)))), (41, .int .i64 (x)), (40, .slice An nn cn)] [(An = some bR), (0 ≤ (x : Int)), ((x : Int) < (nn : Nat)), (aN.cell? (bR.add ((x : Int).toNat * 1)) = some (.slice bS ((gL ls (x)).length) cF)), (bS = some bT), (0 ≤ (q : Int)), ((q : Int) < ((gL ls (x)).length : Nat)), (aN.cell? (bT.add ((q : Int).toNat * 1)) = some (.int .i64 (gI (gL ls (x)) (q))))] (by kernel_rfl) ⟨eN, (by omega), (by omega), eO, eP, (by omega), (by omega), eQ, trivial⟩ (fun gE bU => ?_)
   clear bF
   refine At.done rfl ?_
   refine t_n ?_
   clear cG
   refine wp_seq ?_
   have hmm := mem_at (l := gL ls x) (k := q) (by omega) (by omega); have hmP := hPn _ hx.1 _ hmm; have hmr := hPr _ hmP
   obtain ⟨aQ, dK, _, _, dL⟩ := RdI.get aI.pr (gI (gL ls (x)) (q)) (by omega) (by omega)
   obtain ⟨aR, dM, _, _, dN⟩ := RdI.get aI.pr (i) (by omega) (by omega)
   rcases Bool.eq_false_or_eq_true (decide ((gI g.pr (gI (gL ls (x)) (q)) : Int) ≤ (gI g.pr (i)))) with bG | bG
   ·have gF := of_decide_eq_true bG
    obtain ⟨bH, eR, gG, eS, gH⟩ := aM.get (gI (gL ls (x)) (q)) (by omega) (by omega) (sz := 1) rfl
    refine drawn_ro bU (by kernel_rfl) (by kernel_rfl) [[], [.ld (.slice Ag1 g.pr.length cg1)], [], [.ad aQ], [.ld (.int .i64 (gI g.pr (gI (gL ls (x)) (q))))], [], [.ld (.slice Ag1 g.pr.length cg1)], [], [.ad aR], [.ld (.int .i64 (gI g.pr (i)))], [], [.as_ (.bool true)], [], [], [.ad bH], [.ld (.bool (gB iv2 (gI (gL ls (x)) (q))))], [], []] [(64, .bool (!(gB iv2 (gI (gL ls (x)) (q))))), (63, .bool (!(gB iv2 (gI (gL ls (x)) (q))))), (62, .bool (gB iv2 (gI (gL ls (x)) (q)))), (61, .pointer (some (bH.add ((gI (gL ls (x)) (q) : Int).toNat * 1)))), (60, .int .i64 (gI (gL ls (x)) (q))), (59, .slice aA iv2.length aB), (58, .bool true), (57, .bool (decide ((gI g.pr (gI (gL ls (x)) (q)) : Int) ≤ (gI g.pr (i))))), (56, .int .i64 (gI g.pr (i))), (55, .pointer (some (aR.add ((i : Int).toNat * 1)))), (54, .int .i64 (i)), (53, .slice Ag1 g.pr.length cg1), (52, .pointer (some ⟨w.heap.size, 1, none⟩)), (51, .int .i64 (gI g.pr (gI (gL ls (x)) (q)))), (50, .pointer (some (aQ.add ((gI (gL ls (x)) (q) : Int).toNat * 1)))), (49, .int .i64 (gI (gL ls (x)) (q))), (48, .slice Ag1 g.pr.length cg1), (47, .pointer (some ⟨w.heap.size, 1, none⟩))] [(aN.cell? ⟨w.heap.size, 1, none⟩ = some (.slice Ag1 g.pr.length cg1)), (Ag1 = some aQ), (0 ≤ (gI (gL ls (x)) (q) : Int)), ((gI (gL ls (x)) (q) : Int) < (g.pr.length : Nat)), (aN.cell? (aQ.add ((gI (gL ls (x)) (q) : Int).toNat * 1)) = some (.int .i64 (gI g.pr (gI (gL ls (x)) (q))))), (aN.cell? ⟨w.heap.size, 1, none⟩ = some (.slice Ag1 g.pr.length cg1)), (Ag1 = some aR), (0 ≤ (i : Int)), ((i : Int) < (g.pr.length : Nat)), (aN.cell? (aR.add ((i : Int).toNat * 1)) = some (.int .i64 (gI g.pr (i)))), ((.bool (decide ((gI g.pr (gI (gL ls (x)) (q)) : Int) ≤ (gI g.pr (i)))) : Value) = .bool true), (aA = some bH), (0 ≤ (gI (gL ls (x)) (q) : Int)), ((gI (gL ls (x)) (q) : Int) < (iv2.length : Nat)), (aN.cell? (bH.add ((gI (gL ls (x)) (q) : Int).toNat * 1)) = some (.bool (gB iv2 (gI (gL ls (x)) (q)))))] (by kernel_rfl) ⟨(aD.cell (i := 1) rfl), dK, (by omega), (by omega), dL, (aD.cell (i := 1) rfl), dM, (by omega), (by omega), dN, (congrArg Value.bool bG), eR, (by omega), (by omega), eS, trivial⟩ (fun gJ gK dO dP => ?_)
    clear bU; have aS := gr_drew dO; have := aS.size; replace aL := aL.gn aS; replace aI := aI.gn aS; replace aJ := aJ.gn aS; replace aD := aD.gn aS; replace aM := aM.gn aS; replace aF := aF.gn aS; clear aS dO
    refine t_n ?_
    have bI := dP.sub (r := [(64, .bool (!(gB iv2 (gI (gL ls (x)) (q))))), (63, .bool (!(gB iv2 (gI (gL ls (x)) (q))))), (62, .bool (gB iv2 (gI (gL ls (x)) (q)))), (61, .pointer (some (bH.add ((gI (gL ls (x)) (q) : Int).toNat * 1)))), (60, .int .i64 (gI (gL ls (x)) (q))), (59, .slice aA iv2.length aB), (11, .int .i64 (gI (gL ls (x)) (q))), (8, .slice aC op2.length aE), (10, .int .i64 (q)), (9, .int .i64 (x)), (7, .slice aA iv2.length aB), (6, .bool false), (3, .pointer (some ⟨w.heap.size, 0, none⟩)), (1, .slice An nn cn), (2, .int .i64 (i))]) ⟨rfl, rfl, rfl, rfl, rfl, rfl, rfl, rfl, rfl, rfl, rfl, rfl, rfl, rfl, rfl, trivial⟩
    clear dP
    refine cond_S bI (t := !(gB iv2 (gI (gL ls (x)) (q)))) rfl (fun aX => ?_) (fun aX => ?_)
    ·have gM : (gB iv2 (gI (gL ls (x)) (q))) = false := by first | exact Eq.mp (Bool.not_eq_true' _) aX | exact Eq.mp (Bool.not_eq_false' _) aX | simpa using aX
     refine wp_seq ?_
     have hcs := cT_set (l := iv2) (m := gI (gL ls x) q) (by omega) (by omega) (by omega) (by simp_all)
     refine At.start ?_
     obtain ⟨bV, dQ, gN, gO, gP⟩ := aM.get (gI (gL ls (x)) (q)) (by omega) (by omega) (sz := 1) rfl
     refine At.rd bI 3 [[], [], [.ad bV]] [(67, .pointer (some (bV.add ((gI (gL ls (x)) (q) : Int).toNat * 1)))), (66, .int .i64 (gI (gL ls (x)) (q))), (65, .slice aA iv2.length aB)] [(aA = some bV), (0 ≤ (gI (gL ls (x)) (q) : Int)), ((gI (gL ls (x)) (q) : Int) < (iv2.length : Nat))] (by kernel_rfl) ⟨dQ, (by omega), (by omega), trivial⟩ (fun gQ dR => ?_)
     clear bI
     refine At.act dR (storeR (α := Bool) (t := 4) (i := gI (gL ls (x)) (q)) (ad := bV) (v := .bool true) (true) (by kernel_rfl) rfl rfl (by kernel_rfl) dQ aM (by omega) (by omega)) ?_
     rintro d_ v_ bW ⟨rfl, aY, bB⟩
     refine ⟨_, rfl, fun gR dS => ?_⟩
     clear dR; have gS : ((iv2).set (gI (gL ls (x)) (q) : Int).toNat true).length = (iv2).length := List.length_set; have := aY.size; replace aL := aL.gr aY (fun k hk => by have := aM.ge k hk; omega); replace aI := aI.gr aY (fun k hk => by have := aM.ge k hk; omega); replace aJ := aJ.gr aY (fun k hk => by have := aM.ge k hk; omega); replace aD := aD.gr aY (fun e => by have := aM.ge _ e; omega)
     replace aF := aF.gr aY (fun k hk => hk.1); clear aM aY
     have dT := dS.as 65 (.slice aA iv2.length aB) (.slice aA (((iv2).set (gI (gL ls (x)) (q) : Int).toNat true : List Bool).length) aB) rfl (slice_len (by first | (simp only [List.length_set]; done) | rfl | omega | (simp; done) | (simp; omega)))
     clear dS
     have dU := dT.as 59 (.slice aA iv2.length aB) (.slice aA (((iv2).set (gI (gL ls (x)) (q) : Int).toNat true : List Bool).length) aB) rfl (slice_len (by first | (simp only [List.length_set]; done) | rfl | omega | (simp; done) | (simp; omega)))
     clear dT
     have dV := dU.as 7 (.slice aA iv2.length aB) (.slice aA (((iv2).set (gI (gL ls (x)) (q) : Int).toNat true : List Bool).length) aB) rfl (slice_len (by first | (simp only [List.length_set]; done) | rfl | omega | (simp; done) | (simp; omega)))
     clear dU
     refine At.done rfl ?_
     refine t_n ?_
     refine At.start ?_
     refine At.rd dV 2 [[], []] [(69, .int .i64 (gI (gL ls (x)) (q))), (68, .slice aC op2.length aE)] [] (by kernel_rfl) trivial (fun gT dW => ?_)
     clear dV
     refine At.seq dW 1 [[]] [(70, .slice (some ⟨bW.heap.size, 0, none⟩) 1 1)] (bW.alloc (.cells #[.int .i64 (gI (gL ls (x)) (q))] 3 (0, 0))) [] (by kernel_rfl) trivial (fun gU dX cH dY => ?_)
     clear dW; have aT := gr_alloc cH; have := aT.size; replace aL := aL.gn aT; replace aI := aI.gn aT; replace aJ := aJ.gn aT; replace aD := aD.gn aT; replace bB := bB.grN aT; replace aF := aF.grN aT; have cI : Bx dX (bW.heap.size) [.int .i64 (gI (gL ls (x)) (q))] 3 := Bx.new cH; have := cI.lt; clear aT cH
     have eT : (op2 ++ ([gI (gL ls (x)) (q)])).length = (op2).length + ([gI (gL ls (x)) (q)] : List Int).length := List.length_append
     simp only [List.length_cons, List.length_nil] at eT
     refine At.act dY (appendR (α := Int) (t := 22) (d := 71) (n := op2.length) (m := 1) (cc := 1) (xs := op2) (ys := [gI (gL ls (x)) (q)]) (bytes := 8) (by first | rfl | omega | (simp; done) | (simp; omega)) (by first | rfl | omega | (simp; done) | (simp; omega)) (by kernel_rfl) rfl (by kernel_rfl) aF (Bx.srcR (l := ([gI (gL ls (x)) (q)] : List Int)) cI rfl) (by simp only [List.length_cons, List.length_nil]; omega) (by simp only [List.length_cons, List.length_nil]; omega)) ?_
     rintro d_ v_ eU ⟨rfl, bC, bJ, bK⟩
     obtain rfl := bK.val
     have aZ := bK.gr
     refine ⟨_, rfl, fun gV dZ => ?_⟩
     clear dY; clear cI; have eV := bK.own (Sx (aG.heap.size) [obk (aA)]) (fun g _ hs => ⟨hs.2.1, hs.2.2⟩) ⟨bB.ne_new, (show aG.heap.size ≤ dX.heap.size by omega)⟩; have := aZ.size; replace aL := aL.gr aZ (fun k hk => by have := aF.ge k hk; omega); replace aI := aI.gr aZ (fun k hk => by have := aF.ge k hk; omega); replace aJ := aJ.gr aZ (fun k hk => by have := aF.ge k hk; omega)
     replace aD := aD.gr aZ (fun e => by have := aF.ge _ e; omega)
     replace bB : OwnR eU (Sx (w1.heap.size) [some (bW.heap.size), obk (bC)]) aA aB 4 ((iv2).set (gI (gL ls (x)) (q) : Int).toNat true : List Bool) := bB.grA aZ (fun k hk => hk.2.1) (fun k hk hs => ⟨hs.1, own_repl bK.at_ hs.2.1 hk, hs.2.2⟩)
     clear aF aZ bK
     refine At.rd dZ 1 [[]] [(8, .slice bC ((op2 ++ ([gI (gL ls (x)) (q)])).length) bJ)] [] (by kernel_rfl) trivial (fun gW eA => ?_)
     clear dZ
     refine At.done rfl ?_
     refine b_n ?_
     refine t_n ?_
     refine At.start ?_
     refine At.rd eA 3 [[], [.as_ (.int .i64 (q + 1))], []] [(10, .int .i64 (q + 1)), (39, .int .i64 (q + 1)), (38, .int .i64 (q))] [((.int .i64 (IntKind.i64.wrap (q + 1)) : Value) = .int .i64 (q + 1))] (by kernel_rfl) ⟨(w64 (by omega) (by omega)), trivial⟩ (fun gX eB => ?_)
     clear eA
     refine At.done rfl ?_
     refine t_n ?_
     have eW := eB.as 8 (.slice bC ((op2 ++ ([gI (gL ls (x)) (q)])).length) bJ) (.slice bC ((op2 ++ ([gI (gL ls (x)) (q)]) : List Int).length) bJ) rfl (slice_len (by first | rfl | omega | (simp; done) | (simp; omega)))
     clear eB
     have eX := eW.sub (r := [(8, .slice bC ((op2 ++ ([gI (gL ls (x)) (q)]) : List Int).length) bJ), (10, .int .i64 (q + 1)), (9, .int .i64 (x)), (7, .slice aA (((iv2).set (gI (gL ls (x)) (q) : Int).toNat true : List Bool).length) aB), (6, .bool false), (3, .pointer (some ⟨w.heap.size, 0, none⟩)), (1, .slice An nn cn), (2, .int .i64 (i))]) ⟨rfl, rfl, rfl, rfl, rfl, rfl, rfl, rfl, trivial⟩
     exact ⟨_, (by omega), (q + 1), ((iv2).set (gI (gL ls (x)) (q) : Int).toNat true : List Bool), aA, aB, (op2 ++ ([gI (gL ls (x)) (q)]) : List Int), bC, bJ, rfl, eX, aL, aI, aJ, aD, (bB.imp (fun g _ hs => ⟨hs.2.1, hs.2.2⟩)), eV, (by omega), (by omega), (lo_push hlo2 hx hmm hmP (by omega) (by omega) (by omega)), (by rw [List.length_set]; exact hil2), (by rw [hcs, List.length_append]; simp only [List.length_cons, List.length_nil]; omega), (by rw [hcs, List.length_append]; simp only [List.length_cons, List.length_nil]; omega), (by omega), (by omega)⟩
    have gY : (gB iv2 (gI (gL ls (x)) (q))) = true := by first | exact Eq.mp (Bool.not_eq_true' _) aX | exact Eq.mp (Bool.not_eq_false' _) aX | simpa using aX
    refine wp_skip ?_
    refine b_n ?_
    refine t_n ?_
    refine At.start ?_
    refine At.rd bI 3 [[], [.as_ (.int .i64 (q + 1))], []] [(10, .int .i64 (q + 1)), (39, .int .i64 (q + 1)), (38, .int .i64 (q))] [((.int .i64 (IntKind.i64.wrap (q + 1)) : Value) = .int .i64 (q + 1))] (by kernel_rfl) ⟨(w64 (by omega) (by omega)), trivial⟩ (fun gZ eC => ?_)
    clear bI
    refine At.done rfl ?_
    refine t_n ?_
    have eD := eC.as 8 (.slice aC op2.length aE) (.slice aC ((op2 : List Int).length) aE) rfl (slice_len (by first | rfl | omega | (simp; done) | (simp; omega)))
    clear eC
    have eY := eD.as 7 (.slice aA iv2.length aB) (.slice aA ((iv2 : List Bool).length) aB) rfl (slice_len (by first | rfl | omega | (simp; done) | (simp; omega)))
    clear eD
    have eZ := eY.sub (r := [(8, .slice aC ((op2 : List Int).length) aE), (10, .int .i64 (q + 1)), (9, .int .i64 (x)), (7, .slice aA ((iv2 : List Bool).length) aB), (6, .bool false), (3, .pointer (some ⟨w.heap.size, 0, none⟩)), (1, .slice An nn cn), (2, .int .i64 (i))]) ⟨rfl, rfl, rfl, rfl, rfl, rfl, rfl, rfl, trivial⟩
    exact ⟨_, (by omega), (q + 1), (iv2 : List Bool), aA, aB, (op2 : List Int), aC, aE, rfl, eZ, aL, aI, aJ, aD, aM, aF, (by omega), (by omega), hlo2, (by omega), (by omega), (by omega), (by omega), (by omega)⟩
   have hA := of_decide_eq_false bG
   refine drawn_ro bU (by kernel_rfl) (by kernel_rfl) [[], [.ld (.slice Ag1 g.pr.length cg1)], [], [.ad aQ], [.ld (.int .i64 (gI g.pr (gI (gL ls (x)) (q))))], [], [.ld (.slice Ag1 g.pr.length cg1)], [], [.ad aR], [.ld (.int .i64 (gI g.pr (i)))], [], [.as_ (.bool false)], [], [], [], [], [], []] [(64, .bool false), (63, undef), (62, undef), (61, undef), (60, undef), (59, undef), (58, .bool false), (57, .bool (decide ((gI g.pr (gI (gL ls (x)) (q)) : Int) ≤ (gI g.pr (i))))), (56, .int .i64 (gI g.pr (i))), (55, .pointer (some (aR.add ((i : Int).toNat * 1)))), (54, .int .i64 (i)), (53, .slice Ag1 g.pr.length cg1), (52, .pointer (some ⟨w.heap.size, 1, none⟩)), (51, .int .i64 (gI g.pr (gI (gL ls (x)) (q)))), (50, .pointer (some (aQ.add ((gI (gL ls (x)) (q) : Int).toNat * 1)))), (49, .int .i64 (gI (gL ls (x)) (q))), (48, .slice Ag1 g.pr.length cg1), (47, .pointer (some ⟨w.heap.size, 1, none⟩))] [(aN.cell? ⟨w.heap.size, 1, none⟩ = some (.slice Ag1 g.pr.length cg1)), (Ag1 = some aQ), (0 ≤ (gI (gL ls (x)) (q) : Int)), ((gI (gL ls (x)) (q) : Int) < (g.pr.length : Nat)), (aN.cell? (aQ.add ((gI (gL ls (x)) (q) : Int).toNat * 1)) = some (.int .i64 (gI g.pr (gI (gL ls (x)) (q))))), (aN.cell? ⟨w.heap.size, 1, none⟩ = some (.slice Ag1 g.pr.length cg1)), (Ag1 = some aR), (0 ≤ (i : Int)), ((i : Int) < (g.pr.length : Nat)), (aN.cell? (aR.add ((i : Int).toNat * 1)) = some (.int .i64 (gI g.pr (i)))), ((.bool (decide ((gI g.pr (gI (gL ls (x)) (q)) : Int) ≤ (gI g.pr (i)))) : Value) = .bool false)] (by kernel_rfl) ⟨(aD.cell (i := 1) rfl), dK, (by omega), (by omega), dL, (aD.cell (i := 1) rfl), dM, (by omega), (by omega), dN, (congrArg Value.bool bG), trivial⟩ (fun hB hC eE eF => ?_)
   clear bU; have aU := gr_drew eE; have := aU.size; replace aL := aL.gn aU; replace aI := aI.gn aU; replace aJ := aJ.gn aU; replace aD := aD.gn aU; replace aM := aM.gn aU; replace aF := aF.gn aU; clear aU eE
   refine t_n ?_
   have cJ := eF.sub (r := [(64, .bool false), (11, .int .i64 (gI (gL ls (x)) (q))), (8, .slice aC op2.length aE), (10, .int .i64 (q)), (9, .int .i64 (x)), (7, .slice aA iv2.length aB), (6, .bool false), (3, .pointer (some ⟨w.heap.size, 0, none⟩)), (1, .slice An nn cn), (2, .int .i64 (i))]) ⟨rfl, rfl, rfl, rfl, rfl, rfl, rfl, rfl, rfl, rfl, trivial⟩
   clear eF
   refine cond_F cJ rfl ?_
   refine wp_skip ?_
   refine b_n ?_
   refine t_n ?_
   refine At.start ?_
   refine At.rd cJ 3 [[], [.as_ (.int .i64 (q + 1))], []] [(10, .int .i64 (q + 1)), (39, .int .i64 (q + 1)), (38, .int .i64 (q))] [((.int .i64 (IntKind.i64.wrap (q + 1)) : Value) = .int .i64 (q + 1))] (by kernel_rfl) ⟨(w64 (by omega) (by omega)), trivial⟩ (fun hD eG => ?_)
   clear cJ
   refine At.done rfl ?_
   refine t_n ?_
   have eH := eG.as 8 (.slice aC op2.length aE) (.slice aC ((op2 : List Int).length) aE) rfl (slice_len (by first | rfl | omega | (simp; done) | (simp; omega)))
   clear eG
   have fA := eH.as 7 (.slice aA iv2.length aB) (.slice aA ((iv2 : List Bool).length) aB) rfl (slice_len (by first | rfl | omega | (simp; done) | (simp; omega)))
   clear eH
   have fB := fA.sub (r := [(8, .slice aC ((op2 : List Int).length) aE), (10, .int .i64 (q + 1)), (9, .int .i64 (x)), (7, .slice aA ((iv2 : List Bool).length) aB), (6, .bool false), (3, .pointer (some ⟨w.heap.size, 0, none⟩)), (1, .slice An nn cn), (2, .int .i64 (i))]) ⟨rfl, rfl, rfl, rfl, rfl, rfl, rfl, rfl, trivial⟩
   exact ⟨_, (by omega), (q + 1), (iv2 : List Bool), aA, aB, (op2 : List Int), aC, aE, rfl, fB, aL, aI, aJ, aD, aM, aF, (by omega), (by omega), hlo2, (by omega), (by omega), (by omega), (by omega), (by omega)⟩
  have hE := of_decide_eq_false cE
  refine wp_exit ?_
  refine t_e ?_
  clear hm90
  refine t_e ?_
  refine b_e ?_
  refine b_n ?_
  refine t_n ?_
  have eI := bF.as 8 (.slice aC op2.length aE) (.slice aC ((op2 : List Int).length) aE) rfl (slice_len (by first | rfl | omega | (simp; done) | (simp; omega))); clear bF
  have fC := eI.as 7 (.slice aA iv2.length aB) (.slice aA ((iv2 : List Bool).length) aB) rfl (slice_len (by first | rfl | omega | (simp; done) | (simp; omega)))
  clear eI
  have fD := fC.sub (r := [(8, .slice aC ((op2 : List Int).length) aE), (7, .slice aA ((iv2 : List Bool).length) aB), (6, .bool false), (3, .pointer (some ⟨w.heap.size, 0, none⟩)), (1, .slice An nn cn), (2, .int .i64 (i))]) ⟨rfl, rfl, rfl, rfl, rfl, rfl, trivial⟩
  exact ⟨_, (by rw [hm55]; omega), (iv2 : List Bool), aA, aB, (op2 : List Int), aC, aE, rfl, fD, aL, aI, aJ, aD, aM, aF, hlo2, hil2, (by omega), (by omega), (by omega)⟩
 have hF := of_decide_eq_false cB
 refine wp_exit ?_
 refine t_e ?_
 clear hm55
 refine t_e ?_
 refine b_e ?_
 refine t_n ?_
 clear bN; clear bD
 refine wp_seq ?_
 refine At.start ?_
 obtain ⟨bX, fE, hG, fF, hH⟩ := bO.get (i) (by omega) (by omega) (sz := 1) rfl
 refine At.rd bE 5 [[], [], [.ad bX], [.ld (.bool (gB iv i))], []] [(6, .bool (gB iv i)), (75, .bool (gB iv i)), (74, .pointer (some (bX.add ((i : Int).toNat * 1)))), (73, .int .i64 (i)), (72, .slice aO iv.length aP)] [(aO = some bX), (0 ≤ (i : Int)), ((i : Int) < (iv.length : Nat)), (cX.cell? (bX.add ((i : Int).toNat * 1)) = some (.bool (gB iv i)))] (by kernel_rfl) ⟨fE, (by omega), (by omega), fF, trivial⟩ (fun hI fG => ?_)
 clear bE
 refine At.done rfl ?_
 refine t_n ?_
 clear bO
 refine wp_ret ?_
 refine ret_ fG [] [.bool (gB iv i)] [] (by kernel_rfl) trivial ?_
 exact ⟨_, rfl, bM, fun h_ => hlo.inn i ⟨hir.1, h_⟩⟩

set_option maxHeartbeats 4000000 in
theorem wins_any {Ag0 Ag1 Ag2 : Option Addr} {cg0 cg1 cg2 : Nat} {g : GameL} {Ar : Option Addr} {cr : Nat} {lr : List Int} {Am : Option Addr} {cm : Nat} {lm : List Int} {p : Int} {w : World} (rg : RdG w 0 w.heap.size Ag0 Ag1 Ag2 cg0 cg1 cg2 g) (rr : RdI w 0 w.heap.size Ar lr) (rm : RdI w 0 w.heap.size Am lm) (hR : isR g = true) (hW : WinsT g p lm lr) :
    Calls Try.prog 35 #[.agg #[.slice Ag0 g.ow.length cg0, .slice Ag1 g.pr.length cg1, .slice Ag2 g.mv.length cg2], .slice Ar lr.length cr, .slice Am lm.length cm, .int .i64 (p)] w fun e w' => e = .returned (.bool true) ∧ Ext w w' := by
 have hlg0 := rg.ow.len; have hlg1 := rg.pr.len; have hlg2 := rg.mv.len; have hkg0 := rg.k0; have hkg1 := rg.k1; have hkg2 := rg.k2; have hG := isR_ok hR; have hn1 := hG.n1; have hpl := hG.pl; have hml := hG.ml; have hlr := rr.len; have hlm := rm.len; have hmll := hW.ml; have hwn := wins_next hR hW
 refine enter_ (args := [.agg #[.slice Ag0 g.ow.length cg0, .slice Ag1 g.pr.length cg1, .slice Ag2 g.mv.length cg2], .slice Ar lr.length cr, .slice Am lm.length cm, .int .i64 (p)]) Try.func35 rfl Try.ntmps35 (Nat.le_of_ble_eq_true rfl) (fun act0 f0 => ?_)
 have e0 : Ext w w := Ext.refl w
 refine wp_seq ?_
 refine At.start ?_
 refine At.seq f0 1 [[]] [(4, .pointer (some ⟨w.heap.size, 0, none⟩))] (w.alloc (.cells #[.slice Ag0 g.ow.length cg0, .slice Ag1 g.pr.length cg1, .slice Ag2 g.mv.length cg2] 25 (0, 0))) [] (by kernel_rfl) trivial (fun act4 w1 hw2 f3 => ?_)
 clear f0; have g5 := gr_alloc hw2; have := g5.size; replace e0 := e0.gn g5; have r8 := rg.gn g5; clear rg; have r9 := rr.gn g5; clear rr; have bB := rm.gn g5; clear rm; have aM : Bx w1 (w.heap.size) [.slice Ag0 g.ow.length cg0, .slice Ag1 g.pr.length cg1, .slice Ag2 g.mv.length cg2] 25 := Bx.new hw2; have := aM.lt; clear g5 hw2
 refine At.rd f3 1 [[]] [(8, .bool false)] [] (by kernel_rfl) trivial (fun dK bN => ?_)
 clear f3
 refine At.done rfl ?_
 refine t_n ?_
 refine wp_seq ?_
 refine At.start ?_
 refine At.rd bN 3 [[], [.ld (.slice Ag0 g.ow.length cg0)], []] [(18, .int .i64 (((g.ow.length : Nat) : Int))), (17, .slice Ag0 g.ow.length cg0), (16, .pointer (some ⟨w.heap.size, 0, none⟩))] [(w1.cell? ⟨w.heap.size, 0, none⟩ = some (.slice Ag0 g.ow.length cg0))] (by kernel_rfl) ⟨(aM.cell (i := 0) rfl), trivial⟩ (fun dL bO => ?_)
 clear bN
 refine At.act bO (makeR (k1 := .i64) (k2 := .i64) (α := SliceV) (e := 22) (bytes := 24) (t := 23) (d := 19) (n := ((g.ow.length : Nat) : Int)) (cap := ((g.ow.length : Nat) : Int)) (⟨none, 0, 0⟩ : SliceV) (by kernel_rfl) rfl (by kernel_rfl) (by omega) (by omega) (by omega) (by omega)) ?_
 rintro d_ v_ dM ⟨rfl, rfl, aK, bP⟩
 refine ⟨_, rfl, fun dN bQ => ?_⟩
 clear bO; have lr23 := LR.new bP; have := aK.size; replace e0 := e0.gn aK; replace r8 := r8.gn aK; replace r9 := r9.gn aK; replace bB := bB.gn aK; replace aM := aM.gn aK; clear aK bP; have : (List.replicate (((g.ow.length : Nat) : Int) : Int).toNat ([] : List Int)).length = (((g.ow.length : Nat) : Int) : Int).toNat := List.length_replicate
 have bR := bQ.as 19 (.slice (some ⟨w1.heap.size, 0, none⟩) ((List.replicate (((g.ow.length : Nat) : Int) : Int).toNat (⟨none, 0, 0⟩ : SliceV)).length) ((((g.ow.length : Nat) : Int) : Int).toNat)) (.slice (some ⟨w1.heap.size, 0, none⟩) ((((g.ow.length : Nat) : Int) : Int).toNat) ((((g.ow.length : Nat) : Int) : Int).toNat)) rfl (slice_len List.length_replicate)
 clear bQ
 refine At.rd bR 1 [[]] [(9, .slice (some ⟨w1.heap.size, 0, none⟩) ((((g.ow.length : Nat) : Int) : Int).toNat) ((((g.ow.length : Nat) : Int) : Int).toNat))] [] (by kernel_rfl) trivial (fun dO bS => ?_)
 clear bR
 refine At.done rfl ?_
 refine t_n ?_
 refine wp_seq ?_
 refine wp_seq ?_
 refine At.start ?_
 refine At.rd bS 1 [[]] [(10, .int .i64 (0))] [] (by kernel_rfl) trivial (fun dP bT => ?_)
 clear bS
 refine At.done rfl ?_
 refine t_n ?_
 refine wp_block ?_
 have bU := bT.sub (r := [(10, .int .i64 (0)), (9, .slice (some ⟨w1.heap.size, 0, none⟩) ((((g.ow.length : Nat) : Int) : Int).toNat) ((((g.ow.length : Nat) : Int) : Int).toNat)), (4, .pointer (some ⟨w.heap.size, 0, none⟩)), (1, .slice Ar lr.length cr), (2, .slice Am lm.length cm), (3, .int .i64 (p))]) ⟨rfl, rfl, rfl, rfl, rfl, rfl, trivial⟩
 refine loop_g (fun (m_ : Nat) a_ w_ => ∃ (k : Int) (ls : List (List Int)), m_ = ((lr.length : Int) - k).toNat ∧ (Frm 70 a_ [(10, .int .i64 (k)), (9, .slice (some ⟨w1.heap.size, 0, none⟩) ((((g.ow.length : Nat) : Int) : Int).toNat) ((((g.ow.length : Nat) : Int) : Int).toNat)), (4, .pointer (some ⟨w.heap.size, 0, none⟩)), (1, .slice Ar lr.length cr), (2, .slice Am lm.length cm), (3, .int .i64 (p))]) ∧ (Ext w w_) ∧ (RdG w_ 0 w.heap.size Ag0 Ag1 Ag2 cg0 cg1 cg2 g) ∧ (RdI w_ 0 w.heap.size Ar lr) ∧ (RdI w_ 0 w.heap.size Am lm) ∧ (Bx w_ (w.heap.size) [.slice Ag0 g.ow.length cg0, .slice Ag1 g.pr.length cg1, .slice Ag2 g.mv.length cg2] 25) ∧ (LR w_ (w1.heap.size) ((((g.ow.length : Nat) : Int) : Int).toNat) 22 ls) ∧ (0 ≤ k) ∧ (k ≤ (lr.length : Int)) ∧ (NxK g p lm lr ls k) ∧ (ls.length = g.ow.length)) _ ⟨0, List.replicate (((g.ow.length : Nat) : Int) : Int).toNat ([] : List Int), rfl, bU, e0, r8, r9, bB, aM, lr23, (by omega), (Int.natCast_nonneg _), (fun j a b => by omega), (by simp)⟩ ?_
 clear bU bT; clear r8; clear r9; clear bB; clear aM; clear lr23; clear e0
 intro m_ dQ cS ⟨k, ls, hm38, bV, aC, aD, aB, aE, aA, aT, i45, i46, hnx, hlsl⟩
 have := aC.size; have := aA.lt; have := aT.lt
 refine wp_seq ?_
 refine wp_seq ?_
 refine At.start ?_
 refine At.rd bV 4 [[], [], [], []] [(23, .bool (decide ((k : Int) < ((lr.length : Nat) : Int)))), (22, .int .i64 (((lr.length : Nat) : Int))), (21, .slice Ar lr.length cr), (20, .int .i64 (k))] [] (by kernel_rfl) trivial (fun dR aU => ?_)
 clear bV
 refine At.done rfl ?_
 refine t_n ?_
 refine cond_S aU (t := decide ((k : Int) < ((lr.length : Nat) : Int))) rfl (fun bI => ?_) (fun bI => ?_)
 ·have dS := of_decide_eq_true bI
  refine wp_skip ?_
  refine t_n ?_
  refine wp_seq ?_
  refine wp_block ?_
  have hkin := mem_at (l := lr) (k := k) (by omega) (by omega); have hkr := (hwn _ hkin).1; have hnx_ := (hwn _ hkin).2.1; have hmv_ := (hwn _ hkin).2.2
  refine wp_seq ?_
  obtain ⟨aV, cT, _, _, cU⟩ := RdI.get aB (k) (by omega) (by omega)
  obtain ⟨aN, aW⟩ : ∃ c : List (Addr × Value), c = [(⟨w.heap.size, 0, none⟩, (.slice Ag0 g.ow.length cg0)), (⟨w.heap.size, 1, none⟩, (.slice Ag1 g.pr.length cg1)), (⟨w.heap.size, 2, none⟩, (.slice Ag2 g.mv.length cg2)), ((aV.add ((k : Int).toNat * 1)), (.int .i64 (gI lr (k))))] := ⟨_, rfl⟩
  have bW : HoldsC aN cS := by rw [aW]; exact ⟨(aA.cell (i := 0) rfl), (aA.cell (i := 1) rfl), (aA.cell (i := 2) rfl), cU, trivial⟩
  refine AtH.start aN 14 #[false, false, false, false, false, false, false, false, false, false, false, false, false, false] (by kernel_rfl) rfl rfl (fun dT bX => ?_)
  have aG := gr_drew bX; have bY := bW.gr aG; have := aG.size; replace aC := aC.gn aG; replace aD := aD.gn aG; replace aB := aB.gn aG; replace aE := aE.gn aG; replace aA := aA.gn aG; have bC := aT.gn aG; clear aT; clear aG bX bW
  refine AtH.rd (by kernel_rfl) (fun d v c a w h => by cases d <;> exact h) bY [0, 1, 2, 3, 4, 5, 6, 7] [[.ld (.slice Ag0 g.ow.length cg0), .ld (.slice Ag1 g.pr.length cg1), .ld (.slice Ag2 g.mv.length cg2)], [], [], [], [], [], [.ad aV], [.ld (.int .i64 (gI lr (k)))]] [(34, .int .i64 (gI lr (k))), (33, .pointer (some (aV.add ((k : Int).toNat * 1)))), (32, .int .i64 (k)), (31, .slice Ar lr.length cr), (30, .int .i64 (p)), (29, .slice Am lm.length cm), (28, .slice Ar lr.length cr), (27, .agg #[.slice Ag0 g.ow.length cg0, .slice Ag1 g.pr.length cg1, .slice Ag2 g.mv.length cg2])] #[true, true, true, true, true, true, true, true, false, false, false, false, false, false] [(∃ j_ : Nat, aN[j_]? = some (⟨w.heap.size, 0, none⟩, (.slice Ag0 g.ow.length cg0))), (∃ j_ : Nat, aN[j_]? = some (⟨w.heap.size, 1, none⟩, (.slice Ag1 g.pr.length cg1))), (∃ j_ : Nat, aN[j_]? = some (⟨w.heap.size, 2, none⟩, (.slice Ag2 g.mv.length cg2))), (Ar = some aV), (0 ≤ (k : Int)), ((k : Int) < (lr.length : Nat)), (∃ j_ : Nat, aN[j_]? = some ((aV.add ((k : Int).toNat * 1)), (.int .i64 (gI lr (k)))))] 6 aU (by kernel_rfl) ⟨⟨0, by rw [aW]; rfl⟩, ⟨1, by rw [aW]; rfl⟩, ⟨2, by rw [aW]; rfl⟩, cT, (by omega), (by omega), ⟨3, by rw [aW]; rfl⟩, trivial⟩ (fun dU bZ => ?_)
  clear aU
  refine AtH.all [8] 5 (by kernel_rfl) (by simp) ⟨?_, trivial⟩
  refine OneH.call bZ 51 #[.agg #[.slice Ag0 g.ow.length cg0, .slice Ag1 g.pr.length cg1, .slice Ag2 g.mv.length cg2], .slice Ar lr.length cr, .slice Am lm.length cm, .int .i64 (p), .int .i64 (gI lr (k))] (some 35) #[true, true, true, true, true, true, true, true, true, false, false, false, false, false] (by kernel_rfl) (by kernel_rfl) (kept_any (g := g) (lr := lr) (lm := lm) (p := p) (i := gI lr (k)) (hg := w.heap.size) aD (by omega) (aB.wide (Nat.zero_le _) (by omega)) (aE.wide (Nat.zero_le _) (by omega)) hR (by omega) (by omega) (by omega) hnx_ hmv_) ?_
  rintro e_ cV ⟨aO, aP, lo72, hi73, rfl, he, bD, hq76, hq77, hq78⟩
  refine ⟨_, rfl, _, rfl, fun dV cA => ?_⟩
  clear bZ; have aH := gr_ext he; have aL := bY.gr aH; have := aH.size; replace aC := aC.gn aH; replace aD := aD.gn aH; replace aB := aB.gn aH; replace aE := aE.gn aH; replace aA := aA.gn aH; replace bC := bC.gn aH; clear aH he
  refine ⟨aL, ?_⟩
  refine AtH.rd (by kernel_rfl) (fun d v c a w h => by cases d <;> exact h) aL [9] [[]] [(26, .tuple #[.slice aO ((nxL g p lm (gI lr (k))).length) aP, .bool true])] #[true, true, true, true, true, true, true, true, true, true, false, false, false, false] [] 4 cA (by kernel_rfl) trivial (fun dW cB => ?_)
  clear cA
  refine AtH.rd (by kernel_rfl) (fun d v c a w h => by cases d <;> exact h) aL [10] [[]] [(36, .slice aO ((nxL g p lm (gI lr (k))).length) aP)] #[true, true, true, true, true, true, true, true, true, true, true, false, false, false] [] 3 cB (by kernel_rfl) trivial (fun dX cC => ?_)
  clear cB
  refine AtH.rd (by kernel_rfl) (fun d v c a w h => by cases d <;> exact h) aL [11] [[]] [(37, .bool true)] #[true, true, true, true, true, true, true, true, true, true, true, true, false, false] [] 2 cC (by kernel_rfl) trivial (fun dY cD => ?_)
  clear cC
  refine AtH.rd (by kernel_rfl) (fun d v c a w h => by cases d <;> exact h) aL [12] [[]] [(11, .slice aO ((nxL g p lm (gI lr (k))).length) aP)] #[true, true, true, true, true, true, true, true, true, true, true, true, true, false] [] 1 cD (by kernel_rfl) trivial (fun dZ cE => ?_)
  clear cD
  refine AtH.rd (by kernel_rfl) (fun d v c a w h => by cases d <;> exact h) aL [13] [[]] [(12, .bool true)] #[true, true, true, true, true, true, true, true, true, true, true, true, true, true] [] 0 cE (by kernel_rfl) trivial (fun eA cF => ?_)
  clear cE
  refine AtH.done (by kernel_rfl) ?_
  clear aL
  refine t_n ?_
  have cG := cF.sub (r := [(12, .bool true), (11, .slice aO ((nxL g p lm (gI lr (k))).length) aP), (10, .int .i64 (k)), (9, .slice (some ⟨w1.heap.size, 0, none⟩) ((((g.ow.length : Nat) : Int) : Int).toNat) ((((g.ow.length : Nat) : Int) : Int).toNat)), (4, .pointer (some ⟨w.heap.size, 0, none⟩)), (1, .slice Ar lr.length cr), (2, .slice Am lm.length cm), (3, .int .i64 (p))]) ⟨rfl, rfl, rfl, rfl, rfl, rfl, rfl, rfl, trivial⟩
  clear cF
  refine wp_seq ?_
  refine wp_seq ?_
  refine At.start ?_
  refine At.rd cG 2 [[], []] [(39, .bool false), (38, .bool true)] [] (by kernel_rfl) trivial (fun eB bJ => ?_)
  clear cG
  refine At.done rfl ?_
  refine t_n ?_
  refine cond_F bJ rfl ?_
  refine wp_skip ?_
  refine t_n ?_
  refine At.start ?_
  obtain ⟨bE, cW, _, _, cX⟩ := RdI.get aB (k) (by omega) (by omega)
  refine At.rd bJ 7 [[], [], [], [.ad bE], [.ld (.int .i64 (gI lr (k)))], [], [.ad (⟨w1.heap.size, 0, none⟩ : Addr)]] [(46, .pointer (some ((⟨w1.heap.size, 0, none⟩ : Addr).add ((gI lr (k) : Int).toNat * 1)))), (45, .slice aO ((nxL g p lm (gI lr (k))).length) aP), (44, .int .i64 (gI lr (k))), (43, .pointer (some (bE.add ((k : Int).toNat * 1)))), (42, .int .i64 (k)), (41, .slice Ar lr.length cr), (40, .slice (some ⟨w1.heap.size, 0, none⟩) ((((g.ow.length : Nat) : Int) : Int).toNat) ((((g.ow.length : Nat) : Int) : Int).toNat))] [(Ar = some bE), (0 ≤ (k : Int)), ((k : Int) < (lr.length : Nat)), (cV.cell? (bE.add ((k : Int).toNat * 1)) = some (.int .i64 (gI lr (k)))), (some ⟨w1.heap.size, 0, none⟩ = some (⟨w1.heap.size, 0, none⟩ : Addr)), (0 ≤ (gI lr (k) : Int)), ((gI lr (k) : Int) < (((((g.ow.length : Nat) : Int) : Int).toNat) : Nat))] (by kernel_rfl) ⟨cW, (by omega), (by omega), cX, rfl, (by omega), (by omega), trivial⟩ (fun eC cH => ?_)
  clear bJ
  refine At.act cH (storeLR (t := 22) (i := gI lr (k)) (b := w1.heap.size) (R := aO) (n := ((nxL g p lm (gI lr (k))).length)) (C := aP) (xs := (nxL g p lm (gI lr (k)))) (by kernel_rfl) (by kernel_rfl) bC (by first | rfl | omega | (simp; done) | (simp; omega)) (by omega) bD (by omega) (by omega) (by omega) (by omega)) ?_
  rintro d_ v_ eD ⟨rfl, aI, lr109⟩
  refine ⟨_, rfl, fun eE cI => ?_⟩
  clear cH; have eF : ((ls).set (gI lr (k) : Int).toNat (nxL g p lm (gI lr (k)))).length = (ls : List (List Int)).length := List.length_set; have := aI.size; replace aC := aC.gr aI (fun k h => by injection h; omega); replace aD := aD.gb aI (by omega); replace aB := aB.gb aI (by omega); replace aE := aE.gb aI (by omega); replace aA := aA.gb aI (by omega); replace bD := bD.gb aI (by omega); clear bC aI
  refine At.done rfl ?_
  refine b_n ?_
  refine t_n ?_
  clear bD
  refine At.start ?_
  refine At.rd cI 3 [[], [.as_ (.int .i64 (k + 1))], []] [(10, .int .i64 (k + 1)), (25, .int .i64 (k + 1)), (24, .int .i64 (k))] [((.int .i64 (IntKind.i64.wrap (k + 1)) : Value) = .int .i64 (k + 1))] (by kernel_rfl) ⟨(w64 (by omega) (by omega)), trivial⟩ (fun eG cY => ?_)
  clear cI
  refine At.done rfl ?_
  refine t_n ?_
  have cZ := cY.sub (r := [(10, .int .i64 (k + 1)), (9, .slice (some ⟨w1.heap.size, 0, none⟩) ((((g.ow.length : Nat) : Int) : Int).toNat) ((((g.ow.length : Nat) : Int) : Int).toNat)), (4, .pointer (some ⟨w.heap.size, 0, none⟩)), (1, .slice Ar lr.length cr), (2, .slice Am lm.length cm), (3, .int .i64 (p))]) ⟨rfl, rfl, rfl, rfl, rfl, rfl, trivial⟩
  exact ⟨_, (by omega), (k + 1), (ls).set (gI lr (k) : Int).toNat (nxL g p lm (gI lr (k))), rfl, cZ, aC, aD, aB, aE, aA, lr109, (by omega), (by omega), (nx_next hnx (by omega) (fun x hx => by have := (hwn x hx).1; omega) (by omega)), (by rw [List.length_set]; exact hlsl)⟩
 have eH := of_decide_eq_false bI
 refine wp_exit ?_
 refine t_e ?_
 clear hm38
 refine t_e ?_
 refine b_e ?_
 refine t_n ?_
 refine wp_seq ?_
 refine wp_seq ?_
 refine At.start ?_
 refine At.rd aU 1 [[]] [(13, .int .i64 (0))] [] (by kernel_rfl) trivial (fun eI cJ => ?_)
 clear aU
 refine At.done rfl ?_
 refine t_n ?_
 refine wp_block ?_
 have cK := cJ.sub (r := [(13, .int .i64 (0)), (9, .slice (some ⟨w1.heap.size, 0, none⟩) ((((g.ow.length : Nat) : Int) : Int).toNat) ((((g.ow.length : Nat) : Int) : Int).toNat)), (4, .pointer (some ⟨w.heap.size, 0, none⟩)), (1, .slice Ar lr.length cr), (3, .int .i64 (p))]) ⟨rfl, rfl, rfl, rfl, rfl, trivial⟩
 refine loop_g (fun (m_ : Nat) a_ w_ => ∃ (k2 : Int), m_ = ((lr.length : Int) - k2).toNat ∧ (Frm 70 a_ [(13, .int .i64 (k2)), (9, .slice (some ⟨w1.heap.size, 0, none⟩) ((((g.ow.length : Nat) : Int) : Int).toNat) ((((g.ow.length : Nat) : Int) : Int).toNat)), (4, .pointer (some ⟨w.heap.size, 0, none⟩)), (1, .slice Ar lr.length cr), (3, .int .i64 (p))]) ∧ (Ext w w_) ∧ (RdG w_ 0 w.heap.size Ag0 Ag1 Ag2 cg0 cg1 cg2 g) ∧ (RdI w_ 0 w.heap.size Ar lr) ∧ (RdI w_ 0 w.heap.size Am lm) ∧ (Bx w_ (w.heap.size) [.slice Ag0 g.ow.length cg0, .slice Ag1 g.pr.length cg1, .slice Ag2 g.mv.length cg2] 25) ∧ (LR w_ (w1.heap.size) ((((g.ow.length : Nat) : Int) : Int).toNat) 22 ls) ∧ (0 ≤ k2) ∧ (k2 ≤ (lr.length : Int))) _ ⟨0, rfl, cK, aC, aD, aB, aE, aA, aT, (by omega), (Int.natCast_nonneg _)⟩ ?_
 clear cK cJ; clear aD; clear aB; clear aE; clear aA; clear aT; clear aC
 intro m_ eJ aQ ⟨k2, hm129, cL, aR, aS, aX, bF, aF, aY, i136, i137⟩
 have := aR.size; have := aF.lt; have := aY.lt
 refine wp_seq ?_
 refine wp_seq ?_
 refine At.start ?_
 refine At.rd cL 4 [[], [], [], []] [(50, .bool (decide ((k2 : Int) < ((lr.length : Nat) : Int)))), (49, .int .i64 (((lr.length : Nat) : Int))), (48, .slice Ar lr.length cr), (47, .int .i64 (k2))] [] (by kernel_rfl) trivial (fun eK aZ => ?_)
 clear cL
 refine At.done rfl ?_
 refine t_n ?_
 refine cond_S aZ (t := decide ((k2 : Int) < ((lr.length : Nat) : Int))) rfl (fun bK => ?_) (fun bK => ?_)
 ·have eL := of_decide_eq_true bK
  refine wp_skip ?_
  refine t_n ?_
  refine wp_seq ?_
  refine wp_block ?_
  refine wp_seq ?_
  have hkin := mem_at (l := lr) (k := k2) (by omega) (by omega); have hkr := (hwn _ hkin).1
  refine At.start ?_
  obtain ⟨bG, dA, _, _, dB⟩ := RdI.get aX (k2) (by omega) (by omega)
  refine At.rd aZ 5 [[], [], [.ad bG], [.ld (.int .i64 (gI lr (k2)))], []] [(14, .int .i64 (gI lr (k2))), (56, .int .i64 (gI lr (k2))), (55, .pointer (some (bG.add ((k2 : Int).toNat * 1)))), (54, .int .i64 (k2)), (53, .slice Ar lr.length cr)] [(Ar = some bG), (0 ≤ (k2 : Int)), ((k2 : Int) < (lr.length : Nat)), (aQ.cell? (bG.add ((k2 : Int).toNat * 1)) = some (.int .i64 (gI lr (k2))))] (by kernel_rfl) ⟨dA, (by omega), (by omega), dB, trivial⟩ (fun eM cM => ?_)
  clear aZ
  refine At.done rfl ?_
  refine t_n ?_
  refine wp_seq ?_
  refine wp_seq ?_
  have hpi := hG.pr (gI lr k2) (by omega) (by omega)
  refine At.start ?_
  obtain ⟨bH, dC, _, _, dD⟩ := RdI.get aS.pr (gI lr (k2)) (by omega) (by omega)
  refine At.rd cM 8 [[], [.ld (.slice Ag1 g.pr.length cg1)], [], [.ad bH], [.ld (.int .i64 (gI g.pr (gI lr (k2))))], [.as_ (.int .i64 ((gI g.pr (gI lr (k2)) : Int) % 2))], [], []] [(64, .bool (((gI g.pr (gI lr (k2)) : Int) % 2 : Int) == p)), (63, .int .i64 (p)), (62, .int .i64 ((gI g.pr (gI lr (k2)) : Int) % 2)), (61, .int .i64 (gI g.pr (gI lr (k2)))), (60, .pointer (some (bH.add ((gI lr (k2) : Int).toNat * 1)))), (59, .int .i64 (gI lr (k2))), (58, .slice Ag1 g.pr.length cg1), (57, .pointer (some ⟨w.heap.size, 1, none⟩))] [(aQ.cell? ⟨w.heap.size, 1, none⟩ = some (.slice Ag1 g.pr.length cg1)), (Ag1 = some bH), (0 ≤ (gI lr (k2) : Int)), ((gI lr (k2) : Int) < (g.pr.length : Nat)), (aQ.cell? (bH.add ((gI lr (k2) : Int).toNat * 1)) = some (.int .i64 (gI g.pr (gI lr (k2))))), ((2 : Int) ≠ 0), ((.int .i64 ((gI g.pr (gI lr (k2)) : Int).tmod 2) : Value) = .int .i64 ((gI g.pr (gI lr (k2)) : Int) % 2))] (by kernel_rfl) ⟨(aF.cell (i := 1) rfl), dC, (by omega), (by omega), dD, (by omega), (congrArg (Value.int .i64) (Int.tmod_eq_emod_of_nonneg (by omega))), trivial⟩ (fun eN bA => ?_)
  clear cM
  refine At.done rfl ?_
  refine t_n ?_
  refine cond_S bA (t := ((gI g.pr (gI lr (k2)) : Int) % 2 : Int) == p) rfl (fun bL => ?_) (fun bL => ?_)
  ·have eO := eq_of_beq bL
   refine wp_exit ?_
   refine t_e ?_
   refine b_e ?_
   refine t_n ?_
   have cN := bA.sub (r := [(13, .int .i64 (k2)), (9, .slice (some ⟨w1.heap.size, 0, none⟩) ((((g.ow.length : Nat) : Int) : Int).toNat) ((((g.ow.length : Nat) : Int) : Int).toNat)), (4, .pointer (some ⟨w.heap.size, 0, none⟩)), (1, .slice Ar lr.length cr), (3, .int .i64 (p))]) ⟨rfl, rfl, rfl, rfl, rfl, trivial⟩
   clear bA
   refine At.start ?_
   refine At.rd cN 3 [[], [.as_ (.int .i64 (k2 + 1))], []] [(13, .int .i64 (k2 + 1)), (52, .int .i64 (k2 + 1)), (51, .int .i64 (k2))] [((.int .i64 (IntKind.i64.wrap (k2 + 1)) : Value) = .int .i64 (k2 + 1))] (by kernel_rfl) ⟨(w64 (by omega) (by omega)), trivial⟩ (fun eP dE => ?_)
   clear cN
   refine At.done rfl ?_
   refine t_n ?_
   have dF := dE.sub (r := [(13, .int .i64 (k2 + 1)), (9, .slice (some ⟨w1.heap.size, 0, none⟩) ((((g.ow.length : Nat) : Int) : Int).toNat) ((((g.ow.length : Nat) : Int) : Int).toNat)), (4, .pointer (some ⟨w.heap.size, 0, none⟩)), (1, .slice Ar lr.length cr), (3, .int .i64 (p))]) ⟨rfl, rfl, rfl, rfl, rfl, trivial⟩
   exact ⟨_, (by omega), (k2 + 1), rfl, dF, aR, aS, aX, bF, aF, aY, (by omega), (by omega)⟩
  have eQ := ne_of_beq_false bL
  refine wp_skip ?_
  refine t_n ?_
  have cO := bA.sub (r := [(14, .int .i64 (gI lr (k2))), (13, .int .i64 (k2)), (9, .slice (some ⟨w1.heap.size, 0, none⟩) ((((g.ow.length : Nat) : Int) : Int).toNat) ((((g.ow.length : Nat) : Int) : Int).toNat)), (4, .pointer (some ⟨w.heap.size, 0, none⟩)), (1, .slice Ar lr.length cr), (3, .int .i64 (p))]) ⟨rfl, rfl, rfl, rfl, rfl, rfl, trivial⟩
  clear bA
  refine wp_seq ?_
  have hall := nx_all hnx (by omega)
  have hpi2 : gI g.pr (gI lr k2) % 2 ≠ p := by assumption
  refine At.start ?_
  refine At.rd cO 3 [[.ld (.slice Ag0 g.ow.length cg0), .ld (.slice Ag1 g.pr.length cg1), .ld (.slice Ag2 g.mv.length cg2)], [], []] [(67, .int .i64 (gI lr (k2))), (66, .slice (some ⟨w1.heap.size, 0, none⟩) ((((g.ow.length : Nat) : Int) : Int).toNat) ((((g.ow.length : Nat) : Int) : Int).toNat)), (65, .agg #[.slice Ag0 g.ow.length cg0, .slice Ag1 g.pr.length cg1, .slice Ag2 g.mv.length cg2])] [(aQ.cell? ⟨w.heap.size, 0, none⟩ = some (.slice Ag0 g.ow.length cg0)), (aQ.cell? ⟨w.heap.size, 1, none⟩ = some (.slice Ag1 g.pr.length cg1)), (aQ.cell? ⟨w.heap.size, 2, none⟩ = some (.slice Ag2 g.mv.length cg2))] (by kernel_rfl) ⟨(aF.cell (i := 0) rfl), (aF.cell (i := 1) rfl), (aF.cell (i := 2) rfl), trivial⟩ (fun eR cP => ?_)
  clear cO
  refine At.call cP 52 #[.agg #[.slice Ag0 g.ow.length cg0, .slice Ag1 g.pr.length cg1, .slice Ag2 g.mv.length cg2], .slice (some ⟨w1.heap.size, 0, none⟩) ((((g.ow.length : Nat) : Int) : Int).toNat) ((((g.ow.length : Nat) : Int) : Int).toNat), .int .i64 (gI lr (k2))] (some 68) (by kernel_rfl) ((lost_any (g := g) (ls := ls) (i := gI lr (k2)) (P := (fun x => x ∈ lr)) (aS.wide (Nat.zero_le _) (by omega)) (aY.rdII (by omega)) (by omega) (by omega) hn1 hpl (fun x hx => (hwn x hx).1) (fun x hx m hm => by rw [hall x hx] at hm; exact (hwn x hx).2.1 m hm) (fun x hx => by rw [hall x hx]; exact nx_len hG (hwn x hx).1) hkin).mono (R' := fun e w' => e = .returned (.bool false) ∧ Ext _ w') (fun e_ w_ h_ => by obtain ⟨b_, h1_, h2_, h3_⟩ := h_; cases b_ with | false => exact ⟨h1_, h2_⟩ | true => exact absurd (h3_ rfl) (wins_cyc hR hW hall hkin hpi2))) ?_
  rintro e_ eS ⟨rfl, he⟩
  refine ⟨_, rfl, _, rfl, fun eT cQ => ?_⟩
  clear cP; have aJ := gr_ext he; have := aJ.size; replace aR := aR.gn aJ; replace aS := aS.gn aJ; replace aX := aX.gn aJ; replace bF := bF.gn aJ; replace aF := aF.gn aJ; have dG := aY.gn aJ; clear aY; clear aJ he
  refine At.rd cQ 1 [[]] [(15, .bool false)] [] (by kernel_rfl) trivial (fun eU cR => ?_)
  clear cQ
  refine At.done rfl ?_
  refine t_n ?_
  refine wp_seq ?_
  refine At.start ?_
  refine At.rd cR 1 [[]] [(69, .bool false)] [] (by kernel_rfl) trivial (fun eV bM => ?_)
  clear cR
  refine At.done rfl ?_
  refine t_n ?_
  refine cond_F bM rfl ?_
  refine wp_skip ?_
  refine b_n ?_
  refine t_n ?_
  refine At.start ?_
  refine At.rd bM 3 [[], [.as_ (.int .i64 (k2 + 1))], []] [(13, .int .i64 (k2 + 1)), (52, .int .i64 (k2 + 1)), (51, .int .i64 (k2))] [((.int .i64 (IntKind.i64.wrap (k2 + 1)) : Value) = .int .i64 (k2 + 1))] (by kernel_rfl) ⟨(w64 (by omega) (by omega)), trivial⟩ (fun eW dH => ?_)
  clear bM
  refine At.done rfl ?_
  refine t_n ?_
  have dI := dH.sub (r := [(13, .int .i64 (k2 + 1)), (9, .slice (some ⟨w1.heap.size, 0, none⟩) ((((g.ow.length : Nat) : Int) : Int).toNat) ((((g.ow.length : Nat) : Int) : Int).toNat)), (4, .pointer (some ⟨w.heap.size, 0, none⟩)), (1, .slice Ar lr.length cr), (3, .int .i64 (p))]) ⟨rfl, rfl, rfl, rfl, rfl, trivial⟩
  exact ⟨_, (by omega), (k2 + 1), rfl, dI, aR, aS, aX, bF, aF, dG, (by omega), (by omega)⟩
 have eX := of_decide_eq_false bK
 refine wp_exit ?_
 refine t_e ?_
 clear hm129
 refine t_e ?_
 refine b_e ?_
 refine t_n ?_
 clear aF
 refine wp_seq ?_
 refine At.start ?_
 refine At.rd aZ 1 [[]] [(8, .bool true)] [] (by kernel_rfl) trivial (fun eY dJ => ?_)
 clear aZ
 refine At.done rfl ?_
 refine t_n ?_
 refine wp_ret ?_
 refine ret_ dJ [] [.bool true] [] (by kernel_rfl) trivial ?_
 exact ⟨rfl, aR⟩

end Go.Proofs.Ytklbpajmoklheaa
