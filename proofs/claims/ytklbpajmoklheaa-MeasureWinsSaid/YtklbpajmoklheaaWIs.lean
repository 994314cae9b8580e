/-
  A walk of a Go function, printed by a program of this repo. Conditions: what the theorems name.
-/
import Derived.Test.YtklbpajmoklheaaLem
import Derived.Test.YtklbpajmoklheaaPureGame
import Derived.Test.YtklbpajmoklheaaWRight2
set_option linter.unusedVariables false
set_option linter.unusedSimpArgs false
namespace Go.Proofs.Ytklbpajmoklheaa
open Go Go.RowKit

set_option maxHeartbeats 4000000 in
theorem index_any {Aa : Option Addr} {ca : Nat} {la : List Int} {v : Int} {w : World} (ra : RdI w 0 w.heap.size Aa la) :
    Calls Try.prog 60 #[.slice Aa la.length ca, .int .i64 (v)] w fun e w' => e = .returned (.int .i64 (idxI la v)) ∧ Ext w w' := by
 have hla := ra.len
 refine enter_ (args := [.slice Aa la.length ca, .int .i64 (v)]) Try.func60 rfl Try.ntmps60 (Nat.le_of_ble_eq_true rfl) (fun act0 f0 => ?_)
 have e0 : Ext w w := Ext.refl w
 refine wp_seq ?_
 refine At.start ?_
 refine At.rd f0 1 [[]] [(4, .int .i64 (0))] [] (by kernel_rfl) trivial (fun act2 f1 => ?_)
 clear f0
 refine At.done rfl ?_
 refine t_n ?_
 refine wp_seq ?_
 refine wp_seq ?_
 refine At.start ?_
 refine At.rd f1 3 [[], [], []] [(8, .int .i64 (0)), (7, .int .i64 (((la.length : Nat) : Int))), (6, .slice Aa la.length ca)] [] (by kernel_rfl) trivial (fun act4 f3 => ?_)
 clear f1
 refine At.done rfl ?_
 refine t_n ?_
 refine wp_block ?_
 have f5 := f3.sub (r := [(8, .int .i64 (0)), (7, .int .i64 (((la.length : Nat) : Int))), (0, .slice Aa la.length ca), (1, .int .i64 (v))]) ⟨rfl, rfl, rfl, rfl, trivial⟩
 refine loop_g (fun (m_ : Nat) a_ w_ => ∃ (k : Int), m_ = ((la.length : Int) - k).toNat ∧ (Frm 19 a_ [(8, .int .i64 (k)), (7, .int .i64 (((la.length : Nat) : Int))), (0, .slice Aa la.length ca), (1, .int .i64 (v))]) ∧ (Ext w w_) ∧ (RdI w_ 0 w.heap.size Aa la) ∧ (0 ≤ k) ∧ (k ≤ (la.length : Int)) ∧ (v ∉ la.take k.toNat)) _ ⟨0, rfl, f5, e0, ra, (by omega), (by omega), (notin_zero _ _)⟩ ?_
 clear f5 f3; clear ra; clear e0
 intro m_ act6 w7 ⟨k, hm9, aF, e8, aG, i12, i13, i14⟩
 have := e8.size
 refine wp_seq ?_
 refine At.start ?_
 refine At.rd aF 1 [[]] [(9, .bool (decide ((k : Int) < ((la.length : Nat) : Int))))] [] (by kernel_rfl) trivial (fun aO aA => ?_)
 clear aF
 refine At.done rfl ?_
 refine t_n ?_
 refine wp_seq ?_
 refine cond_S aA (t := decide ((k : Int) < ((la.length : Nat) : Int))) rfl (fun aD => ?_) (fun aD => ?_)
 ·have aP := of_decide_eq_true aD
  refine wp_skip ?_
  refine t_n ?_
  refine wp_seq ?_
  refine wp_block ?_
  refine wp_seq ?_
  refine At.start ?_
  refine At.rd aA 2 [[], []] [(5, .int .i64 (k)), (10, .int .i64 (k))] [] (by kernel_rfl) trivial (fun aQ aH => ?_)
  clear aA
  refine At.done rfl ?_
  refine t_n ?_
  refine wp_seq ?_
  refine At.start ?_
  obtain ⟨aC, aI, _, _, aJ⟩ := RdI.get aG (k) (by omega) (by omega)
  refine At.rd aH 6 [[], [], [], [.ad aC], [.ld (.int .i64 (gI la (k)))], []] [(16, .bool ((v : Int) == (gI la (k)))), (15, .int .i64 (gI la (k))), (14, .pointer (some (aC.add ((k : Int).toNat * 1)))), (13, .int .i64 (k)), (12, .slice Aa la.length ca), (11, .int .i64 (v))] [(Aa = some aC), (0 ≤ (k : Int)), ((k : Int) < (la.length : Nat)), (w7.cell? (aC.add ((k : Int).toNat * 1)) = some (.int .i64 (gI la (k))))] (by kernel_rfl) ⟨aI, (by omega), (by omega), aJ, trivial⟩ (fun aR aB => ?_)
  clear aH
  refine At.done rfl ?_
  refine t_n ?_
  refine cond_S aB (t := (v : Int) == (gI la (k))) rfl (fun aE => ?_) (fun aE => ?_)
  ·have aS := eq_of_beq aE
   refine wp_seq ?_
   refine At.start ?_
   refine At.rd aB 2 [[], []] [(4, .int .i64 (k)), (17, .int .i64 (k))] [] (by kernel_rfl) trivial (fun aT aK => ?_)
   clear aB
   refine At.done rfl ?_
   refine t_n ?_
   refine wp_ret ?_
   refine b_r ?_
   refine t_r ?_
   refine t_r ?_
   refine b_r ?_
   refine t_r ?_
   refine ret_ aK [] [.int .i64 (k)] [] (by kernel_rfl) trivial ?_
   exact ⟨ret_eq (congrArg (Value.int .i64) (idx_at (by omega) (by omega) (by assumption) (by assumption))), e8⟩
  have aU := ne_of_beq_false aE
  refine wp_skip ?_
  refine b_n ?_
  refine t_n ?_
  refine At.start ?_
  refine At.rd aB 2 [[.as_ (.int .i64 (k + 1))], []] [(8, .int .i64 (k + 1)), (18, .int .i64 (k + 1))] [((.int .i64 (IntKind.i64.wrap (k + 1)) : Value) = .int .i64 (k + 1))] (by kernel_rfl) ⟨(w64 (by omega) (by omega)), trivial⟩ (fun aV aL => ?_)
  clear aB
  refine At.done rfl ?_
  refine t_n ?_
  have aM := aL.sub (r := [(8, .int .i64 (k + 1)), (7, .int .i64 (((la.length : Nat) : Int))), (0, .slice Aa la.length ca), (1, .int .i64 (v))]) ⟨rfl, rfl, rfl, rfl, trivial⟩
  exact ⟨_, (by omega), (k + 1), rfl, aM, e8, aG, (by omega), (by omega), (notin_next (by omega) (by omega) (by assumption) (by assumption))⟩
 have aW := of_decide_eq_false aD
 refine wp_exit ?_
 refine t_e ?_
 refine t_e ?_
 refine b_e ?_
 refine t_n ?_
 refine wp_seq ?_
 refine At.start ?_
 refine At.rd aA 1 [[]] [(4, .int .i64 (-1))] [] (by kernel_rfl) trivial (fun aX aN => ?_)
 clear aA
 refine At.done rfl ?_
 refine t_n ?_
 refine wp_ret ?_
 refine ret_ aN [] [.int .i64 (-1)] [] (by kernel_rfl) trivial ?_
 exact ⟨ret_eq (congrArg (Value.int .i64) (idx_no (by assumption) (by omega))), e8⟩

set_option maxHeartbeats 4000000 in
theorem contains_any {Aa : Option Addr} {ca : Nat} {la : List Int} {v : Int} {w : World} (ra : RdI w 0 w.heap.size Aa la) :
    Calls Try.prog 54 #[.slice Aa la.length ca, .int .i64 (v)] w fun e w' => e = .returned (.bool (decide (v ∈ la))) ∧ Ext w w' := by
 have hla := ra.len
 refine enter_ (args := [.slice Aa la.length ca, .int .i64 (v)]) Try.func54 rfl Try.ntmps54 (Nat.le_of_ble_eq_true rfl) (fun act0 f0 => ?_)
 have e0 : Ext w w := Ext.refl w
 refine wp_seq ?_
 refine At.start ?_
 refine At.rd f0 1 [[]] [(4, .bool false)] [] (by kernel_rfl) trivial (fun act2 f1 => ?_)
 clear f0
 refine At.done rfl ?_
 refine t_n ?_
 refine wp_seq ?_
 refine At.start ?_
 refine At.rd f1 2 [[], []] [(6, .int .i64 (v)), (5, .slice Aa la.length ca)] [] (by kernel_rfl) trivial (fun act4 f3 => ?_)
 clear f1
 refine At.call f3 60 #[.slice Aa la.length ca, .int .i64 (v)] (some 7) (by kernel_rfl) (index_any (v := v) (ra.wide (Nat.zero_le _) (by omega))) ?_
 rintro e_ w5 ⟨rfl, he⟩
 refine ⟨_, rfl, _, rfl, fun act6 f7 => ?_⟩
 clear f3; have g8 := gr_ext he; have := g8.size; replace e0 := e0.gn g8; have aB := ra.gn g8; clear ra; clear g8 he
 refine At.rd f7 2 [[], []] [(4, .bool (decide ((idxI la v : Int) ≥ 0))), (8, .bool (decide ((idxI la v : Int) ≥ 0)))] [] (by kernel_rfl) trivial (fun aC aA => ?_)
 clear f7
 refine At.done rfl ?_
 refine t_n ?_
 refine wp_ret ?_
 refine ret_ aA [] [.bool (decide ((idxI la v : Int) ≥ 0))] [] (by kernel_rfl) trivial ?_
 exact ⟨ret_eq (congrArg Value.bool (idx_in _ _)), e0⟩

set_option maxHeartbeats 4000000 in
theorem goes_any {Ag0 Ag1 Ag2 : Option Addr} {cg0 cg1 cg2 : Nat} {g : GameL} {p v : Int} {w : World} (rg : RdG w 0 w.heap.size Ag0 Ag1 Ag2 cg0 cg1 cg2 g) (h0 : 0 ≤ p) (h1 : p < (g.mv.length : Int)) :
    Calls Try.prog 40 #[.agg #[.slice Ag0 g.ow.length cg0, .slice Ag1 g.pr.length cg1, .slice Ag2 g.mv.length cg2], .int .i64 (p), .int .i64 (v)] w fun e w' => e = .returned (.bool (decide (v ∈ gL g.mv p))) ∧ Ext w w' := by
 have hlg0 := rg.ow.len; have hlg1 := rg.pr.len; have hlg2 := rg.mv.len; have hkg0 := rg.k0; have hkg1 := rg.k1; have hkg2 := rg.k2
 refine enter_ (args := [.agg #[.slice Ag0 g.ow.length cg0, .slice Ag1 g.pr.length cg1, .slice Ag2 g.mv.length cg2], .int .i64 (p), .int .i64 (v)]) Try.func40 rfl Try.ntmps40 (Nat.le_of_ble_eq_true rfl) (fun act0 f0 => ?_)
 have e0 : Ext w w := Ext.refl w
 refine wp_seq ?_
 refine At.start ?_
 refine At.seq f0 1 [[]] [(3, .pointer (some ⟨w.heap.size, 0, none⟩))] (w.alloc (.cells #[.slice Ag0 g.ow.length cg0, .slice Ag1 g.pr.length cg1, .slice Ag2 g.mv.length cg2] 25 (0, 0))) [] (by kernel_rfl) trivial (fun act4 w1 hw2 f3 => ?_)
 clear f0; have g5 := gr_alloc hw2; have := g5.size; replace e0 := e0.gn g5; have r8 := rg.gn g5; clear rg; have bx9 : Bx w1 (w.heap.size) [.slice Ag0 g.ow.length cg0, .slice Ag1 g.pr.length cg1, .slice Ag2 g.mv.length cg2] 25 := Bx.new hw2; have := bx9.lt; clear g5 hw2
 refine At.rd f3 1 [[]] [(6, .bool false)] [] (by kernel_rfl) trivial (fun bG aP => ?_)
 clear f3
 refine At.done rfl ?_
 refine t_n ?_
 refine wp_seq ?_
 refine wp_seq ?_
 refine At.start ?_
 refine At.rd aP 1 [[]] [(7, .int .i64 (0))] [] (by kernel_rfl) trivial (fun bH aQ => ?_)
 clear aP
 refine At.done rfl ?_
 refine t_n ?_
 refine wp_block ?_
 have aR := aQ.sub (r := [(7, .int .i64 (0)), (3, .pointer (some ⟨w.heap.size, 0, none⟩)), (1, .int .i64 (p)), (2, .int .i64 (v))]) ⟨rfl, rfl, rfl, rfl, trivial⟩
 refine loop_g (fun (m_ : Nat) a_ w_ => ∃ (k : Int), m_ = (((gL g.mv p).length : Int) - k).toNat ∧ (Frm 28 a_ [(7, .int .i64 (k)), (3, .pointer (some ⟨w.heap.size, 0, none⟩)), (1, .int .i64 (p)), (2, .int .i64 (v))]) ∧ (Ext w w_) ∧ (RdG w_ 0 w.heap.size Ag0 Ag1 Ag2 cg0 cg1 cg2 g) ∧ (Bx w_ (w.heap.size) [.slice Ag0 g.ow.length cg0, .slice Ag1 g.pr.length cg1, .slice Ag2 g.mv.length cg2] 25) ∧ (0 ≤ k) ∧ (k ≤ ((gL g.mv p).length : Int)) ∧ (v ∉ (gL g.mv p).take k.toNat)) _ ⟨0, rfl, aR, e0, r8, bx9, (by omega), (Int.natCast_nonneg _), (notin_zero _ _)⟩ ?_
 clear aR aQ; clear r8; clear bx9; clear e0
 intro m_ bI aA ⟨k, hm18, aS, aD, aJ, aE, i22, i23, i24⟩
 have := aD.size; have := aE.lt
 refine wp_seq ?_
 refine wp_seq ?_
 refine At.start ?_
 obtain ⟨aF, aK, aL, aV, _, _, aW, bJ, aX⟩ := RdII.get aJ.mv (p) (by omega) (by omega)
 have bK := aX.len
 refine At.rd aS 8 [[], [], [.ld (.slice Ag2 g.mv.length cg2)], [], [.ad aF], [.ld (.slice aK ((gL g.mv (p)).length) aL)], [], []] [(15, .bool (decide ((k : Int) < (((gL g.mv (p)).length : Nat) : Int)))), (14, .int .i64 ((((gL g.mv (p)).length : Nat) : Int))), (13, .slice aK ((gL g.mv (p)).length) aL), (12, .pointer (some (aF.add ((p : Int).toNat * 1)))), (11, .int .i64 (p)), (10, .slice Ag2 g.mv.length cg2), (9, .pointer (some ⟨w.heap.size, 2, none⟩)), (8, .int .i64 (k))] [(aA.cell? ⟨w.heap.size, 2, none⟩ = some (.slice Ag2 g.mv.length cg2)), (Ag2 = some aF), (0 ≤ (p : Int)), ((p : Int) < (g.mv.length : Nat)), (aA.cell? (aF.add ((p : Int).toNat * 1)) = some (.slice aK ((gL g.mv (p)).length) aL))] (by kernel_rfl) ⟨(aE.cell (i := 2) rfl), aV, (by omega), (by omega), aW, trivial⟩ (fun bL aB => ?_)
 clear aS
 refine At.done rfl ?_
 refine t_n ?_
 refine cond_S aB (t := decide ((k : Int) < (((gL g.mv (p)).length : Nat) : Int))) rfl (fun aM => ?_) (fun aM => ?_)
 ·have bM := of_decide_eq_true aM
  refine wp_skip ?_
  refine t_n ?_
  refine wp_seq ?_
  refine wp_block ?_
  refine wp_seq ?_
  refine At.start ?_
  obtain ⟨aG, aH, aN, aY, _, _, aZ, bN, aT⟩ := RdII.get aJ.mv (p) (by omega) (by omega)
  have bO := aT.len
  obtain ⟨aI, bA, _, _, bB⟩ := RdI.get aT (k) (by omega) (by omega)
  refine At.rd aB 10 [[], [.ld (.slice Ag2 g.mv.length cg2)], [], [.ad aG], [.ld (.slice aH ((gL g.mv (p)).length) aN)], [], [.ad aI], [.ld (.int .i64 (gI (gL g.mv (p)) (k)))], [], []] [(27, .bool ((gI (gL g.mv (p)) (k) : Int) == v)), (26, .int .i64 (v)), (25, .int .i64 (gI (gL g.mv (p)) (k))), (24, .pointer (some (aI.add ((k : Int).toNat * 1)))), (23, .int .i64 (k)), (22, .slice aH ((gL g.mv (p)).length) aN), (21, .pointer (some (aG.add ((p : Int).toNat * 1)))), (20, .int .i64 (p)), (19, .slice Ag2 g.mv.length cg2), (18, .pointer (some ⟨w.heap.size, 2, none⟩))] [(aA.cell? ⟨w.heap.size, 2, none⟩ = some (.slice Ag2 g.mv.length cg2)), (Ag2 = some aG), (0 ≤ (p : Int)), ((p : Int) < (g.mv.length : Nat)), (aA.cell? (aG.add ((p : Int).toNat * 1)) = some (.slice aH ((gL g.mv (p)).length) aN)), (aH = some aI), (0 ≤ (k : Int)), ((k : Int) < ((gL g.mv (p)).length : Nat)), (aA.cell? (aI.add ((k : Int).toNat * 1)) = some (.int .i64 (gI (gL g.mv (p)) (k))))] (by kernel_rfl) ⟨(aE.cell (i := 2) rfl), aY, (by omega), (by omega), aZ, bA, (by omega), (by omega), bB, trivial⟩ (fun bP aU => ?_)
  clear aB
  refine At.done rfl ?_
  refine t_n ?_
  have aC := aU.sub (r := [(27, .bool ((gI (gL g.mv (p)) (k) : Int) == v)), (7, .int .i64 (k)), (3, .pointer (some ⟨w.heap.size, 0, none⟩)), (1, .int .i64 (p)), (2, .int .i64 (v))]) ⟨rfl, rfl, rfl, rfl, rfl, trivial⟩
  clear aU
  refine cond_S aC (t := (gI (gL g.mv (p)) (k) : Int) == v) rfl (fun aO => ?_) (fun aO => ?_)
  ·have bQ := eq_of_beq aO
   refine wp_seq ?_
   refine At.start ?_
   refine At.rd aC 1 [[]] [(6, .bool true)] [] (by kernel_rfl) trivial (fun bR bC => ?_)
   clear aC
   refine At.done rfl ?_
   refine t_n ?_
   refine wp_ret ?_
   refine b_r ?_
   refine t_r ?_
   refine t_r ?_
   refine b_r ?_
   refine t_r ?_
   refine ret_ bC [] [.bool true] [] (by kernel_rfl) trivial ?_
   exact ⟨ret_eq (congrArg Value.bool (decide_eq_true (in_at (k := k) (by omega) (by omega) (by omega))).symm), aD⟩
  have bS := ne_of_beq_false aO
  refine wp_skip ?_
  refine b_n ?_
  refine t_n ?_
  refine At.start ?_
  refine At.rd aC 3 [[], [.as_ (.int .i64 (k + 1))], []] [(7, .int .i64 (k + 1)), (17, .int .i64 (k + 1)), (16, .int .i64 (k))] [((.int .i64 (IntKind.i64.wrap (k + 1)) : Value) = .int .i64 (k + 1))] (by kernel_rfl) ⟨(w64 (by omega) (by omega)), trivial⟩ (fun bT bD => ?_)
  clear aC
  refine At.done rfl ?_
  refine t_n ?_
  have bE := bD.sub (r := [(7, .int .i64 (k + 1)), (3, .pointer (some ⟨w.heap.size, 0, none⟩)), (1, .int .i64 (p)), (2, .int .i64 (v))]) ⟨rfl, rfl, rfl, rfl, trivial⟩
  exact ⟨_, (by omega), (k + 1), rfl, bE, aD, aJ, aE, (by omega), (by omega), (notin_next (by omega) (by omega) (by assumption) (by omega))⟩
 have bU := of_decide_eq_false aM
 refine wp_exit ?_
 refine t_e ?_
 refine t_e ?_
 refine b_e ?_
 refine t_n ?_
 refine wp_seq ?_
 refine At.start ?_
 refine At.rd aB 1 [[]] [(6, .bool false)] [] (by kernel_rfl) trivial (fun bV bF => ?_)
 clear aB
 refine At.done rfl ?_
 refine t_n ?_
 refine wp_ret ?_
 refine ret_ bF [] [.bool false] [] (by kernel_rfl) trivial ?_
 exact ⟨ret_eq (congrArg Value.bool (decide_eq_false (notin_all (k := k) (by assumption) (by omega))).symm), aD⟩

end Go.Proofs.Ytklbpajmoklheaa
