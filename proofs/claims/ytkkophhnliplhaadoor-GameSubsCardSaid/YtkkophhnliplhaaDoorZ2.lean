/-
  Texts of this repo, laid together: the frame of the walks, plain lemmas, walks of Go functions. Conditions: what the theorems name.
-/
import Derived.Test.YtkkophhnliplhaaDoorZ1
set_option linter.unusedVariables false
set_option linter.unusedSimpArgs false
namespace Go.Proofs.YtkkophhnliplhaaDoor
open Go Go.RowKit
set_option maxHeartbeats 4000000 in
theorem right_any {Ag0 Ag1 Ag2 : Option Addr} {cg0 cg1 cg2 : Nat} {g : GameL} {w : World} (rg : RdG w 0 w.heap.size Ag0 Ag1 Ag2 cg0 cg1 cg2 g) :
    Calls Tryd.prog 14 #[.agg #[.slice Ag0 g.ow.length cg0, .slice Ag1 g.pr.length cg1, .slice Ag2 g.mv.length cg2]] w fun e w' => e = .returned (.tuple #[.int .i64 (rightP g).1, .int .i64 (rightP g).2]) ∧ Ext w w' := by
 have hlg0 := rg.ow.len; have hlg1 := rg.pr.len; have hlg2 := rg.mv.len; have hkg0 := rg.k0; have hkg1 := rg.k1; have hkg2 := rg.k2
 refine enter_ (args := [.agg #[.slice Ag0 g.ow.length cg0, .slice Ag1 g.pr.length cg1, .slice Ag2 g.mv.length cg2]]) Tryd.func14 rfl Tryd.ntmps14 (Nat.le_of_ble_eq_true rfl) (fun act0 f0 => ?_)
 have e0 : Ext w w := Ext.refl w
 refine sqs ?_
 refine At.bx f0 1 [.slice Ag0 g.ow.length cg0, .slice Ag1 g.pr.length cg1, .slice Ag2 g.mv.length cg2] 25 (fun w1 g5 bx6 act4 f3 => ?_)
 clear f0; have := g5.size; replace e0 := e0.gn g5; have r9 := rg.gn g5; clear rg; have := bx6.lt; clear g5
 refine At.rk f3 2 [(3, .int .i64 (0)), (2, .int .i64 (0))] .n (fun dJ bR => ?_)
 clear f3
 refine At.dn ?_
 refine sqs ?_
 refine At.rk bR 4 [(4, .int .i64 (((g.mv.length : Nat) : Int)))] (.l (bx6.cell (i := 2) rfl) <| .n) (fun dK aW => ?_)
 clear bR
 refine At.dn ?_
 refine wp_seq ?_
 refine wp_block ?_
 refine sqs ?_
 rcases Bool.eq_false_or_eq_true ((((g.ow.length : Nat) : Int) : Int) != ((g.mv.length : Nat) : Int)) with aK | aK
 ·have dL := bne_iff_ne.1 aK
  refine At.rk aW 13 [(12, .bool true)] (.l (bx6.cell (i := 0) rfl) <| .e 18 aK <| .n) (fun dM bA => ?_)
  clear aW
  refine At.dn ?_
  refine cond_T bA rfl ?_
  refine sqs ?_
  refine At.rk bA 2 [(3, .int .i64 (1)), (2, .int .i64 (0))] .n (fun dN cI => ?_)
  clear bA
  refine At.dn ?_
  refine wp_ret ?_
  refine b_r ?_
  refine t_r ?_
  refine ret_ cI [] [.int .i64 (0), .int .i64 (1)] [] κ trivial ?_
  exact ⟨ret2_ii (right_lens ω) rfl rfl, e0⟩
 have dO := bne_eq_false_iff_eq.1 aK
 refine At.rk aW 13 [(12, .bool ((((g.pr.length : Nat) : Int) : Int) != ((g.mv.length : Nat) : Int)))] (.l (bx6.cell (i := 0) rfl) <| .e 18 aK <| .l (bx6.cell (i := 1) rfl) <| .n) (fun dP aD => ?_)
 clear aW
 refine At.dn ?_
 refine cond_S aD (t := (((g.pr.length : Nat) : Int) : Int) != ((g.mv.length : Nat) : Int)) rfl (fun bB => ?_) (fun bB => ?_)
 ·have dQ := bne_iff_ne.1 bB
  refine sqs ?_
  refine At.rk aD 2 [(3, .int .i64 (1)), (2, .int .i64 (0))] .n (fun dR cJ => ?_)
  clear aD
  refine At.dn ?_
  refine wp_ret ?_
  refine b_r ?_
  refine t_r ?_
  refine ret_ cJ [] [.int .i64 (0), .int .i64 (1)] [] κ trivial ?_
  exact ⟨ret2_ii (right_lens ω) rfl rfl, e0⟩
 have dS := bne_eq_false_iff_eq.1 bB
 refine sqs ?_
 rcases Bool.eq_false_or_eq_true (decide ((((g.mv.length : Nat) : Int) : Int) < 1)) with aL | aL
 ·have dT := of_decide_eq_true aL
  refine At.rk aD 7 [(25, .bool true)] (.e 28 aL <| .n) (fun dU bC => ?_)
  clear aD
  refine At.dn ?_
  refine cond_T bC rfl ?_
  refine sqs ?_
  refine At.rk bC 2 [(3, .int .i64 (10)), (2, .int .i64 (0))] .n (fun dV cK => ?_)
  clear bC
  refine At.dn ?_
  refine wp_ret ?_
  refine b_r ?_
  refine t_r ?_
  refine ret_ cK [] [.int .i64 (0), .int .i64 (10)] [] κ trivial ?_
  exact ⟨ret2_ii (right_many ω ω) rfl rfl, e0⟩
 have dW := of_decide_eq_false aL
 refine At.rk aD 7 [(25, .bool (decide ((((g.mv.length : Nat) : Int) : Int) > 200)))] (.e 28 aL <| .n) (fun dX aM => ?_)
 clear aD
 refine At.dn ?_
 refine cond_S aM (t := decide ((((g.mv.length : Nat) : Int) : Int) > 200)) rfl (fun bD => ?_) (fun bD => ?_)
 ·have dY := of_decide_eq_true bD
  refine sqs ?_
  refine At.rk aM 2 [(3, .int .i64 (10)), (2, .int .i64 (0))] .n (fun dZ cL => ?_)
  clear aM
  refine At.dn ?_
  refine wp_ret ?_
  refine b_r ?_
  refine t_r ?_
  refine ret_ cL [] [.int .i64 (0), .int .i64 (10)] [] κ trivial ?_
  exact ⟨ret2_ii (right_many ω ω) rfl rfl, e0⟩
 have eA := of_decide_eq_false bD
 refine wp_skip ?_
 refine b_n ?_
 refine t_n ?_
 refine wp_seq ?_
 refine sqs ?_
 refine At.rk aM 4 [(35, .int .i64 (0)), (34, .int .i64 (((g.mv.length : Nat) : Int))), (33, .slice Ag2 g.mv.length cg2)] (.l (bx6.cell (i := 2) rfl) <| .n) (fun eB bS => ?_)
 clear aM
 refine At.dn ?_
 refine wp_block ?_
 refine loop_g (fun (m_ : Nat) a_ w_ => ∃ (k : Int), m_ = ((g.ow.length : Int) - k).toNat ∧ (Frm 107 a_ [(35, .int .i64 (k)), (34, .int .i64 (((g.mv.length : Nat) : Int))), (33, .slice Ag2 g.mv.length cg2), (4, .int .i64 (((g.mv.length : Nat) : Int))), (1, pt w.heap.size 0)]) ∧ (Ext w w_) ∧ (RdG w_ 0 w.heap.size Ag0 Ag1 Ag2 cg0 cg1 cg2 g) ∧ (Bx w_ (w.heap.size) [.slice Ag0 g.ow.length cg0, .slice Ag1 g.pr.length cg1, .slice Ag2 g.mv.length cg2] 25) ∧ (0 ≤ k) ∧ (k ≤ (g.ow.length : Int)) ∧ (∀ j : Nat, (j : Int) < k → g.err j = 0)) _ ⟨0, rfl, bS.sb, e0, r9, bx6, ω, ω, (fun j hj => by omega)⟩ ?_
 clear bS; clear r9; clear bx6; clear e0
 intro m_ eC eD ⟨k, hm48, bT, aA, aE, aB, i52, i53, hp⟩
 have := aA.size; have := aB.lt
 refine sqs ?_
 refine At.rk bT 1 [(36, .bool (decide ((k : Int) < ((g.mv.length : Nat) : Int))))] .n (fun eE aN => ?_)
 clear bT
 refine At.dn ?_
 refine wp_seq ?_
 refine cond_S aN (t := decide ((k : Int) < ((g.mv.length : Nat) : Int))) rfl (fun bE => ?_) (fun bE => ?_)
 ·have eF := of_decide_eq_true bE
  refine wp_skip ?_
  refine t_n ?_
  refine wp_seq ?_
  refine wp_block ?_
  refine sqs ?_
  obtain ⟨eG, aI, aO, cM, _, _, cN, eH, bF⟩ := RdII.get aE.mv (k) ω ω
  have eI := bF.len
  refine At.rk aN 5 [(6, .slice aI ((gL g.mv (k)).length) aO), (5, .int .i64 (k))] (.a k g.mv.length cM <| .l cN <| .n) (fun eJ aX => ?_)
  clear aN
  refine At.dn ?_
  refine wp_seq ?_
  refine wp_block ?_
  refine sqs ?_
  obtain ⟨eK, bU, _, _, bV⟩ := RdI.get aE.ow (k) ω ω
  rcases Bool.eq_false_or_eq_true (decide ((gI g.ow (k) : Int) < 0)) with aP | aP
  ·have eL := of_decide_eq_true aP
   refine At.rk aX 15 [(40, .bool true)] (.l (aB.cell (i := 0) rfl) <| .a k g.ow.length bU <| .l bV <| .e 47 aP <| .n) (fun eM bG => ?_)
   clear aX
   refine At.dn ?_
   refine cond_T bG rfl ?_
   refine sqs ?_
   refine At.rk bG 3 [(3, .int .i64 (14)), (2, .int .i64 (k))] .n (fun eN cO => ?_)
   clear bG
   refine At.dn ?_
   refine wp_ret ?_
   refine b_r ?_
   refine t_r ?_
   refine b_r ?_
   refine t_r ?_
   refine t_r ?_
   refine b_r ?_
   refine t_r ?_
   refine ret_ cO [] [.int .i64 (k), .int .i64 (14)] [] κ trivial ?_
   exact ⟨ret2_ii (right_at' ω ω ω ω σ (err_14 ω ω) (by decide)) rfl rfl, aA⟩
  have eO := of_decide_eq_false aP
  obtain ⟨bW, cP, _, _, cQ⟩ := RdI.get aE.ow (k) ω ω
  refine At.rk aX 15 [(40, .bool (decide ((gI g.ow (k) : Int) > 1))), (53, .bool (decide ((gI g.ow (k) : Int) > 1))), (52, .int .i64 (gI g.ow (k))), (51, .pointer (some (bW.add ((k : Int).toNat * 1)))), (50, .int .i64 (k)), (49, .slice Ag0 g.ow.length cg0), (48, pt w.heap.size 0)] (.l (aB.cell (i := 0) rfl) <| .a k g.ow.length bU <| .l bV <| .e 47 aP <| .l (aB.cell (i := 0) rfl) <| .a k g.ow.length cP <| .l cQ <| .n) (fun eP aF => ?_)
  clear aX
  refine At.dn ?_
  refine cond_S aF (t := decide ((gI g.ow (k) : Int) > 1)) rfl (fun bH => ?_) (fun bH => ?_)
  ·have eQ := of_decide_eq_true bH
   refine sqs ?_
   refine At.rk aF 3 [(3, .int .i64 (14)), (2, .int .i64 (k))] .n (fun eR cR => ?_)
   clear aF
   refine At.dn ?_
   refine wp_ret ?_
   refine b_r ?_
   refine t_r ?_
   refine b_r ?_
   refine t_r ?_
   refine t_r ?_
   refine b_r ?_
   refine t_r ?_
   refine ret_ cR [] [.int .i64 (k), .int .i64 (14)] [] κ trivial ?_
   exact ⟨ret2_ii (right_at' ω ω ω ω σ (err_14 ω ω) (by decide)) rfl rfl, aA⟩
  have eS := of_decide_eq_false bH
  refine sqs ?_
  obtain ⟨eT, bX, _, _, bY⟩ := RdI.get aE.pr (k) ω ω
  rcases Bool.eq_false_or_eq_true (decide ((gI g.pr (k) : Int) < 0)) with aQ | aQ
  ·have eU := of_decide_eq_true aQ
   refine At.rk aF 15 [(56, .bool true)] (.l (aB.cell (i := 1) rfl) <| .a k g.pr.length bX <| .l bY <| .e 63 aQ <| .n) (fun eV bI => ?_)
   clear aF
   refine At.dn ?_
   refine cond_T bI rfl ?_
   refine sqs ?_
   refine At.rk bI 3 [(3, .int .i64 (15)), (2, .int .i64 (k))] .n (fun eW bZ => ?_)
   clear bI
   refine At.dn ?_
   have cS := bZ.sb (r := [(3, .int .i64 (15)), (2, .int .i64 (k))]); clear bZ
   refine wp_ret ?_
   refine b_r ?_
   refine t_r ?_
   refine b_r ?_
   refine t_r ?_
   refine t_r ?_
   refine b_r ?_
   refine t_r ?_
   refine ret_ cS [] [.int .i64 (k), .int .i64 (15)] [] κ trivial ?_
   exact ⟨ret2_ii (right_at' ω ω ω ω σ (err_15 ω ω) (by decide)) rfl rfl, aA⟩
  have eX := of_decide_eq_false aQ
  obtain ⟨cA, cT, _, _, cU⟩ := RdI.get aE.pr (k) ω ω
  refine At.rk aF 15 [(56, .bool (decide ((gI g.pr (k) : Int) > 7))), (69, .bool (decide ((gI g.pr (k) : Int) > 7))), (68, .int .i64 (gI g.pr (k))), (67, .pointer (some (cA.add ((k : Int).toNat * 1)))), (66, .int .i64 (k)), (65, .slice Ag1 g.pr.length cg1), (64, pt w.heap.size 1)] (.l (aB.cell (i := 1) rfl) <| .a k g.pr.length bX <| .l bY <| .e 63 aQ <| .l (aB.cell (i := 1) rfl) <| .a k g.pr.length cT <| .l cU <| .n) (fun eY aR => ?_)
  clear aF
  refine At.dn ?_
  refine cond_S aR (t := decide ((gI g.pr (k) : Int) > 7)) rfl (fun bJ => ?_) (fun bJ => ?_)
  ·have eZ := of_decide_eq_true bJ
   refine sqs ?_
   refine At.rk aR 3 [(3, .int .i64 (15)), (2, .int .i64 (k))] .n (fun fA cB => ?_)
   clear aR
   refine At.dn ?_
   have cV := cB.sb (r := [(3, .int .i64 (15)), (2, .int .i64 (k))]); clear cB
   refine wp_ret ?_
   refine b_r ?_
   refine t_r ?_
   refine b_r ?_
   refine t_r ?_
   refine t_r ?_
   refine b_r ?_
   refine t_r ?_
   refine ret_ cV [] [.int .i64 (k), .int .i64 (15)] [] κ trivial ?_
   exact ⟨ret2_ii (right_at' ω ω ω ω σ (err_15 ω ω) (by decide)) rfl rfl, aA⟩
  have fB := of_decide_eq_false bJ
  refine sqs ?_
  refine At.rk aR 4 [(72, .bool (((((gL g.mv (k)).length : Nat) : Int) : Int) == 0))] .n (fun fC aS => ?_)
  clear aR
  refine At.dn ?_
  refine cond_S aS (t := ((((gL g.mv (k)).length : Nat) : Int) : Int) == 0) rfl (fun bK => ?_) (fun bK => ?_)
  ·have fD := eq_of_beq bK
   refine sqs ?_
   refine At.rk aS 3 [(3, .int .i64 (17)), (2, .int .i64 (k))] .n (fun fE cC => ?_)
   clear aS
   refine At.dn ?_
   have cW := cC.sb (r := [(3, .int .i64 (17)), (2, .int .i64 (k))]); clear cC
   refine wp_ret ?_
   refine b_r ?_
   refine t_r ?_
   refine b_r ?_
   refine t_r ?_
   refine t_r ?_
   refine b_r ?_
   refine t_r ?_
   refine ret_ cW [] [.int .i64 (k), .int .i64 (17)] [] κ trivial ?_
   exact ⟨ret2_ii (right_at' ω ω ω ω σ (err_17 ω ω ω) (by decide)) rfl rfl, aA⟩
  have fF := ne_of_beq_false bK
  refine wp_skip ?_
  refine b_n ?_
  refine t_n ?_
  refine sqs ?_
  refine At.rk aS 3 [(79, .int .i64 (0)), (78, .int .i64 ((((gL g.mv (k)).length : Nat) : Int))), (77, .slice aI ((gL g.mv (k)).length) aO)] .n (fun fG cD => ?_)
  clear aS
  refine At.dn ?_
  refine wp_block ?_
  refine loop_g (fun (m_ : Nat) a_ w_ => ∃ (q : Int), m_ = (((gL g.mv k).length : Int) - q).toNat ∧ (Frm 107 a_ [(79, .int .i64 (q)), (78, .int .i64 ((((gL g.mv (k)).length : Nat) : Int))), (77, .slice aI ((gL g.mv (k)).length) aO), (69, .bool (decide ((gI g.pr (k) : Int) > 7))), (68, .int .i64 (gI g.pr (k))), (67, .pointer (some (cA.add ((k : Int).toNat * 1)))), (66, .int .i64 (k)), (65, .slice Ag1 g.pr.length cg1), (64, pt w.heap.size 1), (53, .bool (decide ((gI g.ow (k) : Int) > 1))), (52, .int .i64 (gI g.ow (k))), (51, .pointer (some (bW.add ((k : Int).toNat * 1)))), (50, .int .i64 (k)), (49, .slice Ag0 g.ow.length cg0), (48, pt w.heap.size 0), (6, .slice aI ((gL g.mv (k)).length) aO), (5, .int .i64 (k)), (35, .int .i64 (k)), (34, .int .i64 (((g.mv.length : Nat) : Int))), (33, .slice Ag2 g.mv.length cg2), (4, .int .i64 (((g.mv.length : Nat) : Int))), (1, pt w.heap.size 0)]) ∧ (Ext w w_) ∧ (RdG w_ 0 w.heap.size Ag0 Ag1 Ag2 cg0 cg1 cg2 g) ∧ (Bx w_ (w.heap.size) [.slice Ag0 g.ow.length cg0, .slice Ag1 g.pr.length cg1, .slice Ag2 g.mv.length cg2] 25) ∧ (RdI w_ 0 w.heap.size aI (gL g.mv (k))) ∧ (0 ≤ q) ∧ (q ≤ ((gL g.mv k).length : Int)) ∧ (rowBad g.ow.length (-1) ((gL g.mv k).take q.toNat) = false)) _ ⟨0, rfl, cD.sb, aA, aE, aB, bF, ω, ω, rfl⟩ ?_
  clear cD; clear aE; clear aB; clear bF; clear aA
  intro m_ fH fI ⟨q, hm125, cE, aG, bL, aY, aZ, i130, i131, i132⟩
  have := aG.size; have := aY.lt
  refine sqs ?_
  refine At.rk cE 1 [(80, .bool (decide ((q : Int) < (((gL g.mv (k)).length : Nat) : Int))))] .n (fun fJ aT => ?_)
  clear cE
  refine At.dn ?_
  refine wp_seq ?_
  refine cond_S aT (t := decide ((q : Int) < (((gL g.mv (k)).length : Nat) : Int))) rfl (fun bM => ?_) (fun bM => ?_)
  ·have fK := of_decide_eq_true bM
   refine wp_skip ?_
   refine t_n ?_
   refine wp_seq ?_
   refine wp_block ?_
   refine sqs ?_
   obtain ⟨fL, cX, _, _, cY⟩ := RdI.get aZ (q) ω ω
   refine At.rk aT 5 [(8, .int .i64 (gI (gL g.mv (k)) (q))), (7, .int .i64 (q))] (.a q ((gL g.mv (k)).length) cX <| .l cY <| .n) (fun fM aC => ?_)
   clear aT
   refine At.dn ?_
   refine sqs ?_
   rcases Bool.eq_false_or_eq_true (decide ((gI (gL g.mv (k)) (q) : Int) < 0)) with aH | aH
   ·have fN := of_decide_eq_true aH
    refine At.rk aC 20 [(103, .bool true)] (.e 86 aH <| .n) (fun fO bN => ?_)
    clear aC
    refine At.dn ?_
    refine cond_T bN rfl ?_
    refine sqs ?_
    refine At.rk bN 3 [(3, .int .i64 (16)), (2, .int .i64 (k))] .n (fun fP cF => ?_)
    clear bN
    refine At.dn ?_
    have cZ := cF.sb (r := [(3, .int .i64 (16)), (2, .int .i64 (k))]); clear cF
    refine wp_ret ?_
    refine b_r ?_
    refine t_r ?_
    refine t_r ?_
    refine b_r ?_
    refine b_r ?_
    refine t_r ?_
    refine t_r ?_
    refine b_r ?_
    refine t_r ?_
    refine ret_ cZ [] [.int .i64 (k), .int .i64 (16)] [] κ trivial ?_
    exact ⟨ret2_ii (right_at' ω ω ω ω σ (err_16 ω ω ω (bad_at2 (q := q) ω ω σ ω)) (by decide)) rfl rfl, aG⟩
   have fQ := of_decide_eq_false aH
   rcases Bool.eq_false_or_eq_true (decide ((gI (gL g.mv (k)) (q) : Int) ≥ ((g.mv.length : Nat) : Int))) with aJ | aJ
   ·have fR := of_decide_eq_true aJ
    refine At.rk aC 20 [(103, .bool true), (89, .bool (decide ((gI (gL g.mv (k)) (q) : Int) ≥ ((g.mv.length : Nat) : Int)))), (88, .int .i64 (((g.mv.length : Nat) : Int))), (87, .int .i64 (gI (gL g.mv (k)) (q)))] (.e 86 aH <| .e 91 aJ <| .n) (fun fS bO => ?_)
    clear aC
    refine At.dn ?_
    refine cond_T bO rfl ?_
    refine sqs ?_
    refine At.rk bO 3 [(3, .int .i64 (16)), (2, .int .i64 (k))] .n (fun fT cG => ?_)
    clear bO
    refine At.dn ?_
    have dA := cG.sb (r := [(3, .int .i64 (16)), (2, .int .i64 (k))]); clear cG
    refine wp_ret ?_
    refine b_r ?_
    refine t_r ?_
    refine t_r ?_
    refine b_r ?_
    refine b_r ?_
    refine t_r ?_
    refine t_r ?_
    refine b_r ?_
    refine t_r ?_
    refine ret_ dA [] [.int .i64 (k), .int .i64 (16)] [] κ trivial ?_
    exact ⟨ret2_ii (right_at' ω ω ω ω σ (err_16 ω ω ω (bad_at2 (q := q) ω ω σ ω)) (by decide)) rfl rfl, aG⟩
   have fU := of_decide_eq_false aJ
   rcases Bool.eq_false_or_eq_true (decide ((q : Int) > 0)) with aU | aU
   ·have fV := of_decide_eq_true aU
    obtain ⟨dB, dC, _, _, dD⟩ := RdI.get aZ (q - 1) ω ω
    refine At.rk aC 20 [(103, .bool (decide ((gI (gL g.mv (k)) (q) : Int) ≤ (gI (gL g.mv (k)) (q - 1))))), (102, .bool (decide ((gI (gL g.mv (k)) (q) : Int) ≤ (gI (gL g.mv (k)) (q - 1))))), (101, .bool (decide ((gI (gL g.mv (k)) (q) : Int) ≤ (gI (gL g.mv (k)) (q - 1))))), (100, .int .i64 (gI (gL g.mv (k)) (q - 1))), (99, .pointer (some (dB.add ((q - 1 : Int).toNat * 1)))), (98, .int .i64 (q - 1)), (97, .int .i64 (q)), (96, .slice aI ((gL g.mv (k)).length) aO), (95, .int .i64 (gI (gL g.mv (k)) (q))), (94, .bool true), (93, .bool (decide ((q : Int) > 0))), (92, .int .i64 (q)), (89, .bool (decide ((gI (gL g.mv (k)) (q) : Int) ≥ ((g.mv.length : Nat) : Int)))), (88, .int .i64 (((g.mv.length : Nat) : Int))), (87, .int .i64 (gI (gL g.mv (k)) (q)))] (.e 86 aH <| .e 91 aJ <| .e 94 aU <| .w 98 (q - 1) <| .a (q - 1) ((gL g.mv (k)).length) dC <| .l dD <| .n) (fun fW aV => ?_)
    clear aC
    refine At.dn ?_
    refine cond_S aV (t := decide ((gI (gL g.mv (k)) (q) : Int) ≤ (gI (gL g.mv (k)) (q - 1)))) rfl (fun bP => ?_) (fun bP => ?_)
    ·have fX := of_decide_eq_true bP
     refine sqs ?_
     refine At.rk aV 3 [(3, .int .i64 (16)), (2, .int .i64 (k))] .n (fun fY cH => ?_)
     clear aV
     refine At.dn ?_
     have dE := cH.sb (r := [(3, .int .i64 (16)), (2, .int .i64 (k))]); clear cH
     refine wp_ret ?_
     refine b_r ?_
     refine t_r ?_
     refine t_r ?_
     refine b_r ?_
     refine b_r ?_
     refine t_r ?_
     refine t_r ?_
     refine b_r ?_
     refine t_r ?_
     refine ret_ dE [] [.int .i64 (k), .int .i64 (16)] [] κ trivial ?_
     exact ⟨ret2_ii (right_at' ω ω ω ω σ (err_16 ω ω ω (bad_at2 (q := q) ω ω σ ω)) (by decide)) rfl rfl, aG⟩
    have fZ := of_decide_eq_false bP
    refine wp_skip ?_
    refine b_n ?_
    refine t_n ?_
    refine At.start ?_
    refine At.rk aV 2 [(79, .int .i64 (q + 1))] (.w 105 (q + 1) <| .n) (fun gA dF => ?_)
    clear aV
    refine At.dn ?_
    exact ⟨_, ω, (q + 1), rfl, dF.sb, aG, bL, aY, aZ, ω, ω, (bad_next2 ω ω σ ω ω ω)⟩
   have gB := of_decide_eq_false aU
   refine At.rk aC 20 [(103, .bool false), (102, .bool false), (94, .bool false), (93, .bool (decide ((q : Int) > 0))), (92, .int .i64 (q)), (89, .bool (decide ((gI (gL g.mv (k)) (q) : Int) ≥ ((g.mv.length : Nat) : Int)))), (88, .int .i64 (((g.mv.length : Nat) : Int))), (87, .int .i64 (gI (gL g.mv (k)) (q)))] (.e 86 aH <| .e 91 aJ <| .e 94 aU <| .n) (fun gC bQ => ?_)
   clear aC
   refine At.dn ?_
   refine cond_F bQ rfl ?_
   refine wp_skip ?_
   refine b_n ?_
   refine t_n ?_
   refine At.start ?_
   refine At.rk bQ 2 [(79, .int .i64 (q + 1))] (.w 105 (q + 1) <| .n) (fun gD dG => ?_)
   clear bQ
   refine At.dn ?_
   exact ⟨_, ω, (q + 1), rfl, dG.sb, aG, bL, aY, aZ, ω, ω, (bad_next2 ω ω σ ω ω ω)⟩
  have gE := of_decide_eq_false bM
  refine wp_exit ?_
  refine t_e ?_
  clear hm125
  refine t_e ?_
  refine b_e ?_
  refine b_n ?_
  refine t_n ?_
  refine At.start ?_
  refine At.rk aT 2 [(35, .int .i64 (k + 1))] (.w 106 (k + 1) <| .n) (fun gF dH => ?_)
  clear aT
  refine At.dn ?_
  exact ⟨_, ω, (k + 1), rfl, dH.sb, aG, bL, aY, ω, ω, (err_next ω hp (err_0 ω ω ω (bad_all σ ω)))⟩
 have gG := of_decide_eq_false bE
 refine wp_exit ?_
 refine t_e ?_
 clear hm48
 refine t_e ?_
 refine b_e ?_
 refine t_n ?_
 refine sqs ?_
 refine At.rk aN 2 [(3, .int .i64 (0)), (2, .int .i64 (0))] .n (fun gH dI => ?_)
 clear aN
 refine At.dn ?_
 refine wp_ret ?_
 refine ret_ dI [] [.int .i64 (0), .int .i64 (0)] [] κ trivial ?_
 exact ⟨ret2_ii (right_ok' (k := k) ω ω ω σ) rfl rfl, aA⟩
end Go.Proofs.YtkkophhnliplhaaDoor
namespace Go.Proofs.YtkkophhnliplhaaDoor
open Go Go.RowKit
set_option maxHeartbeats 4000000 in
theorem isM_any {Ag0 Ag1 Ag2 : Option Addr} {cg0 cg1 cg2 : Nat} {g : GameL} {w : World} (rg : RdG w 0 w.heap.size Ag0 Ag1 Ag2 cg0 cg1 cg2 g) :
    Calls Tryd.prog 39 #[.agg #[.slice Ag0 g.ow.length cg0, .slice Ag1 g.pr.length cg1, .slice Ag2 g.mv.length cg2]] w fun e w' => e = .returned (.bool (isR g)) ∧ Ext w w' := by
 have hlg0 := rg.ow.len; have hlg1 := rg.pr.len; have hlg2 := rg.mv.len; have hkg0 := rg.k0; have hkg1 := rg.k1; have hkg2 := rg.k2
 refine enter_ (args := [.agg #[.slice Ag0 g.ow.length cg0, .slice Ag1 g.pr.length cg1, .slice Ag2 g.mv.length cg2]]) Tryd.func39 rfl Tryd.ntmps39 (Nat.le_of_ble_eq_true rfl) (fun act0 f0 => ?_)
 have e0 : Ext w w := Ext.refl w
 refine sqs ?_
 refine At.bx f0 1 [.slice Ag0 g.ow.length cg0, .slice Ag1 g.pr.length cg1, .slice Ag2 g.mv.length cg2] 25 (fun w1 g5 bx6 act4 f3 => ?_)
 clear f0; have := g5.size; replace e0 := e0.gn g5; have r9 := rg.gn g5; clear rg; have := bx6.lt; clear g5
 refine At.rk f3 1 [] .n (fun aJ aB => ?_)
 clear f3
 refine At.dn ?_
 have aC := aB.sb (r := [(1, pt w.heap.size 0)]); clear aB
 refine sqs ?_
 refine At.rk aC 1 [(6, .agg #[.slice Ag0 g.ow.length cg0, .slice Ag1 g.pr.length cg1, .slice Ag2 g.mv.length cg2])] (.l (bx6.cell (i := 0) rfl) <| .l (bx6.cell (i := 1) rfl) <| .l (bx6.cell (i := 2) rfl) <| .n) (fun aK aD => ?_)
 clear aC
 refine At.cl aD (some 7) (args := #[.agg #[.slice Ag0 g.ow.length cg0, .slice Ag1 g.pr.length cg1, .slice Ag2 g.mv.length cg2]]) (right_any (r9.wide (Nat.zero_le _) ω)) ?_
 rintro e_ aL ⟨rfl, he⟩
 refine ⟨_, rfl, _, rfl, fun aM aE => ?_⟩
 clear aD; have aA := gr_ext he; have := aA.size; replace e0 := e0.gn aA; replace r9 := r9.gn aA; replace bx6 := bx6.gn aA; clear aA he
 refine At.rk aE 5 [(4, .int .i64 ((rightP g).2))] .n (fun aN aF => ?_)
 clear aE
 refine At.dn ?_
 have aG := aF.sb (r := [(4, .int .i64 ((rightP g).2))]); clear aF
 refine sqs ?_
 refine At.rk aG 3 [(2, .bool (((rightP g).2 : Int) == 0))] .n (fun aO aH => ?_)
 clear aG
 refine At.dn ?_
 have aI := aH.sb (r := [(2, .bool (((rightP g).2 : Int) == 0))]); clear aH
 refine wp_ret ?_
 refine ret_ aI [] [.bool (((rightP g).2 : Int) == 0)] [] κ trivial ?_
 exact ⟨rfl, e0⟩
end Go.Proofs.YtkkophhnliplhaaDoor
namespace Go.Proofs.YtkkophhnliplhaaDoor
open Go Go.RowKit
attribute [local irreducible] ofZ fromW wordsD ofD ofW lsD lenW lenN fullW withW lessW hasW hasD inW inD leastD putD onI tzI orS andS minusS orD andD minusD fullD emptyD
end Go.Proofs.YtkkophhnliplhaaDoor
namespace Go.Proofs.YtkkophhnliplhaaDoor
open Go Go.RowKit
attribute [local irreducible] ofZ fromW wordsD ofD ofW lsD lenW lenN fullW withW lessW hasW hasD inW inD leastD putD onI tzI orS andS minusS orD andD minusD fullD emptyD
set_option maxHeartbeats 4000000 in
theorem subM_any {Ag0 Ag1 Ag2 : Option Addr} {cg0 cg1 cg2 : Nat} {g : GameL} {s : List Int} {w : World} (rg : RdG w 0 w.heap.size Ag0 Ag1 Ag2 cg0 cg1 cg2 g) (hs : OkW s) (rT : RdT w 0 w.heap.size) :
    Calls Tryd.prog 22 #[.agg #[.slice Ag0 g.ow.length cg0, .slice Ag1 g.pr.length cg1, .slice Ag2 g.mv.length cg2], .agg ((s : List Int).map wV).toArray] w fun e w' => ∃ A0 c0 A1 c1 A2 c2 A3 c3, e = .returned (.tuple #[.agg #[.slice A0 (subG g (inT g s)).ow.length c0, .slice A1 (subG g (inT g s)).pr.length c1, .slice A2 (subG g (inT g s)).mv.length c2], .slice A3 (subO g (inT g s)).length c3, .bool (subB g (inT g s))]) ∧ Ext w w' ∧ OwnR w' (Sx w.heap.size [obk A1, obk A2, obk A3]) A0 c0 3 (subG g (inT g s)).ow ∧ OwnR w' (Sx w.heap.size [obk A0, obk A2, obk A3]) A1 c1 3 (subG g (inT g s)).pr ∧ OwnLL w' w.heap.size [obk A0, obk A1, obk A3] A2 c2 22 3 (subG g (inT g s)).mv ∧ OwnR w' (Sx w.heap.size [obk A0, obk A1, obk A2]) A3 c3 3 (subO g (inT g s)) := by
 have hlg0 := rg.ow.len; have hlg1 := rg.pr.len; have hlg2 := rg.mv.len; have hkg0 := rg.k0; have hkg1 := rg.k1; have hkg2 := rg.k2; have hls := hs.1
 refine enter_ (args := [.agg #[.slice Ag0 g.ow.length cg0, .slice Ag1 g.pr.length cg1, .slice Ag2 g.mv.length cg2], .agg ((s : List Int).map wV).toArray]) Tryd.func22 rfl Tryd.ntmps22 (Nat.le_of_ble_eq_true rfl) (fun act0 f0 => ?_)
 have e0 : Ext w w := Ext.refl w
 refine sqs ?_
 refine At.bx f0 2 [.slice Ag0 g.ow.length cg0, .slice Ag1 g.pr.length cg1, .slice Ag2 g.mv.length cg2] 25 (fun w1 g5 bx6 act4 f3 => ?_)
 clear f0; have := g5.size; replace e0 := e0.gn g5; have r9 := rg.gn g5; clear rg; have aZ := rT.gn g5; clear rT; have := bx6.lt; clear g5
 refine At.bx f3 3 ((s : List Int).map wV) 47 (fun aW fC bA oS iU => ?_)
 clear f3; have := fC.size; replace e0 := e0.gn fC; replace r9 := r9.gn fC; replace aZ := aZ.gn fC; replace bx6 := bx6.gn fC; have := bA.lt; clear fC
 refine At.bx iU 4 [.slice none 0 0, .slice none 0 0, .slice none 0 0] 25 (fun oT eF bB oU iW => ?_)
 clear iU; have := eF.size; replace e0 := e0.gn eF; replace r9 := r9.gn eF; replace aZ := aZ.gn eF; replace bx6 := bx6.gn eF; replace bA := bA.gn eF; have := bB.lt; clear eF
 refine At.rk iW 2 [(6, .bool false), (5, .slice none 0 0)] .n (fun oV iX => ?_)
 clear iW
 refine At.dn ?_
 refine wp_seq ?_
 refine sqs ?_
 refine At.rk iX 1 [(17, .agg #[.slice Ag0 g.ow.length cg0, .slice Ag1 g.pr.length cg1, .slice Ag2 g.mv.length cg2])] (.l (bx6.cell (i := 0) rfl) <| .l (bx6.cell (i := 1) rfl) <| .l (bx6.cell (i := 2) rfl) <| .n) (fun oW iY => ?_)
 clear iX
 refine At.cl iY (some 18) (args := #[.agg #[.slice Ag0 g.ow.length cg0, .slice Ag1 g.pr.length cg1, .slice Ag2 g.mv.length cg2]]) (isM_any (r9.wide (Nat.zero_le _) ω)) ?_
 rintro e_ iZ ⟨rfl, he⟩
 refine ⟨_, rfl, _, rfl, fun oX jA => ?_⟩
 clear iY; have dG := gr_ext he; have := dG.size; replace e0 := e0.gn dG; replace r9 := r9.gn dG; replace aZ := aZ.gn dG; replace bx6 := bx6.gn dG; replace bA := bA.gn dG; replace bB := bB.gn dG; clear dG he
 refine At.rk jA 1 [(19, .bool (!(isR g)))] .n (fun oY fD => ?_)
 clear jA
 refine At.dn ?_
 refine cond_S fD (t := !(isR g)) rfl (fun eG => ?_) (fun eG => ?_)
 ·have oZ : (isR g) = false := by first | exact Eq.mp (Bool.not_eq_true' _) eG | exact Eq.mp (Bool.not_eq_false' _) eG | simpa using eG
  refine sqs ?_
  refine At.rk fD 1 [(20, .agg #[.slice none 0 0, .slice none 0 0, .slice none 0 0])] .n (fun pA jB => ?_)
  clear fD
  refine At.store jB (t := 25) (b := aW.heap.size) (off := 0) (v := .agg #[.slice none 0 0, .slice none 0 0, .slice none 0 0]) κ bB κ (fun pB fY eH fL jC => ?_)
  clear jB; replace fL : Bx fY (aW.heap.size) [.slice none 0 0, .slice none 0 0, .slice none 0 0] 25 := fL; have := eH.size; replace e0 := e0.gr eH (fun k h => by injection h; omega); replace r9 := r9.gb eH ω; replace aZ := aZ.gb eH ω; replace bx6 := bx6.gb eH ω; replace bA := bA.gb eH ω; clear bB eH
  refine At.rk jC 2 [(6, .bool false), (5, .slice none 0 0)] .n (fun pC mP => ?_)
  clear jC
  refine At.dn ?_
  clear bx6; clear bA
  refine wp_ret ?_
  refine t_r ?_
  refine ret_ mP [[.slice none 0 0, .slice none 0 0, .slice none 0 0]] [.agg #[.slice none 0 0, .slice none 0 0, .slice none 0 0], .slice none 0 0, .bool false] [(fY.cell? ⟨aW.heap.size, 0, none⟩ = some (.slice none 0 0)), (fY.cell? ⟨aW.heap.size, 1, none⟩ = some (.slice none 0 0)), (fY.cell? ⟨aW.heap.size, 2, none⟩ = some (.slice none 0 0))] κ ⟨(fL.cell (i := 0) rfl), (fL.cell (i := 1) rfl), (fL.cell (i := 2) rfl), trivial⟩ ?_
  obtain ⟨e1_, e2_, e3_⟩ := sub_no (g := g) (I := inT g s) (by first | exact .inl σ | exact .inr hbad)
  rw [e1_, e2_, e3_]
  exact ⟨none, 0, none, 0, none, 0, none, 0, rfl, e0, OwnR.nil, OwnR.nil, OwnLL.nil, OwnR.nil⟩
 have pD : (isR g) = true := by first | exact Eq.mp (Bool.not_eq_true' _) eG | exact Eq.mp (Bool.not_eq_false' _) eG | simpa using eG
 refine wp_skip ?_
 refine t_n ?_
 have hR : isR g = true := by assumption
 have hG := isR_ok hR; have hn1 := hG.n1; have hpl := hG.pl; have hml := hG.ml; have hOl := ls_len (inT g s) 256
 refine wp_seq (cut (fun a_ w_ => (Frm 102 a_ [(6, .bool false), (5, .slice none 0 0), (4, pt aW.heap.size 0), (3, pt w1.heap.size 0), (2, pt w.heap.size 0)]) ∧ (Ext w w_) ∧ (RdG w_ 0 w.heap.size Ag0 Ag1 Ag2 cg0 cg1 cg2 g) ∧ (RdT w_ 0 w.heap.size) ∧ (Bx w_ (w.heap.size) [.slice Ag0 g.ow.length cg0, .slice Ag1 g.pr.length cg1, .slice Ag2 g.mv.length cg2] 25) ∧ (Bx w_ (w1.heap.size) (((inS g s : List Int) : List Int).map wV) 47) ∧ (Bx w_ (aW.heap.size) [.slice none 0 0, .slice none 0 0, .slice none 0 0] 25) ∧ (iZ.heap.size ≤ w_.heap.size)) ?_ ?_)
 ·obtain ⟨jD, fZ⟩ : ∃ c : List (Addr × Value), c = [(⟨w.heap.size, 0, none⟩, (.slice Ag0 g.ow.length cg0))] := ⟨_, rfl⟩
  have jE : HoldsC jD iZ := by rw [fZ]; exact ⟨(bx6.cell (i := 0) rfl), trivial⟩
  refine AtH.start jD 7 _ κ rfl rfl (fun gZ jF => ?_)
  have cY := gr_drew jF; have gA := jE.gr cY; have := cY.size; replace e0 := e0.gn cY; replace r9 := r9.gn cY; replace aZ := aZ.gn cY; replace bx6 := bx6.gn cY; replace bA := bA.gn cY; replace bB := bB.gn cY; clear cY jF jE
  refine AtH.rk gA fD [1, 2, 3] 4 [(24, .int .i64 (((g.ow.length : Nat) : Int)))] (.l (CsC_at fZ 0 rfl) <| .n) (fun pE gC => ?_)
  clear fD
  refine AtH.all [0, 4] 3 κ (by simp) ⟨?_, ?_, trivial⟩
  ·refine OneH.seq gC [[.cs ((s : List Int).map wV)]] [(21, .agg ((s : List Int).map wV).toArray)] gZ [(((s : List Int).map wV).length = 4), (∀ (j : Nat) (v : Value), ((s : List Int).map wV)[j]? = some v → gZ.cell? ((⟨w1.heap.size, 0, none⟩ : Addr).add j) = some v)] _ rfl κ κ ⟨((List.length_map _).trans σ), bA.whole, trivial⟩ (fun pF mQ mR jG => ?_)
   obtain rfl : gZ = mQ := mR.symm
   clear gC
   refine ⟨gA, ?_⟩
   refine AtH.all [4] 2 κ (by simp) ⟨?_, trivial⟩
   refine OneH.cl jG (some 25) (full_any (n := ((g.ow.length : Nat) : Int)) ω) ?_
   rintro e_ pG ⟨rfl, he⟩
   refine ⟨_, rfl, _, rfl, fun pH jH => ?_⟩
   clear jG; have cZ := gr_ext he; have jI := gA.gr cZ; have := cZ.size; replace e0 := e0.gn cZ; replace r9 := r9.gn cZ; replace aZ := aZ.gn cZ; replace bx6 := bx6.gn cZ; replace bA := bA.gn cZ; replace bB := bB.gn cZ; clear cZ he
   refine ⟨jI, ?_⟩
   refine AtH.all [5] 1 κ (by simp) ⟨?_, trivial⟩
   refine OneH.cl jH (some 26) ((andS_any (s := s) (t := fullW ((g.ow.length : Nat) : Int)) σ (fullW_W _)).mono (R' := fun e w' => e = .returned (.agg (((inS g s : List Int) : List Int).map wV).toArray) ∧ Ext _ w') (fun e_ w_ h_ => by rw [show (andS s (fullW ((g.ow.length : Nat) : Int)) : List Int) = (inS g s : List Int) from rfl] at h_; exact h_)) ?_
   rintro e_ pI ⟨rfl, he⟩
   refine ⟨_, rfl, _, rfl, fun pJ jJ => ?_⟩
   clear jH; have dA := gr_ext he; have jK := jI.gr dA; have := dA.size; replace e0 := e0.gn dA; replace r9 := r9.gn dA; replace aZ := aZ.gn dA; replace bx6 := bx6.gn dA; replace bA := bA.gn dA; replace bB := bB.gn dA; clear dA he
   refine ⟨jK, ?_⟩
   refine AtH.all [6] 0 κ (by simp) ⟨?_, trivial⟩
   refine OneH.act jJ _ rfl (storeBlk (t := 47) (b := w1.heap.size) (n := 4) (cs' := (((inS g s : List Int) : List Int).map wV)) κ κ ((List.length_map _).trans (okLen (inS_ok σ))) oneW_ ((show (((inS g s : List Int) : List Int).map wV).length = 4 from ((List.length_map _).trans (okLen (inS_ok σ)))).trans (show ((s : List Int).map wV).length = 4 from ((List.length_map _).trans σ)).symm) bA) ?_
   rintro d_ v_ pK ⟨rfl, dH, mS⟩
   have jL := jK.gr' dH (by rw [fZ]; exact ⟨(by simp only [add_block]; omega), trivial⟩)
   refine ⟨_, rfl, fun pL mT => ⟨jL, ?_⟩⟩
   clear jJ; have := dH.size; replace e0 := e0.gr dH (fun k h => by injection h; omega); replace r9 := r9.gb dH ω; replace aZ := aZ.gb dH ω; replace bx6 := bx6.gb dH ω; replace bB := bB.gb dH ω; clear bA dH
   refine AtH.done κ ?_
   clear jL
   refine t_n ?_
   exact ⟨mT.sb, e0, r9, aZ, bx6, mS, bB, ω⟩
  refine OneH.cl gC (some 25) (full_any (n := ((g.ow.length : Nat) : Int)) ω) ?_
  rintro e_ hA ⟨rfl, he⟩
  refine ⟨_, rfl, _, rfl, fun pM jM => ?_⟩
  clear gC; have dB := gr_ext he; have hB := gA.gr dB; have := dB.size; replace e0 := e0.gn dB; replace r9 := r9.gn dB; replace aZ := aZ.gn dB; replace bx6 := bx6.gn dB; replace bA := bA.gn dB; replace bB := bB.gn dB; clear dB he
  refine ⟨hB, ?_⟩
  refine AtH.all [0] 2 κ (by simp) ⟨?_, trivial⟩
  refine OneH.seq jM [[.cs ((s : List Int).map wV)]] [(21, .agg ((s : List Int).map wV).toArray)] hA [(((s : List Int).map wV).length = 4), (∀ (j : Nat) (v : Value), ((s : List Int).map wV)[j]? = some v → hA.cell? ((⟨w1.heap.size, 0, none⟩ : Addr).add j) = some v)] _ rfl κ κ ⟨((List.length_map _).trans σ), bA.whole, trivial⟩ (fun pN mU mV jN => ?_)
  obtain rfl : hA = mU := mV.symm
  clear jM
  refine ⟨hB, ?_⟩
  refine AtH.all [5] 1 κ (by simp) ⟨?_, trivial⟩
  refine OneH.cl jN (some 26) ((andS_any (s := s) (t := fullW ((g.ow.length : Nat) : Int)) σ (fullW_W _)).mono (R' := fun e w' => e = .returned (.agg (((inS g s : List Int) : List Int).map wV).toArray) ∧ Ext _ w') (fun e_ w_ h_ => by rw [show (andS s (fullW ((g.ow.length : Nat) : Int)) : List Int) = (inS g s : List Int) from rfl] at h_; exact h_)) ?_
  rintro e_ pO ⟨rfl, he⟩
  refine ⟨_, rfl, _, rfl, fun pP jO => ?_⟩
  clear jN; have dC := gr_ext he; have jP := hB.gr dC; have := dC.size; replace e0 := e0.gn dC; replace r9 := r9.gn dC; replace aZ := aZ.gn dC; replace bx6 := bx6.gn dC; replace bA := bA.gn dC; replace bB := bB.gn dC; clear dC he
  refine ⟨jP, ?_⟩
  refine AtH.all [6] 0 κ (by simp) ⟨?_, trivial⟩
  refine OneH.act jO _ rfl (storeBlk (t := 47) (b := w1.heap.size) (n := 4) (cs' := (((inS g s : List Int) : List Int).map wV)) κ κ ((List.length_map _).trans (okLen (inS_ok σ))) oneW_ ((show (((inS g s : List Int) : List Int).map wV).length = 4 from ((List.length_map _).trans (okLen (inS_ok σ)))).trans (show ((s : List Int).map wV).length = 4 from ((List.length_map _).trans σ)).symm) bA) ?_
  rintro d_ v_ pQ ⟨rfl, dI, mW⟩
  have jQ := jP.gr' dI (by rw [fZ]; exact ⟨(by simp only [add_block]; omega), trivial⟩)
  refine ⟨_, rfl, fun pR mX => ⟨jQ, ?_⟩⟩
  clear jO; have := dI.size; replace e0 := e0.gr dI (fun k h => by injection h; omega); replace r9 := r9.gb dI ω; replace aZ := aZ.gb dI ω; replace bx6 := bx6.gb dI ω; replace bB := bB.gb dI ω; clear bA dI
  refine AtH.done κ ?_
  clear jQ
  refine t_n ?_
  exact ⟨mX.sb, e0, r9, aZ, bx6, mW, bB, ω⟩
 clear r9; clear aZ; clear bx6; clear bA; clear bB; clear fD e0
 intro pS cS ⟨jR, eI, fE, eJ, eK, dJ, eL, pT⟩
 have := eI.size; have := eK.lt; have := dJ.lt; have := eL.lt
 refine sqs ?_
 refine At.bx jR 7 ((List.replicate 256 (0 : Int) : List Int).map iV) 61 (fun bC dK fM pU jS => ?_)
 clear jR; have := dK.size; replace eI := eI.gn dK; replace fE := fE.gn dK; replace eJ := eJ.gn dK; replace eK := eK.gn dK; replace dJ := dJ.gn dK; replace eL := eL.gn dK; have := fM.lt; clear dK
 refine At.dn ?_
 refine sqs ?_
 refine At.rk jS 1 [(27, .agg (((inS g s : List Int) : List Int).map wV).toArray)] (.p (show (((inS g s : List Int) : List Int).map wV).length = 4 from ((List.length_map _).trans (okLen (inS_ok σ)))) <| .p dJ.whole <| .o (.cs (((inS g s : List Int) : List Int).map wV)) <| .n) (fun pV jT => ?_)
 clear jS
 refine At.cl jT (some 28) ((list_any (s := (inS g s : List Int)) (inS_ok σ) (eJ.wide (Nat.zero_le _) ω)).mono (fun e_ w_ h_ => by rw [show ((lsD (fromW (inS g s : List Int)) 256) : List Int) = (lsD (inT g s) 256 : List Int) from rfl] at h_; exact h_)) ?_
 rintro e_ pW ⟨aA, aJ, rfl, he, jU⟩
 have := ls_len (fromW (inS g s : List Int)) 256
 refine ⟨_, rfl, _, rfl, fun pX jV => ?_⟩
 clear jT; have dD := gr_ext he; have := dD.size; replace eI := eI.gn dD; replace fE := fE.gn dD; replace eJ := eJ.gn dD; replace eK := eK.gn dD; replace dJ := dJ.gn dD; replace eL := eL.gn dD; replace fM := fM.gn dD; clear dD he
 refine At.rk jV 1 [(8, .slice aA ((lsD (inT g s) 256 : List Int).length) aJ)] .n (fun pY jW => ?_)
 clear jV
 refine At.dn ?_
 refine wp_seq ?_
 refine sqs ?_
 refine At.rk jW 3 [(31, .int .i64 (0)), (30, .int .i64 ((((lsD (inT g s) 256 : List Int).length : Nat) : Int))), (29, .slice aA ((lsD (inT g s) 256 : List Int).length) aJ)] .n (fun pZ jX => ?_)
 clear jW
 refine At.dn ?_
 refine wp_block ?_
 refine loop_g (fun (m_ : Nat) a_ w_ => ∃ (k0 : Int) (nw : List Int), m_ = (((lsD (inT g s) 256).length : Int) - k0).toNat ∧ (Frm 102 a_ [(31, .int .i64 (k0)), (30, .int .i64 ((((lsD (inT g s) 256 : List Int).length : Nat) : Int))), (29, .slice aA ((lsD (inT g s) 256 : List Int).length) aJ), (8, .slice aA ((lsD (inT g s) 256 : List Int).length) aJ), (7, pt cS.heap.size 0), (6, .bool false), (5, .slice none 0 0), (4, pt aW.heap.size 0), (3, pt w1.heap.size 0), (2, pt w.heap.size 0)]) ∧ (Ext w w_) ∧ (RdG w_ 0 w.heap.size Ag0 Ag1 Ag2 cg0 cg1 cg2 g) ∧ (RdT w_ 0 w.heap.size) ∧ (Bx w_ (w.heap.size) [.slice Ag0 g.ow.length cg0, .slice Ag1 g.pr.length cg1, .slice Ag2 g.mv.length cg2] 25) ∧ (Bx w_ (w1.heap.size) (((inS g s : List Int) : List Int).map wV) 47) ∧ (Bx w_ (aW.heap.size) [.slice none 0 0, .slice none 0 0, .slice none 0 0] 25) ∧ (Bx w_ (cS.heap.size) ((nw : List Int).map iV) 61) ∧ (OwnR w_ (Sx (bC.heap.size) []) aA aJ 3 ((lsD (inT g s) 256 : List Int) : List Int)) ∧ (0 ≤ k0) ∧ (k0 ≤ ((lsD (inT g s) 256).length : Int)) ∧ (NowT (inT g s) nw k0) ∧ (nw.length = 256) ∧ (bC.heap.size ≤ w_.heap.size)) _ ⟨0, List.replicate 256 (0 : Int), rfl, jX.sb, eI, fE, eJ, eK, dJ, eL, fM, jU, ω, ω, now_0, List.length_replicate, ω⟩ ?_
 clear jX; clear fE; clear eJ; clear eK; clear dJ; clear eL; clear fM; clear jU; clear eI
 intro m_ qA aF ⟨k0, nw, hm208, jY, dL, eM, eN, dM, dN, dO, eO, cN, i217, i218, hnw, i219, i220⟩
 have := dL.size; have := dM.lt; have := dN.lt; have := dO.lt; have := eO.lt
 refine sqs ?_
 refine At.rk jY 1 [(32, .bool (decide ((k0 : Int) < (((lsD (inT g s) 256 : List Int).length : Nat) : Int))))] .n (fun qB fN => ?_)
 clear jY
 refine At.dn ?_
 refine wp_seq ?_
 refine cond_S fN (t := decide ((k0 : Int) < (((lsD (inT g s) 256 : List Int).length : Nat) : Int))) rfl (fun hC => ?_) (fun hC => ?_)
 ·have qC := of_decide_eq_true hC
  refine wp_skip ?_
  refine t_n ?_
  refine wp_seq ?_
  refine wp_block ?_
  refine sqs ?_
  obtain ⟨qD, mY, qE, mZ, qF⟩ := cN.get (k0) ω ω (sz := 1) rfl
  refine At.rk fN 5 [(10, .int .i64 (gI (lsD (inT g s) 256 : List Int) k0)), (9, .int .i64 (k0))] (.a k0 ((lsD (inT g s) 256 : List Int).length) mY <| .l mZ <| .n) (fun qG jZ => ?_)
  clear fN
  refine At.dn ?_
  have hir := ls_rng (l := inT g s) (k := k0) ω ω; have hi1 := hir.1; have hi2 := hir.2.1
  refine At.start ?_
  refine At.rk jZ 3 [(38, .pointer (some ((⟨cS.heap.size, 0, none⟩ : Addr).add ((gI (lsD (inT g s) 256 : List Int) k0 : Int).toNat * 1)))), (37, .int .i64 (k0))] (.b (gI (lsD (inT g s) 256 : List Int) k0) 256 <| .n) (fun qH kA => ?_)
  clear jZ
  refine At.act kA (storeArrM (f := iV) (t := 3) (b := cS.heap.size) (i := gI (lsD (inT g s) 256 : List Int) k0) (x := k0) (v := .int .i64 (k0)) κ rfl rfl κ eO ω ω) ?_
  rintro d_ v_ qI ⟨rfl, dE, nA⟩
  refine ⟨_, rfl, fun qJ kB => ?_⟩
  clear kA; have qK : ((nw).set (gI (lsD (inT g s) 256 : List Int) k0 : Int).toNat k0).length = (nw : List Int).length := List.length_set; have := dE.size; replace dL := dL.gr dE (fun k h => by injection h; omega); replace eM := eM.gb dE ω; replace eN := eN.gb dE ω; replace dM := dM.gb dE ω; replace dN := dN.gb dE ω; replace dO := dO.gb dE ω
  replace cN := cN.gr dE (fun k hk e => by have := Sx_base hk; injection e; omega); clear eO dE
  refine At.done rfl ?_
  refine b_n ?_
  refine t_n ?_
  refine At.start ?_
  refine At.rk kB 2 [(31, .int .i64 (k0 + 1))] (.w 39 (k0 + 1) <| .n) (fun qL nB => ?_)
  clear kB
  refine At.dn ?_
  exact ⟨_, ω, (k0 + 1), (nw).set (gI (lsD (inT g s) 256 : List Int) k0 : Int).toNat k0, rfl, nB.sb, dL, eM, eN, dM, dN, dO, nA, cN, ω, ω, (now_next hnw ω ω), (by rw [List.length_set]; assumption), ω⟩
 have qM := of_decide_eq_false hC
 refine wp_exit ?_
 refine t_e ?_
 clear hm208
 refine t_e ?_
 refine b_e ?_
 refine t_n ?_
 refine sqs ?_
 refine At.bx fN 11 [.slice none 0 0, .slice none 0 0, .slice none 0 0] 25 (fun aC cV hD qN kC => ?_)
 clear fN; have := cV.size; replace dL := dL.gn cV; replace eM := eM.gn cV; replace eN := eN.gn cV; replace dM := dM.gn cV; replace dN := dN.gn cV; replace dO := dO.gn cV; replace eO := eO.gn cV; replace cN := cN.grN cV; have := hD.lt; clear cV
 refine At.dn ?_
 refine wp_seq ?_
 refine sqs ?_
 refine At.rk kC 3 [(42, .int .i64 (0)), (41, .int .i64 ((((lsD (inT g s) 256 : List Int).length : Nat) : Int))), (40, .slice aA ((lsD (inT g s) 256 : List Int).length) aJ)] .n (fun qO kD => ?_)
 clear kC
 refine At.dn ?_
 refine wp_block ?_
 have fF : OwnR aC (Sx (aC.heap.size) [obk (aA)]) none 0 3 ([] : List Int) := OwnR.nil
 replace cN : OwnR aC (Sx (bC.heap.size) [obk none, some (aF.heap.size)]) aA aJ 3 ((lsD (inT g s) 256 : List Int) : List Int) := cN.imp (fun g _ hs => ⟨by simp [obk], hs⟩)
 have gD : OwnR aC (Sx (aC.heap.size) [obk (aA), obk (none)]) none 0 3 ([] : List Int) := OwnR.nil
 replace cN : OwnR aC (Sx (bC.heap.size) [obk none, obk none, some (aF.heap.size)]) aA aJ 3 ((lsD (inT g s) 256 : List Int) : List Int) := cN.imp (fun g _ hs => ⟨by simp [obk], hs⟩)
 replace fF : OwnR aC (Sx (aC.heap.size) [obk none, obk (aA)]) none 0 3 ([] : List Int) := fF.imp (fun g _ hs => ⟨by simp [obk], hs⟩); have kE : OwnLL aC (aC.heap.size) [obk (aA), obk (none), obk (none)] none 0 22 3 ([] : List (List Int)) := OwnLL.nil
 replace cN : OwnR aC (Sx (bC.heap.size) [obk none, obk none, obk none, some (aF.heap.size)]) aA aJ 3 ((lsD (inT g s) 256 : List Int) : List Int) := cN.imp (fun g _ hs => ⟨by simp [obk], hs⟩)
 replace fF : OwnR aC (Sx (aC.heap.size) [obk none, obk none, obk (aA)]) none 0 3 ([] : List Int) := fF.imp (fun g _ hs => ⟨by simp [obk], hs⟩); replace gD : OwnR aC (Sx (aC.heap.size) [obk none, obk (aA), obk (none)]) none 0 3 ([] : List Int) := gD.imp (fun g _ hs => ⟨by simp [obk], hs⟩)
 refine loop_g (fun (m_ : Nat) a_ w_ => ∃ (k : Int) (xo : List Int) (aI : Option Addr) (bD : Nat) (xp : List Int) (aD : Option Addr) (aY : Nat) (xm : List (List Int)) (aB : Option Addr) (aS : Nat), m_ = (((lsD (inT g s) 256).length : Int) - k).toNat ∧ (Frm 102 a_ [(42, .int .i64 (k)), (41, .int .i64 ((((lsD (inT g s) 256 : List Int).length : Nat) : Int))), (40, .slice aA ((lsD (inT g s) 256 : List Int).length) aJ), (11, pt aF.heap.size 0), (8, .slice aA ((lsD (inT g s) 256 : List Int).length) aJ), (7, pt cS.heap.size 0), (4, pt aW.heap.size 0), (3, pt w1.heap.size 0), (2, pt w.heap.size 0)]) ∧ (Ext w w_) ∧ (RdG w_ 0 w.heap.size Ag0 Ag1 Ag2 cg0 cg1 cg2 g) ∧ (RdT w_ 0 w.heap.size) ∧ (Bx w_ (w.heap.size) [.slice Ag0 g.ow.length cg0, .slice Ag1 g.pr.length cg1, .slice Ag2 g.mv.length cg2] 25) ∧ (Bx w_ (w1.heap.size) (((inS g s : List Int) : List Int).map wV) 47) ∧ (Bx w_ (aW.heap.size) [.slice none 0 0, .slice none 0 0, .slice none 0 0] 25) ∧ (Bx w_ (cS.heap.size) ((nw : List Int).map iV) 61) ∧ (OwnR w_ (Sx (bC.heap.size) [obk (aB), obk (aD), obk (aI), some (aF.heap.size)]) aA aJ 3 ((lsD (inT g s) 256 : List Int) : List Int)) ∧ (Bx w_ (aF.heap.size) [.slice aI xo.length bD, .slice aD xp.length aY, .slice aB xm.length aS] 25) ∧ (OwnR w_ (Sx (aC.heap.size) [obk (aB), obk (aD), obk (aA)]) aI bD 3 (xo : List Int)) ∧ (OwnR w_ (Sx (aC.heap.size) [obk (aB), obk (aA), obk (aI)]) aD aY 3 (xp : List Int)) ∧ (OwnLL w_ (aC.heap.size) [obk (aA), obk (aI), obk (aD)] aB aS 22 3 (xm : List (List Int))) ∧ (0 ≤ k) ∧ (k ≤ ((lsD (inT g s) 256).length : Int)) ∧ (xo = ((lsD (inT g s) 256).take k.toNat).map (gI g.ow)) ∧ (xp = ((lsD (inT g s) 256).take k.toNat).map (gI g.pr)) ∧ (xm = ((lsD (inT g s) 256).take k.toNat).map (subR g (inT g s))) ∧ (GoneT g (inT g s) k) ∧ (bC.heap.size ≤ w_.heap.size) ∧ (aC.heap.size ≤ w_.heap.size)) _ ⟨0, ([] : List Int), none, 0, ([] : List Int), none, 0, ([] : List (List Int)), none, 0, rfl, kD.sb, dL, eM, eN, dM, dN, dO, eO, cN, (hD.as (by first | rfl | (simp only [List.cons.injEq, Value.slice.injEq, true_and, and_true]; omega))), fF, gD, kE, ω, ω, rfl, rfl, rfl, (fun j a b => by omega), ω, ω⟩ ?_
 clear kD; clear eM; clear eN; clear dM; clear dN; clear dO; clear eO; clear cN; clear hD; clear fF; clear gD; clear kE; clear dL
 intro m_ qP bE ⟨k, xo, aI, bD, xp, aD, aY, xm, aB, aS, hm289, kF, fG, fO, gE, fP, gF, fQ, gG, dP, dF, eP, eQ, gH, i302, i303, hxo, hxp, hxm, hgo, i304, i305⟩
 have := fG.size; have := fP.lt; have := gF.lt; have := fQ.lt; have := gG.lt; have := dF.lt
 refine sqs ?_
 refine At.rk kF 1 [(43, .bool (decide ((k : Int) < (((lsD (inT g s) 256 : List Int).length : Nat) : Int))))] .n (fun qQ fR => ?_)
 clear kF
 refine At.dn ?_
 refine wp_seq ?_
 refine cond_S fR (t := decide ((k : Int) < (((lsD (inT g s) 256 : List Int).length : Nat) : Int))) rfl (fun hE => ?_) (fun hE => ?_)
 ·have qR := of_decide_eq_true hE
  refine wp_skip ?_
  refine t_n ?_
  refine wp_seq ?_
  refine wp_block ?_
  refine sqs ?_
  obtain ⟨qS, nC, qT, nD, qU⟩ := dP.get (k) ω ω (sz := 1) rfl
  refine At.rk fR 3 [(13, .int .i64 (gI (lsD (inT g s) 256 : List Int) k))] (.a k ((lsD (inT g s) 256 : List Int).length) nC <| .l nD <| .n) (fun qV kG => ?_)
  clear fR
  refine At.dn ?_
  refine wp_seq ?_
  have hir := ls_rng (l := inT g s) (k := k) ω ω; have hi1 := hir.1; have hi2 := inT_lt _ hi1 hir.2.1 hir.2.2; have hrl := row_len hG hi1 hi2
  refine At.start ?_
  refine At.rk kG 1 [(14, .slice none 0 0)] .n (fun qW kH => ?_)
  clear kG
  refine At.dn ?_
  refine wp_seq ?_
  refine sqs ?_
  obtain ⟨qX, hF, kI, nE, _, _, nF, qY, hH⟩ := RdII.get fO.mv (gI (lsD (inT g s) 256 : List Int) k) ω ω
  have qZ := hH.len
  refine At.rk kH 7 [(52, .int .i64 (0)), (51, .int .i64 ((((gL g.mv (gI (lsD (inT g s) 256 : List Int) k)).length : Nat) : Int))), (50, .slice hF ((gL g.mv (gI (lsD (inT g s) 256 : List Int) k)).length) kI)] (.l (fP.cell (i := 2) rfl) <| .a (gI (lsD (inT g s) 256 : List Int) k) g.mv.length nE <| .l nF <| .n) (fun rA kJ => ?_)
  clear kH
  refine At.dn ?_
  refine wp_block ?_
  have kK : OwnR bE (Sx (bE.heap.size) [obk (aA), obk (aI), obk (aD), obk (aB)]) none 0 3 ([] : List Int) := OwnR.nil
  replace dP : OwnR bE (Sx (bC.heap.size) [obk none, obk (aB), obk (aD), obk (aI), some (aF.heap.size)]) aA aJ 3 ((lsD (inT g s) 256 : List Int) : List Int) := dP.imp (fun g _ hs => ⟨by simp [obk], hs⟩)
  replace eP : OwnR bE (Sx (aC.heap.size) [obk none, obk (aB), obk (aD), obk (aA)]) aI bD 3 (xo : List Int) := eP.imp (fun g _ hs => ⟨by simp [obk], hs⟩); replace eQ : OwnR bE (Sx (aC.heap.size) [obk none, obk (aB), obk (aA), obk (aI)]) aD aY 3 (xp : List Int) := eQ.imp (fun g _ hs => ⟨by simp [obk], hs⟩)
  have kL : OwnLL bE (aC.heap.size) [obk none, obk (aA), obk (aI), obk (aD)] aB aS 22 3 (xm : List (List Int)) := gH.imp (fun g _ hs => ⟨by simp [obk], hs⟩); clear gH; have kM := kJ.as 14 (.slice none 0 0) (.slice none (([] : List Int).length) 0) rfl (slice_len (by first | rfl | omega | (simp; done) | (simp; omega))); clear kJ
  refine loop_g (fun (m_ : Nat) a_ w_ => ∃ (q : Int) (xl : List Int) (aE : Option Addr) (bF : Nat), m_ = (((gL g.mv (gI (lsD (inT g s) 256) k)).length : Int) - q).toNat ∧ (Frm 102 a_ [(14, .slice aE xl.length bF), (52, .int .i64 (q)), (51, .int .i64 ((((gL g.mv (gI (lsD (inT g s) 256 : List Int) k)).length : Nat) : Int))), (50, .slice hF ((gL g.mv (gI (lsD (inT g s) 256 : List Int) k)).length) kI), (13, .int .i64 (gI (lsD (inT g s) 256 : List Int) k)), (42, .int .i64 (k)), (41, .int .i64 ((((lsD (inT g s) 256 : List Int).length : Nat) : Int))), (40, .slice aA ((lsD (inT g s) 256 : List Int).length) aJ), (11, pt aF.heap.size 0), (8, .slice aA ((lsD (inT g s) 256 : List Int).length) aJ), (7, pt cS.heap.size 0), (4, pt aW.heap.size 0), (3, pt w1.heap.size 0), (2, pt w.heap.size 0)]) ∧ (Ext w w_) ∧ (RdG w_ 0 w.heap.size Ag0 Ag1 Ag2 cg0 cg1 cg2 g) ∧ (RdT w_ 0 w.heap.size) ∧ (Bx w_ (w.heap.size) [.slice Ag0 g.ow.length cg0, .slice Ag1 g.pr.length cg1, .slice Ag2 g.mv.length cg2] 25) ∧ (Bx w_ (w1.heap.size) (((inS g s : List Int) : List Int).map wV) 47) ∧ (Bx w_ (aW.heap.size) [.slice none 0 0, .slice none 0 0, .slice none 0 0] 25) ∧ (Bx w_ (cS.heap.size) ((nw : List Int).map iV) 61) ∧ (OwnR w_ (Sx (bC.heap.size) [obk (aE), obk (aB), obk (aD), obk (aI), some (aF.heap.size)]) aA aJ 3 ((lsD (inT g s) 256 : List Int) : List Int)) ∧ (Bx w_ (aF.heap.size) [.slice aI xo.length bD, .slice aD xp.length aY, .slice aB xm.length aS] 25) ∧ (OwnR w_ (Sx (aC.heap.size) [obk (aE), obk (aB), obk (aD), obk (aA)]) aI bD 3 (xo : List Int)) ∧ (OwnR w_ (Sx (aC.heap.size) [obk (aE), obk (aB), obk (aA), obk (aI)]) aD aY 3 (xp : List Int)) ∧ (OwnLL w_ (aC.heap.size) [obk (aE), obk (aA), obk (aI), obk (aD)] aB aS 22 3 (xm : List (List Int))) ∧ (RdI w_ 0 w.heap.size hF (gL g.mv (gI (lsD (inT g s) 256 : List Int) k))) ∧ (OwnR w_ (Sx (bE.heap.size) [obk (aA), obk (aI), obk (aD), obk (aB)]) aE bF 3 (xl : List Int)) ∧ (0 ≤ q) ∧ (q ≤ ((gL g.mv (gI (lsD (inT g s) 256) k)).length : Int)) ∧ (xl = (((gL g.mv (gI (lsD (inT g s) 256) k)).take q.toNat).filter (fun m => gB (inT g s) m)).map (posI (inT g s))) ∧ (bC.heap.size ≤ w_.heap.size) ∧ (aC.heap.size ≤ w_.heap.size) ∧ (bE.heap.size ≤ w_.heap.size)) _ ⟨0, ([] : List Int), none, 0, rfl, kM.sb, fG, fO, gE, fP, gF, fQ, gG, dP, dF, eP, eQ, kL, hH, kK, ω, (Int.natCast_nonneg _), row_0, ω, ω, ω⟩ ?_
  clear kM; clear fO; clear gE; clear fP; clear gF; clear fQ; clear gG; clear dP; clear dF; clear eP; clear eQ; clear kL; clear hH; clear kK; clear fG
  intro m_ rB kN ⟨q, xl, aE, bF, hm343, kO, aO, aT, aX, aP, aQ, aU, aR, aM, aV, aG, aN, eR, cW, aH, i358, i359, hxl, i360, i361, i362⟩
  have := aO.size; have := aP.lt; have := aQ.lt; have := aU.lt; have := aR.lt; have := aV.lt
  refine sqs ?_
  refine At.rk kO 1 [(53, .bool (decide ((q : Int) < (((gL g.mv (gI (lsD (inT g s) 256 : List Int) k)).length : Nat) : Int))))] .n (fun rC fS => ?_)
  clear kO
  refine At.dn ?_
  refine wp_seq ?_
  refine cond_S fS (t := decide ((q : Int) < (((gL g.mv (gI (lsD (inT g s) 256 : List Int) k)).length : Nat) : Int))) rfl (fun hI => ?_) (fun hI => ?_)
  ·have rD := of_decide_eq_true hI
   refine wp_skip ?_
   refine t_n ?_
   refine wp_seq ?_
   refine wp_block ?_
   refine sqs ?_
   obtain ⟨rE, nG, _, _, nH⟩ := RdI.get cW (q) ω ω
   refine At.rk fS 3 [(16, .int .i64 (gI (gL g.mv (gI (lsD (inT g s) 256 : List Int) k)) (q)))] (.a q ((gL g.mv (gI (lsD (inT g s) 256 : List Int) k)).length) nG <| .l nH <| .n) (fun rF kP => ?_)
   clear fS
   refine At.dn ?_
   refine wp_seq ?_
   have hmk := hG.mv (gI (lsD (inT g s) 256) k) hi1 hi2 q ω ω; have hxll := row_lenS hxl ω
   refine At.start ?_
   refine At.rk kP 2 [(57, .int .i64 (gI (gL g.mv (gI (lsD (inT g s) 256 : List Int) k)) (q))), (56, .agg (((inS g s : List Int) : List Int).map wV).toArray)] (.p (show (((inS g s : List Int) : List Int).map wV).length = 4 from ((List.length_map _).trans (okLen (inS_ok σ)))) <| .p aQ.whole <| .o (.cs (((inS g s : List Int) : List Int).map wV)) <| .n) (fun rG kQ => ?_)
   clear kP
   refine At.cl kQ (some 58) (has_any (s := (inS g s : List Int)) (n := gI (gL g.mv (gI (lsD (inT g s) 256 : List Int) k)) (q)) (inS_ok σ)) ?_
   rintro e_ eS ⟨rfl, he⟩
   refine ⟨_, rfl, _, rfl, fun rH fT => ?_⟩
   clear kQ; have bU := gr_ext he; have := bU.size; replace aO := aO.gn bU; replace aT := aT.gn bU; replace aX := aX.gn bU; replace aP := aP.gn bU; replace aQ := aQ.gn bU; replace aU := aU.gn bU; replace aR := aR.gn bU; replace aM := aM.gn bU; replace aV := aV.gn bU; replace aG := aG.gn bU; replace aN := aN.gn bU; have eT := eR.gn bU; clear eR; replace cW := cW.gn bU; replace aH := aH.gn bU
   clear bU he
   refine At.dn ?_
   refine cond_S fT (t := hasW (inS g s : List Int) (gI (gL g.mv (gI (lsD (inT g s) 256 : List Int) k)) (q))) rfl (fun nI => ?_) (fun nI => ?_)
   ·refine At.start ?_
    refine At.rk fT 4 [(62, .int .i64 (gI nw (gI (gL g.mv (gI (lsD (inT g s) 256 : List Int) k)) (q)))), (59, .slice aE xl.length bF)] (.b (gI (gL g.mv (gI (lsD (inT g s) 256 : List Int) k)) (q)) 256 <| .l (Bx.arrM (f := iV) (0 : Int) aR (gI (gL g.mv (gI (lsD (inT g s) 256 : List Int) k)) (q)) ω ω) <| .n) (fun rI kR => ?_)
    clear fT
    refine At.seq kR 1 [[]] [(63, .slice (some ⟨eS.heap.size, 0, none⟩) 1 1)] (eS.alloc (.cells #[.int .i64 (gI nw (gI (gL g.mv (gI (lsD (inT g s) 256 : List Int) k)) (q)))] 3 (0, 0))) [] κ trivial (fun rJ kS hJ kT => ?_)
    clear kR; have bV := gr_alloc hJ; have := bV.size; replace aO := aO.gn bV; replace aT := aT.gn bV; replace aX := aX.gn bV; replace aP := aP.gn bV; replace aQ := aQ.gn bV; replace aU := aU.gn bV; replace aR := aR.gn bV; replace aM := aM.grN bV; replace aV := aV.gn bV; replace aG := aG.grN bV; replace aN := aN.grN bV; replace eT := eT.grN bV; replace cW := cW.gn bV; replace aH := aH.grN bV
    have hK : Bx kS (eS.heap.size) [.int .i64 (gI nw (gI (gL g.mv (gI (lsD (inT g s) 256 : List Int) k)) (q)))] 3 := Bx.new hJ; have := hK.lt; clear bV hJ
    have nJ : (xl ++ ([gI nw (gI (gL g.mv (gI (lsD (inT g s) 256 : List Int) k)) (q))])).length = (xl).length + ([gI nw (gI (gL g.mv (gI (lsD (inT g s) 256 : List Int) k)) (q))] : List Int).length := List.length_append
    simp only [List.length_cons, List.length_nil] at nJ
    refine At.act kT (appendR (α := Int) (t := 22) (d := 64) (n := xl.length) (m := 1) (cc := 1) (xs := xl) (ys := [gI nw (gI (gL g.mv (gI (lsD (inT g s) 256 : List Int) k)) (q))]) (bytes := 8) (by first | rfl | omega | (simp; done) | (simp; omega)) (by first | rfl | omega | (simp; done) | (simp; omega)) κ rfl κ aH (Bx.srcR (l := ([gI nw (gI (gL g.mv (gI (lsD (inT g s) 256 : List Int) k)) (q))] : List Int)) hK rfl) (by simp only [List.length_cons, List.length_nil]; omega) (by simp only [List.length_cons, List.length_nil]; omega)) ?_
    rintro d_ v_ gJ ⟨rfl, dQ, gK, dR⟩
    obtain rfl := dR.val
    have cD := dR.gr
    refine ⟨_, rfl, fun rK kU => ?_⟩
    clear kT; clear hK
    have nK := dR.own (Sx (bE.heap.size) [obk (aA), obk (aI), obk (aD), obk (aB)]) (fun g _ hs => ⟨hs.2.1, hs.2.2.1, hs.2.2.2.1, hs.2.2.2.2.1, hs.2.2.2.2.2⟩) ⟨aM.ne_new, aG.ne_new, aN.ne_new, eT.ne_new, (show bE.heap.size ≤ kS.heap.size by omega)⟩
    have := cD.size; replace aO := aO.gr cD (fun k hk => by have := aH.ge k hk; omega); replace aT := aT.gr cD (fun k hk => by have := aH.ge k hk; omega); replace aX := aX.gr cD (fun k hk => by have := aH.ge k hk; omega); replace aP := aP.gr cD (fun e => by have := aH.ge _ e; omega); replace aQ := aQ.gr cD (fun e => by have := aH.ge _ e; omega)
    replace aU := aU.gr cD (fun e => by have := aH.ge _ e; omega); replace aR := aR.gr cD (fun e => by have := aH.ge _ e; omega)
    replace aM : OwnR gJ (Sx (bC.heap.size) [some (eS.heap.size), obk (dQ), obk (aB), obk (aD), obk (aI), some (aF.heap.size)]) aA aJ 3 ((lsD (inT g s) 256 : List Int) : List Int) := aM.grA cD (fun k hk => hk.2.1) (fun k hk hs => ⟨hs.1, own_repl dR.at_ hs.2.1 hk, hs.2.2.1, hs.2.2.2.1, hs.2.2.2.2.1, hs.2.2.2.2.2.1, hs.2.2.2.2.2.2⟩)
    replace aV := aV.gr cD (fun e => by have := aH.ge _ e; omega)
    replace aG : OwnR gJ (Sx (aC.heap.size) [some (eS.heap.size), obk (dQ), obk (aB), obk (aD), obk (aA)]) aI bD 3 (xo : List Int) := aG.grA cD (fun k hk => hk.2.1) (fun k hk hs => ⟨hs.1, own_repl dR.at_ hs.2.1 hk, hs.2.2.1, hs.2.2.2.1, hs.2.2.2.2.1, hs.2.2.2.2.2⟩)
    replace aN : OwnR gJ (Sx (aC.heap.size) [some (eS.heap.size), obk (dQ), obk (aB), obk (aA), obk (aI)]) aD aY 3 (xp : List Int) := aN.grA cD (fun k hk => hk.2.1) (fun k hk hs => ⟨hs.1, own_repl dR.at_ hs.2.1 hk, hs.2.2.1, hs.2.2.2.1, hs.2.2.2.2.1, hs.2.2.2.2.2⟩)
    replace eT : OwnLL gJ (aC.heap.size) [some (eS.heap.size), obk (dQ), obk (aA), obk (aI), obk (aD)] aB aS 22 3 (xm : List (List Int)) := eT.grA cD (fun k hk => hk.2.1) (fun k hk hs => ⟨hs.1, own_repl dR.at_ hs.2.1 hk, hs.2.2.1, hs.2.2.2.1, hs.2.2.2.2.1, hs.2.2.2.2.2⟩)
    replace cW := cW.gr cD (fun k hk => by have := aH.ge k hk; omega); clear aH cD dR
    refine At.rk kU 1 [(14, .slice dQ ((xl ++ ([gI nw (gI (gL g.mv (gI (lsD (inT g s) 256 : List Int) k)) (q))])).length) gK)] .n (fun rL kV => ?_)
    clear kU
    refine At.done rfl ?_
    refine b_n ?_
    refine t_n ?_
    refine At.start ?_
    refine At.rk kV 2 [(52, .int .i64 (q + 1))] (.w 65 (q + 1) <| .n) (fun rM kW => ?_)
    clear kV
    refine At.dn ?_
    have nL := kW.as 14 (.slice dQ ((xl ++ ([gI nw (gI (gL g.mv (gI (lsD (inT g s) 256 : List Int) k)) (q))])).length) gK) (.slice dQ ((xl ++ ([gI nw (gI (gL g.mv (gI (lsD (inT g s) 256 : List Int) k)) (q))]) : List Int).length) gK) rfl (slice_len (by first | rfl | omega | (simp; done) | (simp; omega)))
    clear kW
    exact ⟨_, ω, (q + 1), (xl ++ ([gI nw (gI (gL g.mv (gI (lsD (inT g s) 256 : List Int) k)) (q))]) : List Int), dQ, gK, rfl, nL.sb, aO, aT, aX, aP, aQ, aU, aR, (aM.imp (fun g _ hs => ⟨hs.2.1, hs.2.2.1, hs.2.2.2.1, hs.2.2.2.2.1, hs.2.2.2.2.2.1, hs.2.2.2.2.2.2⟩)), aV, (aG.imp (fun g _ hs => ⟨hs.2.1, hs.2.2.1, hs.2.2.2.1, hs.2.2.2.2.1, hs.2.2.2.2.2⟩)), (aN.imp (fun g _ hs => ⟨hs.2.1, hs.2.2.1, hs.2.2.2.1, hs.2.2.2.2.1, hs.2.2.2.2.2⟩)), (eT.imp (fun g _ hs => ⟨hs.2.1, hs.2.2.1, hs.2.2.2.1, hs.2.2.2.2.1, hs.2.2.2.2.2⟩)), cW, nK, ω, ω, (row_push hxl ω ω (by rw [← has_inT ω ω]; assumption) (now_pos hnw ω ω ω (by rw [← has_inT ω ω]; assumption))), ω, ω, ω⟩
   refine wp_skip ?_
   refine b_n ?_
   refine t_n ?_
   refine At.start ?_
   refine At.rk fT 2 [(52, .int .i64 (q + 1))] (.w 65 (q + 1) <| .n) (fun rN kX => ?_)
   clear fT
   refine At.dn ?_
   have nM := kX.as 14 (.slice aE xl.length bF) (.slice aE ((xl : List Int).length) bF) rfl (slice_len (by first | rfl | omega | (simp; done) | (simp; omega))); clear kX
   exact ⟨_, ω, (q + 1), (xl : List Int), aE, bF, rfl, nM.sb, aO, aT, aX, aP, aQ, aU, aR, aM, aV, aG, aN, eT, cW, aH, ω, ω, (row_skip hxl ω ω (by rw [← has_inT ω ω]; assumption)), ω, ω, ω⟩
  have rO := of_decide_eq_false hI
  refine wp_exit ?_
  refine t_e ?_
  clear hm343
  refine t_e ?_
  refine b_e ?_
  refine t_n ?_
  clear cW
  refine wp_seq ?_
  refine wp_seq ?_
  have hxe := row_end hxl ω; have hxll := row_lenS hxl ω
  refine At.start ?_
  refine At.rk fS 3 [(68, .bool ((((xl.length : Nat) : Int) : Int) == 0))] .n (fun rP fH => ?_)
  clear fS
  refine At.dn ?_
  refine cond_S fH (t := (((xl.length : Nat) : Int) : Int) == 0) rfl (fun hL => ?_) (fun hL => ?_)
  ·have rQ := eq_of_beq hL
   refine wp_seq ?_
   have hbad : subAll g (inT g s) = false := gone_bad (k := k) ω ω (by rw [← hxe]; exact List.length_eq_zero_iff.1 ω)
   refine At.start ?_
   refine At.rk fH 1 [(69, .agg #[.slice none 0 0, .slice none 0 0, .slice none 0 0])] .n (fun rR kY => ?_)
   clear fH
   refine At.store kY (t := 25) (b := aW.heap.size) (off := 0) (v := .agg #[.slice none 0 0, .slice none 0 0, .slice none 0 0]) κ aU κ (fun rS gM cO fU kZ => ?_)
   clear kY; replace fU : Bx gM (aW.heap.size) [.slice none 0 0, .slice none 0 0, .slice none 0 0] 25 := fU; have := cO.size; replace aO := aO.gr cO (fun k h => by injection h; omega); replace aT := aT.gb cO ω; replace aX := aX.gb cO ω; replace aP := aP.gb cO ω; replace aQ := aQ.gb cO ω; replace aR := aR.gb cO ω; replace aM := aM.gr cO (fun k hk e => by have := Sx_base hk; injection e; omega)
   replace aV := aV.gb cO ω; replace aG := aG.gr cO (fun k hk e => by have := Sx_base hk; injection e; omega); replace aN := aN.gr cO (fun k hk e => by have := Sx_base hk; injection e; omega); have rU := eR.gr cO (fun k hk e => by have := Sx_base hk; injection e; omega); clear eR; replace aH := aH.gr cO (fun k hk e => by have := Sx_base hk; injection e; omega); clear aU cO
   refine At.rk kZ 2 [(6, .bool false), (5, .slice none 0 0)] .n (fun rV nN => ?_)
   clear kZ
   refine At.dn ?_
   clear aH
   refine wp_ret ?_
   refine t_r ?_
   refine b_r ?_
   refine t_r ?_
   refine t_r ?_
   refine b_r ?_
   refine t_r ?_
   refine ret_ nN [[.slice none 0 0, .slice none 0 0, .slice none 0 0]] [.agg #[.slice none 0 0, .slice none 0 0, .slice none 0 0], .slice none 0 0, .bool false] [(gM.cell? ⟨aW.heap.size, 0, none⟩ = some (.slice none 0 0)), (gM.cell? ⟨aW.heap.size, 1, none⟩ = some (.slice none 0 0)), (gM.cell? ⟨aW.heap.size, 2, none⟩ = some (.slice none 0 0))] κ ⟨(fU.cell (i := 0) rfl), (fU.cell (i := 1) rfl), (fU.cell (i := 2) rfl), trivial⟩ ?_
   obtain ⟨e1_, e2_, e3_⟩ := sub_no (g := g) (I := inT g s) (by first | exact .inl σ | exact .inr hbad)
   rw [e1_, e2_, e3_]
   exact ⟨none, 0, none, 0, none, 0, none, 0, rfl, aO, OwnR.nil, OwnR.nil, OwnLL.nil, OwnR.nil⟩
  have rW := ne_of_beq_false hL
  refine wp_skip ?_
  refine t_n ?_
  have hxol := congrArg List.length hxo; have hxpl := congrArg List.length hxp; have hxml := congrArg List.length hxm
  rw [List.length_map, List.length_take] at hxol hxpl hxml
  have hne : xl ≠ [] := fun h_ => absurd (show (xl.length : Int) = 0 by rw [h_]; rfl) ω
  refine wp_seq (cut (fun a_ w_ => ∃ (aK : Option Addr) (cT : Nat), (Frm 102 a_ [(14, .slice aE xl.length bF), (13, .int .i64 (gI (lsD (inT g s) 256 : List Int) k)), (42, .int .i64 (k)), (41, .int .i64 ((((lsD (inT g s) 256 : List Int).length : Nat) : Int))), (40, .slice aA ((lsD (inT g s) 256 : List Int).length) aJ), (11, pt aF.heap.size 0), (8, .slice aA ((lsD (inT g s) 256 : List Int).length) aJ), (7, pt cS.heap.size 0), (4, pt aW.heap.size 0), (3, pt w1.heap.size 0), (2, pt w.heap.size 0)]) ∧ (Ext w w_) ∧ (RdG w_ 0 w.heap.size Ag0 Ag1 Ag2 cg0 cg1 cg2 g) ∧ (RdT w_ 0 w.heap.size) ∧ (Bx w_ (w.heap.size) [.slice Ag0 g.ow.length cg0, .slice Ag1 g.pr.length cg1, .slice Ag2 g.mv.length cg2] 25) ∧ (Bx w_ (w1.heap.size) (((inS g s : List Int) : List Int).map wV) 47) ∧ (Bx w_ (aW.heap.size) [.slice none 0 0, .slice none 0 0, .slice none 0 0] 25) ∧ (Bx w_ (cS.heap.size) ((nw : List Int).map iV) 61) ∧ (OwnR w_ (Sx (bC.heap.size) [obk (aE), obk (aB), obk (aD), obk (aK), some (aF.heap.size)]) aA aJ 3 ((lsD (inT g s) 256 : List Int) : List Int)) ∧ (Bx w_ (aF.heap.size) [.slice (aK) ((xo ++ ([gI g.ow (gI (lsD (inT g s) 256 : List Int) k)])).length) (cT), .slice aD xp.length aY, .slice aB xm.length aS] 25) ∧ (OwnR w_ (Sx (aC.heap.size) [obk (aE), obk (aB), obk (aD), obk (aA)]) (aK) (cT) 3 (xo ++ ([gI g.ow (gI (lsD (inT g s) 256 : List Int) k)]) : List Int)) ∧ (OwnR w_ (Sx (aC.heap.size) [obk (aE), obk (aB), obk (aA), obk (aK)]) aD aY 3 (xp : List Int)) ∧ (OwnLL w_ (aC.heap.size) [obk (aE), obk (aA), obk (aK), obk (aD)] aB aS 22 3 (xm : List (List Int))) ∧ (OwnR w_ (Sx (bE.heap.size) [obk (aA), obk (aK), obk (aD), obk (aB)]) aE bF 3 (xl : List Int)) ∧ (kN.heap.size ≤ w_.heap.size)) ?_ ?_)
  ·obtain ⟨nO, nP, _, _, nQ⟩ := RdI.get aT.ow (gI (lsD (inT g s) 256 : List Int) k) ω ω
   obtain ⟨lA, eU⟩ : ∃ c : List (Addr × Value), c = [(⟨w.heap.size, 0, none⟩, (.slice Ag0 g.ow.length cg0)), ((nO.add ((gI (lsD (inT g s) 256 : List Int) k : Int).toNat * 1)), (.int .i64 (gI g.ow (gI (lsD (inT g s) 256 : List Int) k))))] := ⟨_, rfl⟩
   have lB : HoldsC lA kN := by rw [eU]; exact ⟨(aP.cell (i := 0) rfl), nQ, trivial⟩
   refine AtH.start lA 11 _ κ rfl rfl (fun bR lC => ?_)
   have bW := gr_drew lC; have gN := lB.gr bW; have := bW.size; replace aO := aO.gn bW; replace aT := aT.gn bW; replace aX := aX.gn bW; replace aP := aP.gn bW; replace aQ := aQ.gn bW; replace aU := aU.gn bW; replace aR := aR.gn bW; replace aM := aM.gn bW; replace aV := aV.gn bW; replace aG := aG.gn bW; replace aN := aN.gn bW; have bX := eR.gn bW; clear eR; replace aH := aH.gn bW; clear bW lC lB
   refine AtH.rk gN fH [0, 2, 3, 4, 5, 6] 5 [(76, .int .i64 (gI g.ow (gI (lsD (inT g s) 256 : List Int) k))), (70, pt aF.heap.size 0)] (.l (CsC_at eU 0 rfl) <| .a (gI (lsD (inT g s) 256 : List Int) k) g.ow.length nP <| .l (CsC_at eU 1 rfl) <| .n) (fun rX gO => ?_)
   clear fH
   refine AtH.all [1, 7] 4 κ (by simp) ⟨?_, ?_, trivial⟩
   ·refine OneH.seq gO [[.ld (.slice aI xo.length bD)]] [(71, .slice aI xo.length bD)] bR [(bR.cell? ⟨aF.heap.size, 0, none⟩ = some (.slice aI xo.length bD))] _ rfl κ κ ⟨(aV.cell (i := 0) rfl), trivial⟩ (fun rY nR nS lD => ?_)
    obtain rfl : bR = nR := nS.symm
    clear gO
    refine ⟨gN, ?_⟩
    refine AtH.all [7] 3 κ (by simp) ⟨?_, trivial⟩
    refine OneH.seq lD [] [(77, .slice (some ⟨bR.heap.size, 0, none⟩) 1 1)] (bR.alloc (.cells #[.int .i64 (gI g.ow (gI (lsD (inT g s) 256 : List Int) k))] 3 (0, 0))) [] _ rfl κ κ trivial (fun rZ lE hM lF => ?_)
    clear lD; have bY := gr_alloc hM; have lG := gN.gr bY
    refine ⟨lG, ?_⟩
    have := bY.size; replace aO := aO.gn bY; replace aT := aT.gn bY; replace aX := aX.gn bY; replace aP := aP.gn bY; replace aQ := aQ.gn bY; replace aU := aU.gn bY; replace aR := aR.gn bY; replace aM := aM.grN bY; replace aV := aV.gn bY; replace aG := aG.grN bY; replace aN := aN.grN bY; replace bX := bX.grN bY; replace aH := aH.grN bY
    have hN : Bx lE (bR.heap.size) [.int .i64 (gI g.ow (gI (lsD (inT g s) 256 : List Int) k))] 3 := Bx.new hM; have := hN.lt; clear bY hM
    refine AtH.all [8] 2 κ (by simp) ⟨?_, trivial⟩
    have nT : (xo ++ ([gI g.ow (gI (lsD (inT g s) 256 : List Int) k)])).length = (xo).length + ([gI g.ow (gI (lsD (inT g s) 256 : List Int) k)] : List Int).length := List.length_append
    simp only [List.length_cons, List.length_nil] at nT
    refine OneH.act lF _ rfl (appendR (α := Int) (t := 22) (d := 78) (n := xo.length) (m := 1) (cc := 1) (xs := xo) (ys := [gI g.ow (gI (lsD (inT g s) 256 : List Int) k)]) (bytes := 8) (by first | rfl | omega | (simp; done) | (simp; omega)) (by first | rfl | omega | (simp; done) | (simp; omega)) κ rfl κ aG (Bx.srcR (l := ([gI g.ow (gI (lsD (inT g s) 256 : List Int) k)] : List Int)) hN rfl) (by simp only [List.length_cons, List.length_nil]; omega) (by simp only [List.length_cons, List.length_nil]; omega)) ?_
    rintro d_ v_ gP ⟨rfl, eV, hO, dS⟩
    obtain rfl := dS.val
    have cE := dS.gr
    have hP := lG.grO cE (by rw [eU]; exact ⟨(fun e => by have := aG.ge _ e; simp only [add_block] at this; omega), (fun e => by have := aG.ge _ e; simp only [add_block] at this; omega), trivial⟩)
    refine ⟨_, rfl, fun sA lH => ⟨hP, ?_⟩⟩
    clear lF; clear hN
    have hQ := dS.own (Sx (aC.heap.size) [obk (aE), obk (aB), obk (aD), obk (aA)]) (fun g _ hs => ⟨hs.2.1, hs.2.2.1, hs.2.2.2.1, hs.2.2.2.2.1, hs.2.2.2.2.2⟩) ⟨aH.ne_new, bX.ne_new, aN.ne_new, aM.ne_new, (show aC.heap.size ≤ lE.heap.size by omega)⟩
    have := cE.size; replace aO := aO.gr cE (fun k hk => by have := aG.ge k hk; omega); replace aT := aT.gr cE (fun k hk => by have := aG.ge k hk; omega); replace aX := aX.gr cE (fun k hk => by have := aG.ge k hk; omega); replace aP := aP.gr cE (fun e => by have := aG.ge _ e; omega); replace aQ := aQ.gr cE (fun e => by have := aG.ge _ e; omega)
    replace aU := aU.gr cE (fun e => by have := aG.ge _ e; omega); replace aR := aR.gr cE (fun e => by have := aG.ge _ e; omega)
    replace aM : OwnR gP (Sx (bC.heap.size) [some (bR.heap.size), obk (aE), obk (aB), obk (aD), obk (eV), some (aF.heap.size)]) aA aJ 3 ((lsD (inT g s) 256 : List Int) : List Int) := aM.grA cE (fun k hk => hk.2.2.2.2.1) (fun k hk hs => ⟨hs.1, hs.2.1, hs.2.2.1, hs.2.2.2.1, own_repl dS.at_ hs.2.2.2.2.1 hk, hs.2.2.2.2.2.1, hs.2.2.2.2.2.2⟩)
    replace aV := aV.gr cE (fun e => by have := aG.ge _ e; omega)
    replace aN : OwnR gP (Sx (aC.heap.size) [some (bR.heap.size), obk (aE), obk (aB), obk (aA), obk (eV)]) aD aY 3 (xp : List Int) := aN.grA cE (fun k hk => hk.2.2.2.2.1) (fun k hk hs => ⟨hs.1, hs.2.1, hs.2.2.1, hs.2.2.2.1, own_repl dS.at_ hs.2.2.2.2.1 hk, hs.2.2.2.2.2⟩)
    replace bX : OwnLL gP (aC.heap.size) [some (bR.heap.size), obk (aE), obk (aA), obk (eV), obk (aD)] aB aS 22 3 (xm : List (List Int)) := bX.grA cE (fun k hk => hk.2.2.2.1) (fun k hk hs => ⟨hs.1, hs.2.1, hs.2.2.1, own_repl dS.at_ hs.2.2.2.1 hk, hs.2.2.2.2.1, hs.2.2.2.2.2⟩)
    replace aH : OwnR gP (Sx (bE.heap.size) [some (bR.heap.size), obk (aA), obk (eV), obk (aD), obk (aB)]) aE bF 3 (xl : List Int) := aH.grA cE (fun k hk => hk.2.2.1) (fun k hk hs => ⟨hs.1, hs.2.1, own_repl dS.at_ hs.2.2.1 hk, hs.2.2.2.1, hs.2.2.2.2.1, hs.2.2.2.2.2⟩)
    clear aG cE dS
    refine AtH.rk hP lH [9] 1 [(79, pt aF.heap.size 0)] .n (fun sB lI => ?_)
    clear lH
    refine AtH.all [10] 0 κ (by simp) ⟨?_, trivial⟩
    refine OneH.store lI (t := 22) (b := aF.heap.size) (off := 0) (v := .slice eV ((xo ++ ([gI g.ow (gI (lsD (inT g s) 256 : List Int) k)])).length) hO) _ rfl κ aV κ (fun sC nU cF hS nV => ?_)
    clear lI
    replace hS : Bx nU (aF.heap.size) [.slice eV ((xo ++ ([gI g.ow (gI (lsD (inT g s) 256 : List Int) k)])).length) hO, .slice aD xp.length aY, .slice aB xm.length aS] 25 := hS
    have lJ := hP.gr' cF (by rw [eU]; exact ⟨(by simp only [add_block]; omega), (by simp only [add_block]; omega), trivial⟩); have := cF.size; replace aO := aO.gr cF (fun k h => by injection h; omega); replace aT := aT.gb cF ω; replace aX := aX.gb cF ω; replace aP := aP.gb cF ω; replace aQ := aQ.gb cF ω; replace aU := aU.gb cF ω; replace aR := aR.gb cF ω
    replace aM := aM.gr cF (fun k hk => hk.2.2.2.2.2.1); replace hQ := hQ.gr cF (fun k hk e => by have := Sx_base hk; injection e; omega); replace aN := aN.gr cF (fun k hk e => by have := Sx_base hk; injection e; omega); replace bX := bX.gr cF (fun k hk e => by have := Sx_base hk; injection e; omega); replace aH := aH.gr cF (fun k hk e => by have := Sx_base hk; injection e; omega); clear aV cF
    refine ⟨lJ, ?_⟩
    refine AtH.done κ ?_
    clear lJ
    refine t_n ?_
    exact ⟨eV, hO, nV.sb, aO, aT, aX, aP, aQ, aU, aR, (aM.imp (fun g _ hs => ⟨hs.2.1, hs.2.2.1, hs.2.2.2.1, hs.2.2.2.2.1, hs.2.2.2.2.2.1, (by have := Sx_base hs; show bC.heap.size ≤ g; omega)⟩)), hS, hQ, (aN.imp (fun g _ hs => ⟨hs.2.1, hs.2.2.1, hs.2.2.2.1, hs.2.2.2.2.1, (by have := Sx_base hs; show aC.heap.size ≤ g; omega)⟩)), (bX.imp (fun g _ hs => ⟨hs.2.1, hs.2.2.1, hs.2.2.2.1, hs.2.2.2.2.1, (by have := Sx_base hs; show aC.heap.size ≤ g; omega)⟩)), (aH.imp (fun g _ hs => ⟨hs.2.1, hs.2.2.1, hs.2.2.2.1, hs.2.2.2.2.1, (by have := Sx_base hs; show bE.heap.size ≤ g; omega)⟩)), ω⟩
   refine OneH.seq gO [] [(77, .slice (some ⟨bR.heap.size, 0, none⟩) 1 1)] (bR.alloc (.cells #[.int .i64 (gI g.ow (gI (lsD (inT g s) 256 : List Int) k))] 3 (0, 0))) [] _ rfl κ κ trivial (fun sD fV hT lK => ?_)
   clear gO; have bZ := gr_alloc hT; have hU := gN.gr bZ
   refine ⟨hU, ?_⟩
   have := bZ.size; replace aO := aO.gn bZ; replace aT := aT.gn bZ; replace aX := aX.gn bZ; replace aP := aP.gn bZ; replace aQ := aQ.gn bZ; replace aU := aU.gn bZ; replace aR := aR.gn bZ; replace aM := aM.grN bZ; replace aV := aV.gn bZ; replace aG := aG.grN bZ; replace aN := aN.grN bZ; replace bX := bX.grN bZ; replace aH := aH.grN bZ
   have hV : Bx fV (bR.heap.size) [.int .i64 (gI g.ow (gI (lsD (inT g s) 256 : List Int) k))] 3 := Bx.new hT; have := hV.lt; clear bZ hT
   refine AtH.all [1] 3 κ (by simp) ⟨?_, trivial⟩
   refine OneH.seq lK [[.ld (.slice aI xo.length bD)]] [(71, .slice aI xo.length bD)] fV [(fV.cell? ⟨aF.heap.size, 0, none⟩ = some (.slice aI xo.length bD))] _ rfl κ κ ⟨(aV.cell (i := 0) rfl), trivial⟩ (fun sE nW nX lL => ?_)
   obtain rfl : fV = nW := nX.symm
   clear lK
   refine ⟨hU, ?_⟩
   refine AtH.all [8] 2 κ (by simp) ⟨?_, trivial⟩
   have nY : (xo ++ ([gI g.ow (gI (lsD (inT g s) 256 : List Int) k)])).length = (xo).length + ([gI g.ow (gI (lsD (inT g s) 256 : List Int) k)] : List Int).length := List.length_append
   simp only [List.length_cons, List.length_nil] at nY
   refine OneH.act lL _ rfl (appendR (α := Int) (t := 22) (d := 78) (n := xo.length) (m := 1) (cc := 1) (xs := xo) (ys := [gI g.ow (gI (lsD (inT g s) 256 : List Int) k)]) (bytes := 8) (by first | rfl | omega | (simp; done) | (simp; omega)) (by first | rfl | omega | (simp; done) | (simp; omega)) κ rfl κ aG (Bx.srcR (l := ([gI g.ow (gI (lsD (inT g s) 256 : List Int) k)] : List Int)) hV rfl) (by simp only [List.length_cons, List.length_nil]; omega) (by simp only [List.length_cons, List.length_nil]; omega)) ?_
   rintro d_ v_ gQ ⟨rfl, eW, hW, dT⟩
   obtain rfl := dT.val
   have cG := dT.gr
   have hX := hU.grO cG (by rw [eU]; exact ⟨(fun e => by have := aG.ge _ e; simp only [add_block] at this; omega), (fun e => by have := aG.ge _ e; simp only [add_block] at this; omega), trivial⟩)
   refine ⟨_, rfl, fun sF lM => ⟨hX, ?_⟩⟩
   clear lL; clear hV
   have hY := dT.own (Sx (aC.heap.size) [obk (aE), obk (aB), obk (aD), obk (aA)]) (fun g _ hs => ⟨hs.2.1, hs.2.2.1, hs.2.2.2.1, hs.2.2.2.2.1, hs.2.2.2.2.2⟩) ⟨aH.ne_new, bX.ne_new, aN.ne_new, aM.ne_new, (show aC.heap.size ≤ fV.heap.size by omega)⟩
   have := cG.size; replace aO := aO.gr cG (fun k hk => by have := aG.ge k hk; omega); replace aT := aT.gr cG (fun k hk => by have := aG.ge k hk; omega); replace aX := aX.gr cG (fun k hk => by have := aG.ge k hk; omega); replace aP := aP.gr cG (fun e => by have := aG.ge _ e; omega); replace aQ := aQ.gr cG (fun e => by have := aG.ge _ e; omega)
   replace aU := aU.gr cG (fun e => by have := aG.ge _ e; omega); replace aR := aR.gr cG (fun e => by have := aG.ge _ e; omega)
   replace aM : OwnR gQ (Sx (bC.heap.size) [some (bR.heap.size), obk (aE), obk (aB), obk (aD), obk (eW), some (aF.heap.size)]) aA aJ 3 ((lsD (inT g s) 256 : List Int) : List Int) := aM.grA cG (fun k hk => hk.2.2.2.2.1) (fun k hk hs => ⟨hs.1, hs.2.1, hs.2.2.1, hs.2.2.2.1, own_repl dT.at_ hs.2.2.2.2.1 hk, hs.2.2.2.2.2.1, hs.2.2.2.2.2.2⟩)
   replace aV := aV.gr cG (fun e => by have := aG.ge _ e; omega)
   replace aN : OwnR gQ (Sx (aC.heap.size) [some (bR.heap.size), obk (aE), obk (aB), obk (aA), obk (eW)]) aD aY 3 (xp : List Int) := aN.grA cG (fun k hk => hk.2.2.2.2.1) (fun k hk hs => ⟨hs.1, hs.2.1, hs.2.2.1, hs.2.2.2.1, own_repl dT.at_ hs.2.2.2.2.1 hk, hs.2.2.2.2.2⟩)
   replace bX : OwnLL gQ (aC.heap.size) [some (bR.heap.size), obk (aE), obk (aA), obk (eW), obk (aD)] aB aS 22 3 (xm : List (List Int)) := bX.grA cG (fun k hk => hk.2.2.2.1) (fun k hk hs => ⟨hs.1, hs.2.1, hs.2.2.1, own_repl dT.at_ hs.2.2.2.1 hk, hs.2.2.2.2.1, hs.2.2.2.2.2⟩)
   replace aH : OwnR gQ (Sx (bE.heap.size) [some (bR.heap.size), obk (aA), obk (eW), obk (aD), obk (aB)]) aE bF 3 (xl : List Int) := aH.grA cG (fun k hk => hk.2.2.1) (fun k hk hs => ⟨hs.1, hs.2.1, own_repl dT.at_ hs.2.2.1 hk, hs.2.2.2.1, hs.2.2.2.2.1, hs.2.2.2.2.2⟩)
   clear aG cG dT
   refine AtH.rk hX lM [9] 1 [(79, pt aF.heap.size 0)] .n (fun sG lN => ?_)
   clear lM
   refine AtH.all [10] 0 κ (by simp) ⟨?_, trivial⟩
   refine OneH.store lN (t := 22) (b := aF.heap.size) (off := 0) (v := .slice eW ((xo ++ ([gI g.ow (gI (lsD (inT g s) 256 : List Int) k)])).length) hW) _ rfl κ aV κ (fun sH nZ cH hZ oA => ?_)
   clear lN
   replace hZ : Bx nZ (aF.heap.size) [.slice eW ((xo ++ ([gI g.ow (gI (lsD (inT g s) 256 : List Int) k)])).length) hW, .slice aD xp.length aY, .slice aB xm.length aS] 25 := hZ
   have lO := hX.gr' cH (by rw [eU]; exact ⟨(by simp only [add_block]; omega), (by simp only [add_block]; omega), trivial⟩); have := cH.size; replace aO := aO.gr cH (fun k h => by injection h; omega); replace aT := aT.gb cH ω; replace aX := aX.gb cH ω; replace aP := aP.gb cH ω; replace aQ := aQ.gb cH ω; replace aU := aU.gb cH ω; replace aR := aR.gb cH ω
   replace aM := aM.gr cH (fun k hk => hk.2.2.2.2.2.1); replace hY := hY.gr cH (fun k hk e => by have := Sx_base hk; injection e; omega); replace aN := aN.gr cH (fun k hk e => by have := Sx_base hk; injection e; omega); replace bX := bX.gr cH (fun k hk e => by have := Sx_base hk; injection e; omega); replace aH := aH.gr cH (fun k hk e => by have := Sx_base hk; injection e; omega); clear aV cH
   refine ⟨lO, ?_⟩
   refine AtH.done κ ?_
   clear lO
   refine t_n ?_
   exact ⟨eW, hW, oA.sb, aO, aT, aX, aP, aQ, aU, aR, (aM.imp (fun g _ hs => ⟨hs.2.1, hs.2.2.1, hs.2.2.2.1, hs.2.2.2.2.1, hs.2.2.2.2.2.1, (by have := Sx_base hs; show bC.heap.size ≤ g; omega)⟩)), hZ, hY, (aN.imp (fun g _ hs => ⟨hs.2.1, hs.2.2.1, hs.2.2.2.1, hs.2.2.2.2.1, (by have := Sx_base hs; show aC.heap.size ≤ g; omega)⟩)), (bX.imp (fun g _ hs => ⟨hs.2.1, hs.2.2.1, hs.2.2.2.1, hs.2.2.2.2.1, (by have := Sx_base hs; show aC.heap.size ≤ g; omega)⟩)), (aH.imp (fun g _ hs => ⟨hs.2.1, hs.2.2.1, hs.2.2.2.1, hs.2.2.2.2.1, (by have := Sx_base hs; show bE.heap.size ≤ g; omega)⟩)), ω⟩
  clear aT; clear aX; clear aP; clear aQ; clear aU; clear aR; clear aM; clear aV; clear aG; clear aN; clear eR; clear aH; clear fH aO
  intro sI lP ⟨aK, cT, iA, bL, bM, bS, bG, bN, bO, bP, bH, bQ, bI, aL, bJ, bK, sJ⟩
  have := bL.size; have := bG.lt; have := bN.lt; have := bO.lt; have := bP.lt; have := bQ.lt
  refine wp_seq (cut (fun a_ w_ => ∃ (cP : Option Addr) (fI : Nat), (Frm 102 a_ [(14, .slice aE xl.length bF), (42, .int .i64 (k)), (41, .int .i64 ((((lsD (inT g s) 256 : List Int).length : Nat) : Int))), (40, .slice aA ((lsD (inT g s) 256 : List Int).length) aJ), (11, pt aF.heap.size 0), (8, .slice aA ((lsD (inT g s) 256 : List Int).length) aJ), (7, pt cS.heap.size 0), (4, pt aW.heap.size 0), (3, pt w1.heap.size 0), (2, pt w.heap.size 0)]) ∧ (Ext w w_) ∧ (RdG w_ 0 w.heap.size Ag0 Ag1 Ag2 cg0 cg1 cg2 g) ∧ (RdT w_ 0 w.heap.size) ∧ (Bx w_ (w.heap.size) [.slice Ag0 g.ow.length cg0, .slice Ag1 g.pr.length cg1, .slice Ag2 g.mv.length cg2] 25) ∧ (Bx w_ (w1.heap.size) (((inS g s : List Int) : List Int).map wV) 47) ∧ (Bx w_ (aW.heap.size) [.slice none 0 0, .slice none 0 0, .slice none 0 0] 25) ∧ (Bx w_ (cS.heap.size) ((nw : List Int).map iV) 61) ∧ (OwnR w_ (Sx (bC.heap.size) [obk (aE), obk (aB), obk (cP), obk (aK), some (aF.heap.size)]) aA aJ 3 ((lsD (inT g s) 256 : List Int) : List Int)) ∧ (Bx w_ (aF.heap.size) [.slice aK ((xo ++ ([gI g.ow (gI (lsD (inT g s) 256 : List Int) k)])).length) cT, .slice (cP) ((xp ++ ([gI g.pr (gI (lsD (inT g s) 256 : List Int) k)])).length) (fI), .slice aB xm.length aS] 25) ∧ (OwnR w_ (Sx (aC.heap.size) [obk (aE), obk (aB), obk (cP), obk (aA)]) aK cT 3 (xo ++ ([gI g.ow (gI (lsD (inT g s) 256 : List Int) k)]) : List Int)) ∧ (OwnR w_ (Sx (aC.heap.size) [obk (aE), obk (aB), obk (aA), obk (aK)]) (cP) (fI) 3 (xp ++ ([gI g.pr (gI (lsD (inT g s) 256 : List Int) k)]) : List Int)) ∧ (OwnLL w_ (aC.heap.size) [obk (aE), obk (aA), obk (aK), obk (cP)] aB aS 22 3 (xm : List (List Int))) ∧ (OwnR w_ (Sx (bE.heap.size) [obk (aA), obk (aK), obk (cP), obk (aB)]) aE bF 3 (xl : List Int)) ∧ (lP.heap.size ≤ w_.heap.size)) ?_ ?_)
  ·obtain ⟨oB, oC, _, _, oD⟩ := RdI.get bM.pr (gI (lsD (inT g s) 256 : List Int) k) ω ω
   obtain ⟨lQ, eX⟩ : ∃ c : List (Addr × Value), c = [(⟨w.heap.size, 1, none⟩, (.slice Ag1 g.pr.length cg1)), ((oB.add ((gI (lsD (inT g s) 256 : List Int) k : Int).toNat * 1)), (.int .i64 (gI g.pr (gI (lsD (inT g s) 256 : List Int) k))))] := ⟨_, rfl⟩
   have lR : HoldsC lQ lP := by rw [eX]; exact ⟨(bG.cell (i := 1) rfl), oD, trivial⟩
   refine AtH.start lQ 11 _ κ rfl rfl (fun bT lS => ?_)
   have cA := gr_drew lS; have gR := lR.gr cA; have := cA.size; replace bL := bL.gn cA; replace bM := bM.gn cA; replace bS := bS.gn cA; replace bG := bG.gn cA; replace bN := bN.gn cA; replace bO := bO.gn cA; replace bP := bP.gn cA; replace bH := bH.gn cA; replace bQ := bQ.gn cA; replace bI := bI.gn cA; replace aL := aL.gn cA; replace bJ := bJ.gn cA; replace bK := bK.gn cA; clear cA lS lR
   refine AtH.rk gR iA [0, 2, 3, 4, 5, 6] 5 [(86, .int .i64 (gI g.pr (gI (lsD (inT g s) 256 : List Int) k))), (80, pt aF.heap.size 1)] (.l (CsC_at eX 0 rfl) <| .a (gI (lsD (inT g s) 256 : List Int) k) g.pr.length oC <| .l (CsC_at eX 1 rfl) <| .n) (fun sK gS => ?_)
   clear iA
   refine AtH.all [1, 7] 4 κ (by simp) ⟨?_, ?_, trivial⟩
   ·refine OneH.seq gS [[.ld (.slice aD xp.length aY)]] [(81, .slice aD xp.length aY)] bT [(bT.cell? ⟨aF.heap.size, 1, none⟩ = some (.slice aD xp.length aY))] _ rfl κ κ ⟨(bQ.cell (i := 1) rfl), trivial⟩ (fun sL oE oF lT => ?_)
    obtain rfl : bT = oE := oF.symm
    clear gS
    refine ⟨gR, ?_⟩
    refine AtH.all [7] 3 κ (by simp) ⟨?_, trivial⟩
    refine OneH.seq lT [] [(87, .slice (some ⟨bT.heap.size, 0, none⟩) 1 1)] (bT.alloc (.cells #[.int .i64 (gI g.pr (gI (lsD (inT g s) 256 : List Int) k))] 3 (0, 0))) [] _ rfl κ κ trivial (fun sM lU iB lV => ?_)
    clear lT; have cB := gr_alloc iB; have lW := gR.gr cB
    refine ⟨lW, ?_⟩
    have := cB.size; replace bL := bL.gn cB; replace bM := bM.gn cB; replace bS := bS.gn cB; replace bG := bG.gn cB; replace bN := bN.gn cB; replace bO := bO.gn cB; replace bP := bP.gn cB; replace bH := bH.grN cB; replace bQ := bQ.gn cB; replace bI := bI.grN cB; replace aL := aL.grN cB; replace bJ := bJ.grN cB; replace bK := bK.grN cB
    have iC : Bx lU (bT.heap.size) [.int .i64 (gI g.pr (gI (lsD (inT g s) 256 : List Int) k))] 3 := Bx.new iB; have := iC.lt; clear cB iB
    refine AtH.all [8] 2 κ (by simp) ⟨?_, trivial⟩
    have oG : (xp ++ ([gI g.pr (gI (lsD (inT g s) 256 : List Int) k)])).length = (xp).length + ([gI g.pr (gI (lsD (inT g s) 256 : List Int) k)] : List Int).length := List.length_append
    simp only [List.length_cons, List.length_nil] at oG
    refine OneH.act lV _ rfl (appendR (α := Int) (t := 22) (d := 88) (n := xp.length) (m := 1) (cc := 1) (xs := xp) (ys := [gI g.pr (gI (lsD (inT g s) 256 : List Int) k)]) (bytes := 8) (by first | rfl | omega | (simp; done) | (simp; omega)) (by first | rfl | omega | (simp; done) | (simp; omega)) κ rfl κ aL (Bx.srcR (l := ([gI g.pr (gI (lsD (inT g s) 256 : List Int) k)] : List Int)) iC rfl) (by simp only [List.length_cons, List.length_nil]; omega) (by simp only [List.length_cons, List.length_nil]; omega)) ?_
    rintro d_ v_ gT ⟨rfl, eY, iD, dU⟩
    obtain rfl := dU.val
    have cI := dU.gr
    have iE := lW.grO cI (by rw [eX]; exact ⟨(fun e => by have := aL.ge _ e; simp only [add_block] at this; omega), (fun e => by have := aL.ge _ e; simp only [add_block] at this; omega), trivial⟩)
    refine ⟨_, rfl, fun sN lX => ⟨iE, ?_⟩⟩
    clear lV; clear iC
    have iF := dU.own (Sx (aC.heap.size) [obk (aE), obk (aB), obk (aA), obk (aK)]) (fun g _ hs => ⟨hs.2.1, hs.2.2.1, hs.2.2.2.1, hs.2.2.2.2.1, hs.2.2.2.2.2⟩) ⟨bK.ne_new, bJ.ne_new, bH.ne_new, bI.ne_new, (show aC.heap.size ≤ lU.heap.size by omega)⟩
    have := cI.size; replace bL := bL.gr cI (fun k hk => by have := aL.ge k hk; omega); replace bM := bM.gr cI (fun k hk => by have := aL.ge k hk; omega); replace bS := bS.gr cI (fun k hk => by have := aL.ge k hk; omega); replace bG := bG.gr cI (fun e => by have := aL.ge _ e; omega); replace bN := bN.gr cI (fun e => by have := aL.ge _ e; omega)
    replace bO := bO.gr cI (fun e => by have := aL.ge _ e; omega); replace bP := bP.gr cI (fun e => by have := aL.ge _ e; omega)
    replace bH : OwnR gT (Sx (bC.heap.size) [some (bT.heap.size), obk (aE), obk (aB), obk (eY), obk (aK), some (aF.heap.size)]) aA aJ 3 ((lsD (inT g s) 256 : List Int) : List Int) := bH.grA cI (fun k hk => hk.2.2.2.1) (fun k hk hs => ⟨hs.1, hs.2.1, hs.2.2.1, own_repl dU.at_ hs.2.2.2.1 hk, hs.2.2.2.2.1, hs.2.2.2.2.2.1, hs.2.2.2.2.2.2⟩)
    replace bQ := bQ.gr cI (fun e => by have := aL.ge _ e; omega)
    replace bI : OwnR gT (Sx (aC.heap.size) [some (bT.heap.size), obk (aE), obk (aB), obk (eY), obk (aA)]) aK cT 3 (xo ++ ([gI g.ow (gI (lsD (inT g s) 256 : List Int) k)]) : List Int) := bI.grA cI (fun k hk => hk.2.2.2.1) (fun k hk hs => ⟨hs.1, hs.2.1, hs.2.2.1, own_repl dU.at_ hs.2.2.2.1 hk, hs.2.2.2.2.1, hs.2.2.2.2.2⟩)
    replace bJ : OwnLL gT (aC.heap.size) [some (bT.heap.size), obk (aE), obk (aA), obk (aK), obk (eY)] aB aS 22 3 (xm : List (List Int)) := bJ.grA cI (fun k hk => hk.2.2.2.2.1) (fun k hk hs => ⟨hs.1, hs.2.1, hs.2.2.1, hs.2.2.2.1, own_repl dU.at_ hs.2.2.2.2.1 hk, hs.2.2.2.2.2⟩)
    replace bK : OwnR gT (Sx (bE.heap.size) [some (bT.heap.size), obk (aA), obk (aK), obk (eY), obk (aB)]) aE bF 3 (xl : List Int) := bK.grA cI (fun k hk => hk.2.2.2.1) (fun k hk hs => ⟨hs.1, hs.2.1, hs.2.2.1, own_repl dU.at_ hs.2.2.2.1 hk, hs.2.2.2.2.1, hs.2.2.2.2.2⟩)
    clear aL cI dU
    refine AtH.rk iE lX [9] 1 [(89, pt aF.heap.size 1)] .n (fun sO lY => ?_)
    clear lX
    refine AtH.all [10] 0 κ (by simp) ⟨?_, trivial⟩
    refine OneH.store lY (t := 22) (b := aF.heap.size) (off := 1) (v := .slice eY ((xp ++ ([gI g.pr (gI (lsD (inT g s) 256 : List Int) k)])).length) iD) _ rfl κ bQ κ (fun sP oH cJ iG oI => ?_)
    clear lY
    replace iG : Bx oH (aF.heap.size) [.slice aK ((xo ++ ([gI g.ow (gI (lsD (inT g s) 256 : List Int) k)])).length) cT, .slice eY ((xp ++ ([gI g.pr (gI (lsD (inT g s) 256 : List Int) k)])).length) iD, .slice aB xm.length aS] 25 := iG
    have lZ := iE.gr' cJ (by rw [eX]; exact ⟨(by simp only [add_block]; omega), (by simp only [add_block]; omega), trivial⟩); have := cJ.size; replace bL := bL.gr cJ (fun k h => by injection h; omega); replace bM := bM.gb cJ ω; replace bS := bS.gb cJ ω; replace bG := bG.gb cJ ω; replace bN := bN.gb cJ ω; replace bO := bO.gb cJ ω; replace bP := bP.gb cJ ω
    replace bH := bH.gr cJ (fun k hk => hk.2.2.2.2.2.1); replace bI := bI.gr cJ (fun k hk e => by have := Sx_base hk; injection e; omega); replace iF := iF.gr cJ (fun k hk e => by have := Sx_base hk; injection e; omega); replace bJ := bJ.gr cJ (fun k hk e => by have := Sx_base hk; injection e; omega); replace bK := bK.gr cJ (fun k hk e => by have := Sx_base hk; injection e; omega); clear bQ cJ
    refine ⟨lZ, ?_⟩
    refine AtH.done κ ?_
    clear lZ
    refine t_n ?_
    exact ⟨eY, iD, oI.sb, bL, bM, bS, bG, bN, bO, bP, (bH.imp (fun g _ hs => ⟨hs.2.1, hs.2.2.1, hs.2.2.2.1, hs.2.2.2.2.1, hs.2.2.2.2.2.1, (by have := Sx_base hs; show bC.heap.size ≤ g; omega)⟩)), iG, (bI.imp (fun g _ hs => ⟨hs.2.1, hs.2.2.1, hs.2.2.2.1, hs.2.2.2.2.1, (by have := Sx_base hs; show aC.heap.size ≤ g; omega)⟩)), iF, (bJ.imp (fun g _ hs => ⟨hs.2.1, hs.2.2.1, hs.2.2.2.1, hs.2.2.2.2.1, (by have := Sx_base hs; show aC.heap.size ≤ g; omega)⟩)), (bK.imp (fun g _ hs => ⟨hs.2.1, hs.2.2.1, hs.2.2.2.1, hs.2.2.2.2.1, (by have := Sx_base hs; show bE.heap.size ≤ g; omega)⟩)), ω⟩
   refine OneH.seq gS [] [(87, .slice (some ⟨bT.heap.size, 0, none⟩) 1 1)] (bT.alloc (.cells #[.int .i64 (gI g.pr (gI (lsD (inT g s) 256 : List Int) k))] 3 (0, 0))) [] _ rfl κ κ trivial (fun sQ fW iH mA => ?_)
   clear gS; have cC := gr_alloc iH; have iI := gR.gr cC
   refine ⟨iI, ?_⟩
   have := cC.size; replace bL := bL.gn cC; replace bM := bM.gn cC; replace bS := bS.gn cC; replace bG := bG.gn cC; replace bN := bN.gn cC; replace bO := bO.gn cC; replace bP := bP.gn cC; replace bH := bH.grN cC; replace bQ := bQ.gn cC; replace bI := bI.grN cC; replace aL := aL.grN cC; replace bJ := bJ.grN cC; replace bK := bK.grN cC
   have iJ : Bx fW (bT.heap.size) [.int .i64 (gI g.pr (gI (lsD (inT g s) 256 : List Int) k))] 3 := Bx.new iH; have := iJ.lt; clear cC iH
   refine AtH.all [1] 3 κ (by simp) ⟨?_, trivial⟩
   refine OneH.seq mA [[.ld (.slice aD xp.length aY)]] [(81, .slice aD xp.length aY)] fW [(fW.cell? ⟨aF.heap.size, 1, none⟩ = some (.slice aD xp.length aY))] _ rfl κ κ ⟨(bQ.cell (i := 1) rfl), trivial⟩ (fun sR oJ oK mB => ?_)
   obtain rfl : fW = oJ := oK.symm
   clear mA
   refine ⟨iI, ?_⟩
   refine AtH.all [8] 2 κ (by simp) ⟨?_, trivial⟩
   have oL : (xp ++ ([gI g.pr (gI (lsD (inT g s) 256 : List Int) k)])).length = (xp).length + ([gI g.pr (gI (lsD (inT g s) 256 : List Int) k)] : List Int).length := List.length_append
   simp only [List.length_cons, List.length_nil] at oL
   refine OneH.act mB _ rfl (appendR (α := Int) (t := 22) (d := 88) (n := xp.length) (m := 1) (cc := 1) (xs := xp) (ys := [gI g.pr (gI (lsD (inT g s) 256 : List Int) k)]) (bytes := 8) (by first | rfl | omega | (simp; done) | (simp; omega)) (by first | rfl | omega | (simp; done) | (simp; omega)) κ rfl κ aL (Bx.srcR (l := ([gI g.pr (gI (lsD (inT g s) 256 : List Int) k)] : List Int)) iJ rfl) (by simp only [List.length_cons, List.length_nil]; omega) (by simp only [List.length_cons, List.length_nil]; omega)) ?_
   rintro d_ v_ gU ⟨rfl, eZ, iK, dV⟩
   obtain rfl := dV.val
   have cK := dV.gr
   have iL := iI.grO cK (by rw [eX]; exact ⟨(fun e => by have := aL.ge _ e; simp only [add_block] at this; omega), (fun e => by have := aL.ge _ e; simp only [add_block] at this; omega), trivial⟩)
   refine ⟨_, rfl, fun sS mC => ⟨iL, ?_⟩⟩
   clear mB; clear iJ
   have iM := dV.own (Sx (aC.heap.size) [obk (aE), obk (aB), obk (aA), obk (aK)]) (fun g _ hs => ⟨hs.2.1, hs.2.2.1, hs.2.2.2.1, hs.2.2.2.2.1, hs.2.2.2.2.2⟩) ⟨bK.ne_new, bJ.ne_new, bH.ne_new, bI.ne_new, (show aC.heap.size ≤ fW.heap.size by omega)⟩
   have := cK.size; replace bL := bL.gr cK (fun k hk => by have := aL.ge k hk; omega); replace bM := bM.gr cK (fun k hk => by have := aL.ge k hk; omega); replace bS := bS.gr cK (fun k hk => by have := aL.ge k hk; omega); replace bG := bG.gr cK (fun e => by have := aL.ge _ e; omega); replace bN := bN.gr cK (fun e => by have := aL.ge _ e; omega)
   replace bO := bO.gr cK (fun e => by have := aL.ge _ e; omega); replace bP := bP.gr cK (fun e => by have := aL.ge _ e; omega)
   replace bH : OwnR gU (Sx (bC.heap.size) [some (bT.heap.size), obk (aE), obk (aB), obk (eZ), obk (aK), some (aF.heap.size)]) aA aJ 3 ((lsD (inT g s) 256 : List Int) : List Int) := bH.grA cK (fun k hk => hk.2.2.2.1) (fun k hk hs => ⟨hs.1, hs.2.1, hs.2.2.1, own_repl dV.at_ hs.2.2.2.1 hk, hs.2.2.2.2.1, hs.2.2.2.2.2.1, hs.2.2.2.2.2.2⟩)
   replace bQ := bQ.gr cK (fun e => by have := aL.ge _ e; omega)
   replace bI : OwnR gU (Sx (aC.heap.size) [some (bT.heap.size), obk (aE), obk (aB), obk (eZ), obk (aA)]) aK cT 3 (xo ++ ([gI g.ow (gI (lsD (inT g s) 256 : List Int) k)]) : List Int) := bI.grA cK (fun k hk => hk.2.2.2.1) (fun k hk hs => ⟨hs.1, hs.2.1, hs.2.2.1, own_repl dV.at_ hs.2.2.2.1 hk, hs.2.2.2.2.1, hs.2.2.2.2.2⟩)
   replace bJ : OwnLL gU (aC.heap.size) [some (bT.heap.size), obk (aE), obk (aA), obk (aK), obk (eZ)] aB aS 22 3 (xm : List (List Int)) := bJ.grA cK (fun k hk => hk.2.2.2.2.1) (fun k hk hs => ⟨hs.1, hs.2.1, hs.2.2.1, hs.2.2.2.1, own_repl dV.at_ hs.2.2.2.2.1 hk, hs.2.2.2.2.2⟩)
   replace bK : OwnR gU (Sx (bE.heap.size) [some (bT.heap.size), obk (aA), obk (aK), obk (eZ), obk (aB)]) aE bF 3 (xl : List Int) := bK.grA cK (fun k hk => hk.2.2.2.1) (fun k hk hs => ⟨hs.1, hs.2.1, hs.2.2.1, own_repl dV.at_ hs.2.2.2.1 hk, hs.2.2.2.2.1, hs.2.2.2.2.2⟩)
   clear aL cK dV
   refine AtH.rk iL mC [9] 1 [(89, pt aF.heap.size 1)] .n (fun sT mD => ?_)
   clear mC
   refine AtH.all [10] 0 κ (by simp) ⟨?_, trivial⟩
   refine OneH.store mD (t := 22) (b := aF.heap.size) (off := 1) (v := .slice eZ ((xp ++ ([gI g.pr (gI (lsD (inT g s) 256 : List Int) k)])).length) iK) _ rfl κ bQ κ (fun sU oM cL iN oN => ?_)
   clear mD
   replace iN : Bx oM (aF.heap.size) [.slice aK ((xo ++ ([gI g.ow (gI (lsD (inT g s) 256 : List Int) k)])).length) cT, .slice eZ ((xp ++ ([gI g.pr (gI (lsD (inT g s) 256 : List Int) k)])).length) iK, .slice aB xm.length aS] 25 := iN
   have mE := iL.gr' cL (by rw [eX]; exact ⟨(by simp only [add_block]; omega), (by simp only [add_block]; omega), trivial⟩); have := cL.size; replace bL := bL.gr cL (fun k h => by injection h; omega); replace bM := bM.gb cL ω; replace bS := bS.gb cL ω; replace bG := bG.gb cL ω; replace bN := bN.gb cL ω; replace bO := bO.gb cL ω; replace bP := bP.gb cL ω
   replace bH := bH.gr cL (fun k hk => hk.2.2.2.2.2.1); replace bI := bI.gr cL (fun k hk e => by have := Sx_base hk; injection e; omega); replace iM := iM.gr cL (fun k hk e => by have := Sx_base hk; injection e; omega); replace bJ := bJ.gr cL (fun k hk e => by have := Sx_base hk; injection e; omega); replace bK := bK.gr cL (fun k hk e => by have := Sx_base hk; injection e; omega); clear bQ cL
   refine ⟨mE, ?_⟩
   refine AtH.done κ ?_
   clear mE
   refine t_n ?_
   exact ⟨eZ, iK, oN.sb, bL, bM, bS, bG, bN, bO, bP, (bH.imp (fun g _ hs => ⟨hs.2.1, hs.2.2.1, hs.2.2.2.1, hs.2.2.2.2.1, hs.2.2.2.2.2.1, (by have := Sx_base hs; show bC.heap.size ≤ g; omega)⟩)), iN, (bI.imp (fun g _ hs => ⟨hs.2.1, hs.2.2.1, hs.2.2.2.1, hs.2.2.2.2.1, (by have := Sx_base hs; show aC.heap.size ≤ g; omega)⟩)), iM, (bJ.imp (fun g _ hs => ⟨hs.2.1, hs.2.2.1, hs.2.2.2.1, hs.2.2.2.2.1, (by have := Sx_base hs; show aC.heap.size ≤ g; omega)⟩)), (bK.imp (fun g _ hs => ⟨hs.2.1, hs.2.2.1, hs.2.2.2.1, hs.2.2.2.2.1, (by have := Sx_base hs; show bE.heap.size ≤ g; omega)⟩)), ω⟩
  clear bM; clear bS; clear bG; clear bN; clear bO; clear bP; clear bH; clear bQ; clear bI; clear aL; clear bJ; clear bK; clear iA bL
  intro sV fJ ⟨cP, fI, mF, dW, fA, fB, dX, dY, dZ, eA, eB, eC, eD, eE, cU, gV, sW⟩
  have := dW.size; have := dX.lt; have := dY.lt; have := dZ.lt; have := eA.lt; have := eC.lt
  refine At.start ?_
  refine At.rk mF 3 [(92, .slice aE xl.length bF), (91, .slice aB xm.length aS)] (.l (eC.cell (i := 2) rfl) <| .n) (fun sX mG => ?_)
  clear mF
  refine At.seq mG 1 [[]] [(93, .slice (some ⟨fJ.heap.size, 0, none⟩) 1 1)] (fJ.alloc (.cells #[.slice aE xl.length bF] 22 (0, 0))) [] κ trivial (fun sY gW iO mH => ?_)
  clear mG; have cM := gr_alloc iO; have := cM.size; replace dW := dW.gn cM; replace fA := fA.gn cM; replace fB := fB.gn cM; replace dX := dX.gn cM; replace dY := dY.gn cM; replace dZ := dZ.gn cM; replace eA := eA.gn cM; replace eB := eB.grN cM; replace eC := eC.gn cM; replace eD := eD.grN cM; replace eE := eE.grN cM; replace cU := cU.grN cM; replace gV := gV.grN cM
  have iP : Bx gW (fJ.heap.size) [.slice aE xl.length bF] 22 := Bx.new iO; have := iP.lt; clear cM iO
  have mI : OwnR gW (Sx (aC.heap.size) [obk (aA), obk (aK), obk (cP)]) aE bF 3 (xl : List Int) := gV.imp (fun g _ hs => ⟨hs.2.1, hs.2.2.1, hs.2.2.2.1, (by have := Sx_base hs; show aC.heap.size ≤ g; omega)⟩)
  have mJ : OwnLL gW (aC.heap.size) [obk (aE), obk (aA), obk (aK), obk (cP)] aB aS 22 3 (xm : List (List Int)) := (cU.imp (fun g _ hs => ⟨hs.2.1, hs.2.2.1, hs.2.2.2.1, hs.2.2.2.2.1, hs.2.2.2.2.2⟩))
  have sZ : (xm ++ [xl]).length = (xm).length + 1 := by simp
  refine At.act mH (appendLL (t := 23) (d := 94) (n := xm.length) (m := 1) (cc := 1) (ls := xm) (xs := xl) (bytes := 24) (by first | rfl | omega | (simp; done) | (simp; omega)) κ κ (iP.as (by first | rfl | (simp; done))) mJ mI ⟨eB.ne_new, eD.ne_new, eE.ne_new, (show aC.heap.size ≤ gW.heap.size by omega)⟩ ω ω) ?_
  rintro d_ v_ iQ ⟨rfl, fK, iR, rfl, cQ, gX, iS⟩
  refine ⟨_, rfl, fun tA mK => ?_⟩
  clear mH; clear iP gV mI mJ; have := cQ.size; replace dW := dW.gr cQ (fun k hk => by have := cU.ge k hk; omega); replace fA := fA.gr cQ (fun k hk => by have := cU.ge k hk; omega); replace fB := fB.gr cQ (fun k hk => by have := cU.ge k hk; omega); replace dX := dX.gr cQ (fun e => by have := cU.ge _ e; omega); replace dY := dY.gr cQ (fun e => by have := cU.ge _ e; omega)
  replace dZ := dZ.gr cQ (fun e => by have := cU.ge _ e; omega); replace eA := eA.gr cQ (fun e => by have := cU.ge _ e; omega)
  replace eB : OwnR iQ (Sx (bC.heap.size) [some (fJ.heap.size), obk (aE), obk (fK), obk (cP), obk (aK), some (aF.heap.size)]) aA aJ 3 ((lsD (inT g s) 256 : List Int) : List Int) := eB.grA cQ (fun k hk => hk.2.2.1) (fun k hk hs => ⟨hs.1, hs.2.1, own_repl gX hs.2.2.1 hk, hs.2.2.2.1, hs.2.2.2.2.1, hs.2.2.2.2.2.1, hs.2.2.2.2.2.2⟩)
  replace eC := eC.gr cQ (fun e => by have := cU.ge _ e; omega)
  replace eD : OwnR iQ (Sx (aC.heap.size) [some (fJ.heap.size), obk (aE), obk (fK), obk (cP), obk (aA)]) aK cT 3 (xo ++ ([gI g.ow (gI (lsD (inT g s) 256 : List Int) k)]) : List Int) := eD.grA cQ (fun k hk => hk.2.2.1) (fun k hk hs => ⟨hs.1, hs.2.1, own_repl gX hs.2.2.1 hk, hs.2.2.2.1, hs.2.2.2.2.1, hs.2.2.2.2.2⟩)
  replace eE : OwnR iQ (Sx (aC.heap.size) [some (fJ.heap.size), obk (aE), obk (fK), obk (aA), obk (aK)]) cP fI 3 (xp ++ ([gI g.pr (gI (lsD (inT g s) 256 : List Int) k)]) : List Int) := eE.grA cQ (fun k hk => hk.2.2.1) (fun k hk hs => ⟨hs.1, hs.2.1, own_repl gX hs.2.2.1 hk, hs.2.2.2.1, hs.2.2.2.2.1, hs.2.2.2.2.2⟩)
  clear cU cQ gX
  refine At.rk mK 1 [(95, pt aF.heap.size 2)] .n (fun tB mL => ?_)
  clear mK
  refine At.store mL (t := 23) (b := aF.heap.size) (off := 2) (v := .slice fK ((xm ++ [xl]).length) iR) κ eC κ (fun tC oO cR iT mM => ?_)
  clear mL
  replace iT : Bx oO (aF.heap.size) [.slice aK ((xo ++ ([gI g.ow (gI (lsD (inT g s) 256 : List Int) k)])).length) cT, .slice cP ((xp ++ ([gI g.pr (gI (lsD (inT g s) 256 : List Int) k)])).length) fI, .slice fK ((xm ++ [xl]).length) iR] 25 := iT
  have := cR.size; replace dW := dW.gr cR (fun k h => by injection h; omega); replace fA := fA.gb cR ω; replace fB := fB.gb cR ω; replace dX := dX.gb cR ω; replace dY := dY.gb cR ω; replace dZ := dZ.gb cR ω; replace eA := eA.gb cR ω; replace eB := eB.gr cR (fun k hk => hk.2.2.2.2.2.1); replace eD := eD.gr cR (fun k hk e => by have := Sx_base hk; injection e; omega)
  replace eE := eE.gr cR (fun k hk e => by have := Sx_base hk; injection e; omega); replace iS := iS.gr cR (fun k hk e => by have := Sx_base hk; injection e; omega); clear eC cR
  refine At.done rfl ?_
  refine b_n ?_
  refine t_n ?_
  refine At.start ?_
  refine At.rk mM 2 [(42, .int .i64 (k + 1))] (.w 96 (k + 1) <| .n) (fun tD oP => ?_)
  clear mM
  refine At.dn ?_
  exact ⟨_, ω, (k + 1), (xo ++ ([gI g.ow (gI (lsD (inT g s) 256 : List Int) k)]) : List Int), aK, cT, (xp ++ ([gI g.pr (gI (lsD (inT g s) 256 : List Int) k)]) : List Int), cP, fI, (xm ++ [xl] : List (List Int)), fK, iR, rfl, oP.sb, dW, fA, fB, dX, dY, dZ, eA, (eB.imp (fun g _ hs => ⟨hs.2.2.1, hs.2.2.2.1, hs.2.2.2.2.1, hs.2.2.2.2.2.1, hs.2.2.2.2.2.2⟩)), iT, (eD.imp (fun g _ hs => ⟨hs.2.2.1, hs.2.2.2.1, hs.2.2.2.2.1, hs.2.2.2.2.2⟩)), (eE.imp (fun g _ hs => ⟨hs.2.2.1, hs.2.2.2.1, hs.2.2.2.2.1, hs.2.2.2.2.2⟩)), iS, ω, ω, (map_push hxo ω ω), (map_push hxp ω ω), (by rw [hxe]; exact map_push hxm ω ω), (gone_next hgo (by rw [← hxe]; exact hne)), ω, ω⟩
 have tE := of_decide_eq_false hE
 refine wp_exit ?_
 refine t_e ?_
 clear hm289
 refine t_e ?_
 refine b_e ?_
 refine t_n ?_
 clear fP; clear gF; clear gG
 refine sqs ?_
 refine At.rk fR 5 [(101, .bool (decide (((((lsD (inT g s) 256 : List Int).length : Nat) : Int) : Int) > 0))), (98, .slice aA ((lsD (inT g s) 256 : List Int).length) aJ), (97, .agg #[.slice aI xo.length bD, .slice aD xp.length aY, .slice aB xm.length aS])] (.l (dF.cell (i := 0) rfl) <| .l (dF.cell (i := 1) rfl) <| .l (dF.cell (i := 2) rfl) <| .n) (fun tF mN => ?_)
 clear fR
 refine At.store mN (t := 25) (b := aW.heap.size) (off := 0) (v := .agg #[.slice aI xo.length bD, .slice aD xp.length aY, .slice aB xm.length aS]) κ fQ κ (fun tG gY cX fX mO => ?_)
 clear mN; replace fX : Bx gY (aW.heap.size) [.slice aI xo.length bD, .slice aD xp.length aY, .slice aB xm.length aS] 25 := fX; have := cX.size; replace fG := fG.gr cX (fun k h => by injection h; omega); replace fO := fO.gb cX ω; replace gE := gE.gb cX ω; replace dP := dP.gr cX (fun k hk e => by have := Sx_base hk; injection e; omega); replace dF := dF.gb cX ω
 replace eP := eP.gr cX (fun k hk e => by have := Sx_base hk; injection e; omega); replace eQ := eQ.gr cX (fun k hk e => by have := Sx_base hk; injection e; omega); have oQ := gH.gr cX (fun k hk e => by have := Sx_base hk; injection e; omega); clear gH; clear fQ cX
 refine At.rk mO 2 [(6, .bool (decide (((((lsD (inT g s) 256 : List Int).length : Nat) : Int) : Int) > 0))), (5, .slice aA ((lsD (inT g s) 256 : List Int).length) aJ)] .n (fun tH oR => ?_)
 clear mO
 refine At.dn ?_
 clear dF
 refine wp_ret ?_
 refine ret_ oR [[.slice aI xo.length bD, .slice aD xp.length aY, .slice aB xm.length aS]] [.agg #[.slice aI xo.length bD, .slice aD xp.length aY, .slice aB xm.length aS], .slice aA ((lsD (inT g s) 256 : List Int).length) aJ, .bool (decide (((((lsD (inT g s) 256 : List Int).length : Nat) : Int) : Int) > 0))] [(gY.cell? ⟨aW.heap.size, 0, none⟩ = some (.slice aI xo.length bD)), (gY.cell? ⟨aW.heap.size, 1, none⟩ = some (.slice aD xp.length aY)), (gY.cell? ⟨aW.heap.size, 2, none⟩ = some (.slice aB xm.length aS))] κ ⟨(fX.cell (i := 0) rfl), (fX.cell (i := 1) rfl), (fX.cell (i := 2) rfl), trivial⟩ ?_
 obtain ⟨e1_, e2_, e3_⟩ := sub_yes hR (gone_all hgo ω)
 rw [e1_, e2_, e3_, ← map_all hxo ω, ← map_all hxp ω, ← map_all hxm ω]
 exact ⟨aI, bD, aD, aY, aB, aS, aA, aJ, rfl, fG, (eP.imp (fun g _ hs => ⟨hs.2.1, hs.1, hs.2.2.1, (by have := Sx_base hs; show w.heap.size ≤ g; omega)⟩)), (eQ.imp (fun g _ hs => ⟨hs.2.2.1, hs.1, hs.2.1, (by have := Sx_base hs; show w.heap.size ≤ g; omega)⟩)), (oQ.imp (fun g _ hs => ⟨hs.2.1, hs.2.2.1, hs.1, (by have := Sx_base hs; show w.heap.size ≤ g; omega)⟩)), (dP.imp (fun g _ hs => ⟨hs.2.2.1, hs.2.1, hs.1, (by have := Sx_base hs; show w.heap.size ≤ g; omega)⟩))⟩
end Go.Proofs.YtkkophhnliplhaaDoor
namespace Go.Proofs.YtkkophhnliplhaaDoor
open Go Go.RowKit
def dualBy (g : GameL) : Int := if 7 ∈ g.pr then -1 else 1
def dualG (g : GameL) : GameL := if isR g = true ∧ ¬ (7 ∈ g.pr ∧ 0 ∈ g.pr) then ⟨g.ow.map (fun z => 1 - z), g.pr.map (fun z => z + dualBy g), g.mv⟩ else ⟨[], [], []⟩
theorem dual_no {g : GameL} (h : isR g = false ∨ (7 ∈ g.pr ∧ 0 ∈ g.pr)) : dualG g = ⟨[], [], []⟩ := by
  unfold dualG
  rw [if_neg]
  rintro ⟨h1, h2⟩
  rcases h with h | h
  · rw [h1] at h
    cases h
  · exact h2 h
theorem dual_yes {g : GameL} (h : isR g = true) (h2 : ¬ (7 ∈ g.pr ∧ 0 ∈ g.pr)) : dualG g = ⟨g.ow.map (fun z => 1 - z), g.pr.map (fun z => z + dualBy g), g.mv⟩ := by
  unfold dualG
  rw [if_pos ⟨h, h2⟩]
theorem by_hi {g : GameL} (h : decide (7 ∈ g.pr) = true) : dualBy g = -1 := by
  unfold dualBy
  rw [if_pos (of_decide_eq_true h)]
theorem by_lo {g : GameL} (h : decide (7 ∈ g.pr) = false) : dualBy g = 1 := by
  unfold dualBy
  rw [if_neg (of_decide_eq_false h)]
def MapT (l xs : List Int) (f : Int → Int) (k : Int) : Prop := xs.length = l.length ∧ ∀ j : Int, 0 ≤ j → j < (l.length : Int) → gI xs j = if j < k then f (gI l j) else gI l j
theorem gI_setD {l : List Int} {i j v : Int} (h0 : 0 ≤ i) (h1 : i < (l.length : Int)) (h2 : 0 ≤ j) : gI (l.set i.toNat v) j = if i = j then v else gI l j := by
  simp only [gI, List.getD_eq_getElem?_getD, List.getElem?_set]
  by_cases h : i = j
  · subst h
    rw [if_pos rfl, if_pos rfl, if_pos (by omega)]
    rfl
  · rw [if_neg h, if_neg (by omega)]
theorem map_0 {l : List Int} {f : Int → Int} : MapT l l f 0 := ⟨rfl, fun j a b => by rw [if_neg (by omega)]⟩
theorem map_at {l xs : List Int} {f : Int → Int} {k : Int} (h : MapT l xs f k) (h0 : 0 ≤ k) (h1 : k < (l.length : Int)) : gI xs k = gI l k := by rw [h.2 k h0 h1, if_neg (by omega)]
theorem map_next {l xs : List Int} {f : Int → Int} {k v : Int} (h : MapT l xs f k) (h0 : 0 ≤ k) (h1 : k < (l.length : Int)) (hv : v = f (gI l k)) : MapT l (xs.set k.toNat v) f (k + 1) := by
  have hl := h.1
  refine ⟨by rw [List.length_set]; exact hl, fun j a b => ?_⟩
  rw [gI_setD h0 (by omega) a]
  by_cases e : k = j
  · subst e
    rw [if_pos rfl, if_pos (by omega), hv]
  · rw [if_neg e, h.2 j a b]
    by_cases e2 : j < k
    · rw [if_pos e2, if_pos (show j < k + 1 by omega)]
    · rw [if_neg e2, if_neg (show ¬ j < k + 1 by omega)]
theorem map_end {l xs : List Int} {f : Int → Int} {k : Int} (h : MapT l xs f k) (hk : (l.length : Int) ≤ k) : xs = l.map f := by
  refine List.ext_getElem (by rw [List.length_map]; exact h.1) fun i h1 h2 => ?_
  rw [List.length_map] at h2
  have := h.2 (i : Int) (by omega) (by omega)
  rw [if_pos (by omega)] at this
  simp only [gI, Int.toNat_natCast, List.getD_eq_getElem?_getD, List.getElem?_eq_getElem h1, List.getElem?_eq_getElem h2, Option.getD_some] at this
  rw [this, List.getElem_map]
theorem xor1 {z : Int} (h : z = 0 ∨ z = 1) : IntKind.i64.wrap (((BitVec.ofInt 64 z ^^^ BitVec.ofInt 64 1).toNat : Nat) : Int) = 1 - z := by
  rcases h with rfl | rfl <;> rfl
theorem dual_inner {g : GameL} (h : ∀ i, i < g.mv.length → (g.mv.getD i []).length * 8 ≤ 140737488351232) : ∀ i, i < (dualG g).mv.length → ((dualG g).mv.getD i []).length * 8 ≤ 140737488351232 := by
  unfold dualG
  split
  · exact h
  · intro i hi
    simp at hi
theorem dual_lens (g : GameL) : (dualG g).ow.length ≤ 200 ∧ (dualG g).pr.length ≤ 200 ∧ (dualG g).mv.length ≤ 200 := by
  unfold dualG
  split
  · rename_i h
    have hG := isR_ok h.1
    have := hG.n1
    have := hG.pl
    have := hG.ml
    simp only [List.length_map]
    omega
  · simp
end Go.Proofs.YtkkophhnliplhaaDoor
namespace Go.Proofs.YtkkophhnliplhaaDoor
open Go Go.RowKit
theorem rdG_nil {w : World} {lo hi : Nat} : RdG w lo hi none none none 0 0 0 (⟨[], [], []⟩ : GameL) := ⟨rdI_nil, rdI_nil, rdII_nil, Nat.le_refl _, Nat.le_refl _, Nat.le_refl _⟩
end Go.Proofs.YtkkophhnliplhaaDoor
namespace Go.Proofs.YtkkophhnliplhaaDoor
open Go Go.RowKit
/- The example. -/
def exG9 : GameL := ⟨[0, 1, 1], [1, 4, 7], [[1, 2], [0], [0, 2]]⟩
theorem exG9_sub : subG exG9 (inT exG9 (ofW [0, 2, 9])) = ⟨[0, 1], [1, 7], [[1], [0, 1]]⟩ ∧ subO exG9 (inT exG9 (ofW [0, 2, 9])) = [0, 2] ∧ subB exG9 (inT exG9 (ofW [0, 2, 9])) = true := by decide +kernel
end Go.Proofs.YtkkophhnliplhaaDoor
namespace Go.Proofs.YtkkophhnliplhaaDoor
open Go Go.RowKit
set_option maxHeartbeats 4000000 in
theorem index_any {Aa : Option Addr} {ca : Nat} {la : List Int} {v : Int} {w : World} (ra : RdI w 0 w.heap.size Aa la) :
    Calls Tryd.prog 46 #[.slice Aa la.length ca, .int .i64 (v)] w fun e w' => e = .returned (.int .i64 (idxI la v)) ∧ Ext w w' := by
 have hla := ra.len
 refine enter_ (args := [.slice Aa la.length ca, .int .i64 (v)]) Tryd.func46 rfl Tryd.ntmps46 (Nat.le_of_ble_eq_true rfl) (fun act0 f0 => ?_)
 have e0 : Ext w w := Ext.refl w
 refine sqs ?_
 refine At.rk f0 1 [(4, .int .i64 (0))] .n (fun act2 f1 => ?_)
 clear f0
 refine At.dn ?_
 refine wp_seq ?_
 refine sqs ?_
 refine At.rk f1 3 [(8, .int .i64 (0)), (7, .int .i64 (((la.length : Nat) : Int)))] .n (fun act4 f3 => ?_)
 clear f1
 refine At.dn ?_
 refine wp_block ?_
 refine loop_g (fun (m_ : Nat) a_ w_ => ∃ (k : Int), m_ = ((la.length : Int) - k).toNat ∧ (Frm 19 a_ [(8, .int .i64 (k)), (7, .int .i64 (((la.length : Nat) : Int))), (0, .slice Aa la.length ca), (1, .int .i64 (v))]) ∧ (Ext w w_) ∧ (RdI w_ 0 w.heap.size Aa la) ∧ (0 ≤ k) ∧ (k ≤ (la.length : Int)) ∧ (v ∉ la.take k.toNat)) _ ⟨0, rfl, f3.sb, e0, ra, ω, ω, (notin_zero _ _)⟩ ?_
 clear f3; clear ra; clear e0
 intro m_ act6 w7 ⟨k, hm9, aE, e8, aF, i12, i13, i14⟩
 have := e8.size
 refine sqs ?_
 refine At.rk aE 1 [(9, .bool (decide ((k : Int) < ((la.length : Nat) : Int))))] .n (fun aM aA => ?_)
 clear aE
 refine At.dn ?_
 refine wp_seq ?_
 refine cond_S aA (t := decide ((k : Int) < ((la.length : Nat) : Int))) rfl (fun aC => ?_) (fun aC => ?_)
 ·have aN := of_decide_eq_true aC
  refine wp_skip ?_
  refine t_n ?_
  refine wp_seq ?_
  refine wp_block ?_
  refine sqs ?_
  refine At.rk aA 2 [(5, .int .i64 (k))] .n (fun aO aG => ?_)
  clear aA
  refine At.dn ?_
  refine sqs ?_
  obtain ⟨aP, aH, _, _, aI⟩ := RdI.get aF (k) ω ω
  refine At.rk aG 6 [(16, .bool ((v : Int) == (gI la (k))))] (.a k la.length aH <| .l aI <| .n) (fun aQ aB => ?_)
  clear aG
  refine At.dn ?_
  refine cond_S aB (t := (v : Int) == (gI la (k))) rfl (fun aD => ?_) (fun aD => ?_)
  ·have aR := eq_of_beq aD
   refine sqs ?_
   refine At.rk aB 2 [(4, .int .i64 (k))] .n (fun aS aJ => ?_)
   clear aB
   refine At.dn ?_
   refine wp_ret ?_
   refine b_r ?_
   refine t_r ?_
   refine t_r ?_
   refine b_r ?_
   refine t_r ?_
   refine ret_ aJ [] [.int .i64 (k)] [] κ trivial ?_
   exact ⟨ret_eq (congrArg (Value.int .i64) (idx_at ω ω σ σ)), e8⟩
  have aT := ne_of_beq_false aD
  refine wp_skip ?_
  refine b_n ?_
  refine t_n ?_
  refine At.start ?_
  refine At.rk aB 2 [(8, .int .i64 (k + 1))] (.w 18 (k + 1) <| .n) (fun aU aK => ?_)
  clear aB
  refine At.dn ?_
  exact ⟨_, ω, (k + 1), rfl, aK.sb, e8, aF, ω, ω, (notin_next ω ω σ σ)⟩
 have aV := of_decide_eq_false aC
 refine wp_exit ?_
 refine t_e ?_
 clear hm9
 refine t_e ?_
 refine b_e ?_
 refine t_n ?_
 refine sqs ?_
 refine At.rk aA 1 [(4, .int .i64 (-1))] .n (fun aW aL => ?_)
 clear aA
 refine At.dn ?_
 refine wp_ret ?_
 refine ret_ aL [] [.int .i64 (-1)] [] κ trivial ?_
 exact ⟨ret_eq (congrArg (Value.int .i64) (idx_no σ ω)), e8⟩
set_option maxHeartbeats 4000000 in
theorem contains_any {Aa : Option Addr} {ca : Nat} {la : List Int} {v : Int} {w : World} (ra : RdI w 0 w.heap.size Aa la) :
    Calls Tryd.prog 38 #[.slice Aa la.length ca, .int .i64 (v)] w fun e w' => e = .returned (.bool (decide (v ∈ la))) ∧ Ext w w' := by
 have hla := ra.len
 refine enter_ (args := [.slice Aa la.length ca, .int .i64 (v)]) Tryd.func38 rfl Tryd.ntmps38 (Nat.le_of_ble_eq_true rfl) (fun act0 f0 => ?_)
 have e0 : Ext w w := Ext.refl w
 refine sqs ?_
 refine At.rk f0 1 [] .n (fun act2 f1 => ?_)
 clear f0
 refine At.dn ?_
 refine sqs ?_
 refine At.rk f1 2 [(6, .int .i64 (v)), (5, .slice Aa la.length ca)] .n (fun act4 f3 => ?_)
 clear f1
 refine At.cl f3 (some 7) (args := #[.slice Aa la.length ca, .int .i64 (v)]) (index_any (v := v) (ra.wide (Nat.zero_le _) ω)) ?_
 rintro e_ w5 ⟨rfl, he⟩
 refine ⟨_, rfl, _, rfl, fun act6 f7 => ?_⟩
 clear f3; have g8 := gr_ext he; have := g8.size; replace e0 := e0.gn g8; have aB := ra.gn g8; clear ra; clear g8 he
 refine At.rk f7 2 [(4, .bool (decide ((idxI la v : Int) ≥ 0)))] .n (fun aC aA => ?_)
 clear f7
 refine At.dn ?_
 refine wp_ret ?_
 refine ret_ aA [] [.bool (decide ((idxI la v : Int) ≥ 0))] [] κ trivial ?_
 exact ⟨ret_eq (congrArg Value.bool (idx_in _ _)), e0⟩
end Go.Proofs.YtkkophhnliplhaaDoor
namespace Go.Proofs.YtkkophhnliplhaaDoor
open Go Go.RowKit
attribute [local irreducible] ofZ fromW wordsD ofD ofW lsD lenW lenN fullW withW lessW hasW hasD inW inD leastD putD onI tzI orS andS minusS orD andD minusD fullD emptyD
set_option maxHeartbeats 4000000 in
theorem among_any {Aa : Option Addr} {ca : Nat} {la : List Int} {n : Int} {w : World} (ra : RdI w 0 w.heap.size Aa la) :
    Calls Tryd.prog 43 #[.slice Aa la.length ca, .int .i64 (n)] w fun e w' => e = .returned (.agg (((wordsD (amoD la n) : List Int)).map wV).toArray) ∧ Ext w w' := by
 have hla := ra.len
 refine enter_ (args := [.slice Aa la.length ca, .int .i64 (n)]) Tryd.func43 rfl Tryd.ntmps43 (Nat.le_of_ble_eq_true rfl) (fun act0 f0 => ?_)
 have e0 : Ext w w := Ext.refl w
 refine sqs ?_
 refine At.bx f0 4 ((List.replicate 4 (0 : Int) : List Int).map wV) 47 (fun w1 g5 bx6 act4 f3 => ?_)
 clear f0; have := g5.size; replace e0 := e0.gn g5; have r9 := ra.gn g5; clear ra; have := bx6.lt; clear g5
 refine At.dn ?_
 refine sqs ?_
 refine At.bx f3 5 ((List.replicate 4 (0 : Int) : List Int).map wV) 47 (fun bJ aF aK bK aN => ?_)
 clear f3; have := aF.size; replace e0 := e0.gn aF; replace r9 := r9.gn aF; replace bx6 := bx6.gn aF; have := aK.lt; clear aF
 refine At.dn ?_
 refine wp_seq ?_
 refine sqs ?_
 refine At.rk aN 3 [(10, .int .i64 (0)), (9, .int .i64 (((la.length : Nat) : Int))), (8, .slice Aa la.length ca)] .n (fun bL aO => ?_)
 clear aN
 refine At.dn ?_
 have aP := aO.sb (r := [(10, .int .i64 (0)), (9, .int .i64 (((la.length : Nat) : Int))), (8, .slice Aa la.length ca), (5, pt w1.heap.size 0), (4, pt w.heap.size 0), (1, .int .i64 (n))])
 clear aO
 refine wp_block ?_
 refine loop_g (fun (m_ : Nat) a_ w_ => ∃ (k : Int) (xs : List Int), m_ = ((la.length : Int) - k).toNat ∧ (Frm 23 a_ [(10, .int .i64 (k)), (9, .int .i64 (((la.length : Nat) : Int))), (8, .slice Aa la.length ca), (5, pt w1.heap.size 0), (4, pt w.heap.size 0), (1, .int .i64 (n))]) ∧ (Ext w w_) ∧ (RdI w_ 0 w.heap.size Aa la) ∧ (Bx w_ (w.heap.size) ((List.replicate 4 (0 : Int) : List Int).map wV) 47) ∧ (Bx w_ (w1.heap.size) ((xs : List Int).map wV) 47) ∧ (0 ≤ k) ∧ (k ≤ (la.length : Int)) ∧ (AmoT la n xs k) ∧ (xs.length = 4)) _ ⟨0, List.replicate 4 (0 : Int), rfl, aP.sb, e0, r9, bx6, aK, ω, ω, amo_0, rfl⟩ ?_
 clear aP; clear r9; clear bx6; clear aK; clear e0
 intro m_ bM bN ⟨k, xs, hm27, aQ, aA, aC, aD, aB, i32, i33, hat, i34⟩
 have := aA.size; have := aD.lt; have := aB.lt; have hok_ := hat.ok
 refine sqs ?_
 refine At.rk aQ 1 [(11, .bool (decide ((k : Int) < ((la.length : Nat) : Int))))] .n (fun bO aG => ?_)
 clear aQ
 refine At.dn ?_
 refine wp_seq ?_
 refine cond_S aG (t := decide ((k : Int) < ((la.length : Nat) : Int))) rfl (fun aL => ?_) (fun aL => ?_)
 ·have bP := of_decide_eq_true aL
  refine wp_skip ?_
  refine t_n ?_
  have aR := aG.sb (r := [(10, .int .i64 (k)), (9, .int .i64 (((la.length : Nat) : Int))), (8, .slice Aa la.length ca), (5, pt w1.heap.size 0), (4, pt w.heap.size 0), (1, .int .i64 (n))])
  clear aG
  refine wp_seq ?_
  refine wp_block ?_
  refine sqs ?_
  obtain ⟨bQ, bC, _, _, bD⟩ := RdI.get aC (k) ω ω
  refine At.rk aR 5 [(7, .int .i64 (gI la (k))), (6, .int .i64 (k))] (.a k la.length bC <| .l bD <| .n) (fun bR aS => ?_)
  clear aR
  refine At.dn ?_
  refine sqs ?_
  refine At.rk aS 3 [(17, .bool ((gI la (k) : Int) == n))] .n (fun bS aT => ?_)
  clear aS
  refine At.dn ?_
  have aH := aT.sb (r := [(17, .bool ((gI la (k) : Int) == n)), (6, .int .i64 (k)), (10, .int .i64 (k)), (9, .int .i64 (((la.length : Nat) : Int))), (8, .slice Aa la.length ca), (5, pt w1.heap.size 0), (4, pt w.heap.size 0), (1, .int .i64 (n))])
  clear aT
  refine cond_S aH (t := (gI la (k) : Int) == n) rfl (fun aM => ?_) (fun aM => ?_)
  ·have bT := eq_of_beq aM
   refine At.start ?_
   refine At.rk aH 2 [(19, .int .i64 (k)), (18, .agg ((xs : List Int).map wV).toArray)] (.p (show ((xs : List Int).map wV).length = 4 from ((List.length_map _).trans σ)) <| .p aB.whole <| .o (.cs ((xs : List Int).map wV)) <| .n) (fun bU aU => ?_)
   clear aH
   refine At.cl aU (some 20) (with_any (s := xs) (n := k) σ) ?_
   rintro e_ bV ⟨rfl, he⟩
   refine ⟨_, rfl, _, rfl, fun bW aV => ?_⟩
   clear aU; have aE := gr_ext he; have := aE.size; replace aA := aA.gn aE; replace aC := aC.gn aE; replace aD := aD.gn aE; replace aB := aB.gn aE; clear aE he
   refine At.act aV (storeBlk (t := 47) (b := w1.heap.size) (n := 4) (cs' := ((withW xs k : List Int).map wV)) κ κ ((List.length_map _).trans (okLen (okW_with σ))) oneW_ ((show ((withW xs k : List Int).map wV).length = 4 from ((List.length_map _).trans (okLen (okW_with σ)))).trans (show ((xs : List Int).map wV).length = 4 from ((List.length_map _).trans σ)).symm) aB) ?_
   rintro d_ v_ bX ⟨rfl, aI, bE⟩
   refine ⟨_, rfl, fun bY aW => ?_⟩
   clear aV; have := aI.size; replace aA := aA.gr aI (fun k h => by injection h; omega); replace aC := aC.gb aI ω; replace aD := aD.gb aI ω; clear aB aI
   refine At.done rfl ?_
   refine b_n ?_
   refine t_n ?_
   have aX := aW.sb (r := [(10, .int .i64 (k)), (9, .int .i64 (((la.length : Nat) : Int))), (8, .slice Aa la.length ca), (5, pt w1.heap.size 0), (4, pt w.heap.size 0), (1, .int .i64 (n))])
   clear aW
   refine At.start ?_
   refine At.rk aX 2 [(10, .int .i64 (k + 1))] (.w 21 (k + 1) <| .n) (fun bZ bF => ?_)
   clear aX
   refine At.dn ?_
   exact ⟨_, ω, (k + 1), withW xs k, rfl, bF.sb, aA, aC, aD, bE, ω, ω, (amo_yes hat ω ω ω), (okW_with hat.ok).1⟩
  have cA := ne_of_beq_false aM
  refine wp_skip ?_
  refine b_n ?_
  refine t_n ?_
  have aY := aH.sb (r := [(10, .int .i64 (k)), (9, .int .i64 (((la.length : Nat) : Int))), (8, .slice Aa la.length ca), (5, pt w1.heap.size 0), (4, pt w.heap.size 0), (1, .int .i64 (n))])
  clear aH
  refine At.start ?_
  refine At.rk aY 2 [(10, .int .i64 (k + 1))] (.w 21 (k + 1) <| .n) (fun cB bG => ?_)
  clear aY
  refine At.dn ?_
  exact ⟨_, ω, (k + 1), xs, rfl, bG.sb, aA, aC, aD, aB, ω, ω, (amo_no hat ω), hat.ok.1⟩
 have cC := of_decide_eq_false aL
 refine wp_exit ?_
 refine t_e ?_
 clear hm27
 refine t_e ?_
 refine b_e ?_
 refine t_n ?_
 have aZ := aG.sb (r := [(5, pt w1.heap.size 0), (4, pt w.heap.size 0)]); clear aG
 refine sqs ?_
 refine At.rk aZ 1 [(22, .agg ((xs : List Int).map wV).toArray)] (.p (show ((xs : List Int).map wV).length = 4 from ((List.length_map _).trans σ)) <| .p aB.whole <| .o (.cs ((xs : List Int).map wV)) <| .n) (fun cD bA => ?_)
 clear aZ
 refine At.act bA (storeBlk (t := 47) (b := w.heap.size) (n := 4) (cs' := ((xs : List Int).map wV)) κ κ ((List.length_map _).trans σ) oneW_ ((show ((xs : List Int).map wV).length = 4 from ((List.length_map _).trans σ)).trans (show ((List.replicate 4 (0 : Int) : List Int).map wV).length = 4 from len_P).symm) aD) ?_
 rintro d_ v_ cE ⟨rfl, aJ, bH⟩
 refine ⟨_, rfl, fun cF bB => ?_⟩
 clear bA; have := aJ.size; replace aA := aA.gr aJ (fun k h => by injection h; omega); replace aC := aC.gb aJ ω; replace aB := aB.gb aJ ω; clear aD aJ
 refine At.dn ?_
 have bI := bB.sb (r := [(4, pt w.heap.size 0)]); clear bB
 refine wp_ret ?_
 refine retB_ bI (sl := 4) (cs := ((xs : List Int).map wV)) (m := 4) rfl κ κ ((List.length_map _).trans σ) bH ?_
 exact ⟨ret_map (amo_end hat ω), aA⟩
set_option maxHeartbeats 4000000 in
theorem ownG_any {Ag0 Ag1 Ag2 : Option Addr} {cg0 cg1 cg2 : Nat} {g : GameL} {p : Int} {w : World} (rg : RdG w 0 w.heap.size Ag0 Ag1 Ag2 cg0 cg1 cg2 g) :
    Calls Tryd.prog 27 #[.agg #[.slice Ag0 g.ow.length cg0, .slice Ag1 g.pr.length cg1, .slice Ag2 g.mv.length cg2], .int .i64 (p)] w fun e w' => e = .returned (.agg (((wordsD (amoD g.ow p) : List Int)).map wV).toArray) ∧ Ext w w' := by
 have hlg0 := rg.ow.len; have hlg1 := rg.pr.len; have hlg2 := rg.mv.len; have hkg0 := rg.k0; have hkg1 := rg.k1; have hkg2 := rg.k2
 refine enter_ (args := [.agg #[.slice Ag0 g.ow.length cg0, .slice Ag1 g.pr.length cg1, .slice Ag2 g.mv.length cg2], .int .i64 (p)]) Tryd.func27 rfl Tryd.ntmps27 (Nat.le_of_ble_eq_true rfl) (fun act0 f0 => ?_)
 have e0 : Ext w w := Ext.refl w
 refine sqs ?_
 refine At.bx f0 2 [.slice Ag0 g.ow.length cg0, .slice Ag1 g.pr.length cg1, .slice Ag2 g.mv.length cg2] 25 (fun w1 g5 bx6 act4 f3 => ?_)
 clear f0; have := g5.size; replace e0 := e0.gn g5; have r9 := rg.gn g5; clear rg; have := bx6.lt; clear g5
 refine At.bx f3 4 ((List.replicate 4 (0 : Int) : List Int).map wV) 47 (fun aL aB aC aM aE => ?_)
 clear f3; have := aB.size; replace e0 := e0.gn aB; replace r9 := r9.gn aB; replace bx6 := bx6.gn aB; have := aC.lt; clear aB
 refine At.dn ?_
 have aF := aE.sb (r := [(4, pt w1.heap.size 0), (2, pt w.heap.size 0), (1, .int .i64 (p))]); clear aE
 refine sqs ?_
 refine At.rk aF 3 [(7, .int .i64 (p)), (6, .slice Ag0 g.ow.length cg0)] (.l (bx6.cell (i := 0) rfl) <| .n) (fun aN aG => ?_)
 clear aF
 refine At.cl aG (some 8) (args := #[.slice Ag0 g.ow.length cg0, .int .i64 (p)]) (among_any (la := g.ow) (n := p) (r9.ow.wide (Nat.zero_le _) ω)) ?_
 rintro e_ aO ⟨rfl, he⟩
 refine ⟨_, rfl, _, rfl, fun aP aH => ?_⟩
 clear aG; have aA := gr_ext he; have := aA.size; replace e0 := e0.gn aA; replace r9 := r9.gn aA; replace bx6 := bx6.gn aA; replace aC := aC.gn aA; clear aA he
 refine At.act aH (storeBlk (t := 47) (b := w1.heap.size) (n := 4) (cs' := ((wordsD (amoD g.ow p) : List Int).map wV)) κ κ ((List.length_map _).trans (okLen (wordsD_W _))) oneW_ ((show ((wordsD (amoD g.ow p) : List Int).map wV).length = 4 from ((List.length_map _).trans (okLen (wordsD_W _)))).trans (show ((List.replicate 4 (0 : Int) : List Int).map wV).length = 4 from len_P).symm) aC) ?_
 rintro d_ v_ aQ ⟨rfl, aD, aJ⟩
 refine ⟨_, rfl, fun aR aI => ?_⟩
 clear aH; have := aD.size; replace e0 := e0.gr aD (fun k h => by injection h; omega); replace r9 := r9.gb aD ω; replace bx6 := bx6.gb aD ω; clear aC aD
 refine At.dn ?_
 have aK := aI.sb (r := [(4, pt w1.heap.size 0)]); clear aI
 refine wp_ret ?_
 refine retB_ aK (sl := 4) (cs := ((wordsD (amoD g.ow p) : List Int).map wV)) (m := 4) rfl κ κ ((List.length_map _).trans (okLen (wordsD_W _))) aJ ?_
 exact ⟨rfl, e0⟩
set_option maxHeartbeats 4000000 in
theorem atG_any {Ag0 Ag1 Ag2 : Option Addr} {cg0 cg1 cg2 : Nat} {g : GameL} {p : Int} {w : World} (rg : RdG w 0 w.heap.size Ag0 Ag1 Ag2 cg0 cg1 cg2 g) :
    Calls Tryd.prog 28 #[.agg #[.slice Ag0 g.ow.length cg0, .slice Ag1 g.pr.length cg1, .slice Ag2 g.mv.length cg2], .int .i64 (p)] w fun e w' => e = .returned (.agg (((wordsD (amoD g.pr p) : List Int)).map wV).toArray) ∧ Ext w w' := by
 have hlg0 := rg.ow.len; have hlg1 := rg.pr.len; have hlg2 := rg.mv.len; have hkg0 := rg.k0; have hkg1 := rg.k1; have hkg2 := rg.k2
 refine enter_ (args := [.agg #[.slice Ag0 g.ow.length cg0, .slice Ag1 g.pr.length cg1, .slice Ag2 g.mv.length cg2], .int .i64 (p)]) Tryd.func28 rfl Tryd.ntmps28 (Nat.le_of_ble_eq_true rfl) (fun act0 f0 => ?_)
 have e0 : Ext w w := Ext.refl w
 refine sqs ?_
 refine At.bx f0 2 [.slice Ag0 g.ow.length cg0, .slice Ag1 g.pr.length cg1, .slice Ag2 g.mv.length cg2] 25 (fun w1 g5 bx6 act4 f3 => ?_)
 clear f0; have := g5.size; replace e0 := e0.gn g5; have r9 := rg.gn g5; clear rg; have := bx6.lt; clear g5
 refine At.bx f3 4 ((List.replicate 4 (0 : Int) : List Int).map wV) 47 (fun aL aB aC aM aE => ?_)
 clear f3; have := aB.size; replace e0 := e0.gn aB; replace r9 := r9.gn aB; replace bx6 := bx6.gn aB; have := aC.lt; clear aB
 refine At.dn ?_
 have aF := aE.sb (r := [(4, pt w1.heap.size 0), (2, pt w.heap.size 0), (1, .int .i64 (p))]); clear aE
 refine sqs ?_
 refine At.rk aF 3 [(7, .int .i64 (p)), (6, .slice Ag1 g.pr.length cg1)] (.l (bx6.cell (i := 1) rfl) <| .n) (fun aN aG => ?_)
 clear aF
 refine At.cl aG (some 8) (args := #[.slice Ag1 g.pr.length cg1, .int .i64 (p)]) (among_any (la := g.pr) (n := p) (r9.pr.wide (Nat.zero_le _) ω)) ?_
 rintro e_ aO ⟨rfl, he⟩
 refine ⟨_, rfl, _, rfl, fun aP aH => ?_⟩
 clear aG; have aA := gr_ext he; have := aA.size; replace e0 := e0.gn aA; replace r9 := r9.gn aA; replace bx6 := bx6.gn aA; replace aC := aC.gn aA; clear aA he
 refine At.act aH (storeBlk (t := 47) (b := w1.heap.size) (n := 4) (cs' := ((wordsD (amoD g.pr p) : List Int).map wV)) κ κ ((List.length_map _).trans (okLen (wordsD_W _))) oneW_ ((show ((wordsD (amoD g.pr p) : List Int).map wV).length = 4 from ((List.length_map _).trans (okLen (wordsD_W _)))).trans (show ((List.replicate 4 (0 : Int) : List Int).map wV).length = 4 from len_P).symm) aC) ?_
 rintro d_ v_ aQ ⟨rfl, aD, aJ⟩
 refine ⟨_, rfl, fun aR aI => ?_⟩
 clear aH; have := aD.size; replace e0 := e0.gr aD (fun k h => by injection h; omega); replace r9 := r9.gb aD ω; replace bx6 := bx6.gb aD ω; clear aC aD
 refine At.dn ?_
 have aK := aI.sb (r := [(4, pt w1.heap.size 0)]); clear aI
 refine wp_ret ?_
 refine retB_ aK (sl := 4) (cs := ((wordsD (amoD g.pr p) : List Int).map wV)) (m := 4) rfl κ κ ((List.length_map _).trans (okLen (wordsD_W _))) aJ ?_
 exact ⟨rfl, e0⟩
end Go.Proofs.YtkkophhnliplhaaDoor
namespace Go.Proofs.YtkkophhnliplhaaDoor
open Go Go.RowKit
set_option maxHeartbeats 4000000 in
theorem sameInts_any {Aa : Option Addr} {ca : Nat} {la : List Int} {Ab : Option Addr} {cb : Nat} {lb : List Int} {w : World} (ra : RdI w 0 w.heap.size Aa la) (rb : RdI w 0 w.heap.size Ab lb) :
    Calls Tryd.prog 24 #[.slice Aa la.length ca, .slice Ab lb.length cb] w fun e w' => e = .returned (.bool (decide (la = lb))) ∧ Ext w w' := by
 have hla := ra.len; have hlb := rb.len
 refine enter_ (args := [.slice Aa la.length ca, .slice Ab lb.length cb]) Tryd.func24 rfl Tryd.ntmps24 (Nat.le_of_ble_eq_true rfl) (fun act0 f0 => ?_)
 have e0 : Ext w w := Ext.refl w
 refine sqs ?_
 refine At.rk f0 1 [(4, .bool false)] .n (fun act2 f1 => ?_)
 clear f0
 refine At.dn ?_
 refine wp_seq ?_
 refine sqs ?_
 refine At.rk f1 5 [(10, .bool ((((la.length : Nat) : Int) : Int) != ((lb.length : Nat) : Int)))] .n (fun act4 f3 => ?_)
 clear f1
 refine At.dn ?_
 refine cond_S f3 (t := (((la.length : Nat) : Int) : Int) != ((lb.length : Nat) : Int)) rfl (fun h5 => ?_) (fun h5 => ?_)
 ·have q6 := bne_iff_ne.1 h5
  refine sqs ?_
  refine At.rk f3 1 [(4, .bool false)] .n (fun act8 f7 => ?_)
  clear f3
  refine At.dn ?_
  refine wp_ret ?_
  refine t_r ?_
  refine ret_ f7 [] [.bool false] [] κ trivial ?_
  exact ⟨ret_eq (congrArg Value.bool (decide_eq_false (fun h => by subst h; omega)).symm), e0⟩
 have q9 := bne_eq_false_iff_eq.1 h5
 refine wp_skip ?_
 refine t_n ?_
 refine wp_seq ?_
 refine sqs ?_
 refine At.rk f3 1 [(5, .int .i64 (0))] .n (fun aS aI => ?_)
 clear f3
 refine At.dn ?_
 refine wp_block ?_
 refine loop_g (fun (m_ : Nat) a_ w_ => ∃ (k : Int), m_ = ((la.length : Int) - k).toNat ∧ (Frm 26 a_ [(5, .int .i64 (k)), (0, .slice Aa la.length ca), (1, .slice Ab lb.length cb)]) ∧ (Ext w w_) ∧ (RdI w_ 0 w.heap.size Aa la) ∧ (RdI w_ 0 w.heap.size Ab lb) ∧ (0 ≤ k) ∧ (k ≤ (la.length : Int)) ∧ (la.take k.toNat = lb.take k.toNat)) _ ⟨0, rfl, aI.sb, e0, ra, rb, ω, ω, rfl⟩ ?_
 clear aI; clear ra; clear rb; clear e0
 intro m_ aT aU ⟨k, hm16, aJ, aA, aE, aF, i20, i21, i22⟩
 have := aA.size
 refine wp_seq ?_
 refine sqs ?_
 refine At.rk aJ 4 [(14, .bool (decide ((k : Int) < ((la.length : Nat) : Int))))] .n (fun aV aB => ?_)
 clear aJ
 refine At.dn ?_
 refine cond_S aB (t := decide ((k : Int) < ((la.length : Nat) : Int))) rfl (fun aG => ?_) (fun aG => ?_)
 ·have aW := of_decide_eq_true aG
  refine wp_skip ?_
  refine t_n ?_
  refine wp_seq ?_
  refine wp_block ?_
  refine wp_seq ?_
  obtain ⟨aX, aL, _, _, aM⟩ := RdI.get aE (k) ω ω
  obtain ⟨aY, aN, _, _, aO⟩ := RdI.get aF (k) ω ω
  refine drawn_rk aB [(25, .bool ((gI la (k) : Int) != (gI lb (k))))] (.a k la.length aL <| .l aM <| .a k lb.length aN <| .l aO <| .n) (fun aZ bA aK aC => ?_)
  clear aB; have aD := gr_drew aK; have := aD.size; replace aA := aA.gn aD; replace aE := aE.gn aD; replace aF := aF.gn aD; clear aD aK
  refine t_n ?_
  refine cond_S aC (t := (gI la (k) : Int) != (gI lb (k))) rfl (fun aH => ?_) (fun aH => ?_)
  ·have bB := bne_iff_ne.1 aH
   refine sqs ?_
   refine At.rk aC 1 [(4, .bool false)] .n (fun bC aP => ?_)
   clear aC
   refine At.dn ?_
   refine wp_ret ?_
   refine b_r ?_
   refine t_r ?_
   refine t_r ?_
   refine b_r ?_
   refine t_r ?_
   refine ret_ aP [] [.bool false] [] κ trivial ?_
   exact ⟨ret_eq (congrArg Value.bool (decide_eq_false (fun h => by subst h; contradiction)).symm), aA⟩
  have bD := bne_eq_false_iff_eq.1 aH
  refine wp_skip ?_
  refine b_n ?_
  refine t_n ?_
  refine At.start ?_
  refine At.rk aC 3 [(5, .int .i64 (k + 1))] (.w 16 (k + 1) <| .n) (fun bE aQ => ?_)
  clear aC
  refine At.dn ?_
  exact ⟨_, ω, (k + 1), rfl, aQ.sb, aA, aE, aF, ω, ω, (take_next σ ω ω ω σ)⟩
 have bF := of_decide_eq_false aG
 refine wp_exit ?_
 refine t_e ?_
 clear hm16
 refine t_e ?_
 refine b_e ?_
 refine t_n ?_
 refine sqs ?_
 refine At.rk aB 1 [(4, .bool true)] .n (fun bG aR => ?_)
 clear aB
 refine At.dn ?_
 refine wp_ret ?_
 refine ret_ aR [] [.bool true] [] κ trivial ?_
 exact ⟨ret_eq (congrArg Value.bool (decide_eq_true (take_all σ ω ω)).symm), aA⟩
end Go.Proofs.YtkkophhnliplhaaDoor
namespace Go.Proofs.YtkkophhnliplhaaDoor
open Go Go.RowKit
set_option maxHeartbeats 4000000 in
theorem same_any {Aa0 Aa1 Aa2 : Option Addr} {ca0 ca1 ca2 : Nat} {a : GameL} {Ab0 Ab1 Ab2 : Option Addr} {cb0 cb1 cb2 : Nat} {b : GameL} {w : World} (ra : RdG w 0 w.heap.size Aa0 Aa1 Aa2 ca0 ca1 ca2 a) (rb : RdG w 0 w.heap.size Ab0 Ab1 Ab2 cb0 cb1 cb2 b) :
    Calls Tryd.prog 16 #[.agg #[.slice Aa0 a.ow.length ca0, .slice Aa1 a.pr.length ca1, .slice Aa2 a.mv.length ca2], .agg #[.slice Ab0 b.ow.length cb0, .slice Ab1 b.pr.length cb1, .slice Ab2 b.mv.length cb2]] w fun e w' => e = .returned (.bool (decide (a = b))) ∧ Ext w w' := by
 have hla0 := ra.ow.len; have hla1 := ra.pr.len; have hla2 := ra.mv.len; have hka0 := ra.k0; have hka1 := ra.k1; have hka2 := ra.k2; have hlb0 := rb.ow.len; have hlb1 := rb.pr.len; have hlb2 := rb.mv.len; have hkb0 := rb.k0; have hkb1 := rb.k1; have hkb2 := rb.k2
 refine enter_ (args := [.agg #[.slice Aa0 a.ow.length ca0, .slice Aa1 a.pr.length ca1, .slice Aa2 a.mv.length ca2], .agg #[.slice Ab0 b.ow.length cb0, .slice Ab1 b.pr.length cb1, .slice Ab2 b.mv.length cb2]]) Tryd.func16 rfl Tryd.ntmps16 (Nat.le_of_ble_eq_true rfl) (fun act0 f0 => ?_)
 have e0 : Ext w w := Ext.refl w
 refine sqs ?_
 refine At.bx f0 2 [.slice Aa0 a.ow.length ca0, .slice Aa1 a.pr.length ca1, .slice Aa2 a.mv.length ca2] 25 (fun w1 g5 bx6 act4 f3 => ?_)
 clear f0; have := g5.size; replace e0 := e0.gn g5; have r9 := ra.gn g5; clear ra; have aA := rb.gn g5; clear rb; have := bx6.lt; clear g5
 refine At.bx f3 3 [.slice Ab0 b.ow.length cb0, .slice Ab1 b.pr.length cb1, .slice Ab2 b.mv.length cb2] 25 (fun cO aM aB cP bF => ?_)
 clear f3; have := aM.size; replace e0 := e0.gn aM; replace r9 := r9.gn aM; replace aA := aA.gn aM; replace bx6 := bx6.gn aM; have := aB.lt; clear aM
 refine At.rk bF 1 [(4, .bool false)] .n (fun cQ bG => ?_)
 clear bF
 refine At.dn ?_
 refine sqs ?_
 refine At.rk bG 4 [(12, .slice Ab0 b.ow.length cb0), (10, .slice Aa0 a.ow.length ca0)] (.l (bx6.cell (i := 0) rfl) <| .l (aB.cell (i := 0) rfl) <| .n) (fun cR bH => ?_)
 clear bG
 refine At.cl bH (some 13) (args := #[.slice Aa0 a.ow.length ca0, .slice Ab0 b.ow.length cb0]) (sameInts_any (la := a.ow) (lb := b.ow) (r9.ow.wide (Nat.zero_le _) ω) (aA.ow.wide (Nat.zero_le _) ω)) ?_
 rintro e_ cS ⟨rfl, he⟩
 refine ⟨_, rfl, _, rfl, fun cT bI => ?_⟩
 clear bH; have aI := gr_ext he; have := aI.size; replace e0 := e0.gn aI; replace r9 := r9.gn aI; replace aA := aA.gn aI; replace bx6 := bx6.gn aI; replace aB := aB.gn aI; clear aI he
 refine At.rk bI 1 [(5, .bool (decide (a.ow = b.ow)))] .n (fun cU bJ => ?_)
 clear bI
 refine At.dn ?_
 refine sqs ?_
 refine At.rk bJ 4 [(17, .slice Ab1 b.pr.length cb1), (15, .slice Aa1 a.pr.length ca1)] (.l (bx6.cell (i := 1) rfl) <| .l (aB.cell (i := 1) rfl) <| .n) (fun cV bK => ?_)
 clear bJ
 refine At.cl bK (some 18) (args := #[.slice Aa1 a.pr.length ca1, .slice Ab1 b.pr.length cb1]) (sameInts_any (la := a.pr) (lb := b.pr) (r9.pr.wide (Nat.zero_le _) ω) (aA.pr.wide (Nat.zero_le _) ω)) ?_
 rintro e_ cW ⟨rfl, he⟩
 refine ⟨_, rfl, _, rfl, fun cX bL => ?_⟩
 clear bK; have aJ := gr_ext he; have := aJ.size; replace e0 := e0.gn aJ; replace r9 := r9.gn aJ; replace aA := aA.gn aJ; replace bx6 := bx6.gn aJ; replace aB := aB.gn aJ; clear aJ he
 refine At.rk bL 1 [(6, .bool (decide (a.pr = b.pr)))] .n (fun cY aN => ?_)
 clear bL
 refine At.dn ?_
 refine wp_seq ?_
 refine sqs ?_
 rcases Bool.eq_false_or_eq_true (!(decide (a.ow = b.ow))) with aC | aC
 ·have bV : (decide (a.ow = b.ow)) = false := by first | exact Eq.mp (Bool.not_eq_true' _) aC | exact Eq.mp (Bool.not_eq_false' _) aC | simpa using aC
  have cZ := of_decide_eq_false bV
  refine At.rk aN 15 [(33, .bool true)] (.e 21 aC <| .n) (fun dA aW => ?_)
  clear aN
  refine At.dn ?_
  refine cond_T aW rfl ?_
  refine sqs ?_
  refine At.rk aW 1 [(4, .bool false)] .n (fun dB bW => ?_)
  clear aW
  refine At.dn ?_
  refine wp_ret ?_
  refine t_r ?_
  refine ret_ bW [] [.bool false] [] κ trivial ?_
  exact ⟨ret_eq (congrArg Value.bool (by first | exact game_ne0 σ | exact game_ne1 σ | exact game_ne2 σ | exact game_ne3 σ | exact game_eq σ σ σ σ ω)), e0⟩
 have bX : (decide (a.ow = b.ow)) = true := by first | exact Eq.mp (Bool.not_eq_true' _) aC | exact Eq.mp (Bool.not_eq_false' _) aC | simpa using aC
 have dC := of_decide_eq_true bX
 rcases Bool.eq_false_or_eq_true (!(decide (a.pr = b.pr))) with aF | aF
 ·have bY : (decide (a.pr = b.pr)) = false := by first | exact Eq.mp (Bool.not_eq_true' _) aF | exact Eq.mp (Bool.not_eq_false' _) aF | simpa using aF
  have dD := of_decide_eq_false bY
  refine At.rk aN 15 [(33, .bool true)] (.e 21 aC <| .e 25 aF <| .n) (fun dE aX => ?_)
  clear aN
  refine At.dn ?_
  refine cond_T aX rfl ?_
  refine sqs ?_
  refine At.rk aX 1 [(4, .bool false)] .n (fun dF bZ => ?_)
  clear aX
  refine At.dn ?_
  refine wp_ret ?_
  refine t_r ?_
  refine ret_ bZ [] [.bool false] [] κ trivial ?_
  exact ⟨ret_eq (congrArg Value.bool (by first | exact game_ne0 σ | exact game_ne1 σ | exact game_ne2 σ | exact game_ne3 σ | exact game_eq σ σ σ σ ω)), e0⟩
 have cA : (decide (a.pr = b.pr)) = true := by first | exact Eq.mp (Bool.not_eq_true' _) aF | exact Eq.mp (Bool.not_eq_false' _) aF | simpa using aF
 have dG := of_decide_eq_true cA
 refine At.rk aN 15 [(33, .bool ((((a.mv.length : Nat) : Int) : Int) != ((b.mv.length : Nat) : Int)))] (.e 21 aC <| .e 25 aF <| .l (bx6.cell (i := 2) rfl) <| .l (aB.cell (i := 2) rfl) <| .n) (fun dH aS => ?_)
 clear aN
 refine At.dn ?_
 refine cond_S aS (t := (((a.mv.length : Nat) : Int) : Int) != ((b.mv.length : Nat) : Int)) rfl (fun aY => ?_) (fun aY => ?_)
 ·have dI := bne_iff_ne.1 aY
  refine sqs ?_
  refine At.rk aS 1 [(4, .bool false)] .n (fun dJ cB => ?_)
  clear aS
  refine At.dn ?_
  refine wp_ret ?_
  refine t_r ?_
  refine ret_ cB [] [.bool false] [] κ trivial ?_
  exact ⟨ret_eq (congrArg Value.bool (by first | exact game_ne0 σ | exact game_ne1 σ | exact game_ne2 σ | exact game_ne3 σ | exact game_eq σ σ σ σ ω)), e0⟩
 have dK := bne_eq_false_iff_eq.1 aY
 refine wp_skip ?_
 refine t_n ?_
 refine wp_seq ?_
 refine sqs ?_
 refine At.rk aS 1 [(7, .int .i64 (0))] .n (fun dL bM => ?_)
 clear aS
 refine At.dn ?_
 refine wp_block ?_
 refine loop_g (fun (m_ : Nat) a_ w_ => ∃ (k : Int), m_ = ((a.mv.length : Int) - k).toNat ∧ (Frm 54 a_ [(7, .int .i64 (k)), (3, pt w1.heap.size 0), (2, pt w.heap.size 0)]) ∧ (Ext w w_) ∧ (RdG w_ 0 w.heap.size Aa0 Aa1 Aa2 ca0 ca1 ca2 a) ∧ (RdG w_ 0 w.heap.size Ab0 Ab1 Ab2 cb0 cb1 cb2 b) ∧ (Bx w_ (w.heap.size) [.slice Aa0 a.ow.length ca0, .slice Aa1 a.pr.length ca1, .slice Aa2 a.mv.length ca2] 25) ∧ (Bx w_ (w1.heap.size) [.slice Ab0 b.ow.length cb0, .slice Ab1 b.pr.length cb1, .slice Ab2 b.mv.length cb2] 25) ∧ (0 ≤ k) ∧ (k ≤ (a.mv.length : Int)) ∧ (a.mv.take k.toNat = b.mv.take k.toNat)) _ ⟨0, rfl, bM.sb, e0, r9, aA, bx6, aB, ω, ω, rfl⟩ ?_
 clear bM; clear r9; clear aA; clear bx6; clear aB; clear e0
 intro m_ dM cC ⟨k, hm81, bN, aG, aO, aP, aH, aK, i87, i88, i89⟩
 have := aG.size; have := aH.lt; have := aK.lt
 refine wp_seq ?_
 refine sqs ?_
 refine At.rk bN 5 [(38, .bool (decide ((k : Int) < ((a.mv.length : Nat) : Int))))] (.l (aH.cell (i := 2) rfl) <| .n) (fun dN aT => ?_)
 clear bN
 refine At.dn ?_
 refine cond_S aT (t := decide ((k : Int) < ((a.mv.length : Nat) : Int))) rfl (fun aZ => ?_) (fun aZ => ?_)
 ·have dO := of_decide_eq_true aZ
  refine wp_skip ?_
  refine t_n ?_
  refine wp_seq ?_
  refine wp_block ?_
  refine wp_seq ?_
  obtain ⟨cD, bA, bB, cE, _, _, cF, dP, aQ⟩ := RdII.get aO.mv (k) ω ω
  have dQ := aQ.len
  obtain ⟨cG, bC, bD, cH, _, _, cI, dR, aR⟩ := RdII.get aP.mv (k) ω ω
  have dS := aR.len
  obtain ⟨bO, aU⟩ : ∃ c : List (Addr × Value), c = [(⟨w.heap.size, 2, none⟩, (.slice Aa2 a.mv.length ca2)), ((cD.add ((k : Int).toNat * 1)), (.slice bA ((gL a.mv (k)).length) bB)), (⟨w1.heap.size, 2, none⟩, (.slice Ab2 b.mv.length cb2)), ((cG.add ((k : Int).toNat * 1)), (.slice bC ((gL b.mv (k)).length) bD))] := ⟨_, rfl⟩
  have bP : HoldsC bO cC := by rw [aU]; exact ⟨(aH.cell (i := 2) rfl), cF, (aK.cell (i := 2) rfl), cI, trivial⟩
  refine AtH.start bO 12 _ κ rfl rfl (fun dT bQ => ?_)
  have aD := gr_drew bQ; have bR := bP.gr aD; have := aD.size; replace aG := aG.gn aD; replace aO := aO.gn aD; replace aP := aP.gn aD; replace aH := aH.gn aD; replace aK := aK.gn aD; replace aQ := aQ.gn aD; replace aR := aR.gn aD; clear aD bQ bP
  refine AtH.rk bR aT [0, 1, 2, 3, 4, 5, 6, 7, 8, 9] 2 [(50, .slice bC ((gL b.mv (k)).length) bD), (45, .slice bA ((gL a.mv (k)).length) bB)] (.l (CsC_at aU 0 rfl) <| .a k a.mv.length cE <| .l (CsC_at aU 1 rfl) <| .l (CsC_at aU 2 rfl) <| .a k b.mv.length cH <| .l (CsC_at aU 3 rfl) <| .n) (fun dU bS => ?_)
  clear aT
  refine AtH.all [10] 1 κ (by simp) ⟨?_, trivial⟩
  refine OneH.cl bS (some 51) (args := #[.slice bA ((gL a.mv (k)).length) bB, .slice bC ((gL b.mv (k)).length) bD]) (sameInts_any (la := gL a.mv (k)) (lb := gL b.mv (k)) (aQ.wide (Nat.zero_le _) ω) (aR.wide (Nat.zero_le _) ω)) ?_
  rintro e_ dV ⟨rfl, he⟩
  refine ⟨_, rfl, _, rfl, fun dW bT => ?_⟩
  clear bS; have aE := gr_ext he; have bE := bR.gr aE; have := aE.size; replace aG := aG.gn aE; replace aO := aO.gn aE; replace aP := aP.gn aE; replace aH := aH.gn aE; replace aK := aK.gn aE; replace aQ := aQ.gn aE; replace aR := aR.gn aE; clear aE he
  refine ⟨bE, ?_⟩
  refine AtH.rk bE bT [11] 0 [(8, .bool (decide (gL a.mv (k) = gL b.mv (k))))] .n (fun dX bU => ?_)
  clear bT
  refine AtH.done κ ?_
  clear bE
  refine t_n ?_
  refine sqs ?_
  refine At.rk bU 2 [(53, .bool (!(decide (gL a.mv (k) = gL b.mv (k)))))] .n (fun dY aV => ?_)
  clear bU
  refine At.dn ?_
  refine cond_S aV (t := !(decide (gL a.mv (k) = gL b.mv (k)))) rfl (fun aL => ?_) (fun aL => ?_)
  ·have cJ : (decide (gL a.mv (k) = gL b.mv (k))) = false := by first | exact Eq.mp (Bool.not_eq_true' _) aL | exact Eq.mp (Bool.not_eq_false' _) aL | simpa using aL
   have dZ := of_decide_eq_false cJ
   refine sqs ?_
   refine At.rk aV 1 [(4, .bool false)] .n (fun eA cK => ?_)
   clear aV
   refine At.dn ?_
   refine wp_ret ?_
   refine b_r ?_
   refine t_r ?_
   refine t_r ?_
   refine b_r ?_
   refine t_r ?_
   refine ret_ cK [] [.bool false] [] κ trivial ?_
   exact ⟨ret_eq (congrArg Value.bool (by first | exact game_ne0 σ | exact game_ne1 σ | exact game_ne2 σ | exact game_ne3 σ | exact game_eq σ σ σ σ ω)), aG⟩
  have cL : (decide (gL a.mv (k) = gL b.mv (k))) = true := by first | exact Eq.mp (Bool.not_eq_true' _) aL | exact Eq.mp (Bool.not_eq_false' _) aL | simpa using aL
  have eB := of_decide_eq_true cL
  refine wp_skip ?_
  refine b_n ?_
  refine t_n ?_
  refine At.start ?_
  refine At.rk aV 3 [(7, .int .i64 (k + 1))] (.w 40 (k + 1) <| .n) (fun eC cM => ?_)
  clear aV
  refine At.dn ?_
  exact ⟨_, ω, (k + 1), rfl, cM.sb, aG, aO, aP, aH, aK, ω, ω, (takeL_next σ ω ω ω σ)⟩
 have eD := of_decide_eq_false aZ
 refine wp_exit ?_
 refine t_e ?_
 clear hm81
 refine t_e ?_
 refine b_e ?_
 refine t_n ?_
 refine sqs ?_
 refine At.rk aT 1 [(4, .bool true)] .n (fun eE cN => ?_)
 clear aT
 refine At.dn ?_
 refine wp_ret ?_
 refine ret_ cN [] [.bool true] [] κ trivial ?_
 exact ⟨ret_eq (congrArg Value.bool (by first | exact game_ne0 σ | exact game_ne1 σ | exact game_ne2 σ | exact game_ne3 σ | exact game_eq σ σ σ σ ω)), aG⟩
end Go.Proofs.YtkkophhnliplhaaDoor
namespace Go.Proofs.YtkkophhnliplhaaDoor
open Go Go.RowKit
theorem right_nil {w : World} : Calls Tryd.prog 14 #[.agg #[.slice none 0 0, .slice none 0 0, .slice none 0 0]] w fun e w' => e = .returned (.tuple #[.int .i64 0, .int .i64 10]) ∧ Ext w w' := by
  have h := right_any (g := (⟨[], [], []⟩ : GameL)) (w := w) (Ag0 := none) (Ag1 := none) (Ag2 := none) (cg0 := 0) (cg1 := 0) (cg2 := 0) rdG_nil
  have e1 : (rightP (⟨[], [], []⟩ : GameL)) = (0, 10) := by decide +kernel
  rw [e1] at h
  exact h
end Go.Proofs.YtkkophhnliplhaaDoor
namespace Go.Proofs.YtkkophhnliplhaaDoor
open Go Go.RowKit
set_option maxHeartbeats 4000000 in
theorem clone_nil {ca : Nat} {w : World} :
    Calls Tryd.prog 37 #[.slice none 0 ca] w fun e w' => e = .returned (.slice none 0 0) ∧ Ext w w' := by
 refine enter_ (args := [.slice none 0 ca]) Tryd.func37 rfl Tryd.ntmps37 (Nat.le_of_ble_eq_true rfl) (fun act0 f0 => ?_)
 have e0 : Ext w w := Ext.refl w
 refine sqs ?_
 refine At.rk f0 1 [] .n (fun act2 f1 => ?_)
 clear f0
 refine At.dn ?_
 refine wp_seq ?_
 refine sqs ?_
 refine At.rk f1 2 [(4, .bool true)] .n (fun act4 f3 => ?_)
 clear f1
 refine At.dn ?_
 refine cond_T f3 rfl ?_
 refine sqs ?_
 refine At.rk f3 1 [(2, .slice none 0 0)] .n (fun act6 f5 => ?_)
 clear f3
 refine At.dn ?_
 have f7 := f5.sb (r := [(2, .slice none 0 0)]); clear f5
 refine wp_ret ?_
 refine t_r ?_
 refine ret_ f7 [] [.slice none 0 0] [] κ trivial ?_
 exact ⟨rfl, e0⟩
set_option maxHeartbeats 4000000 in
theorem clone_some {aa : Addr} {ca : Nat} {la : List Int} {w : World} (ra : RdI w 0 w.heap.size (some aa) la) :
    Calls Tryd.prog 37 #[.slice (some aa) la.length ca] w fun e w' => ∃ A c, e = .returned (.slice A (la).length c) ∧ Ext w w' ∧ OwnR w' (Sx w.heap.size []) A c 3 (la : List Int) := by
 have hla := ra.len
 refine enter_ (args := [.slice (some aa) la.length ca]) Tryd.func37 rfl Tryd.ntmps37 (Nat.le_of_ble_eq_true rfl) (fun act0 f0 => ?_)
 have e0 : Ext w w := Ext.refl w
 refine sqs ?_
 refine At.rk f0 1 [] .n (fun act2 f1 => ?_)
 clear f0
 refine At.dn ?_
 refine wp_seq ?_
 refine sqs ?_
 refine At.rk f1 2 [(4, .bool false)] .n (fun act4 f3 => ?_)
 clear f1
 refine At.dn ?_
 refine cond_F f3 rfl ?_
 refine wp_skip ?_
 refine t_n ?_
 have f5 := f3.sb (r := [(0, .slice (some aa) la.length ca)]); clear f3
 refine sqs ?_
 refine At.seq f5 1 [[]] [(5, .slice (some ⟨w.heap.size, 0, none⟩) 0 0)] (w.alloc (.cells #[] 3 (0, 0))) [] κ trivial (fun act9 w6 hw7 f8 => ?_)
 clear f5; have aC := gr_alloc hw7; have := aC.size; replace e0 := e0.gn aC; have aG := ra.gn aC; clear ra; have aH : Bx w6 (w.heap.size) [] 3 := Bx.new hw7; have := aH.lt; clear aC hw7
 refine At.rk f8 1 [(6, .slice (some aa) la.length ca)] .n (fun aP aJ => ?_)
 clear f8; have aD : OwnR w6 (Sx (w.heap.size) []) (some ⟨w.heap.size, 0, none⟩) 0 3 ([] : List Int) := Bx.own0 aH (Nat.le_refl _); clear aH; have aM : (([] : List Int) ++ la).length = (([] : List Int)).length + (la : List Int).length := List.length_append
 simp only [List.length_cons, List.length_nil] at aM
 refine At.act aJ (appendR (α := Int) (t := 22) (d := 7) (n := 0) (m := la.length) (cc := ca) (xs := []) (ys := la) (bytes := 8) (by first | rfl | omega | (simp; done) | (simp; omega)) (by first | rfl | omega | (simp; done) | (simp; omega)) κ rfl κ aD aG.srcR (by simp only [List.length_cons, List.length_nil]; omega) (by simp only [List.length_cons, List.length_nil]; omega)) ?_
 rintro d_ v_ aN ⟨rfl, aA, aB, aE⟩
 obtain rfl := aE.val
 have aF := aE.gr
 refine ⟨_, rfl, fun aQ aK => ?_⟩
 clear aJ; have aI := aE.own (Sx (w.heap.size) []) (fun g _ hs => hs) (show w.heap.size ≤ w6.heap.size by omega); have := aF.size; replace e0 := e0.gr aF (fun k hk => by have := aD.ge k hk; omega); replace aG := aG.gr aF (fun k hk => by have := aD.ge k hk; omega); clear aD aF aE; replace aI : OwnR aN (Sx (w.heap.size) []) aA aB 3 (la : List Int) := aI
 refine At.rk aK 1 [(2, .slice aA ((([] : List Int) ++ la).length) aB)] .n (fun aR aL => ?_)
 clear aK
 refine At.dn ?_
 have aO := aL.sb (r := [(2, .slice aA ((([] : List Int) ++ la).length) aB)]); clear aL
 refine wp_ret ?_
 refine ret_ aO [] [.slice aA ((([] : List Int) ++ la).length) aB] [] κ trivial ?_
 exact ⟨aA, aB, rfl, e0, (aI.imp (fun g _ hs => by have := Sx_base hs; show w.heap.size ≤ g; omega))⟩
theorem clone_any {Aa : Option Addr} {ca : Nat} {la : List Int} {w : World} (ra : RdI w 0 w.heap.size Aa la) :
    Calls Tryd.prog 37 #[.slice Aa la.length ca] w fun e w' => ∃ A c, e = .returned (.slice A la.length c) ∧ Ext w w' ∧ OwnR w' (Sx w.heap.size []) A c 3 (la : List Int) := by
  cases Aa with
  | none =>
    obtain rfl := rdI_isNone ra rfl
    exact clone_nil.mono fun e w' h => ⟨none, 0, h.1, h.2, OwnR.nil⟩
  | some aa => exact clone_some ra
end Go.Proofs.YtkkophhnliplhaaDoor
namespace Go.Proofs.YtkkophhnliplhaaDoor
open Go Go.RowKit
set_option maxHeartbeats 4000000 in
theorem copyM_any {Ag0 Ag1 Ag2 : Option Addr} {cg0 cg1 cg2 : Nat} {g : GameL} {w : World} (rg : RdG w 0 w.heap.size Ag0 Ag1 Ag2 cg0 cg1 cg2 g) :
    Calls Tryd.prog 17 #[.agg #[.slice Ag0 g.ow.length cg0, .slice Ag1 g.pr.length cg1, .slice Ag2 g.mv.length cg2]] w fun e w' => ∃ A0 c0 A1 c1 A2 c2, e = .returned (.agg #[.slice A0 g.ow.length c0, .slice A1 g.pr.length c1, .slice A2 g.mv.length c2]) ∧ Ext w w' ∧ OwnR w' (Sx w.heap.size [obk A1, obk A2]) A0 c0 3 g.ow ∧ OwnR w' (Sx w.heap.size [obk A0, obk A2]) A1 c1 3 g.pr ∧ OwnLL w' w.heap.size [obk A0, obk A1] A2 c2 22 3 g.mv := by
 have hlg0 := rg.ow.len; have hlg1 := rg.pr.len; have hlg2 := rg.mv.len; have hkg0 := rg.k0; have hkg1 := rg.k1; have hkg2 := rg.k2
 refine enter_ (args := [.agg #[.slice Ag0 g.ow.length cg0, .slice Ag1 g.pr.length cg1, .slice Ag2 g.mv.length cg2]]) Tryd.func17 rfl Tryd.ntmps17 (Nat.le_of_ble_eq_true rfl) (fun act0 f0 => ?_)
 have e0 : Ext w w := Ext.refl w
 refine sqs ?_
 refine At.bx f0 1 [.slice Ag0 g.ow.length cg0, .slice Ag1 g.pr.length cg1, .slice Ag2 g.mv.length cg2] 25 (fun w1 g5 bx6 act4 f3 => ?_)
 clear f0; have := g5.size; replace e0 := e0.gn g5; have r9 := rg.gn g5; clear rg; have := bx6.lt; clear g5
 refine At.bx f3 2 [.slice none 0 0, .slice none 0 0, .slice none 0 0] 25 (fun aO cO aM jG fD => ?_)
 clear f3; have := cO.size; replace e0 := e0.gn cO; replace r9 := r9.gn cO; replace bx6 := bx6.gn cO; have := aM.lt; clear cO
 refine At.dn ?_
 have dT := fD.sb (r := [(2, pt w1.heap.size 0), (1, pt w.heap.size 0)]); clear fD
 refine wp_seq (cut (fun a_ w_ => ∃ (aC : Nat) (aA : Option Addr) (aB : Option Addr) (aQ : Nat) (aR : Nat), (Frm 29 a_ [(3, pt aC 0), (2, pt w1.heap.size 0), (1, pt w.heap.size 0)]) ∧ (Ext w w_) ∧ (RdG w_ 0 w.heap.size Ag0 Ag1 Ag2 cg0 cg1 cg2 g) ∧ (Bx w_ (w.heap.size) [.slice Ag0 g.ow.length cg0, .slice Ag1 g.pr.length cg1, .slice Ag2 g.mv.length cg2] 25) ∧ (Bx w_ (w1.heap.size) [.slice none 0 0, .slice none 0 0, .slice none 0 0] 25) ∧ (OwnR w_ (Sx (aO.heap.size) [obk (aB), some (aC)]) (aA) (aQ) 3 (g.ow : List Int)) ∧ (OwnR w_ (Sx (aO.heap.size) [obk (aA), some (aC)]) (aB) (aR) 3 (g.pr : List Int)) ∧ (Bx w_ (aC) [.slice (aA) ((g.ow).length) (aQ), .slice (aB) ((g.pr).length) (aR), .slice none 0 0] 25) ∧ (aO.heap.size ≤ aC) ∧ (aO.heap.size ≤ w_.heap.size)) ?_ ?_)
 ·obtain ⟨fE, cF⟩ : ∃ c : List (Addr × Value), c = [(⟨w.heap.size, 0, none⟩, (.slice Ag0 g.ow.length cg0)), (⟨w.heap.size, 1, none⟩, (.slice Ag1 g.pr.length cg1))] := ⟨_, rfl⟩
  have fF : HoldsC fE aO := by rw [cF]; exact ⟨(bx6.cell (i := 0) rfl), (bx6.cell (i := 1) rfl), trivial⟩
  refine AtH.start fE 9 _ κ rfl rfl (fun cP fG => ?_)
  have bY := gr_drew fG; have dU := fF.gr bY; have := bY.size; replace e0 := e0.gn bY; replace r9 := r9.gn bY; replace bx6 := bx6.gn bY; replace aM := aM.gn bY; clear bY fG fF
  refine AtH.rk dU dT [0, 1, 3, 4] 5 [(10, .slice Ag1 g.pr.length cg1), (7, .slice Ag0 g.ow.length cg0)] (.l (CsC_at cF 0 rfl) <| .l (CsC_at cF 1 rfl) <| .n) (fun jH dE => ?_)
  clear dT
  refine AtH.all [2, 7] 4 κ (by simp) ⟨?_, ?_, trivial⟩
  ·refine OneH.cl dE (some 8) (args := #[.slice Ag0 g.ow.length cg0]) (clone_any (la := g.ow) (r9.ow.wide (Nat.zero_le _) ω)) ?_
   rintro e_ cQ ⟨bA, bK, rfl, he, aU⟩
   refine ⟨_, rfl, _, rfl, fun jI dF => ?_⟩
   clear dE; have bZ := gr_ext he; have dV := dU.gr bZ; have := bZ.size; replace e0 := e0.gn bZ; replace r9 := r9.gn bZ; replace bx6 := bx6.gn bZ; replace aM := aM.gn bZ; clear bZ he
   refine ⟨dV, ?_⟩
   refine AtH.all [5, 7] 3 κ (by simp) ⟨?_, ?_, trivial⟩
   ·refine OneH.cl dF (some 11) (args := #[.slice Ag1 g.pr.length cg1]) (clone_any (la := g.pr) (r9.pr.wide (Nat.zero_le _) ω)) ?_
    rintro e_ cR ⟨cG, cS, rfl, he, bU⟩
    refine ⟨_, rfl, _, rfl, fun jJ fH => ?_⟩
    clear dF; have bV := gr_ext he; have dW := dV.gr bV; have fI := aU.lt; have := bV.size; replace e0 := e0.gn bV; replace r9 := r9.gn bV; replace bx6 := bx6.gn bV; replace aM := aM.gn bV
    replace aU : OwnR cR (Sx (cP.heap.size) [obk (cG)]) bA bK 3 (g.ow : List Int) := aU.grA bV (fun _ _ h => by cases h) (fun k hk hs => ⟨(fun e => by have := bU.ge _ e; omega), hs⟩)
    replace bU : OwnR cR (Sx (cQ.heap.size) [obk (bA)]) cG cS 3 (g.pr : List Int) := bU.imp (fun g _ hs => ⟨(fun e => by have := fI _ e; have := Sx_base hs; omega), hs⟩)
    clear fI; clear bV he
    refine ⟨dW, ?_⟩
    refine AtH.rk dW fH [6] 2 [(12, .agg #[.slice bA ((g.ow).length) bK, .slice cG ((g.pr).length) cS, .slice none 0 0])] .n (fun jK fJ => ?_)
    clear fH
    refine AtH.all [7] 1 κ (by simp) ⟨?_, trivial⟩
    refine OneH.bx fJ dW 3 [.slice none 0 0, .slice none 0 0, .slice none 0 0] 25 (fun jL bW dX iD jM fK => ?_)
    clear fJ; have := bW.size; replace e0 := e0.gn bW; replace r9 := r9.gn bW; replace bx6 := bx6.gn bW; replace aM := aM.gn bW; replace aU := aU.grN bW; replace bU := bU.grN bW; have := dX.lt; clear bW
    refine AtH.all [8] 0 κ (by simp) ⟨?_, trivial⟩
    refine OneH.store fK (t := 25) (b := cR.heap.size) (off := 0) (v := .agg #[.slice bA ((g.ow).length) bK, .slice cG ((g.pr).length) cS, .slice none 0 0]) _ rfl κ dX κ (fun jN iE bM dY iF => ?_)
    clear fK; replace dY : Bx iE (cR.heap.size) [.slice bA ((g.ow).length) bK, .slice cG ((g.pr).length) cS, .slice none 0 0] 25 := dY; have fL := iD.gr' bM (by rw [cF]; exact ⟨(by simp only [add_block]; omega), (by simp only [add_block]; omega), trivial⟩); have := bM.size; replace e0 := e0.gr bM (fun k h => by injection h; omega); replace r9 := r9.gb bM ω; replace bx6 := bx6.gb bM ω
    replace aM := aM.gb bM ω; replace aU := aU.gr bM (fun k hk => hk.1); replace bU := bU.gr bM (fun k hk => hk.1); clear dX bM
    refine ⟨fL, ?_⟩
    refine AtH.done κ ?_
    clear fL
    refine t_n ?_
    exact ⟨cR.heap.size, bA, cG, bK, cS, iF.sb, e0, r9, bx6, aM, (aU.imp (fun g _ hs => ⟨hs.2.1, hs.1, (by have := Sx_base hs; show aO.heap.size ≤ g; omega)⟩)), (bU.imp (fun g _ hs => ⟨hs.2.1, hs.1, (by have := Sx_base hs; show aO.heap.size ≤ g; omega)⟩)), dY, ω, ω⟩
   refine OneH.bx dF dV 3 [.slice none 0 0, .slice none 0 0, .slice none 0 0] 25 (fun iG cA cT iH jO fM => ?_)
   clear dF; have := cA.size; replace e0 := e0.gn cA; replace r9 := r9.gn cA; replace bx6 := bx6.gn cA; replace aM := aM.gn cA; replace aU := aU.grN cA; have := cT.lt; clear cA
   refine AtH.all [5] 2 κ (by simp) ⟨?_, trivial⟩
   refine OneH.cl fM (some 11) (args := #[.slice Ag1 g.pr.length cg1]) (clone_any (la := g.pr) (r9.pr.wide (Nat.zero_le _) ω)) ?_
   rintro e_ fN ⟨cH, cU, rfl, he, cI⟩
   refine ⟨_, rfl, _, rfl, fun jP fO => ?_⟩
   clear fM; have bN := gr_ext he; have dZ := iH.gr bN; have fP := aU.lt; have := bN.size; replace e0 := e0.gn bN; replace r9 := r9.gn bN; replace bx6 := bx6.gn bN; replace aM := aM.gn bN
   replace aU : OwnR fN (Sx (cP.heap.size) [obk (cH), some (cQ.heap.size)]) bA bK 3 (g.ow : List Int) := aU.grA bN (fun _ _ h => by cases h) (fun k hk hs => ⟨(fun e => by have := cI.ge _ e; omega), hs.1, hs.2⟩)
   replace cT := cT.gn bN
   replace cI : OwnR fN (Sx (iG.heap.size) [obk (bA)]) cH cU 3 (g.pr : List Int) := cI.imp (fun g _ hs => ⟨(fun e => by have := fP _ e; have := Sx_base hs; omega), hs⟩)
   clear fP; clear bN he
   refine ⟨dZ, ?_⟩
   refine AtH.rk dZ fO [6] 1 [(12, .agg #[.slice bA ((g.ow).length) bK, .slice cH ((g.pr).length) cU, .slice none 0 0])] .n (fun jQ fQ => ?_)
   clear fO
   refine AtH.all [8] 0 κ (by simp) ⟨?_, trivial⟩
   refine OneH.store fQ (t := 25) (b := cQ.heap.size) (off := 0) (v := .agg #[.slice bA ((g.ow).length) bK, .slice cH ((g.pr).length) cU, .slice none 0 0]) _ rfl κ cT κ (fun jR iI bO eA iJ => ?_)
   clear fQ; replace eA : Bx iI (cQ.heap.size) [.slice bA ((g.ow).length) bK, .slice cH ((g.pr).length) cU, .slice none 0 0] 25 := eA; have fR := dZ.gr' bO (by rw [cF]; exact ⟨(by simp only [add_block]; omega), (by simp only [add_block]; omega), trivial⟩); have := bO.size; replace e0 := e0.gr bO (fun k h => by injection h; omega); replace r9 := r9.gb bO ω; replace bx6 := bx6.gb bO ω
   replace aM := aM.gb bO ω; replace aU := aU.gr bO (fun k hk => hk.2.1); replace cI := cI.gr bO (fun k hk e => by have := Sx_base hk; injection e; omega); clear cT bO
   refine ⟨fR, ?_⟩
   refine AtH.done κ ?_
   clear fR
   refine t_n ?_
   exact ⟨cQ.heap.size, bA, cH, bK, cU, iJ.sb, e0, r9, bx6, aM, (aU.imp (fun g _ hs => ⟨hs.1, hs.2.1, (by have := Sx_base hs; show aO.heap.size ≤ g; omega)⟩)), (cI.imp (fun g _ hs => ⟨hs.1, (fun e => by have := Sx_base hs; injection e; omega), (by have := Sx_base hs; show aO.heap.size ≤ g; omega)⟩)), eA, ω, ω⟩
  refine OneH.bx dE dU 3 [.slice none 0 0, .slice none 0 0, .slice none 0 0] 25 (fun iK cJ cB iL jS fS => ?_)
  clear dE; have := cJ.size; replace e0 := e0.gn cJ; replace r9 := r9.gn cJ; replace bx6 := bx6.gn cJ; replace aM := aM.gn cJ; have := cB.lt; clear cJ
  refine AtH.all [2] 3 κ (by simp) ⟨?_, trivial⟩
  refine OneH.cl fS (some 8) (args := #[.slice Ag0 g.ow.length cg0]) (clone_any (la := g.ow) (r9.ow.wide (Nat.zero_le _) ω)) ?_
  rintro e_ iM ⟨cK, cV, rfl, he, cL⟩
  refine ⟨_, rfl, _, rfl, fun jT fT => ?_⟩
  clear fS; have bX := gr_ext he; have fU := iL.gr bX; have := bX.size; replace e0 := e0.gn bX; replace r9 := r9.gn bX; replace bx6 := bx6.gn bX; replace aM := aM.gn bX; replace cB := cB.gn bX; clear bX he
  refine ⟨fU, ?_⟩
  refine AtH.all [5] 2 κ (by simp) ⟨?_, trivial⟩
  refine OneH.cl fT (some 11) (args := #[.slice Ag1 g.pr.length cg1]) (clone_any (la := g.pr) (r9.pr.wide (Nat.zero_le _) ω)) ?_
  rintro e_ fV ⟨cM, cW, rfl, he, cN⟩
  refine ⟨_, rfl, _, rfl, fun jU fW => ?_⟩
  clear fT; have bP := gr_ext he; have eB := fU.gr bP; have fX := cL.lt; have := bP.size; replace e0 := e0.gn bP; replace r9 := r9.gn bP; replace bx6 := bx6.gn bP; replace aM := aM.gn bP; replace cB := cB.gn bP
  replace cL : OwnR fV (Sx (iK.heap.size) [obk (cM)]) cK cV 3 (g.ow : List Int) := cL.grA bP (fun _ _ h => by cases h) (fun k hk hs => ⟨(fun e => by have := cN.ge _ e; omega), hs⟩)
  replace cN : OwnR fV (Sx (iM.heap.size) [obk (cK)]) cM cW 3 (g.pr : List Int) := cN.imp (fun g _ hs => ⟨(fun e => by have := fX _ e; have := Sx_base hs; omega), hs⟩)
  clear fX; clear bP he
  refine ⟨eB, ?_⟩
  refine AtH.rk eB fW [6] 1 [(12, .agg #[.slice cK ((g.ow).length) cV, .slice cM ((g.pr).length) cW, .slice none 0 0])] .n (fun jV fY => ?_)
  clear fW
  refine AtH.all [8] 0 κ (by simp) ⟨?_, trivial⟩
  refine OneH.store fY (t := 25) (b := cP.heap.size) (off := 0) (v := .agg #[.slice cK ((g.ow).length) cV, .slice cM ((g.pr).length) cW, .slice none 0 0]) _ rfl κ cB κ (fun jW iN bQ eC iO => ?_)
  clear fY; replace eC : Bx iN (cP.heap.size) [.slice cK ((g.ow).length) cV, .slice cM ((g.pr).length) cW, .slice none 0 0] 25 := eC; have fZ := eB.gr' bQ (by rw [cF]; exact ⟨(by simp only [add_block]; omega), (by simp only [add_block]; omega), trivial⟩); have := bQ.size; replace e0 := e0.gr bQ (fun k h => by injection h; omega); replace r9 := r9.gb bQ ω; replace bx6 := bx6.gb bQ ω
  replace aM := aM.gb bQ ω; replace cL := cL.gr bQ (fun k hk e => by have := Sx_base hk; injection e; omega); replace cN := cN.gr bQ (fun k hk e => by have := Sx_base hk; injection e; omega); clear cB bQ
  refine ⟨fZ, ?_⟩
  refine AtH.done κ ?_
  clear fZ
  refine t_n ?_
  exact ⟨cP.heap.size, cK, cM, cV, cW, iO.sb, e0, r9, bx6, aM, (cL.imp (fun g _ hs => ⟨hs.1, (fun e => by have := Sx_base hs; injection e; omega), (by have := Sx_base hs; show aO.heap.size ≤ g; omega)⟩)), (cN.imp (fun g _ hs => ⟨hs.1, (fun e => by have := Sx_base hs; injection e; omega), (by have := Sx_base hs; show aO.heap.size ≤ g; omega)⟩)), eC, ω, ω⟩
 clear r9; clear bx6; clear aM; clear dT e0
 intro jX aS ⟨aC, aA, aB, aQ, aR, gA, eD, gB, dG, eE, dH, dI, eF, jY, jZ⟩
 have := eD.size; have := dG.lt; have := eE.lt; have := eF.lt
 refine wp_seq ?_
 refine sqs ?_
 refine At.rk gA 4 [(16, .int .i64 (0)), (15, .int .i64 (((g.mv.length : Nat) : Int))), (14, .slice Ag2 g.mv.length cg2)] (.l (dG.cell (i := 2) rfl) <| .n) (fun kA gC => ?_)
 clear gA
 refine At.dn ?_
 have gD := gC.sb (r := [(16, .int .i64 (0)), (15, .int .i64 (((g.mv.length : Nat) : Int))), (14, .slice Ag2 g.mv.length cg2), (3, pt aC 0), (2, pt w1.heap.size 0)])
 clear gC
 refine wp_block ?_
 have gE : OwnLL aS (aS.heap.size) [obk (aA), obk (aB)] none 0 22 3 ([] : List (List Int)) := OwnLL.nil; replace dH : OwnR aS (Sx (aO.heap.size) [obk none, obk (aB), some (aC)]) aA aQ 3 (g.ow : List Int) := dH.imp (fun g _ hs => ⟨by simp [obk], hs⟩); replace dI : OwnR aS (Sx (aO.heap.size) [obk none, obk (aA), some (aC)]) aB aR 3 (g.pr : List Int) := dI.imp (fun g _ hs => ⟨by simp [obk], hs⟩)
 refine loop_g (fun (m_ : Nat) a_ w_ => ∃ (k : Int) (xs : List (List Int)) (aG : Option Addr) (aP : Nat), m_ = ((g.mv.length : Int) - k).toNat ∧ (Frm 29 a_ [(16, .int .i64 (k)), (15, .int .i64 (((g.mv.length : Nat) : Int))), (14, .slice Ag2 g.mv.length cg2), (3, pt aC 0), (2, pt w1.heap.size 0)]) ∧ (Ext w w_) ∧ (RdG w_ 0 w.heap.size Ag0 Ag1 Ag2 cg0 cg1 cg2 g) ∧ (Bx w_ (w.heap.size) [.slice Ag0 g.ow.length cg0, .slice Ag1 g.pr.length cg1, .slice Ag2 g.mv.length cg2] 25) ∧ (Bx w_ (w1.heap.size) [.slice none 0 0, .slice none 0 0, .slice none 0 0] 25) ∧ (OwnR w_ (Sx (aO.heap.size) [obk (aG), obk (aB), some (aC)]) aA aQ 3 (g.ow : List Int)) ∧ (OwnR w_ (Sx (aO.heap.size) [obk (aG), obk (aA), some (aC)]) aB aR 3 (g.pr : List Int)) ∧ (Bx w_ (aC) [.slice aA ((g.ow).length) aQ, .slice aB ((g.pr).length) aR, .slice aG xs.length aP] 25) ∧ (OwnLL w_ (aS.heap.size) [obk (aA), obk (aB)] aG aP 22 3 (xs : List (List Int))) ∧ (0 ≤ k) ∧ (k ≤ (g.mv.length : Int)) ∧ (xs = g.mv.take k.toNat) ∧ (aO.heap.size ≤ w_.heap.size) ∧ (aS.heap.size ≤ w_.heap.size)) _ ⟨0, ([] : List (List Int)), none, 0, rfl, gD.sb, eD, gB, dG, eE, dH, dI, (eF.as (by first | rfl | (simp only [List.cons.injEq, Value.slice.injEq, true_and, and_true]; omega))), gE, ω, ω, rfl, ω, ω⟩ ?_
 clear gD; clear gB; clear dG; clear eE; clear dH; clear dI; clear eF; clear gE; clear eD
 intro m_ kB iP ⟨k, xs, aG, aP, hm225, gF, aI, aJ, aK, aL, aE, aF, aH, dJ, i234, i235, hxs, i236, i237⟩
 have := aI.size; have := aK.lt; have := aL.lt; have := aH.lt
 have hxl : xs.length = k.toNat := by rw [hxs, List.length_take]; omega
 refine sqs ?_
 refine At.rk gF 1 [(17, .bool (decide ((k : Int) < ((g.mv.length : Nat) : Int))))] .n (fun kC cX => ?_)
 clear gF
 refine At.dn ?_
 refine wp_seq ?_
 refine cond_S cX (t := decide ((k : Int) < ((g.mv.length : Nat) : Int))) rfl (fun eG => ?_) (fun eG => ?_)
 ·have kD := of_decide_eq_true eG
  refine wp_skip ?_
  refine t_n ?_
  have gG := cX.sb (r := [(16, .int .i64 (k)), (15, .int .i64 (((g.mv.length : Nat) : Int))), (14, .slice Ag2 g.mv.length cg2), (3, pt aC 0), (2, pt w1.heap.size 0)])
  clear cX
  refine wp_seq ?_
  refine wp_block ?_
  refine sqs ?_
  obtain ⟨kE, dK, dL, iQ, _, _, iR, kF, aN⟩ := RdII.get aJ.mv (k) ω ω
  have kG := aN.len
  refine At.rk gG 3 [(5, .slice dK ((gL g.mv (k)).length) dL)] (.a k g.mv.length iQ <| .l iR <| .n) (fun kH gH => ?_)
  clear gG
  refine At.dn ?_
  obtain ⟨gI, cC⟩ : ∃ c : List (Addr × Value), c = [] := ⟨_, rfl⟩
  have gJ : HoldsC gI iP := by rw [cC]; exact trivial
  refine AtH.start gI 8 _ κ rfl rfl (fun cY gK => ?_)
  have bB := gr_drew gK; have dM := gJ.gr bB; have := bB.size; replace aI := aI.gn bB; replace aJ := aJ.gn bB; replace aK := aK.gn bB; replace aL := aL.gn bB; replace aE := aE.gn bB; replace aF := aF.gn bB; replace aH := aH.gn bB; have aD := dJ.gn bB; clear dJ; replace aN := aN.gn bB; clear bB gK gJ
  refine AtH.rk dM gH [0, 2] 6 [(22, .slice dK ((gL g.mv (k)).length) dL), (20, pt aC 2)] .n (fun kI dN => ?_)
  clear gH
  refine AtH.all [1, 3] 5 κ (by simp) ⟨?_, ?_, trivial⟩
  ·refine OneH.seq dN [[.ld (.slice aG xs.length aP)]] [(21, .slice aG xs.length aP)] cY [(cY.cell? ⟨aC, 2, none⟩ = some (.slice aG xs.length aP))] _ rfl κ κ ⟨(aH.cell (i := 2) rfl), trivial⟩ (fun kJ iS iT gM => ?_)
   obtain rfl : cY = iS := iT.symm
   clear dN
   refine ⟨dM, ?_⟩
   refine AtH.all [3] 4 κ (by simp) ⟨?_, trivial⟩
   refine OneH.cl gM (some 23) (args := #[.slice dK ((gL g.mv (k)).length) dL]) (clone_any (la := gL g.mv (k)) (aN.wide (Nat.zero_le _) ω)) ?_
   rintro e_ bR ⟨bL, dO, rfl, he, bS⟩
   refine ⟨_, rfl, _, rfl, fun kK gN => ?_⟩
   clear gM; have bC := gr_ext he; have gO := dM.gr bC; have gP := aE.lt; have gQ := aF.lt; have gR := aD.lt; have := bC.size; replace aI := aI.gn bC; replace aJ := aJ.gn bC; replace aK := aK.gn bC; replace aL := aL.gn bC
   replace aE : OwnR bR (Sx (aO.heap.size) [obk (bL), obk (aG), obk (aB), some (aC)]) aA aQ 3 (g.ow : List Int) := aE.grA bC (fun _ _ h => by cases h) (fun k hk hs => ⟨(fun e => by have := bS.ge _ e; omega), hs.1, hs.2.1, hs.2.2.1, hs.2.2.2⟩)
   replace aF : OwnR bR (Sx (aO.heap.size) [obk (bL), obk (aG), obk (aA), some (aC)]) aB aR 3 (g.pr : List Int) := aF.grA bC (fun _ _ h => by cases h) (fun k hk hs => ⟨(fun e => by have := bS.ge _ e; omega), hs.1, hs.2.1, hs.2.2.1, hs.2.2.2⟩)
   replace aH := aH.gn bC
   replace aD : OwnLL bR (aS.heap.size) [obk (bL), obk (aA), obk (aB)] aG aP 22 3 (xs : List (List Int)) := aD.grA bC (fun _ _ h => by cases h) (fun k hk hs => ⟨(fun e => by have := bS.ge _ e; omega), hs.1, hs.2.1, hs.2.2⟩)
   replace aN := aN.gn bC
   replace bS : OwnR bR (Sx (cY.heap.size) [obk (aA), obk (aB), obk (aG)]) bL dO 3 (gL g.mv (k) : List Int) := bS.imp (fun g _ hs => ⟨(fun e => by have := gP _ e; have := Sx_base hs; omega), (fun e => by have := gQ _ e; have := Sx_base hs; omega), (fun e => by have := gR _ e; have := Sx_base hs; omega), hs⟩)
   clear gP gQ gR; clear bC he
   refine ⟨gO, ?_⟩
   refine AtH.all [4] 3 κ (by simp) ⟨?_, trivial⟩
   refine OneH.seq gN [] [(24, .slice (some ⟨bR.heap.size, 0, none⟩) 1 1)] (bR.alloc (.cells #[.slice bL ((gL g.mv (k)).length) dO] 22 (0, 0))) [] _ rfl κ κ trivial (fun kL dP eH gS => ?_)
   clear gN; have aW := gr_alloc eH; have gT := gO.gr aW
   refine ⟨gT, ?_⟩
   have := aW.size; replace aI := aI.gn aW; replace aJ := aJ.gn aW; replace aK := aK.gn aW; replace aL := aL.gn aW; replace aE := aE.grN aW; replace aF := aF.grN aW; replace aH := aH.gn aW; replace aD := aD.grN aW; replace aN := aN.gn aW; replace bS := bS.grN aW; have eI : Bx dP (bR.heap.size) [.slice bL ((gL g.mv (k)).length) dO] 22 := Bx.new eH; have := eI.lt; clear aW eH
   refine AtH.all [5] 2 κ (by simp) ⟨?_, trivial⟩
   have gU : OwnR dP (Sx (aS.heap.size) [obk (aA), obk (aB)]) bL dO 3 (gL g.mv (k) : List Int) := bS.imp (fun g _ hs => ⟨hs.2.1, hs.2.2.1, (by have := Sx_base hs; show aS.heap.size ≤ g; omega)⟩)
   have gV : OwnLL dP (aS.heap.size) [obk (bL), obk (aA), obk (aB)] aG aP 22 3 (xs : List (List Int)) := (aD.imp (fun g _ hs => ⟨hs.2.1, hs.2.2.1, hs.2.2.2.1, hs.2.2.2.2⟩))
   have kM : (xs ++ [gL g.mv (k)]).length = (xs).length + 1 := by simp
   refine OneH.act gS _ rfl (appendLL (t := 23) (d := 25) (n := xs.length) (m := 1) (cc := 1) (ls := xs) (xs := gL g.mv (k)) (bytes := 24) (by first | rfl | omega | (simp; done) | (simp; omega)) κ κ (eI.as (by first | rfl | (simp; done))) gV gU ⟨aE.ne_new, aF.ne_new, (show aS.heap.size ≤ dP.heap.size by omega)⟩ ω ω) ?_
   rintro d_ v_ gW ⟨rfl, cZ, eJ, rfl, bE, eK, eL⟩
   have eM := gT.grO bE (by rw [cC]; exact trivial)
   refine ⟨_, rfl, fun kN gX => ⟨eM, ?_⟩⟩
   clear gS; clear eI bS gU gV; have := bE.size; replace aI := aI.gr bE (fun k hk => by have := aD.ge k hk; omega); replace aJ := aJ.gr bE (fun k hk => by have := aD.ge k hk; omega); replace aK := aK.gr bE (fun e => by have := aD.ge _ e; omega); replace aL := aL.gr bE (fun e => by have := aD.ge _ e; omega)
   replace aE : OwnR gW (Sx (aO.heap.size) [some (bR.heap.size), obk (bL), obk (cZ), obk (aB), some (aC)]) aA aQ 3 (g.ow : List Int) := aE.grA bE (fun k hk => hk.2.2.1) (fun k hk hs => ⟨hs.1, hs.2.1, own_repl eK hs.2.2.1 hk, hs.2.2.2.1, hs.2.2.2.2.1, hs.2.2.2.2.2⟩)
   replace aF : OwnR gW (Sx (aO.heap.size) [some (bR.heap.size), obk (bL), obk (cZ), obk (aA), some (aC)]) aB aR 3 (g.pr : List Int) := aF.grA bE (fun k hk => hk.2.2.1) (fun k hk hs => ⟨hs.1, hs.2.1, own_repl eK hs.2.2.1 hk, hs.2.2.2.1, hs.2.2.2.2.1, hs.2.2.2.2.2⟩)
   replace aH := aH.gr bE (fun e => by have := aD.ge _ e; omega); replace aN := aN.gr bE (fun k hk => by have := aD.ge k hk; omega); clear aD bE eK
   refine AtH.rk eM gX [6] 1 [(26, pt aC 2)] .n (fun kO gY => ?_)
   clear gX
   refine AtH.all [7] 0 κ (by simp) ⟨?_, trivial⟩
   refine OneH.store gY (t := 23) (b := aC) (off := 2) (v := .slice cZ ((xs ++ [gL g.mv (k)]).length) eJ) _ rfl κ aH κ (fun kP iU bF eN gZ => ?_)
   clear gY; replace eN : Bx iU (aC) [.slice aA ((g.ow).length) aQ, .slice aB ((g.pr).length) aR, .slice cZ ((xs ++ [gL g.mv (k)]).length) eJ] 25 := eN; have hA := eM.gr' bF (by rw [cC]; exact trivial); have := bF.size; replace aI := aI.gr bF (fun k h => by injection h; omega); replace aJ := aJ.gb bF ω; replace aK := aK.gb bF ω; replace aL := aL.gb bF ω
   replace aE := aE.gr bF (fun k hk => hk.2.2.2.2.1); replace aF := aF.gr bF (fun k hk => hk.2.2.2.2.1); replace aN := aN.gb bF ω; replace eL := eL.gr bF (fun k hk e => by have := Sx_base hk; injection e; omega); clear aH bF
   refine ⟨hA, ?_⟩
   refine AtH.done κ ?_
   clear hA
   refine b_n ?_
   refine t_n ?_
   have hB := gZ.sb (r := [(16, .int .i64 (k)), (15, .int .i64 (((g.mv.length : Nat) : Int))), (14, .slice Ag2 g.mv.length cg2), (3, pt aC 0), (2, pt w1.heap.size 0)])
   clear gZ
   refine At.start ?_
   refine At.rk hB 2 [(16, .int .i64 (k + 1))] (.w 27 (k + 1) <| .n) (fun kQ iV => ?_)
   clear hB
   refine At.dn ?_
   exact ⟨_, ω, (k + 1), (xs ++ [gL g.mv (k)] : List (List Int)), cZ, eJ, rfl, iV.sb, aI, aJ, aK, aL, (aE.imp (fun g _ hs => ⟨hs.2.2.1, hs.2.2.2.1, hs.2.2.2.2.1, hs.2.2.2.2.2⟩)), (aF.imp (fun g _ hs => ⟨hs.2.2.1, hs.2.2.2.1, hs.2.2.2.2.1, hs.2.2.2.2.2⟩)), eN, eL, ω, ω, (takeLL_push hxs ω ω), ω, ω⟩
  refine OneH.cl dN (some 23) (args := #[.slice dK ((gL g.mv (k)).length) dL]) (clone_any (la := gL g.mv (k)) (aN.wide (Nat.zero_le _) ω)) ?_
  rintro e_ aT ⟨aV, cD, rfl, he, aX⟩
  refine ⟨_, rfl, _, rfl, fun kR dQ => ?_⟩
  clear dN; have bD := gr_ext he; have dR := dM.gr bD; have hC := aE.lt; have hD := aF.lt; have hE := aD.lt; have := bD.size; replace aI := aI.gn bD; replace aJ := aJ.gn bD; replace aK := aK.gn bD; replace aL := aL.gn bD
  replace aE : OwnR aT (Sx (aO.heap.size) [obk (aV), obk (aG), obk (aB), some (aC)]) aA aQ 3 (g.ow : List Int) := aE.grA bD (fun _ _ h => by cases h) (fun k hk hs => ⟨(fun e => by have := aX.ge _ e; omega), hs.1, hs.2.1, hs.2.2.1, hs.2.2.2⟩)
  replace aF : OwnR aT (Sx (aO.heap.size) [obk (aV), obk (aG), obk (aA), some (aC)]) aB aR 3 (g.pr : List Int) := aF.grA bD (fun _ _ h => by cases h) (fun k hk hs => ⟨(fun e => by have := aX.ge _ e; omega), hs.1, hs.2.1, hs.2.2.1, hs.2.2.2⟩)
  replace aH := aH.gn bD
  replace aD : OwnLL aT (aS.heap.size) [obk (aV), obk (aA), obk (aB)] aG aP 22 3 (xs : List (List Int)) := aD.grA bD (fun _ _ h => by cases h) (fun k hk hs => ⟨(fun e => by have := aX.ge _ e; omega), hs.1, hs.2.1, hs.2.2⟩)
  replace aN := aN.gn bD
  replace aX : OwnR aT (Sx (cY.heap.size) [obk (aA), obk (aB), obk (aG)]) aV cD 3 (gL g.mv (k) : List Int) := aX.imp (fun g _ hs => ⟨(fun e => by have := hC _ e; have := Sx_base hs; omega), (fun e => by have := hD _ e; have := Sx_base hs; omega), (fun e => by have := hE _ e; have := Sx_base hs; omega), hs⟩)
  clear hC hD hE; clear bD he
  refine ⟨dR, ?_⟩
  refine AtH.all [1, 4] 4 κ (by simp) ⟨?_, ?_, trivial⟩
  ·refine OneH.seq dQ [[.ld (.slice aG xs.length aP)]] [(21, .slice aG xs.length aP)] aT [(aT.cell? ⟨aC, 2, none⟩ = some (.slice aG xs.length aP))] _ rfl κ κ ⟨(aH.cell (i := 2) rfl), trivial⟩ (fun kS iW iX hF => ?_)
   obtain rfl : aT = iW := iX.symm
   clear dQ
   refine ⟨dR, ?_⟩
   refine AtH.all [4] 3 κ (by simp) ⟨?_, trivial⟩
   refine OneH.seq hF [] [(24, .slice (some ⟨aT.heap.size, 0, none⟩) 1 1)] (aT.alloc (.cells #[.slice aV ((gL g.mv (k)).length) cD] 22 (0, 0))) [] _ rfl κ κ trivial (fun kT dS eO hG => ?_)
   clear hF; have aY := gr_alloc eO; have hH := dR.gr aY
   refine ⟨hH, ?_⟩
   have := aY.size; replace aI := aI.gn aY; replace aJ := aJ.gn aY; replace aK := aK.gn aY; replace aL := aL.gn aY; replace aE := aE.grN aY; replace aF := aF.grN aY; replace aH := aH.gn aY; replace aD := aD.grN aY; replace aN := aN.gn aY; replace aX := aX.grN aY; have eP : Bx dS (aT.heap.size) [.slice aV ((gL g.mv (k)).length) cD] 22 := Bx.new eO; have := eP.lt; clear aY eO
   refine AtH.all [5] 2 κ (by simp) ⟨?_, trivial⟩
   have hI : OwnR dS (Sx (aS.heap.size) [obk (aA), obk (aB)]) aV cD 3 (gL g.mv (k) : List Int) := aX.imp (fun g _ hs => ⟨hs.2.1, hs.2.2.1, (by have := Sx_base hs; show aS.heap.size ≤ g; omega)⟩)
   have hJ : OwnLL dS (aS.heap.size) [obk (aV), obk (aA), obk (aB)] aG aP 22 3 (xs : List (List Int)) := (aD.imp (fun g _ hs => ⟨hs.2.1, hs.2.2.1, hs.2.2.2.1, hs.2.2.2.2⟩))
   have kU : (xs ++ [gL g.mv (k)]).length = (xs).length + 1 := by simp
   refine OneH.act hG _ rfl (appendLL (t := 23) (d := 25) (n := xs.length) (m := 1) (cc := 1) (ls := xs) (xs := gL g.mv (k)) (bytes := 24) (by first | rfl | omega | (simp; done) | (simp; omega)) κ κ (eP.as (by first | rfl | (simp; done))) hJ hI ⟨aE.ne_new, aF.ne_new, (show aS.heap.size ≤ dS.heap.size by omega)⟩ ω ω) ?_
   rintro d_ v_ hK ⟨rfl, dA, eQ, rfl, bG, eR, eS⟩
   have eT := hH.grO bG (by rw [cC]; exact trivial)
   refine ⟨_, rfl, fun kV hL => ⟨eT, ?_⟩⟩
   clear hG; clear eP aX hI hJ; have := bG.size; replace aI := aI.gr bG (fun k hk => by have := aD.ge k hk; omega); replace aJ := aJ.gr bG (fun k hk => by have := aD.ge k hk; omega); replace aK := aK.gr bG (fun e => by have := aD.ge _ e; omega); replace aL := aL.gr bG (fun e => by have := aD.ge _ e; omega)
   replace aE : OwnR hK (Sx (aO.heap.size) [some (aT.heap.size), obk (aV), obk (dA), obk (aB), some (aC)]) aA aQ 3 (g.ow : List Int) := aE.grA bG (fun k hk => hk.2.2.1) (fun k hk hs => ⟨hs.1, hs.2.1, own_repl eR hs.2.2.1 hk, hs.2.2.2.1, hs.2.2.2.2.1, hs.2.2.2.2.2⟩)
   replace aF : OwnR hK (Sx (aO.heap.size) [some (aT.heap.size), obk (aV), obk (dA), obk (aA), some (aC)]) aB aR 3 (g.pr : List Int) := aF.grA bG (fun k hk => hk.2.2.1) (fun k hk hs => ⟨hs.1, hs.2.1, own_repl eR hs.2.2.1 hk, hs.2.2.2.1, hs.2.2.2.2.1, hs.2.2.2.2.2⟩)
   replace aH := aH.gr bG (fun e => by have := aD.ge _ e; omega); replace aN := aN.gr bG (fun k hk => by have := aD.ge k hk; omega); clear aD bG eR
   refine AtH.rk eT hL [6] 1 [(26, pt aC 2)] .n (fun kW hM => ?_)
   clear hL
   refine AtH.all [7] 0 κ (by simp) ⟨?_, trivial⟩
   refine OneH.store hM (t := 23) (b := aC) (off := 2) (v := .slice dA ((xs ++ [gL g.mv (k)]).length) eQ) _ rfl κ aH κ (fun kX iY bH eU hN => ?_)
   clear hM; replace eU : Bx iY (aC) [.slice aA ((g.ow).length) aQ, .slice aB ((g.pr).length) aR, .slice dA ((xs ++ [gL g.mv (k)]).length) eQ] 25 := eU; have hO := eT.gr' bH (by rw [cC]; exact trivial); have := bH.size; replace aI := aI.gr bH (fun k h => by injection h; omega); replace aJ := aJ.gb bH ω; replace aK := aK.gb bH ω; replace aL := aL.gb bH ω
   replace aE := aE.gr bH (fun k hk => hk.2.2.2.2.1); replace aF := aF.gr bH (fun k hk => hk.2.2.2.2.1); replace aN := aN.gb bH ω; replace eS := eS.gr bH (fun k hk e => by have := Sx_base hk; injection e; omega); clear aH bH
   refine ⟨hO, ?_⟩
   refine AtH.done κ ?_
   clear hO
   refine b_n ?_
   refine t_n ?_
   have hP := hN.sb (r := [(16, .int .i64 (k)), (15, .int .i64 (((g.mv.length : Nat) : Int))), (14, .slice Ag2 g.mv.length cg2), (3, pt aC 0), (2, pt w1.heap.size 0)])
   clear hN
   refine At.start ?_
   refine At.rk hP 2 [(16, .int .i64 (k + 1))] (.w 27 (k + 1) <| .n) (fun kY iZ => ?_)
   clear hP
   refine At.dn ?_
   exact ⟨_, ω, (k + 1), (xs ++ [gL g.mv (k)] : List (List Int)), dA, eQ, rfl, iZ.sb, aI, aJ, aK, aL, (aE.imp (fun g _ hs => ⟨hs.2.2.1, hs.2.2.2.1, hs.2.2.2.2.1, hs.2.2.2.2.2⟩)), (aF.imp (fun g _ hs => ⟨hs.2.2.1, hs.2.2.2.1, hs.2.2.2.2.1, hs.2.2.2.2.2⟩)), eU, eS, ω, ω, (takeLL_push hxs ω ω), ω, ω⟩
  refine OneH.seq dQ [] [(24, .slice (some ⟨aT.heap.size, 0, none⟩) 1 1)] (aT.alloc (.cells #[.slice aV ((gL g.mv (k)).length) cD] 22 (0, 0))) [] _ rfl κ κ trivial (fun kZ cE eV hQ => ?_)
  clear dQ; have aZ := gr_alloc eV; have eW := dR.gr aZ
  refine ⟨eW, ?_⟩
  have := aZ.size; replace aI := aI.gn aZ; replace aJ := aJ.gn aZ; replace aK := aK.gn aZ; replace aL := aL.gn aZ; replace aE := aE.grN aZ; replace aF := aF.grN aZ; replace aH := aH.gn aZ; replace aD := aD.grN aZ; replace aN := aN.gn aZ; replace aX := aX.grN aZ; have eX : Bx cE (aT.heap.size) [.slice aV ((gL g.mv (k)).length) cD] 22 := Bx.new eV; have := eX.lt; clear aZ eV
  refine AtH.all [1] 3 κ (by simp) ⟨?_, trivial⟩
  refine OneH.seq hQ [[.ld (.slice aG xs.length aP)]] [(21, .slice aG xs.length aP)] cE [(cE.cell? ⟨aC, 2, none⟩ = some (.slice aG xs.length aP))] _ rfl κ κ ⟨(aH.cell (i := 2) rfl), trivial⟩ (fun lA jA jB hR => ?_)
  obtain rfl : cE = jA := jB.symm
  clear hQ
  refine ⟨eW, ?_⟩
  refine AtH.all [5] 2 κ (by simp) ⟨?_, trivial⟩
  have hS : OwnR cE (Sx (aS.heap.size) [obk (aA), obk (aB)]) aV cD 3 (gL g.mv (k) : List Int) := aX.imp (fun g _ hs => ⟨hs.2.1, hs.2.2.1, (by have := Sx_base hs; show aS.heap.size ≤ g; omega)⟩)
  have hT : OwnLL cE (aS.heap.size) [obk (aV), obk (aA), obk (aB)] aG aP 22 3 (xs : List (List Int)) := (aD.imp (fun g _ hs => ⟨hs.2.1, hs.2.2.1, hs.2.2.2.1, hs.2.2.2.2⟩))
  have lB : (xs ++ [gL g.mv (k)]).length = (xs).length + 1 := by simp
  refine OneH.act hR _ rfl (appendLL (t := 23) (d := 25) (n := xs.length) (m := 1) (cc := 1) (ls := xs) (xs := gL g.mv (k)) (bytes := 24) (by first | rfl | omega | (simp; done) | (simp; omega)) κ κ (eX.as (by first | rfl | (simp; done))) hT hS ⟨aE.ne_new, aF.ne_new, (show aS.heap.size ≤ cE.heap.size by omega)⟩ ω ω) ?_
  rintro d_ v_ hU ⟨rfl, dB, eY, rfl, bI, eZ, fA⟩
  have fB := eW.grO bI (by rw [cC]; exact trivial)
  refine ⟨_, rfl, fun lC hV => ⟨fB, ?_⟩⟩
  clear hR; clear eX aX hS hT; have := bI.size; replace aI := aI.gr bI (fun k hk => by have := aD.ge k hk; omega); replace aJ := aJ.gr bI (fun k hk => by have := aD.ge k hk; omega); replace aK := aK.gr bI (fun e => by have := aD.ge _ e; omega); replace aL := aL.gr bI (fun e => by have := aD.ge _ e; omega)
  replace aE : OwnR hU (Sx (aO.heap.size) [some (aT.heap.size), obk (aV), obk (dB), obk (aB), some (aC)]) aA aQ 3 (g.ow : List Int) := aE.grA bI (fun k hk => hk.2.2.1) (fun k hk hs => ⟨hs.1, hs.2.1, own_repl eZ hs.2.2.1 hk, hs.2.2.2.1, hs.2.2.2.2.1, hs.2.2.2.2.2⟩)
  replace aF : OwnR hU (Sx (aO.heap.size) [some (aT.heap.size), obk (aV), obk (dB), obk (aA), some (aC)]) aB aR 3 (g.pr : List Int) := aF.grA bI (fun k hk => hk.2.2.1) (fun k hk hs => ⟨hs.1, hs.2.1, own_repl eZ hs.2.2.1 hk, hs.2.2.2.1, hs.2.2.2.2.1, hs.2.2.2.2.2⟩)
  replace aH := aH.gr bI (fun e => by have := aD.ge _ e; omega); replace aN := aN.gr bI (fun k hk => by have := aD.ge k hk; omega); clear aD bI eZ
  refine AtH.rk fB hV [6] 1 [(26, pt aC 2)] .n (fun lD hW => ?_)
  clear hV
  refine AtH.all [7] 0 κ (by simp) ⟨?_, trivial⟩
  refine OneH.store hW (t := 23) (b := aC) (off := 2) (v := .slice dB ((xs ++ [gL g.mv (k)]).length) eY) _ rfl κ aH κ (fun lE jC bJ fC hX => ?_)
  clear hW; replace fC : Bx jC (aC) [.slice aA ((g.ow).length) aQ, .slice aB ((g.pr).length) aR, .slice dB ((xs ++ [gL g.mv (k)]).length) eY] 25 := fC; have hY := fB.gr' bJ (by rw [cC]; exact trivial); have := bJ.size; replace aI := aI.gr bJ (fun k h => by injection h; omega); replace aJ := aJ.gb bJ ω; replace aK := aK.gb bJ ω; replace aL := aL.gb bJ ω
  replace aE := aE.gr bJ (fun k hk => hk.2.2.2.2.1); replace aF := aF.gr bJ (fun k hk => hk.2.2.2.2.1); replace aN := aN.gb bJ ω; replace fA := fA.gr bJ (fun k hk e => by have := Sx_base hk; injection e; omega); clear aH bJ
  refine ⟨hY, ?_⟩
  refine AtH.done κ ?_
  clear hY
  refine b_n ?_
  refine t_n ?_
  have hZ := hX.sb (r := [(16, .int .i64 (k)), (15, .int .i64 (((g.mv.length : Nat) : Int))), (14, .slice Ag2 g.mv.length cg2), (3, pt aC 0), (2, pt w1.heap.size 0)])
  clear hX
  refine At.start ?_
  refine At.rk hZ 2 [(16, .int .i64 (k + 1))] (.w 27 (k + 1) <| .n) (fun lF jD => ?_)
  clear hZ
  refine At.dn ?_
  exact ⟨_, ω, (k + 1), (xs ++ [gL g.mv (k)] : List (List Int)), dB, eY, rfl, jD.sb, aI, aJ, aK, aL, (aE.imp (fun g _ hs => ⟨hs.2.2.1, hs.2.2.2.1, hs.2.2.2.2.1, hs.2.2.2.2.2⟩)), (aF.imp (fun g _ hs => ⟨hs.2.2.1, hs.2.2.2.1, hs.2.2.2.2.1, hs.2.2.2.2.2⟩)), fC, fA, ω, ω, (takeLL_push hxs ω ω), ω, ω⟩
 have lG := of_decide_eq_false eG
 refine wp_exit ?_
 refine t_e ?_
 clear hm225
 refine t_e ?_
 refine b_e ?_
 refine t_n ?_
 have iA := cX.sb (r := [(3, pt aC 0), (2, pt w1.heap.size 0)]); clear cX
 refine sqs ?_
 refine At.rk iA 1 [(28, .agg #[.slice aA ((g.ow).length) aQ, .slice aB ((g.pr).length) aR, .slice aG xs.length aP])] (.l (aH.cell (i := 0) rfl) <| .l (aH.cell (i := 1) rfl) <| .l (aH.cell (i := 2) rfl) <| .n) (fun lH iB => ?_)
 clear iA
 refine At.store iB (t := 25) (b := w1.heap.size) (off := 0) (v := .agg #[.slice aA ((g.ow).length) aQ, .slice aB ((g.pr).length) aR, .slice aG xs.length aP]) κ aL κ (fun lI dC bT dD iC => ?_)
 clear iB; replace dD : Bx dC (w1.heap.size) [.slice aA ((g.ow).length) aQ, .slice aB ((g.pr).length) aR, .slice aG xs.length aP] 25 := dD; have := bT.size; replace aI := aI.gr bT (fun k h => by injection h; omega); replace aJ := aJ.gb bT ω; replace aK := aK.gb bT ω; replace aE := aE.gr bT (fun k hk e => by have := Sx_base hk; injection e; omega)
 replace aF := aF.gr bT (fun k hk e => by have := Sx_base hk; injection e; omega); replace aH := aH.gb bT ω; have jE := dJ.gr bT (fun k hk e => by have := Sx_base hk; injection e; omega); clear dJ; clear aL bT
 refine At.dn ?_
 have jF := iC.sb (r := [(2, pt w1.heap.size 0)]); clear iC
 refine wp_ret ?_
 refine ret_ jF [[.slice aA ((g.ow).length) aQ, .slice aB ((g.pr).length) aR, .slice aG xs.length aP]] [.agg #[.slice aA ((g.ow).length) aQ, .slice aB ((g.pr).length) aR, .slice aG xs.length aP]] [(dC.cell? ⟨w1.heap.size, 0, none⟩ = some (.slice aA ((g.ow).length) aQ)), (dC.cell? ⟨w1.heap.size, 1, none⟩ = some (.slice aB ((g.pr).length) aR)), (dC.cell? ⟨w1.heap.size, 2, none⟩ = some (.slice aG xs.length aP))] κ ⟨(dD.cell (i := 0) rfl), (dD.cell (i := 1) rfl), (dD.cell (i := 2) rfl), trivial⟩ ?_
 have hL_ : OwnLL dC w.heap.size [obk aA, obk aB] aG aP 22 3 xs := (jE.imp (fun g _ hs => ⟨hs.1, hs.2.1, (by have := Sx_base hs; show w.heap.size ≤ g; omega)⟩))
 have hq_ : xs = g.mv := takeLL_end hxs ω
 rw [hq_] at hL_
 exact ⟨aA, aQ, aB, aR, aG, aP, ret_eq (by rw [← hq_]; rfl), aI, (aE.imp (fun g _ hs => ⟨hs.2.1, hs.1, (by have := Sx_base hs; show w.heap.size ≤ g; omega)⟩)), (aF.imp (fun g _ hs => ⟨hs.2.1, hs.1, (by have := Sx_base hs; show w.heap.size ≤ g; omega)⟩)), hL_⟩
end Go.Proofs.YtkkophhnliplhaaDoor
