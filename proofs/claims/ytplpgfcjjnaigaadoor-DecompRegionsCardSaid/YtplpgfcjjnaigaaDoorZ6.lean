/-
  Texts of this repo, laid together: the frame of the walks, plain lemmas, walks of Go functions. Conditions: what the theorems name.
-/
import Derived.MapKept
import Derived.WideKeyRuns
import Derived.Test.YtplpgfcjjnaigaaDoorZ5
set_option linter.unusedVariables false
set_option linter.unusedSimpArgs false
namespace Go.Proofs.YtplpgfcjjnaigaaDoor
open Go Go.RowKit
set_option maxHeartbeats 4000000 in
theorem step12_any {Ag0 Ag1 Ag2 : Option Addr} {cg0 cg1 cg2 : Nat} {g : GameL} {Ai : Option Addr} {ci : Nat} {li : List Bool} {Aa : Option Addr} {ca : Nat} {la : List Bool} {p i : Int} {w : World} (rg : RdG w 0 w.heap.size Ag0 Ag1 Ag2 cg0 cg1 cg2 g) (ri : RdR w 0 w.heap.size Ai li) (ra : RdR w 0 w.heap.size Aa la) (hG : RightG g) (hli : li.length = g.ow.length) (hla : la.length = g.ow.length) (hi0 : 0 ≤ i) (hi1 : i < (g.ow.length : Int)) :
    Calls Tryd.prog 59 #[.agg #[.slice Ag0 g.ow.length cg0, .slice Ag1 g.pr.length cg1, .slice Ag2 g.mv.length cg2], .slice Ai li.length ci, .int .i64 (p), .slice Aa la.length ca, .int .i64 (i)] w fun e w' => e = .returned (.bool (stpB g li p la i)) ∧ Ext w w' := by
 have hlg0 := rg.ow.len; have hlg1 := rg.pr.len; have hlg2 := rg.mv.len; have hkg0 := rg.k0; have hkg1 := rg.k1; have hkg2 := rg.k2; have hn1 := hG.n1; have hpl := hG.pl; have hml := hG.ml; have hrl := row_len hG hi0 hi1
 refine enter_ (args := [.agg #[.slice Ag0 g.ow.length cg0, .slice Ag1 g.pr.length cg1, .slice Ag2 g.mv.length cg2], .slice Ai li.length ci, .int .i64 (p), .slice Aa la.length ca, .int .i64 (i)]) Tryd.func59 rfl Tryd.ntmps59 (Nat.le_of_ble_eq_true rfl) (fun act0 f0 => ?_)
 have e0 : Ext w w := Ext.refl w
 refine sqs ?_
 refine At.bx f0 5 [.slice Ag0 g.ow.length cg0, .slice Ag1 g.pr.length cg1, .slice Ag2 g.mv.length cg2] 25 (fun w1 g5 bx6 act4 f3 => ?_)
 clear f0; have := g5.size; replace e0 := e0.gn g5; have r9 := rg.gn g5; clear rg; have aN := ri.gn g5; clear ri; have aO := ra.gn g5; clear ra; have := bx6.lt; clear g5
 refine At.rk f3 1 [(10, .bool false)] .n (fun bS aP => ?_)
 clear f3
 refine At.dn ?_
 refine sqs ?_
 refine At.rk aP 1 [(11, .int .i64 (0))] .n (fun bT aQ => ?_)
 clear aP
 refine At.dn ?_
 refine sqs ?_
 refine At.rk aQ 1 [(12, .int .i64 (0))] .n (fun bU aR => ?_)
 clear aQ
 refine At.dn ?_
 refine wp_seq ?_
 refine sqs ?_
 refine At.rk aR 1 [(13, .int .i64 (0))] .n (fun bV aS => ?_)
 clear aR
 refine At.dn ?_
 refine wp_block ?_
 refine loop_g (fun (m_ : Nat) a_ w_ => ∃ (q : Int) (c1 : Int) (c2 : Int), m_ = (((gL g.mv i).length : Int) - q).toNat ∧ (Frm 61 a_ [(13, .int .i64 (q)), (11, .int .i64 (c1)), (12, .int .i64 (c2)), (10, .bool false), (5, pt w.heap.size 0), (1, .slice Ai li.length ci), (2, .int .i64 (p)), (3, .slice Aa la.length ca), (4, .int .i64 (i))]) ∧ (Ext w w_) ∧ (RdG w_ 0 w.heap.size Ag0 Ag1 Ag2 cg0 cg1 cg2 g) ∧ (RdR w_ 0 w.heap.size Ai (li : List Bool)) ∧ (RdR w_ 0 w.heap.size Aa (la : List Bool)) ∧ (Bx w_ (w.heap.size) [.slice Ag0 g.ow.length cg0, .slice Ag1 g.pr.length cg1, .slice Ag2 g.mv.length cg2] 25) ∧ (0 ≤ q) ∧ (q ≤ ((gL g.mv i).length : Int)) ∧ (c1 = cM ((gL g.mv i).take q.toNat) (gB li)) ∧ (c2 = cM ((gL g.mv i).take q.toNat) (fun x => gB li x && gB la x)) ∧ (0 ≤ c1) ∧ (c1 ≤ q) ∧ (0 ≤ c2) ∧ (c2 ≤ q)) _ ⟨0, 0, 0, rfl, aS.sb, e0, r9, aN, aO, bx6, ω, (Int.natCast_nonneg _), rfl, rfl, ω, ω, ω, ω⟩ ?_
 clear aS; clear r9; clear aN; clear aO; clear bx6; clear e0
 intro m_ bW bX ⟨q, c1, c2, hm24, aT, aB, aD, aI, aJ, aA, i30, i31, hc1, hc2, i32, i33, i34, i35⟩
 have := aB.size; have := aA.lt
 refine wp_seq ?_
 refine sqs ?_
 obtain ⟨bY, bZ, cA, aY, _, _, aZ, cB, aU⟩ := RdII.get aD.mv (i) ω ω
 have cC := aU.len
 refine At.rk aT 8 [(22, .bool (decide ((q : Int) < (((gL g.mv (i)).length : Nat) : Int))))] (.l (aA.cell (i := 2) rfl) <| .a i g.mv.length aY <| .l aZ <| .n) (fun cD aE => ?_)
 clear aT
 refine At.dn ?_
 clear aU
 refine cond_S aE (t := decide ((q : Int) < (((gL g.mv (i)).length : Nat) : Int))) rfl (fun aK => ?_) (fun aK => ?_)
 ·have cE := of_decide_eq_true aK
  refine wp_skip ?_
  refine t_n ?_
  refine wp_seq ?_
  refine wp_block ?_
  refine sqs ?_
  obtain ⟨cF, cG, cH, bA, _, _, bB, cI, aL⟩ := RdII.get aD.mv (i) ω ω
  have cJ := aL.len
  obtain ⟨cK, bC, _, _, bD⟩ := RdI.get aL (q) ω ω
  refine At.rk aE 9 [(14, .int .i64 (gI (gL g.mv (i)) (q)))] (.l (aA.cell (i := 2) rfl) <| .a i g.mv.length bA <| .l bB <| .a q ((gL g.mv (i)).length) bC <| .l bD <| .n) (fun cL aV => ?_)
  clear aE
  refine At.dn ?_
  clear aL
  refine wp_seq ?_
  have hmk := hG.mv i hi0 hi1 q ω ω
  refine At.start ?_
  obtain ⟨cN, bE, cO, bF, cP⟩ := aI.get (gI (gL g.mv (i)) (q)) ω ω (sz := 1) rfl
  refine At.rk aV 4 [(36, .bool (gB li (gI (gL g.mv (i)) (q))))] (.a (gI (gL g.mv (i)) (q)) li.length bE <| .l bF <| .n) (fun cQ aF => ?_)
  clear aV
  refine At.dn ?_
  refine cond_S aF (t := gB li (gI (gL g.mv (i)) (q))) rfl (fun bG => ?_) (fun bG => ?_)
  ·refine sqs ?_
   refine At.rk aF 3 [(11, .int .i64 (c1 + 1))] (.w 38 (c1 + 1) <| .n) (fun cR aW => ?_)
   clear aF
   refine At.dn ?_
   refine sqs ?_
   obtain ⟨cS, bH, cT, bI, cU⟩ := aJ.get (gI (gL g.mv (i)) (q)) ω ω (sz := 1) rfl
   refine At.rk aW 4 [(42, .bool (gB la (gI (gL g.mv (i)) (q))))] (.a (gI (gL g.mv (i)) (q)) la.length bH <| .l bI <| .n) (fun cV aG => ?_)
   clear aW
   refine At.dn ?_
   refine cond_S aG (t := gB la (gI (gL g.mv (i)) (q))) rfl (fun bJ => ?_) (fun bJ => ?_)
   ·refine At.start ?_
    refine At.rk aG 3 [(12, .int .i64 (c2 + 1))] (.w 44 (c2 + 1) <| .n) (fun cW aX => ?_)
    clear aG
    refine At.done rfl ?_
    refine b_n ?_
    refine t_n ?_
    refine At.start ?_
    refine At.rk aX 3 [(13, .int .i64 (q + 1))] (.w 24 (q + 1) <| .n) (fun cX bK => ?_)
    clear aX
    refine At.dn ?_
    exact ⟨_, ω, (q + 1), c1 + 1, c2 + 1, rfl, bK.sb, aB, aD, aI, aJ, aA, ω, ω, (by rw [take_cM ω ω, ← hc1]; first | (rw [if_pos σ]; done) | (rw [if_neg (by simp_all)]; omega)), (by rw [take_cM ω ω, ← hc2]; first | (rw [if_pos (by simp_all)]; done) | (rw [if_neg (by simp_all)]; omega)), ω, ω, ω, ω⟩
   refine wp_skip ?_
   refine b_n ?_
   refine t_n ?_
   refine At.start ?_
   refine At.rk aG 3 [(13, .int .i64 (q + 1))] (.w 24 (q + 1) <| .n) (fun cY bL => ?_)
   clear aG
   refine At.dn ?_
   exact ⟨_, ω, (q + 1), c1 + 1, c2, rfl, bL.sb, aB, aD, aI, aJ, aA, ω, ω, (by rw [take_cM ω ω, ← hc1]; first | (rw [if_pos σ]; done) | (rw [if_neg (by simp_all)]; omega)), (by rw [take_cM ω ω, ← hc2]; first | (rw [if_pos (by simp_all)]; done) | (rw [if_neg (by simp_all)]; omega)), ω, ω, ω, ω⟩
  refine wp_skip ?_
  refine b_n ?_
  refine t_n ?_
  refine At.start ?_
  refine At.rk aF 3 [(13, .int .i64 (q + 1))] (.w 24 (q + 1) <| .n) (fun cZ bM => ?_)
  clear aF
  refine At.dn ?_
  exact ⟨_, ω, (q + 1), c1, c2, rfl, bM.sb, aB, aD, aI, aJ, aA, ω, ω, (by rw [take_cM ω ω, ← hc1]; first | (rw [if_pos σ]; done) | (rw [if_neg (by simp_all)]; omega)), (by rw [take_cM ω ω, ← hc2]; first | (rw [if_pos (by simp_all)]; done) | (rw [if_neg (by simp_all)]; omega)), ω, ω, ω, ω⟩
 have dA := of_decide_eq_false aK
 refine wp_exit ?_
 refine t_e ?_
 clear hm24
 refine t_e ?_
 refine b_e ?_
 refine t_n ?_
 refine wp_seq ?_
 refine sqs ?_
 obtain ⟨dB, bN, _, _, bO⟩ := RdI.get aD.ow (i) ω ω
 refine At.rk aE 7 [(51, .bool ((gI g.ow (i) : Int) == p))] (.l (aA.cell (i := 0) rfl) <| .a i g.ow.length bN <| .l bO <| .n) (fun dC aC => ?_)
 clear aE
 refine At.dn ?_
 clear aA
 refine cond_S aC (t := (gI g.ow (i) : Int) == p) rfl (fun aM => ?_) (fun aM => ?_)
 ·have dD := eq_of_beq aM
  refine sqs ?_
  refine At.rk aC 3 [(10, .bool (decide ((c2 : Int) > 0)))] .n (fun dE bP => ?_)
  clear aC
  refine At.dn ?_
  refine wp_ret ?_
  refine t_r ?_
  refine ret_ bP [] [.bool (decide ((c2 : Int) > 0))] [] κ trivial ?_
  exact ⟨ret_eq (congrArg Value.bool (step_val ω ω hc1 hc2 (by first | exact .inl ⟨by omega, rfl⟩ | exact .inr (.inl ⟨by omega, by assumption, rfl⟩) | exact .inr (.inr ⟨by omega, by omega, rfl⟩)))), aB⟩
 have dF := ne_of_beq_false aM
 refine wp_skip ?_
 refine t_n ?_
 refine sqs ?_
 rcases Bool.eq_false_or_eq_true (decide ((c1 : Int) > 0)) with aH | aH
 ·have dG := of_decide_eq_true aH
  refine At.rk aC 8 [(10, .bool ((c2 : Int) == c1))] (.e 56 aH <| .n) (fun dH bQ => ?_)
  clear aC
  refine At.dn ?_
  refine wp_ret ?_
  refine ret_ bQ [] [.bool ((c2 : Int) == c1)] [] κ trivial ?_
  exact ⟨ret_eq (congrArg Value.bool (step_val ω ω hc1 hc2 (by first | exact .inl ⟨by omega, rfl⟩ | exact .inr (.inl ⟨by omega, by assumption, rfl⟩) | exact .inr (.inr ⟨by omega, by omega, rfl⟩)))), aB⟩
 have dI := of_decide_eq_false aH
 refine At.rk aC 8 [(10, .bool false)] (.e 56 aH <| .n) (fun dJ bR => ?_)
 clear aC
 refine At.dn ?_
 refine wp_ret ?_
 refine ret_ bR [] [.bool false] [] κ trivial ?_
 exact ⟨ret_eq (congrArg Value.bool (step_val ω ω hc1 hc2 (by first | exact .inl ⟨by omega, rfl⟩ | exact .inr (.inl ⟨by omega, by assumption, rfl⟩) | exact .inr (.inr ⟨by omega, by omega, rfl⟩)))), aB⟩
set_option maxHeartbeats 4000000 in
theorem attractR_any {Ag0 Ag1 Ag2 : Option Addr} {cg0 cg1 cg2 : Nat} {g : GameL} {Ai : Option Addr} {ci : Nat} {li : List Bool} {Au : Option Addr} {cu : Nat} {lu : List Bool} {p : Int} {w : World} (rg : RdG w 0 w.heap.size Ag0 Ag1 Ag2 cg0 cg1 cg2 g) (ri : RdR w 0 w.heap.size Ai li) (ru : RdR w 0 w.heap.size Au lu) (hR : isR g = true) (hli : li.length = g.ow.length) (hlu : lu.length = g.ow.length) :
    Calls Tryd.prog 53 #[.agg #[.slice Ag0 g.ow.length cg0, .slice Ag1 g.pr.length cg1, .slice Ag2 g.mv.length cg2], .slice Ai li.length ci, .int .i64 (p), .slice Au lu.length cu] w fun e w' => ∃ A c wa, e = .returned (.slice A (wa : List Bool).length c) ∧ Ext w w' ∧ OwnR w' (Sx w.heap.size []) A c 4 wa ∧ wa.length = g.ow.length ∧ AttrT g li p lu wa := by
 have hlg0 := rg.ow.len; have hlg1 := rg.pr.len; have hlg2 := rg.mv.len; have hkg0 := rg.k0; have hkg1 := rg.k1; have hkg2 := rg.k2; have hG := isR_ok hR; have hn1 := hG.n1; have hpl := hG.pl; have hml := hG.ml
 refine enter_ (args := [.agg #[.slice Ag0 g.ow.length cg0, .slice Ag1 g.pr.length cg1, .slice Ag2 g.mv.length cg2], .slice Ai li.length ci, .int .i64 (p), .slice Au lu.length cu]) Tryd.func53 rfl Tryd.ntmps53 (Nat.le_of_ble_eq_true rfl) (fun act0 f0 => ?_)
 have e0 : Ext w w := Ext.refl w
 refine sqs ?_
 refine At.bx f0 4 [.slice Ag0 g.ow.length cg0, .slice Ag1 g.pr.length cg1, .slice Ag2 g.mv.length cg2] 25 (fun w1 g5 bx6 act4 f3 => ?_)
 clear f0; have := g5.size; replace e0 := e0.gn g5; have r9 := rg.gn g5; clear rg; have bQ := ri.gn g5; clear ri; have bR := ru.gn g5; clear ru; have := bx6.lt; clear g5
 refine At.rk f3 1 [(8, .slice none 0 0)] .n (fun eX cF => ?_)
 clear f3
 refine At.dn ?_
 refine sqs ?_
 refine At.rk cF 4 [(9, .int .i64 (((g.ow.length : Nat) : Int)))] (.l (bx6.cell (i := 0) rfl) <| .n) (fun eY cG => ?_)
 clear cF
 refine At.dn ?_
 refine sqs ?_
 refine At.rk cG 1 [(18, .int .i64 (((g.ow.length : Nat) : Int)))] .n (fun eZ cH => ?_)
 clear cG
 refine At.act cH (makeR (k1 := .i64) (k2 := .i64) (α := Bool) (e := 4) (bytes := 1) (t := 60) (d := 19) (n := ((g.ow.length : Nat) : Int)) (cap := ((g.ow.length : Nat) : Int)) (false) κ rfl κ ω ω ω ω) ?_
 rintro d_ v_ fA ⟨rfl, rfl, bB, bS⟩
 refine ⟨_, rfl, fun fB cI => ?_⟩
 clear cH; replace bS := bS (Sx (w1.heap.size) []) (Nat.le_refl _); have := bB.size; replace e0 := e0.gn bB; replace r9 := r9.gn bB; replace bQ := bQ.gn bB; replace bR := bR.gn bB; replace bx6 := bx6.gn bB; clear bB; have : (List.replicate (((g.ow.length : Nat) : Int) : Int).toNat (false : Bool)).length = (((g.ow.length : Nat) : Int) : Int).toNat := List.length_replicate
 refine At.rk cI 1 [(10, .slice (some ⟨w1.heap.size, 0, none⟩) ((List.replicate (((g.ow.length : Nat) : Int) : Int).toNat (false : Bool)).length) ((((g.ow.length : Nat) : Int) : Int).toNat))] .n (fun fC cJ => ?_)
 clear cI
 refine At.dn ?_
 refine wp_seq ?_
 refine sqs ?_
 refine At.rk cJ 1 [(11, .int .i64 (0))] .n (fun fD cK => ?_)
 clear cJ
 refine At.dn ?_
 refine wp_block ?_
 have cL := cK.as 10 (.slice (some ⟨w1.heap.size, 0, none⟩) ((List.replicate (((g.ow.length : Nat) : Int) : Int).toNat (false : Bool)).length) ((((g.ow.length : Nat) : Int) : Int).toNat)) (.slice (some ⟨w1.heap.size, 0, none⟩) ((List.replicate (((g.ow.length : Nat) : Int) : Int).toNat (false : Bool) : List Bool).length) ((((g.ow.length : Nat) : Int) : Int).toNat)) rfl (slice_len (by first | rfl | omega | (simp; done) | (simp; omega)))
 clear cK
 refine loop_g (fun (m_ : Nat) a_ w_ => ∃ (k : Int) (aa : List Bool) (aH : Option Addr) (aI : Nat), m_ = ((g.ow.length : Int) - k).toNat ∧ (Frm 76 a_ [(11, .int .i64 (k)), (10, .slice aH aa.length aI), (9, .int .i64 (((g.ow.length : Nat) : Int))), (8, .slice none 0 0), (4, pt w.heap.size 0), (1, .slice Ai li.length ci), (2, .int .i64 (p)), (3, .slice Au lu.length cu)]) ∧ (Ext w w_) ∧ (RdG w_ 0 w.heap.size Ag0 Ag1 Ag2 cg0 cg1 cg2 g) ∧ (RdR w_ 0 w.heap.size Ai (li : List Bool)) ∧ (RdR w_ 0 w.heap.size Au (lu : List Bool)) ∧ (Bx w_ (w.heap.size) [.slice Ag0 g.ow.length cg0, .slice Ag1 g.pr.length cg1, .slice Ag2 g.mv.length cg2] 25) ∧ (OwnR w_ (Sx (w1.heap.size) []) aH aI 4 (aa : List Bool)) ∧ (0 ≤ k) ∧ (k ≤ (g.ow.length : Int)) ∧ (AndT g li lu aa k) ∧ (aa.length = g.ow.length) ∧ (w1.heap.size ≤ w_.heap.size)) _ ⟨0, (List.replicate (((g.ow.length : Nat) : Int) : Int).toNat (false : Bool) : List Bool), some ⟨w1.heap.size, 0, none⟩, (((g.ow.length : Nat) : Int) : Int).toNat, rfl, cL.sb, e0, r9, bQ, bR, bx6, bS, ω, ω, and_0, List.length_replicate, ω⟩ ?_
 clear cL; clear r9; clear bQ; clear bR; clear bx6; clear bS; clear e0
 intro m_ fE fF ⟨k, aa, aH, aI, hm41, cM, aP, aV, aQ, aR, aS, aC, i48, i49, hxa, i50, i51⟩
 have := aP.size; have := aS.lt
 refine wp_seq ?_
 refine sqs ?_
 refine At.rk cM 3 [(22, .bool (decide ((k : Int) < ((g.ow.length : Nat) : Int))))] .n (fun fG bC => ?_)
 clear cM
 refine At.dn ?_
 refine cond_S bC (t := decide ((k : Int) < ((g.ow.length : Nat) : Int))) rfl (fun bV => ?_) (fun bV => ?_)
 ·have fH := of_decide_eq_true bV
  refine wp_skip ?_
  refine t_n ?_
  refine wp_seq ?_
  refine wp_block ?_
  refine At.start ?_
  obtain ⟨fI, cN, fJ, cO, fK⟩ := aQ.get (k) ω ω (sz := 1) rfl
  rcases Bool.eq_false_or_eq_true (gB li k) with bW | bW
  ·obtain ⟨eA, eB, fL, eC, fM⟩ := aR.get (k) ω ω (sz := 1) rfl
   obtain ⟨cP, cQ, fN, fO, fP⟩ := aC.get (k) ω ω (sz := 1) rfl
   refine At.rk bC 13 [(37, .pointer (some (cP.add ((k : Int).toNat * 1)))), (36, .bool (gB lu k)), (35, .bool (gB lu k)), (34, .pointer (some (eA.add ((k : Int).toNat * 1)))), (33, .int .i64 (k)), (32, .slice Au lu.length cu)] (.a k li.length cN <| .l cO <| .e 31 bW <| .a k lu.length eB <| .l eC <| .a k aa.length cQ <| .n) (fun fQ cR => ?_)
   clear bC
   refine At.act cR (storeR (α := Bool) (t := 4) (i := k) (ad := cP) (v := .bool (gB lu k)) (gB lu k) κ rfl rfl κ cQ aC ω ω) ?_
   rintro d_ v_ fR ⟨rfl, bD, eD⟩
   refine ⟨_, rfl, fun fS cS => ?_⟩
   clear cR; have fT : ((aa).set (k : Int).toNat (gB lu k)).length = (aa).length := List.length_set; have := bD.size; replace aP := aP.gr bD (fun k hk => by have := aC.ge k hk; omega); replace aV := aV.gr bD (fun k hk => by have := aC.ge k hk; omega); replace aQ := aQ.gr bD (fun k hk => by have := aC.ge k hk; omega); replace aR := aR.gr bD (fun k hk => by have := aC.ge k hk; omega)
   replace aS := aS.gr bD (fun e => by have := aC.ge _ e; omega); clear aC bD
   refine At.done rfl ?_
   refine b_n ?_
   refine t_n ?_
   refine At.start ?_
   refine At.rk cS 3 [(11, .int .i64 (k + 1))] (.w 24 (k + 1) <| .n) (fun fU cU => ?_)
   clear cS
   refine At.dn ?_
   have eE := cU.as 10 (.slice aH aa.length aI) (.slice aH (((aa).set (k : Int).toNat (gB lu k) : List Bool).length) aI) rfl (slice_len (by first | (simp only [List.length_set]; done) | rfl | omega | (simp; done) | (simp; omega)))
   clear cU
   exact ⟨_, ω, (k + 1), ((aa).set (k : Int).toNat (gB lu k) : List Bool), aH, aI, rfl, eE.sb, aP, aV, aQ, aR, aS, eD, ω, ω, (and_next hxa ω ω (by simp_all)), (by rw [List.length_set]; assumption), ω⟩
  obtain ⟨cV, cW, fV, fW, fX⟩ := aC.get (k) ω ω (sz := 1) rfl
  refine At.rk bC 13 [(37, .pointer (some (cV.add ((k : Int).toNat * 1)))), (36, .bool false)] (.a k li.length cN <| .l cO <| .e 31 bW <| .a k aa.length cW <| .n) (fun fY cX => ?_)
  clear bC
  refine At.act cX (storeR (α := Bool) (t := 4) (i := k) (ad := cV) (v := .bool false) (false) κ rfl rfl κ cW aC ω ω) ?_
  rintro d_ v_ fZ ⟨rfl, bE, eF⟩
  refine ⟨_, rfl, fun gA cY => ?_⟩
  clear cX; have gC : ((aa).set (k : Int).toNat false).length = (aa).length := List.length_set; have := bE.size; replace aP := aP.gr bE (fun k hk => by have := aC.ge k hk; omega); replace aV := aV.gr bE (fun k hk => by have := aC.ge k hk; omega); replace aQ := aQ.gr bE (fun k hk => by have := aC.ge k hk; omega); replace aR := aR.gr bE (fun k hk => by have := aC.ge k hk; omega)
  replace aS := aS.gr bE (fun e => by have := aC.ge _ e; omega); clear aC bE
  refine At.done rfl ?_
  refine b_n ?_
  refine t_n ?_
  refine At.start ?_
  refine At.rk cY 3 [(11, .int .i64 (k + 1))] (.w 24 (k + 1) <| .n) (fun gD cZ => ?_)
  clear cY
  refine At.dn ?_
  have eG := cZ.as 10 (.slice aH aa.length aI) (.slice aH (((aa).set (k : Int).toNat false : List Bool).length) aI) rfl (slice_len (by first | (simp only [List.length_set]; done) | rfl | omega | (simp; done) | (simp; omega)))
  clear cZ
  exact ⟨_, ω, (k + 1), ((aa).set (k : Int).toNat false : List Bool), aH, aI, rfl, eG.sb, aP, aV, aQ, aR, aS, eF, ω, ω, (and_next hxa ω ω (by simp_all)), (by rw [List.length_set]; assumption), ω⟩
 have gE := of_decide_eq_false bV
 refine wp_exit ?_
 refine t_e ?_
 clear hm41
 refine t_e ?_
 refine b_e ?_
 refine t_n ?_
 refine wp_seq ?_
 refine wp_seq ?_
 have hRf : RefT g li p lu aa := and_ref hli hlu hxa ω
 refine At.start ?_
 refine At.rk bC 1 [(12, .bool true)] .n (fun gF dA => ?_)
 clear bC
 refine At.dn ?_
 refine wp_block ?_
 have dB := dA.as 10 (.slice aH aa.length aI) (.slice aH ((aa : List Bool).length) aI) rfl (slice_len (by first | rfl | omega | (simp; done) | (simp; omega))); clear dA
 refine loop_g (fun (m_ : Nat) a_ w_ => ∃ (m : Bool) (ab : List Bool) (aD : Option Addr) (aE : Nat), m_ = (2 * ((g.ow.length : Int) - cT ab 256) + (if m = true then 1 else 0)).toNat ∧ (Frm 76 a_ [(10, .slice aD ab.length aE), (12, .bool (m)), (9, .int .i64 (((g.ow.length : Nat) : Int))), (8, .slice none 0 0), (4, pt w.heap.size 0), (1, .slice Ai li.length ci), (2, .int .i64 (p))]) ∧ (Ext w w_) ∧ (RdG w_ 0 w.heap.size Ag0 Ag1 Ag2 cg0 cg1 cg2 g) ∧ (RdR w_ 0 w.heap.size Ai (li : List Bool)) ∧ (RdR w_ 0 w.heap.size Au (lu : List Bool)) ∧ (Bx w_ (w.heap.size) [.slice Ag0 g.ow.length cg0, .slice Ag1 g.pr.length cg1, .slice Ag2 g.mv.length cg2] 25) ∧ (OwnR w_ (Sx (w1.heap.size) []) aD aE 4 (ab : List Bool)) ∧ (RefT g li p lu ab) ∧ (RefF g li p ab m) ∧ (ab.length = g.ow.length) ∧ (w1.heap.size ≤ w_.heap.size)) _ ⟨true, (aa : List Bool), aH, aI, rfl, dB.sb, aP, aV, aQ, aR, aS, aC, hRf, (fun h_ => by cases h_), ω, ω⟩ ?_
 clear dB; clear aV; clear aQ; clear aR; clear aS; clear aC; clear aP
 intro m_ gG aL ⟨m, ab, aD, aE, hm121, dC, aW, bI, bJ, bK, aX, aM, hrf, hrF, i128, i129⟩
 have := aW.size; have := aX.lt
 refine wp_seq ?_
 refine sqs ?_
 refine At.rk dC 1 [(38, .bool (m))] .n (fun gH bM => ?_)
 clear dC
 refine At.dn ?_
 refine cond_S bM (t := m) rfl (fun eH => ?_) (fun eH => ?_)
 ·refine wp_skip ?_
  refine t_n ?_
  refine wp_block ?_
  refine sqs ?_
  refine At.rk bM 1 [(12, .bool false)] .n (fun gI dD => ?_)
  clear bM
  refine At.dn ?_
  refine sqs ?_
  refine At.seq dD 1 [[]] [(39, .slice (some ⟨aL.heap.size, 0, none⟩) 0 0)] (aL.alloc (.cells #[] 4 (0, 0))) [] κ trivial (fun gJ bX bY dE => ?_)
  clear dD; have aY := gr_alloc bY; have := aY.size; replace aW := aW.gn aY; replace bI := bI.gn aY; replace bJ := bJ.gn aY; replace bK := bK.gn aY; replace aX := aX.gn aY; replace aM := aM.grN aY; have bZ : Bx bX (aL.heap.size) [] 4 := Bx.new bY; have := bZ.lt; clear aY bY
  refine At.rk dE 1 [(40, .slice aD ab.length aE)] .n (fun gK dF => ?_)
  clear dE
  have bF : OwnR bX (Sx (aL.heap.size) [obk (aD)]) (some ⟨aL.heap.size, 0, none⟩) 0 4 ([] : List Bool) := Bx.own0 bZ ⟨(aM.neb (fun g hs => hs.1)), (Nat.le_refl _)⟩
  clear bZ; have eI : (([] : List Bool) ++ ab).length = (([] : List Bool)).length + (ab : List Bool).length := List.length_append
  simp only [List.length_cons, List.length_nil] at eI
  refine At.act dF (appendR (α := Bool) (t := 60) (d := 41) (n := 0) (m := ab.length) (cc := aE) (xs := []) (ys := ab) (bytes := 1) (by first | rfl | omega | (simp; done) | (simp; omega)) (by first | rfl | omega | (simp; done) | (simp; omega)) κ rfl κ bF aM.src (by simp only [List.length_cons, List.length_nil]; omega) (by simp only [List.length_cons, List.length_nil]; omega)) ?_
  rintro d_ v_ dG ⟨rfl, bL, bN, bO⟩
  obtain rfl := bO.val
  have aZ := bO.gr
  refine ⟨_, rfl, fun gL dH => ?_⟩
  clear dF; have bT := bO.own (Sx (aL.heap.size) [obk (aD)]) (fun g _ hs => ⟨hs.1, hs.2⟩) ⟨aM.ne_new, (show aL.heap.size ≤ bX.heap.size by omega)⟩; have := aZ.size; replace aW := aW.gr aZ (fun k hk => by have := bF.ge k hk; omega); replace bI := bI.gr aZ (fun k hk => by have := bF.ge k hk; omega); replace bJ := bJ.gr aZ (fun k hk => by have := bF.ge k hk; omega)
  replace bK := bK.gr aZ (fun k hk => by have := bF.ge k hk; omega); replace aX := aX.gr aZ (fun e => by have := bF.ge _ e; omega); replace aM : OwnR dG (Sx (w1.heap.size) [obk (bL)]) aD aE 4 (ab : List Bool) := aM.grA aZ (fun k hk => hk.1) (fun k hk hs => ⟨own_repl bO.at_ hs.1 hk, hs.2⟩); clear bF aZ bO; replace bT : OwnR dG (Sx (aL.heap.size) [obk (aD)]) bL bN 4 (ab : List Bool) := bT
  refine At.rk dH 1 [(13, .slice bL ((([] : List Bool) ++ ab).length) bN)] .n (fun gM dI => ?_)
  clear dH
  refine At.dn ?_
  refine wp_seq ?_
  refine sqs ?_
  refine At.rk dI 1 [(14, .int .i64 (0))] .n (fun gN dJ => ?_)
  clear dI
  refine At.dn ?_
  refine wp_block ?_
  have dK := dJ.as 13 (.slice bL ((([] : List Bool) ++ ab).length) bN) (.slice bL ((ab : List Bool).length) bN) rfl (slice_len (by first | rfl | omega | (simp; done) | (simp; omega)))
  clear dJ
  refine loop_g (fun (m_ : Nat) a_ w_ => ∃ (kk : Int) (m2 : Bool) (nx : List Bool) (aA : Option Addr) (aB : Nat), m_ = ((g.ow.length : Int) - kk).toNat ∧ (Frm 76 a_ [(14, .int .i64 (kk)), (12, .bool (m2)), (13, .slice aA nx.length aB), (10, .slice aD ab.length aE), (9, .int .i64 (((g.ow.length : Nat) : Int))), (8, .slice none 0 0), (4, pt w.heap.size 0), (1, .slice Ai li.length ci), (2, .int .i64 (p))]) ∧ (Ext w w_) ∧ (RdG w_ 0 w.heap.size Ag0 Ag1 Ag2 cg0 cg1 cg2 g) ∧ (RdR w_ 0 w.heap.size Ai (li : List Bool)) ∧ (RdR w_ 0 w.heap.size Au (lu : List Bool)) ∧ (Bx w_ (w.heap.size) [.slice Ag0 g.ow.length cg0, .slice Ag1 g.pr.length cg1, .slice Ag2 g.mv.length cg2] 25) ∧ (OwnR w_ (Sx (w1.heap.size) [obk (aA)]) aD aE 4 (ab : List Bool)) ∧ (OwnR w_ (Sx (aL.heap.size) [obk (aD)]) aA aB 4 (nx : List Bool)) ∧ (0 ≤ kk) ∧ (kk ≤ (g.ow.length : Int)) ∧ (RefK g li p ab nx m2 kk) ∧ (nx.length = g.ow.length) ∧ (w1.heap.size ≤ w_.heap.size) ∧ (aL.heap.size ≤ w_.heap.size)) _ ⟨0, false, (ab : List Bool), bL, bN, rfl, dK.sb, aW, bI, bJ, bK, aX, aM, bT, ω, ω, (refK_0 hrf), (by simpa using hrf.len), ω, ω⟩ ?_
  clear dK; clear bI; clear bJ; clear bK; clear aX; clear aM; clear bT; clear aW
  intro m_ gO eJ ⟨kk, m2, nx, aA, aB, hm179, dL, aN, aO, aJ, aT, aG, aK, aF, i187, i188, hrk, i189, i190, i191⟩
  have := aN.size; have := aG.lt
  refine wp_seq ?_
  refine sqs ?_
  refine At.rk dL 3 [(44, .bool (decide ((kk : Int) < ((g.ow.length : Nat) : Int))))] .n (fun gP bG => ?_)
  clear dL
  refine At.dn ?_
  refine cond_S bG (t := decide ((kk : Int) < ((g.ow.length : Nat) : Int))) rfl (fun cA => ?_) (fun cA => ?_)
  ·have gQ := of_decide_eq_true cA
   refine wp_skip ?_
   refine t_n ?_
   refine wp_seq ?_
   refine wp_block ?_
   refine sqs ?_
   obtain ⟨gR, dM, gS, dN, gT⟩ := aJ.get (kk) ω ω (sz := 1) rfl
   rcases Bool.eq_false_or_eq_true (gB li kk) with cB | cB
   ·obtain ⟨eK, eL, gU, eM, gV⟩ := aK.get (kk) ω ω (sz := 1) rfl
    refine At.rk bG 11 [(57, .bool (!(gB ab kk))), (56, .bool (!(gB ab kk))), (55, .bool (gB ab kk)), (54, .pointer (some (eK.add ((kk : Int).toNat * 1)))), (53, .int .i64 (kk)), (52, .slice aD ab.length aE)] (.a kk li.length dM <| .l dN <| .e 51 cB <| .a kk ab.length eL <| .l eM <| .n) (fun gW bP => ?_)
    clear bG
    refine At.dn ?_
    refine cond_S bP (t := !(gB ab kk)) rfl (fun bH => ?_) (fun bH => ?_)
    ·have gX : (gB ab kk) = false := by first | exact Eq.mp (Bool.not_eq_true' _) bH | exact Eq.mp (Bool.not_eq_false' _) bH | simpa using bH
     refine sqs ?_
     refine At.rk bP 7 [(64, .int .i64 (kk)), (63, .slice aD ab.length aE), (62, .int .i64 (p)), (61, .slice Ai li.length ci), (60, .agg #[.slice Ag0 g.ow.length cg0, .slice Ag1 g.pr.length cg1, .slice Ag2 g.mv.length cg2]), (59, .int .i64 (kk)), (58, .slice aA nx.length aB)] (.l (aG.cell (i := 0) rfl) <| .l (aG.cell (i := 1) rfl) <| .l (aG.cell (i := 2) rfl) <| .n) (fun gY dO => ?_)
     clear bP
     refine At.cl dO (some 65) (args := #[.agg #[.slice Ag0 g.ow.length cg0, .slice Ag1 g.pr.length cg1, .slice Ag2 g.mv.length cg2], .slice Ai li.length ci, .int .i64 (p), .slice aD ab.length aE, .int .i64 (kk)]) (step12_any (g := g) (li := li) (la := ab) (p := p) (i := kk) (aO.wide (Nat.zero_le _) ω) (aJ.wide (Nat.zero_le _) ω) ((aK.rdR (by simp only [Enc.bytes]; omega)).wide (Nat.zero_le _) ω) hG ω ω ω ω) ?_
     rintro e_ gZ ⟨rfl, he⟩
     refine ⟨_, rfl, _, rfl, fun hA dP => ?_⟩
     clear dO; have aU := gr_ext he; have := aU.size; replace aN := aN.gn aU; replace aO := aO.gn aU; replace aJ := aJ.gn aU; replace aT := aT.gn aU; replace aG := aG.gn aU; replace aK := aK.gn aU; replace aF := aF.gn aU; clear aU he
     obtain ⟨dQ, dR, hB, hC, hD⟩ := aF.get (kk) ω ω (sz := 1) rfl
     refine At.rk dP 1 [(66, .pointer (some (dQ.add ((kk : Int).toNat * 1))))] (.a kk nx.length dR <| .n) (fun hE dS => ?_)
     clear dP
     refine At.act dS (storeR (α := Bool) (t := 4) (i := kk) (ad := dQ) (v := .bool (stpB g li p ab kk)) (stpB g li p ab kk) κ rfl rfl κ dR aF ω ω) ?_
     rintro d_ v_ hF ⟨rfl, bA, cC⟩
     refine ⟨_, rfl, fun hH bU => ?_⟩
     clear dS; have hI : ((nx).set (kk : Int).toNat (stpB g li p ab kk)).length = (nx).length := List.length_set; have := bA.size; replace aN := aN.gr bA (fun k hk => by have := aF.ge k hk; omega); replace aO := aO.gr bA (fun k hk => by have := aF.ge k hk; omega); replace aJ := aJ.gr bA (fun k hk => by have := aF.ge k hk; omega); replace aT := aT.gr bA (fun k hk => by have := aF.ge k hk; omega)
     replace aG := aG.gr bA (fun e => by have := aF.ge _ e; omega); replace aK := aK.gr bA (fun k hk => hk.1); clear aF bA
     refine At.dn ?_
     have hgs : gB (nx.set (kk : Int).toNat (stpB g li p ab kk)) kk = stpB g li p ab kk := by rw [gB_setL ω ω ω, if_pos rfl]
     refine At.start ?_
     rcases Bool.eq_false_or_eq_true (m2) with cD | cD
     ·refine At.rk bU 8 [(12, .bool true)] (.e 68 cD <| .n) (fun hJ dT => ?_)
      clear bU
      refine At.done rfl ?_
      refine b_n ?_
      refine t_n ?_
      refine At.start ?_
      refine At.rk dT 3 [(14, .int .i64 (kk + 1))] (.w 46 (kk + 1) <| .n) (fun hK dU => ?_)
      clear dT
      refine At.dn ?_
      have eN := dU.as 13 (.slice aA nx.length aB) (.slice aA (((nx).set (kk : Int).toNat (stpB g li p ab kk) : List Bool).length) aB) rfl (slice_len (by first | (simp only [List.length_set]; done) | rfl | omega | (simp; done) | (simp; omega)))
      clear dU
      exact ⟨_, ω, (kk + 1), true, ((nx).set (kk : Int).toNat (stpB g li p ab kk) : List Bool), aA, aB, rfl, eN.sb, aN, aO, aJ, aT, aG, aK, cC, ω, ω, (refK_put hrk ω ω σ σ (by simp_all)), (by rw [List.length_set]; assumption), ω, ω⟩
     obtain ⟨eO, eP, hL, eQ, hM⟩ := cC.get (kk) ω ω (sz := 1) rfl
     refine At.rk bU 8 [(12, .bool (gB ((nx).set (kk : Int).toNat (stpB g li p ab kk)) kk)), (72, .bool (gB ((nx).set (kk : Int).toNat (stpB g li p ab kk)) kk)), (71, .pointer (some (eO.add ((kk : Int).toNat * 1)))), (70, .int .i64 (kk)), (69, .slice aA nx.length aB)] (.e 68 cD <| .a kk nx.length eP <| .l eQ <| .n) (fun hN dV => ?_)
     clear bU
     refine At.done rfl ?_
     refine b_n ?_
     refine t_n ?_
     refine At.start ?_
     refine At.rk dV 3 [(14, .int .i64 (kk + 1))] (.w 46 (kk + 1) <| .n) (fun hO dW => ?_)
     clear dV
     refine At.dn ?_
     have eR := dW.as 13 (.slice aA nx.length aB) (.slice aA (((nx).set (kk : Int).toNat (stpB g li p ab kk) : List Bool).length) aB) rfl (slice_len (by first | (simp only [List.length_set]; done) | rfl | omega | (simp; done) | (simp; omega)))
     clear dW
     exact ⟨_, ω, (kk + 1), (gB ((nx).set (kk : Int).toNat (stpB g li p ab kk)) kk), ((nx).set (kk : Int).toNat (stpB g li p ab kk) : List Bool), aA, aB, rfl, eR.sb, aN, aO, aJ, aT, aG, aK, cC, ω, ω, (refK_put hrk ω ω σ σ (by simp_all)), (by rw [List.length_set]; assumption), ω, ω⟩
    have hP : (gB ab kk) = true := by first | exact Eq.mp (Bool.not_eq_true' _) bH | exact Eq.mp (Bool.not_eq_false' _) bH | simpa using bH
    refine wp_skip ?_
    refine b_n ?_
    refine t_n ?_
    refine At.start ?_
    refine At.rk bP 3 [(14, .int .i64 (kk + 1))] (.w 46 (kk + 1) <| .n) (fun hQ dX => ?_)
    clear bP
    refine At.dn ?_
    have eS := dX.as 13 (.slice aA nx.length aB) (.slice aA ((nx : List Bool).length) aB) rfl (slice_len (by first | rfl | omega | (simp; done) | (simp; omega)))
    clear dX
    exact ⟨_, ω, (kk + 1), m2, (nx : List Bool), aA, aB, rfl, eS.sb, aN, aO, aJ, aT, aG, aK, aF, ω, ω, (refK_skip hrk (by first | exact .inl σ | exact .inr σ)), hrk.len, ω, ω⟩
   refine At.rk bG 11 [(57, .bool false)] (.a kk li.length dM <| .l dN <| .e 51 cB <| .n) (fun hS cE => ?_)
   clear bG
   refine At.dn ?_
   refine cond_F cE rfl ?_
   refine wp_skip ?_
   refine b_n ?_
   refine t_n ?_
   refine At.start ?_
   refine At.rk cE 3 [(14, .int .i64 (kk + 1))] (.w 46 (kk + 1) <| .n) (fun hT dY => ?_)
   clear cE
   refine At.dn ?_
   have eT := dY.as 13 (.slice aA nx.length aB) (.slice aA ((nx : List Bool).length) aB) rfl (slice_len (by first | rfl | omega | (simp; done) | (simp; omega)))
   clear dY
   exact ⟨_, ω, (kk + 1), m2, (nx : List Bool), aA, aB, rfl, eT.sb, aN, aO, aJ, aT, aG, aK, aF, ω, ω, (refK_skip hrk (by first | exact .inl σ | exact .inr σ)), hrk.len, ω, ω⟩
  have hU := of_decide_eq_false cA
  refine wp_exit ?_
  refine t_e ?_
  clear hm179
  refine t_e ?_
  refine b_e ?_
  refine t_n ?_
  have hrN := ref_next hn1 (fun i x a b hx => row_rng hR a b hx) hrf hrk ω; have hgr := ref_grow hn1 hrf hrk ω ω; have hrG := ref_fin hrf hrk ω
  refine At.start ?_
  refine At.rk bG 2 [(10, .slice aA nx.length aB)] .n (fun hV dZ => ?_)
  clear bG
  refine At.done rfl ?_
  refine b_n ?_
  refine t_n ?_
  have eU : OwnR eJ (Sx (w1.heap.size) []) aA aB 4 (nx : List Bool) := aF.imp (fun g _ hs => (by have := Sx_base hs; show w1.heap.size ≤ g; omega)); clear aF aK; have eV := dZ.as 10 (.slice aA nx.length aB) (.slice aA ((nx : List Bool).length) aB) rfl (slice_len (by first | rfl | omega | (simp; done) | (simp; omega))); clear dZ
  exact ⟨_, (by rw [hm121]; exact meas_dec σ hgr.1 hgr.2), m2, (nx : List Bool), aA, aB, rfl, eV.sb, aN, aO, aJ, aT, aG, eU, hrN, hrG, hrN.len, ω⟩
 refine wp_exit ?_
 refine t_e ?_
 clear hm121
 refine t_e ?_
 refine b_e ?_
 refine t_n ?_
 clear aX
 refine sqs ?_
 refine At.rk bM 2 [(8, .slice aD ab.length aE)] .n (fun hW eW => ?_)
 clear bM
 refine At.dn ?_
 refine wp_ret ?_
 refine ret_ eW [] [.slice aD ab.length aE] [] κ trivial ?_
 exact ⟨aD, aE, _, rfl, aW, (aM.imp (fun g _ hs => by have := Sx_base hs; show w.heap.size ≤ g; omega)), hrf.len, ref_end hrf (by have e_ : m = false := σ; rw [e_] at hrF; exact hrF)⟩
end Go.Proofs.YtplpgfcjjnaigaaDoor
namespace Go.Proofs.YtplpgfcjjnaigaaDoor
open Go Go.RowKit
def WonOK (g : GameL) (l : List Bool) : Prop := ∀ {A0 A1 A2 A : Option Addr} {c0 c1 c2 c b0 : Nat} {w : World}, RdG w 0 w.heap.size A0 A1 A2 c0 c1 c2 g → OwnR w (Sx b0 []) A c 4 l → b0 ≤ w.heap.size →
    Calls Tryd.prog 35 #[.agg #[.slice A0 g.ow.length c0, .slice A1 g.pr.length c1, .slice A2 g.mv.length c2], .slice A l.length c] w fun e w' => ∃ B0 d0 B1 d1 x y, e = .returned (.tuple #[.slice B0 (x : List Bool).length d0, .slice B1 (y : List Bool).length d1]) ∧ Ext w w' ∧ OwnR w' (SxP (fun k_ => obk A = some k_ ∨ w.heap.size ≤ k_) [obk B1]) B0 d0 4 x ∧ OwnR w' (SxP (fun k_ => obk A = some k_ ∨ w.heap.size ≤ k_) [obk B0]) B1 d1 4 y ∧ WonP g l 0 x y
set_option maxHeartbeats 4000000 in
theorem won_step {Ag0 Ag1 Ag2 : Option Addr} {cg0 cg1 cg2 : Nat} {g : GameL} {A : Option Addr} {c b0 : Nat} {li : List Bool} {w : World} (hR : isR g = true) (hL : LiveB g li) (ih : ∀ l2, LiveB g l2 → cT l2 256 < cT li 256 → WonOK g l2) (rg : RdG w 0 w.heap.size Ag0 Ag1 Ag2 cg0 cg1 cg2 g) (ri : OwnR w (Sx b0 []) A c 4 li) (hb0 : b0 ≤ w.heap.size) :
    Calls Tryd.prog 35 #[.agg #[.slice Ag0 g.ow.length cg0, .slice Ag1 g.pr.length cg1, .slice Ag2 g.mv.length cg2], .slice A li.length c] w fun e w' => ∃ B0 d0 B1 d1 x y, e = .returned (.tuple #[.slice B0 (x : List Bool).length d0, .slice B1 (y : List Bool).length d1]) ∧ Ext w w' ∧ OwnR w' (SxP (fun k_ => obk A = some k_ ∨ w.heap.size ≤ k_) [obk B1]) B0 d0 4 x ∧ OwnR w' (SxP (fun k_ => obk A = some k_ ∨ w.heap.size ≤ k_) [obk B0]) B1 d1 4 y ∧ WonP g li 0 x y := by
 have hlg0 := rg.ow.len; have hlg1 := rg.pr.len; have hlg2 := rg.mv.len; have hkg0 := rg.k0; have hkg1 := rg.k1; have hkg2 := rg.k2; have hG := isR_ok hR; have hn1 := hG.n1; have hpl := hG.pl; have hml := hG.ml; have hll := hL.len
 refine enter_ (args := [.agg #[.slice Ag0 g.ow.length cg0, .slice Ag1 g.pr.length cg1, .slice Ag2 g.mv.length cg2], .slice A li.length c]) Tryd.func35 rfl Tryd.ntmps35 (Nat.le_of_ble_eq_true rfl) (fun act0 f0 => ?_)
 have e0 : Ext w w := Ext.refl w
 refine sqs ?_
 refine At.bx f0 2 [.slice Ag0 g.ow.length cg0, .slice Ag1 g.pr.length cg1, .slice Ag2 g.mv.length cg2] 25 (fun w1 g5 bx6 act4 f3 => ?_)
 clear f0; have szw1 := g5.size; replace e0 := e0.gn g5; have r9 := rg.gn g5; clear rg; have cD := ri.grN g5; clear ri; have := bx6.lt; clear g5
 refine At.rk f3 2 [(5, .slice none 0 0), (4, .slice none 0 0)] .n (fun lE eX => ?_)
 clear f3
 refine At.dn ?_
 refine sqs ?_
 refine At.rk eX 3 [(6, .int .i64 (((li.length : Nat) : Int)))] .n (fun lF eY => ?_)
 clear eX
 refine At.dn ?_
 refine sqs ?_
 refine At.rk eY 1 [(21, .slice A li.length c)] .n (fun lG eZ => ?_)
 clear eY
 refine At.cl eZ (some 22) (args := #[.slice A li.length c]) (someB_any (la := li) ((cD.rdR (by simp only [Enc.bytes]; omega)).wide (Nat.zero_le _) ω)) ?_
 rintro e_ bJ ⟨rfl, he⟩
 refine ⟨_, rfl, _, rfl, fun lH fA => ?_⟩
 clear eZ; have cE := gr_ext he; have szw17 := cE.size; replace e0 := e0.gn cE; replace r9 := r9.gn cE; replace cD := cD.gn cE; replace bx6 := bx6.gn cE; clear cE he
 refine At.rk fA 1 [(7, .bool (someB li))] .n (fun lI fB => ?_)
 clear fA
 refine At.dn ?_
 refine wp_seq ?_
 refine sqs ?_
 refine At.rk fB 2 [(24, .bool (!(someB li)))] .n (fun lJ cF => ?_)
 clear fB
 refine At.dn ?_
 refine cond_S cF (t := !(someB li)) rfl (fun bQ => ?_) (fun bQ => ?_)
 ·have lK : (someB li) = false := by first | exact Eq.mp (Bool.not_eq_true' _) bQ | exact Eq.mp (Bool.not_eq_false' _) bQ | simpa using bQ
  clear cD; clear bx6
  refine wp_seq (cut (fun a_ w_ => ∃ (cG : Option Addr) (cH : Option Addr) (cV : Nat) (cW : Nat), (Frm 141 a_ [(5, .slice (cG) ((List.replicate (((li.length : Nat) : Int) : Int).toNat (false : Bool)).length) (cV)), (4, .slice (cH) ((List.replicate (((li.length : Nat) : Int) : Int).toNat (false : Bool)).length) (cW))]) ∧ (Ext w w_) ∧ (RdG w_ 0 w.heap.size Ag0 Ag1 Ag2 cg0 cg1 cg2 g) ∧ (OwnR w_ (Sx (bJ.heap.size) [obk (cH)]) (cG) (cV) 4 (List.replicate (((li.length : Nat) : Int) : Int).toNat (false : Bool) : List Bool)) ∧ (OwnR w_ (Sx (bJ.heap.size) [obk (cG)]) (cH) (cW) 4 (List.replicate (((li.length : Nat) : Int) : Int).toNat (false : Bool) : List Bool)) ∧ (bJ.heap.size ≤ w_.heap.size)) ?_ ?_)
  ·obtain ⟨fC, jP⟩ : ∃ c : List (Addr × Value), c = [] := ⟨_, rfl⟩
   have fD : HoldsC fC bJ := by rw [jP]; exact trivial
   refine AtH.start fC 6 _ κ rfl rfl (fun aU fE => ?_)
   have cX := gr_drew fE; have dX := fD.gr cX; have := cX.size; replace e0 := e0.gn cX; replace r9 := r9.gn cX; clear cX fE fD
   refine AtH.rk dX cF [0, 2] 4 [(27, .int .i64 (((li.length : Nat) : Int))), (25, .int .i64 (((li.length : Nat) : Int)))] .n (fun lL dI => ?_)
   clear cF
   refine AtH.all [1, 3] 3 κ (by simp) ⟨?_, ?_, trivial⟩
   ·refine OneH.act dI _ rfl (makeR (k1 := .i64) (k2 := .i64) (α := Bool) (e := 4) (bytes := 1) (t := 60) (d := 26) (n := ((li.length : Nat) : Int)) (cap := ((li.length : Nat) : Int)) (false) κ rfl κ ω ω ω ω) ?_
    rintro d_ v_ dJ ⟨rfl, rfl, cY, cZ⟩
    have dY := dX.gr cY
    refine ⟨_, rfl, fun lM fF => ⟨dY, ?_⟩⟩
    clear dI; replace cZ := cZ (Sx (aU.heap.size) []) (Nat.le_refl _); have := cY.size; replace e0 := e0.gn cY; replace r9 := r9.gn cY; clear cY; have : (List.replicate (((li.length : Nat) : Int) : Int).toNat (false : Bool)).length = (((li.length : Nat) : Int) : Int).toNat := List.length_replicate
    refine AtH.rk dY fF [4] 2 [(4, .slice (some ⟨aU.heap.size, 0, none⟩) ((List.replicate (((li.length : Nat) : Int) : Int).toNat (false : Bool)).length) ((((li.length : Nat) : Int) : Int).toNat))] .n (fun lN fG => ?_)
    clear fF
    refine AtH.all [3] 1 κ (by simp) ⟨?_, trivial⟩
    refine OneH.act fG _ rfl (makeR (k1 := .i64) (k2 := .i64) (α := Bool) (e := 4) (bytes := 1) (t := 60) (d := 28) (n := ((li.length : Nat) : Int)) (cap := ((li.length : Nat) : Int)) (false) κ rfl κ ω ω ω ω) ?_
    rintro d_ v_ jQ ⟨rfl, rfl, cI, dZ⟩
    have eA := dY.gr cI
    refine ⟨_, rfl, fun lO fH => ⟨eA, ?_⟩⟩
    clear fG; replace dZ := dZ (Sx (dJ.heap.size) [obk (some ⟨aU.heap.size, 0, none⟩)]) ⟨cZ.ne_new, (Nat.le_refl _)⟩; have := cI.size; replace e0 := e0.gn cI; replace r9 := r9.gn cI
    have jR : OwnR jQ (Sx (aU.heap.size) [obk (some ⟨dJ.heap.size, 0, none⟩)]) (some ⟨aU.heap.size, 0, none⟩) ((((li.length : Nat) : Int) : Int).toNat) 4 (List.replicate (((li.length : Nat) : Int) : Int).toNat (false : Bool) : List Bool) := cZ.grA cI (fun _ _ h => by cases h) (fun k hk hs => ⟨(fun e => by simp only [obk, Option.map_some] at e; injection e; omega), hs⟩)
    clear cZ; clear cI; have : (List.replicate (((li.length : Nat) : Int) : Int).toNat (false : Bool)).length = (((li.length : Nat) : Int) : Int).toNat := List.length_replicate
    refine AtH.rk eA fH [5] 0 [(5, .slice (some ⟨dJ.heap.size, 0, none⟩) ((List.replicate (((li.length : Nat) : Int) : Int).toNat (false : Bool)).length) ((((li.length : Nat) : Int) : Int).toNat))] .n (fun lP jS => ?_)
    clear fH
    refine AtH.done κ ?_
    clear eA
    refine t_n ?_
    exact ⟨some ⟨dJ.heap.size, 0, none⟩, some ⟨aU.heap.size, 0, none⟩, (((li.length : Nat) : Int) : Int).toNat, (((li.length : Nat) : Int) : Int).toNat, jS.sb, e0, r9, (dZ.imp (fun g _ hs => ⟨hs.1, (by have := Sx_base hs; show bJ.heap.size ≤ g; omega)⟩)), (jR.imp (fun g _ hs => ⟨hs.1, (by have := Sx_base hs; show bJ.heap.size ≤ g; omega)⟩)), ω⟩
   refine OneH.act dI _ rfl (makeR (k1 := .i64) (k2 := .i64) (α := Bool) (e := 4) (bytes := 1) (t := 60) (d := 28) (n := ((li.length : Nat) : Int)) (cap := ((li.length : Nat) : Int)) (false) κ rfl κ ω ω ω ω) ?_
   rintro d_ v_ dK ⟨rfl, rfl, dA, dB⟩
   have fI := dX.gr dA
   refine ⟨_, rfl, fun lQ fJ => ⟨fI, ?_⟩⟩
   clear dI; replace dB := dB (Sx (aU.heap.size) []) (Nat.le_refl _); have := dA.size; replace e0 := e0.gn dA; replace r9 := r9.gn dA; clear dA; have : (List.replicate (((li.length : Nat) : Int) : Int).toNat (false : Bool)).length = (((li.length : Nat) : Int) : Int).toNat := List.length_replicate
   refine AtH.all [1] 2 κ (by simp) ⟨?_, trivial⟩
   refine OneH.act fJ _ rfl (makeR (k1 := .i64) (k2 := .i64) (α := Bool) (e := 4) (bytes := 1) (t := 60) (d := 26) (n := ((li.length : Nat) : Int)) (cap := ((li.length : Nat) : Int)) (false) κ rfl κ ω ω ω ω) ?_
   rintro d_ v_ jT ⟨rfl, rfl, cJ, eB⟩
   have dL := fI.gr cJ
   refine ⟨_, rfl, fun lR fK => ⟨dL, ?_⟩⟩
   clear fJ; replace eB := eB (Sx (dK.heap.size) [obk (some ⟨aU.heap.size, 0, none⟩)]) ⟨dB.ne_new, (Nat.le_refl _)⟩; have := cJ.size; replace e0 := e0.gn cJ; replace r9 := r9.gn cJ
   have jU : OwnR jT (Sx (aU.heap.size) [obk (some ⟨dK.heap.size, 0, none⟩)]) (some ⟨aU.heap.size, 0, none⟩) ((((li.length : Nat) : Int) : Int).toNat) 4 (List.replicate (((li.length : Nat) : Int) : Int).toNat (false : Bool) : List Bool) := dB.grA cJ (fun _ _ h => by cases h) (fun k hk hs => ⟨(fun e => by simp only [obk, Option.map_some] at e; injection e; omega), hs⟩)
   clear dB; clear cJ; have : (List.replicate (((li.length : Nat) : Int) : Int).toNat (false : Bool)).length = (((li.length : Nat) : Int) : Int).toNat := List.length_replicate
   refine AtH.rk dL fK [4] 1 [(4, .slice (some ⟨dK.heap.size, 0, none⟩) ((List.replicate (((li.length : Nat) : Int) : Int).toNat (false : Bool)).length) ((((li.length : Nat) : Int) : Int).toNat))] .n (fun lS fL => ?_)
   clear fK
   refine AtH.rk dL fL [5] 0 [(5, .slice (some ⟨aU.heap.size, 0, none⟩) ((List.replicate (((li.length : Nat) : Int) : Int).toNat (false : Bool)).length) ((((li.length : Nat) : Int) : Int).toNat))] .n (fun lT jV => ?_)
   clear fL
   refine AtH.done κ ?_
   clear dL
   refine t_n ?_
   exact ⟨some ⟨aU.heap.size, 0, none⟩, some ⟨dK.heap.size, 0, none⟩, (((li.length : Nat) : Int) : Int).toNat, (((li.length : Nat) : Int) : Int).toNat, jV.sb, e0, r9, (jU.imp (fun g _ hs => ⟨hs.1, (by have := Sx_base hs; show bJ.heap.size ≤ g; omega)⟩)), (eB.imp (fun g _ hs => ⟨hs.1, (by have := Sx_base hs; show bJ.heap.size ≤ g; omega)⟩)), ω⟩
  clear r9; clear cF e0
  intro lU lV ⟨cG, cH, cV, cW, jW, fM, lW, jX, jY, lX⟩
  have := fM.size
  refine wp_ret ?_
  refine t_r ?_
  refine ret_ jW [] [.slice cH ((List.replicate (((li.length : Nat) : Int) : Int).toNat (false : Bool)).length) cW, .slice cG ((List.replicate (((li.length : Nat) : Int) : Int).toNat (false : Bool)).length) cV] [] κ trivial ?_
  exact ⟨cH, cW, cG, cV, _, _, rfl, fM, (jY.imp (fun g _ hs => ⟨hs.1, .inr (by have := Sx_base hs; omega)⟩)), (jX.imp (fun g _ hs => ⟨hs.1, .inr (by have := Sx_base hs; omega)⟩)), (won_empty (fun i h_ => by have := some_iff.2 ⟨i, h_⟩; simp_all) (by simp; omega) (by simp; omega) (rep_in _) (rep_in _))⟩
 have lY : (someB li) = true := by first | exact Eq.mp (Bool.not_eq_true' _) bQ | exact Eq.mp (Bool.not_eq_false' _) bQ | simpa using bQ
 refine wp_skip ?_
 refine t_n ?_
 refine sqs ?_
 refine At.rk cF 1 [(8, .int .i64 (-1))] .n (fun lZ fN => ?_)
 clear cF
 refine At.dn ?_
 refine wp_seq ?_
 refine sqs ?_
 refine At.rk fN 1 [(9, .int .i64 (0))] .n (fun mA fO => ?_)
 clear fN
 refine At.dn ?_
 refine wp_block ?_
 refine loop_g (fun (m_ : Nat) a_ w_ => ∃ (k : Int) (t : Int), m_ = ((li.length : Int) - k).toNat ∧ (Frm 141 a_ [(9, .int .i64 (k)), (8, .int .i64 (t)), (6, .int .i64 (((li.length : Nat) : Int))), (5, .slice none 0 0), (4, .slice none 0 0), (2, pt w.heap.size 0), (1, .slice A li.length c)]) ∧ (Ext w w_) ∧ (RdG w_ 0 w.heap.size Ag0 Ag1 Ag2 cg0 cg1 cg2 g) ∧ (OwnR w_ (Sx (b0) [some (w.heap.size)]) A c 4 (li : List Bool)) ∧ (Bx w_ (w.heap.size) [.slice Ag0 g.ow.length cg0, .slice Ag1 g.pr.length cg1, .slice Ag2 g.mv.length cg2] 25) ∧ (0 ≤ k) ∧ (k ≤ (li.length : Int)) ∧ (MaxT g li t k) ∧ (b0 ≤ w_.heap.size)) _ ⟨0, (-1), rfl, fO.sb, e0, r9, cD, bx6, ω, (Int.natCast_nonneg _), max_0, ω⟩ ?_
 clear fO; clear r9; clear cD; clear bx6; clear e0
 intro m_ mB aZ ⟨k, t, hm121, fP, bK, bC, bD, bB, i126, i127, hmx, i128⟩
 have szw119 := bK.size; have := bB.lt
 refine wp_seq ?_
 refine sqs ?_
 refine At.rk fP 3 [(31, .bool (decide ((k : Int) < ((li.length : Nat) : Int))))] .n (fun mC bR => ?_)
 clear fP
 refine At.dn ?_
 refine cond_S bR (t := decide ((k : Int) < ((li.length : Nat) : Int))) rfl (fun eC => ?_) (fun eC => ?_)
 ·have mD := of_decide_eq_true eC
  refine wp_skip ?_
  refine t_n ?_
  refine wp_seq ?_
  refine wp_block ?_
  refine sqs ?_
  obtain ⟨mE, fQ, mF, fR, mG⟩ := bD.get (k) ω ω (sz := 1) rfl
  rcases Bool.eq_false_or_eq_true (gB li k) with eD | eD
  ·obtain ⟨jZ, kA, _, _, kB⟩ := RdI.get bC.pr (k) ω ω
   refine At.rk bR 13 [(46, .bool (decide ((gI g.pr (k) : Int) > t))), (45, .bool (decide ((gI g.pr (k) : Int) > t))), (44, .int .i64 (t)), (43, .int .i64 (gI g.pr (k))), (42, .pointer (some (jZ.add ((k : Int).toNat * 1)))), (41, .int .i64 (k)), (40, .slice Ag1 g.pr.length cg1), (39, pt w.heap.size 1)] (.a k li.length fQ <| .l fR <| .e 38 eD <| .l (bB.cell (i := 1) rfl) <| .a k g.pr.length kA <| .l kB <| .n) (fun mH dC => ?_)
   clear bR
   refine At.dn ?_
   refine cond_S dC (t := decide ((gI g.pr (k) : Int) > t)) rfl (fun eE => ?_) (fun eE => ?_)
   ·have mI := of_decide_eq_true eE
    refine At.start ?_
    obtain ⟨mJ, kC, _, _, kD⟩ := RdI.get bC.pr (k) ω ω
    refine At.rk dC 6 [(8, .int .i64 (gI g.pr (k)))] (.l (bB.cell (i := 1) rfl) <| .a k g.pr.length kC <| .l kD <| .n) (fun mK fS => ?_)
    clear dC
    refine At.done rfl ?_
    refine b_n ?_
    refine t_n ?_
    refine At.start ?_
    refine At.rk fS 3 [(9, .int .i64 (k + 1))] (.w 33 (k + 1) <| .n) (fun mL kE => ?_)
    clear fS
    refine At.dn ?_
    exact ⟨_, ω, (k + 1), gI g.pr (k), rfl, kE.sb, bK, bC, bD, bB, ω, ω, (max_up hmx ω σ ω), ω⟩
   have mM := of_decide_eq_false eE
   refine wp_skip ?_
   refine b_n ?_
   refine t_n ?_
   refine At.start ?_
   refine At.rk dC 3 [(9, .int .i64 (k + 1))] (.w 33 (k + 1) <| .n) (fun mN kF => ?_)
   clear dC
   refine At.dn ?_
   exact ⟨_, ω, (k + 1), t, rfl, kF.sb, bK, bC, bD, bB, ω, ω, (max_keep hmx (fun h_ => by first | (rw [show gB li k = false from by assumption] at h_; cases h_) | omega)), ω⟩
  refine At.rk bR 13 [(46, .bool false)] (.a k li.length fQ <| .l fR <| .e 38 eD <| .n) (fun mO eF => ?_)
  clear bR
  refine At.dn ?_
  refine cond_F eF rfl ?_
  refine wp_skip ?_
  refine b_n ?_
  refine t_n ?_
  refine At.start ?_
  refine At.rk eF 3 [(9, .int .i64 (k + 1))] (.w 33 (k + 1) <| .n) (fun mP kG => ?_)
  clear eF
  refine At.dn ?_
  exact ⟨_, ω, (k + 1), t, rfl, kG.sb, bK, bC, bD, bB, ω, ω, (max_keep hmx (fun h_ => by first | (rw [show gB li k = false from by assumption] at h_; cases h_) | omega)), ω⟩
 have mQ := of_decide_eq_false eC
 refine wp_exit ?_
 refine t_e ?_
 clear hm121
 refine t_e ?_
 refine b_e ?_
 refine t_n ?_
 refine wp_seq ?_
 obtain ⟨p, hp2⟩ : ∃ p : Int, t % 2 = p := ⟨_, rfl⟩
 have hHi := max_end hG hL hmx ω (by simp_all); have hge := hHi.ge
 refine At.start ?_
 refine At.rk bR 3 [(10, .int .i64 (p))] (.p (show (2 : Int) ≠ 0 from ω) <| .v 53 (show (.int .i64 ((t : Int).tmod 2) : Value) = .int .i64 (p) from (Eq.trans (b := (.int .i64 ((t : Int) % 2) : Value)) (congrArg (Value.int .i64) (Int.tmod_eq_emod_of_nonneg ω)) (congrArg (Value.int .i64) hp2))) <| .n) (fun mR fT => ?_)
 clear bR
 refine At.dn ?_
 refine sqs ?_
 refine At.rk fT 1 [(54, .int .i64 (((li.length : Nat) : Int)))] .n (fun mS fU => ?_)
 clear fT
 refine At.act fU (makeR (k1 := .i64) (k2 := .i64) (α := Bool) (e := 4) (bytes := 1) (t := 60) (d := 55) (n := ((li.length : Nat) : Int)) (cap := ((li.length : Nat) : Int)) (false) κ rfl κ ω ω ω ω) ?_
 rintro d_ v_ kH ⟨rfl, rfl, cK, dM⟩
 refine ⟨_, rfl, fun mT fV => ?_⟩
 clear fU; replace dM := dM (Sx (aZ.heap.size) [obk (A)]) ⟨bD.ne_new, (Nat.le_refl _)⟩; have szw167 := cK.size; replace bK := bK.gn cK; replace bC := bC.gn cK
 replace bD : OwnR kH (Sx (b0) [obk (some ⟨aZ.heap.size, 0, none⟩), some (w.heap.size)]) A c 4 (li : List Bool) := bD.grA cK (fun _ _ h => by cases h) (fun k hk hs => ⟨(fun e => by simp only [obk, Option.map_some] at e; injection e; omega), hs.1, hs.2⟩)
 replace bB := bB.gn cK; clear cK; have : (List.replicate (((li.length : Nat) : Int) : Int).toNat (false : Bool)).length = (((li.length : Nat) : Int) : Int).toNat := List.length_replicate
 refine At.rk fV 1 [(11, .slice (some ⟨aZ.heap.size, 0, none⟩) ((List.replicate (((li.length : Nat) : Int) : Int).toNat (false : Bool)).length) ((((li.length : Nat) : Int) : Int).toNat))] .n (fun mU fW => ?_)
 clear fV
 refine At.dn ?_
 refine wp_seq ?_
 refine sqs ?_
 refine At.rk fW 1 [(12, .int .i64 (0))] .n (fun mV fX => ?_)
 clear fW
 refine At.dn ?_
 refine wp_block ?_
 have fY := fX.as 11 (.slice (some ⟨aZ.heap.size, 0, none⟩) ((List.replicate (((li.length : Nat) : Int) : Int).toNat (false : Bool)).length) ((((li.length : Nat) : Int) : Int).toNat)) (.slice (some ⟨aZ.heap.size, 0, none⟩) ((List.replicate (((li.length : Nat) : Int) : Int).toNat (false : Bool) : List Bool).length) ((((li.length : Nat) : Int) : Int).toNat)) rfl (slice_len (by first | rfl | omega | (simp; done) | (simp; omega)))
 clear fX
 refine loop_g (fun (m_ : Nat) a_ w_ => ∃ (k1 : Int) (mm : List Bool) (aA : Option Addr) (aV : Nat), m_ = ((li.length : Int) - k1).toNat ∧ (Frm 141 a_ [(12, .int .i64 (k1)), (11, .slice aA mm.length aV), (10, .int .i64 (p)), (8, .int .i64 (t)), (6, .int .i64 (((li.length : Nat) : Int))), (5, .slice none 0 0), (4, .slice none 0 0), (2, pt w.heap.size 0), (1, .slice A li.length c)]) ∧ (Ext w w_) ∧ (RdG w_ 0 w.heap.size Ag0 Ag1 Ag2 cg0 cg1 cg2 g) ∧ (OwnR w_ (Sx (b0) [obk (aA), some (w.heap.size)]) A c 4 (li : List Bool)) ∧ (Bx w_ (w.heap.size) [.slice Ag0 g.ow.length cg0, .slice Ag1 g.pr.length cg1, .slice Ag2 g.mv.length cg2] 25) ∧ (OwnR w_ (Sx (aZ.heap.size) [obk (A)]) aA aV 4 (mm : List Bool)) ∧ (0 ≤ k1) ∧ (k1 ≤ (li.length : Int)) ∧ (MosK g li mm t k1) ∧ (mm.length = g.ow.length) ∧ (b0 ≤ w_.heap.size) ∧ (aZ.heap.size ≤ w_.heap.size)) _ ⟨0, (List.replicate (((li.length : Nat) : Int) : Int).toNat (false : Bool) : List Bool), some ⟨aZ.heap.size, 0, none⟩, (((li.length : Nat) : Int) : Int).toNat, rfl, fY.sb, bK, bC, bD, bB, dM, ω, (Int.natCast_nonneg _), (by rw [Int.toNat_natCast]; exact mosK_0), (by simp; omega), ω, ω⟩ ?_
 clear fY; clear bC; clear bD; clear bB; clear dM; clear bK
 intro m_ mW dN ⟨k1, mm, aA, aV, hm189, fZ, aJ, aF, aD, aB, aL, i195, i196, hmk, hmml, i197, i198⟩
 have szw187 := aJ.size; have := aB.lt
 have szc199 : w.heap.size < aZ.heap.size := by omega
 have szc200 : aZ.heap.size ≤ dN.heap.size := by omega
 clear szw1 szw17 szw119 szw167 szw187
 refine wp_seq ?_
 refine sqs ?_
 refine At.rk fZ 3 [(58, .bool (decide ((k1 : Int) < ((li.length : Nat) : Int))))] .n (fun mX bS => ?_)
 clear fZ
 refine At.dn ?_
 refine cond_S bS (t := decide ((k1 : Int) < ((li.length : Nat) : Int))) rfl (fun eG => ?_) (fun eG => ?_)
 ·have mY := of_decide_eq_true eG
  refine wp_skip ?_
  refine t_n ?_
  refine wp_seq ?_
  refine wp_block ?_
  refine At.start ?_
  obtain ⟨mZ, gA, nA, gC, nB⟩ := aD.get (k1) ω ω (sz := 1) rfl
  rcases Bool.eq_false_or_eq_true (gB li k1) with eH | eH
  ·obtain ⟨kI, kJ, _, _, kK⟩ := RdI.get aF.pr (k1) ω ω
   obtain ⟨gD, gE, nC, nD, nE⟩ := aL.get (k1) ω ω (sz := 1) rfl
   refine At.rk bS 16 [(76, .pointer (some (gD.add ((k1 : Int).toNat * 1)))), (75, .bool ((gI g.pr (k1) : Int) == t)), (74, .bool ((gI g.pr (k1) : Int) == t)), (73, .int .i64 (t)), (72, .int .i64 (gI g.pr (k1))), (71, .pointer (some (kI.add ((k1 : Int).toNat * 1)))), (70, .int .i64 (k1)), (69, .slice Ag1 g.pr.length cg1), (68, pt w.heap.size 1)] (.a k1 li.length gA <| .l gC <| .e 67 eH <| .l (aB.cell (i := 1) rfl) <| .a k1 g.pr.length kJ <| .l kK <| .a k1 mm.length gE <| .n) (fun nF gF => ?_)
   clear bS
   refine At.act gF (storeR (α := Bool) (t := 4) (i := k1) (ad := gD) (v := .bool ((gI g.pr (k1) : Int) == t)) ((gI g.pr (k1) : Int) == t) κ rfl rfl κ gE aL ω ω) ?_
   rintro d_ v_ nG ⟨rfl, cL, kL⟩
   refine ⟨_, rfl, fun nH gG => ?_⟩
   clear gF; have nI : ((mm).set (k1 : Int).toNat ((gI g.pr (k1) : Int) == t)).length = (mm).length := List.length_set; have := cL.size; replace aJ := aJ.gr cL (fun k hk => by have := aL.ge k hk; omega); replace aF := aF.gr cL (fun k hk => by have := aL.ge k hk; omega); replace aD := aD.gr cL (fun k hk => hk.1); replace aB := aB.gr cL (fun e => by have := aL.ge _ e; omega); clear aL cL
   refine At.done rfl ?_
   refine b_n ?_
   refine t_n ?_
   refine At.start ?_
   refine At.rk gG 3 [(12, .int .i64 (k1 + 1))] (.w 60 (k1 + 1) <| .n) (fun nJ gH => ?_)
   clear gG
   refine At.dn ?_
   have kM := gH.as 11 (.slice aA mm.length aV) (.slice aA (((mm).set (k1 : Int).toNat ((gI g.pr (k1) : Int) == t) : List Bool).length) aV) rfl (slice_len (by first | (simp only [List.length_set]; done) | rfl | omega | (simp; done) | (simp; omega)))
   clear gH
   exact ⟨_, ω, (k1 + 1), ((mm).set (k1 : Int).toNat ((gI g.pr (k1) : Int) == t) : List Bool), aA, aV, rfl, kM.sb, aJ, aF, aD, aB, kL, ω, ω, (mosK_next hmk ω ω (by simp_all)), (by rw [List.length_set]; assumption), ω, ω⟩
  obtain ⟨gJ, gK, nK, nL, nM⟩ := aL.get (k1) ω ω (sz := 1) rfl
  refine At.rk bS 16 [(76, .pointer (some (gJ.add ((k1 : Int).toNat * 1)))), (75, .bool false)] (.a k1 li.length gA <| .l gC <| .e 67 eH <| .a k1 mm.length gK <| .n) (fun nN gL => ?_)
  clear bS
  refine At.act gL (storeR (α := Bool) (t := 4) (i := k1) (ad := gJ) (v := .bool false) (false) κ rfl rfl κ gK aL ω ω) ?_
  rintro d_ v_ nO ⟨rfl, cM, kN⟩
  refine ⟨_, rfl, fun nP gM => ?_⟩
  clear gL; have nQ : ((mm).set (k1 : Int).toNat false).length = (mm).length := List.length_set; have := cM.size; replace aJ := aJ.gr cM (fun k hk => by have := aL.ge k hk; omega); replace aF := aF.gr cM (fun k hk => by have := aL.ge k hk; omega); replace aD := aD.gr cM (fun k hk => hk.1); replace aB := aB.gr cM (fun e => by have := aL.ge _ e; omega); clear aL cM
  refine At.done rfl ?_
  refine b_n ?_
  refine t_n ?_
  refine At.start ?_
  refine At.rk gM 3 [(12, .int .i64 (k1 + 1))] (.w 60 (k1 + 1) <| .n) (fun nR gN => ?_)
  clear gM
  refine At.dn ?_
  have kO := gN.as 11 (.slice aA mm.length aV) (.slice aA (((mm).set (k1 : Int).toNat false : List Bool).length) aV) rfl (slice_len (by first | (simp only [List.length_set]; done) | rfl | omega | (simp; done) | (simp; omega)))
  clear gN
  exact ⟨_, ω, (k1 + 1), ((mm).set (k1 : Int).toNat false : List Bool), aA, aV, rfl, kO.sb, aJ, aF, aD, aB, kN, ω, ω, (mosK_next hmk ω ω (by simp_all)), (by rw [List.length_set]; assumption), ω, ω⟩
 have nS := of_decide_eq_false eG
 refine wp_exit ?_
 refine t_e ?_
 clear hm189
 refine t_e ?_
 refine b_e ?_
 refine t_n ?_
 refine wp_seq ?_
 have hmi := most_in hmk ω
 refine At.start ?_
 refine At.rk bS 4 [(80, .slice aA mm.length aV), (79, .int .i64 (p)), (78, .slice A li.length c), (77, .agg #[.slice Ag0 g.ow.length cg0, .slice Ag1 g.pr.length cg1, .slice Ag2 g.mv.length cg2])] (.l (aB.cell (i := 0) rfl) <| .l (aB.cell (i := 1) rfl) <| .l (aB.cell (i := 2) rfl) <| .n) (fun nT gO => ?_)
 clear bS
 refine At.cl gO (some 81) (args := #[.agg #[.slice Ag0 g.ow.length cg0, .slice Ag1 g.pr.length cg1, .slice Ag2 g.mv.length cg2], .slice A li.length c, .int .i64 (p), .slice aA mm.length aV]) (attractR_any (g := g) (li := li) (lu := mm) (p := p) (aF.wide (Nat.zero_le _) ω) ((aD.rdR (by simp only [Enc.bytes]; omega)).wide (Nat.zero_le _) ω) ((aL.rdR (by simp only [Enc.bytes]; omega)).wide (Nat.zero_le _) ω) hR ω ω) ?_
 rintro e_ dO ⟨aH, cN, wa, rfl, he, aN, hlwa, hwa⟩
 refine ⟨_, rfl, _, rfl, fun nU gP => ?_⟩
 clear gO; have bT := gr_ext he; have gQ := aD.lt; have gR := aL.lt; have szw263 := bT.size; replace aJ := aJ.gn bT; replace aF := aF.gn bT
 replace aD : OwnR dO (Sx (b0) [obk (aH), obk (aA), some (w.heap.size)]) A c 4 (li : List Bool) := aD.grA bT (fun _ _ h => by cases h) (fun k hk hs => ⟨(fun e => by have := aN.ge _ e; omega), hs.1, hs.2.1, hs.2.2⟩)
 replace aB := aB.gn bT
 replace aL : OwnR dO (Sx (aZ.heap.size) [obk (aH), obk (A)]) aA aV 4 (mm : List Bool) := aL.grA bT (fun _ _ h => by cases h) (fun k hk hs => ⟨(fun e => by have := aN.ge _ e; omega), hs.1, hs.2⟩)
 replace aN : OwnR dO (Sx (dN.heap.size) [obk (A), obk (aA)]) aH cN 4 (wa : List Bool) := aN.imp (fun g _ hs => ⟨(fun e => by have := gQ _ e; have := Sx_base hs; omega), (fun e => by have := gR _ e; have := Sx_base hs; omega), hs⟩)
 clear gQ gR; clear bT he
 refine At.rk gP 1 [(13, .slice aH wa.length cN)] .n (fun nV gS => ?_)
 clear gP
 refine At.dn ?_
 clear aL; have hex1 := most_ex hHi hmi hL hn1 hwa
 refine wp_seq ?_
 obtain ⟨gT, dP⟩ : ∃ c : List (Addr × Value), c = [(⟨w.heap.size, 0, none⟩, (.slice Ag0 g.ow.length cg0)), (⟨w.heap.size, 1, none⟩, (.slice Ag1 g.pr.length cg1)), (⟨w.heap.size, 2, none⟩, (.slice Ag2 g.mv.length cg2))] := ⟨_, rfl⟩
 have gU : HoldsC gT dO := by rw [dP]; exact ⟨(aB.cell (i := 0) rfl), (aB.cell (i := 1) rfl), (aB.cell (i := 2) rfl), trivial⟩
 refine AtH.start gT 10 _ κ rfl rfl (fun cO gV => ?_)
 have bL := gr_drew gV; have gW := gU.gr bL; have szw281 := bL.size; replace aJ := aJ.gn bL; replace aF := aF.gn bL; replace aD := aD.gn bL; replace aB := aB.gn bL; replace aN := aN.gn bL; clear bL gV gU
 refine AtH.rk gW gS [0, 1, 2] 7 [(85, .slice aH wa.length cN), (84, .slice A li.length c), (83, .agg #[.slice Ag0 g.ow.length cg0, .slice Ag1 g.pr.length cg1, .slice Ag2 g.mv.length cg2])] (.l (CsC_at dP 0 rfl) <| .l (CsC_at dP 1 rfl) <| .l (CsC_at dP 2 rfl) <| .n) (fun nW gX => ?_)
 clear gS
 refine AtH.all [3] 6 κ (by simp) ⟨?_, trivial⟩
 refine OneH.cl gX (some 86) (args := #[.slice A li.length c, .slice aH wa.length cN]) (lessB_any (la := li) (lb := wa) ((aD.rdR (by simp only [Enc.bytes]; omega)).wide (Nat.zero_le _) ω) ((aN.rdR (by simp only [Enc.bytes]; omega)).wide (Nat.zero_le _) ω) ω) ?_
 rintro e_ eI ⟨aW, gY, ls1, rfl, he, aR, hls1⟩
 have hlls1 := hls1.len
 refine ⟨_, rfl, _, rfl, fun nX gZ => ?_⟩
 clear gX; have bM := gr_ext he; have hA := gW.gr bM; have hB := aD.lt; have hC := aN.lt; have szw297 := bM.size; replace aJ := aJ.gn bM; replace aF := aF.gn bM
 replace aD : OwnR eI (Sx (b0) [obk (aW), obk (aH), obk (aA), some (w.heap.size)]) A c 4 (li : List Bool) := aD.grA bM (fun _ _ h => by cases h) (fun k hk hs => ⟨(fun e => by have := aR.ge _ e; omega), hs.1, hs.2.1, hs.2.2.1, hs.2.2.2⟩)
 replace aB := aB.gn bM
 replace aN : OwnR eI (Sx (dN.heap.size) [obk (aW), obk (A), obk (aA)]) aH cN 4 (wa : List Bool) := aN.grA bM (fun _ _ h => by cases h) (fun k hk hs => ⟨(fun e => by have := aR.ge _ e; omega), hs.1, hs.2.1, hs.2.2⟩)
 replace aR : OwnR eI (Sx (cO.heap.size) [obk (A), obk (aH)]) aW gY 4 (ls1 : List Bool) := aR.imp (fun g _ hs => ⟨(fun e => by have := hB _ e; have := Sx_base hs; omega), (fun e => by have := hC _ e; have := Sx_base hs; omega), hs⟩)
 clear hB hC; clear bM he
 refine ⟨hA, ?_⟩
 refine AtH.all [4] 5 κ (by simp) ⟨?_, trivial⟩
 refine OneH.cl gZ (some 87) (args := #[.agg #[.slice Ag0 g.ow.length cg0, .slice Ag1 g.pr.length cg1, .slice Ag2 g.mv.length cg2], .slice aW ls1.length gY]) ((ih ls1 (attB_live hR hL hlwa hwa hls1) (less_dec hls1 ω hex1)) (aF.wide (Nat.zero_le _) ω) (aR.imp (fun g _ hs => (show cO.heap.size ≤ g from by have := Sx_base hs; omega))) ω) ?_
 rintro e_ bU ⟨B310, d311, B312, d313, x1, y1, rfl, he, dQ, dR, hwx1⟩
 have hlx1 := hwx1.la; have hly1 := hwx1.lb
 refine ⟨_, rfl, _, rfl, fun nY hD => ?_⟩
 clear gZ; have bN := gr_ext he; have bV := hA.gr bN; have eJ := aD.lt; have eK := aN.lt; have lL_ := aR.lt; have szw318 := bN.size; replace aJ := aJ.gn bN; replace aF := aF.gn bN
 replace aD : OwnR bU (Sx (b0) [obk (B310), obk (B312), obk (aW), obk (aH), obk (aA), some (w.heap.size)]) A c 4 (li : List Bool) := aD.grA bN (fun _ _ h => by cases h) (fun k hk hs => ⟨(fun e => (dQ.inS k e).2.elim (fun h_ => hs.1 h_) (fun h_ => by omega)), (fun e => (dR.inS k e).2.elim (fun h_ => hs.1 h_) (fun h_ => by omega)), hs.1, hs.2.1, hs.2.2.1, hs.2.2.2.1, hs.2.2.2.2⟩)
 replace aB := aB.gn bN
 replace aN : OwnR bU (Sx (dN.heap.size) [obk (B310), obk (B312), obk (aW), obk (A), obk (aA)]) aH cN 4 (wa : List Bool) := aN.grA bN (fun _ _ h => by cases h) (fun k hk hs => ⟨(fun e => (dQ.inS k e).2.elim (fun h_ => hs.1 h_) (fun h_ => by omega)), (fun e => (dR.inS k e).2.elim (fun h_ => hs.1 h_) (fun h_ => by omega)), hs.1, hs.2.1, hs.2.2.1, hs.2.2.2⟩)
 have hE : OwnR bU (Sx (cO.heap.size) [obk (B312), obk (A), obk (aH)]) B310 d311 4 (x1 : List Bool) := dQ.imp (fun g _ hs => ⟨hs.1, (fun e => hs.2.elim (fun h_ => (aR.inS g h_).1 e) (fun h_ => by have := eJ _ e; omega)), (fun e => hs.2.elim (fun h_ => (aR.inS g h_).2.1 e) (fun h_ => by have := eK _ e; omega)), (hs.2.elim (fun h_ => aR.ge g h_) (fun h_ => by show cO.heap.size ≤ g; omega))⟩)
 have hF : OwnR bU (Sx (cO.heap.size) [obk (B310), obk (A), obk (aH)]) B312 d313 4 (y1 : List Bool) := dR.imp (fun g _ hs => ⟨hs.1, (fun e => hs.2.elim (fun h_ => (aR.inS g h_).1 e) (fun h_ => by have := eJ _ e; omega)), (fun e => hs.2.elim (fun h_ => (aR.inS g h_).2.1 e) (fun h_ => by have := eK _ e; omega)), (hs.2.elim (fun h_ => aR.ge g h_) (fun h_ => by show cO.heap.size ≤ g; omega))⟩)
 clear dQ dR aR lL_ eJ eK; clear bN he
 refine ⟨bV, ?_⟩
 refine AtH.rk bV hD [5] 4 [(82, .tuple #[.slice B310 x1.length d311, .slice B312 y1.length d313])] .n (fun nZ hH => ?_)
 clear hD
 refine AtH.rk bV hH [6] 3 [(88, .slice B310 x1.length d311)] .n (fun oA hI => ?_)
 clear hH
 refine AtH.rk bV hI [7] 2 [(89, .slice B312 y1.length d313)] .n (fun oB hJ => ?_)
 clear hI
 refine AtH.rk bV hJ [8] 1 [(14, .slice B310 x1.length d311)] .n (fun oC hK => ?_)
 clear hJ
 refine AtH.rk bV hK [9] 0 [(15, .slice B312 y1.length d313)] .n (fun oD hM => ?_)
 clear hK
 refine AtH.done κ ?_
 clear bV
 refine t_n ?_
 clear aN
 have hN := hM.sb (r := [(15, .slice B312 y1.length d313), (14, .slice B310 x1.length d311), (10, .int .i64 (p)), (6, .int .i64 (((li.length : Nat) : Int))), (5, .slice none 0 0), (4, .slice none 0 0), (2, pt w.heap.size 0), (1, .slice A li.length c)])
 clear hM
 refine sqs ?_
 refine At.rk hN 2 [(16, .slice B312 y1.length d313)] .n (fun oE eL => ?_)
 clear hN
 refine At.dn ?_
 refine wp_seq (cut (fun a_ w_ => ∃ (Al_ : Option Addr) (cl_ : Nat) (lo_ : List Bool) (oth_ : List Bool) (hi_ : Nat), (Frm 141 a_ [(16, .slice Al_ lo_.length cl_), (10, .int .i64 (p)), (6, .int .i64 (((li.length : Nat) : Int))), (5, .slice none 0 0), (4, .slice none 0 0), (2, pt w.heap.size 0), (1, .slice A li.length c)]) ∧ (Ext w w_) ∧ (RdG w_ 0 w.heap.size Ag0 Ag1 Ag2 cg0 cg1 cg2 g) ∧ (OwnR w_ (Sx (b0) [obk (B310), obk (B312), obk (aW), obk (aH), obk (aA), some (w.heap.size)]) A c 4 (li : List Bool)) ∧ (Bx w_ (w.heap.size) [.slice Ag0 g.ow.length cg0, .slice Ag1 g.pr.length cg1, .slice Ag2 g.mv.length cg2] 25) ∧ (RdR w_ 0 hi_ Al_ (lo_ : List Bool)) ∧ (WonP g ls1 p oth_ lo_) ∧ (lo_.length = g.ow.length) ∧ (hi_ ≤ w_.heap.size) ∧ (bU.heap.size ≤ w_.heap.size)) ?_ ?_)
 ·refine sqs ?_
  refine At.rk eL 2 [(92, .bool ((p : Int) == 1))] .n (fun oF dS => ?_)
  clear eL
  refine At.dn ?_
  refine cond_S dS (t := (p : Int) == 1) rfl (fun eM => ?_) (fun eM => ?_)
  ·have oG := eq_of_beq eM
   refine At.start ?_
   refine At.rk dS 2 [(16, .slice B310 x1.length d311)] .n (fun oH kP => ?_)
   clear dS
   refine At.dn ?_
   exact ⟨B310, d311, x1, y1, bU.heap.size, kP.sb, aJ, aF, aD, aB, ((hE.rdR (by simp only [Enc.bytes]; omega)).wide (Nat.zero_le _) (Nat.le_refl _)), (by first | (rw [show p = 1 - 0 by omega]; exact hwx1.swap) | (rw [show p = 0 by omega]; exact hwx1)), ω, ω, ω⟩
  have oI := ne_of_beq_false eM
  refine wp_skip ?_
  refine t_n ?_
  exact ⟨B312, d313, y1, x1, bU.heap.size, dS.sb, aJ, aF, aD, aB, ((hF.rdR (by simp only [Enc.bytes]; omega)).wide (Nat.zero_le _) (Nat.le_refl _)), (by first | (rw [show p = 1 - 0 by omega]; exact hwx1.swap) | (rw [show p = 0 by omega]; exact hwx1)), ω, ω, ω⟩
 clear aF; clear aD; clear aB; clear hE; clear hF; clear eL aJ
 intro oJ kQ ⟨Al_, cl_, lo_, oth_, hi_, hO, aE, aG, hP, aI, aK, hwp, hlol, i359, i360⟩
 have szw352 := aE.size; have := aI.lt
 have szc361 : w.heap.size < kQ.heap.size := by omega
 clear szc199 szc200 szw263 szw281 szw297 szw318 szw352
 refine wp_seq ?_
 clear hmml hlls1 hlx1 hly1 hpl hml
 refine At.start ?_
 refine At.rk hO 1 [(94, .slice Al_ lo_.length cl_)] .n (fun oK hQ => ?_)
 clear hO
 refine At.cl hQ (some 95) (args := #[.slice Al_ lo_.length cl_]) (someB_any (la := lo_) (aK.wide (Nat.zero_le _) ω)) ?_
 rintro e_ aS ⟨rfl, he⟩
 refine ⟨_, rfl, _, rfl, fun oL hS => ?_⟩
 clear hQ; have bW := gr_ext he; have szw364 := bW.size; replace aE := aE.gn bW; replace aG := aG.gn bW; have aC := hP.gn bW; clear hP; replace aI := aI.gn bW; replace aK := aK.gn bW; clear bW he
 refine At.rk hS 1 [(7, .bool (someB lo_))] .n (fun oM hT => ?_)
 clear hS
 refine At.dn ?_
 refine wp_seq ?_
 refine sqs ?_
 refine At.rk hT 2 [(97, .bool (!(someB lo_)))] .n (fun oN dD => ?_)
 clear hT
 refine At.dn ?_
 refine cond_S dD (t := !(someB lo_)) rfl (fun bX => ?_) (fun bX => ?_)
 ·have oO : (someB lo_) = false := by first | exact Eq.mp (Bool.not_eq_true' _) bX | exact Eq.mp (Bool.not_eq_false' _) bX | simpa using bX
  refine wp_seq ?_
  refine wp_seq ?_
  have hall := won_top hR hL hHi hmi hp2 hlwa hwa hls1 hwp (by simp_all)
  refine At.start ?_
  refine At.rk dD 2 [(99, .bool ((p : Int) == 0))] .n (fun oP dE => ?_)
  clear dD
  refine At.dn ?_
  clear aI
  refine cond_S dE (t := (p : Int) == 0) rfl (fun eN => ?_) (fun eN => ?_)
  ·have oQ := eq_of_beq eN
   refine wp_seq ?_
   obtain ⟨hU, kR⟩ : ∃ c : List (Addr × Value), c = [] := ⟨_, rfl⟩
   have hV : HoldsC hU aS := by rw [kR]; exact trivial
   refine AtH.start hU 5 _ κ rfl rfl (fun dF hW => ?_)
   have bY := gr_drew hW; have hX := hV.gr bY; have := bY.size; replace aE := aE.gn bY; replace aG := aG.gn bY; replace aC := aC.gn bY; replace aK := aK.gn bY; clear bY hW hV
   refine AtH.rk hX dE [0, 1, 3] 2 [(4, .slice A li.length c), (101, .int .i64 (((li.length : Nat) : Int)))] .n (fun oR hY => ?_)
   clear dE
   refine AtH.all [2] 1 κ (by simp) ⟨?_, trivial⟩
   refine OneH.act hY _ rfl (makeR (k1 := .i64) (k2 := .i64) (α := Bool) (e := 4) (bytes := 1) (t := 60) (d := 102) (n := ((li.length : Nat) : Int)) (cap := ((li.length : Nat) : Int)) (false) κ rfl κ ω ω ω ω) ?_
   rintro d_ v_ kS ⟨rfl, rfl, bZ, eO⟩
   have eP := hX.gr bZ
   refine ⟨_, rfl, fun oS hZ => ⟨eP, ?_⟩⟩
   clear hY; replace eO := eO (Sx (dF.heap.size) [obk (A)]) ⟨aC.ne_new, (Nat.le_refl _)⟩; have := bZ.size; replace aE := aE.gn bZ; replace aG := aG.gn bZ
   replace aC : OwnR kS (Sx (b0) [obk (some ⟨dF.heap.size, 0, none⟩), obk (B310), obk (B312), obk (aW), obk (aH), obk (aA), some (w.heap.size)]) A c 4 (li : List Bool) := aC.grA bZ (fun _ _ h => by cases h) (fun k hk hs => ⟨(fun e => by simp only [obk, Option.map_some] at e; injection e; omega), hs.1, hs.2.1, hs.2.2.1, hs.2.2.2.1, hs.2.2.2.2.1, hs.2.2.2.2.2.1, hs.2.2.2.2.2.2⟩)
   replace aK := aK.gn bZ; clear bZ; have : (List.replicate (((li.length : Nat) : Int) : Int).toNat (false : Bool)).length = (((li.length : Nat) : Int) : Int).toNat := List.length_replicate
   refine AtH.rk eP hZ [4] 0 [(5, .slice (some ⟨dF.heap.size, 0, none⟩) ((List.replicate (((li.length : Nat) : Int) : Int).toNat (false : Bool)).length) ((((li.length : Nat) : Int) : Int).toNat))] .n (fun oT kT => ?_)
   clear hZ
   refine AtH.done κ ?_
   clear eP
   refine t_n ?_
   refine wp_ret ?_
   refine t_r ?_
   refine t_r ?_
   refine ret_ kT [] [.slice A li.length c, .slice (some ⟨dF.heap.size, 0, none⟩) ((List.replicate (((li.length : Nat) : Int) : Int).toNat (false : Bool)).length) ((((li.length : Nat) : Int) : Int).toNat)] [] κ trivial ?_
   exact ⟨A, c, some ⟨dF.heap.size, 0, none⟩, (((li.length : Nat) : Int) : Int).toNat, _, _, rfl, aE, (aC.self.imp (fun g _ hs => ⟨hs.1.1, .inl hs.2⟩)), (eO.imp (fun g _ hs => ⟨hs.1, .inr (by have := Sx_base hs; omega)⟩)), (won_one (by have h_ := hall; rwa [show p = 0 by omega] at h_) hL.len (by simp; omega) (rep_in _))⟩
  have oU := ne_of_beq_false eN
  refine wp_skip ?_
  refine t_n ?_
  refine sqs ?_
  refine At.rk dE 1 [(103, .int .i64 (((li.length : Nat) : Int)))] .n (fun oV iA => ?_)
  clear dE
  refine At.act iA (makeR (k1 := .i64) (k2 := .i64) (α := Bool) (e := 4) (bytes := 1) (t := 60) (d := 104) (n := ((li.length : Nat) : Int)) (cap := ((li.length : Nat) : Int)) (false) κ rfl κ ω ω ω ω) ?_
  rintro d_ v_ kU ⟨rfl, rfl, cP, eQ⟩
  refine ⟨_, rfl, fun oW iB => ?_⟩
  clear iA; replace eQ := eQ (Sx (aS.heap.size) [obk (A)]) ⟨aC.ne_new, (Nat.le_refl _)⟩; have := cP.size; replace aE := aE.gn cP; replace aG := aG.gn cP
  replace aC : OwnR kU (Sx (b0) [obk (some ⟨aS.heap.size, 0, none⟩), obk (B310), obk (B312), obk (aW), obk (aH), obk (aA), some (w.heap.size)]) A c 4 (li : List Bool) := aC.grA cP (fun _ _ h => by cases h) (fun k hk hs => ⟨(fun e => by simp only [obk, Option.map_some] at e; injection e; omega), hs.1, hs.2.1, hs.2.2.1, hs.2.2.2.1, hs.2.2.2.2.1, hs.2.2.2.2.2.1, hs.2.2.2.2.2.2⟩)
  replace aK := aK.gn cP; clear cP; have : (List.replicate (((li.length : Nat) : Int) : Int).toNat (false : Bool)).length = (((li.length : Nat) : Int) : Int).toNat := List.length_replicate
  refine At.rk iB 3 [(5, .slice A li.length c), (4, .slice (some ⟨aS.heap.size, 0, none⟩) ((List.replicate (((li.length : Nat) : Int) : Int).toNat (false : Bool)).length) ((((li.length : Nat) : Int) : Int).toNat))] .n (fun oX kV => ?_)
  clear iB
  refine At.dn ?_
  refine wp_ret ?_
  refine t_r ?_
  refine ret_ kV [] [.slice (some ⟨aS.heap.size, 0, none⟩) ((List.replicate (((li.length : Nat) : Int) : Int).toNat (false : Bool)).length) ((((li.length : Nat) : Int) : Int).toNat), .slice A li.length c] [] κ trivial ?_
  exact ⟨some ⟨aS.heap.size, 0, none⟩, (((li.length : Nat) : Int) : Int).toNat, A, c, _, _, rfl, aE, (eQ.imp (fun g _ hs => ⟨hs.1, .inr (by have := Sx_base hs; omega)⟩)), (aC.self.imp (fun g _ hs => ⟨hs.1.1, .inl hs.2⟩)), (won_one (by have h_ := hall; rwa [show p = 1 by omega] at h_) hL.len (by simp; omega) (rep_in _)).swap0⟩
 have oY : (someB lo_) = true := by first | exact Eq.mp (Bool.not_eq_true' _) bX | exact Eq.mp (Bool.not_eq_false' _) bX | simpa using bX
 refine wp_skip ?_
 refine t_n ?_
 refine sqs ?_
 refine At.rk dD 5 [(110, .slice Al_ lo_.length cl_), (109, .int .i64 (1 - p)), (107, .slice A li.length c), (106, .agg #[.slice Ag0 g.ow.length cg0, .slice Ag1 g.pr.length cg1, .slice Ag2 g.mv.length cg2])] (.l (aI.cell (i := 0) rfl) <| .l (aI.cell (i := 1) rfl) <| .l (aI.cell (i := 2) rfl) <| .w 109 (1 - p) <| .n) (fun oZ iC => ?_)
 clear dD
 refine At.cl iC (some 111) (args := #[.agg #[.slice Ag0 g.ow.length cg0, .slice Ag1 g.pr.length cg1, .slice Ag2 g.mv.length cg2], .slice A li.length c, .int .i64 (1 - p), .slice Al_ lo_.length cl_]) (attractR_any (g := g) (li := li) (lu := lo_) (p := 1 - p) (aG.wide (Nat.zero_le _) ω) ((aC.rdR (by simp only [Enc.bytes]; omega)).wide (Nat.zero_le _) ω) (aK.wide (Nat.zero_le _) ω) hR ω ω) ?_
 rintro e_ eR ⟨aM, bE, wb, rfl, he, aO, hlwb, hwb⟩
 refine ⟨_, rfl, _, rfl, fun pA iD => ?_⟩
 clear iC; have cA := gr_ext he; have iE := aC.lt; have szw436 := cA.size; replace aE := aE.gn cA; replace aG := aG.gn cA
 replace aC : OwnR eR (Sx (b0) [obk (aM), obk (B310), obk (B312), obk (aW), obk (aH), obk (aA), some (w.heap.size)]) A c 4 (li : List Bool) := aC.grA cA (fun _ _ h => by cases h) (fun k hk hs => ⟨(fun e => by have := aO.ge _ e; omega), hs.1, hs.2.1, hs.2.2.1, hs.2.2.2.1, hs.2.2.2.2.1, hs.2.2.2.2.2.1, hs.2.2.2.2.2.2⟩)
 replace aI := aI.gn cA; replace aK := aK.gn cA
 replace aO : OwnR eR (Sx (aS.heap.size) [obk (A)]) aM bE 4 (wb : List Bool) := aO.imp (fun g _ hs => ⟨(fun e => by have := iE _ e; have := Sx_base hs; omega), hs⟩)
 clear iE; clear cA he
 refine At.rk iD 1 [(17, .slice aM wb.length bE)] .n (fun pB iF => ?_)
 clear iD
 refine At.dn ?_
 have hex2 := lost_ex hL hn1 hls1 hwp (by simp_all) hwb
 refine wp_seq ?_
 obtain ⟨iG, dT⟩ : ∃ c : List (Addr × Value), c = [(⟨w.heap.size, 0, none⟩, (.slice Ag0 g.ow.length cg0)), (⟨w.heap.size, 1, none⟩, (.slice Ag1 g.pr.length cg1)), (⟨w.heap.size, 2, none⟩, (.slice Ag2 g.mv.length cg2))] := ⟨_, rfl⟩
 have iH : HoldsC iG eR := by rw [dT]; exact ⟨(aI.cell (i := 0) rfl), (aI.cell (i := 1) rfl), (aI.cell (i := 2) rfl), trivial⟩
 refine AtH.start iG 10 _ κ rfl rfl (fun bA iI => ?_)
 have bF := gr_drew iI; have iJ := iH.gr bF; have szw453 := bF.size; replace aE := aE.gn bF; replace aG := aG.gn bF; replace aC := aC.gn bF; replace aI := aI.gn bF; replace aK := aK.gn bF; replace aO := aO.gn bF; clear bF iI iH
 refine AtH.rk iJ iF [0, 1, 2] 7 [(115, .slice aM wb.length bE), (114, .slice A li.length c), (113, .agg #[.slice Ag0 g.ow.length cg0, .slice Ag1 g.pr.length cg1, .slice Ag2 g.mv.length cg2])] (.l (CsC_at dT 0 rfl) <| .l (CsC_at dT 1 rfl) <| .l (CsC_at dT 2 rfl) <| .n) (fun pC iK => ?_)
 clear iF
 refine AtH.all [3] 6 κ (by simp) ⟨?_, trivial⟩
 refine OneH.cl iK (some 116) (args := #[.slice A li.length c, .slice aM wb.length bE]) (lessB_any (la := li) (lb := wb) ((aC.rdR (by simp only [Enc.bytes]; omega)).wide (Nat.zero_le _) ω) ((aO.rdR (by simp only [Enc.bytes]; omega)).wide (Nat.zero_le _) ω) ω) ?_
 rintro e_ eS ⟨cQ, iL, ls2, rfl, he, aT, hls2⟩
 have hlls2 := hls2.len
 refine ⟨_, rfl, _, rfl, fun pD iM => ?_⟩
 clear iK; have bG := gr_ext he; have iN := iJ.gr bG; have iO := aC.lt; have iP := aO.lt; have szw470 := bG.size; replace aE := aE.gn bG; replace aG := aG.gn bG
 replace aC : OwnR eS (Sx (b0) [obk (cQ), obk (aM), obk (B310), obk (B312), obk (aW), obk (aH), obk (aA), some (w.heap.size)]) A c 4 (li : List Bool) := aC.grA bG (fun _ _ h => by cases h) (fun k hk hs => ⟨(fun e => by have := aT.ge _ e; omega), hs.1, hs.2.1, hs.2.2.1, hs.2.2.2.1, hs.2.2.2.2.1, hs.2.2.2.2.2.1, hs.2.2.2.2.2.2.1, hs.2.2.2.2.2.2.2⟩)
 replace aI := aI.gn bG; replace aK := aK.gn bG
 replace aO : OwnR eS (Sx (aS.heap.size) [obk (cQ), obk (A)]) aM bE 4 (wb : List Bool) := aO.grA bG (fun _ _ h => by cases h) (fun k hk hs => ⟨(fun e => by have := aT.ge _ e; omega), hs.1, hs.2⟩)
 replace aT : OwnR eS (Sx (bA.heap.size) [obk (A), obk (aM)]) cQ iL 4 (ls2 : List Bool) := aT.imp (fun g _ hs => ⟨(fun e => by have := iO _ e; have := Sx_base hs; omega), (fun e => by have := iP _ e; have := Sx_base hs; omega), hs⟩)
 clear iO iP; clear bG he
 refine ⟨iN, ?_⟩
 refine AtH.all [4] 5 κ (by simp) ⟨?_, trivial⟩
 refine OneH.cl iM (some 117) (args := #[.agg #[.slice Ag0 g.ow.length cg0, .slice Ag1 g.pr.length cg1, .slice Ag2 g.mv.length cg2], .slice cQ ls2.length iL]) ((ih ls2 (attB_live hR hL hlwb hwb hls2) (less_dec hls2 ω hex2)) (aG.wide (Nat.zero_le _) ω) (aT.imp (fun g _ hs => (show bA.heap.size ≤ g from by have := Sx_base hs; omega))) ω) ?_
 rintro e_ dU ⟨B484, d485, B486, d487, x2, y2, rfl, he, dV, dW, hwx2⟩
 have hlx2 := hwx2.la; have hly2 := hwx2.lb
 refine ⟨_, rfl, _, rfl, fun pE iQ => ?_⟩
 clear iM; have bH := gr_ext he; have cB := iN.gr bH; have eT := aC.lt; have eU := aO.lt; have lL_ := aT.lt; have szw492 := bH.size; replace aE := aE.gn bH; replace aG := aG.gn bH
 replace aC : OwnR dU (Sx (b0) [obk (B484), obk (B486), obk (cQ), obk (aM), obk (B310), obk (B312), obk (aW), obk (aH), obk (aA), some (w.heap.size)]) A c 4 (li : List Bool) := aC.grA bH (fun _ _ h => by cases h) (fun k hk hs => ⟨(fun e => (dV.inS k e).2.elim (fun h_ => hs.1 h_) (fun h_ => by omega)), (fun e => (dW.inS k e).2.elim (fun h_ => hs.1 h_) (fun h_ => by omega)), hs.1, hs.2.1, hs.2.2.1, hs.2.2.2.1, hs.2.2.2.2.1, hs.2.2.2.2.2.1, hs.2.2.2.2.2.2.1, hs.2.2.2.2.2.2.2.1, hs.2.2.2.2.2.2.2.2⟩)
 replace aI := aI.gn bH; replace aK := aK.gn bH
 replace aO : OwnR dU (Sx (aS.heap.size) [obk (B484), obk (B486), obk (cQ), obk (A)]) aM bE 4 (wb : List Bool) := aO.grA bH (fun _ _ h => by cases h) (fun k hk hs => ⟨(fun e => (dV.inS k e).2.elim (fun h_ => hs.1 h_) (fun h_ => by omega)), (fun e => (dW.inS k e).2.elim (fun h_ => hs.1 h_) (fun h_ => by omega)), hs.1, hs.2.1, hs.2.2⟩)
 have iR : OwnR dU (Sx (bA.heap.size) [obk (B486), obk (A), obk (aM)]) B484 d485 4 (x2 : List Bool) := dV.imp (fun g _ hs => ⟨hs.1, (fun e => hs.2.elim (fun h_ => (aT.inS g h_).1 e) (fun h_ => by have := eT _ e; omega)), (fun e => hs.2.elim (fun h_ => (aT.inS g h_).2.1 e) (fun h_ => by have := eU _ e; omega)), (hs.2.elim (fun h_ => aT.ge g h_) (fun h_ => by show bA.heap.size ≤ g; omega))⟩)
 have iS : OwnR dU (Sx (bA.heap.size) [obk (B484), obk (A), obk (aM)]) B486 d487 4 (y2 : List Bool) := dW.imp (fun g _ hs => ⟨hs.1, (fun e => hs.2.elim (fun h_ => (aT.inS g h_).1 e) (fun h_ => by have := eT _ e; omega)), (fun e => hs.2.elim (fun h_ => (aT.inS g h_).2.1 e) (fun h_ => by have := eU _ e; omega)), (hs.2.elim (fun h_ => aT.ge g h_) (fun h_ => by show bA.heap.size ≤ g; omega))⟩)
 clear dV dW aT lL_ eT eU; clear bH he
 refine ⟨cB, ?_⟩
 refine AtH.rk cB iQ [5] 4 [(112, .tuple #[.slice B484 x2.length d485, .slice B486 y2.length d487])] .n (fun pF iT => ?_)
 clear iQ
 refine AtH.rk cB iT [6] 3 [(118, .slice B484 x2.length d485)] .n (fun pG iU => ?_)
 clear iT
 refine AtH.rk cB iU [7] 2 [(119, .slice B486 y2.length d487)] .n (fun pH iV => ?_)
 clear iU
 refine AtH.rk cB iV [8] 1 [(14, .slice B484 x2.length d485)] .n (fun pI iW => ?_)
 clear iV
 refine AtH.rk cB iW [9] 0 [(15, .slice B486 y2.length d487)] .n (fun pJ iX => ?_)
 clear iW
 refine AtH.done κ ?_
 clear cB
 refine t_n ?_
 clear aC; clear aI
 have iY := iX.sb (r := [(15, .slice B486 y2.length d487), (14, .slice B484 x2.length d485), (17, .slice aM wb.length bE), (10, .int .i64 (p)), (6, .int .i64 (((li.length : Nat) : Int))), (5, .slice none 0 0), (4, .slice none 0 0)])
 clear iX
 refine wp_seq ?_
 refine wp_seq ?_
 clear hlol hlls2
 refine At.start ?_
 refine At.rk iY 1 [(18, .int .i64 (0))] .n (fun pK iZ => ?_)
 clear iY
 refine At.dn ?_
 refine wp_block ?_
 have jA := iZ.as 15 (.slice B486 y2.length d487) (.slice B486 ((y2 : List Bool).length) d487) rfl (slice_len (by first | rfl | omega | (simp; done) | (simp; omega)))
 clear iZ
 have jB := jA.as 14 (.slice B484 x2.length d485) (.slice B484 ((x2 : List Bool).length) d485) rfl (slice_len (by first | rfl | omega | (simp; done) | (simp; omega)))
 clear jA
 refine loop_g (fun (m_ : Nat) a_ w_ => ∃ (k2 : Int) (x3 : List Bool) (aP : Option Addr) (aX : Nat) (y3 : List Bool) (aQ : Option Addr) (aY : Nat), m_ = ((li.length : Int) - k2).toNat ∧ (Frm 141 a_ [(18, .int .i64 (k2)), (15, .slice aQ y3.length aY), (14, .slice aP x3.length aX), (17, .slice aM wb.length bE), (10, .int .i64 (p)), (6, .int .i64 (((li.length : Nat) : Int))), (5, .slice none 0 0), (4, .slice none 0 0)]) ∧ (Ext w w_) ∧ (RdG w_ 0 w.heap.size Ag0 Ag1 Ag2 cg0 cg1 cg2 g) ∧ (OwnR w_ (Sx (aS.heap.size) [obk (aP), obk (aQ)]) aM bE 4 (wb : List Bool)) ∧ (OwnR w_ (Sx (bA.heap.size) [obk (aQ), obk (aM)]) aP aX 4 (x3 : List Bool)) ∧ (OwnR w_ (Sx (bA.heap.size) [obk (aP), obk (aM)]) aQ aY 4 (y3 : List Bool)) ∧ (0 ≤ k2) ∧ (k2 ≤ (li.length : Int)) ∧ (GotK wb x2 x3 (p == 1) k2) ∧ (GotK wb y2 y3 (p == 0) k2) ∧ (x3.length = g.ow.length) ∧ (y3.length = g.ow.length) ∧ (aS.heap.size ≤ w_.heap.size) ∧ (bA.heap.size ≤ w_.heap.size)) _ ⟨0, (x2 : List Bool), B484, d485, (y2 : List Bool), B486, d487, rfl, jB.sb, aE, aG, (aO.imp (fun g _ hs => ⟨hs.1, hs.2.1, hs.2.2.2.2⟩)), (iR.imp (fun g _ hs => ⟨hs.1, hs.2.2.1, hs.2.2.2⟩)), (iS.imp (fun g _ hs => ⟨hs.1, hs.2.2.1, hs.2.2.2⟩)), ω, (Int.natCast_nonneg _), got_0, got_0, ω, ω, ω, ω⟩ ?_
 clear jB; clear aG; clear aO; clear iR; clear iS; clear aE
 intro m_ pL kW ⟨k2, x3, aP, aX, y3, aQ, aY, hm529, jC, bO, cR, bP, cC, bI, i535, i536, hgx, hgy, hx3l, hy3l, i537, i538⟩
 have szw527 := bO.size
 have szc539 : w.heap.size ≤ aS.heap.size := by omega
 have szc540 : aS.heap.size ≤ bA.heap.size := by omega
 have szc541 : bA.heap.size ≤ kW.heap.size := by omega
 clear szc361 szw364 szw436 szw453 szw470 szw492 szw527
 refine wp_seq ?_
 refine sqs ?_
 refine At.rk jC 3 [(122, .bool (decide ((k2 : Int) < ((li.length : Nat) : Int))))] .n (fun pM dG => ?_)
 clear jC
 refine At.dn ?_
 refine cond_S dG (t := decide ((k2 : Int) < ((li.length : Nat) : Int))) rfl (fun eV => ?_) (fun eV => ?_)
 ·have pN := of_decide_eq_true eV
  refine wp_skip ?_
  refine t_n ?_
  refine wp_seq ?_
  refine wp_block ?_
  refine wp_seq ?_
  have hkl : k2 < (li.length : Int) := by assumption
  have hkw : k2 < (wb.length : Int) := by rw [hlwb, ← hll]; exact hkl
  have hkx : k2 < (x3.length : Int) := by rw [hx3l, ← hll]; exact hkl
  have hky : k2 < (y3.length : Int) := by rw [hy3l, ← hll]; exact hkl
  have hkx2 : k2 < (x2.length : Int) := by rw [hlx2, ← hll]; exact hkl
  have hky2 : k2 < (y2.length : Int) := by rw [hly2, ← hll]; exact hkl
  refine At.start ?_
  obtain ⟨pO, kX, pP, kY, pQ⟩ := bP.get (k2) ω ω (sz := 1) rfl
  refine At.rk dG 4 [(128, .bool (gB wb k2))] (.a k2 wb.length kX <| .l kY <| .n) (fun pR dH => ?_)
  clear dG
  refine At.dn ?_
  refine cond_S dH (t := gB wb k2) rfl (fun kZ => ?_) (fun kZ => ?_)
  ·refine sqs ?_
   obtain ⟨jD, jE, pS, pT, pU⟩ := cC.get (k2) ω ω (sz := 1) rfl
   refine At.rk dH 5 [(133, .pointer (some (jD.add ((k2 : Int).toNat * 1)))), (132, .bool ((p : Int) == 1))] (.a k2 x3.length jE <| .n) (fun pV jF => ?_)
   clear dH
   refine At.act jF (storeR (α := Bool) (t := 4) (i := k2) (ad := jD) (v := .bool ((p : Int) == 1)) ((p : Int) == 1) κ rfl rfl κ jE cC ω ω) ?_
   rintro d_ v_ pW ⟨rfl, cS, eW⟩
   refine ⟨_, rfl, fun pX jG => ?_⟩
   clear jF; have pY : ((x3).set (k2 : Int).toNat ((p : Int) == 1)).length = (x3).length := List.length_set; have := cS.size; replace bO := bO.gr cS (fun k hk => by have := cC.ge k hk; omega); replace cR := cR.gr cS (fun k hk => by have := cC.ge k hk; omega); replace bP := bP.gr cS (fun k hk => hk.1); replace bI := bI.gr cS (fun k hk => hk.1); clear cC cS
   refine At.dn ?_
   refine At.start ?_
   obtain ⟨jH, jI, pZ, qA, qB⟩ := bI.get (k2) ω ω (sz := 1) rfl
   refine At.rk jG 5 [(138, .pointer (some (jH.add ((k2 : Int).toNat * 1)))), (137, .bool ((p : Int) == 0))] (.a k2 y3.length jI <| .n) (fun qC jJ => ?_)
   clear jG
   refine At.act jJ (storeR (α := Bool) (t := 4) (i := k2) (ad := jH) (v := .bool ((p : Int) == 0)) ((p : Int) == 0) κ rfl rfl κ jI bI ω ω) ?_
   rintro d_ v_ qD ⟨rfl, cU, lA⟩
   refine ⟨_, rfl, fun qE jK => ?_⟩
   clear jJ; have qF : ((y3).set (k2 : Int).toNat ((p : Int) == 0)).length = (y3).length := List.length_set; have := cU.size; replace bO := bO.gr cU (fun k hk => by have := bI.ge k hk; omega); replace cR := cR.gr cU (fun k hk => by have := bI.ge k hk; omega); replace bP := bP.gr cU (fun k hk => hk.2.1); replace eW := eW.gr cU (fun k hk => hk.1); clear bI cU
   refine At.done rfl ?_
   refine b_n ?_
   refine t_n ?_
   refine At.start ?_
   refine At.rk jK 3 [(18, .int .i64 (k2 + 1))] (.w 124 (k2 + 1) <| .n) (fun qG jL => ?_)
   clear jK
   refine At.dn ?_
   have jM := jL.as 15 (.slice aQ y3.length aY) (.slice aQ (((y3).set (k2 : Int).toNat ((p : Int) == 0) : List Bool).length) aY) rfl (slice_len (by first | (simp only [List.length_set]; done) | rfl | omega | (simp; done) | (simp; omega)))
   clear jL
   have lB := jM.as 14 (.slice aP x3.length aX) (.slice aP (((x3).set (k2 : Int).toNat ((p : Int) == 1) : List Bool).length) aX) rfl (slice_len (by first | (simp only [List.length_set]; done) | rfl | omega | (simp; done) | (simp; omega)))
   clear jM
   exact ⟨_, ω, (k2 + 1), ((x3).set (k2 : Int).toNat ((p : Int) == 1) : List Bool), aP, aX, ((y3).set (k2 : Int).toNat ((p : Int) == 0) : List Bool), aQ, aY, rfl, lB.sb, bO, cR, bP, eW, lA, ω, ω, (got_yes hgx ω ω σ rfl), (got_yes hgy ω ω σ rfl), (by rw [List.length_set]; exact hx3l), (by rw [List.length_set]; exact hy3l), ω, ω⟩
  refine wp_skip ?_
  refine b_n ?_
  refine t_n ?_
  refine At.start ?_
  refine At.rk dH 3 [(18, .int .i64 (k2 + 1))] (.w 124 (k2 + 1) <| .n) (fun qH jN => ?_)
  clear dH
  refine At.dn ?_
  have jO := jN.as 15 (.slice aQ y3.length aY) (.slice aQ ((y3 : List Bool).length) aY) rfl (slice_len (by first | rfl | omega | (simp; done) | (simp; omega))); clear jN; have lC := jO.as 14 (.slice aP x3.length aX) (.slice aP ((x3 : List Bool).length) aX) rfl (slice_len (by first | rfl | omega | (simp; done) | (simp; omega))); clear jO
  exact ⟨_, ω, (k2 + 1), (x3 : List Bool), aP, aX, (y3 : List Bool), aQ, aY, rfl, lC.sb, bO, cR, bP, cC, bI, ω, ω, (got_no hgx σ), (got_no hgy σ), ω, ω, ω, ω⟩
 have qI := of_decide_eq_false eV
 refine wp_exit ?_
 refine t_e ?_
 clear hm529
 refine t_e ?_
 refine b_e ?_
 refine t_n ?_
 clear bP
 refine sqs ?_
 refine At.rk dG 4 [(5, .slice aQ y3.length aY), (4, .slice aP x3.length aX)] .n (fun qJ lD => ?_)
 clear dG
 refine At.dn ?_
 refine wp_ret ?_
 refine ret_ lD [] [.slice aP x3.length aX, .slice aQ y3.length aY] [] κ trivial ?_
 exact ⟨aP, aX, aQ, aY, _, _, rfl, bO, (cC.imp (fun g _ hs => ⟨hs.1, .inr (by have := Sx_base hs; omega)⟩)), (bI.imp (fun g _ hs => ⟨hs.1, .inr (by have := Sx_base hs; omega)⟩)), (won_fin hR hL hHi hp2 hlwa hwa hls1 hwp hlwb hwb hls2 hwx2 hgx hgy ω)⟩
theorem won_any {g : GameL} (hR : isR g = true) (N : Nat) : ∀ l : List Bool, LiveB g l → cT l 256 < (N : Int) → WonOK g l := by
  induction N with
  | zero => intro l _ h; have := (cT_up l 256).1; omega
  | succ N ih =>
    intro l hL h
    unfold WonOK
    intro A0 A1 A2 A c0 c1 c2 c b0 w rg ri hb
    exact won_step hR hL (fun l2 h2 h3 => ih l2 h2 (by omega)) rg ri hb
end Go.Proofs.YtplpgfcjjnaigaaDoor
namespace Go.Proofs.YtplpgfcjjnaigaaDoor
open Go Go.RowKit
set_option maxHeartbeats 4000000 in
theorem rightR_any {Ag0 Ag1 Ag2 : Option Addr} {cg0 cg1 cg2 : Nat} {g : GameL} {w : World} (rg : RdG w 0 w.heap.size Ag0 Ag1 Ag2 cg0 cg1 cg2 g) :
    Calls Tryd.prog 34 #[.agg #[.slice Ag0 g.ow.length cg0, .slice Ag1 g.pr.length cg1, .slice Ag2 g.mv.length cg2]] w fun e w' => e = .returned (.tuple #[.int .i64 (rightP g).1, .int .i64 (rightP g).2]) ∧ Ext w w' := by
 have hlg0 := rg.ow.len; have hlg1 := rg.pr.len; have hlg2 := rg.mv.len; have hkg0 := rg.k0; have hkg1 := rg.k1; have hkg2 := rg.k2
 refine enter_ (args := [.agg #[.slice Ag0 g.ow.length cg0, .slice Ag1 g.pr.length cg1, .slice Ag2 g.mv.length cg2]]) Tryd.func34 rfl Tryd.ntmps34 (Nat.le_of_ble_eq_true rfl) (fun act0 f0 => ?_)
 have e0 : Ext w w := Ext.refl w
 refine sqs ?_
 refine At.bx f0 1 [.slice Ag0 g.ow.length cg0, .slice Ag1 g.pr.length cg1, .slice Ag2 g.mv.length cg2] 25 (fun w1 g5 bx6 act4 f3 => ?_)
 clear f0; have := g5.size; replace e0 := e0.gn g5; have r9 := rg.gn g5; clear rg; have := bx6.lt; clear g5
 refine At.rk f3 2 [(3, .int .i64 (0)), (2, .int .i64 (0))] .n (fun dF bL => ?_)
 clear f3
 refine At.dn ?_
 refine sqs ?_
 refine At.rk bL 4 [(4, .int .i64 (((g.ow.length : Nat) : Int)))] (.l (bx6.cell (i := 0) rfl) <| .n) (fun dG aU => ?_)
 clear bL
 refine At.dn ?_
 refine wp_seq ?_
 refine sqs ?_
 rcases Bool.eq_false_or_eq_true ((((g.pr.length : Nat) : Int) : Int) != ((g.ow.length : Nat) : Int)) with aG | aG
 ·have dH := bne_iff_ne.1 aG
  refine At.rk aU 12 [(23, .bool true)] (.l (bx6.cell (i := 1) rfl) <| .e 17 aG <| .n) (fun dI aZ => ?_)
  clear aU
  refine At.dn ?_
  refine cond_T aZ rfl ?_
  refine sqs ?_
  refine At.rk aZ 2 [(3, .int .i64 (1)), (2, .int .i64 (0))] .n (fun dJ cC => ?_)
  clear aZ
  refine At.dn ?_
  refine wp_ret ?_
  refine t_r ?_
  refine ret_ cC [] [.int .i64 (0), .int .i64 (1)] [] κ trivial ?_
  exact ⟨ret2_ii (right_lens ω) rfl rfl, e0⟩
 have dK := bne_eq_false_iff_eq.1 aG
 refine At.rk aU 12 [(23, .bool ((((g.mv.length : Nat) : Int) : Int) != ((g.ow.length : Nat) : Int)))] (.l (bx6.cell (i := 1) rfl) <| .e 17 aG <| .l (bx6.cell (i := 2) rfl) <| .n) (fun dL aB => ?_)
 clear aU
 refine At.dn ?_
 refine cond_S aB (t := (((g.mv.length : Nat) : Int) : Int) != ((g.ow.length : Nat) : Int)) rfl (fun bA => ?_) (fun bA => ?_)
 ·have dM := bne_iff_ne.1 bA
  refine sqs ?_
  refine At.rk aB 2 [(3, .int .i64 (1)), (2, .int .i64 (0))] .n (fun dN cD => ?_)
  clear aB
  refine At.dn ?_
  refine wp_ret ?_
  refine t_r ?_
  refine ret_ cD [] [.int .i64 (0), .int .i64 (1)] [] κ trivial ?_
  exact ⟨ret2_ii (right_lens ω) rfl rfl, e0⟩
 have dO := bne_eq_false_iff_eq.1 bA
 refine wp_skip ?_
 refine t_n ?_
 refine wp_seq ?_
 refine sqs ?_
 rcases Bool.eq_false_or_eq_true ((((g.ow.length : Nat) : Int) : Int) == 0) with aH | aH
 ·have dP := eq_of_beq aH
  refine At.rk aB 6 [(29, .bool true)] (.e 26 aH <| .n) (fun dQ bB => ?_)
  clear aB
  refine At.dn ?_
  refine cond_T bB rfl ?_
  refine sqs ?_
  refine At.rk bB 2 [(3, .int .i64 (10)), (2, .int .i64 (0))] .n (fun dR cE => ?_)
  clear bB
  refine At.dn ?_
  refine wp_ret ?_
  refine t_r ?_
  refine ret_ cE [] [.int .i64 (0), .int .i64 (10)] [] κ trivial ?_
  exact ⟨ret2_ii (right_many ω ω) rfl rfl, e0⟩
 have dS := ne_of_beq_false aH
 refine At.rk aB 6 [(29, .bool (decide ((((g.ow.length : Nat) : Int) : Int) > 200)))] (.e 26 aH <| .n) (fun dT aI => ?_)
 clear aB
 refine At.dn ?_
 refine cond_S aI (t := decide ((((g.ow.length : Nat) : Int) : Int) > 200)) rfl (fun bC => ?_) (fun bC => ?_)
 ·have dU := of_decide_eq_true bC
  refine sqs ?_
  refine At.rk aI 2 [(3, .int .i64 (10)), (2, .int .i64 (0))] .n (fun dV cF => ?_)
  clear aI
  refine At.dn ?_
  refine wp_ret ?_
  refine t_r ?_
  refine ret_ cF [] [.int .i64 (0), .int .i64 (10)] [] κ trivial ?_
  exact ⟨ret2_ii (right_many ω ω) rfl rfl, e0⟩
 have dW := of_decide_eq_false bC
 refine wp_skip ?_
 refine t_n ?_
 refine wp_seq ?_
 refine sqs ?_
 refine At.rk aI 1 [(5, .int .i64 (0))] .n (fun dX bM => ?_)
 clear aI
 refine At.dn ?_
 refine wp_block ?_
 refine loop_g (fun (m_ : Nat) a_ w_ => ∃ (k : Int), m_ = ((g.ow.length : Int) - k).toNat ∧ (Frm 101 a_ [(5, .int .i64 (k)), (4, .int .i64 (((g.ow.length : Nat) : Int))), (1, pt w.heap.size 0)]) ∧ (Ext w w_) ∧ (RdG w_ 0 w.heap.size Ag0 Ag1 Ag2 cg0 cg1 cg2 g) ∧ (Bx w_ (w.heap.size) [.slice Ag0 g.ow.length cg0, .slice Ag1 g.pr.length cg1, .slice Ag2 g.mv.length cg2] 25) ∧ (0 ≤ k) ∧ (k ≤ (g.ow.length : Int)) ∧ (∀ j : Nat, (j : Int) < k → g.err j = 0)) _ ⟨0, rfl, bM.sb, e0, r9, bx6, ω, ω, (fun j hj => by omega)⟩ ?_
 clear bM; clear r9; clear bx6; clear e0
 intro m_ dY cG ⟨k, hm48, bN, aE, aJ, aC, i52, i53, hp⟩
 have := aE.size; have := aC.lt
 refine wp_seq ?_
 refine sqs ?_
 refine At.rk bN 3 [(32, .bool (decide ((k : Int) < ((g.ow.length : Nat) : Int))))] .n (fun dZ aA => ?_)
 clear bN
 refine At.dn ?_
 refine cond_S aA (t := decide ((k : Int) < ((g.ow.length : Nat) : Int))) rfl (fun bD => ?_) (fun bD => ?_)
 ·have eA := of_decide_eq_true bD
  refine wp_skip ?_
  refine t_n ?_
  refine wp_seq ?_
  refine wp_block ?_
  refine wp_seq (cut (fun a_ w_ => (Frm 101 a_ [(5, .int .i64 (k)), (4, .int .i64 (((g.ow.length : Nat) : Int))), (1, pt w.heap.size 0)]) ∧ (Ext w w_) ∧ (RdG w_ 0 w.heap.size Ag0 Ag1 Ag2 cg0 cg1 cg2 g) ∧ (Bx w_ (w.heap.size) [.slice Ag0 g.ow.length cg0, .slice Ag1 g.pr.length cg1, .slice Ag2 g.mv.length cg2] 25) ∧ (gI g.ow k = 0 ∨ gI g.ow k = 1) ∧ (cG.heap.size ≤ w_.heap.size)) ?_ ?_)
  ·refine sqs ?_
   obtain ⟨eB, bO, _, _, bP⟩ := RdI.get aJ.ow (k) ω ω
   rcases Bool.eq_false_or_eq_true ((gI g.ow (k) : Int) != 0) with aK | aK
   ·have eC := bne_iff_ne.1 aK
    obtain ⟨cH, cI, _, _, cJ⟩ := RdI.get aJ.ow (k) ω ω
    refine At.rk aA 14 [(48, .bool ((gI g.ow (k) : Int) != 1)), (47, .bool ((gI g.ow (k) : Int) != 1)), (46, .int .i64 (gI g.ow (k))), (45, .pointer (some (cH.add ((k : Int).toNat * 1)))), (44, .int .i64 (k)), (43, .slice Ag0 g.ow.length cg0), (42, pt w.heap.size 0)] (.l (aC.cell (i := 0) rfl) <| .a k g.ow.length bO <| .l bP <| .e 41 aK <| .l (aC.cell (i := 0) rfl) <| .a k g.ow.length cI <| .l cJ <| .n) (fun eD aV => ?_)
    clear aA
    refine At.dn ?_
    refine cond_S aV (t := (gI g.ow (k) : Int) != 1) rfl (fun bE => ?_) (fun bE => ?_)
    ·have eE := bne_iff_ne.1 bE
     refine sqs ?_
     refine At.rk aV 3 [(3, .int .i64 (14)), (2, .int .i64 (k))] .n (fun eF cK => ?_)
     clear aV
     refine At.dn ?_
     refine wp_ret ?_
     refine t_r ?_
     refine b_r ?_
     refine t_r ?_
     refine t_r ?_
     refine b_r ?_
     refine t_r ?_
     refine ret_ cK [] [.int .i64 (k), .int .i64 (14)] [] κ trivial ?_
     exact ⟨ret2_ii (right_at' ω ω ω ω σ (err_14 ω ω) (by decide)) rfl rfl, aE⟩
    have eG := bne_eq_false_iff_eq.1 bE
    refine wp_skip ?_
    refine t_n ?_
    exact ⟨aV.sb, aE, aJ, aC, ω, ω⟩
   have eH := bne_eq_false_iff_eq.1 aK
   refine At.rk aA 14 [(48, .bool false)] (.l (aC.cell (i := 0) rfl) <| .a k g.ow.length bO <| .l bP <| .e 41 aK <| .n) (fun eI bQ => ?_)
   clear aA
   refine At.dn ?_
   refine cond_F bQ rfl ?_
   refine wp_skip ?_
   refine t_n ?_
   exact ⟨bQ.sb, aE, aJ, aC, ω, ω⟩
  clear aJ; clear aC; clear aA aE
  intro eJ eK ⟨aW, aF, aL, aD, i82, i83⟩
  have := aF.size; have := aD.lt
  refine wp_seq ?_
  refine sqs ?_
  obtain ⟨eL, bR, _, _, bS⟩ := RdI.get aL.pr (k) ω ω
  rcases Bool.eq_false_or_eq_true (decide ((gI g.pr (k) : Int) < 0)) with aM | aM
  ·have eM := of_decide_eq_true aM
   refine At.rk aW 14 [(63, .bool true)] (.l (aD.cell (i := 1) rfl) <| .a k g.pr.length bR <| .l bS <| .e 56 aM <| .n) (fun eN bF => ?_)
   clear aW
   refine At.dn ?_
   refine cond_T bF rfl ?_
   refine sqs ?_
   refine At.rk bF 3 [(3, .int .i64 (15)), (2, .int .i64 (k))] .n (fun eO cL => ?_)
   clear bF
   refine At.dn ?_
   refine wp_ret ?_
   refine t_r ?_
   refine b_r ?_
   refine t_r ?_
   refine t_r ?_
   refine b_r ?_
   refine t_r ?_
   refine ret_ cL [] [.int .i64 (k), .int .i64 (15)] [] κ trivial ?_
   exact ⟨ret2_ii (right_at' ω ω ω ω σ (err_15 ω ω) (by decide)) rfl rfl, aF⟩
  have eP := of_decide_eq_false aM
  obtain ⟨bT, cM, _, _, cN⟩ := RdI.get aL.pr (k) ω ω
  refine At.rk aW 14 [(63, .bool (decide ((gI g.pr (k) : Int) > 7))), (62, .bool (decide ((gI g.pr (k) : Int) > 7))), (61, .int .i64 (gI g.pr (k))), (60, .pointer (some (bT.add ((k : Int).toNat * 1)))), (59, .int .i64 (k)), (58, .slice Ag1 g.pr.length cg1), (57, pt w.heap.size 1)] (.l (aD.cell (i := 1) rfl) <| .a k g.pr.length bR <| .l bS <| .e 56 aM <| .l (aD.cell (i := 1) rfl) <| .a k g.pr.length cM <| .l cN <| .n) (fun eQ aN => ?_)
  clear aW
  refine At.dn ?_
  refine cond_S aN (t := decide ((gI g.pr (k) : Int) > 7)) rfl (fun bG => ?_) (fun bG => ?_)
  ·have eR := of_decide_eq_true bG
   refine sqs ?_
   refine At.rk aN 3 [(3, .int .i64 (15)), (2, .int .i64 (k))] .n (fun eS cO => ?_)
   clear aN
   refine At.dn ?_
   refine wp_ret ?_
   refine t_r ?_
   refine b_r ?_
   refine t_r ?_
   refine t_r ?_
   refine b_r ?_
   refine t_r ?_
   refine ret_ cO [] [.int .i64 (k), .int .i64 (15)] [] κ trivial ?_
   exact ⟨ret2_ii (right_at' ω ω ω ω σ (err_15 ω ω) (by decide)) rfl rfl, aF⟩
  have eT := of_decide_eq_false bG
  refine wp_skip ?_
  refine t_n ?_
  refine wp_seq ?_
  refine sqs ?_
  obtain ⟨eU, eV, eW, cP, _, _, cQ, eX, cR⟩ := RdII.get aL.mv (k) ω ω
  have eY := cR.len
  refine At.rk aN 7 [(71, .bool (((((gL g.mv (k)).length : Nat) : Int) : Int) == 0))] (.l (aD.cell (i := 2) rfl) <| .a k g.mv.length cP <| .l cQ <| .n) (fun eZ aO => ?_)
  clear aN
  refine At.dn ?_
  refine cond_S aO (t := ((((gL g.mv (k)).length : Nat) : Int) : Int) == 0) rfl (fun bH => ?_) (fun bH => ?_)
  ·have fA := eq_of_beq bH
   refine sqs ?_
   refine At.rk aO 3 [(3, .int .i64 (17)), (2, .int .i64 (k))] .n (fun fB cS => ?_)
   clear aO
   refine At.dn ?_
   refine wp_ret ?_
   refine t_r ?_
   refine b_r ?_
   refine t_r ?_
   refine t_r ?_
   refine b_r ?_
   refine t_r ?_
   refine ret_ cS [] [.int .i64 (k), .int .i64 (17)] [] κ trivial ?_
   exact ⟨ret2_ii (right_at' ω ω ω ω σ (err_17 ω ω ω) (by decide)) rfl rfl, aF⟩
  have fC := ne_of_beq_false bH
  refine wp_skip ?_
  refine t_n ?_
  refine sqs ?_
  refine At.rk aO 1 [(6, .int .i64 (-1))] .n (fun fD bU => ?_)
  clear aO
  refine At.dn ?_
  refine sqs ?_
  refine At.rk bU 1 [(7, .int .i64 (0))] .n (fun fE bV => ?_)
  clear bU
  refine At.dn ?_
  refine wp_block ?_
  have bW := bV.as 6 (.int .i64 (-1)) (.int .i64 (lastOf (gL g.mv k) (0 : Int).toNat)) rfl (congrArg (Value.int .i64) (last_0.symm)); clear bV
  refine loop_g (fun (m_ : Nat) a_ w_ => ∃ (q : Int), m_ = (((gL g.mv k).length : Int) - q).toNat ∧ (Frm 101 a_ [(7, .int .i64 (q)), (6, .int .i64 (lastOf (gL g.mv k) q.toNat)), (62, .bool (decide ((gI g.pr (k) : Int) > 7))), (61, .int .i64 (gI g.pr (k))), (60, .pointer (some (bT.add ((k : Int).toNat * 1)))), (59, .int .i64 (k)), (58, .slice Ag1 g.pr.length cg1), (57, pt w.heap.size 1), (5, .int .i64 (k)), (4, .int .i64 (((g.ow.length : Nat) : Int))), (1, pt w.heap.size 0)]) ∧ (Ext w w_) ∧ (RdG w_ 0 w.heap.size Ag0 Ag1 Ag2 cg0 cg1 cg2 g) ∧ (Bx w_ (w.heap.size) [.slice Ag0 g.ow.length cg0, .slice Ag1 g.pr.length cg1, .slice Ag2 g.mv.length cg2] 25) ∧ (0 ≤ q) ∧ (q ≤ ((gL g.mv k).length : Int)) ∧ (rowBad g.ow.length (-1) ((gL g.mv k).take q.toNat) = false)) _ ⟨0, rfl, bW.sb, aF, aL, aD, ω, ω, rfl⟩ ?_
  clear bW; clear aL; clear aD; clear aF
  intro m_ fF fG ⟨q, hm129, bX, aP, aX, aQ, i133, i134, i135⟩
  have := aP.size; have := aQ.lt
  refine wp_seq ?_
  refine sqs ?_
  obtain ⟨fH, fI, fJ, cT, _, _, cU, fK, cV⟩ := RdII.get aX.mv (k) ω ω
  have fL := cV.len
  refine At.rk bX 8 [(80, .bool (decide ((q : Int) < (((gL g.mv (k)).length : Nat) : Int))))] (.l (aQ.cell (i := 2) rfl) <| .a k g.mv.length cT <| .l cU <| .n) (fun fM aR => ?_)
  clear bX
  refine At.dn ?_
  refine cond_S aR (t := decide ((q : Int) < (((gL g.mv (k)).length : Nat) : Int))) rfl (fun bI => ?_) (fun bI => ?_)
  ·have fN := of_decide_eq_true bI
   refine wp_skip ?_
   refine t_n ?_
   refine wp_seq ?_
   refine wp_block ?_
   refine sqs ?_
   obtain ⟨fO, fP, fQ, cW, _, _, cX, fR, bY⟩ := RdII.get aX.mv (k) ω ω
   have fS := bY.len
   obtain ⟨fT, cY, _, _, cZ⟩ := RdI.get bY (q) ω ω
   refine At.rk aR 9 [(8, .int .i64 (gI (gL g.mv (k)) (q)))] (.l (aQ.cell (i := 2) rfl) <| .a k g.mv.length cW <| .l cX <| .a q ((gL g.mv (k)).length) cY <| .l cZ <| .n) (fun fU aY => ?_)
   clear aR
   refine At.dn ?_
   refine wp_seq ?_
   refine sqs ?_
   rcases Bool.eq_false_or_eq_true (decide ((gI (gL g.mv (k)) (q) : Int) ≤ (lastOf (gL g.mv k) q.toNat))) with aS | aS
   ·have fV := of_decide_eq_true aS
    refine At.rk aY 8 [(98, .bool true)] (.e 94 aS <| .n) (fun fW bJ => ?_)
    clear aY
    refine At.dn ?_
    refine cond_T bJ rfl ?_
    refine sqs ?_
    refine At.rk bJ 3 [(3, .int .i64 (16)), (2, .int .i64 (k))] .n (fun fX dA => ?_)
    clear bJ
    refine At.dn ?_
    refine wp_ret ?_
    refine t_r ?_
    refine b_r ?_
    refine t_r ?_
    refine t_r ?_
    refine b_r ?_
    refine b_r ?_
    refine t_r ?_
    refine t_r ?_
    refine b_r ?_
    refine t_r ?_
    refine ret_ dA [] [.int .i64 (k), .int .i64 (16)] [] κ trivial ?_
    exact ⟨ret2_ii (right_at' ω ω ω ω σ (err_16 ω ω ω (bad_at (q := q) ω ω ω)) (by decide)) rfl rfl, aP⟩
   have fY := of_decide_eq_false aS
   refine At.rk aY 8 [(98, .bool (decide ((gI (gL g.mv (k)) (q) : Int) ≥ ((g.ow.length : Nat) : Int)))), (97, .bool (decide ((gI (gL g.mv (k)) (q) : Int) ≥ ((g.ow.length : Nat) : Int)))), (96, .int .i64 (((g.ow.length : Nat) : Int))), (95, .int .i64 (gI (gL g.mv (k)) (q)))] (.e 94 aS <| .n) (fun fZ aT => ?_)
   clear aY
   refine At.dn ?_
   refine cond_S aT (t := decide ((gI (gL g.mv (k)) (q) : Int) ≥ ((g.ow.length : Nat) : Int))) rfl (fun bK => ?_) (fun bK => ?_)
   ·have gA := of_decide_eq_true bK
    refine sqs ?_
    refine At.rk aT 3 [(3, .int .i64 (16)), (2, .int .i64 (k))] .n (fun gB bZ => ?_)
    clear aT
    refine At.dn ?_
    have dB := bZ.sb (r := [(3, .int .i64 (16)), (2, .int .i64 (k))]); clear bZ
    refine wp_ret ?_
    refine t_r ?_
    refine b_r ?_
    refine t_r ?_
    refine t_r ?_
    refine b_r ?_
    refine b_r ?_
    refine t_r ?_
    refine t_r ?_
    refine b_r ?_
    refine t_r ?_
    refine ret_ dB [] [.int .i64 (k), .int .i64 (16)] [] κ trivial ?_
    exact ⟨ret2_ii (right_at' ω ω ω ω σ (err_16 ω ω ω (bad_at (q := q) ω ω ω)) (by decide)) rfl rfl, aP⟩
   have gC := of_decide_eq_false bK
   refine wp_skip ?_
   refine t_n ?_
   refine At.start ?_
   refine At.rk aT 2 [(6, .int .i64 (gI (gL g.mv (k)) (q)))] .n (fun gD cA => ?_)
   clear aT
   refine At.done rfl ?_
   refine b_n ?_
   refine t_n ?_
   refine At.start ?_
   refine At.rk cA 3 [(7, .int .i64 (q + 1))] (.w 82 (q + 1) <| .n) (fun gE cB => ?_)
   clear cA
   refine At.dn ?_
   have dC := cB.as 6 (.int .i64 (gI (gL g.mv (k)) (q))) (.int .i64 (lastOf (gL g.mv k) ((q + 1) : Int).toNat)) rfl (congrArg (Value.int .i64) (last_next ω ω)); clear cB
   exact ⟨_, ω, (q + 1), rfl, dC.sb, aP, aX, aQ, ω, ω, (bad_next ω ω σ ω ω)⟩
  have gF := of_decide_eq_false bI
  refine wp_exit ?_
  refine t_e ?_
  clear hm129
  refine t_e ?_
  refine b_e ?_
  refine b_n ?_
  refine t_n ?_
  refine At.start ?_
  refine At.rk aR 3 [(5, .int .i64 (k + 1))] (.w 34 (k + 1) <| .n) (fun gG dD => ?_)
  clear aR
  refine At.dn ?_
  exact ⟨_, ω, (k + 1), rfl, dD.sb, aP, aX, aQ, ω, ω, (err_next ω hp (err_0 ω ω ω (bad_all σ ω)))⟩
 have gH := of_decide_eq_false bD
 refine wp_exit ?_
 refine t_e ?_
 clear hm48
 refine t_e ?_
 refine b_e ?_
 refine t_n ?_
 refine sqs ?_
 refine At.rk aA 2 [(3, .int .i64 (0)), (2, .int .i64 (0))] .n (fun gJ dE => ?_)
 clear aA
 refine At.dn ?_
 refine wp_ret ?_
 refine ret_ dE [] [.int .i64 (0), .int .i64 (0)] [] κ trivial ?_
 exact ⟨ret2_ii (right_ok' (k := k) ω ω ω σ) rfl rfl, aE⟩
end Go.Proofs.YtplpgfcjjnaigaaDoor
namespace Go.Proofs.YtplpgfcjjnaigaaDoor
open Go Go.RowKit
set_option maxHeartbeats 4000000 in
theorem isR_any {Ag0 Ag1 Ag2 : Option Addr} {cg0 cg1 cg2 : Nat} {g : GameL} {w : World} (rg : RdG w 0 w.heap.size Ag0 Ag1 Ag2 cg0 cg1 cg2 g) :
    Calls Tryd.prog 13 #[.agg #[.slice Ag0 g.ow.length cg0, .slice Ag1 g.pr.length cg1, .slice Ag2 g.mv.length cg2]] w fun e w' => e = .returned (.bool (isR g)) ∧ Ext w w' := by
 have hlg0 := rg.ow.len; have hlg1 := rg.pr.len; have hlg2 := rg.mv.len; have hkg0 := rg.k0; have hkg1 := rg.k1; have hkg2 := rg.k2
 refine enter_ (args := [.agg #[.slice Ag0 g.ow.length cg0, .slice Ag1 g.pr.length cg1, .slice Ag2 g.mv.length cg2]]) Tryd.func13 rfl Tryd.ntmps13 (Nat.le_of_ble_eq_true rfl) (fun act0 f0 => ?_)
 have e0 : Ext w w := Ext.refl w
 refine sqs ?_
 refine At.bx f0 1 [.slice Ag0 g.ow.length cg0, .slice Ag1 g.pr.length cg1, .slice Ag2 g.mv.length cg2] 25 (fun w1 g5 bx6 act4 f3 => ?_)
 clear f0; have := g5.size; replace e0 := e0.gn g5; have r9 := rg.gn g5; clear rg; have := bx6.lt; clear g5
 refine At.rk f3 1 [] .n (fun aG aB => ?_)
 clear f3
 refine At.dn ?_
 refine sqs ?_
 refine At.rk aB 1 [(6, .agg #[.slice Ag0 g.ow.length cg0, .slice Ag1 g.pr.length cg1, .slice Ag2 g.mv.length cg2])] (.l (bx6.cell (i := 0) rfl) <| .l (bx6.cell (i := 1) rfl) <| .l (bx6.cell (i := 2) rfl) <| .n) (fun aH aC => ?_)
 clear aB
 refine At.cl aC (some 7) (rightR_any (r9.wide (Nat.zero_le _) ω)) ?_
 rintro e_ aI ⟨rfl, he⟩
 refine ⟨_, rfl, _, rfl, fun aJ aD => ?_⟩
 clear aC; have aA := gr_ext he; have := aA.size; replace e0 := e0.gn aA; replace r9 := r9.gn aA; replace bx6 := bx6.gn aA; clear aA he
 refine At.rk aD 5 [(4, .int .i64 ((rightP g).2))] .n (fun aK aE => ?_)
 clear aD
 refine At.dn ?_
 refine sqs ?_
 refine At.rk aE 3 [(2, .bool (((rightP g).2 : Int) == 0))] .n (fun aL aF => ?_)
 clear aE
 refine At.dn ?_
 refine wp_ret ?_
 refine ret_ aF [] [.bool (((rightP g).2 : Int) == 0)] [] κ trivial ?_
 exact ⟨rfl, e0⟩
end Go.Proofs.YtplpgfcjjnaigaaDoor
namespace Go.Proofs.YtplpgfcjjnaigaaDoor
open Go Go.RowKit
set_option maxHeartbeats 4000000 in
theorem solve13_any {Ag0 Ag1 Ag2 : Option Addr} {cg0 cg1 cg2 : Nat} {g : GameL} {w : World} (rg : RdG w 0 w.heap.size Ag0 Ag1 Ag2 cg0 cg1 cg2 g) :
    Calls Tryd.prog 15 #[.agg #[.slice Ag0 g.ow.length cg0, .slice Ag1 g.pr.length cg1, .slice Ag2 g.mv.length cg2]] w fun e w' => ∃ A0 c0 A1 c1 l0 l1, e = .returned (.agg #[.slice A0 (l0 : List Int).length c0, .slice A1 (l1 : List Int).length c1]) ∧ Ext w w' ∧ OwnR w' (Sx w.heap.size [obk A1]) A0 c0 3 l0 ∧ OwnR w' (Sx w.heap.size [obk A0]) A1 c1 3 l1 ∧ DocT g l0 l1 := by
 have hlg0 := rg.ow.len; have hlg1 := rg.pr.len; have hlg2 := rg.mv.len; have hkg0 := rg.k0; have hkg1 := rg.k1; have hkg2 := rg.k2
 refine enter_ (args := [.agg #[.slice Ag0 g.ow.length cg0, .slice Ag1 g.pr.length cg1, .slice Ag2 g.mv.length cg2]]) Tryd.func15 rfl Tryd.ntmps15 (Nat.le_of_ble_eq_true rfl) (fun act0 f0 => ?_)
 have e0 : Ext w w := Ext.refl w
 refine sqs ?_
 refine At.bx f0 1 [.slice Ag0 g.ow.length cg0, .slice Ag1 g.pr.length cg1, .slice Ag2 g.mv.length cg2] 25 (fun w1 g5 bx6 act4 f3 => ?_)
 clear f0; have szw1 := g5.size; replace e0 := e0.gn g5; have r9 := rg.gn g5; clear rg; have := bx6.lt; clear g5
 refine At.bx f3 2 [.slice none 0 0, .slice none 0 0] 29 (fun aM cD aT fW dH => ?_)
 clear f3; have szw10 := cD.size; replace e0 := e0.gn cD; replace r9 := r9.gn cD; replace bx6 := bx6.gn cD; have := aT.lt; clear cD
 refine At.dn ?_
 refine sqs ?_
 refine At.bx dH 3 [.slice none 0 0, .slice none 0 0] 29 (fun fX bW aR fY dI => ?_)
 clear dH; have szw20 := bW.size; replace e0 := e0.gn bW; replace r9 := r9.gn bW; replace bx6 := bx6.gn bW; replace aT := aT.gn bW; have := aR.lt; clear bW
 refine At.dn ?_
 refine sqs ?_
 refine At.rk dI 1 [(10, .agg #[.slice Ag0 g.ow.length cg0, .slice Ag1 g.pr.length cg1, .slice Ag2 g.mv.length cg2])] (.l (bx6.cell (i := 0) rfl) <| .l (bx6.cell (i := 1) rfl) <| .l (bx6.cell (i := 2) rfl) <| .n) (fun fZ dJ => ?_)
 clear dI
 refine At.cl dJ (some 11) (isR_any (r9.wide (Nat.zero_le _) ω)) ?_
 rintro e_ aA ⟨rfl, he⟩
 refine ⟨_, rfl, _, rfl, fun gA dK => ?_⟩
 clear dJ; have bM := gr_ext he; have szw33 := bM.size; replace e0 := e0.gn bM; replace r9 := r9.gn bM; replace bx6 := bx6.gn bM; replace aT := aT.gn bM; replace aR := aR.gn bM; clear bM he
 refine At.rk dK 1 [(4, .bool (isR g))] .n (fun gC dL => ?_)
 clear dK
 refine At.dn ?_
 refine wp_seq ?_
 refine sqs ?_
 refine At.rk dL 2 [(13, .bool (!(isR g)))] .n (fun gD cE => ?_)
 clear dL
 refine At.dn ?_
 refine cond_S cE (t := !(isR g)) rfl (fun bN => ?_) (fun bN => ?_)
 ·have gE : (isR g) = false := by first | exact Eq.mp (Bool.not_eq_true' _) bN | exact Eq.mp (Bool.not_eq_false' _) bN | simpa using bN
  refine sqs ?_
  refine At.rk cE 1 [(14, .agg #[.slice none 0 0, .slice none 0 0])] (.l (aR.cell (i := 0) rfl) <| .l (aR.cell (i := 1) rfl) <| .n) (fun gF dM => ?_)
  clear cE
  refine At.store dM (t := 29) (b := w1.heap.size) (off := 0) (v := .agg #[.slice none 0 0, .slice none 0 0]) κ aT κ (fun gG cO bX cK eZ => ?_)
  clear dM; replace cK : Bx cO (w1.heap.size) [.slice none 0 0, .slice none 0 0] 29 := cK; have := bX.size; replace e0 := e0.gr bX (fun k h => by injection h; omega); replace r9 := r9.gb bX ω; replace bx6 := bx6.gb bX ω; replace aR := aR.gb bX ω; clear aT bX
  refine At.dn ?_
  clear bx6; clear aR
  refine wp_ret ?_
  refine t_r ?_
  refine ret_ eZ [[.slice none 0 0, .slice none 0 0]] [.agg #[.slice none 0 0, .slice none 0 0]] [(cO.cell? ⟨w1.heap.size, 0, none⟩ = some (.slice none 0 0)), (cO.cell? ⟨w1.heap.size, 1, none⟩ = some (.slice none 0 0))] κ ⟨(cK.cell (i := 0) rfl), (cK.cell (i := 1) rfl), trivial⟩ ?_
  exact ⟨none, 0, none, 0, _, _, rfl, e0, OwnR.nil, OwnR.nil, (doc_no σ)⟩
 have gH : (isR g) = true := by first | exact Eq.mp (Bool.not_eq_true' _) bN | exact Eq.mp (Bool.not_eq_false' _) bN | simpa using bN
 refine wp_skip ?_
 refine t_n ?_
 refine wp_seq ?_
 have hR : isR g = true := by simp_all
 have hG := isR_ok hR; have hn1 := hG.n1
 refine At.start ?_
 refine At.rk cE 3 [(17, .int .i64 (((g.ow.length : Nat) : Int)))] (.l (bx6.cell (i := 0) rfl) <| .n) (fun gI dN => ?_)
 clear cE
 refine At.act dN (makeR (k1 := .i64) (k2 := .i64) (α := Bool) (e := 4) (bytes := 1) (t := 60) (d := 18) (n := ((g.ow.length : Nat) : Int)) (cap := ((g.ow.length : Nat) : Int)) (false) κ rfl κ ω ω ω ω) ?_
 rintro d_ v_ gJ ⟨rfl, rfl, bO, cL⟩
 refine ⟨_, rfl, fun gK dO => ?_⟩
 clear dN; replace cL := cL (Sx (aA.heap.size) []) (Nat.le_refl _); have szw65 := bO.size; replace e0 := e0.gn bO; replace r9 := r9.gn bO; replace bx6 := bx6.gn bO; replace aT := aT.gn bO; replace aR := aR.gn bO; clear bO; have : (List.replicate (((g.ow.length : Nat) : Int) : Int).toNat (false : Bool)).length = (((g.ow.length : Nat) : Int) : Int).toNat := List.length_replicate
 refine At.rk dO 1 [(5, .slice (some ⟨aA.heap.size, 0, none⟩) ((List.replicate (((g.ow.length : Nat) : Int) : Int).toNat (false : Bool)).length) ((((g.ow.length : Nat) : Int) : Int).toNat))] .n (fun gL dP => ?_)
 clear dO
 refine At.dn ?_
 refine wp_seq ?_
 refine sqs ?_
 refine At.rk dP 1 [(6, .int .i64 (0))] .n (fun gM dQ => ?_)
 clear dP
 refine At.dn ?_
 refine wp_block ?_
 have dR := dQ.as 5 (.slice (some ⟨aA.heap.size, 0, none⟩) ((List.replicate (((g.ow.length : Nat) : Int) : Int).toNat (false : Bool)).length) ((((g.ow.length : Nat) : Int) : Int).toNat)) (.slice (some ⟨aA.heap.size, 0, none⟩) ((List.replicate (((g.ow.length : Nat) : Int) : Int).toNat (false : Bool) : List Bool).length) ((((g.ow.length : Nat) : Int) : Int).toNat)) rfl (slice_len (by first | rfl | omega | (simp; done) | (simp; omega)))
 clear dQ
 refine loop_g (fun (m_ : Nat) a_ w_ => ∃ (k : Int) (al : List Bool) (bA : Option Addr) (bB : Nat), m_ = ((g.ow.length : Int) - k).toNat ∧ (Frm 61 a_ [(6, .int .i64 (k)), (5, .slice bA al.length bB), (3, pt aM.heap.size 0), (2, pt w1.heap.size 0), (1, pt w.heap.size 0)]) ∧ (Ext w w_) ∧ (RdG w_ 0 w.heap.size Ag0 Ag1 Ag2 cg0 cg1 cg2 g) ∧ (Bx w_ (w.heap.size) [.slice Ag0 g.ow.length cg0, .slice Ag1 g.pr.length cg1, .slice Ag2 g.mv.length cg2] 25) ∧ (Bx w_ (w1.heap.size) [.slice none 0 0, .slice none 0 0] 29) ∧ (Bx w_ (aM.heap.size) [.slice none 0 0, .slice none 0 0] 29) ∧ (OwnR w_ (Sx (aA.heap.size) []) bA bB 4 (al : List Bool)) ∧ (0 ≤ k) ∧ (k ≤ (g.ow.length : Int)) ∧ (al.length = g.ow.length) ∧ (∀ j : Int, 0 ≤ j → j < k → gB al j = true) ∧ (aA.heap.size ≤ w_.heap.size)) _ ⟨0, (List.replicate (((g.ow.length : Nat) : Int) : Int).toNat (false : Bool) : List Bool), some ⟨aA.heap.size, 0, none⟩, (((g.ow.length : Nat) : Int) : Int).toNat, rfl, dR.sb, e0, r9, bx6, aT, aR, cL, ω, (Int.natCast_nonneg _), (by simp), (fun j a b => by omega), ω⟩ ?_
 clear dR; clear r9; clear bx6; clear aT; clear aR; clear cL; clear e0
 intro m_ gN fA ⟨k, al, bA, bB, hm88, dS, bI, bJ, aV, bK, bL, aQ, i95, i96, hal, hall_, i97⟩
 have szw86 := bI.size; have := aV.lt; have := bK.lt; have := bL.lt
 have szc98 : w.heap.size < w1.heap.size := by omega
 have szc99 : w1.heap.size < aM.heap.size := by omega
 have szc100 : aM.heap.size < aA.heap.size := by omega
 have szc101 : aA.heap.size ≤ fA.heap.size := by omega
 clear szw1 szw10 szw20 szw33 szw65 szw86
 refine wp_seq ?_
 refine sqs ?_
 refine At.rk dS 4 [(22, .bool (decide ((k : Int) < ((al.length : Nat) : Int))))] .n (fun gO cF => ?_)
 clear dS
 refine At.dn ?_
 refine cond_S cF (t := decide ((k : Int) < ((al.length : Nat) : Int))) rfl (fun cP => ?_) (fun cP => ?_)
 ·have gP := of_decide_eq_true cP
  refine wp_skip ?_
  refine t_n ?_
  refine wp_seq ?_
  refine wp_block ?_
  refine At.start ?_
  obtain ⟨dT, dU, gQ, gR, gS⟩ := aQ.get (k) ω ω (sz := 1) rfl
  refine At.rk cF 3 [(27, .pointer (some (dT.add ((k : Int).toNat * 1))))] (.a k al.length dU <| .n) (fun gT dV => ?_)
  clear cF
  refine At.act dV (storeR (α := Bool) (t := 4) (i := k) (ad := dT) (v := .bool true) (true) κ rfl rfl κ dU aQ ω ω) ?_
  rintro d_ v_ gU ⟨rfl, bP, fB⟩
  refine ⟨_, rfl, fun gV dW => ?_⟩
  clear dV; have gW : ((al).set (k : Int).toNat true).length = (al).length := List.length_set; have := bP.size; replace bI := bI.gr bP (fun k hk => by have := aQ.ge k hk; omega); replace bJ := bJ.gr bP (fun k hk => by have := aQ.ge k hk; omega); replace aV := aV.gr bP (fun e => by have := aQ.ge _ e; omega); replace bK := bK.gr bP (fun e => by have := aQ.ge _ e; omega)
  replace bL := bL.gr bP (fun e => by have := aQ.ge _ e; omega); clear aQ bP
  have dX := dW.as 5 (.slice bA al.length bB) (.slice bA (((al).set (k : Int).toNat true : List Bool).length) bB) rfl (slice_len (by first | (simp only [List.length_set]; done) | rfl | omega | (simp; done) | (simp; omega)))
  clear dW
  refine At.done rfl ?_
  refine b_n ?_
  refine t_n ?_
  refine At.start ?_
  refine At.rk dX 3 [(6, .int .i64 (k + 1))] (.w 24 (k + 1) <| .n) (fun gX fC => ?_)
  clear dX
  refine At.dn ?_
  exact ⟨_, ω, (k + 1), ((al).set (k : Int).toNat true : List Bool), bA, bB, rfl, fC.sb, bI, bJ, aV, bK, bL, fB, ω, ω, (by rw [List.length_set]; exact hal), (setB_next (P := fun _ x => x = true) hall_ ω ω rfl), ω⟩
 have gY := of_decide_eq_false cP
 refine wp_exit ?_
 refine t_e ?_
 clear hm88
 refine t_e ?_
 refine b_e ?_
 refine t_n ?_
 refine wp_seq ?_
 have hae := all_end hal hall_ ω
 have hLv : LiveB g al := by rw [hae]; exact (rep_live hR).1
 refine At.start ?_
 refine At.rk cF 2 [(30, .slice bA al.length bB), (29, .agg #[.slice Ag0 g.ow.length cg0, .slice Ag1 g.pr.length cg1, .slice Ag2 g.mv.length cg2])] (.l (aV.cell (i := 0) rfl) <| .l (aV.cell (i := 1) rfl) <| .l (aV.cell (i := 2) rfl) <| .n) (fun gZ dY => ?_)
 clear cF
 refine At.cl dY (some 31) (args := #[.agg #[.slice Ag0 g.ow.length cg0, .slice Ag1 g.pr.length cg1, .slice Ag2 g.mv.length cg2], .slice bA al.length bB]) ((won_any hR 257 al hLv (by have := (cT_up al 256).2; omega)) (bJ.wide (Nat.zero_le _) ω) (aQ.imp (fun g _ hs => (show aA.heap.size ≤ g from by have := Sx_base hs; omega))) ω) ?_
 rintro e_ aE ⟨B130, d131, B132, d133, x1, y1, rfl, he, dZ, eA, hwx1⟩
 have hlx1 := hwx1.la; have hly1 := hwx1.lb
 refine ⟨_, rfl, _, rfl, fun hA eB => ?_⟩
 clear dY; have bQ := gr_ext he; have lL_ := aQ.lt; have szw138 := bQ.size; replace bI := bI.gn bQ; replace bJ := bJ.gn bQ; replace aV := aV.gn bQ; replace bK := bK.gn bQ; replace bL := bL.gn bQ
 have bY : OwnR aE (Sx (aA.heap.size) [obk (B132)]) B130 d131 4 (x1 : List Bool) := dZ.imp (fun g _ hs => ⟨hs.1, (hs.2.elim (fun h_ => aQ.ge g h_) (fun h_ => by show aA.heap.size ≤ g; omega))⟩)
 have bZ : OwnR aE (Sx (aA.heap.size) [obk (B130)]) B132 d133 4 (y1 : List Bool) := eA.imp (fun g _ hs => ⟨hs.1, (hs.2.elim (fun h_ => aQ.ge g h_) (fun h_ => by show aA.heap.size ≤ g; omega))⟩)
 clear dZ eA aQ lL_ ; clear bQ he
 refine At.rk eB 5 [(8, .slice B132 y1.length d133), (7, .slice B130 x1.length d131)] .n (fun hB eC => ?_)
 clear eB
 refine At.dn ?_
 clear aV
 refine wp_seq ?_
 refine wp_seq ?_
 rw [hae] at hwx1
 refine At.start ?_
 refine At.rk eC 1 [(9, .int .i64 (0))] .n (fun hC eD => ?_)
 clear eC
 refine At.dn ?_
 refine wp_block ?_
 have cM : OwnR aE (Sx (aE.heap.size) [obk (B130), obk (B132)]) none 0 3 ([] : List Int) := OwnR.nil; replace bY : OwnR aE (Sx (aA.heap.size) [obk none, obk (B132)]) B130 d131 4 (x1 : List Bool) := bY.imp (fun g _ hs => ⟨by simp [obk], hs⟩); replace bZ : OwnR aE (Sx (aA.heap.size) [obk none, obk (B130)]) B132 d133 4 (y1 : List Bool) := bZ.imp (fun g _ hs => ⟨by simp [obk], hs⟩)
 have eE : OwnR aE (Sx (aE.heap.size) [obk (B130), obk (B132), obk (none)]) none 0 3 ([] : List Int) := OwnR.nil; replace bY : OwnR aE (Sx (aA.heap.size) [obk none, obk none, obk (B132)]) B130 d131 4 (x1 : List Bool) := bY.imp (fun g _ hs => ⟨by simp [obk], hs⟩)
 replace bZ : OwnR aE (Sx (aA.heap.size) [obk none, obk none, obk (B130)]) B132 d133 4 (y1 : List Bool) := bZ.imp (fun g _ hs => ⟨by simp [obk], hs⟩); replace cM : OwnR aE (Sx (aE.heap.size) [obk none, obk (B130), obk (B132)]) none 0 3 ([] : List Int) := cM.imp (fun g _ hs => ⟨by simp [obk], hs⟩)
 refine loop_g (fun (m_ : Nat) a_ w_ => ∃ (k1 : Int) (xa : List Int) (aJ : Option Addr) (aO : Nat) (xb : List Int) (aI : Option Addr) (aN : Nat), m_ = ((g.ow.length : Int) - k1).toNat ∧ (Frm 61 a_ [(9, .int .i64 (k1)), (8, .slice B132 y1.length d133), (7, .slice B130 x1.length d131), (5, .slice bA al.length bB), (3, pt aM.heap.size 0), (2, pt w1.heap.size 0)]) ∧ (Ext w w_) ∧ (RdG w_ 0 w.heap.size Ag0 Ag1 Ag2 cg0 cg1 cg2 g) ∧ (Bx w_ (w1.heap.size) [.slice none 0 0, .slice none 0 0] 29) ∧ (Bx w_ (aM.heap.size) [.slice aJ xa.length aO, .slice aI xb.length aN] 29) ∧ (OwnR w_ (Sx (aA.heap.size) [obk (aI), obk (aJ), obk (B132)]) B130 d131 4 (x1 : List Bool)) ∧ (OwnR w_ (Sx (aA.heap.size) [obk (aI), obk (aJ), obk (B130)]) B132 d133 4 (y1 : List Bool)) ∧ (OwnR w_ (Sx (aE.heap.size) [obk (aI), obk (B130), obk (B132)]) aJ aO 3 (xa : List Int)) ∧ (OwnR w_ (Sx (aE.heap.size) [obk (B130), obk (B132), obk (aJ)]) aI aN 3 (xb : List Int)) ∧ (0 ≤ k1) ∧ (k1 ≤ (g.ow.length : Int)) ∧ (xa = onesL x1 k1.toNat) ∧ (xb = onesL y1 k1.toNat) ∧ (aA.heap.size ≤ w_.heap.size) ∧ (aE.heap.size ≤ w_.heap.size)) _ ⟨0, ([] : List Int), none, 0, ([] : List Int), none, 0, rfl, eD.sb, bI, bJ, bK, (bL.as (by first | rfl | (simp only [List.cons.injEq, Value.slice.injEq, true_and, and_true]; omega))), bY, bZ, cM, eE, ω, (Int.natCast_nonneg _), rfl, rfl, ω, ω⟩ ?_
 clear eD; clear bJ; clear bK; clear bL; clear bY; clear bZ; clear cM; clear eE; clear bI
 intro m_ hD aP ⟨k1, xa, aJ, aO, xb, aI, aN, hm170, eF, aF, aH, aG, aK, aD, aB, aL, aC, i179, i180, hxa, hxb, i181, i182⟩
 have szw168 := aF.size; have := aG.lt; have := aK.lt
 have szc183 : w.heap.size ≤ w1.heap.size := by omega
 have szc184 : w1.heap.size < aM.heap.size := by omega
 have szc185 : aM.heap.size < aA.heap.size := by omega
 have szc186 : aA.heap.size ≤ aE.heap.size := by omega
 have szc187 : aE.heap.size ≤ aP.heap.size := by omega
 clear szc98 szc99 szc100 szc101 szw138 szw168; have hxal := ones_len x1 k1.toNat; have hxbl := ones_len y1 k1.toNat
 rw [← hxa] at hxal
 rw [← hxb] at hxbl
 refine wp_seq ?_
 refine sqs ?_
 refine At.rk eF 4 [(37, .bool (decide ((k1 : Int) < ((al.length : Nat) : Int))))] .n (fun hE cG => ?_)
 clear eF
 refine At.dn ?_
 refine cond_S cG (t := decide ((k1 : Int) < ((al.length : Nat) : Int))) rfl (fun cQ => ?_) (fun cQ => ?_)
 ·have hF := of_decide_eq_true cQ
  refine wp_skip ?_
  refine t_n ?_
  refine wp_seq ?_
  refine wp_block ?_
  refine wp_seq ?_
  refine sqs ?_
  obtain ⟨hH, fD, hI, fE, hJ⟩ := aD.get (k1) ω ω (sz := 1) rfl
  refine At.rk cG 4 [(43, .bool (gB x1 k1))] (.a k1 x1.length fD <| .l fE <| .n) (fun hK cH => ?_)
  clear cG
  refine At.dn ?_
  refine cond_S cH (t := gB x1 k1) rfl (fun fF => ?_) (fun fF => ?_)
  ·refine At.start ?_
   refine At.rk cH 3 [(46, .int .i64 (k1)), (45, .slice aJ xa.length aO)] (.b 0 2 <| .l (aK.cell (i := 0) rfl) <| .n) (fun hL eG => ?_)
   clear cH
   refine At.seq eG 1 [[]] [(47, .slice (some ⟨aP.heap.size, 0, none⟩) 1 1)] (aP.alloc (.cells #[.int .i64 (k1)] 3 (0, 0))) [] κ trivial (fun hM eH cR eI => ?_)
   clear eG; have aW := gr_alloc cR; have := aW.size; replace aF := aF.gn aW; replace aH := aH.gn aW; replace aG := aG.gn aW; replace aK := aK.gn aW; replace aD := aD.grN aW; replace aB := aB.grN aW; replace aL := aL.grN aW; replace aC := aC.grN aW; have cS : Bx eH (aP.heap.size) [.int .i64 (k1)] 3 := Bx.new cR; have := cS.lt; clear aW cR
   have fG : (xa ++ ([k1])).length = (xa).length + ([k1] : List Int).length := List.length_append
   simp only [List.length_cons, List.length_nil] at fG
   refine At.act eI (appendR (α := Int) (t := 22) (d := 48) (n := xa.length) (m := 1) (cc := 1) (xs := xa) (ys := [k1]) (bytes := 8) (by first | rfl | omega | (simp; done) | (simp; omega)) (by first | rfl | omega | (simp; done) | (simp; omega)) κ rfl κ aL (Bx.srcR (l := ([k1] : List Int)) cS rfl) (by simp only [List.length_cons, List.length_nil]; omega) (by simp only [List.length_cons, List.length_nil]; omega)) ?_
   rintro d_ v_ cT ⟨rfl, aS, cA, bR⟩
   obtain rfl := bR.val
   have bC := bR.gr
   refine ⟨_, rfl, fun hN eJ => ?_⟩
   clear eI; clear cS
   have aU := bR.own (Sx (aE.heap.size) [obk (aI), obk (B130), obk (B132)]) (fun g _ hs => ⟨hs.2.1, hs.2.2.1, hs.2.2.2.1, hs.2.2.2.2⟩) ⟨aC.ne_new, aD.ne_new, aB.ne_new, (show aE.heap.size ≤ eH.heap.size by omega)⟩
   have := bC.size; replace aF := aF.gr bC (fun k hk => by have := aL.ge k hk; omega); replace aH := aH.gr bC (fun k hk => by have := aL.ge k hk; omega); replace aG := aG.gr bC (fun e => by have := aL.ge _ e; omega); replace aK := aK.gr bC (fun e => by have := aL.ge _ e; omega)
   replace aD : OwnR cT (Sx (aA.heap.size) [some (aP.heap.size), obk (aI), obk (aS), obk (B132)]) B130 d131 4 (x1 : List Bool) := aD.grA bC (fun k hk => hk.2.2.1) (fun k hk hs => ⟨hs.1, hs.2.1, own_repl bR.at_ hs.2.2.1 hk, hs.2.2.2.1, hs.2.2.2.2⟩)
   replace aB : OwnR cT (Sx (aA.heap.size) [some (aP.heap.size), obk (aI), obk (aS), obk (B130)]) B132 d133 4 (y1 : List Bool) := aB.grA bC (fun k hk => hk.2.2.1) (fun k hk hs => ⟨hs.1, hs.2.1, own_repl bR.at_ hs.2.2.1 hk, hs.2.2.2.1, hs.2.2.2.2⟩)
   replace aC : OwnR cT (Sx (aE.heap.size) [some (aP.heap.size), obk (B130), obk (B132), obk (aS)]) aI aN 3 (xb : List Int) := aC.grA bC (fun k hk => hk.2.2.2.1) (fun k hk hs => ⟨hs.1, hs.2.1, hs.2.2.1, own_repl bR.at_ hs.2.2.2.1 hk, hs.2.2.2.2⟩)
   clear aL bC bR
   refine At.rk eJ 1 [(49, pt aM.heap.size 0)] (.b 0 2 <| .n) (fun hO eK => ?_)
   clear eJ
   refine At.store eK (t := 22) (b := aM.heap.size) (off := 0) (v := .slice aS ((xa ++ ([k1])).length) cA) κ aK κ (fun hP bS bD aX eL => ?_)
   clear eK; replace aX : Bx bS (aM.heap.size) [.slice aS ((xa ++ ([k1])).length) cA, .slice aI xb.length aN] 29 := aX; have := bD.size; replace aF := aF.gr bD (fun k h => by injection h; omega); replace aH := aH.gb bD ω; replace aG := aG.gb bD ω; replace aD := aD.gr bD (fun k hk e => by have := Sx_base hk; injection e; omega)
   replace aB := aB.gr bD (fun k hk e => by have := Sx_base hk; injection e; omega); replace aU := aU.gr bD (fun k hk e => by have := Sx_base hk; injection e; omega); replace aC := aC.gr bD (fun k hk e => by have := Sx_base hk; injection e; omega); clear aK bD
   refine At.dn ?_
   refine sqs ?_
   obtain ⟨hQ, fH, hS, fI, hT⟩ := aB.get (k1) ω ω (sz := 1) rfl
   refine At.rk eL 4 [(53, .bool (gB y1 k1))] (.a k1 y1.length fH <| .l fI <| .n) (fun hU cI => ?_)
   clear eL
   refine At.dn ?_
   refine cond_S cI (t := gB y1 k1) rfl (fun fJ => ?_) (fun fJ => ?_)
   ·refine At.start ?_
    refine At.rk cI 3 [(56, .int .i64 (k1)), (55, .slice aI xb.length aN)] (.b 1 2 <| .l (aX.cell (i := 1) rfl) <| .n) (fun hV eM => ?_)
    clear cI
    refine At.seq eM 1 [[]] [(57, .slice (some ⟨bS.heap.size, 0, none⟩) 1 1)] (bS.alloc (.cells #[.int .i64 (k1)] 3 (0, 0))) [] κ trivial (fun hW eN cU eO => ?_)
    clear eM; have aY := gr_alloc cU; have := aY.size; replace aF := aF.gn aY; replace aH := aH.gn aY; replace aG := aG.gn aY; replace aX := aX.gn aY; replace aD := aD.grN aY; replace aB := aB.grN aY; replace aU := aU.grN aY; replace aC := aC.grN aY; have cV : Bx eN (bS.heap.size) [.int .i64 (k1)] 3 := Bx.new cU; have := cV.lt; clear aY cU
    have fK : (xb ++ ([k1])).length = (xb).length + ([k1] : List Int).length := List.length_append
    simp only [List.length_cons, List.length_nil] at fK
    refine At.act eO (appendR (α := Int) (t := 22) (d := 58) (n := xb.length) (m := 1) (cc := 1) (xs := xb) (ys := [k1]) (bytes := 8) (by first | rfl | omega | (simp; done) | (simp; omega)) (by first | rfl | omega | (simp; done) | (simp; omega)) κ rfl κ aC (Bx.srcR (l := ([k1] : List Int)) cV rfl) (by simp only [List.length_cons, List.length_nil]; omega) (by simp only [List.length_cons, List.length_nil]; omega)) ?_
    rintro d_ v_ cW ⟨rfl, cB, cX, bT⟩
    obtain rfl := bT.val
    have bE := bT.gr
    refine ⟨_, rfl, fun hX eP => ?_⟩
    clear eO; clear cV
    have cY := bT.own (Sx (aE.heap.size) [obk (B130), obk (B132), obk (aS)]) (fun g _ hs => ⟨hs.2.2.1, hs.2.2.2.1, hs.2.2.2.2.1, hs.2.2.2.2.2⟩) ⟨aD.ne_new, aB.ne_new, aU.ne_new, (show aE.heap.size ≤ eN.heap.size by omega)⟩
    have := bE.size; replace aF := aF.gr bE (fun k hk => by have := aC.ge k hk; omega); replace aH := aH.gr bE (fun k hk => by have := aC.ge k hk; omega); replace aG := aG.gr bE (fun e => by have := aC.ge _ e; omega); replace aX := aX.gr bE (fun e => by have := aC.ge _ e; omega)
    replace aD : OwnR cW (Sx (aA.heap.size) [some (bS.heap.size), some (aP.heap.size), obk (cB), obk (aS), obk (B132)]) B130 d131 4 (x1 : List Bool) := aD.grA bE (fun k hk => hk.2.2.1) (fun k hk hs => ⟨hs.1, hs.2.1, own_repl bT.at_ hs.2.2.1 hk, hs.2.2.2.1, hs.2.2.2.2.1, hs.2.2.2.2.2⟩)
    replace aB : OwnR cW (Sx (aA.heap.size) [some (bS.heap.size), some (aP.heap.size), obk (cB), obk (aS), obk (B130)]) B132 d133 4 (y1 : List Bool) := aB.grA bE (fun k hk => hk.2.2.1) (fun k hk hs => ⟨hs.1, hs.2.1, own_repl bT.at_ hs.2.2.1 hk, hs.2.2.2.1, hs.2.2.2.2.1, hs.2.2.2.2.2⟩)
    replace aU : OwnR cW (Sx (aE.heap.size) [some (bS.heap.size), obk (cB), obk (B130), obk (B132)]) aS cA 3 (xa ++ ([k1]) : List Int) := aU.grA bE (fun k hk => hk.2.1) (fun k hk hs => ⟨hs.1, own_repl bT.at_ hs.2.1 hk, hs.2.2.1, hs.2.2.2.1, hs.2.2.2.2⟩)
    clear aC bE bT
    refine At.rk eP 1 [(59, pt aM.heap.size 1)] (.b 1 2 <| .n) (fun hY eQ => ?_)
    clear eP
    refine At.store eQ (t := 22) (b := aM.heap.size) (off := 1) (v := .slice cB ((xb ++ ([k1])).length) cX) κ aX κ (fun hZ fL bF cZ eR => ?_)
    clear eQ; replace cZ : Bx fL (aM.heap.size) [.slice aS ((xa ++ ([k1])).length) cA, .slice cB ((xb ++ ([k1])).length) cX] 29 := cZ; have := bF.size; replace aF := aF.gr bF (fun k h => by injection h; omega); replace aH := aH.gb bF ω; replace aG := aG.gb bF ω; replace aD := aD.gr bF (fun k hk e => by have := Sx_base hk; injection e; omega)
    replace aB := aB.gr bF (fun k hk e => by have := Sx_base hk; injection e; omega); replace aU := aU.gr bF (fun k hk e => by have := Sx_base hk; injection e; omega); replace cY := cY.gr bF (fun k hk e => by have := Sx_base hk; injection e; omega); clear aX bF
    refine At.done rfl ?_
    refine b_n ?_
    refine t_n ?_
    refine At.start ?_
    refine At.rk eR 3 [(9, .int .i64 (k1 + 1))] (.w 39 (k1 + 1) <| .n) (fun iA fM => ?_)
    clear eR
    refine At.dn ?_
    exact ⟨_, ω, (k1 + 1), (xa ++ ([k1]) : List Int), aS, cA, (xb ++ ([k1]) : List Int), cB, cX, rfl, fM.sb, aF, aH, aG, cZ, (aD.imp (fun g _ hs => ⟨hs.2.2.1, hs.2.2.2.1, hs.2.2.2.2.1, hs.2.2.2.2.2⟩)), (aB.imp (fun g _ hs => ⟨hs.2.2.1, hs.2.2.2.1, hs.2.2.2.2.1, hs.2.2.2.2.2⟩)), (aU.imp (fun g _ hs => ⟨hs.2.1, hs.2.2.1, hs.2.2.2.1, hs.2.2.2.2⟩)), cY, ω, ω, (by first | exact ones_next hxa ω σ | exact ones_skip hxa ω σ), (by first | exact ones_next hxb ω σ | exact ones_skip hxb ω σ), ω, ω⟩
   refine wp_skip ?_
   refine b_n ?_
   refine t_n ?_
   refine At.start ?_
   refine At.rk cI 3 [(9, .int .i64 (k1 + 1))] (.w 39 (k1 + 1) <| .n) (fun iB fN => ?_)
   clear cI
   refine At.dn ?_
   exact ⟨_, ω, (k1 + 1), (xa ++ ([k1]) : List Int), aS, cA, (xb : List Int), aI, aN, rfl, fN.sb, aF, aH, aG, aX, (aD.imp (fun g _ hs => ⟨hs.2.1, hs.2.2.1, hs.2.2.2.1, hs.2.2.2.2⟩)), (aB.imp (fun g _ hs => ⟨hs.2.1, hs.2.2.1, hs.2.2.2.1, hs.2.2.2.2⟩)), aU, (aC.imp (fun g _ hs => ⟨hs.2.1, hs.2.2.1, hs.2.2.2.1, hs.2.2.2.2⟩)), ω, ω, (by first | exact ones_next hxa ω σ | exact ones_skip hxa ω σ), (by first | exact ones_next hxb ω σ | exact ones_skip hxb ω σ), ω, ω⟩
  refine wp_skip ?_
  refine t_n ?_
  refine sqs ?_
  obtain ⟨iC, fO, iD, fP, iE⟩ := aB.get (k1) ω ω (sz := 1) rfl
  refine At.rk cH 4 [(53, .bool (gB y1 k1))] (.a k1 y1.length fO <| .l fP <| .n) (fun iF cJ => ?_)
  clear cH
  refine At.dn ?_
  refine cond_S cJ (t := gB y1 k1) rfl (fun fQ => ?_) (fun fQ => ?_)
  ·refine At.start ?_
   refine At.rk cJ 3 [(56, .int .i64 (k1)), (55, .slice aI xb.length aN)] (.b 1 2 <| .l (aK.cell (i := 1) rfl) <| .n) (fun iG eS => ?_)
   clear cJ
   refine At.seq eS 1 [[]] [(57, .slice (some ⟨aP.heap.size, 0, none⟩) 1 1)] (aP.alloc (.cells #[.int .i64 (k1)] 3 (0, 0))) [] κ trivial (fun iH eT dA eU => ?_)
   clear eS; have aZ := gr_alloc dA; have := aZ.size; replace aF := aF.gn aZ; replace aH := aH.gn aZ; replace aG := aG.gn aZ; replace aK := aK.gn aZ; replace aD := aD.grN aZ; replace aB := aB.grN aZ; replace aL := aL.grN aZ; replace aC := aC.grN aZ; have dB : Bx eT (aP.heap.size) [.int .i64 (k1)] 3 := Bx.new dA; have := dB.lt; clear aZ dA
   have fR : (xb ++ ([k1])).length = (xb).length + ([k1] : List Int).length := List.length_append
   simp only [List.length_cons, List.length_nil] at fR
   refine At.act eU (appendR (α := Int) (t := 22) (d := 58) (n := xb.length) (m := 1) (cc := 1) (xs := xb) (ys := [k1]) (bytes := 8) (by first | rfl | omega | (simp; done) | (simp; omega)) (by first | rfl | omega | (simp; done) | (simp; omega)) κ rfl κ aC (Bx.srcR (l := ([k1] : List Int)) dB rfl) (by simp only [List.length_cons, List.length_nil]; omega) (by simp only [List.length_cons, List.length_nil]; omega)) ?_
   rintro d_ v_ dC ⟨rfl, cC, dD, bU⟩
   obtain rfl := bU.val
   have bG := bU.gr
   refine ⟨_, rfl, fun iI eV => ?_⟩
   clear eU; clear dB
   have dE := bU.own (Sx (aE.heap.size) [obk (B130), obk (B132), obk (aJ)]) (fun g _ hs => ⟨hs.2.1, hs.2.2.1, hs.2.2.2.1, hs.2.2.2.2⟩) ⟨aD.ne_new, aB.ne_new, aL.ne_new, (show aE.heap.size ≤ eT.heap.size by omega)⟩
   have := bG.size; replace aF := aF.gr bG (fun k hk => by have := aC.ge k hk; omega); replace aH := aH.gr bG (fun k hk => by have := aC.ge k hk; omega); replace aG := aG.gr bG (fun e => by have := aC.ge _ e; omega); replace aK := aK.gr bG (fun e => by have := aC.ge _ e; omega)
   replace aD : OwnR dC (Sx (aA.heap.size) [some (aP.heap.size), obk (cC), obk (aJ), obk (B132)]) B130 d131 4 (x1 : List Bool) := aD.grA bG (fun k hk => hk.2.1) (fun k hk hs => ⟨hs.1, own_repl bU.at_ hs.2.1 hk, hs.2.2.1, hs.2.2.2.1, hs.2.2.2.2⟩)
   replace aB : OwnR dC (Sx (aA.heap.size) [some (aP.heap.size), obk (cC), obk (aJ), obk (B130)]) B132 d133 4 (y1 : List Bool) := aB.grA bG (fun k hk => hk.2.1) (fun k hk hs => ⟨hs.1, own_repl bU.at_ hs.2.1 hk, hs.2.2.1, hs.2.2.2.1, hs.2.2.2.2⟩)
   replace aL : OwnR dC (Sx (aE.heap.size) [some (aP.heap.size), obk (cC), obk (B130), obk (B132)]) aJ aO 3 (xa : List Int) := aL.grA bG (fun k hk => hk.2.1) (fun k hk hs => ⟨hs.1, own_repl bU.at_ hs.2.1 hk, hs.2.2.1, hs.2.2.2.1, hs.2.2.2.2⟩)
   clear aC bG bU
   refine At.rk eV 1 [(59, pt aM.heap.size 1)] (.b 1 2 <| .n) (fun iJ eW => ?_)
   clear eV
   refine At.store eW (t := 22) (b := aM.heap.size) (off := 1) (v := .slice cC ((xb ++ ([k1])).length) dD) κ aK κ (fun iK fS bH dF eX => ?_)
   clear eW; replace dF : Bx fS (aM.heap.size) [.slice aJ xa.length aO, .slice cC ((xb ++ ([k1])).length) dD] 29 := dF; have := bH.size; replace aF := aF.gr bH (fun k h => by injection h; omega); replace aH := aH.gb bH ω; replace aG := aG.gb bH ω; replace aD := aD.gr bH (fun k hk e => by have := Sx_base hk; injection e; omega)
   replace aB := aB.gr bH (fun k hk e => by have := Sx_base hk; injection e; omega); replace aL := aL.gr bH (fun k hk e => by have := Sx_base hk; injection e; omega); replace dE := dE.gr bH (fun k hk e => by have := Sx_base hk; injection e; omega); clear aK bH
   refine At.done rfl ?_
   refine b_n ?_
   refine t_n ?_
   refine At.start ?_
   refine At.rk eX 3 [(9, .int .i64 (k1 + 1))] (.w 39 (k1 + 1) <| .n) (fun iL fT => ?_)
   clear eX
   refine At.dn ?_
   exact ⟨_, ω, (k1 + 1), (xa : List Int), aJ, aO, (xb ++ ([k1]) : List Int), cC, dD, rfl, fT.sb, aF, aH, aG, dF, (aD.imp (fun g _ hs => ⟨hs.2.1, hs.2.2.1, hs.2.2.2.1, hs.2.2.2.2⟩)), (aB.imp (fun g _ hs => ⟨hs.2.1, hs.2.2.1, hs.2.2.2.1, hs.2.2.2.2⟩)), (aL.imp (fun g _ hs => ⟨hs.2.1, hs.2.2.1, hs.2.2.2.1, hs.2.2.2.2⟩)), dE, ω, ω, (by first | exact ones_next hxa ω σ | exact ones_skip hxa ω σ), (by first | exact ones_next hxb ω σ | exact ones_skip hxb ω σ), ω, ω⟩
  refine wp_skip ?_
  refine b_n ?_
  refine t_n ?_
  refine At.start ?_
  refine At.rk cJ 3 [(9, .int .i64 (k1 + 1))] (.w 39 (k1 + 1) <| .n) (fun iM fU => ?_)
  clear cJ
  refine At.dn ?_
  exact ⟨_, ω, (k1 + 1), (xa : List Int), aJ, aO, (xb : List Int), aI, aN, rfl, fU.sb, aF, aH, aG, aK, aD, aB, aL, aC, ω, ω, (by first | exact ones_next hxa ω σ | exact ones_skip hxa ω σ), (by first | exact ones_next hxb ω σ | exact ones_skip hxb ω σ), ω, ω⟩
 have iN := of_decide_eq_false cQ
 refine wp_exit ?_
 refine t_e ?_
 clear hm170
 refine t_e ?_
 refine b_e ?_
 refine t_n ?_
 clear aD; clear aB
 refine sqs ?_
 refine At.rk cG 1 [(60, .agg #[.slice aJ xa.length aO, .slice aI xb.length aN])] (.l (aK.cell (i := 0) rfl) <| .l (aK.cell (i := 1) rfl) <| .n) (fun iO eY => ?_)
 clear cG
 refine At.store eY (t := 29) (b := w1.heap.size) (off := 0) (v := .agg #[.slice aJ xa.length aO, .slice aI xb.length aN]) κ aG κ (fun iP dG bV cN fV => ?_)
 clear eY; replace cN : Bx dG (w1.heap.size) [.slice aJ xa.length aO, .slice aI xb.length aN] 29 := cN; have := bV.size; replace aF := aF.gr bV (fun k h => by injection h; omega); replace aH := aH.gb bV ω; replace aK := aK.gb bV ω; replace aL := aL.gr bV (fun k hk e => by have := Sx_base hk; injection e; omega); replace aC := aC.gr bV (fun k hk e => by have := Sx_base hk; injection e; omega)
 clear aG bV
 refine At.dn ?_
 clear aK
 refine wp_ret ?_
 refine ret_ fV [[.slice aJ xa.length aO, .slice aI xb.length aN]] [.agg #[.slice aJ xa.length aO, .slice aI xb.length aN]] [(dG.cell? ⟨w1.heap.size, 0, none⟩ = some (.slice aJ xa.length aO)), (dG.cell? ⟨w1.heap.size, 1, none⟩ = some (.slice aI xb.length aN))] κ ⟨(cN.cell (i := 0) rfl), (cN.cell (i := 1) rfl), trivial⟩ ?_
 exact ⟨aJ, aO, aI, aN, _, _, rfl, aF, (aL.imp (fun g _ hs => ⟨hs.1, (by have := Sx_base hs; show w.heap.size ≤ g; omega)⟩)), (aC.imp (fun g _ hs => ⟨hs.2.2.1, (by have := Sx_base hs; show w.heap.size ≤ g; omega)⟩)), (doc_yes hR hwx1 hxa hxb ω)⟩
end Go.Proofs.YtplpgfcjjnaigaaDoor
namespace Go.Proofs.YtplpgfcjjnaigaaDoor
open Go Go.RowKit
structure LR (w : World) (b c : Nat) (e : TypeId) (ls : List (List Int)) : Prop where
  ex : ∃ vs : List SliceV, OwnR w (fun k => k = b) (some ⟨b, 0, none⟩) c e vs ∧ vs.length = ls.length ∧ ∀ j, j < ls.length → (vs.getD j ⟨none, 0, 0⟩).n = (ls.getD j []).length ∧ (ls.getD j []).length ≤ (vs.getD j ⟨none, 0, 0⟩).c ∧ ∃ lo hi, RdI w lo hi (vs.getD j ⟨none, 0, 0⟩).A (ls.getD j []) ∧ hi ≤ w.heap.size ∧ (b < lo ∨ hi ≤ b)
section
variable {w w1 : World} {b c : Nat} {e : TypeId} {ls : List (List Int)}
theorem LR.gn (h : LR w b c e ls) (g : w.grownBy w1 none) : LR w1 b c e ls := by
  obtain ⟨vs, h1, h2, h3⟩ := h.ex
  refine ⟨vs, h1.gn g, h2, fun j hj => ?_⟩
  obtain ⟨a, b, lo, hi, r, h4, h5⟩ := h3 j hj
  have := g.size
  exact ⟨a, b, lo, hi, r.gn g, by omega, h5⟩
theorem LR.lt (h : LR w b c e ls) : b < w.heap.size := by
  obtain ⟨vs, h1, _⟩ := h.ex
  exact h1.lt b rfl
theorem LR.new {n : Nat} (h : ∀ S : Nat → Prop, S b → OwnR w S (some ⟨b, 0, none⟩) c e (List.replicate n (⟨none, 0, 0⟩ : SliceV))) : LR w b c e (List.replicate n []) := by
  refine ⟨_, h _ rfl, by rw [List.length_replicate, List.length_replicate], fun j hj => ?_⟩
  have e1 : (List.replicate n (⟨none, 0, 0⟩ : SliceV)).getD j ⟨none, 0, 0⟩ = ⟨none, 0, 0⟩ := by simp only [List.getD_eq_getElem?_getD, List.getElem?_replicate]; split <;> rfl
  have e2 : (List.replicate n ([] : List Int)).getD j [] = [] := by simp only [List.getD_eq_getElem?_getD, List.getElem?_replicate]; split <;> rfl
  rw [e1, e2]
  exact ⟨rfl, Nat.le_refl _, 0, 0, rdI_nil, Nat.zero_le _, .inr (Nat.zero_le _)⟩
theorem ActOp.mono {P : Program} {l : List (Nat × Value)} {ops : List Oper} {k : Nat} {R R' : Option Nat → Value → World → Prop} (h : ActOp P l ops k w R) (hi : ∀ d v w1, R d v w1 → R' d v w1) : ActOp P l ops k w R' := by
  obtain ⟨o, h1, h2, x, v, w1, h3, h4, h5⟩ := h
  exact ⟨o, h1, h2, x, v, w1, h3, h4, hi _ _ _ h5⟩
theorem getD_setV {α : Type} {l : List α} {i j : Nat} {x d : α} (h : i < l.length) : (l.set i x).getD j d = if i = j then x else l.getD j d := by
  simp only [List.getD_eq_getElem?_getD, List.getElem?_set]
  by_cases e : i = j
  · subst e
    rw [if_pos rfl, if_pos rfl, if_pos h]
    rfl
  · rw [if_neg e, if_neg e]
theorem storeLR {P : Program} {l : List (Nat × Value)} {ops : List Oper} {k : Nat} {t : TypeId} {i : Int} {R : Option Addr} {n C : Nat} {xs : List Int} {lo hi : Nat}
    (ha : storeAtL l ops k = some (t, .pointer (some ((⟨b, 0, none⟩ : Addr).add (i.toNat * 1))), .slice R n C)) (hok : storeOkX P t [.slice R n C] = true) (h : LR w b c e ls) (hn : n = xs.length) (hC : xs.length ≤ C) (hr : RdI w lo hi R xs) (hhi : hi ≤ w.heap.size) (hS : b < lo ∨ hi ≤ b) (h0 : 0 ≤ i) (h1 : i < (ls.length : Int)) :
    ActOp P l ops k w fun d' v' w1 => d' = none ∧ w.grownBy w1 (some b) ∧ LR w1 b c e (ls.set i.toNat xs) := by
  obtain ⟨vs, k1, k2, k3⟩ := h.ex
  refine (storeR (α := SliceV) (x := ⟨R, n, C⟩) ha rfl rfl hok rfl k1 h0 (by omega)).mono fun d v w1 hh => ?_
  obtain ⟨hd, hg, hO⟩ := hh
  have hsz := hg.size
  refine ⟨hd, hg, vs.set i.toNat ⟨R, n, C⟩, hO, by rw [List.length_set, List.length_set, k2], fun j hj => ?_⟩
  rw [List.length_set] at hj
  rw [getD_setV (l := vs) (by omega), getD_setV (l := ls) (by omega)]
  by_cases e : i.toNat = j
  · rw [if_pos e, if_pos e]
    exact ⟨hn, hC, lo, hi, hr.gb hg hS, by omega, hS⟩
  · rw [if_neg e, if_neg e]
    obtain ⟨a, b', lo', hi', r, h4, h5⟩ := k3 j hj
    exact ⟨a, b', lo', hi', r.gb hg h5, by omega, h5⟩
theorem LR.rdII (h : LR w b c e ls) (hl : ls.length * 24 ≤ 140737488351232) : RdII w 0 w.heap.size (some ⟨b, 0, none⟩) ls := by
  obtain ⟨vs, k1, k2, k3⟩ := h.ex
  refine ⟨hl, fun j => (vs.getD j ⟨none, 0, 0⟩).A, fun j => (vs.getD j ⟨none, 0, 0⟩).c, fun i q hi hq => ?_, fun j hj => ?_⟩
  · obtain rfl : q = 0 := by omega
    obtain ⟨ad, hA, hs, h0, hc⟩ := k1.get (i : Int) (by omega) (by omega) (sz := 1) rfl
    refine ⟨ad, hA, Nat.zero_le _, hs, ?_⟩
    have := hc 0 _ rfl
    refine this.trans ?_
    show some (Value.slice (gA vs (i : Int)).A (gA vs (i : Int)).n (gA vs (i : Int)).c) = _
    rw [show gA vs (i : Int) = vs.getD i ⟨none, 0, 0⟩ from rfl, (k3 i hi).1]
  · obtain ⟨a, b', lo', hi', r, h4, h5⟩ := k3 j hj
    exact ⟨b', r.wide (Nat.zero_le _) h4⟩
end
end Go.Proofs.YtplpgfcjjnaigaaDoor
namespace Go.Proofs.YtplpgfcjjnaigaaDoor
open Go Go.RowKit Go.MapKept
def key2 (x : Int × Int) : Value := .agg #[.int .i64 x.1, .int .i64 x.2]
def encM (y : (Int × Int) × Int) : Value × Value := (key2 y.1, .int .i64 y.2)
def Mp (w : World) (b : Nat) (L : List ((Int × Int) × Int)) : Prop := ∃ es clock, w.heap[b]? = some (.map es clock) ∧ es.toList.map (fun e => (e.key, e.val)) = L.map encM
section
variable {P : Program} {kt : TypeId} {w : World} {x : Int × Int}
variable {t et : TypeId} {b : Nat} {L : List ((Int × Int) × Int)}
theorem Mp.gr {w1 : World} {row : Option Nat} (h : Mp w b L) (hg : w.grownBy w1 row) (hne : row ≠ some b) : Mp w1 b L := by
  obtain ⟨es, clock, hb, hl⟩ := h
  have hlt : b < w.heap.size := by
    rcases Nat.lt_or_ge b w.heap.size with h2 | h2
    · exact h2
    · rw [Array.getElem?_eq_none h2] at hb
      cases hb
  exact ⟨es, clock, (hg.block b hlt (fun e => hne e.symm)).trans hb, hl⟩
theorem Mp.lt (h : Mp w b L) : b < w.heap.size := by
  obtain ⟨es, clock, hb, hl⟩ := h
  rcases Nat.lt_or_ge b w.heap.size with h2 | h2
  · exact h2
  · rw [Array.getElem?_eq_none h2] at hb
    cases hb
theorem Mp.as {L' : List ((Int × Int) × Int)} (h : Mp w b L) (e : L = L') : Mp w b L' := by subst e; exact h
theorem Mp.new : Mp (w.alloc (.map #[] 0)) w.heap.size [] := ⟨#[], 0, heap_alloc_new w _, rfl⟩
end
section
variable {P : Program} {l : List (Nat × Value)} {ops : List Oper} {k d : Nat} {w : World} {t kt et : TypeId} {b : Nat} {L : List ((Int × Int) × Int)} {x y : Int}
structure KeyT (P : Program) (t kt et : TypeId) : Prop where
  m : P.underlying t = some (.map kt et)
  wide : (match P.underlying kt with | some (.array _ _) | some (.struct _) => true | _ => false) = true
  ck : ∀ em x w, (Instr.checkKey em 10000 kt (key2 x)).run P w = .ok () w
  eq : ∀ a b : Int × Int, ∀ w, (Op.equal kt (key2 a) (key2 b)).run P w = .ok (decide (a = b)) w
  z : ∀ w, (zeroValue et).run P w = .ok (.int .i64 0) w
end
abbrev Pr2 := Int × Int
instance : Enc Pr2 := ⟨fun x => [.int .i64 x.1, .int .i64 x.2], 2, (0, 0), fun _ => rfl, fun x u h => by simp at h; rcases h with rfl | rfl <;> rfl, by decide, 16, by decide⟩
theorem RdI.take {w : World} {lo hi : Nat} {A : Option Addr} {l : List Int} (h : RdI w lo hi A l) (k : Nat) : RdI w lo hi A (l.take k) := by
  refine ⟨by have := h.len; rw [List.length_take]; omega, fun i q hi hq => ?_⟩
  rw [List.length_take] at hi
  obtain ⟨ad, hA, h1, h2, hc⟩ := h.row i q (by omega) hq
  refine ⟨ad, hA, h1, h2, ?_⟩
  simp only [List.getD_eq_getElem?_getD] at hc ⊢
  rw [List.getElem?_take_of_lt (by omega)]
  exact hc
theorem RdI.drop {w : World} {lo hi c : Nat} {A : Option Addr} {l : List Int} (h : RdI w lo hi A l) (k : Nat) (hc : l.length ≤ c) (hk : k ≤ l.length) : RdI w lo hi (if c = k then A else Option.map (fun a_ : Addr => a_.add (k * 1)) A) (l.drop k) := by
  refine ⟨by have := h.len; rw [List.length_drop]; omega, fun i q hi hq => ?_⟩
  rw [List.length_drop] at hi
  obtain ⟨ad, hA, h1, h2, hc⟩ := h.row (k + i) q (by omega) hq
  rw [if_neg (by omega), hA]
  refine ⟨ad.add (k * 1), rfl, by rw [add_block]; exact h1, by rw [add_block]; exact h2, ?_⟩
  simp only [List.getD_eq_getElem?_getD] at hc ⊢
  rw [List.getElem?_drop, add_add' ad, show k * 1 + i * 1 = (k + i) * 1 by omega]
  exact hc
theorem Bx.rdI1 {w : World} {b : Nat} {cs : List Value} {T : TypeId} {l : List Int} (h : Bx w b cs T) (e : cs = ints l) (hl : l.length * 8 ≤ 140737488351232) : RdI w b (b + 1) (some ⟨b, 0, none⟩) l := by
  have h2 := h.rdI e hl
  refine ⟨h2.len, fun i q hi hq => ?_⟩
  obtain ⟨ad, hA, _, _, hc⟩ := h2.row i q hi hq
  injection hA with hA
  subst hA
  exact ⟨_, rfl, Nat.le_refl _, Nat.lt_succ_self _, hc⟩
end Go.Proofs.YtplpgfcjjnaigaaDoor
