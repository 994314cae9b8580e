/-
  A walk of a Go function, printed by a program of this repo. Conditions: what the theorems name.
-/
import Derived.Test.YtklbpajmoklheaaPurePlayW
import Derived.Test.YtklbpajmoklheaaWIs
set_option linter.unusedVariables false
set_option linter.unusedSimpArgs false
namespace Go.Proofs.Ytklbpajmoklheaa
open Go Go.RowKit

set_option maxHeartbeats 4000000 in
theorem next_any {Ag0 Ag1 Ag2 : Option Addr} {cg0 cg1 cg2 : Nat} {g : GameL} {Am : Option Addr} {cm : Nat} {lm : List Int} {As : Option Addr} {cs : Nat} {ls : List Int} {b : Nat} {p x y : Int} {w : World} (hb : Bx w b [.slice Ag0 g.ow.length cg0, .slice Ag1 g.pr.length cg1, .slice Ag2 g.mv.length cg2, .int .i64 (p), .slice Am lm.length cm, .slice As ls.length cs] 71) (rg : RdG w 0 w.heap.size Ag0 Ag1 Ag2 cg0 cg1 cg2 g) (rm : RdI w 0 w.heap.size Am lm) (rs : RdI w 0 w.heap.size As ls) (hG : RightG g) (hx0 : 0 ≤ x) (hx1 : x < (g.ow.length : Int)) (hy0 : 0 ≤ y) (hy1 : y < (ls.length : Int)) (hs6 : ls.length ≤ 64) :
    Calls Try.prog 42 #[.pointer (some ⟨b, 0, none⟩), .agg #[.int .i64 (x), .int .i64 (y)]] w fun e w' => e = .returned (.tuple #[.agg #[.int .i64 (nxt g p lm ls (x, y)).1.1, .int .i64 (nxt g p lm ls (x, y)).1.2], .bool (nxt g p lm ls (x, y)).2]) ∧ Ext w w' := by
 have hbl := hb.lt; have hlg0 := rg.ow.len; have hlg1 := rg.pr.len; have hlg2 := rg.mv.len; have hkg0 := rg.k0; have hkg1 := rg.k1; have hkg2 := rg.k2; have hlm := rm.len; have hls := rs.len; have hpl := hG.pl; have hml := hG.ml; have hn1 := hG.n1; have hne := hG.ne x hx0 hx1; have hrl := row_len hG hx0 hx1
 refine enter_ (args := [.pointer (some ⟨b, 0, none⟩), .agg #[.int .i64 (x), .int .i64 (y)]]) Try.func42 rfl Try.ntmps42 (Nat.le_of_ble_eq_true rfl) (fun act0 f0 => ?_)
 have e0 : Ext w w := Ext.refl w
 refine wp_seq ?_
 refine At.start ?_
 refine At.seq f0 1 [[]] [(3, .pointer (some ⟨w.heap.size, 0, none⟩))] (w.alloc (.cells #[.int .i64 (x), .int .i64 (y)] 74 (0, 0))) [] (by kernel_rfl) trivial (fun act4 w1 hw2 f3 => ?_)
 clear f0; have g5 := gr_alloc hw2; have := g5.size; replace e0 := e0.gn g5; have bx8 := hb.gn g5; clear hb; have r9 := rg.gn g5; clear rg; have aB := rm.gn g5; clear rm; have aC := rs.gn g5; clear rs; have aA : Bx w1 (w.heap.size) [.int .i64 (x), .int .i64 (y)] 74 := Bx.new hw2; have := aA.lt; clear g5 hw2
 refine At.seq f3 1 [[]] [(4, .pointer (some ⟨w1.heap.size, 0, none⟩))] (w1.alloc (.cells #[.int .i64 (0), .int .i64 (0)] 74 (0, 0))) [] (by kernel_rfl) trivial (fun eD bK bX cK => ?_)
 clear f3; have aR := gr_alloc bX; have := aR.size; replace e0 := e0.gn aR; replace bx8 := bx8.gn aR; replace r9 := r9.gn aR; replace aB := aB.gn aR; replace aC := aC.gn aR; replace aA := aA.gn aR; have aE : Bx bK (w1.heap.size) [.int .i64 (0), .int .i64 (0)] 74 := Bx.new bX; have := aE.lt; clear aR bX
 refine At.rd cK 1 [[]] [(5, .bool false)] [] (by kernel_rfl) trivial (fun eE cL => ?_)
 clear cK
 refine At.done rfl ?_
 refine t_n ?_
 refine wp_seq ?_
 obtain ⟨bL, aD, aG, dI, _, _, dJ, eF, aF⟩ := RdII.get r9.mv (x) (by omega) (by omega)
 have eG := aF.len
 refine drawn_ro cL (by kernel_rfl) (by kernel_rfl) [[], [], [], [], [.ld (.slice Ag2 g.mv.length cg2)], [], [.ld (.int .i64 (x))], [.ad bL], [.ld (.slice aD ((gL g.mv (x)).length) aG)], []] [(6, .slice aD ((gL g.mv (x)).length) aG), (17, .slice aD ((gL g.mv (x)).length) aG), (16, .pointer (some (bL.add ((x : Int).toNat * 1)))), (15, .int .i64 (x)), (14, .pointer (some ⟨w.heap.size, 0, none⟩)), (13, .slice Ag2 g.mv.length cg2), (12, .pointer (some ⟨b, 2, none⟩)), (11, .pointer (some ⟨b, 0, none⟩)), (10, .pointer (some ⟨b, 0, none⟩)), (9, .pointer (some ⟨b, 0, none⟩))] [(bK.cell? ⟨b, 2, none⟩ = some (.slice Ag2 g.mv.length cg2)), (bK.cell? ⟨w.heap.size, 0, none⟩ = some (.int .i64 (x))), (Ag2 = some bL), (0 ≤ (x : Int)), ((x : Int) < (g.mv.length : Nat)), (bK.cell? (bL.add ((x : Int).toNat * 1)) = some (.slice aD ((gL g.mv (x)).length) aG))] (by kernel_rfl) ⟨(bx8.cell (i := 2) rfl), (aA.cell (i := 0) rfl), dI, (by omega), (by omega), dJ, trivial⟩ (fun eH bM cM cN => ?_)
 clear cL; have aK := gr_drew cM; have := aK.size; replace e0 := e0.gn aK; replace bx8 := bx8.gn aK; replace r9 := r9.gn aK; replace aB := aB.gn aK; replace aC := aC.gn aK; replace aA := aA.gn aK; replace aE := aE.gn aK; replace aF := aF.gn aK; clear aK cM
 refine t_n ?_
 refine wp_seq ?_
 refine wp_seq ?_
 obtain ⟨bN, dK, _, _, dL⟩ := RdI.get r9.ow (x) (by omega) (by omega)
 refine drawn_ro cN (by kernel_rfl) (by kernel_rfl) [[], [], [], [], [.ld (.slice Ag0 g.ow.length cg0)], [], [.ld (.int .i64 (x))], [.ad bN], [.ld (.int .i64 (gI g.ow (x)))], [], [], [], [.ld (.int .i64 (p))], []] [(31, .bool ((gI g.ow (x) : Int) == p)), (30, .int .i64 (p)), (29, .pointer (some ⟨b, 3, none⟩)), (28, .pointer (some ⟨b, 0, none⟩)), (27, .pointer (some ⟨b, 0, none⟩)), (26, .int .i64 (gI g.ow (x))), (25, .pointer (some (bN.add ((x : Int).toNat * 1)))), (24, .int .i64 (x)), (23, .pointer (some ⟨w.heap.size, 0, none⟩)), (22, .slice Ag0 g.ow.length cg0), (21, .pointer (some ⟨b, 0, none⟩)), (20, .pointer (some ⟨b, 0, none⟩)), (19, .pointer (some ⟨b, 0, none⟩)), (18, .pointer (some ⟨b, 0, none⟩))] [(bM.cell? ⟨b, 0, none⟩ = some (.slice Ag0 g.ow.length cg0)), (bM.cell? ⟨w.heap.size, 0, none⟩ = some (.int .i64 (x))), (Ag0 = some bN), (0 ≤ (x : Int)), ((x : Int) < (g.ow.length : Nat)), (bM.cell? (bN.add ((x : Int).toNat * 1)) = some (.int .i64 (gI g.ow (x)))), (bM.cell? ⟨b, 3, none⟩ = some (.int .i64 (p)))] (by kernel_rfl) ⟨(bx8.cell (i := 0) rfl), (aA.cell (i := 0) rfl), dK, (by omega), (by omega), dL, (bx8.cell (i := 3) rfl), trivial⟩ (fun eI aX cO cP => ?_)
 clear cN; have aL := gr_drew cO; have := aL.size; replace e0 := e0.gn aL; replace bx8 := bx8.gn aL; replace r9 := r9.gn aL; replace aB := aB.gn aL; replace aC := aC.gn aL; replace aA := aA.gn aL; replace aE := aE.gn aL; replace aF := aF.gn aL; clear aL cO
 refine t_n ?_
 have bE := cP.sub (r := [(31, .bool ((gI g.ow (x) : Int) == p)), (6, .slice aD ((gL g.mv (x)).length) aG), (4, .pointer (some ⟨w1.heap.size, 0, none⟩)), (3, .pointer (some ⟨w.heap.size, 0, none⟩)), (0, .pointer (some ⟨b, 0, none⟩))]) ⟨rfl, rfl, rfl, rfl, rfl, trivial⟩
 clear cP
 refine cond_S bE (t := (gI g.ow (x) : Int) == p) rfl (fun bY => ?_) (fun bY => ?_)
 ·have eJ := eq_of_beq bY
  refine wp_seq ?_
  refine At.start ?_
  refine At.rd bE 1 [[]] [(7, .int .i64 (-1))] [] (by kernel_rfl) trivial (fun eK bZ => ?_)
  clear bE
  refine At.done rfl ?_
  refine t_n ?_
  refine wp_seq (cut (fun a_ w_ => ∃ (m : Int), (Frm 86 a_ [(7, .int .i64 (m)), (6, .slice aD ((gL g.mv (x)).length) aG), (4, .pointer (some ⟨w1.heap.size, 0, none⟩)), (3, .pointer (some ⟨w.heap.size, 0, none⟩))]) ∧ (Ext w w_) ∧ (Bx w_ (b) [.slice Ag0 g.ow.length cg0, .slice Ag1 g.pr.length cg1, .slice Ag2 g.mv.length cg2, .int .i64 (p), .slice Am lm.length cm, .slice As ls.length cs] 71) ∧ (RdG w_ 0 w.heap.size Ag0 Ag1 Ag2 cg0 cg1 cg2 g) ∧ (RdI w_ 0 w.heap.size Am lm) ∧ (RdI w_ 0 w.heap.size As ls) ∧ (Bx w_ (w.heap.size) [.int .i64 (x), .int .i64 (y)] 74) ∧ (Bx w_ (w1.heap.size) [.int .i64 (0), .int .i64 (0)] 74) ∧ (RdI w_ 0 w.heap.size aD (gL g.mv (x))) ∧ (m = if x < (lm.length : Int) then gI lm x else -1) ∧ (aX.heap.size ≤ w_.heap.size)) ?_ ?_)
  ·refine wp_seq ?_
   refine drawn_ro bZ (by kernel_rfl) (by kernel_rfl) [[], [.ld (.int .i64 (x))], [], [], [], [.ld (.slice Am lm.length cm)], [], []] [(39, .bool (decide ((x : Int) < ((lm.length : Nat) : Int)))), (38, .int .i64 (((lm.length : Nat) : Int))), (37, .slice Am lm.length cm), (36, .pointer (some ⟨b, 4, none⟩)), (35, .pointer (some ⟨b, 0, none⟩)), (34, .pointer (some ⟨b, 0, none⟩)), (33, .int .i64 (x)), (32, .pointer (some ⟨w.heap.size, 0, none⟩))] [(aX.cell? ⟨w.heap.size, 0, none⟩ = some (.int .i64 (x))), (aX.cell? ⟨b, 4, none⟩ = some (.slice Am lm.length cm))] (by kernel_rfl) ⟨(aA.cell (i := 0) rfl), (bx8.cell (i := 4) rfl), trivial⟩ (fun eL cA cQ bO => ?_)
   clear bZ; have aM := gr_drew cQ; have := aM.size; replace e0 := e0.gn aM; replace bx8 := bx8.gn aM; replace r9 := r9.gn aM; replace aB := aB.gn aM; replace aC := aC.gn aM; replace aA := aA.gn aM; replace aE := aE.gn aM; replace aF := aF.gn aM; clear aM cQ
   refine t_n ?_
   refine cond_S bO (t := decide ((x : Int) < ((lm.length : Nat) : Int))) rfl (fun cB => ?_) (fun cB => ?_)
   ·have eM := of_decide_eq_true cB
    obtain ⟨bP, dM, _, _, dN⟩ := RdI.get aB (x) (by omega) (by omega)
    refine drawn_ro bO (by kernel_rfl) (by kernel_rfl) [[], [], [], [.ld (.slice Am lm.length cm)], [], [.ld (.int .i64 (x))], [.ad bP], [.ld (.int .i64 (gI lm (x)))], []] [(7, .int .i64 (gI lm (x))), (47, .int .i64 (gI lm (x))), (46, .pointer (some (bP.add ((x : Int).toNat * 1)))), (45, .int .i64 (x)), (44, .pointer (some ⟨w.heap.size, 0, none⟩)), (43, .slice Am lm.length cm), (42, .pointer (some ⟨b, 4, none⟩)), (41, .pointer (some ⟨b, 0, none⟩)), (40, .pointer (some ⟨b, 0, none⟩))] [(cA.cell? ⟨b, 4, none⟩ = some (.slice Am lm.length cm)), (cA.cell? ⟨w.heap.size, 0, none⟩ = some (.int .i64 (x))), (Am = some bP), (0 ≤ (x : Int)), ((x : Int) < (lm.length : Nat)), (cA.cell? (bP.add ((x : Int).toNat * 1)) = some (.int .i64 (gI lm (x))))] (by kernel_rfl) ⟨(bx8.cell (i := 4) rfl), (aA.cell (i := 0) rfl), dM, (by omega), (by omega), dN, trivial⟩ (fun eN eO cR dO => ?_)
    clear bO; have aN := gr_drew cR; have := aN.size; replace e0 := e0.gn aN; replace bx8 := bx8.gn aN; replace r9 := r9.gn aN; replace aB := aB.gn aN; replace aC := aC.gn aN; replace aA := aA.gn aN; replace aE := aE.gn aN; replace aF := aF.gn aN; clear aN cR
    refine t_n ?_
    have dP := dO.sub (r := [(7, .int .i64 (gI lm (x))), (6, .slice aD ((gL g.mv (x)).length) aG), (4, .pointer (some ⟨w1.heap.size, 0, none⟩)), (3, .pointer (some ⟨w.heap.size, 0, none⟩))]) ⟨rfl, rfl, rfl, rfl, trivial⟩
    exact ⟨gI lm (x), dP, e0, bx8, r9, aB, aC, aA, aE, aF, (by first | rw [if_pos (by omega)] | rw [if_neg (by omega)]), (by omega)⟩
   have eP := of_decide_eq_false cB
   refine wp_skip ?_
   refine t_n ?_
   have dQ := bO.sub (r := [(7, .int .i64 (-1)), (6, .slice aD ((gL g.mv (x)).length) aG), (4, .pointer (some ⟨w1.heap.size, 0, none⟩)), (3, .pointer (some ⟨w.heap.size, 0, none⟩))]) ⟨rfl, rfl, rfl, rfl, trivial⟩
   exact ⟨-1, dQ, e0, bx8, r9, aB, aC, aA, aE, aF, (by first | rw [if_pos (by omega)] | rw [if_neg (by omega)]), (by omega)⟩
  clear bx8; clear r9; clear aB; clear aC; clear aA; clear aE; clear aF; clear bZ e0
  intro eQ dR ⟨m, cS, aS, aU, aY, aZ, bA, aT, aV, aW, hm, i116⟩
  have := aS.size; have := aU.lt; have := aT.lt; have := aV.lt
  refine wp_seq ?_
  obtain ⟨cC, cD⟩ : ∃ c : List (Addr × Value), c = [(⟨w.heap.size, 1, none⟩, (.int .i64 (y)))] := ⟨_, rfl⟩
  have cT : HoldsC cC dR := by rw [cD]; exact ⟨(aT.cell (i := 1) rfl), trivial⟩
  refine AtH.start cC 9 #[false, false, false, false, false, false, false, false, false] (by kernel_rfl) rfl rfl (fun eR cU => ?_)
  have aH := gr_drew cU; have cV := cT.gr aH; have := aH.size; replace aS := aS.gn aH; replace aU := aU.gn aH; replace aY := aY.gn aH; replace aZ := aZ.gn aH; replace bA := bA.gn aH; replace aT := aT.gn aH; replace aV := aV.gn aH; replace aW := aW.gn aH; clear aH cU cT
  refine AtH.rd (by kernel_rfl) (fun d v c a w h => by cases d <;> exact h) cV [0, 1, 2, 3, 4, 5] [[], [], [.ld (.int .i64 (y))], [], [], []] [(53, .int .i64 (m)), (52, .slice aD ((gL g.mv (x)).length) aG), (51, .agg #[.int .i64 (m), .int .i64 (y)]), (50, .int .i64 (y)), (49, .pointer (some ⟨w.heap.size, 1, none⟩)), (48, .int .i64 (m))] #[true, true, true, true, true, true, false, false, false] [(∃ j_ : Nat, cC[j_]? = some (⟨w.heap.size, 1, none⟩, (.int .i64 (y))))] 3 cS (by kernel_rfl) ⟨⟨0, by rw [cD]; rfl⟩, trivial⟩ (fun eS cW => ?_)
  clear cS
  refine AtH.all [6] 2 (by kernel_rfl) (by simp) ⟨?_, trivial⟩
  refine OneH.call cW 54 #[.slice aD ((gL g.mv (x)).length) aG, .int .i64 (m)] (some 54) #[true, true, true, true, true, true, true, false, false] (by kernel_rfl) (by kernel_rfl) (contains_any (v := m) (aW.wide (Nat.zero_le _) (by omega))) ?_
  rintro e_ eT ⟨rfl, he⟩
  refine ⟨_, rfl, _, rfl, fun eU cX => ?_⟩
  clear cW; have aI := gr_ext he; have cY := cV.gr aI; have := aI.size; replace aS := aS.gn aI; replace aU := aU.gn aI; replace aY := aY.gn aI; replace aZ := aZ.gn aI; replace bA := bA.gn aI; replace aT := aT.gn aI; replace aV := aV.gn aI; replace aW := aW.gn aI; clear aI he
  refine ⟨cY, ?_⟩
  refine AtH.all [7] 1 (by kernel_rfl) (by simp) ⟨?_, trivial⟩
  refine OneH.store cX (t := 74) (b := w1.heap.size) (off := 0) (v := .agg #[.int .i64 (m), .int .i64 (y)]) #[true, true, true, true, true, true, true, true, false] (by kernel_rfl) (by kernel_rfl) aV (by kernel_rfl) (fun eV cE aO bQ cZ => ?_)
  clear cX; replace bQ : Bx cE (w1.heap.size) [.int .i64 (m), .int .i64 (y)] 74 := bQ; have cF := cY.gr' aO (by rw [cD]; exact ⟨(by simp only [add_block]; omega), trivial⟩); have := aO.size; replace aS := aS.gr aO (fun k h => by injection h; omega); replace aU := aU.gb aO (by omega); replace aY := aY.gb aO (by omega); replace aZ := aZ.gb aO (by omega); replace bA := bA.gb aO (by omega)
  replace aT := aT.gb aO (by omega); replace aW := aW.gb aO (by omega); clear aV aO
  refine ⟨cF, ?_⟩
  refine AtH.rd (by kernel_rfl) (fun d v c a w h => by cases d <;> exact h) cF [8] [[]] [(5, .bool (decide (m ∈ gL g.mv (x))))] #[true, true, true, true, true, true, true, true, true] [] 0 cZ (by kernel_rfl) trivial (fun eW dS => ?_)
  clear cZ
  refine AtH.done (by kernel_rfl) ?_
  clear cF
  refine t_n ?_
  refine wp_ret ?_
  refine t_r ?_
  refine ret_ dS [[.int .i64 (m), .int .i64 (y)]] [.agg #[.int .i64 (m), .int .i64 (y)], .bool (decide (m ∈ gL g.mv (x)))] [(cE.cell? ⟨w1.heap.size, 0, none⟩ = some (.int .i64 (m))), (cE.cell? ⟨w1.heap.size, 1, none⟩ = some (.int .i64 (y)))] (by kernel_rfl) ⟨(bQ.cell (i := 0) rfl), (bQ.cell (i := 1) rfl), trivial⟩ ?_
  exact ⟨by rw [nxt_own (m := m) (by omega) hm]; rfl, aS⟩
 have eX := ne_of_beq_false bY
 refine wp_skip ?_
 refine t_n ?_
 refine wp_seq ?_
 obtain ⟨bR, dT, _, _, dU⟩ := RdI.get aC (y) (by omega) (by omega)
 refine drawn_ro bE (by kernel_rfl) (by kernel_rfl) [[], [], [], [.ld (.slice As ls.length cs)], [], [.ld (.int .i64 (y))], [.ad bR], [.ld (.int .i64 (gI ls (y)))], [], [], [], []] [(8, .int .i64 ((gI ls (y) : Int).tmod (((gL g.mv (x)).length : Nat) : Int))), (65, .int .i64 ((gI ls (y) : Int).tmod (((gL g.mv (x)).length : Nat) : Int))), (64, .int .i64 ((((gL g.mv (x)).length : Nat) : Int))), (63, .slice aD ((gL g.mv (x)).length) aG), (62, .int .i64 (gI ls (y))), (61, .pointer (some (bR.add ((y : Int).toNat * 1)))), (60, .int .i64 (y)), (59, .pointer (some ⟨w.heap.size, 1, none⟩)), (58, .slice As ls.length cs), (57, .pointer (some ⟨b, 5, none⟩)), (56, .pointer (some ⟨b, 0, none⟩)), (55, .pointer (some ⟨b, 0, none⟩))] [(aX.cell? ⟨b, 5, none⟩ = some (.slice As ls.length cs)), (aX.cell? ⟨w.heap.size, 1, none⟩ = some (.int .i64 (y))), (As = some bR), (0 ≤ (y : Int)), ((y : Int) < (ls.length : Nat)), (aX.cell? (bR.add ((y : Int).toNat * 1)) = some (.int .i64 (gI ls (y)))), (((((gL g.mv (x)).length : Nat) : Int) : Int) ≠ 0)] (by kernel_rfl) ⟨(bx8.cell (i := 5) rfl), (aA.cell (i := 1) rfl), dT, (by omega), (by omega), dU, (by omega), trivial⟩ (fun eY dV dA cG => ?_)
 clear bE; have aP := gr_drew dA; have := aP.size; replace e0 := e0.gn aP; replace bx8 := bx8.gn aP; replace r9 := r9.gn aP; replace aB := aB.gn aP; replace aC := aC.gn aP; replace aA := aA.gn aP; replace aE := aE.gn aP; replace aF := aF.gn aP; clear aP dA
 refine t_n ?_
 refine wp_seq (cut (fun a_ w_ => ∃ (k : Int), (Frm 86 a_ [(8, .int .i64 (k)), (6, .slice aD ((gL g.mv (x)).length) aG), (4, .pointer (some ⟨w1.heap.size, 0, none⟩)), (3, .pointer (some ⟨w.heap.size, 0, none⟩)), (0, .pointer (some ⟨b, 0, none⟩))]) ∧ (Ext w w_) ∧ (Bx w_ (b) [.slice Ag0 g.ow.length cg0, .slice Ag1 g.pr.length cg1, .slice Ag2 g.mv.length cg2, .int .i64 (p), .slice Am lm.length cm, .slice As ls.length cs] 71) ∧ (RdG w_ 0 w.heap.size Ag0 Ag1 Ag2 cg0 cg1 cg2 g) ∧ (RdI w_ 0 w.heap.size Am lm) ∧ (RdI w_ 0 w.heap.size As ls) ∧ (Bx w_ (w.heap.size) [.int .i64 (x), .int .i64 (y)] 74) ∧ (Bx w_ (w1.heap.size) [.int .i64 (0), .int .i64 (0)] 74) ∧ (RdI w_ 0 w.heap.size aD (gL g.mv (x))) ∧ (k = if Int.tmod (gI ls y) ((gL g.mv x).length : Int) < 0 then Int.tmod (gI ls y) ((gL g.mv x).length : Int) + ((gL g.mv x).length : Int) else Int.tmod (gI ls y) ((gL g.mv x).length : Int)) ∧ (0 ≤ k) ∧ (k < ((gL g.mv x).length : Int)) ∧ (dV.heap.size ≤ w_.heap.size)) ?_ ?_)
 ·refine wp_seq ?_
  have ht1 := Int.lt_tmod_of_pos (gI ls y) (show 0 < ((gL g.mv x).length : Int) by omega); have ht2 := Int.tmod_lt_of_pos (gI ls y) (show 0 < ((gL g.mv x).length : Int) by omega)
  refine At.start ?_
  refine At.rd cG 2 [[], []] [(67, .bool (decide (((gI ls (y) : Int).tmod (((gL g.mv (x)).length : Nat) : Int) : Int) < 0))), (66, .int .i64 ((gI ls (y) : Int).tmod (((gL g.mv (x)).length : Nat) : Int)))] [] (by kernel_rfl) trivial (fun eZ bS => ?_)
  clear cG
  refine At.done rfl ?_
  refine t_n ?_
  refine cond_S bS (t := decide (((gI ls (y) : Int).tmod (((gL g.mv (x)).length : Nat) : Int) : Int) < 0)) rfl (fun cH => ?_) (fun cH => ?_)
  ·have fA := of_decide_eq_true cH
   refine At.start ?_
   refine At.rd bS 5 [[], [], [], [.as_ (.int .i64 (((gI ls (y) : Int).tmod (((gL g.mv (x)).length : Nat) : Int)) + (((gL g.mv (x)).length : Nat) : Int)))], []] [(8, .int .i64 (((gI ls (y) : Int).tmod (((gL g.mv (x)).length : Nat) : Int)) + (((gL g.mv (x)).length : Nat) : Int))), (71, .int .i64 (((gI ls (y) : Int).tmod (((gL g.mv (x)).length : Nat) : Int)) + (((gL g.mv (x)).length : Nat) : Int))), (70, .int .i64 ((((gL g.mv (x)).length : Nat) : Int))), (69, .slice aD ((gL g.mv (x)).length) aG), (68, .int .i64 ((gI ls (y) : Int).tmod (((gL g.mv (x)).length : Nat) : Int)))] [((.int .i64 (IntKind.i64.wrap (((gI ls (y) : Int).tmod (((gL g.mv (x)).length : Nat) : Int)) + (((gL g.mv (x)).length : Nat) : Int))) : Value) = .int .i64 (((gI ls (y) : Int).tmod (((gL g.mv (x)).length : Nat) : Int)) + (((gL g.mv (x)).length : Nat) : Int)))] (by kernel_rfl) ⟨(w64 (by omega) (by omega)), trivial⟩ (fun fB dW => ?_)
   clear bS
   refine At.done rfl ?_
   refine t_n ?_
   have dX := dW.sub (r := [(8, .int .i64 (((gI ls (y) : Int).tmod (((gL g.mv (x)).length : Nat) : Int)) + (((gL g.mv (x)).length : Nat) : Int))), (6, .slice aD ((gL g.mv (x)).length) aG), (4, .pointer (some ⟨w1.heap.size, 0, none⟩)), (3, .pointer (some ⟨w.heap.size, 0, none⟩)), (0, .pointer (some ⟨b, 0, none⟩))]) ⟨rfl, rfl, rfl, rfl, rfl, trivial⟩
   exact ⟨((gI ls (y) : Int).tmod (((gL g.mv (x)).length : Nat) : Int)) + (((gL g.mv (x)).length : Nat) : Int), dX, e0, bx8, r9, aB, aC, aA, aE, aF, (by first | rw [if_pos (by omega)] | rw [if_neg (by omega)]), (by omega), (by omega), (by omega)⟩
  have fC := of_decide_eq_false cH
  refine wp_skip ?_
  refine t_n ?_
  have dY := bS.sub (r := [(8, .int .i64 ((gI ls (y) : Int).tmod (((gL g.mv (x)).length : Nat) : Int))), (6, .slice aD ((gL g.mv (x)).length) aG), (4, .pointer (some ⟨w1.heap.size, 0, none⟩)), (3, .pointer (some ⟨w.heap.size, 0, none⟩)), (0, .pointer (some ⟨b, 0, none⟩))]) ⟨rfl, rfl, rfl, rfl, rfl, trivial⟩
  exact ⟨(gI ls (y) : Int).tmod (((gL g.mv (x)).length : Nat) : Int), dY, e0, bx8, r9, aB, aC, aA, aE, aF, (by first | rw [if_pos (by omega)] | rw [if_neg (by omega)]), (by omega), (by omega), (by omega)⟩
 clear bx8; clear r9; clear aB; clear aC; clear aA; clear aE; clear aF; clear cG e0
 intro fD dZ ⟨k, dB, bB, bC, bT, bU, bV, bD, bF, bG, hk, i199, i200, i201⟩
 have := bB.size; have := bC.lt; have := bD.lt; have := bF.lt
 refine wp_seq ?_
 obtain ⟨bH, eA, _, _, eB⟩ := RdI.get bG (k) (by omega) (by omega)
 obtain ⟨bI, bJ⟩ : ∃ c : List (Addr × Value), c = [((bH.add ((k : Int).toNat * 1)), (.int .i64 (gI (gL g.mv (x)) (k)))), (⟨w.heap.size, 1, none⟩, (.int .i64 (y))), (⟨b, 5, none⟩, (.slice As ls.length cs))] := ⟨_, rfl⟩
 have dC : HoldsC bI dZ := by rw [bJ]; exact ⟨eB, (bD.cell (i := 1) rfl), (bC.cell (i := 5) rfl), trivial⟩
 refine AtH.start bI 16 #[false, false, false, false, false, false, false, false, false, false, false, false, false, false, false, false] (by kernel_rfl) rfl rfl (fun fE dD => ?_)
 have aJ := gr_drew dD; have dE := dC.gr aJ; have := aJ.size; replace bB := bB.gn aJ; replace bC := bC.gn aJ; replace bT := bT.gn aJ; replace bU := bU.gn aJ; replace bV := bV.gn aJ; replace bD := bD.gn aJ; replace bF := bF.gn aJ; replace bG := bG.gn aJ; clear aJ dD dC
 refine AtH.rd (by kernel_rfl) (fun d v c a w h => by cases d <;> exact h) dE [0, 1, 2, 3, 4, 5, 6, 7, 8, 9, 10, 11, 12, 13] [[], [], [.ad bH], [.ld (.int .i64 (gI (gL g.mv (x)) (k)))], [], [.ld (.int .i64 (y))], [.as_ (.int .i64 (y + 1))], [], [], [], [.ld (.slice As ls.length cs)], [], [.as_ (.int .i64 ((y + 1 : Int) % ((ls.length : Nat) : Int)))], []] [(85, .agg #[.int .i64 (gI (gL g.mv (x)) (k)), .int .i64 ((y + 1 : Int) % ((ls.length : Nat) : Int))]), (84, .int .i64 ((y + 1 : Int) % ((ls.length : Nat) : Int))), (83, .int .i64 (((ls.length : Nat) : Int))), (82, .slice As ls.length cs), (81, .pointer (some ⟨b, 5, none⟩)), (80, .pointer (some ⟨b, 0, none⟩)), (79, .pointer (some ⟨b, 0, none⟩)), (78, .int .i64 (y + 1)), (77, .int .i64 (y)), (76, .pointer (some ⟨w.heap.size, 1, none⟩)), (75, .int .i64 (gI (gL g.mv (x)) (k))), (74, .pointer (some (bH.add ((k : Int).toNat * 1)))), (73, .int .i64 (k)), (72, .slice aD ((gL g.mv (x)).length) aG)] #[true, true, true, true, true, true, true, true, true, true, true, true, true, true, false, false] [(aD = some bH), (0 ≤ (k : Int)), ((k : Int) < ((gL g.mv (x)).length : Nat)), (∃ j_ : Nat, bI[j_]? = some ((bH.add ((k : Int).toNat * 1)), (.int .i64 (gI (gL g.mv (x)) (k))))), (∃ j_ : Nat, bI[j_]? = some (⟨w.heap.size, 1, none⟩, (.int .i64 (y)))), ((.int .i64 (IntKind.i64.wrap (y + 1)) : Value) = .int .i64 (y + 1)), (∃ j_ : Nat, bI[j_]? = some (⟨b, 5, none⟩, (.slice As ls.length cs))), ((((ls.length : Nat) : Int) : Int) ≠ 0), ((.int .i64 ((y + 1 : Int).tmod ((ls.length : Nat) : Int)) : Value) = .int .i64 ((y + 1 : Int) % ((ls.length : Nat) : Int)))] 2 dB (by kernel_rfl) ⟨eA, (by omega), (by omega), ⟨0, by rw [bJ]; rfl⟩, ⟨1, by rw [bJ]; rfl⟩, (w64 (by omega) (by omega)), ⟨2, by rw [bJ]; rfl⟩, (by omega), (congrArg (Value.int .i64) (Int.tmod_eq_emod_of_nonneg (by omega))), trivial⟩ (fun fF dF => ?_)
 clear dB
 refine AtH.all [14] 1 (by kernel_rfl) (by simp) ⟨?_, trivial⟩
 refine OneH.store dF (t := 74) (b := w1.heap.size) (off := 0) (v := .agg #[.int .i64 (gI (gL g.mv (x)) (k)), .int .i64 ((y + 1 : Int) % ((ls.length : Nat) : Int))]) #[true, true, true, true, true, true, true, true, true, true, true, true, true, true, true, false] (by kernel_rfl) (by kernel_rfl) bF (by kernel_rfl) (fun fG cI aQ bW dG => ?_)
 clear dF; replace bW : Bx cI (w1.heap.size) [.int .i64 (gI (gL g.mv (x)) (k)), .int .i64 ((y + 1 : Int) % ((ls.length : Nat) : Int))] 74 := bW; have cJ := dE.gr' aQ (by rw [bJ]; exact ⟨(by simp only [add_block]; omega), (by simp only [add_block]; omega), (by simp only [add_block]; omega), trivial⟩); have := aQ.size; replace bB := bB.gr aQ (fun k h => by injection h; omega)
 replace bC := bC.gb aQ (by omega); replace bT := bT.gb aQ (by omega); replace bU := bU.gb aQ (by omega); replace bV := bV.gb aQ (by omega); replace bD := bD.gb aQ (by omega); replace bG := bG.gb aQ (by omega); clear bF aQ
 refine ⟨cJ, ?_⟩
 refine AtH.rd (by kernel_rfl) (fun d v c a w h => by cases d <;> exact h) cJ [15] [[]] [(5, .bool true)] #[true, true, true, true, true, true, true, true, true, true, true, true, true, true, true, true] [] 0 dG (by kernel_rfl) trivial (fun fH dH => ?_)
 clear dG
 refine AtH.done (by kernel_rfl) ?_
 clear cJ
 refine t_n ?_
 have eC := dH.sub (r := [(5, .bool true), (4, .pointer (some ⟨w1.heap.size, 0, none⟩))]) ⟨rfl, rfl, trivial⟩; clear dH
 refine wp_ret ?_
 refine ret_ eC [[.int .i64 (gI (gL g.mv (x)) (k)), .int .i64 ((y + 1 : Int) % ((ls.length : Nat) : Int))]] [.agg #[.int .i64 (gI (gL g.mv (x)) (k)), .int .i64 ((y + 1 : Int) % ((ls.length : Nat) : Int))], .bool true] [(cI.cell? ⟨w1.heap.size, 0, none⟩ = some (.int .i64 (gI (gL g.mv (x)) (k)))), (cI.cell? ⟨w1.heap.size, 1, none⟩ = some (.int .i64 ((y + 1 : Int) % ((ls.length : Nat) : Int))))] (by kernel_rfl) ⟨(bW.cell (i := 0) rfl), (bW.cell (i := 1) rfl), trivial⟩ ?_
 exact ⟨by rw [nxt_oth (k := k) (by omega) hk]; rfl, bB⟩

end Go.Proofs.Ytklbpajmoklheaa
