/-
  A walk of a Go function, printed by a program of this repo. Conditions: what the theorems name.
-/
import Derived.Test.YtklbpajmoklheaaLem
import Derived.Test.YtklbpajmoklheaaWSame
import Derived.Test.YtklbpajmoklheaaFy
set_option linter.unusedVariables false
set_option linter.unusedSimpArgs false
namespace Go.Proofs.Ytklbpajmoklheaa
open Go Go.RowKit

set_option maxHeartbeats 4000000 in
theorem same_any {Aa0 Aa1 Aa2 : Option Addr} {ca0 ca1 ca2 : Nat} {a : GameL} {Ab0 Ab1 Ab2 : Option Addr} {cb0 cb1 cb2 : Nat} {b : GameL} {w : World} (ra : RdG w 0 w.heap.size Aa0 Aa1 Aa2 ca0 ca1 ca2 a) (rb : RdG w 0 w.heap.size Ab0 Ab1 Ab2 cb0 cb1 cb2 b) :
    Calls Try.prog 19 #[.agg #[.slice Aa0 a.ow.length ca0, .slice Aa1 a.pr.length ca1, .slice Aa2 a.mv.length ca2], .agg #[.slice Ab0 b.ow.length cb0, .slice Ab1 b.pr.length cb1, .slice Ab2 b.mv.length cb2]] w fun e w' => e = .returned (.bool (decide (a = b))) ∧ Ext w w' := by
 have hla0 := ra.ow.len; have hla1 := ra.pr.len; have hla2 := ra.mv.len; have hka0 := ra.k0; have hka1 := ra.k1; have hka2 := ra.k2; have hlb0 := rb.ow.len; have hlb1 := rb.pr.len; have hlb2 := rb.mv.len; have hkb0 := rb.k0; have hkb1 := rb.k1; have hkb2 := rb.k2
 refine enter_ (args := [.agg #[.slice Aa0 a.ow.length ca0, .slice Aa1 a.pr.length ca1, .slice Aa2 a.mv.length ca2], .agg #[.slice Ab0 b.ow.length cb0, .slice Ab1 b.pr.length cb1, .slice Ab2 b.mv.length cb2]]) Try.func19 rfl Try.ntmps19 (Nat.le_of_ble_eq_true rfl) (fun act0 f0 => ?_)
 have e0 : Ext w w := Ext.refl w
 refine wp_seq ?_
 refine At.start ?_
 refine At.seq f0 1 [[]] [(2, .pointer (some ⟨w.heap.size, 0, none⟩))] (w.alloc (.cells #[.slice Aa0 a.ow.length ca0, .slice Aa1 a.pr.length ca1, .slice Aa2 a.mv.length ca2] 25 (0, 0))) [] (by kernel_rfl) trivial (fun act4 w1 hw2 f3 => ?_)
 clear f0; have g5 := gr_alloc hw2; have := g5.size; replace e0 := e0.gn g5; have r8 := ra.gn g5; clear ra; have r9 := rb.gn g5; clear rb; have aA : Bx w1 (w.heap.size) [.slice Aa0 a.ow.length ca0, .slice Aa1 a.pr.length ca1, .slice Aa2 a.mv.length ca2] 25 := Bx.new hw2; have := aA.lt; clear g5 hw2
 refine At.seq f3 1 [[]] [(3, .pointer (some ⟨w1.heap.size, 0, none⟩))] (w1.alloc (.cells #[.slice Ab0 b.ow.length cb0, .slice Ab1 b.pr.length cb1, .slice Ab2 b.mv.length cb2] 25 (0, 0))) [] (by kernel_rfl) trivial (fun cY bD bE bK => ?_)
 clear f3; have aM := gr_alloc bE; have := aM.size; replace e0 := e0.gn aM; replace r8 := r8.gn aM; replace r9 := r9.gn aM; replace aA := aA.gn aM; have aB : Bx bD (w1.heap.size) [.slice Ab0 b.ow.length cb0, .slice Ab1 b.pr.length cb1, .slice Ab2 b.mv.length cb2] 25 := Bx.new bE; have := aB.lt; clear aM bE
 refine At.rd bK 1 [[]] [(4, .bool false)] [] (by kernel_rfl) trivial (fun cZ bL => ?_)
 clear bK
 refine At.done rfl ?_
 refine t_n ?_
 refine wp_seq ?_
 refine At.start ?_
 refine At.rd bL 4 [[], [.ld (.slice Aa0 a.ow.length ca0)], [], [.ld (.slice Ab0 b.ow.length cb0)]] [(12, .slice Ab0 b.ow.length cb0), (11, .pointer (some ⟨w1.heap.size, 0, none⟩)), (10, .slice Aa0 a.ow.length ca0), (9, .pointer (some ⟨w.heap.size, 0, none⟩))] [(bD.cell? ⟨w.heap.size, 0, none⟩ = some (.slice Aa0 a.ow.length ca0)), (bD.cell? ⟨w1.heap.size, 0, none⟩ = some (.slice Ab0 b.ow.length cb0))] (by kernel_rfl) ⟨(aA.cell (i := 0) rfl), (aB.cell (i := 0) rfl), trivial⟩ (fun dA bM => ?_)
 clear bL
 refine At.call bM 20 #[.slice Aa0 a.ow.length ca0, .slice Ab0 b.ow.length cb0] (some 13) (by kernel_rfl) (sameInts_any (la := a.ow) (lb := b.ow) (r8.ow.wide (Nat.zero_le _) (by omega)) (r9.ow.wide (Nat.zero_le _) (by omega))) ?_
 rintro e_ bN ⟨rfl, he⟩
 refine ⟨_, rfl, _, rfl, fun dB bO => ?_⟩
 clear bM; have aI := gr_ext he; have := aI.size; replace e0 := e0.gn aI; replace r8 := r8.gn aI; replace r9 := r9.gn aI; replace aA := aA.gn aI; replace aB := aB.gn aI; clear aI he
 refine At.rd bO 1 [[]] [(5, .bool (decide (a.ow = b.ow)))] [] (by kernel_rfl) trivial (fun dC bP => ?_)
 clear bO
 refine At.done rfl ?_
 refine t_n ?_
 refine wp_seq ?_
 refine At.start ?_
 refine At.rd bP 4 [[], [.ld (.slice Aa1 a.pr.length ca1)], [], [.ld (.slice Ab1 b.pr.length cb1)]] [(17, .slice Ab1 b.pr.length cb1), (16, .pointer (some ⟨w1.heap.size, 1, none⟩)), (15, .slice Aa1 a.pr.length ca1), (14, .pointer (some ⟨w.heap.size, 1, none⟩))] [(bN.cell? ⟨w.heap.size, 1, none⟩ = some (.slice Aa1 a.pr.length ca1)), (bN.cell? ⟨w1.heap.size, 1, none⟩ = some (.slice Ab1 b.pr.length cb1))] (by kernel_rfl) ⟨(aA.cell (i := 1) rfl), (aB.cell (i := 1) rfl), trivial⟩ (fun dD bQ => ?_)
 clear bP
 refine At.call bQ 20 #[.slice Aa1 a.pr.length ca1, .slice Ab1 b.pr.length cb1] (some 18) (by kernel_rfl) (sameInts_any (la := a.pr) (lb := b.pr) (r8.pr.wide (Nat.zero_le _) (by omega)) (r9.pr.wide (Nat.zero_le _) (by omega))) ?_
 rintro e_ bR ⟨rfl, he⟩
 refine ⟨_, rfl, _, rfl, fun dE bS => ?_⟩
 clear bQ; have aJ := gr_ext he; have := aJ.size; replace e0 := e0.gn aJ; replace r8 := r8.gn aJ; replace r9 := r9.gn aJ; replace aA := aA.gn aJ; replace aB := aB.gn aJ; clear aJ he
 refine At.rd bS 1 [[]] [(6, .bool (decide (a.pr = b.pr)))] [] (by kernel_rfl) trivial (fun dF aN => ?_)
 clear bS
 refine At.done rfl ?_
 refine t_n ?_
 refine wp_seq ?_
 refine wp_seq ?_
 refine At.start ?_
 rcases Bool.eq_false_or_eq_true (!(decide (a.ow = b.ow))) with aC | aC
 ·have cH : (decide (a.ow = b.ow)) = false := by first | exact Eq.mp (Bool.not_eq_true' _) aC | exact Eq.mp (Bool.not_eq_false' _) aC | simpa using aC
  have dG := of_decide_eq_false cH
  refine At.rd aN 15 [[], [], [.as_ (.bool true)], [], [], [], [], [], [], [], [], [], [], [], []] [(33, .bool true), (32, undef), (31, undef), (30, undef), (29, undef), (28, undef), (27, undef), (26, undef), (25, .bool true), (24, .bool true), (23, undef), (22, undef), (21, .bool true), (20, .bool (!(decide (a.ow = b.ow)))), (19, .bool (decide (a.ow = b.ow)))] [((.bool (!(decide (a.ow = b.ow))) : Value) = .bool true)] (by kernel_rfl) ⟨(congrArg Value.bool aC), trivial⟩ (fun dH bT => ?_)
  clear aN
  refine At.done rfl ?_
  refine t_n ?_
  have bF := bT.sub (r := [(33, .bool true), (4, .bool false), (3, .pointer (some ⟨w1.heap.size, 0, none⟩)), (2, .pointer (some ⟨w.heap.size, 0, none⟩))]) ⟨rfl, rfl, rfl, rfl, trivial⟩
  clear bT
  refine cond_T bF rfl ?_
  refine wp_seq ?_
  refine At.start ?_
  refine At.rd bF 1 [[]] [(4, .bool false)] [] (by kernel_rfl) trivial (fun dI cI => ?_)
  clear bF
  refine At.done rfl ?_
  refine t_n ?_
  refine wp_ret ?_
  refine t_r ?_
  refine ret_ cI [] [.bool false] [] (by kernel_rfl) trivial ?_
  exact ⟨ret_eq (congrArg Value.bool (by first | exact game_ne0 (by assumption) | exact game_ne1 (by assumption) | exact game_ne2 (by assumption) | exact game_ne3 (by assumption) | exact game_eq (by assumption) (by assumption) (by assumption) (by assumption) (by omega))), e0⟩
 have cJ : (decide (a.ow = b.ow)) = true := by first | exact Eq.mp (Bool.not_eq_true' _) aC | exact Eq.mp (Bool.not_eq_false' _) aC | simpa using aC
 have dJ := of_decide_eq_true cJ
 rcases Bool.eq_false_or_eq_true (!(decide (a.pr = b.pr))) with aF | aF
 ·have cK : (decide (a.pr = b.pr)) = false := by first | exact Eq.mp (Bool.not_eq_true' _) aF | exact Eq.mp (Bool.not_eq_false' _) aF | simpa using aF
  have dK := of_decide_eq_false cK
  refine At.rd aN 15 [[], [], [.as_ (.bool false)], [], [], [], [.as_ (.bool true)], [], [], [], [], [], [], [], []] [(33, .bool true), (32, undef), (31, undef), (30, undef), (29, undef), (28, undef), (27, undef), (26, undef), (25, .bool true), (24, .bool (!(decide (a.pr = b.pr)))), (23, .bool (!(decide (a.pr = b.pr)))), (22, .bool (decide (a.pr = b.pr))), (21, .bool false), (20, .bool (!(decide (a.ow = b.ow)))), (19, .bool (decide (a.ow = b.ow)))] [((.bool (!(decide (a.ow = b.ow))) : Value) = .bool false), ((.bool (!(decide (a.pr = b.pr))) : Value) = .bool true)] (by kernel_rfl) ⟨(congrArg Value.bool aC), (congrArg Value.bool aF), trivial⟩ (fun dL bU => ?_)
  clear aN
  refine At.done rfl ?_
  refine t_n ?_
  have bG := bU.sub (r := [(33, .bool true), (4, .bool false), (3, .pointer (some ⟨w1.heap.size, 0, none⟩)), (2, .pointer (some ⟨w.heap.size, 0, none⟩))]) ⟨rfl, rfl, rfl, rfl, trivial⟩
  clear bU
  refine cond_T bG rfl ?_
  refine wp_seq ?_
  refine At.start ?_
  refine At.rd bG 1 [[]] [(4, .bool false)] [] (by kernel_rfl) trivial (fun dM cL => ?_)
  clear bG
  refine At.done rfl ?_
  refine t_n ?_
  refine wp_ret ?_
  refine t_r ?_
  refine ret_ cL [] [.bool false] [] (by kernel_rfl) trivial ?_
  exact ⟨ret_eq (congrArg Value.bool (by first | exact game_ne0 (by assumption) | exact game_ne1 (by assumption) | exact game_ne2 (by assumption) | exact game_ne3 (by assumption) | exact game_eq (by assumption) (by assumption) (by assumption) (by assumption) (by omega))), e0⟩
 have cM : (decide (a.pr = b.pr)) = true := by first | exact Eq.mp (Bool.not_eq_true' _) aF | exact Eq.mp (Bool.not_eq_false' _) aF | simpa using aF
 have dN := of_decide_eq_true cM
 refine At.rd aN 15 [[], [], [.as_ (.bool false)], [], [], [], [.as_ (.bool false)], [], [.ld (.slice Aa2 a.mv.length ca2)], [], [], [.ld (.slice Ab2 b.mv.length cb2)], [], [], []] [(33, .bool ((((a.mv.length : Nat) : Int) : Int) != ((b.mv.length : Nat) : Int))), (32, .bool ((((a.mv.length : Nat) : Int) : Int) != ((b.mv.length : Nat) : Int))), (31, .int .i64 (((b.mv.length : Nat) : Int))), (30, .slice Ab2 b.mv.length cb2), (29, .pointer (some ⟨w1.heap.size, 2, none⟩)), (28, .int .i64 (((a.mv.length : Nat) : Int))), (27, .slice Aa2 a.mv.length ca2), (26, .pointer (some ⟨w.heap.size, 2, none⟩)), (25, .bool false), (24, .bool (!(decide (a.pr = b.pr)))), (23, .bool (!(decide (a.pr = b.pr)))), (22, .bool (decide (a.pr = b.pr))), (21, .bool false), (20, .bool (!(decide (a.ow = b.ow)))), (19, .bool (decide (a.ow = b.ow)))] [((.bool (!(decide (a.ow = b.ow))) : Value) = .bool false), ((.bool (!(decide (a.pr = b.pr))) : Value) = .bool false), (bR.cell? ⟨w.heap.size, 2, none⟩ = some (.slice Aa2 a.mv.length ca2)), (bR.cell? ⟨w1.heap.size, 2, none⟩ = some (.slice Ab2 b.mv.length cb2))] (by kernel_rfl) ⟨(congrArg Value.bool aC), (congrArg Value.bool aF), (aA.cell (i := 2) rfl), (aB.cell (i := 2) rfl), trivial⟩ (fun dO bV => ?_)
 clear aN
 refine At.done rfl ?_
 refine t_n ?_
 have aT := bV.sub (r := [(33, .bool ((((a.mv.length : Nat) : Int) : Int) != ((b.mv.length : Nat) : Int))), (4, .bool false), (3, .pointer (some ⟨w1.heap.size, 0, none⟩)), (2, .pointer (some ⟨w.heap.size, 0, none⟩))]) ⟨rfl, rfl, rfl, rfl, trivial⟩
 clear bV
 refine cond_S aT (t := (((a.mv.length : Nat) : Int) : Int) != ((b.mv.length : Nat) : Int)) rfl (fun bH => ?_) (fun bH => ?_)
 ·have dP := bne_iff_ne.1 bH
  refine wp_seq ?_
  refine At.start ?_
  refine At.rd aT 1 [[]] [(4, .bool false)] [] (by kernel_rfl) trivial (fun dQ cN => ?_)
  clear aT
  refine At.done rfl ?_
  refine t_n ?_
  refine wp_ret ?_
  refine t_r ?_
  refine ret_ cN [] [.bool false] [] (by kernel_rfl) trivial ?_
  exact ⟨ret_eq (congrArg Value.bool (by first | exact game_ne0 (by assumption) | exact game_ne1 (by assumption) | exact game_ne2 (by assumption) | exact game_ne3 (by assumption) | exact game_eq (by assumption) (by assumption) (by assumption) (by assumption) (by omega))), e0⟩
 have dR := bne_eq_false_iff_eq.1 bH
 refine wp_skip ?_
 refine t_n ?_
 refine wp_seq ?_
 refine wp_seq ?_
 refine At.start ?_
 refine At.rd aT 1 [[]] [(7, .int .i64 (0))] [] (by kernel_rfl) trivial (fun dS bW => ?_)
 clear aT
 refine At.done rfl ?_
 refine t_n ?_
 refine wp_block ?_
 have bX := bW.sub (r := [(7, .int .i64 (0)), (3, .pointer (some ⟨w1.heap.size, 0, none⟩)), (2, .pointer (some ⟨w.heap.size, 0, none⟩))]) ⟨rfl, rfl, rfl, trivial⟩
 refine loop_g (fun (m_ : Nat) a_ w_ => ∃ (k : Int), m_ = ((a.mv.length : Int) - k).toNat ∧ (Frm 54 a_ [(7, .int .i64 (k)), (3, .pointer (some ⟨w1.heap.size, 0, none⟩)), (2, .pointer (some ⟨w.heap.size, 0, none⟩))]) ∧ (Ext w w_) ∧ (RdG w_ 0 w.heap.size Aa0 Aa1 Aa2 ca0 ca1 ca2 a) ∧ (RdG w_ 0 w.heap.size Ab0 Ab1 Ab2 cb0 cb1 cb2 b) ∧ (Bx w_ (w.heap.size) [.slice Aa0 a.ow.length ca0, .slice Aa1 a.pr.length ca1, .slice Aa2 a.mv.length ca2] 25) ∧ (Bx w_ (w1.heap.size) [.slice Ab0 b.ow.length cb0, .slice Ab1 b.pr.length cb1, .slice Ab2 b.mv.length cb2] 25) ∧ (0 ≤ k) ∧ (k ≤ (a.mv.length : Int)) ∧ (a.mv.take k.toNat = b.mv.take k.toNat)) _ ⟨0, rfl, bX, e0, r8, r9, aA, aB, (by omega), (by omega), rfl⟩ ?_
 clear bX bW; clear r8; clear r9; clear aA; clear aB; clear e0
 intro m_ dT bY ⟨k, hm84, bZ, aG, aO, aP, aH, aK, i90, i91, i92⟩
 have := aG.size; have := aH.lt; have := aK.lt
 refine wp_seq ?_
 refine wp_seq ?_
 refine At.start ?_
 refine At.rd bZ 5 [[], [], [.ld (.slice Aa2 a.mv.length ca2)], [], []] [(38, .bool (decide ((k : Int) < ((a.mv.length : Nat) : Int)))), (37, .int .i64 (((a.mv.length : Nat) : Int))), (36, .slice Aa2 a.mv.length ca2), (35, .pointer (some ⟨w.heap.size, 2, none⟩)), (34, .int .i64 (k))] [(bY.cell? ⟨w.heap.size, 2, none⟩ = some (.slice Aa2 a.mv.length ca2))] (by kernel_rfl) ⟨(aH.cell (i := 2) rfl), trivial⟩ (fun dU aU => ?_)
 clear bZ
 refine At.done rfl ?_
 refine t_n ?_
 refine cond_S aU (t := decide ((k : Int) < ((a.mv.length : Nat) : Int))) rfl (fun bI => ?_) (fun bI => ?_)
 ·have dV := of_decide_eq_true bI
  refine wp_skip ?_
  refine t_n ?_
  refine wp_seq ?_
  refine wp_block ?_
  refine wp_seq ?_
  obtain ⟨aV, aW, aX, cO, _, _, cP, dW, aQ⟩ := RdII.get aO.mv (k) (by omega) (by omega)
  have dX := aQ.len
  obtain ⟨aY, aZ, bA, cQ, _, _, cR, dY, aR⟩ := RdII.get aP.mv (k) (by omega) (by omega)
  have dZ := aR.len
  obtain ⟨aS, bB⟩ : ∃ c : List (Addr × Value), c = [(⟨w.heap.size, 2, none⟩, (.slice Aa2 a.mv.length ca2)), ((aV.add ((k : Int).toNat * 1)), (.slice aW ((gL a.mv (k)).length) aX)), (⟨w1.heap.size, 2, none⟩, (.slice Ab2 b.mv.length cb2)), ((aY.add ((k : Int).toNat * 1)), (.slice aZ ((gL b.mv (k)).length) bA))] := ⟨_, rfl⟩
  have cA : HoldsC aS bY := by rw [bB]; exact ⟨(aH.cell (i := 2) rfl), cP, (aK.cell (i := 2) rfl), cR, trivial⟩
  refine AtH.start aS 12 #[false, false, false, false, false, false, false, false, false, false, false, false] (by kernel_rfl) rfl rfl (fun eA cB => ?_)
  have aD := gr_drew cB; have cC := cA.gr aD; have := aD.size; replace aG := aG.gn aD; replace aO := aO.gn aD; replace aP := aP.gn aD; replace aH := aH.gn aD; replace aK := aK.gn aD; replace aQ := aQ.gn aD; replace aR := aR.gn aD; clear aD cB cA
  refine AtH.rd (by kernel_rfl) (fun d v c a w h => by cases d <;> exact h) cC [0, 1, 2, 3, 4, 5, 6, 7, 8, 9] [[], [.ld (.slice Aa2 a.mv.length ca2)], [], [.ad aV], [.ld (.slice aW ((gL a.mv (k)).length) aX)], [], [.ld (.slice Ab2 b.mv.length cb2)], [], [.ad aY], [.ld (.slice aZ ((gL b.mv (k)).length) bA)]] [(50, .slice aZ ((gL b.mv (k)).length) bA), (49, .pointer (some (aY.add ((k : Int).toNat * 1)))), (48, .int .i64 (k)), (47, .slice Ab2 b.mv.length cb2), (46, .pointer (some ⟨w1.heap.size, 2, none⟩)), (45, .slice aW ((gL a.mv (k)).length) aX), (44, .pointer (some (aV.add ((k : Int).toNat * 1)))), (43, .int .i64 (k)), (42, .slice Aa2 a.mv.length ca2), (41, .pointer (some ⟨w.heap.size, 2, none⟩))] #[true, true, true, true, true, true, true, true, true, true, false, false] [(∃ j_ : Nat, aS[j_]? = some (⟨w.heap.size, 2, none⟩, (.slice Aa2 a.mv.length ca2))), (Aa2 = some aV), (0 ≤ (k : Int)), ((k : Int) < (a.mv.length : Nat)), (∃ j_ : Nat, aS[j_]? = some ((aV.add ((k : Int).toNat * 1)), (.slice aW ((gL a.mv (k)).length) aX))), (∃ j_ : Nat, aS[j_]? = some (⟨w1.heap.size, 2, none⟩, (.slice Ab2 b.mv.length cb2))), (Ab2 = some aY), (0 ≤ (k : Int)), ((k : Int) < (b.mv.length : Nat)), (∃ j_ : Nat, aS[j_]? = some ((aY.add ((k : Int).toNat * 1)), (.slice aZ ((gL b.mv (k)).length) bA)))] 2 aU (by kernel_rfl) ⟨⟨0, by rw [bB]; rfl⟩, cO, (by omega), (by omega), ⟨1, by rw [bB]; rfl⟩, ⟨2, by rw [bB]; rfl⟩, cQ, (by omega), (by omega), ⟨3, by rw [bB]; rfl⟩, trivial⟩ (fun eB cD => ?_)
  clear aU
  refine AtH.all [10] 1 (by kernel_rfl) (by simp) ⟨?_, trivial⟩
  refine OneH.call cD 20 #[.slice aW ((gL a.mv (k)).length) aX, .slice aZ ((gL b.mv (k)).length) bA] (some 51) #[true, true, true, true, true, true, true, true, true, true, true, false] (by kernel_rfl) (by kernel_rfl) (sameInts_any (la := gL a.mv (k)) (lb := gL b.mv (k)) (aQ.wide (Nat.zero_le _) (by omega)) (aR.wide (Nat.zero_le _) (by omega))) ?_
  rintro e_ eC ⟨rfl, he⟩
  refine ⟨_, rfl, _, rfl, fun eD cE => ?_⟩
  clear cD; have aE := gr_ext he; have bJ := cC.gr aE; have := aE.size; replace aG := aG.gn aE; replace aO := aO.gn aE; replace aP := aP.gn aE; replace aH := aH.gn aE; replace aK := aK.gn aE; replace aQ := aQ.gn aE; replace aR := aR.gn aE; clear aE he
  refine ⟨bJ, ?_⟩
  refine AtH.rd (by kernel_rfl) (fun d v c a w h => by cases d <;> exact h) bJ [11] [[]] [(8, .bool (decide (gL a.mv (k) = gL b.mv (k))))] #[true, true, true, true, true, true, true, true, true, true, true, true] [] 0 cE (by kernel_rfl) trivial (fun eE cF => ?_)
  clear cE
  refine AtH.done (by kernel_rfl) ?_
  clear bJ
  refine t_n ?_
  have cG := cF.sub (r := [(8, .bool (decide (gL a.mv (k) = gL b.mv (k)))), (7, .int .i64 (k)), (3, .pointer (some ⟨w1.heap.size, 0, none⟩)), (2, .pointer (some ⟨w.heap.size, 0, none⟩))]) ⟨rfl, rfl, rfl, rfl, trivial⟩
  clear cF
  refine wp_seq ?_
  refine At.start ?_
  refine At.rd cG 2 [[], []] [(53, .bool (!(decide (gL a.mv (k) = gL b.mv (k))))), (52, .bool (decide (gL a.mv (k) = gL b.mv (k))))] [] (by kernel_rfl) trivial (fun eF bC => ?_)
  clear cG
  refine At.done rfl ?_
  refine t_n ?_
  refine cond_S bC (t := !(decide (gL a.mv (k) = gL b.mv (k)))) rfl (fun aL => ?_) (fun aL => ?_)
  ·have cS : (decide (gL a.mv (k) = gL b.mv (k))) = false := by first | exact Eq.mp (Bool.not_eq_true' _) aL | exact Eq.mp (Bool.not_eq_false' _) aL | simpa using aL
   have eG := of_decide_eq_false cS
   refine wp_seq ?_
   refine At.start ?_
   refine At.rd bC 1 [[]] [(4, .bool false)] [] (by kernel_rfl) trivial (fun eH cT => ?_)
   clear bC
   refine At.done rfl ?_
   refine t_n ?_
   refine wp_ret ?_
   refine b_r ?_
   refine t_r ?_
   refine t_r ?_
   refine b_r ?_
   refine t_r ?_
   refine ret_ cT [] [.bool false] [] (by kernel_rfl) trivial ?_
   exact ⟨ret_eq (congrArg Value.bool (by first | exact game_ne0 (by assumption) | exact game_ne1 (by assumption) | exact game_ne2 (by assumption) | exact game_ne3 (by assumption) | exact game_eq (by assumption) (by assumption) (by assumption) (by assumption) (by omega))), aG⟩
  have cU : (decide (gL a.mv (k) = gL b.mv (k))) = true := by first | exact Eq.mp (Bool.not_eq_true' _) aL | exact Eq.mp (Bool.not_eq_false' _) aL | simpa using aL
  have eI := of_decide_eq_true cU
  refine wp_skip ?_
  refine b_n ?_
  refine t_n ?_
  refine At.start ?_
  refine At.rd bC 3 [[], [.as_ (.int .i64 (k + 1))], []] [(7, .int .i64 (k + 1)), (40, .int .i64 (k + 1)), (39, .int .i64 (k))] [((.int .i64 (IntKind.i64.wrap (k + 1)) : Value) = .int .i64 (k + 1))] (by kernel_rfl) ⟨(w64 (by omega) (by omega)), trivial⟩ (fun eJ cV => ?_)
  clear bC
  refine At.done rfl ?_
  refine t_n ?_
  have cW := cV.sub (r := [(7, .int .i64 (k + 1)), (3, .pointer (some ⟨w1.heap.size, 0, none⟩)), (2, .pointer (some ⟨w.heap.size, 0, none⟩))]) ⟨rfl, rfl, rfl, trivial⟩
  exact ⟨_, (by omega), (k + 1), rfl, cW, aG, aO, aP, aH, aK, (by omega), (by omega), (takeL_next (by assumption) (by omega) (by omega) (by omega) (by assumption))⟩
 have eK := of_decide_eq_false bI
 refine wp_exit ?_
 refine t_e ?_
 refine t_e ?_
 refine b_e ?_
 refine t_n ?_
 refine wp_seq ?_
 refine At.start ?_
 refine At.rd aU 1 [[]] [(4, .bool true)] [] (by kernel_rfl) trivial (fun eL cX => ?_)
 clear aU
 refine At.done rfl ?_
 refine t_n ?_
 refine wp_ret ?_
 refine ret_ cX [] [.bool true] [] (by kernel_rfl) trivial ?_
 exact ⟨ret_eq (congrArg Value.bool (by first | exact game_ne0 (by assumption) | exact game_ne1 (by assumption) | exact game_ne2 (by assumption) | exact game_ne3 (by assumption) | exact game_eq (by assumption) (by assumption) (by assumption) (by assumption) (by omega))), aG⟩

end Go.Proofs.Ytklbpajmoklheaa
