/-
  A walk of a Go function, printed by a program of this repo. Conditions: what the theorems name.
-/
import Derived.Test.YtklbpajmoklheaaPureTup
set_option linter.unusedVariables false
set_option linter.unusedSimpArgs false
namespace Go.Proofs.Ytklbpajmoklheaa
open Go Go.RowKit

set_option maxHeartbeats 4000000 in
theorem above_any {k p : Int} {w : World} (h0 : -1 ≤ k) (h1 : k ≤ 4) :
    Calls Try.prog 43 #[.int .i64 (k), .int .i64 (p)] w fun e w' => e = .returned (.bool (decide (2 * k + 1 ≥ p))) ∧ Ext w w' := by
 refine enter_ (args := [.int .i64 (k), .int .i64 (p)]) Try.func43 rfl Try.ntmps43 (Nat.le_of_ble_eq_true rfl) (fun act0 f0 => ?_)
 have e0 : Ext w w := Ext.refl w
 refine wp_seq ?_
 refine At.start ?_
 refine At.rd f0 1 [[]] [(4, .bool false)] [] (by kernel_rfl) trivial (fun act2 f1 => ?_)
 clear f0
 refine At.done rfl ?_
 refine t_n ?_
 have f3 := f1.sub (r := [(0, .int .i64 (k)), (1, .int .i64 (p))]) ⟨rfl, rfl, trivial⟩; clear f1
 refine wp_seq ?_
 refine At.start ?_
 refine At.rd f3 6 [[], [.as_ (.int .i64 (2 * k))], [.as_ (.int .i64 ((2 * k) + 1))], [], [], []] [(4, .bool (decide (((2 * k) + 1 : Int) ≥ p))), (9, .bool (decide (((2 * k) + 1 : Int) ≥ p))), (8, .int .i64 (p)), (7, .int .i64 ((2 * k) + 1)), (6, .int .i64 (2 * k)), (5, .int .i64 (k))] [((.int .i64 (IntKind.i64.wrap (2 * k)) : Value) = .int .i64 (2 * k)), ((.int .i64 (IntKind.i64.wrap ((2 * k) + 1)) : Value) = .int .i64 ((2 * k) + 1))] (by kernel_rfl) ⟨(w64 (by omega) (by omega)), (w64 (by omega) (by omega)), trivial⟩ (fun act5 f4 => ?_)
 clear f3
 refine At.done rfl ?_
 refine t_n ?_
 have f6 := f4.sub (r := [(4, .bool (decide (((2 * k) + 1 : Int) ≥ p)))]) ⟨rfl, trivial⟩; clear f4
 refine wp_ret ?_
 refine ret_ f6 [] [.bool (decide (((2 * k) + 1 : Int) ≥ p))] [] (by kernel_rfl) trivial ?_
 exact ⟨rfl, e0⟩

set_option maxHeartbeats 4000000 in
theorem cmpM_any {a b : Tup} {p : Int} {w : World} :
    Calls Try.prog 23 #[tupV a, tupV b, .int .i64 (p)] w fun e w' => e = .returned (.int .i64 (cmpT a b p)) ∧ Ext w w' := by
 refine enter_ (args := [tupV a, tupV b, .int .i64 (p)]) Try.func23 rfl Try.ntmps23 (Nat.le_of_ble_eq_true rfl) (fun act0 f0 => ?_)
 have e0 : Ext w w := Ext.refl w
 refine wp_seq ?_
 refine At.start ?_
 refine At.seq f0 1 [[]] [(3, .pointer (some ⟨w.heap.size, 0, none⟩))] (w.alloc (.cells ((tupC a)).toArray 41 (0, 0))) [] (by kernel_rfl) trivial (fun act4 w1 hw2 f3 => ?_)
 clear f0; have g5 := gr_alloc hw2; have := g5.size; replace e0 := e0.gn g5; have bx8 : Bx w1 (w.heap.size) (tupC a) 41 := Bx.new hw2; have := bx8.lt; clear g5 hw2
 refine At.seq f3 1 [[]] [(4, .pointer (some ⟨w1.heap.size, 0, none⟩))] (w1.alloc (.cells ((tupC b)).toArray 41 (0, 0))) [] (by kernel_rfl) trivial (fun cN w9 aR aZ => ?_)
 clear f3; have aO := gr_alloc aR; have := aO.size; replace e0 := e0.gn aO; replace bx8 := bx8.gn aO; have aD : Bx w9 (w1.heap.size) (tupC b) 41 := Bx.new aR; have := aD.lt; clear aO aR
 refine At.rd aZ 1 [[]] [(6, .int .i64 (0))] [] (by kernel_rfl) trivial (fun cO bA => ?_)
 clear aZ
 refine At.done rfl ?_
 refine t_n ?_
 have aP := bA.sub (r := [(6, .int .i64 (0)), (4, .pointer (some ⟨w1.heap.size, 0, none⟩)), (3, .pointer (some ⟨w.heap.size, 0, none⟩)), (2, .int .i64 (p))]) ⟨rfl, rfl, rfl, rfl, trivial⟩
 clear bA
 refine wp_seq ?_
 refine wp_block ?_
 refine wp_seq ?_
 refine At.start ?_
 rcases Bool.eq_false_or_eq_true (a.top) with aE | aE
 ·refine At.rd aP 7 [[], [.ld (.bool (a.top))], [.as_ (.bool true)], [], [.ld (.bool (b.top))], [], []] [(8, .bool (b.top)), (14, .bool (b.top)), (13, .bool (b.top)), (12, .pointer (some ⟨w1.heap.size, 0, none⟩)), (11, .bool true), (10, .bool (a.top)), (9, .pointer (some ⟨w.heap.size, 0, none⟩))] [(w9.cell? ⟨w.heap.size, 0, none⟩ = some (.bool (a.top))), ((.bool (a.top) : Value) = .bool true), (w9.cell? ⟨w1.heap.size, 0, none⟩ = some (.bool (b.top)))] (by kernel_rfl) ⟨(bx8.cell (i := 0) rfl), (congrArg Value.bool aE), (aD.cell (i := 0) rfl), trivial⟩ (fun cP bB => ?_)
  clear aP
  refine At.done rfl ?_
  refine t_n ?_
  have aF := bB.sub (r := [(8, .bool (b.top)), (6, .int .i64 (0)), (4, .pointer (some ⟨w1.heap.size, 0, none⟩)), (3, .pointer (some ⟨w.heap.size, 0, none⟩)), (2, .int .i64 (p))]) ⟨rfl, rfl, rfl, rfl, rfl, trivial⟩
  clear bB
  refine cond_S aF (t := b.top) rfl (fun cC => ?_) (fun cC => ?_)
  ·refine wp_seq ?_
   refine At.start ?_
   refine At.rd aF 1 [[]] [(6, .int .i64 (0))] [] (by kernel_rfl) trivial (fun cQ bC => ?_)
   clear aF
   refine At.done rfl ?_
   refine t_n ?_
   have cD := bC.sub (r := [(6, .int .i64 (0))]) ⟨rfl, trivial⟩; clear bC
   refine wp_ret ?_
   refine b_r ?_
   refine t_r ?_
   refine ret_ cD [] [.int .i64 (0)] [] (by kernel_rfl) trivial ?_
   exact ⟨ret_eq (congrArg (Value.int .i64) (by first | exact down_lt (by assumption) (by assumption) hdn (by omega) (by omega) (by omega) (by omega) | exact down_gt (by assumption) (by assumption) hdn (by omega) (by omega) (by omega) (by omega) | exact down_end (by assumption) (by assumption) hdn (by omega) (by omega) (by omega) | exact cmp_tt (by assumption) (by assumption) | exact cmp_tf (by assumption) (by assumption) | exact cmp_ft (by assumption) (by assumption) | (rw [low_ff (by assumption) (by assumption)]; unfold lowT; omega))), e0⟩
  refine wp_seq ?_
  refine At.start ?_
  refine At.rd aF 3 [[], [.ld (.bool (a.top))], []] [(15, .bool (a.top)), (17, .bool (a.top)), (16, .pointer (some ⟨w.heap.size, 0, none⟩))] [(w9.cell? ⟨w.heap.size, 0, none⟩ = some (.bool (a.top)))] (by kernel_rfl) ⟨(bx8.cell (i := 0) rfl), trivial⟩ (fun cR bD => ?_)
  clear aF
  refine At.done rfl ?_
  refine t_n ?_
  have aS := bD.sub (r := [(15, .bool (a.top)), (6, .int .i64 (0)), (4, .pointer (some ⟨w1.heap.size, 0, none⟩)), (3, .pointer (some ⟨w.heap.size, 0, none⟩)), (2, .int .i64 (p))]) ⟨rfl, rfl, rfl, rfl, rfl, trivial⟩
  clear bD
  refine cond_S aS (t := a.top) rfl (fun hh => ?_) (fun hh => ?_)
  rotate_left
  · exact absurd (hh.symm.trans aE) (by decide)
  refine wp_seq ?_
  refine At.start ?_
  refine At.rd aS 1 [[]] [(6, .int .i64 (1))] [] (by kernel_rfl) trivial (fun cS bE => ?_)
  clear aS
  refine At.done rfl ?_
  refine t_n ?_
  have cE := bE.sub (r := [(6, .int .i64 (1))]) ⟨rfl, trivial⟩; clear bE
  refine wp_ret ?_
  refine b_r ?_
  refine t_r ?_
  refine ret_ cE [] [.int .i64 (1)] [] (by kernel_rfl) trivial ?_
  exact ⟨ret_eq (congrArg (Value.int .i64) (by first | exact down_lt (by assumption) (by assumption) hdn (by omega) (by omega) (by omega) (by omega) | exact down_gt (by assumption) (by assumption) hdn (by omega) (by omega) (by omega) (by omega) | exact down_end (by assumption) (by assumption) hdn (by omega) (by omega) (by omega) | exact cmp_tt (by assumption) (by assumption) | exact cmp_tf (by assumption) (by assumption) | exact cmp_ft (by assumption) (by assumption) | (rw [low_ff (by assumption) (by assumption)]; unfold lowT; omega))), e0⟩
 refine At.rd aP 7 [[], [.ld (.bool (a.top))], [.as_ (.bool false)], [], [], [], []] [(8, .bool false), (14, .bool false), (13, undef), (12, undef), (11, .bool false), (10, .bool (a.top)), (9, .pointer (some ⟨w.heap.size, 0, none⟩))] [(w9.cell? ⟨w.heap.size, 0, none⟩ = some (.bool (a.top))), ((.bool (a.top) : Value) = .bool false)] (by kernel_rfl) ⟨(bx8.cell (i := 0) rfl), (congrArg Value.bool aE), trivial⟩ (fun cT bF => ?_)
 clear aP
 refine At.done rfl ?_
 refine t_n ?_
 have aT := bF.sub (r := [(8, .bool false), (6, .int .i64 (0)), (4, .pointer (some ⟨w1.heap.size, 0, none⟩)), (3, .pointer (some ⟨w.heap.size, 0, none⟩)), (2, .int .i64 (p))]) ⟨rfl, rfl, rfl, rfl, rfl, trivial⟩
 clear bF
 refine cond_F aT rfl ?_
 refine wp_seq ?_
 refine At.start ?_
 refine At.rd aT 3 [[], [.ld (.bool (a.top))], []] [(15, .bool (a.top)), (17, .bool (a.top)), (16, .pointer (some ⟨w.heap.size, 0, none⟩))] [(w9.cell? ⟨w.heap.size, 0, none⟩ = some (.bool (a.top)))] (by kernel_rfl) ⟨(bx8.cell (i := 0) rfl), trivial⟩ (fun cU bG => ?_)
 clear aT
 refine At.done rfl ?_
 refine t_n ?_
 have aU := bG.sub (r := [(15, .bool (a.top)), (6, .int .i64 (0)), (4, .pointer (some ⟨w1.heap.size, 0, none⟩)), (3, .pointer (some ⟨w.heap.size, 0, none⟩)), (2, .int .i64 (p))]) ⟨rfl, rfl, rfl, rfl, rfl, trivial⟩
 clear bG
 refine cond_S aU (t := a.top) rfl (fun hh => ?_) (fun hh => ?_)
 · exact absurd (hh.symm.trans aE) (by decide)
 refine wp_seq ?_
 refine At.start ?_
 refine At.rd aU 3 [[], [.ld (.bool (b.top))], []] [(18, .bool (b.top)), (20, .bool (b.top)), (19, .pointer (some ⟨w1.heap.size, 0, none⟩))] [(w9.cell? ⟨w1.heap.size, 0, none⟩ = some (.bool (b.top)))] (by kernel_rfl) ⟨(aD.cell (i := 0) rfl), trivial⟩ (fun cV bH => ?_)
 clear aU
 refine At.done rfl ?_
 refine t_n ?_
 have aG := bH.sub (r := [(18, .bool (b.top)), (6, .int .i64 (0)), (4, .pointer (some ⟨w1.heap.size, 0, none⟩)), (3, .pointer (some ⟨w.heap.size, 0, none⟩)), (2, .int .i64 (p))]) ⟨rfl, rfl, rfl, rfl, rfl, trivial⟩
 clear bH
 refine cond_S aG (t := b.top) rfl (fun cF => ?_) (fun cF => ?_)
 ·refine wp_seq ?_
  refine At.start ?_
  refine At.rd aG 1 [[]] [(6, .int .i64 (-1))] [] (by kernel_rfl) trivial (fun cW bI => ?_)
  clear aG
  refine At.done rfl ?_
  refine t_n ?_
  have cG := bI.sub (r := [(6, .int .i64 (-1))]) ⟨rfl, trivial⟩; clear bI
  refine wp_ret ?_
  refine b_r ?_
  refine t_r ?_
  refine ret_ cG [] [.int .i64 (-1)] [] (by kernel_rfl) trivial ?_
  exact ⟨ret_eq (congrArg (Value.int .i64) (by first | exact down_lt (by assumption) (by assumption) hdn (by omega) (by omega) (by omega) (by omega) | exact down_gt (by assumption) (by assumption) hdn (by omega) (by omega) (by omega) (by omega) | exact down_end (by assumption) (by assumption) hdn (by omega) (by omega) (by omega) | exact cmp_tt (by assumption) (by assumption) | exact cmp_tf (by assumption) (by assumption) | exact cmp_ft (by assumption) (by assumption) | (rw [low_ff (by assumption) (by assumption)]; unfold lowT; omega))), e0⟩
 refine wp_skip ?_
 refine b_n ?_
 refine t_n ?_
 have bJ := aG.sub (r := [(6, .int .i64 (0)), (4, .pointer (some ⟨w1.heap.size, 0, none⟩)), (3, .pointer (some ⟨w.heap.size, 0, none⟩)), (2, .int .i64 (p))]) ⟨rfl, rfl, rfl, rfl, trivial⟩
 clear aG
 refine wp_seq ?_
 refine wp_seq ?_
 refine At.start ?_
 refine At.rd bJ 1 [[]] [(7, .int .i64 (3))] [] (by kernel_rfl) trivial (fun cX bK => ?_)
 clear bJ
 refine At.done rfl ?_
 refine t_n ?_
 refine wp_block ?_
 have bL := bK.sub (r := [(7, .int .i64 (3)), (4, .pointer (some ⟨w1.heap.size, 0, none⟩)), (3, .pointer (some ⟨w.heap.size, 0, none⟩)), (2, .int .i64 (p))]) ⟨rfl, rfl, rfl, rfl, trivial⟩
 refine loop_g (fun (m_ : Nat) a_ w_ => ∃ (k : Int), m_ = (k + 1).toNat ∧ (Frm 50 a_ [(7, .int .i64 (k)), (4, .pointer (some ⟨w1.heap.size, 0, none⟩)), (3, .pointer (some ⟨w.heap.size, 0, none⟩)), (2, .int .i64 (p))]) ∧ (Ext w w_) ∧ (Bx w_ (w.heap.size) (tupC a) 41) ∧ (Bx w_ (w1.heap.size) (tupC b) 41) ∧ (-1 ≤ k) ∧ (k ≤ 3) ∧ (DownT a b p k)) _ ⟨3, rfl, bL, e0, bx8, aD, (by omega), (by omega), down0⟩ ?_
 clear bL bK; clear bx8; clear aD; clear e0
 intro m_ cY cZ ⟨k, hm61, aQ, aA, aB, aC, i65, i66, hdn⟩
 have := aA.size; have := aB.lt; have := aC.lt
 refine wp_seq ?_
 refine wp_seq ?_
 refine At.start ?_
 rcases Bool.eq_false_or_eq_true (decide ((k : Int) ≥ 0)) with aH | aH
 ·have dA := of_decide_eq_true aH
  refine At.rd aQ 5 [[], [], [.as_ (.bool true)], [], []] [(25, .int .i64 (p)), (24, .int .i64 (k)), (23, .bool true), (22, .bool (decide ((k : Int) ≥ 0))), (21, .int .i64 (k))] [((.bool (decide ((k : Int) ≥ 0)) : Value) = .bool true)] (by kernel_rfl) ⟨(congrArg Value.bool aH), trivial⟩ (fun dB bM => ?_)
  clear aQ
  refine At.call bM 43 #[.int .i64 (k), .int .i64 (p)] (some 26) (by kernel_rfl) (above_any (k := k) (p := p) (by omega) (by omega)) ?_
  rintro e_ bN ⟨rfl, he⟩
  refine ⟨_, rfl, _, rfl, fun dC bO => ?_⟩
  clear bM; have aI := gr_ext he; have := aI.size; replace aA := aA.gn aI; replace aB := aB.gn aI; replace aC := aC.gn aI; clear aI he
  refine At.rd bO 1 [[]] [(27, .bool (decide (2 * k + 1 ≥ p)))] [] (by kernel_rfl) trivial (fun dD bP => ?_)
  clear bO
  refine At.done rfl ?_
  refine t_n ?_
  have aJ := bP.sub (r := [(27, .bool (decide (2 * k + 1 ≥ p))), (26, .bool (decide (2 * k + 1 ≥ p))), (25, .int .i64 (p)), (24, .int .i64 (k)), (7, .int .i64 (k)), (4, .pointer (some ⟨w1.heap.size, 0, none⟩)), (3, .pointer (some ⟨w.heap.size, 0, none⟩)), (2, .int .i64 (p))]) ⟨rfl, rfl, rfl, rfl, rfl, rfl, rfl, rfl, trivial⟩
  clear bP
  refine cond_S aJ (t := decide (2 * k + 1 ≥ p)) rfl (fun aV => ?_) (fun aV => ?_)
  ·have dE := of_decide_eq_true aV
   refine wp_skip ?_
   refine t_n ?_
   have bQ := aJ.sub (r := [(26, .bool (decide (2 * k + 1 ≥ p))), (25, .int .i64 (p)), (24, .int .i64 (k)), (7, .int .i64 (k)), (4, .pointer (some ⟨w1.heap.size, 0, none⟩)), (3, .pointer (some ⟨w.heap.size, 0, none⟩)), (2, .int .i64 (p))]) ⟨rfl, rfl, rfl, rfl, rfl, rfl, rfl, trivial⟩
   clear aJ
   refine wp_seq ?_
   refine wp_block ?_
   refine wp_block ?_
   refine wp_seq ?_
   refine drawn_ro bQ (by kernel_rfl) (by kernel_rfl) [[], [], [], [.ld (.int .i64 (gI [a.c0, a.c1, a.c2, a.c3] k))], [], [], [], [.ld (.int .i64 (gI [b.c0, b.c1, b.c2, b.c3] k))], [], []] [(30, .bool (decide ((gI [a.c0, a.c1, a.c2, a.c3] k : Int) < (gI [b.c0, b.c1, b.c2, b.c3] k)))), (39, .bool (decide ((gI [a.c0, a.c1, a.c2, a.c3] k : Int) < (gI [b.c0, b.c1, b.c2, b.c3] k)))), (38, .int .i64 (gI [b.c0, b.c1, b.c2, b.c3] k)), (37, .pointer (some ((⟨w1.heap.size, 1, none⟩ : Addr).add ((k : Int).toNat * 1)))), (36, .pointer (some ⟨w1.heap.size, 1, none⟩)), (35, .int .i64 (k)), (34, .int .i64 (gI [a.c0, a.c1, a.c2, a.c3] k)), (33, .pointer (some ((⟨w.heap.size, 1, none⟩ : Addr).add ((k : Int).toNat * 1)))), (32, .pointer (some ⟨w.heap.size, 1, none⟩)), (31, .int .i64 (k))] [(0 ≤ (k : Int)), ((k : Int) < (4 : Nat)), (bN.cell? ((⟨w.heap.size, 1, none⟩ : Addr).add ((k : Int).toNat * 1)) = some (.int .i64 (gI [a.c0, a.c1, a.c2, a.c3] k))), (0 ≤ (k : Int)), ((k : Int) < (4 : Nat)), (bN.cell? ((⟨w1.heap.size, 1, none⟩ : Addr).add ((k : Int).toNat * 1)) = some (.int .i64 (gI [b.c0, b.c1, b.c2, b.c3] k)))] (by kernel_rfl) ⟨(by omega), (by omega), (Bx.arr (pre := [.bool (a.top)]) (l := [a.c0, a.c1, a.c2, a.c3]) (post := []) aB rfl k (by omega) (by simp only [List.length_cons, List.length_nil]; omega)), (by omega), (by omega), (Bx.arr (pre := [.bool (b.top)]) (l := [b.c0, b.c1, b.c2, b.c3]) (post := []) aC rfl k (by omega) (by simp only [List.length_cons, List.length_nil]; omega)), trivial⟩ (fun dF bR bS bT => ?_)
   clear bQ; have aK := gr_drew bS; have := aK.size; replace aA := aA.gn aK; replace aB := aB.gn aK; replace aC := aC.gn aK; clear aK bS
   refine t_n ?_
   have aL := bT.sub (r := [(30, .bool (decide ((gI [a.c0, a.c1, a.c2, a.c3] k : Int) < (gI [b.c0, b.c1, b.c2, b.c3] k)))), (26, .bool (decide (2 * k + 1 ≥ p))), (25, .int .i64 (p)), (24, .int .i64 (k)), (7, .int .i64 (k)), (4, .pointer (some ⟨w1.heap.size, 0, none⟩)), (3, .pointer (some ⟨w.heap.size, 0, none⟩)), (2, .int .i64 (p))]) ⟨rfl, rfl, rfl, rfl, rfl, rfl, rfl, rfl, trivial⟩
   clear bT
   refine cond_S aL (t := decide ((gI [a.c0, a.c1, a.c2, a.c3] k : Int) < (gI [b.c0, b.c1, b.c2, b.c3] k))) rfl (fun aW => ?_) (fun aW => ?_)
   ·have dG := of_decide_eq_true aW
    refine wp_seq ?_
    refine At.start ?_
    refine At.rd aL 1 [[]] [(6, .int .i64 (-1))] [] (by kernel_rfl) trivial (fun dH bU => ?_)
    clear aL
    refine At.done rfl ?_
    refine t_n ?_
    have cH := bU.sub (r := [(6, .int .i64 (-1))]) ⟨rfl, trivial⟩; clear bU
    refine wp_ret ?_
    refine b_r ?_
    refine b_r ?_
    refine t_r ?_
    refine t_r ?_
    refine b_r ?_
    refine t_r ?_
    refine ret_ cH [] [.int .i64 (-1)] [] (by kernel_rfl) trivial ?_
    exact ⟨ret_eq (congrArg (Value.int .i64) (by first | exact down_lt (by assumption) (by assumption) hdn (by omega) (by omega) (by omega) (by omega) | exact down_gt (by assumption) (by assumption) hdn (by omega) (by omega) (by omega) (by omega) | exact down_end (by assumption) (by assumption) hdn (by omega) (by omega) (by omega) | exact cmp_tt (by assumption) (by assumption) | exact cmp_tf (by assumption) (by assumption) | exact cmp_ft (by assumption) (by assumption) | (rw [low_ff (by assumption) (by assumption)]; unfold lowT; omega))), aA⟩
   have dI := of_decide_eq_false aW
   refine wp_seq ?_
   refine drawn_ro aL (by kernel_rfl) (by kernel_rfl) [[], [], [], [.ld (.int .i64 (gI [a.c0, a.c1, a.c2, a.c3] k))], [], [], [], [.ld (.int .i64 (gI [b.c0, b.c1, b.c2, b.c3] k))], [], []] [(40, .bool (decide ((gI [a.c0, a.c1, a.c2, a.c3] k : Int) > (gI [b.c0, b.c1, b.c2, b.c3] k)))), (49, .bool (decide ((gI [a.c0, a.c1, a.c2, a.c3] k : Int) > (gI [b.c0, b.c1, b.c2, b.c3] k)))), (48, .int .i64 (gI [b.c0, b.c1, b.c2, b.c3] k)), (47, .pointer (some ((⟨w1.heap.size, 1, none⟩ : Addr).add ((k : Int).toNat * 1)))), (46, .pointer (some ⟨w1.heap.size, 1, none⟩)), (45, .int .i64 (k)), (44, .int .i64 (gI [a.c0, a.c1, a.c2, a.c3] k)), (43, .pointer (some ((⟨w.heap.size, 1, none⟩ : Addr).add ((k : Int).toNat * 1)))), (42, .pointer (some ⟨w.heap.size, 1, none⟩)), (41, .int .i64 (k))] [(0 ≤ (k : Int)), ((k : Int) < (4 : Nat)), (bR.cell? ((⟨w.heap.size, 1, none⟩ : Addr).add ((k : Int).toNat * 1)) = some (.int .i64 (gI [a.c0, a.c1, a.c2, a.c3] k))), (0 ≤ (k : Int)), ((k : Int) < (4 : Nat)), (bR.cell? ((⟨w1.heap.size, 1, none⟩ : Addr).add ((k : Int).toNat * 1)) = some (.int .i64 (gI [b.c0, b.c1, b.c2, b.c3] k)))] (by kernel_rfl) ⟨(by omega), (by omega), (Bx.arr (pre := [.bool (a.top)]) (l := [a.c0, a.c1, a.c2, a.c3]) (post := []) aB rfl k (by omega) (by simp only [List.length_cons, List.length_nil]; omega)), (by omega), (by omega), (Bx.arr (pre := [.bool (b.top)]) (l := [b.c0, b.c1, b.c2, b.c3]) (post := []) aC rfl k (by omega) (by simp only [List.length_cons, List.length_nil]; omega)), trivial⟩ (fun dJ dK bV bW => ?_)
   clear aL; have aM := gr_drew bV; have := aM.size; replace aA := aA.gn aM; replace aB := aB.gn aM; replace aC := aC.gn aM; clear aM bV
   refine t_n ?_
   have aN := bW.sub (r := [(40, .bool (decide ((gI [a.c0, a.c1, a.c2, a.c3] k : Int) > (gI [b.c0, b.c1, b.c2, b.c3] k)))), (26, .bool (decide (2 * k + 1 ≥ p))), (25, .int .i64 (p)), (24, .int .i64 (k)), (7, .int .i64 (k)), (4, .pointer (some ⟨w1.heap.size, 0, none⟩)), (3, .pointer (some ⟨w.heap.size, 0, none⟩)), (2, .int .i64 (p))]) ⟨rfl, rfl, rfl, rfl, rfl, rfl, rfl, rfl, trivial⟩
   clear bW
   refine cond_S aN (t := decide ((gI [a.c0, a.c1, a.c2, a.c3] k : Int) > (gI [b.c0, b.c1, b.c2, b.c3] k))) rfl (fun aX => ?_) (fun aX => ?_)
   ·have dL := of_decide_eq_true aX
    refine wp_seq ?_
    refine At.start ?_
    refine At.rd aN 1 [[]] [(6, .int .i64 (1))] [] (by kernel_rfl) trivial (fun dM bX => ?_)
    clear aN
    refine At.done rfl ?_
    refine t_n ?_
    have cI := bX.sub (r := [(6, .int .i64 (1))]) ⟨rfl, trivial⟩; clear bX
    refine wp_ret ?_
    refine b_r ?_
    refine b_r ?_
    refine t_r ?_
    refine t_r ?_
    refine b_r ?_
    refine t_r ?_
    refine ret_ cI [] [.int .i64 (1)] [] (by kernel_rfl) trivial ?_
    exact ⟨ret_eq (congrArg (Value.int .i64) (by first | exact down_lt (by assumption) (by assumption) hdn (by omega) (by omega) (by omega) (by omega) | exact down_gt (by assumption) (by assumption) hdn (by omega) (by omega) (by omega) (by omega) | exact down_end (by assumption) (by assumption) hdn (by omega) (by omega) (by omega) | exact cmp_tt (by assumption) (by assumption) | exact cmp_tf (by assumption) (by assumption) | exact cmp_ft (by assumption) (by assumption) | (rw [low_ff (by assumption) (by assumption)]; unfold lowT; omega))), aA⟩
   have dN := of_decide_eq_false aX
   refine wp_skip ?_
   refine b_n ?_
   refine b_n ?_
   refine t_n ?_
   have bY := aN.sub (r := [(26, .bool (decide (2 * k + 1 ≥ p))), (25, .int .i64 (p)), (24, .int .i64 (k)), (7, .int .i64 (k)), (4, .pointer (some ⟨w1.heap.size, 0, none⟩)), (3, .pointer (some ⟨w.heap.size, 0, none⟩)), (2, .int .i64 (p))]) ⟨rfl, rfl, rfl, rfl, rfl, rfl, rfl, trivial⟩
   clear aN
   refine At.start ?_
   refine At.rd bY 3 [[], [.as_ (.int .i64 (k - 1))], []] [(7, .int .i64 (k - 1)), (29, .int .i64 (k - 1)), (28, .int .i64 (k))] [((.int .i64 (IntKind.i64.wrap (k - 1)) : Value) = .int .i64 (k - 1))] (by kernel_rfl) ⟨(w64 (by omega) (by omega)), trivial⟩ (fun dO cJ => ?_)
   clear bY
   refine At.done rfl ?_
   refine t_n ?_
   have cK := cJ.sub (r := [(7, .int .i64 (k - 1)), (4, .pointer (some ⟨w1.heap.size, 0, none⟩)), (3, .pointer (some ⟨w.heap.size, 0, none⟩)), (2, .int .i64 (p))]) ⟨rfl, rfl, rfl, rfl, trivial⟩
   exact ⟨_, (by omega), (k - 1), rfl, cK, aA, aB, aC, (by omega), (by omega), (down_next hdn (by omega) (by omega) (by omega))⟩
  have dP := of_decide_eq_false aV
  refine wp_exit ?_
  refine t_e ?_
  clear hm61
  refine t_e ?_
  refine b_e ?_
  refine t_n ?_
  have bZ := aJ.sub (r := []) trivial; clear aJ
  refine wp_seq ?_
  refine At.start ?_
  refine At.rd bZ 1 [[]] [(6, .int .i64 (0))] [] (by kernel_rfl) trivial (fun dQ cL => ?_)
  clear bZ
  refine At.done rfl ?_
  refine t_n ?_
  refine wp_ret ?_
  refine ret_ cL [] [.int .i64 (0)] [] (by kernel_rfl) trivial ?_
  exact ⟨ret_eq (congrArg (Value.int .i64) (by first | exact down_lt (by assumption) (by assumption) hdn (by omega) (by omega) (by omega) (by omega) | exact down_gt (by assumption) (by assumption) hdn (by omega) (by omega) (by omega) (by omega) | exact down_end (by assumption) (by assumption) hdn (by omega) (by omega) (by omega) | exact cmp_tt (by assumption) (by assumption) | exact cmp_tf (by assumption) (by assumption) | exact cmp_ft (by assumption) (by assumption) | (rw [low_ff (by assumption) (by assumption)]; unfold lowT; omega))), aA⟩
 have dR := of_decide_eq_false aH
 refine At.rd aQ 7 [[], [], [.as_ (.bool false)], [], [], [], []] [(27, .bool false), (26, undef), (25, undef), (24, undef), (23, .bool false), (22, .bool (decide ((k : Int) ≥ 0))), (21, .int .i64 (k))] [((.bool (decide ((k : Int) ≥ 0)) : Value) = .bool false)] (by kernel_rfl) ⟨(congrArg Value.bool aH), trivial⟩ (fun dS cA => ?_)
 clear aQ
 refine At.done rfl ?_
 refine t_n ?_
 have aY := cA.sub (r := [(27, .bool false), (7, .int .i64 (k)), (4, .pointer (some ⟨w1.heap.size, 0, none⟩)), (3, .pointer (some ⟨w.heap.size, 0, none⟩)), (2, .int .i64 (p))]) ⟨rfl, rfl, rfl, rfl, rfl, trivial⟩
 clear cA
 refine cond_F aY rfl ?_
 refine wp_exit ?_
 refine t_e ?_
 clear hm61
 refine t_e ?_
 refine b_e ?_
 refine t_n ?_
 have cB := aY.sub (r := []) trivial; clear aY
 refine wp_seq ?_
 refine At.start ?_
 refine At.rd cB 1 [[]] [(6, .int .i64 (0))] [] (by kernel_rfl) trivial (fun dT cM => ?_)
 clear cB
 refine At.done rfl ?_
 refine t_n ?_
 refine wp_ret ?_
 refine ret_ cM [] [.int .i64 (0)] [] (by kernel_rfl) trivial ?_
 exact ⟨ret_eq (congrArg (Value.int .i64) (by first | exact down_lt (by assumption) (by assumption) hdn (by omega) (by omega) (by omega) (by omega) | exact down_gt (by assumption) (by assumption) hdn (by omega) (by omega) (by omega) (by omega) | exact down_end (by assumption) (by assumption) hdn (by omega) (by omega) (by omega) | exact cmp_tt (by assumption) (by assumption) | exact cmp_tf (by assumption) (by assumption) | exact cmp_ft (by assumption) (by assumption) | (rw [low_ff (by assumption) (by assumption)]; unfold lowT; omega))), aA⟩

set_option maxHeartbeats 4000000 in
theorem cmpR_any {a b : Tup} {p : Int} {w : World} :
    Calls Try.prog 24 #[tupV a, tupV b, .int .i64 (p)] w fun e w' => e = .returned (.int .i64 (cmpT a b p)) ∧ Ext w w' := by
 refine enter_ (args := [tupV a, tupV b, .int .i64 (p)]) Try.func24 rfl Try.ntmps24 (Nat.le_of_ble_eq_true rfl) (fun act0 f0 => ?_)
 have e0 : Ext w w := Ext.refl w
 refine wp_seq ?_
 refine At.start ?_
 refine At.seq f0 1 [[]] [(3, .pointer (some ⟨w.heap.size, 0, none⟩))] (w.alloc (.cells ((tupC a)).toArray 40 (0, 0))) [] (by kernel_rfl) trivial (fun act4 w1 hw2 f3 => ?_)
 clear f0; have g5 := gr_alloc hw2; have := g5.size; replace e0 := e0.gn g5; have bx8 : Bx w1 (w.heap.size) (tupC a) 40 := Bx.new hw2; have := bx8.lt; clear g5 hw2
 refine At.seq f3 1 [[]] [(4, .pointer (some ⟨w1.heap.size, 0, none⟩))] (w1.alloc (.cells ((tupC b)).toArray 40 (0, 0))) [] (by kernel_rfl) trivial (fun cQ w9 aP aY => ?_)
 clear f3; have aN := gr_alloc aP; have := aN.size; replace e0 := e0.gn aN; replace bx8 := bx8.gn aN; have aE : Bx w9 (w1.heap.size) (tupC b) 40 := Bx.new aP; have := aE.lt; clear aN aP
 refine At.rd aY 1 [[]] [(6, .int .i64 (0))] [] (by kernel_rfl) trivial (fun cR aZ => ?_)
 clear aY
 refine At.done rfl ?_
 refine t_n ?_
 have aO := aZ.sub (r := [(6, .int .i64 (0)), (4, .pointer (some ⟨w1.heap.size, 0, none⟩)), (3, .pointer (some ⟨w.heap.size, 0, none⟩)), (2, .int .i64 (p))]) ⟨rfl, rfl, rfl, rfl, trivial⟩
 clear aZ
 refine wp_seq ?_
 refine wp_seq ?_
 refine At.start ?_
 rcases Bool.eq_false_or_eq_true (a.top) with aD | aD
 ·refine At.rd aO 6 [[], [.ld (.bool (a.top))], [.as_ (.bool true)], [], [], []] [(13, .bool true), (12, undef), (11, undef), (10, .bool true), (9, .bool (a.top)), (8, .pointer (some ⟨w.heap.size, 0, none⟩))] [(w9.cell? ⟨w.heap.size, 0, none⟩ = some (.bool (a.top))), ((.bool (a.top) : Value) = .bool true)] (by kernel_rfl) ⟨(bx8.cell (i := 0) rfl), (congrArg Value.bool aD), trivial⟩ (fun cS bA => ?_)
  clear aO
  refine At.done rfl ?_
  refine t_n ?_
  have aQ := bA.sub (r := [(13, .bool true), (6, .int .i64 (0)), (4, .pointer (some ⟨w1.heap.size, 0, none⟩)), (3, .pointer (some ⟨w.heap.size, 0, none⟩)), (2, .int .i64 (p))]) ⟨rfl, rfl, rfl, rfl, rfl, trivial⟩
  clear bA
  refine cond_T aQ rfl ?_
  refine wp_seq ?_
  refine wp_seq ?_
  refine At.start ?_
  refine At.rd aQ 6 [[], [.ld (.bool (a.top))], [.as_ (.bool true)], [], [.ld (.bool (b.top))], []] [(19, .bool (b.top)), (18, .bool (b.top)), (17, .pointer (some ⟨w1.heap.size, 0, none⟩)), (16, .bool true), (15, .bool (a.top)), (14, .pointer (some ⟨w.heap.size, 0, none⟩))] [(w9.cell? ⟨w.heap.size, 0, none⟩ = some (.bool (a.top))), ((.bool (a.top) : Value) = .bool true), (w9.cell? ⟨w1.heap.size, 0, none⟩ = some (.bool (b.top)))] (by kernel_rfl) ⟨(bx8.cell (i := 0) rfl), (congrArg Value.bool aD), (aE.cell (i := 0) rfl), trivial⟩ (fun cT bB => ?_)
  clear aQ
  refine At.done rfl ?_
  refine t_n ?_
  have aF := bB.sub (r := [(19, .bool (b.top)), (3, .pointer (some ⟨w.heap.size, 0, none⟩))]) ⟨rfl, rfl, trivial⟩; clear bB
  refine cond_S aF (t := b.top) rfl (fun cF => ?_) (fun cF => ?_)
  ·refine wp_seq ?_
   refine At.start ?_
   refine At.rd aF 1 [[]] [(6, .int .i64 (0))] [] (by kernel_rfl) trivial (fun cU bC => ?_)
   clear aF
   refine At.done rfl ?_
   refine t_n ?_
   have cG := bC.sub (r := [(6, .int .i64 (0))]) ⟨rfl, trivial⟩; clear bC
   refine wp_ret ?_
   refine t_r ?_
   refine t_r ?_
   refine ret_ cG [] [.int .i64 (0)] [] (by kernel_rfl) trivial ?_
   exact ⟨ret_eq (congrArg (Value.int .i64) (by first | exact down_lt (by assumption) (by assumption) hdn (by omega) (by omega) (by omega) (by omega) | exact down_gt (by assumption) (by assumption) hdn (by omega) (by omega) (by omega) (by omega) | exact down_end (by assumption) (by assumption) hdn (by omega) (by omega) (by omega) | exact cmp_tt (by assumption) (by assumption) | exact cmp_tf (by assumption) (by assumption) | exact cmp_ft (by assumption) (by assumption) | (rw [low_ff (by assumption) (by assumption)]; unfold lowT; omega))), e0⟩
  refine wp_skip ?_
  refine t_n ?_
  have bD := aF.sub (r := [(3, .pointer (some ⟨w.heap.size, 0, none⟩))]) ⟨rfl, trivial⟩; clear aF
  refine wp_seq ?_
  refine wp_seq ?_
  refine At.start ?_
  refine At.rd bD 2 [[], [.ld (.bool (a.top))]] [(21, .bool (a.top)), (20, .pointer (some ⟨w.heap.size, 0, none⟩))] [(w9.cell? ⟨w.heap.size, 0, none⟩ = some (.bool (a.top)))] (by kernel_rfl) ⟨(bx8.cell (i := 0) rfl), trivial⟩ (fun cV bE => ?_)
  clear bD
  refine At.done rfl ?_
  refine t_n ?_
  have aR := bE.sub (r := [(21, .bool (a.top))]) ⟨rfl, trivial⟩; clear bE
  refine cond_S aR (t := a.top) rfl (fun hh => ?_) (fun hh => ?_)
  rotate_left
  · exact absurd (hh.symm.trans aD) (by decide)
  refine wp_seq ?_
  refine At.start ?_
  refine At.rd aR 1 [[]] [(6, .int .i64 (1))] [] (by kernel_rfl) trivial (fun cW bF => ?_)
  clear aR
  refine At.done rfl ?_
  refine t_n ?_
  have cH := bF.sub (r := [(6, .int .i64 (1))]) ⟨rfl, trivial⟩; clear bF
  refine wp_ret ?_
  refine t_r ?_
  refine t_r ?_
  refine ret_ cH [] [.int .i64 (1)] [] (by kernel_rfl) trivial ?_
  exact ⟨ret_eq (congrArg (Value.int .i64) (by first | exact down_lt (by assumption) (by assumption) hdn (by omega) (by omega) (by omega) (by omega) | exact down_gt (by assumption) (by assumption) hdn (by omega) (by omega) (by omega) (by omega) | exact down_end (by assumption) (by assumption) hdn (by omega) (by omega) (by omega) | exact cmp_tt (by assumption) (by assumption) | exact cmp_tf (by assumption) (by assumption) | exact cmp_ft (by assumption) (by assumption) | (rw [low_ff (by assumption) (by assumption)]; unfold lowT; omega))), e0⟩
 refine At.rd aO 6 [[], [.ld (.bool (a.top))], [.as_ (.bool false)], [], [.ld (.bool (b.top))], []] [(13, .bool (b.top)), (12, .bool (b.top)), (11, .pointer (some ⟨w1.heap.size, 0, none⟩)), (10, .bool false), (9, .bool (a.top)), (8, .pointer (some ⟨w.heap.size, 0, none⟩))] [(w9.cell? ⟨w.heap.size, 0, none⟩ = some (.bool (a.top))), ((.bool (a.top) : Value) = .bool false), (w9.cell? ⟨w1.heap.size, 0, none⟩ = some (.bool (b.top)))] (by kernel_rfl) ⟨(bx8.cell (i := 0) rfl), (congrArg Value.bool aD), (aE.cell (i := 0) rfl), trivial⟩ (fun cX bG => ?_)
 clear aO
 refine At.done rfl ?_
 refine t_n ?_
 have aG := bG.sub (r := [(13, .bool (b.top)), (6, .int .i64 (0)), (4, .pointer (some ⟨w1.heap.size, 0, none⟩)), (3, .pointer (some ⟨w.heap.size, 0, none⟩)), (2, .int .i64 (p))]) ⟨rfl, rfl, rfl, rfl, rfl, trivial⟩
 clear bG
 refine cond_S aG (t := b.top) rfl (fun cI => ?_) (fun cI => ?_)
 ·refine wp_seq ?_
  refine wp_seq ?_
  refine At.start ?_
  refine At.rd aG 6 [[], [.ld (.bool (a.top))], [.as_ (.bool false)], [], [], []] [(19, .bool false), (18, undef), (17, undef), (16, .bool false), (15, .bool (a.top)), (14, .pointer (some ⟨w.heap.size, 0, none⟩))] [(w9.cell? ⟨w.heap.size, 0, none⟩ = some (.bool (a.top))), ((.bool (a.top) : Value) = .bool false)] (by kernel_rfl) ⟨(bx8.cell (i := 0) rfl), (congrArg Value.bool aD), trivial⟩ (fun cY bH => ?_)
  clear aG
  refine At.done rfl ?_
  refine t_n ?_
  have aS := bH.sub (r := [(19, .bool false), (3, .pointer (some ⟨w.heap.size, 0, none⟩))]) ⟨rfl, rfl, trivial⟩; clear bH
  refine cond_F aS rfl ?_
  refine wp_skip ?_
  refine t_n ?_
  have bI := aS.sub (r := [(3, .pointer (some ⟨w.heap.size, 0, none⟩))]) ⟨rfl, trivial⟩; clear aS
  refine wp_seq ?_
  refine wp_seq ?_
  refine At.start ?_
  refine At.rd bI 2 [[], [.ld (.bool (a.top))]] [(21, .bool (a.top)), (20, .pointer (some ⟨w.heap.size, 0, none⟩))] [(w9.cell? ⟨w.heap.size, 0, none⟩ = some (.bool (a.top)))] (by kernel_rfl) ⟨(bx8.cell (i := 0) rfl), trivial⟩ (fun cZ bJ => ?_)
  clear bI
  refine At.done rfl ?_
  refine t_n ?_
  have aT := bJ.sub (r := [(21, .bool (a.top))]) ⟨rfl, trivial⟩; clear bJ
  refine cond_S aT (t := a.top) rfl (fun hh => ?_) (fun hh => ?_)
  · exact absurd (hh.symm.trans aD) (by decide)
  refine wp_skip ?_
  refine t_n ?_
  have bK := aT.sub (r := []) trivial; clear aT
  refine wp_seq ?_
  refine At.start ?_
  refine At.rd bK 1 [[]] [(6, .int .i64 (-1))] [] (by kernel_rfl) trivial (fun dA cJ => ?_)
  clear bK
  refine At.done rfl ?_
  refine t_n ?_
  refine wp_ret ?_
  refine t_r ?_
  refine ret_ cJ [] [.int .i64 (-1)] [] (by kernel_rfl) trivial ?_
  exact ⟨ret_eq (congrArg (Value.int .i64) (by first | exact down_lt (by assumption) (by assumption) hdn (by omega) (by omega) (by omega) (by omega) | exact down_gt (by assumption) (by assumption) hdn (by omega) (by omega) (by omega) (by omega) | exact down_end (by assumption) (by assumption) hdn (by omega) (by omega) (by omega) | exact cmp_tt (by assumption) (by assumption) | exact cmp_tf (by assumption) (by assumption) | exact cmp_ft (by assumption) (by assumption) | (rw [low_ff (by assumption) (by assumption)]; unfold lowT; omega))), e0⟩
 refine wp_skip ?_
 refine t_n ?_
 have bL := aG.sub (r := [(6, .int .i64 (0)), (4, .pointer (some ⟨w1.heap.size, 0, none⟩)), (3, .pointer (some ⟨w.heap.size, 0, none⟩)), (2, .int .i64 (p))]) ⟨rfl, rfl, rfl, rfl, trivial⟩
 clear aG
 refine wp_seq ?_
 refine wp_seq ?_
 refine At.start ?_
 refine At.rd bL 1 [[]] [(7, .int .i64 (3))] [] (by kernel_rfl) trivial (fun dB bM => ?_)
 clear bL
 refine At.done rfl ?_
 refine t_n ?_
 refine wp_block ?_
 have bN := bM.sub (r := [(7, .int .i64 (3)), (6, .int .i64 (0)), (4, .pointer (some ⟨w1.heap.size, 0, none⟩)), (3, .pointer (some ⟨w.heap.size, 0, none⟩)), (2, .int .i64 (p))]) ⟨rfl, rfl, rfl, rfl, rfl, trivial⟩
 refine loop_g (fun (m_ : Nat) a_ w_ => ∃ (k : Int), m_ = (k + 1).toNat ∧ (Frm 49 a_ [(7, .int .i64 (k)), (6, .int .i64 (0)), (4, .pointer (some ⟨w1.heap.size, 0, none⟩)), (3, .pointer (some ⟨w.heap.size, 0, none⟩)), (2, .int .i64 (p))]) ∧ (Ext w w_) ∧ (Bx w_ (w.heap.size) (tupC a) 40) ∧ (Bx w_ (w1.heap.size) (tupC b) 40) ∧ (-1 ≤ k) ∧ (k ≤ 3) ∧ (DownT a b p k)) _ ⟨3, rfl, bN, e0, bx8, aE, (by omega), (by omega), down0⟩ ?_
 clear bN bM; clear bx8; clear aE; clear e0
 intro m_ dC bO ⟨k, hm67, bP, aA, aB, aC, i71, i72, hdn⟩
 have := aA.size; have := aB.lt; have := aC.lt
 refine wp_seq ?_
 refine wp_seq ?_
 refine At.start ?_
 refine At.rd bP 2 [[], []] [(23, .bool (decide ((k : Int) ≥ 0))), (22, .int .i64 (k))] [] (by kernel_rfl) trivial (fun dD bQ => ?_)
 clear bP
 refine At.done rfl ?_
 refine t_n ?_
 have aH := bQ.sub (r := [(23, .bool (decide ((k : Int) ≥ 0))), (7, .int .i64 (k)), (6, .int .i64 (0)), (4, .pointer (some ⟨w1.heap.size, 0, none⟩)), (3, .pointer (some ⟨w.heap.size, 0, none⟩)), (2, .int .i64 (p))]) ⟨rfl, rfl, rfl, rfl, rfl, rfl, trivial⟩
 clear bQ
 refine cond_S aH (t := decide ((k : Int) ≥ 0)) rfl (fun aU => ?_) (fun aU => ?_)
 ·have dE := of_decide_eq_true aU
  refine wp_skip ?_
  refine t_n ?_
  have bR := aH.sub (r := [(7, .int .i64 (k)), (6, .int .i64 (0)), (4, .pointer (some ⟨w1.heap.size, 0, none⟩)), (3, .pointer (some ⟨w.heap.size, 0, none⟩)), (2, .int .i64 (p))]) ⟨rfl, rfl, rfl, rfl, rfl, trivial⟩
  clear aH
  refine wp_seq ?_
  refine wp_block ?_
  refine wp_seq ?_
  refine wp_seq ?_
  refine At.start ?_
  refine At.rd bR 5 [[], [.as_ (.int .i64 (2 * k))], [.as_ (.int .i64 ((2 * k) + 1))], [], []] [(30, .bool (decide (((2 * k) + 1 : Int) < p))), (29, .int .i64 (p)), (28, .int .i64 ((2 * k) + 1)), (27, .int .i64 (2 * k)), (26, .int .i64 (k))] [((.int .i64 (IntKind.i64.wrap (2 * k)) : Value) = .int .i64 (2 * k)), ((.int .i64 (IntKind.i64.wrap ((2 * k) + 1)) : Value) = .int .i64 ((2 * k) + 1))] (by kernel_rfl) ⟨(w64 (by omega) (by omega)), (w64 (by omega) (by omega)), trivial⟩ (fun dF bS => ?_)
  clear bR
  refine At.done rfl ?_
  refine t_n ?_
  have aI := bS.sub (r := [(30, .bool (decide (((2 * k) + 1 : Int) < p))), (7, .int .i64 (k)), (6, .int .i64 (0)), (4, .pointer (some ⟨w1.heap.size, 0, none⟩)), (3, .pointer (some ⟨w.heap.size, 0, none⟩)), (2, .int .i64 (p))]) ⟨rfl, rfl, rfl, rfl, rfl, rfl, trivial⟩
  clear bS
  refine cond_S aI (t := decide (((2 * k) + 1 : Int) < p)) rfl (fun aV => ?_) (fun aV => ?_)
  ·have dG := of_decide_eq_true aV
   refine wp_seq ?_
   refine At.start ?_
   refine At.rd aI 1 [[]] [(6, .int .i64 (0))] [] (by kernel_rfl) trivial (fun dH bT => ?_)
   clear aI
   refine At.done rfl ?_
   refine t_n ?_
   have cK := bT.sub (r := [(6, .int .i64 (0))]) ⟨rfl, trivial⟩; clear bT
   refine wp_ret ?_
   refine t_r ?_
   refine b_r ?_
   refine t_r ?_
   refine t_r ?_
   refine b_r ?_
   refine t_r ?_
   refine ret_ cK [] [.int .i64 (0)] [] (by kernel_rfl) trivial ?_
   exact ⟨ret_eq (congrArg (Value.int .i64) (by first | exact down_lt (by assumption) (by assumption) hdn (by omega) (by omega) (by omega) (by omega) | exact down_gt (by assumption) (by assumption) hdn (by omega) (by omega) (by omega) (by omega) | exact down_end (by assumption) (by assumption) hdn (by omega) (by omega) (by omega) | exact cmp_tt (by assumption) (by assumption) | exact cmp_tf (by assumption) (by assumption) | exact cmp_ft (by assumption) (by assumption) | (rw [low_ff (by assumption) (by assumption)]; unfold lowT; omega))), aA⟩
  have dI := of_decide_eq_false aV
  refine wp_skip ?_
  refine t_n ?_
  have bU := aI.sub (r := [(7, .int .i64 (k)), (6, .int .i64 (0)), (4, .pointer (some ⟨w1.heap.size, 0, none⟩)), (3, .pointer (some ⟨w.heap.size, 0, none⟩)), (2, .int .i64 (p))]) ⟨rfl, rfl, rfl, rfl, rfl, trivial⟩
  clear aI
  refine wp_seq ?_
  refine wp_seq ?_
  refine drawn_ro bU (by kernel_rfl) (by kernel_rfl) [[], [], [], [.ld (.int .i64 (gI [a.c0, a.c1, a.c2, a.c3] k))], [], [], [], [.ld (.int .i64 (gI [b.c0, b.c1, b.c2, b.c3] k))], []] [(39, .bool (decide ((gI [a.c0, a.c1, a.c2, a.c3] k : Int) < (gI [b.c0, b.c1, b.c2, b.c3] k)))), (38, .int .i64 (gI [b.c0, b.c1, b.c2, b.c3] k)), (37, .pointer (some ((⟨w1.heap.size, 1, none⟩ : Addr).add ((k : Int).toNat * 1)))), (36, .pointer (some ⟨w1.heap.size, 1, none⟩)), (35, .int .i64 (k)), (34, .int .i64 (gI [a.c0, a.c1, a.c2, a.c3] k)), (33, .pointer (some ((⟨w.heap.size, 1, none⟩ : Addr).add ((k : Int).toNat * 1)))), (32, .pointer (some ⟨w.heap.size, 1, none⟩)), (31, .int .i64 (k))] [(0 ≤ (k : Int)), ((k : Int) < (4 : Nat)), (bO.cell? ((⟨w.heap.size, 1, none⟩ : Addr).add ((k : Int).toNat * 1)) = some (.int .i64 (gI [a.c0, a.c1, a.c2, a.c3] k))), (0 ≤ (k : Int)), ((k : Int) < (4 : Nat)), (bO.cell? ((⟨w1.heap.size, 1, none⟩ : Addr).add ((k : Int).toNat * 1)) = some (.int .i64 (gI [b.c0, b.c1, b.c2, b.c3] k)))] (by kernel_rfl) ⟨(by omega), (by omega), (Bx.arr (pre := [.bool (a.top)]) (l := [a.c0, a.c1, a.c2, a.c3]) (post := []) aB rfl k (by omega) (by simp only [List.length_cons, List.length_nil]; omega)), (by omega), (by omega), (Bx.arr (pre := [.bool (b.top)]) (l := [b.c0, b.c1, b.c2, b.c3]) (post := []) aC rfl k (by omega) (by simp only [List.length_cons, List.length_nil]; omega)), trivial⟩ (fun dJ bV bW bX => ?_)
  clear bU; have aJ := gr_drew bW; have := aJ.size; replace aA := aA.gn aJ; replace aB := aB.gn aJ; replace aC := aC.gn aJ; clear aJ bW
  refine t_n ?_
  have aK := bX.sub (r := [(39, .bool (decide ((gI [a.c0, a.c1, a.c2, a.c3] k : Int) < (gI [b.c0, b.c1, b.c2, b.c3] k)))), (7, .int .i64 (k)), (6, .int .i64 (0)), (4, .pointer (some ⟨w1.heap.size, 0, none⟩)), (3, .pointer (some ⟨w.heap.size, 0, none⟩)), (2, .int .i64 (p))]) ⟨rfl, rfl, rfl, rfl, rfl, rfl, trivial⟩
  clear bX
  refine cond_S aK (t := decide ((gI [a.c0, a.c1, a.c2, a.c3] k : Int) < (gI [b.c0, b.c1, b.c2, b.c3] k))) rfl (fun aW => ?_) (fun aW => ?_)
  ·have dK := of_decide_eq_true aW
   refine wp_seq ?_
   refine At.start ?_
   refine At.rd aK 1 [[]] [(6, .int .i64 (-1))] [] (by kernel_rfl) trivial (fun dL bY => ?_)
   clear aK
   refine At.done rfl ?_
   refine t_n ?_
   have cL := bY.sub (r := [(6, .int .i64 (-1))]) ⟨rfl, trivial⟩; clear bY
   refine wp_ret ?_
   refine t_r ?_
   refine b_r ?_
   refine t_r ?_
   refine t_r ?_
   refine b_r ?_
   refine t_r ?_
   refine ret_ cL [] [.int .i64 (-1)] [] (by kernel_rfl) trivial ?_
   exact ⟨ret_eq (congrArg (Value.int .i64) (by first | exact down_lt (by assumption) (by assumption) hdn (by omega) (by omega) (by omega) (by omega) | exact down_gt (by assumption) (by assumption) hdn (by omega) (by omega) (by omega) (by omega) | exact down_end (by assumption) (by assumption) hdn (by omega) (by omega) (by omega) | exact cmp_tt (by assumption) (by assumption) | exact cmp_tf (by assumption) (by assumption) | exact cmp_ft (by assumption) (by assumption) | (rw [low_ff (by assumption) (by assumption)]; unfold lowT; omega))), aA⟩
  have dM := of_decide_eq_false aW
  refine wp_skip ?_
  refine t_n ?_
  have bZ := aK.sub (r := [(7, .int .i64 (k)), (6, .int .i64 (0)), (4, .pointer (some ⟨w1.heap.size, 0, none⟩)), (3, .pointer (some ⟨w.heap.size, 0, none⟩)), (2, .int .i64 (p))]) ⟨rfl, rfl, rfl, rfl, rfl, trivial⟩
  clear aK
  refine wp_seq ?_
  refine drawn_ro bZ (by kernel_rfl) (by kernel_rfl) [[], [], [], [.ld (.int .i64 (gI [a.c0, a.c1, a.c2, a.c3] k))], [], [], [], [.ld (.int .i64 (gI [b.c0, b.c1, b.c2, b.c3] k))], []] [(48, .bool (decide ((gI [a.c0, a.c1, a.c2, a.c3] k : Int) > (gI [b.c0, b.c1, b.c2, b.c3] k)))), (47, .int .i64 (gI [b.c0, b.c1, b.c2, b.c3] k)), (46, .pointer (some ((⟨w1.heap.size, 1, none⟩ : Addr).add ((k : Int).toNat * 1)))), (45, .pointer (some ⟨w1.heap.size, 1, none⟩)), (44, .int .i64 (k)), (43, .int .i64 (gI [a.c0, a.c1, a.c2, a.c3] k)), (42, .pointer (some ((⟨w.heap.size, 1, none⟩ : Addr).add ((k : Int).toNat * 1)))), (41, .pointer (some ⟨w.heap.size, 1, none⟩)), (40, .int .i64 (k))] [(0 ≤ (k : Int)), ((k : Int) < (4 : Nat)), (bV.cell? ((⟨w.heap.size, 1, none⟩ : Addr).add ((k : Int).toNat * 1)) = some (.int .i64 (gI [a.c0, a.c1, a.c2, a.c3] k))), (0 ≤ (k : Int)), ((k : Int) < (4 : Nat)), (bV.cell? ((⟨w1.heap.size, 1, none⟩ : Addr).add ((k : Int).toNat * 1)) = some (.int .i64 (gI [b.c0, b.c1, b.c2, b.c3] k)))] (by kernel_rfl) ⟨(by omega), (by omega), (Bx.arr (pre := [.bool (a.top)]) (l := [a.c0, a.c1, a.c2, a.c3]) (post := []) aB rfl k (by omega) (by simp only [List.length_cons, List.length_nil]; omega)), (by omega), (by omega), (Bx.arr (pre := [.bool (b.top)]) (l := [b.c0, b.c1, b.c2, b.c3]) (post := []) aC rfl k (by omega) (by simp only [List.length_cons, List.length_nil]; omega)), trivial⟩ (fun dN dO cA cB => ?_)
  clear bZ; have aL := gr_drew cA; have := aL.size; replace aA := aA.gn aL; replace aB := aB.gn aL; replace aC := aC.gn aL; clear aL cA
  refine t_n ?_
  have aM := cB.sub (r := [(48, .bool (decide ((gI [a.c0, a.c1, a.c2, a.c3] k : Int) > (gI [b.c0, b.c1, b.c2, b.c3] k)))), (7, .int .i64 (k)), (6, .int .i64 (0)), (4, .pointer (some ⟨w1.heap.size, 0, none⟩)), (3, .pointer (some ⟨w.heap.size, 0, none⟩)), (2, .int .i64 (p))]) ⟨rfl, rfl, rfl, rfl, rfl, rfl, trivial⟩
  clear cB
  refine cond_S aM (t := decide ((gI [a.c0, a.c1, a.c2, a.c3] k : Int) > (gI [b.c0, b.c1, b.c2, b.c3] k))) rfl (fun aX => ?_) (fun aX => ?_)
  ·have dP := of_decide_eq_true aX
   refine wp_seq ?_
   refine At.start ?_
   refine At.rd aM 1 [[]] [(6, .int .i64 (1))] [] (by kernel_rfl) trivial (fun dQ cC => ?_)
   clear aM
   refine At.done rfl ?_
   refine t_n ?_
   have cM := cC.sub (r := [(6, .int .i64 (1))]) ⟨rfl, trivial⟩; clear cC
   refine wp_ret ?_
   refine b_r ?_
   refine t_r ?_
   refine t_r ?_
   refine b_r ?_
   refine t_r ?_
   refine ret_ cM [] [.int .i64 (1)] [] (by kernel_rfl) trivial ?_
   exact ⟨ret_eq (congrArg (Value.int .i64) (by first | exact down_lt (by assumption) (by assumption) hdn (by omega) (by omega) (by omega) (by omega) | exact down_gt (by assumption) (by assumption) hdn (by omega) (by omega) (by omega) (by omega) | exact down_end (by assumption) (by assumption) hdn (by omega) (by omega) (by omega) | exact cmp_tt (by assumption) (by assumption) | exact cmp_tf (by assumption) (by assumption) | exact cmp_ft (by assumption) (by assumption) | (rw [low_ff (by assumption) (by assumption)]; unfold lowT; omega))), aA⟩
  have dR := of_decide_eq_false aX
  refine wp_skip ?_
  refine b_n ?_
  refine t_n ?_
  have cD := aM.sub (r := [(7, .int .i64 (k)), (6, .int .i64 (0)), (4, .pointer (some ⟨w1.heap.size, 0, none⟩)), (3, .pointer (some ⟨w.heap.size, 0, none⟩)), (2, .int .i64 (p))]) ⟨rfl, rfl, rfl, rfl, rfl, trivial⟩
  clear aM
  refine At.start ?_
  refine At.rd cD 3 [[], [.as_ (.int .i64 (k - 1))], []] [(7, .int .i64 (k - 1)), (25, .int .i64 (k - 1)), (24, .int .i64 (k))] [((.int .i64 (IntKind.i64.wrap (k - 1)) : Value) = .int .i64 (k - 1))] (by kernel_rfl) ⟨(w64 (by omega) (by omega)), trivial⟩ (fun dS cN => ?_)
  clear cD
  refine At.done rfl ?_
  refine t_n ?_
  have cO := cN.sub (r := [(7, .int .i64 (k - 1)), (6, .int .i64 (0)), (4, .pointer (some ⟨w1.heap.size, 0, none⟩)), (3, .pointer (some ⟨w.heap.size, 0, none⟩)), (2, .int .i64 (p))]) ⟨rfl, rfl, rfl, rfl, rfl, trivial⟩
  exact ⟨_, (by omega), (k - 1), rfl, cO, aA, aB, aC, (by omega), (by omega), (down_next hdn (by omega) (by omega) (by omega))⟩
 have dT := of_decide_eq_false aU
 refine wp_exit ?_
 refine t_e ?_
 clear hm67
 refine t_e ?_
 refine b_e ?_
 refine t_n ?_
 have cE := aH.sub (r := []) trivial; clear aH
 refine wp_seq ?_
 refine At.start ?_
 refine At.rd cE 1 [[]] [(6, .int .i64 (0))] [] (by kernel_rfl) trivial (fun dU cP => ?_)
 clear cE
 refine At.done rfl ?_
 refine t_n ?_
 refine wp_ret ?_
 refine ret_ cP [] [.int .i64 (0)] [] (by kernel_rfl) trivial ?_
 exact ⟨ret_eq (congrArg (Value.int .i64) (by first | exact down_lt (by assumption) (by assumption) hdn (by omega) (by omega) (by omega) (by omega) | exact down_gt (by assumption) (by assumption) hdn (by omega) (by omega) (by omega) (by omega) | exact down_end (by assumption) (by assumption) hdn (by omega) (by omega) (by omega) | exact cmp_tt (by assumption) (by assumption) | exact cmp_tf (by assumption) (by assumption) | exact cmp_ft (by assumption) (by assumption) | (rw [low_ff (by assumption) (by assumption)]; unfold lowT; omega))), aA⟩

end Go.Proofs.Ytklbpajmoklheaa
