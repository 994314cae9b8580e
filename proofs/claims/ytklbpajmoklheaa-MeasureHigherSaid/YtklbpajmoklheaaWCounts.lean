/-
  A walk of a Go function, printed by a program of this repo. Conditions: what the theorems name.
-/
import Derived.Test.YtklbpajmoklheaaPureTup
import Derived.Test.YtklbpajmoklheaaFz
set_option linter.unusedVariables false
set_option linter.unusedSimpArgs false
namespace Go.Proofs.Ytklbpajmoklheaa
open Go Go.RowKit

set_option maxHeartbeats 4000000 in
theorem counts_any {Ag0 Ag1 Ag2 : Option Addr} {cg0 cg1 cg2 : Nat} {g : GameL} {w : World} (rg : RdG w 0 w.heap.size Ag0 Ag1 Ag2 cg0 cg1 cg2 g) :
    Calls Try.prog 46 #[.agg #[.slice Ag0 g.ow.length cg0, .slice Ag1 g.pr.length cg1, .slice Ag2 g.mv.length cg2]] w fun e w' => e = .returned (.agg #[.int .i64 (cnt g.pr 1), .int .i64 (cnt g.pr 3), .int .i64 (cnt g.pr 5), .int .i64 (cnt g.pr 7)]) ∧ Ext w w' := by
 have hlg0 := rg.ow.len
 have hlg1 := rg.pr.len
 have hlg2 := rg.mv.len
 have hkg0 := rg.k0
 have hkg1 := rg.k1
 have hkg2 := rg.k2
 refine enter_ (args := [.agg #[.slice Ag0 g.ow.length cg0, .slice Ag1 g.pr.length cg1, .slice Ag2 g.mv.length cg2]]) Try.func46 rfl Try.ntmps46 (Nat.le_of_ble_eq_true rfl) (fun act0 f0 => ?_)
 have e0 := Ext.refl w
 refine wp_seq ?_
 refine At.start ?_
 refine At.seq f0 1 [[]] [(1, .pointer (some ⟨w.heap.size, 0, none⟩))] (w.alloc (.cells #[.slice Ag0 g.ow.length cg0, .slice Ag1 g.pr.length cg1, .slice Ag2 g.mv.length cg2] 25 (0, 0))) [] (by kernel_rfl) trivial (fun act4 w1 hw2 f3 => ?_)
 clear f0
 have g5 := gr_alloc hw2
 have szw1 := g5.size
 have e7 := e0.gr g5 no_row
 clear e0
 have r8 := rg.gr g5 (fun _ h => by cases h)
 clear rg
 have bx9 : Bx w1 (w.heap.size) [.slice Ag0 g.ow.length cg0, .slice Ag1 g.pr.length cg1, .slice Ag2 g.mv.length cg2] 25 := Bx.new hw2
 have := bx9.lt
 clear g5 hw2
 refine At.seq f3 1 [[]] [(2, .pointer (some ⟨w1.heap.size, 0, none⟩))] (w1.alloc (.cells #[.int .i64 (0), .int .i64 (0), .int .i64 (0), .int .i64 (0)] 38 (0, 0))) [] (by kernel_rfl) trivial (fun act13 w10 hw11 f12 => ?_)
 clear f3
 have g14 := gr_alloc hw11
 have szw10 := g14.size
 have e16 := e7.gr g14 no_row
 clear e7
 have r17 := r8.gr g14 (fun _ h => by cases h)
 clear r8
 have bx18 := bx9.gr g14 (by simp)
 clear bx9
 have bx19 : Bx w10 (w1.heap.size) [.int .i64 (0), .int .i64 (0), .int .i64 (0), .int .i64 (0)] 38 := Bx.new hw11
 have := bx19.lt
 clear g14 hw11
 refine At.done rfl ?_
 refine t_n ?_
 have f20 := f12.sub (r := [(2, .pointer (some ⟨w1.heap.size, 0, none⟩)), (1, .pointer (some ⟨w.heap.size, 0, none⟩))]) ⟨rfl, rfl, trivial⟩
 clear f12
 refine wp_seq ?_
 refine wp_seq ?_
 refine At.start ?_
 refine At.rd f20 4 [[], [.ld (.slice Ag1 g.pr.length cg1)], [], []] [(8, .int .i64 (0)), (7, .int .i64 (((g.pr.length : Nat) : Int))), (6, .slice Ag1 g.pr.length cg1), (5, .pointer (some ⟨w.heap.size, 1, none⟩))] [(w10.cell? ⟨w.heap.size, 1, none⟩ = some (.slice Ag1 g.pr.length cg1))] (by kernel_rfl) ⟨(bx18.cell (i := 1) rfl), trivial⟩ (fun act22 f21 => ?_)
 clear f20
 refine At.done rfl ?_
 refine t_n ?_
 have f23 := f21.sub (r := [(8, .int .i64 (0)), (7, .int .i64 (((g.pr.length : Nat) : Int))), (6, .slice Ag1 g.pr.length cg1), (2, .pointer (some ⟨w1.heap.size, 0, none⟩))]) ⟨rfl, rfl, rfl, rfl, trivial⟩
 clear f21
 refine wp_block ?_
 have f24 := f23.sub (r := [(8, .int .i64 (0)), (7, .int .i64 (((g.pr.length : Nat) : Int))), (6, .slice Ag1 g.pr.length cg1), (2, .pointer (some ⟨w1.heap.size, 0, none⟩))]) ⟨rfl, rfl, rfl, rfl, trivial⟩
 refine loop_g (fun (m_ : Nat) a_ w_ => ∃ (j : Int), m_ = ((g.pr.length : Int) - j).toNat ∧ (Frm 31 a_ [(8, .int .i64 (j)), (7, .int .i64 (((g.pr.length : Nat) : Int))), (6, .slice Ag1 g.pr.length cg1), (2, .pointer (some ⟨w1.heap.size, 0, none⟩))]) ∧ (Ext w w_) ∧ (RdG w_ 0 w.heap.size Ag0 Ag1 Ag2 cg0 cg1 cg2 g) ∧ (Bx w_ (w.heap.size) [.slice Ag0 g.ow.length cg0, .slice Ag1 g.pr.length cg1, .slice Ag2 g.mv.length cg2] 25) ∧ (Bx w_ (w1.heap.size) [.int .i64 (cnt (g.pr.take j.toNat) 1), .int .i64 (cnt (g.pr.take j.toNat) 3), .int .i64 (cnt (g.pr.take j.toNat) 5), .int .i64 (cnt (g.pr.take j.toNat) 7)] 38) ∧ (0 ≤ j) ∧ (j ≤ (g.pr.length : Int))) _ ⟨0, rfl, f24, e16, r17, bx18, (bx19.as (by simp only [cnt_zero])), (by omega), (by omega)⟩ ?_
 clear f24 f23
 clear r17
 clear bx18
 clear bx19
 clear e16
 intro m_ act25 w26 ⟨j, hm28, f29, e27, r30, bx31, bx32, i33, i34⟩
 have szw26 := e27.size
 have := bx31.lt
 have := bx32.lt
 have hcb : ∀ p, cnt (g.pr.take j.toNat) p ≤ g.pr.length := fun p => cs4_b
 have hcg : ∀ p, 0 ≤ cnt (g.pr.take j.toNat) p := fun p => cnt_ge _ _
 refine wp_seq ?_
 refine At.start ?_
 refine At.rd f29 1 [[]] [(9, .bool (decide ((j : Int) < ((g.pr.length : Nat) : Int))))] [] (by kernel_rfl) trivial (fun act36 f35 => ?_)
 clear f29
 refine At.done rfl ?_
 refine t_n ?_
 refine wp_seq ?_
 refine cond_S f35 (t := decide ((j : Int) < ((g.pr.length : Nat) : Int))) rfl (fun h37 => ?_) (fun h37 => ?_)
 ·have q38 := of_decide_eq_true h37
  refine wp_skip ?_
  refine t_n ?_
  have f39 := f35.sub (r := [(8, .int .i64 (j)), (7, .int .i64 (((g.pr.length : Nat) : Int))), (6, .slice Ag1 g.pr.length cg1), (2, .pointer (some ⟨w1.heap.size, 0, none⟩))]) ⟨rfl, rfl, rfl, rfl, trivial⟩
  clear f35
  refine wp_seq ?_
  refine wp_block ?_
  refine wp_seq ?_
  refine At.start ?_
  obtain ⟨ad40, hA41, _, _, hc42⟩ := RdI.get r30.pr (j) (by omega) (by omega)
  refine At.rd f39 3 [[.ad ad40], [.ld (.int .i64 (gI g.pr (j)))], []] [(4, .int .i64 (gI g.pr (j))), (11, .int .i64 (gI g.pr (j))), (10, .pointer (some (ad40.add ((j : Int).toNat * 1))))] [(Ag1 = some ad40), (0 ≤ (j : Int)), ((j : Int) < (g.pr.length : Nat)), (w26.cell? (ad40.add ((j : Int).toNat * 1)) = some (.int .i64 (gI g.pr (j))))] (by kernel_rfl) ⟨hA41, (by omega), (by omega), hc42, trivial⟩ (fun act44 f43 => ?_)
  clear f39
  refine At.done rfl ?_
  refine t_n ?_
  have f45 := f43.sub (r := [(4, .int .i64 (gI g.pr (j))), (8, .int .i64 (j)), (7, .int .i64 (((g.pr.length : Nat) : Int))), (6, .slice Ag1 g.pr.length cg1), (2, .pointer (some ⟨w1.heap.size, 0, none⟩))]) ⟨rfl, rfl, rfl, rfl, rfl, trivial⟩
  clear f43
  refine wp_seq ?_
  refine At.start ?_
  rcases Bool.eq_false_or_eq_true (decide ((gI g.pr (j) : Int) > 0)) with h46 | h46
  ·have q47 := of_decide_eq_true h46
   rcases Bool.eq_false_or_eq_true (decide ((gI g.pr (j) : Int) < 8)) with h48 | h48
   ·have q49 := of_decide_eq_true h48
    refine At.rd f45 11 [[], [], [.as_ (.bool true)], [], [], [], [.as_ (.bool true)], [], [], [], []] [(22, .bool (((gI g.pr (j) : Int).tmod 2 : Int) == 1)), (21, .bool (((gI g.pr (j) : Int).tmod 2 : Int) == 1)), (20, .int .i64 ((gI g.pr (j) : Int).tmod 2)), (19, .int .i64 (gI g.pr (j))), (18, .bool true), (17, .bool (decide ((gI g.pr (j) : Int) < 8))), (16, .bool (decide ((gI g.pr (j) : Int) < 8))), (15, .int .i64 (gI g.pr (j))), (14, .bool true), (13, .bool (decide ((gI g.pr (j) : Int) > 0))), (12, .int .i64 (gI g.pr (j)))] [((.bool (decide ((gI g.pr (j) : Int) > 0)) : Value) = .bool true), ((.bool (decide ((gI g.pr (j) : Int) < 8)) : Value) = .bool true), ((2 : Int) ≠ 0)] (by kernel_rfl) ⟨(congrArg Value.bool h46), (congrArg Value.bool h48), (by omega), trivial⟩ (fun act51 f50 => ?_)
    clear f45
    refine At.done rfl ?_
    refine t_n ?_
    have f52 := f50.sub (r := [(22, .bool (((gI g.pr (j) : Int).tmod 2 : Int) == 1)), (21, .bool (((gI g.pr (j) : Int).tmod 2 : Int) == 1)), (20, .int .i64 ((gI g.pr (j) : Int).tmod 2)), (19, .int .i64 (gI g.pr (j))), (16, .bool (decide ((gI g.pr (j) : Int) < 8))), (15, .int .i64 (gI g.pr (j))), (4, .int .i64 (gI g.pr (j))), (8, .int .i64 (j)), (7, .int .i64 (((g.pr.length : Nat) : Int))), (6, .slice Ag1 g.pr.length cg1), (2, .pointer (some ⟨w1.heap.size, 0, none⟩))]) ⟨rfl, rfl, rfl, rfl, rfl, rfl, rfl, rfl, rfl, rfl, rfl, trivial⟩
    clear f50
    refine cond_S f52 (t := ((gI g.pr (j) : Int).tmod 2 : Int) == 1) rfl (fun h53 => ?_) (fun h53 => ?_)
    ·have q54 := eq_of_beq h53
     have hd := tdiv_odd (p := gI g.pr j) ⟨by omega, by omega, by omega⟩
     have hd4 := gI4_b (i := (gI g.pr j).tdiv 2) hd.1 hd.2.1 ⟨hcg 1, hcb 1⟩ ⟨hcg 3, hcb 3⟩ ⟨hcg 5, hcb 5⟩ ⟨hcg 7, hcb 7⟩
     refine At.start ?_
     refine At.rd f52 6 [[], [.as_ (.int .i64 ((gI g.pr (j) : Int).tdiv 2))], [], [.ld (.int .i64 (gI [cnt (g.pr.take j.toNat) 1, cnt (g.pr.take j.toNat) 3, cnt (g.pr.take j.toNat) 5, cnt (g.pr.take j.toNat) 7] ((gI g.pr (j) : Int).tdiv 2)))], [.as_ (.int .i64 ((gI [cnt (g.pr.take j.toNat) 1, cnt (g.pr.take j.toNat) 3, cnt (g.pr.take j.toNat) 5, cnt (g.pr.take j.toNat) 7] ((gI g.pr (j) : Int).tdiv 2)) + 1))], []] [(28, .pointer (some ((⟨w1.heap.size, 0, none⟩ : Addr).add (((gI g.pr (j) : Int).tdiv 2 : Int).toNat * 1)))), (27, .int .i64 ((gI [cnt (g.pr.take j.toNat) 1, cnt (g.pr.take j.toNat) 3, cnt (g.pr.take j.toNat) 5, cnt (g.pr.take j.toNat) 7] ((gI g.pr (j) : Int).tdiv 2)) + 1)), (26, .int .i64 (gI [cnt (g.pr.take j.toNat) 1, cnt (g.pr.take j.toNat) 3, cnt (g.pr.take j.toNat) 5, cnt (g.pr.take j.toNat) 7] ((gI g.pr (j) : Int).tdiv 2))), (25, .pointer (some ((⟨w1.heap.size, 0, none⟩ : Addr).add (((gI g.pr (j) : Int).tdiv 2 : Int).toNat * 1)))), (24, .int .i64 ((gI g.pr (j) : Int).tdiv 2)), (23, .int .i64 (gI g.pr (j)))] [((2 : Int) ≠ 0), ((.int .i64 (IntKind.i64.wrap ((gI g.pr (j) : Int).tdiv 2)) : Value) = .int .i64 ((gI g.pr (j) : Int).tdiv 2)), (0 ≤ ((gI g.pr (j) : Int).tdiv 2 : Int)), (((gI g.pr (j) : Int).tdiv 2 : Int) < (4 : Nat)), (w26.cell? ((⟨w1.heap.size, 0, none⟩ : Addr).add (((gI g.pr (j) : Int).tdiv 2 : Int).toNat * 1)) = some (.int .i64 (gI [cnt (g.pr.take j.toNat) 1, cnt (g.pr.take j.toNat) 3, cnt (g.pr.take j.toNat) 5, cnt (g.pr.take j.toNat) 7] ((gI g.pr (j) : Int).tdiv 2)))), ((.int .i64 (IntKind.i64.wrap ((gI [cnt (g.pr.take j.toNat) 1, cnt (g.pr.take j.toNat) 3, cnt (g.pr.take j.toNat) 5, cnt (g.pr.take j.toNat) 7] ((gI g.pr (j) : Int).tdiv 2)) + 1)) : Value) = .int .i64 ((gI [cnt (g.pr.take j.toNat) 1, cnt (g.pr.take j.toNat) 3, cnt (g.pr.take j.toNat) 5, cnt (g.pr.take j.toNat) 7] ((gI g.pr (j) : Int).tdiv 2)) + 1)), (0 ≤ ((gI g.pr (j) : Int).tdiv 2 : Int)), (((gI g.pr (j) : Int).tdiv 2 : Int) < (4 : Nat))] (by kernel_rfl) ⟨(by omega), (w64 (by omega) (by omega)), (by omega), (by omega), (Bx.arr (pre := []) (l := [cnt (g.pr.take j.toNat) 1, cnt (g.pr.take j.toNat) 3, cnt (g.pr.take j.toNat) 5, cnt (g.pr.take j.toNat) 7]) (post := []) bx32 rfl ((gI g.pr (j) : Int).tdiv 2) (by omega) (by simp only [List.length_cons, List.length_nil]; omega)), (w64 (by omega) (by omega)), (by omega), (by omega), trivial⟩ (fun act56 f55 => ?_)
     clear f52
     refine At.act f55 (storeArr (pre := []) (l := [cnt (g.pr.take j.toNat) 1, cnt (g.pr.take j.toNat) 3, cnt (g.pr.take j.toNat) 5, cnt (g.pr.take j.toNat) 7]) (post := []) (t := 3) (v := (gI [cnt (g.pr.take j.toNat) 1, cnt (g.pr.take j.toNat) 3, cnt (g.pr.take j.toNat) 5, cnt (g.pr.take j.toNat) 7] ((gI g.pr (j) : Int).tdiv 2)) + 1) (i := (gI g.pr (j) : Int).tdiv 2) (by kernel_rfl) (by kernel_rfl) bx32 rfl rfl (by omega) (by simp only [List.length_cons, List.length_nil]; omega)) ?_
     rintro d_ v_ w57 ⟨rfl, g58, bx59⟩
     refine ⟨_, rfl, fun act61 f60 => ?_⟩
     clear f55
     replace bx59 : Bx w57 (w1.heap.size) [.int .i64 (if ((gI g.pr (j) : Int).tdiv 2) = 0 then (gI [cnt (g.pr.take j.toNat) 1, cnt (g.pr.take j.toNat) 3, cnt (g.pr.take j.toNat) 5, cnt (g.pr.take j.toNat) 7] ((gI g.pr (j) : Int).tdiv 2)) + 1 else cnt (g.pr.take j.toNat) 1), .int .i64 (if ((gI g.pr (j) : Int).tdiv 2) = 1 then (gI [cnt (g.pr.take j.toNat) 1, cnt (g.pr.take j.toNat) 3, cnt (g.pr.take j.toNat) 5, cnt (g.pr.take j.toNat) 7] ((gI g.pr (j) : Int).tdiv 2)) + 1 else cnt (g.pr.take j.toNat) 3), .int .i64 (if ((gI g.pr (j) : Int).tdiv 2) = 2 then (gI [cnt (g.pr.take j.toNat) 1, cnt (g.pr.take j.toNat) 3, cnt (g.pr.take j.toNat) 5, cnt (g.pr.take j.toNat) 7] ((gI g.pr (j) : Int).tdiv 2)) + 1 else cnt (g.pr.take j.toNat) 5), .int .i64 (if ((gI g.pr (j) : Int).tdiv 2) = 3 then (gI [cnt (g.pr.take j.toNat) 1, cnt (g.pr.take j.toNat) 3, cnt (g.pr.take j.toNat) 5, cnt (g.pr.take j.toNat) 7] ((gI g.pr (j) : Int).tdiv 2)) + 1 else cnt (g.pr.take j.toNat) 7)] 38 := bx59.as (by rw [set4 ((gI g.pr (j) : Int).tdiv 2) (by omega) (by omega)]; rfl)
     have szw57 := g58.size
     have e62 := e27.gr g58 (fun k h => by injection h; omega)
     clear e27
     have r63 := r30.gr g58 (fun k h => by injection h; omega)
     clear r30
     have bx64 := bx31.gr g58 (fun h => by injection h; omega)
     clear bx31
     clear bx32 g58
     refine At.done rfl ?_
     refine b_n ?_
     refine t_n ?_
     have f65 := f60.sub (r := [(21, .bool (((gI g.pr (j) : Int).tmod 2 : Int) == 1)), (20, .int .i64 ((gI g.pr (j) : Int).tmod 2)), (19, .int .i64 (gI g.pr (j))), (16, .bool (decide ((gI g.pr (j) : Int) < 8))), (15, .int .i64 (gI g.pr (j))), (8, .int .i64 (j)), (7, .int .i64 (((g.pr.length : Nat) : Int))), (6, .slice Ag1 g.pr.length cg1), (2, .pointer (some ⟨w1.heap.size, 0, none⟩))]) ⟨rfl, rfl, rfl, rfl, rfl, rfl, rfl, rfl, rfl, trivial⟩
     clear f60
     refine At.start ?_
     refine At.rd f65 2 [[.as_ (.int .i64 (j + 1))], []] [(8, .int .i64 (j + 1)), (29, .int .i64 (j + 1))] [((.int .i64 (IntKind.i64.wrap (j + 1)) : Value) = .int .i64 (j + 1))] (by kernel_rfl) ⟨(w64 (by omega) (by omega)), trivial⟩ (fun act67 f66 => ?_)
     clear f65
     refine At.done rfl ?_
     refine t_n ?_
     have f68 := f66.sub (r := [(8, .int .i64 (j + 1)), (7, .int .i64 (((g.pr.length : Nat) : Int))), (6, .slice Ag1 g.pr.length cg1), (2, .pointer (some ⟨w1.heap.size, 0, none⟩))]) ⟨rfl, rfl, rfl, rfl, trivial⟩
     exact ⟨_, (by omega), (j + 1), rfl, f68, e62, r63, bx64, bx59.as (by first | exact cs4_no (by omega) (by omega) (by omega) | exact cs4_yes (by omega) (by omega) ⟨by omega, by omega, by omega⟩ rfl), (by omega), (by omega)⟩
    ·have q69 := ne_of_beq_false h53
     refine wp_skip ?_
     refine b_n ?_
     refine t_n ?_
     have f70 := f52.sub (r := [(21, .bool (((gI g.pr (j) : Int).tmod 2 : Int) == 1)), (20, .int .i64 ((gI g.pr (j) : Int).tmod 2)), (19, .int .i64 (gI g.pr (j))), (16, .bool (decide ((gI g.pr (j) : Int) < 8))), (15, .int .i64 (gI g.pr (j))), (8, .int .i64 (j)), (7, .int .i64 (((g.pr.length : Nat) : Int))), (6, .slice Ag1 g.pr.length cg1), (2, .pointer (some ⟨w1.heap.size, 0, none⟩))]) ⟨rfl, rfl, rfl, rfl, rfl, rfl, rfl, rfl, rfl, trivial⟩
     clear f52
     refine At.start ?_
     refine At.rd f70 2 [[.as_ (.int .i64 (j + 1))], []] [(8, .int .i64 (j + 1)), (29, .int .i64 (j + 1))] [((.int .i64 (IntKind.i64.wrap (j + 1)) : Value) = .int .i64 (j + 1))] (by kernel_rfl) ⟨(w64 (by omega) (by omega)), trivial⟩ (fun act72 f71 => ?_)
     clear f70
     refine At.done rfl ?_
     refine t_n ?_
     have f73 := f71.sub (r := [(8, .int .i64 (j + 1)), (7, .int .i64 (((g.pr.length : Nat) : Int))), (6, .slice Ag1 g.pr.length cg1), (2, .pointer (some ⟨w1.heap.size, 0, none⟩))]) ⟨rfl, rfl, rfl, rfl, trivial⟩
     exact ⟨_, (by omega), (j + 1), rfl, f73, e27, r30, bx31, bx32.as (by first | exact cs4_no (by omega) (by omega) (by omega) | exact cs4_yes (by omega) (by omega) ⟨by omega, by omega, by omega⟩ rfl), (by omega), (by omega)⟩
   ·have q74 := of_decide_eq_false h48
    refine At.rd f45 11 [[], [], [.as_ (.bool true)], [], [], [], [.as_ (.bool false)], [], [], [], []] [(22, .bool false), (21, undef), (20, undef), (19, undef), (18, .bool false), (17, .bool (decide ((gI g.pr (j) : Int) < 8))), (16, .bool (decide ((gI g.pr (j) : Int) < 8))), (15, .int .i64 (gI g.pr (j))), (14, .bool true), (13, .bool (decide ((gI g.pr (j) : Int) > 0))), (12, .int .i64 (gI g.pr (j)))] [((.bool (decide ((gI g.pr (j) : Int) > 0)) : Value) = .bool true), ((.bool (decide ((gI g.pr (j) : Int) < 8)) : Value) = .bool false)] (by kernel_rfl) ⟨(congrArg Value.bool h46), (congrArg Value.bool h48), trivial⟩ (fun act76 f75 => ?_)
    clear f45
    refine At.done rfl ?_
    refine t_n ?_
    have f77 := f75.sub (r := [(22, .bool false), (16, .bool (decide ((gI g.pr (j) : Int) < 8))), (15, .int .i64 (gI g.pr (j))), (4, .int .i64 (gI g.pr (j))), (8, .int .i64 (j)), (7, .int .i64 (((g.pr.length : Nat) : Int))), (6, .slice Ag1 g.pr.length cg1), (2, .pointer (some ⟨w1.heap.size, 0, none⟩))]) ⟨rfl, rfl, rfl, rfl, rfl, rfl, rfl, rfl, trivial⟩
    clear f75
    refine cond_F f77 rfl ?_
    refine wp_skip ?_
    refine b_n ?_
    refine t_n ?_
    have f78 := f77.sub (r := [(16, .bool (decide ((gI g.pr (j) : Int) < 8))), (15, .int .i64 (gI g.pr (j))), (8, .int .i64 (j)), (7, .int .i64 (((g.pr.length : Nat) : Int))), (6, .slice Ag1 g.pr.length cg1), (2, .pointer (some ⟨w1.heap.size, 0, none⟩))]) ⟨rfl, rfl, rfl, rfl, rfl, rfl, trivial⟩
    clear f77
    refine At.start ?_
    refine At.rd f78 2 [[.as_ (.int .i64 (j + 1))], []] [(8, .int .i64 (j + 1)), (29, .int .i64 (j + 1))] [((.int .i64 (IntKind.i64.wrap (j + 1)) : Value) = .int .i64 (j + 1))] (by kernel_rfl) ⟨(w64 (by omega) (by omega)), trivial⟩ (fun act80 f79 => ?_)
    clear f78
    refine At.done rfl ?_
    refine t_n ?_
    have f81 := f79.sub (r := [(8, .int .i64 (j + 1)), (7, .int .i64 (((g.pr.length : Nat) : Int))), (6, .slice Ag1 g.pr.length cg1), (2, .pointer (some ⟨w1.heap.size, 0, none⟩))]) ⟨rfl, rfl, rfl, rfl, trivial⟩
    exact ⟨_, (by omega), (j + 1), rfl, f81, e27, r30, bx31, bx32.as (by first | exact cs4_no (by omega) (by omega) (by omega) | exact cs4_yes (by omega) (by omega) ⟨by omega, by omega, by omega⟩ rfl), (by omega), (by omega)⟩
  ·have q82 := of_decide_eq_false h46
   refine At.rd f45 11 [[], [], [.as_ (.bool false)], [], [], [], [], [], [], [], []] [(22, .bool false), (21, undef), (20, undef), (19, undef), (18, .bool false), (17, .bool false), (16, undef), (15, undef), (14, .bool false), (13, .bool (decide ((gI g.pr (j) : Int) > 0))), (12, .int .i64 (gI g.pr (j)))] [((.bool (decide ((gI g.pr (j) : Int) > 0)) : Value) = .bool false)] (by kernel_rfl) ⟨(congrArg Value.bool h46), trivial⟩ (fun act84 f83 => ?_)
   clear f45
   refine At.done rfl ?_
   refine t_n ?_
   have f85 := f83.sub (r := [(22, .bool false), (4, .int .i64 (gI g.pr (j))), (8, .int .i64 (j)), (7, .int .i64 (((g.pr.length : Nat) : Int))), (6, .slice Ag1 g.pr.length cg1), (2, .pointer (some ⟨w1.heap.size, 0, none⟩))]) ⟨rfl, rfl, rfl, rfl, rfl, rfl, trivial⟩
   clear f83
   refine cond_F f85 rfl ?_
   refine wp_skip ?_
   refine b_n ?_
   refine t_n ?_
   have f86 := f85.sub (r := [(8, .int .i64 (j)), (7, .int .i64 (((g.pr.length : Nat) : Int))), (6, .slice Ag1 g.pr.length cg1), (2, .pointer (some ⟨w1.heap.size, 0, none⟩))]) ⟨rfl, rfl, rfl, rfl, trivial⟩
   clear f85
   refine At.start ?_
   refine At.rd f86 2 [[.as_ (.int .i64 (j + 1))], []] [(8, .int .i64 (j + 1)), (29, .int .i64 (j + 1))] [((.int .i64 (IntKind.i64.wrap (j + 1)) : Value) = .int .i64 (j + 1))] (by kernel_rfl) ⟨(w64 (by omega) (by omega)), trivial⟩ (fun act88 f87 => ?_)
   clear f86
   refine At.done rfl ?_
   refine t_n ?_
   have f89 := f87.sub (r := [(8, .int .i64 (j + 1)), (7, .int .i64 (((g.pr.length : Nat) : Int))), (6, .slice Ag1 g.pr.length cg1), (2, .pointer (some ⟨w1.heap.size, 0, none⟩))]) ⟨rfl, rfl, rfl, rfl, trivial⟩
   exact ⟨_, (by omega), (j + 1), rfl, f89, e27, r30, bx31, bx32.as (by first | exact cs4_no (by omega) (by omega) (by omega) | exact cs4_yes (by omega) (by omega) ⟨by omega, by omega, by omega⟩ rfl), (by omega), (by omega)⟩
 ·have q90 := of_decide_eq_false h37
  refine wp_exit ?_
  refine t_e ?_
  refine t_e ?_
  refine b_e ?_
  refine t_n ?_
  have f91 := f35.sub (r := [(2, .pointer (some ⟨w1.heap.size, 0, none⟩))]) ⟨rfl, trivial⟩
  clear f35
  refine wp_seq ?_
  refine At.start ?_
  refine At.rd f91 1 [[.ld (.int .i64 (cnt (g.pr.take j.toNat) 1)), .ld (.int .i64 (cnt (g.pr.take j.toNat) 3)), .ld (.int .i64 (cnt (g.pr.take j.toNat) 5)), .ld (.int .i64 (cnt (g.pr.take j.toNat) 7))]] [(30, .agg #[.int .i64 (cnt (g.pr.take j.toNat) 1), .int .i64 (cnt (g.pr.take j.toNat) 3), .int .i64 (cnt (g.pr.take j.toNat) 5), .int .i64 (cnt (g.pr.take j.toNat) 7)])] [(w26.cell? ⟨w1.heap.size, 0, none⟩ = some (.int .i64 (cnt (g.pr.take j.toNat) 1))), (w26.cell? ⟨w1.heap.size, 1, none⟩ = some (.int .i64 (cnt (g.pr.take j.toNat) 3))), (w26.cell? ⟨w1.heap.size, 2, none⟩ = some (.int .i64 (cnt (g.pr.take j.toNat) 5))), (w26.cell? ⟨w1.heap.size, 3, none⟩ = some (.int .i64 (cnt (g.pr.take j.toNat) 7)))] (by kernel_rfl) ⟨(bx32.cell (i := 0) rfl), (bx32.cell (i := 1) rfl), (bx32.cell (i := 2) rfl), (bx32.cell (i := 3) rfl), trivial⟩ (fun act93 f92 => ?_)
  clear f91
  refine At.store f92 (t := 38) (b := w1.heap.size) (off := 0) (v := .agg #[.int .i64 (cnt (g.pr.take j.toNat) 1), .int .i64 (cnt (g.pr.take j.toNat) 3), .int .i64 (cnt (g.pr.take j.toNat) 5), .int .i64 (cnt (g.pr.take j.toNat) 7)]) (by kernel_rfl) bx32 (by kernel_rfl) (fun act98 w94 g95 bx96 f97 => ?_)
  clear f92
  replace bx96 : Bx w94 (w1.heap.size) [.int .i64 (cnt (g.pr.take j.toNat) 1), .int .i64 (cnt (g.pr.take j.toNat) 3), .int .i64 (cnt (g.pr.take j.toNat) 5), .int .i64 (cnt (g.pr.take j.toNat) 7)] 38 := bx96
  have szw94 := g95.size
  have e99 := e27.gr g95 (fun k h => by injection h; omega)
  clear e27
  have r100 := r30.gr g95 (fun k h => by injection h; omega)
  clear r30
  have bx101 := bx31.gr g95 (fun h => by injection h; omega)
  clear bx31
  clear bx32 g95
  refine At.done rfl ?_
  refine t_n ?_
  have f102 := f97.sub (r := [(2, .pointer (some ⟨w1.heap.size, 0, none⟩))]) ⟨rfl, trivial⟩
  clear f97
  refine wp_ret ?_
  refine ret_ f102 [[.int .i64 (cnt (g.pr.take j.toNat) 1), .int .i64 (cnt (g.pr.take j.toNat) 3), .int .i64 (cnt (g.pr.take j.toNat) 5), .int .i64 (cnt (g.pr.take j.toNat) 7)]] [.agg #[.int .i64 (cnt (g.pr.take j.toNat) 1), .int .i64 (cnt (g.pr.take j.toNat) 3), .int .i64 (cnt (g.pr.take j.toNat) 5), .int .i64 (cnt (g.pr.take j.toNat) 7)]] [(w94.cell? ⟨w1.heap.size, 0, none⟩ = some (.int .i64 (cnt (g.pr.take j.toNat) 1))), (w94.cell? ⟨w1.heap.size, 1, none⟩ = some (.int .i64 (cnt (g.pr.take j.toNat) 3))), (w94.cell? ⟨w1.heap.size, 2, none⟩ = some (.int .i64 (cnt (g.pr.take j.toNat) 5))), (w94.cell? ⟨w1.heap.size, 3, none⟩ = some (.int .i64 (cnt (g.pr.take j.toNat) 7)))] (by kernel_rfl) ⟨(bx96.cell (i := 0) rfl), (bx96.cell (i := 1) rfl), (bx96.cell (i := 2) rfl), (bx96.cell (i := 3) rfl), trivial⟩ ?_
  exact ⟨by simp only [cnt_all (l := g.pr) (j := j) _ (by omega)]; rfl, e99⟩

set_option maxHeartbeats 4000000 in
theorem many_any {Ag0 Ag1 Ag2 : Option Addr} {cg0 cg1 cg2 : Nat} {g : GameL} {p : Int} {w : World} (rg : RdG w 0 w.heap.size Ag0 Ag1 Ag2 cg0 cg1 cg2 g) :
    Calls Try.prog 56 #[.agg #[.slice Ag0 g.ow.length cg0, .slice Ag1 g.pr.length cg1, .slice Ag2 g.mv.length cg2], .int .i64 (p)] w fun e w' => e = .returned (.int .i64 (cnt g.pr p)) ∧ Ext w w' := by
 have hlg0 := rg.ow.len
 have hlg1 := rg.pr.len
 have hlg2 := rg.mv.len
 have hkg0 := rg.k0
 have hkg1 := rg.k1
 have hkg2 := rg.k2
 refine enter_ (args := [.agg #[.slice Ag0 g.ow.length cg0, .slice Ag1 g.pr.length cg1, .slice Ag2 g.mv.length cg2], .int .i64 (p)]) Try.func56 rfl Try.ntmps56 (Nat.le_of_ble_eq_true rfl) (fun act0 f0 => ?_)
 have e0 := Ext.refl w
 refine wp_seq ?_
 refine At.start ?_
 refine At.seq f0 1 [[]] [(2, .pointer (some ⟨w.heap.size, 0, none⟩))] (w.alloc (.cells #[.slice Ag0 g.ow.length cg0, .slice Ag1 g.pr.length cg1, .slice Ag2 g.mv.length cg2] 25 (0, 0))) [] (by kernel_rfl) trivial (fun act4 w1 hw2 f3 => ?_)
 clear f0
 have g5 := gr_alloc hw2
 have szw1 := g5.size
 have e7 := e0.gr g5 no_row
 clear e0
 have r8 := rg.gr g5 (fun _ h => by cases h)
 clear rg
 have bx9 : Bx w1 (w.heap.size) [.slice Ag0 g.ow.length cg0, .slice Ag1 g.pr.length cg1, .slice Ag2 g.mv.length cg2] 25 := Bx.new hw2
 have := bx9.lt
 clear g5 hw2
 refine At.rd f3 1 [[]] [(4, .int .i64 (0))] [] (by kernel_rfl) trivial (fun act11 f10 => ?_)
 clear f3
 refine At.done rfl ?_
 refine t_n ?_
 have f12 := f10.sub (r := [(4, .int .i64 (0)), (2, .pointer (some ⟨w.heap.size, 0, none⟩)), (1, .int .i64 (p))]) ⟨rfl, rfl, rfl, trivial⟩
 clear f10
 refine wp_seq ?_
 refine At.start ?_
 refine At.rd f12 1 [[]] [(5, .int .i64 (0))] [] (by kernel_rfl) trivial (fun act14 f13 => ?_)
 clear f12
 refine At.done rfl ?_
 refine t_n ?_
 refine wp_seq ?_
 refine wp_seq ?_
 refine At.start ?_
 refine At.rd f13 1 [[]] [(6, .int .i64 (0))] [] (by kernel_rfl) trivial (fun act16 f15 => ?_)
 clear f13
 refine At.done rfl ?_
 refine t_n ?_
 refine wp_block ?_
 have f18 := f15.as 5 (.int .i64 (0)) (.int .i64 (cnt (g.pr.take (0 : Int).toNat) p)) rfl (congrArg (Value.int .i64) ((cnt_zero _ _).symm))
 clear f15
 have f17 := f18.sub (r := [(6, .int .i64 (0)), (5, .int .i64 (cnt (g.pr.take (0 : Int).toNat) p)), (4, .int .i64 (0)), (2, .pointer (some ⟨w.heap.size, 0, none⟩)), (1, .int .i64 (p))]) ⟨rfl, rfl, rfl, rfl, rfl, trivial⟩
 refine loop_g (fun (m_ : Nat) a_ w_ => ∃ (j : Int), m_ = ((g.pr.length : Int) - j).toNat ∧ (Frm 24 a_ [(6, .int .i64 (j)), (5, .int .i64 (cnt (g.pr.take j.toNat) p)), (4, .int .i64 (0)), (2, .pointer (some ⟨w.heap.size, 0, none⟩)), (1, .int .i64 (p))]) ∧ (Ext w w_) ∧ (RdG w_ 0 w.heap.size Ag0 Ag1 Ag2 cg0 cg1 cg2 g) ∧ (Bx w_ (w.heap.size) [.slice Ag0 g.ow.length cg0, .slice Ag1 g.pr.length cg1, .slice Ag2 g.mv.length cg2] 25) ∧ (0 ≤ j) ∧ (j ≤ (g.pr.length : Int))) _ ⟨0, rfl, f17, e7, r8, bx9, (by omega), (by omega)⟩ ?_
 clear f17 f18
 clear r8
 clear bx9
 clear e7
 intro m_ act19 w20 ⟨j, hm22, f23, e21, r24, bx25, i26, i27⟩
 have szw20 := e21.size
 have := bx25.lt
 have hcb : cnt (g.pr.take j.toNat) p ≤ g.pr.length := cs4_b
 have hcg : 0 ≤ cnt (g.pr.take j.toNat) p := cnt_ge _ _
 refine wp_seq ?_
 refine wp_seq ?_
 refine At.start ?_
 refine At.rd f23 5 [[], [], [.ld (.slice Ag1 g.pr.length cg1)], [], []] [(11, .bool (decide ((j : Int) < ((g.pr.length : Nat) : Int)))), (10, .int .i64 (((g.pr.length : Nat) : Int))), (9, .slice Ag1 g.pr.length cg1), (8, .pointer (some ⟨w.heap.size, 1, none⟩)), (7, .int .i64 (j))] [(w20.cell? ⟨w.heap.size, 1, none⟩ = some (.slice Ag1 g.pr.length cg1))] (by kernel_rfl) ⟨(bx25.cell (i := 1) rfl), trivial⟩ (fun act29 f28 => ?_)
 clear f23
 refine At.done rfl ?_
 refine t_n ?_
 have f30 := f28.sub (r := [(11, .bool (decide ((j : Int) < ((g.pr.length : Nat) : Int)))), (6, .int .i64 (j)), (5, .int .i64 (cnt (g.pr.take j.toNat) p)), (4, .int .i64 (0)), (2, .pointer (some ⟨w.heap.size, 0, none⟩)), (1, .int .i64 (p))]) ⟨rfl, rfl, rfl, rfl, rfl, rfl, trivial⟩
 clear f28
 refine cond_S f30 (t := decide ((j : Int) < ((g.pr.length : Nat) : Int))) rfl (fun h31 => ?_) (fun h31 => ?_)
 ·have q32 := of_decide_eq_true h31
  refine wp_skip ?_
  refine t_n ?_
  have f33 := f30.sub (r := [(6, .int .i64 (j)), (5, .int .i64 (cnt (g.pr.take j.toNat) p)), (4, .int .i64 (0)), (2, .pointer (some ⟨w.heap.size, 0, none⟩)), (1, .int .i64 (p))]) ⟨rfl, rfl, rfl, rfl, rfl, trivial⟩
  clear f30
  refine wp_seq ?_
  refine wp_block ?_
  refine wp_seq ?_
  refine At.start ?_
  obtain ⟨ad34, hA35, _, _, hc36⟩ := RdI.get r24.pr (j) (by omega) (by omega)
  refine At.rd f33 7 [[], [.ld (.slice Ag1 g.pr.length cg1)], [], [.ad ad34], [.ld (.int .i64 (gI g.pr (j)))], [], []] [(20, .bool ((gI g.pr (j) : Int) == p)), (19, .int .i64 (p)), (18, .int .i64 (gI g.pr (j))), (17, .pointer (some (ad34.add ((j : Int).toNat * 1)))), (16, .int .i64 (j)), (15, .slice Ag1 g.pr.length cg1), (14, .pointer (some ⟨w.heap.size, 1, none⟩))] [(w20.cell? ⟨w.heap.size, 1, none⟩ = some (.slice Ag1 g.pr.length cg1)), (Ag1 = some ad34), (0 ≤ (j : Int)), ((j : Int) < (g.pr.length : Nat)), (w20.cell? (ad34.add ((j : Int).toNat * 1)) = some (.int .i64 (gI g.pr (j))))] (by kernel_rfl) ⟨(bx25.cell (i := 1) rfl), hA35, (by omega), (by omega), hc36, trivial⟩ (fun act38 f37 => ?_)
  clear f33
  refine At.done rfl ?_
  refine t_n ?_
  have f39 := f37.sub (r := [(20, .bool ((gI g.pr (j) : Int) == p)), (6, .int .i64 (j)), (5, .int .i64 (cnt (g.pr.take j.toNat) p)), (4, .int .i64 (0)), (2, .pointer (some ⟨w.heap.size, 0, none⟩)), (1, .int .i64 (p))]) ⟨rfl, rfl, rfl, rfl, rfl, rfl, trivial⟩
  clear f37
  refine cond_S f39 (t := (gI g.pr (j) : Int) == p) rfl (fun h40 => ?_) (fun h40 => ?_)
  ·have q41 := eq_of_beq h40
   refine At.start ?_
   refine At.rd f39 3 [[], [.as_ (.int .i64 ((cnt (g.pr.take j.toNat) p) + 1))], []] [(5, .int .i64 ((cnt (g.pr.take j.toNat) p) + 1)), (22, .int .i64 ((cnt (g.pr.take j.toNat) p) + 1)), (21, .int .i64 (cnt (g.pr.take j.toNat) p))] [((.int .i64 (IntKind.i64.wrap ((cnt (g.pr.take j.toNat) p) + 1)) : Value) = .int .i64 ((cnt (g.pr.take j.toNat) p) + 1))] (by kernel_rfl) ⟨(w64 (by omega) (by omega)), trivial⟩ (fun act43 f42 => ?_)
   clear f39
   refine At.done rfl ?_
   refine b_n ?_
   refine t_n ?_
   have f44 := f42.sub (r := [(5, .int .i64 ((cnt (g.pr.take j.toNat) p) + 1)), (6, .int .i64 (j)), (4, .int .i64 (0)), (2, .pointer (some ⟨w.heap.size, 0, none⟩)), (1, .int .i64 (p))]) ⟨rfl, rfl, rfl, rfl, rfl, trivial⟩
   clear f42
   refine At.start ?_
   refine At.rd f44 3 [[], [.as_ (.int .i64 (j + 1))], []] [(6, .int .i64 (j + 1)), (13, .int .i64 (j + 1)), (12, .int .i64 (j))] [((.int .i64 (IntKind.i64.wrap (j + 1)) : Value) = .int .i64 (j + 1))] (by kernel_rfl) ⟨(w64 (by omega) (by omega)), trivial⟩ (fun act46 f45 => ?_)
   clear f44
   refine At.done rfl ?_
   refine t_n ?_
   have f47 := f45.as 5 (.int .i64 ((cnt (g.pr.take j.toNat) p) + 1)) (.int .i64 (cnt (g.pr.take ((j + 1) : Int).toNat) p)) rfl (congrArg (Value.int .i64) (by rw [cnt_next p (by omega) (by omega)]; first | rw [if_pos (by omega)] | rw [if_neg (by omega)]))
   clear f45
   have f48 := f47.sub (r := [(6, .int .i64 (j + 1)), (5, .int .i64 (cnt (g.pr.take ((j + 1) : Int).toNat) p)), (4, .int .i64 (0)), (2, .pointer (some ⟨w.heap.size, 0, none⟩)), (1, .int .i64 (p))]) ⟨rfl, rfl, rfl, rfl, rfl, trivial⟩
   exact ⟨_, (by omega), (j + 1), rfl, f48, e21, r24, bx25, (by omega), (by omega)⟩
  ·have q49 := ne_of_beq_false h40
   refine wp_skip ?_
   refine b_n ?_
   refine t_n ?_
   have f50 := f39.sub (r := [(6, .int .i64 (j)), (5, .int .i64 (cnt (g.pr.take j.toNat) p)), (4, .int .i64 (0)), (2, .pointer (some ⟨w.heap.size, 0, none⟩)), (1, .int .i64 (p))]) ⟨rfl, rfl, rfl, rfl, rfl, trivial⟩
   clear f39
   refine At.start ?_
   refine At.rd f50 3 [[], [.as_ (.int .i64 (j + 1))], []] [(6, .int .i64 (j + 1)), (13, .int .i64 (j + 1)), (12, .int .i64 (j))] [((.int .i64 (IntKind.i64.wrap (j + 1)) : Value) = .int .i64 (j + 1))] (by kernel_rfl) ⟨(w64 (by omega) (by omega)), trivial⟩ (fun act52 f51 => ?_)
   clear f50
   refine At.done rfl ?_
   refine t_n ?_
   have f53 := f51.as 5 (.int .i64 (cnt (g.pr.take j.toNat) p)) (.int .i64 (cnt (g.pr.take ((j + 1) : Int).toNat) p)) rfl (congrArg (Value.int .i64) (by rw [cnt_next p (by omega) (by omega)]; first | rw [if_pos (by omega)] | rw [if_neg (by omega)]))
   clear f51
   have f54 := f53.sub (r := [(6, .int .i64 (j + 1)), (5, .int .i64 (cnt (g.pr.take ((j + 1) : Int).toNat) p)), (4, .int .i64 (0)), (2, .pointer (some ⟨w.heap.size, 0, none⟩)), (1, .int .i64 (p))]) ⟨rfl, rfl, rfl, rfl, rfl, trivial⟩
   exact ⟨_, (by omega), (j + 1), rfl, f54, e21, r24, bx25, (by omega), (by omega)⟩
 ·have q55 := of_decide_eq_false h31
  refine wp_exit ?_
  refine t_e ?_
  refine t_e ?_
  refine b_e ?_
  refine t_n ?_
  have f56 := f30.sub (r := [(5, .int .i64 (cnt (g.pr.take j.toNat) p))]) ⟨rfl, trivial⟩
  clear f30
  refine wp_seq ?_
  refine At.start ?_
  refine At.rd f56 2 [[], []] [(4, .int .i64 (cnt (g.pr.take j.toNat) p)), (23, .int .i64 (cnt (g.pr.take j.toNat) p))] [] (by kernel_rfl) trivial (fun act58 f57 => ?_)
  clear f56
  refine At.done rfl ?_
  refine t_n ?_
  have f59 := f57.sub (r := [(4, .int .i64 (cnt (g.pr.take j.toNat) p))]) ⟨rfl, trivial⟩
  clear f57
  refine wp_ret ?_
  refine ret_ f59 [] [.int .i64 (cnt (g.pr.take j.toNat) p)] [] (by kernel_rfl) trivial ?_
  exact ⟨ret_eq (congrArg (Value.int .i64) (cnt_all (l := g.pr) (j := j) _ (by omega))), e21⟩

end Go.Proofs.Ytklbpajmoklheaa
