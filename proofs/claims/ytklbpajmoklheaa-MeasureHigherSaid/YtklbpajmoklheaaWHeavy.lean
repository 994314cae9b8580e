/-
  A walk of a Go function, printed by a program of this repo. Conditions: what the theorems name.
-/
import Derived.Test.YtklbpajmoklheaaPureHeavy
import Derived.Test.YtklbpajmoklheaaFz
set_option linter.unusedVariables false
set_option linter.unusedSimpArgs false
namespace Go.Proofs.Ytklbpajmoklheaa
open Go Go.RowKit

set_option maxHeartbeats 4000000 in
theorem heavy_any {Ag0 Ag1 Ag2 : Option Addr} {cg0 cg1 cg2 : Nat} {g : GameL} {w : World} (rg : RdG w 0 w.heap.size Ag0 Ag1 Ag2 cg0 cg1 cg2 g) :
    Calls Try.prog 25 #[.agg #[.slice Ag0 g.ow.length cg0, .slice Ag1 g.pr.length cg1, .slice Ag2 g.mv.length cg2]] w fun e w' => ∃ b : Bool, e = .returned (.bool b) ∧ Ext w w' := by
 have hlg0 := rg.ow.len
 have hlg1 := rg.pr.len
 have hlg2 := rg.mv.len
 have hkg0 := rg.k0
 have hkg1 := rg.k1
 have hkg2 := rg.k2
 refine enter_ (args := [.agg #[.slice Ag0 g.ow.length cg0, .slice Ag1 g.pr.length cg1, .slice Ag2 g.mv.length cg2]]) Try.func25 rfl Try.ntmps25 (Nat.le_of_ble_eq_true rfl) (fun act0 f0 => ?_)
 have e0 := Ext.refl w
 refine wp_seq ?_
 refine At.start ?_
 refine At.seq f0 1 [[]] [(1, .pointer (some ⟨w.heap.size, 0, none⟩))] (w.alloc (.cells #[.slice Ag0 g.ow.length cg0, .slice Ag1 g.pr.length cg1, .slice Ag2 g.mv.length cg2] 25 (0, 0))) [] (by kernel_rfl) trivial (fun act4 w1 hw2 f3 => ?_)
 clear f0
 have g5 := gr_alloc hw2
 have szw1 := g5.size
 have e7 := e0.gr g5 no_row
 clear e0
 have r8 := rg.gr g5 (fun _ h => by cases h)
 clear rg
 have bx9 : Bx w1 (w.heap.size) [.slice Ag0 g.ow.length cg0, .slice Ag1 g.pr.length cg1, .slice Ag2 g.mv.length cg2] 25 := Bx.new hw2
 have := bx9.lt
 clear g5 hw2
 refine At.rd f3 1 [[]] [(2, .bool false)] [] (by kernel_rfl) trivial (fun act11 f10 => ?_)
 clear f3
 refine At.done rfl ?_
 refine t_n ?_
 have f12 := f10.sub (r := [(2, .bool false), (1, .pointer (some ⟨w.heap.size, 0, none⟩))]) ⟨rfl, rfl, trivial⟩
 clear f10
 refine wp_seq ?_
 refine At.start ?_
 refine At.rd f12 1 [[]] [(3, .int .i64 (1))] [] (by kernel_rfl) trivial (fun act14 f13 => ?_)
 clear f12
 refine At.done rfl ?_
 refine t_n ?_
 refine wp_seq ?_
 refine wp_seq ?_
 refine At.start ?_
 refine At.rd f13 1 [[]] [(4, .int .i64 (1))] [] (by kernel_rfl) trivial (fun act16 f15 => ?_)
 clear f13
 refine At.done rfl ?_
 refine t_n ?_
 refine wp_block ?_
 have f17 := f15.sub (r := [(4, .int .i64 (1)), (3, .int .i64 (1)), (2, .bool false), (1, .pointer (some ⟨w.heap.size, 0, none⟩))]) ⟨rfl, rfl, rfl, rfl, trivial⟩
 refine loop_g (fun (m_ : Nat) a_ w_ => ∃ (q : Int) (n : Int), m_ = (9 - q).toNat ∧ (Frm 36 a_ [(4, .int .i64 (q)), (3, .int .i64 (n)), (2, .bool false), (1, .pointer (some ⟨w.heap.size, 0, none⟩))]) ∧ (Ext w w_) ∧ (RdG w_ 0 w.heap.size Ag0 Ag1 Ag2 cg0 cg1 cg2 g) ∧ (Bx w_ (w.heap.size) [.slice Ag0 g.ow.length cg0, .slice Ag1 g.pr.length cg1, .slice Ag2 g.mv.length cg2] 25) ∧ (1 ≤ q) ∧ (q ≤ 9) ∧ (0 ≤ n) ∧ (n ≤ 52776558133251000)) _ ⟨1, 1, rfl, f17, e7, r8, bx9, (by omega), (by omega), (by omega), (by omega)⟩ ?_
 clear f17 f15
 clear r8
 clear bx9
 clear e7
 intro m_ act18 w19 ⟨q, n, hm21, f22, e20, r23, bx24, i25, i26, i27, i28⟩
 have szw19 := e20.size
 have := bx24.lt
 refine wp_seq ?_
 refine wp_seq ?_
 refine At.start ?_
 rcases Bool.eq_false_or_eq_true (decide ((q : Int) ≤ 7)) with h29 | h29
 ·have q30 := of_decide_eq_true h29
  refine At.rd f22 6 [[], [], [.as_ (.bool true)], [], [], []] [(12, .bool (decide ((n : Int) ≤ 3000))), (11, .bool (decide ((n : Int) ≤ 3000))), (10, .int .i64 (n)), (9, .bool true), (8, .bool (decide ((q : Int) ≤ 7))), (7, .int .i64 (q))] [((.bool (decide ((q : Int) ≤ 7)) : Value) = .bool true)] (by kernel_rfl) ⟨(congrArg Value.bool h29), trivial⟩ (fun act32 f31 => ?_)
  clear f22
  refine At.done rfl ?_
  refine t_n ?_
  have f33 := f31.sub (r := [(12, .bool (decide ((n : Int) ≤ 3000))), (11, .bool (decide ((n : Int) ≤ 3000))), (10, .int .i64 (n)), (4, .int .i64 (q)), (3, .int .i64 (n)), (2, .bool false), (1, .pointer (some ⟨w.heap.size, 0, none⟩))]) ⟨rfl, rfl, rfl, rfl, rfl, rfl, rfl, trivial⟩
  clear f31
  refine cond_S f33 (t := decide ((n : Int) ≤ 3000)) rfl (fun h34 => ?_) (fun h34 => ?_)
  ·have q35 := of_decide_eq_true h34
   refine wp_skip ?_
   refine t_n ?_
   have f36 := f33.sub (r := [(11, .bool (decide ((n : Int) ≤ 3000))), (10, .int .i64 (n)), (4, .int .i64 (q)), (3, .int .i64 (n)), (2, .bool false), (1, .pointer (some ⟨w.heap.size, 0, none⟩))]) ⟨rfl, rfl, rfl, rfl, rfl, rfl, trivial⟩
   clear f33
   refine wp_seq ?_
   refine wp_block ?_
   refine wp_seq ?_
   refine At.start ?_
   refine At.rd f36 1 [[]] [(5, .int .i64 (1))] [] (by kernel_rfl) trivial (fun act38 f37 => ?_)
   clear f36
   refine At.done rfl ?_
   refine t_n ?_
   refine wp_seq ?_
   refine wp_seq ?_
   refine At.start ?_
   refine At.rd f37 1 [[]] [(6, .int .i64 (0))] [] (by kernel_rfl) trivial (fun act40 f39 => ?_)
   clear f37
   refine At.done rfl ?_
   refine t_n ?_
   refine wp_block ?_
   have f41 := f39.sub (r := [(6, .int .i64 (0)), (5, .int .i64 (1)), (11, .bool (decide ((n : Int) ≤ 3000))), (10, .int .i64 (n)), (4, .int .i64 (q)), (3, .int .i64 (n)), (2, .bool false), (1, .pointer (some ⟨w.heap.size, 0, none⟩))]) ⟨rfl, rfl, rfl, rfl, rfl, rfl, rfl, rfl, trivial⟩
   refine loop_g (fun (m_ : Nat) a_ w_ => ∃ (i : Int) (k : Int), m_ = ((g.pr.length : Int) - i).toNat ∧ (Frm 36 a_ [(6, .int .i64 (i)), (5, .int .i64 (k)), (11, .bool (decide ((n : Int) ≤ 3000))), (10, .int .i64 (n)), (4, .int .i64 (q)), (3, .int .i64 (n)), (2, .bool false), (1, .pointer (some ⟨w.heap.size, 0, none⟩))]) ∧ (Ext w w_) ∧ (RdG w_ 0 w.heap.size Ag0 Ag1 Ag2 cg0 cg1 cg2 g) ∧ (Bx w_ (w.heap.size) [.slice Ag0 g.ow.length cg0, .slice Ag1 g.pr.length cg1, .slice Ag2 g.mv.length cg2] 25) ∧ (0 ≤ i) ∧ (i ≤ (g.pr.length : Int)) ∧ (0 ≤ k) ∧ (k ≤ i + 1)) _ ⟨0, 1, rfl, f41, e20, r23, bx24, (by omega), (by omega), (by omega), (by omega)⟩ ?_
   clear f41 f39
   clear r23
   clear bx24
   clear e20
   intro m_ act42 w43 ⟨i, k, hm45, f46, e44, r47, bx48, i49, i50, i51, i52⟩
   have szw43 := e44.size
   have := bx48.lt
   refine wp_seq ?_
   refine wp_seq ?_
   refine At.start ?_
   refine At.rd f46 5 [[], [], [.ld (.slice Ag1 g.pr.length cg1)], [], []] [(19, .bool (decide ((i : Int) < ((g.pr.length : Nat) : Int)))), (18, .int .i64 (((g.pr.length : Nat) : Int))), (17, .slice Ag1 g.pr.length cg1), (16, .pointer (some ⟨w.heap.size, 1, none⟩)), (15, .int .i64 (i))] [(w43.cell? ⟨w.heap.size, 1, none⟩ = some (.slice Ag1 g.pr.length cg1))] (by kernel_rfl) ⟨(bx48.cell (i := 1) rfl), trivial⟩ (fun act54 f53 => ?_)
   clear f46
   refine At.done rfl ?_
   refine t_n ?_
   have f55 := f53.sub (r := [(19, .bool (decide ((i : Int) < ((g.pr.length : Nat) : Int)))), (6, .int .i64 (i)), (5, .int .i64 (k)), (11, .bool (decide ((n : Int) ≤ 3000))), (10, .int .i64 (n)), (4, .int .i64 (q)), (3, .int .i64 (n)), (2, .bool false), (1, .pointer (some ⟨w.heap.size, 0, none⟩))]) ⟨rfl, rfl, rfl, rfl, rfl, rfl, rfl, rfl, rfl, trivial⟩
   clear f53
   refine cond_S f55 (t := decide ((i : Int) < ((g.pr.length : Nat) : Int))) rfl (fun h56 => ?_) (fun h56 => ?_)
   ·have q57 := of_decide_eq_true h56
    refine wp_skip ?_
    refine t_n ?_
    have f58 := f55.sub (r := [(6, .int .i64 (i)), (5, .int .i64 (k)), (11, .bool (decide ((n : Int) ≤ 3000))), (10, .int .i64 (n)), (4, .int .i64 (q)), (3, .int .i64 (n)), (2, .bool false), (1, .pointer (some ⟨w.heap.size, 0, none⟩))]) ⟨rfl, rfl, rfl, rfl, rfl, rfl, rfl, rfl, trivial⟩
    clear f55
    refine wp_seq ?_
    refine wp_block ?_
    refine wp_seq ?_
    refine At.start ?_
    obtain ⟨ad59, hA60, _, _, hc61⟩ := RdI.get r47.pr (i) (by omega) (by omega)
    refine At.rd f58 7 [[], [.ld (.slice Ag1 g.pr.length cg1)], [], [.ad ad59], [.ld (.int .i64 (gI g.pr (i)))], [], []] [(28, .bool ((gI g.pr (i) : Int) == q)), (27, .int .i64 (q)), (26, .int .i64 (gI g.pr (i))), (25, .pointer (some (ad59.add ((i : Int).toNat * 1)))), (24, .int .i64 (i)), (23, .slice Ag1 g.pr.length cg1), (22, .pointer (some ⟨w.heap.size, 1, none⟩))] [(w43.cell? ⟨w.heap.size, 1, none⟩ = some (.slice Ag1 g.pr.length cg1)), (Ag1 = some ad59), (0 ≤ (i : Int)), ((i : Int) < (g.pr.length : Nat)), (w43.cell? (ad59.add ((i : Int).toNat * 1)) = some (.int .i64 (gI g.pr (i))))] (by kernel_rfl) ⟨(bx48.cell (i := 1) rfl), hA60, (by omega), (by omega), hc61, trivial⟩ (fun act63 f62 => ?_)
    clear f58
    refine At.done rfl ?_
    refine t_n ?_
    have f64 := f62.sub (r := [(28, .bool ((gI g.pr (i) : Int) == q)), (6, .int .i64 (i)), (5, .int .i64 (k)), (11, .bool (decide ((n : Int) ≤ 3000))), (10, .int .i64 (n)), (4, .int .i64 (q)), (3, .int .i64 (n)), (2, .bool false), (1, .pointer (some ⟨w.heap.size, 0, none⟩))]) ⟨rfl, rfl, rfl, rfl, rfl, rfl, rfl, rfl, rfl, trivial⟩
    clear f62
    refine cond_S f64 (t := (gI g.pr (i) : Int) == q) rfl (fun h65 => ?_) (fun h65 => ?_)
    ·have q66 := eq_of_beq h65
     refine At.start ?_
     refine At.rd f64 3 [[], [.as_ (.int .i64 (k + 1))], []] [(5, .int .i64 (k + 1)), (30, .int .i64 (k + 1)), (29, .int .i64 (k))] [((.int .i64 (IntKind.i64.wrap (k + 1)) : Value) = .int .i64 (k + 1))] (by kernel_rfl) ⟨(w64 (by omega) (by omega)), trivial⟩ (fun act68 f67 => ?_)
     clear f64
     refine At.done rfl ?_
     refine b_n ?_
     refine t_n ?_
     have f69 := f67.sub (r := [(5, .int .i64 (k + 1)), (6, .int .i64 (i)), (11, .bool (decide ((n : Int) ≤ 3000))), (10, .int .i64 (n)), (4, .int .i64 (q)), (3, .int .i64 (n)), (2, .bool false), (1, .pointer (some ⟨w.heap.size, 0, none⟩))]) ⟨rfl, rfl, rfl, rfl, rfl, rfl, rfl, rfl, trivial⟩
     clear f67
     refine At.start ?_
     refine At.rd f69 3 [[], [.as_ (.int .i64 (i + 1))], []] [(6, .int .i64 (i + 1)), (21, .int .i64 (i + 1)), (20, .int .i64 (i))] [((.int .i64 (IntKind.i64.wrap (i + 1)) : Value) = .int .i64 (i + 1))] (by kernel_rfl) ⟨(w64 (by omega) (by omega)), trivial⟩ (fun act71 f70 => ?_)
     clear f69
     refine At.done rfl ?_
     refine t_n ?_
     have f72 := f70.sub (r := [(6, .int .i64 (i + 1)), (5, .int .i64 (k + 1)), (11, .bool (decide ((n : Int) ≤ 3000))), (10, .int .i64 (n)), (4, .int .i64 (q)), (3, .int .i64 (n)), (2, .bool false), (1, .pointer (some ⟨w.heap.size, 0, none⟩))]) ⟨rfl, rfl, rfl, rfl, rfl, rfl, rfl, rfl, trivial⟩
     exact ⟨_, (by omega), (i + 1), k + 1, rfl, f72, e44, r47, bx48, (by omega), (by omega), (by omega), (by omega)⟩
    ·have q73 := ne_of_beq_false h65
     refine wp_skip ?_
     refine b_n ?_
     refine t_n ?_
     have f74 := f64.sub (r := [(6, .int .i64 (i)), (5, .int .i64 (k)), (11, .bool (decide ((n : Int) ≤ 3000))), (10, .int .i64 (n)), (4, .int .i64 (q)), (3, .int .i64 (n)), (2, .bool false), (1, .pointer (some ⟨w.heap.size, 0, none⟩))]) ⟨rfl, rfl, rfl, rfl, rfl, rfl, rfl, rfl, trivial⟩
     clear f64
     refine At.start ?_
     refine At.rd f74 3 [[], [.as_ (.int .i64 (i + 1))], []] [(6, .int .i64 (i + 1)), (21, .int .i64 (i + 1)), (20, .int .i64 (i))] [((.int .i64 (IntKind.i64.wrap (i + 1)) : Value) = .int .i64 (i + 1))] (by kernel_rfl) ⟨(w64 (by omega) (by omega)), trivial⟩ (fun act76 f75 => ?_)
     clear f74
     refine At.done rfl ?_
     refine t_n ?_
     have f77 := f75.sub (r := [(6, .int .i64 (i + 1)), (5, .int .i64 (k)), (11, .bool (decide ((n : Int) ≤ 3000))), (10, .int .i64 (n)), (4, .int .i64 (q)), (3, .int .i64 (n)), (2, .bool false), (1, .pointer (some ⟨w.heap.size, 0, none⟩))]) ⟨rfl, rfl, rfl, rfl, rfl, rfl, rfl, rfl, trivial⟩
     exact ⟨_, (by omega), (i + 1), k, rfl, f77, e44, r47, bx48, (by omega), (by omega), (by omega), (by omega)⟩
   ·have q78 := of_decide_eq_false h56
    refine wp_exit ?_
    refine t_e ?_
    refine t_e ?_
    refine b_e ?_
    refine t_n ?_
    have f79 := f55.sub (r := [(5, .int .i64 (k)), (11, .bool (decide ((n : Int) ≤ 3000))), (10, .int .i64 (n)), (4, .int .i64 (q)), (3, .int .i64 (n)), (2, .bool false), (1, .pointer (some ⟨w.heap.size, 0, none⟩))]) ⟨rfl, rfl, rfl, rfl, rfl, rfl, rfl, trivial⟩
    clear f55
    have hnk := mul_bound (n := n) (k := k) (by omega) (by omega) (by omega)
    refine At.start ?_
    refine At.rd f79 4 [[], [], [.as_ (.int .i64 (n * k))], []] [(3, .int .i64 (n * k)), (33, .int .i64 (n * k)), (32, .int .i64 (k)), (31, .int .i64 (n))] [((.int .i64 (IntKind.i64.wrap (n * k)) : Value) = .int .i64 (n * k))] (by kernel_rfl) ⟨(w64 (by omega) (by omega)), trivial⟩ (fun act81 f80 => ?_)
    clear f79
    refine At.done rfl ?_
    refine b_n ?_
    refine t_n ?_
    have f82 := f80.sub (r := [(3, .int .i64 (n * k)), (11, .bool (decide ((n : Int) ≤ 3000))), (10, .int .i64 (n)), (4, .int .i64 (q)), (2, .bool false), (1, .pointer (some ⟨w.heap.size, 0, none⟩))]) ⟨rfl, rfl, rfl, rfl, rfl, rfl, trivial⟩
    clear f80
    refine At.start ?_
    refine At.rd f82 3 [[], [.as_ (.int .i64 (q + 2))], []] [(4, .int .i64 (q + 2)), (14, .int .i64 (q + 2)), (13, .int .i64 (q))] [((.int .i64 (IntKind.i64.wrap (q + 2)) : Value) = .int .i64 (q + 2))] (by kernel_rfl) ⟨(w64 (by omega) (by omega)), trivial⟩ (fun act84 f83 => ?_)
    clear f82
    refine At.done rfl ?_
    refine t_n ?_
    have f85 := f83.sub (r := [(4, .int .i64 (q + 2)), (3, .int .i64 (n * k)), (2, .bool false), (1, .pointer (some ⟨w.heap.size, 0, none⟩))]) ⟨rfl, rfl, rfl, rfl, trivial⟩
    exact ⟨_, (by omega), (q + 2), (n * k), rfl, f85, e44, r47, bx48, (by omega), (by omega), (by omega), (by omega)⟩
  ·have q86 := of_decide_eq_false h34
   refine wp_exit ?_
   refine t_e ?_
   refine t_e ?_
   refine b_e ?_
   refine t_n ?_
   have f87 := f33.sub (r := [(3, .int .i64 (n))]) ⟨rfl, trivial⟩
   clear f33
   refine wp_seq ?_
   refine At.start ?_
   refine At.rd f87 3 [[], [], []] [(2, .bool (decide ((n : Int) > 3000))), (35, .bool (decide ((n : Int) > 3000))), (34, .int .i64 (n))] [] (by kernel_rfl) trivial (fun act89 f88 => ?_)
   clear f87
   refine At.done rfl ?_
   refine t_n ?_
   have f90 := f88.sub (r := [(2, .bool (decide ((n : Int) > 3000)))]) ⟨rfl, trivial⟩
   clear f88
   refine wp_ret ?_
   refine ret_ f90 [] [.bool (decide ((n : Int) > 3000))] [] (by kernel_rfl) trivial ?_
   exact ⟨_, rfl, e20⟩
 ·have q91 := of_decide_eq_false h29
  refine At.rd f22 6 [[], [], [.as_ (.bool false)], [], [], []] [(12, .bool false), (11, undef), (10, undef), (9, .bool false), (8, .bool (decide ((q : Int) ≤ 7))), (7, .int .i64 (q))] [((.bool (decide ((q : Int) ≤ 7)) : Value) = .bool false)] (by kernel_rfl) ⟨(congrArg Value.bool h29), trivial⟩ (fun act93 f92 => ?_)
  clear f22
  refine At.done rfl ?_
  refine t_n ?_
  have f94 := f92.sub (r := [(12, .bool false), (4, .int .i64 (q)), (3, .int .i64 (n)), (2, .bool false), (1, .pointer (some ⟨w.heap.size, 0, none⟩))]) ⟨rfl, rfl, rfl, rfl, rfl, trivial⟩
  clear f92
  refine cond_F f94 rfl ?_
  refine wp_exit ?_
  refine t_e ?_
  refine t_e ?_
  refine b_e ?_
  refine t_n ?_
  have f95 := f94.sub (r := [(3, .int .i64 (n))]) ⟨rfl, trivial⟩
  clear f94
  refine wp_seq ?_
  refine At.start ?_
  refine At.rd f95 3 [[], [], []] [(2, .bool (decide ((n : Int) > 3000))), (35, .bool (decide ((n : Int) > 3000))), (34, .int .i64 (n))] [] (by kernel_rfl) trivial (fun act97 f96 => ?_)
  clear f95
  refine At.done rfl ?_
  refine t_n ?_
  have f98 := f96.sub (r := [(2, .bool (decide ((n : Int) > 3000)))]) ⟨rfl, trivial⟩
  clear f96
  refine wp_ret ?_
  refine ret_ f98 [] [.bool (decide ((n : Int) > 3000))] [] (by kernel_rfl) trivial ?_
  exact ⟨_, rfl, e20⟩

end Go.Proofs.Ytklbpajmoklheaa
