/-
  A walk of a Go function, printed by a program of this repo. Conditions: what the theorems name.
-/
import Derived.Test.YtklbpajmoklheaaPureTup
set_option linter.unusedVariables false
set_option linter.unusedSimpArgs false
namespace Go.Proofs.Ytklbpajmoklheaa
open Go Go.RowKit

set_option maxHeartbeats 4000000 in
theorem above_any {k p : Int} {w : World} (h0 : -1 ≤ k) (h1 : k ≤ 4) :
    Calls Try.prog 43 #[.int .i64 (k), .int .i64 (p)] w fun e w' => e = .returned (.bool (decide (2 * k + 1 ≥ p))) ∧ Ext w w' := by
 refine enter_ (args := [.int .i64 (k), .int .i64 (p)]) Try.func43 rfl Try.ntmps43 (Nat.le_of_ble_eq_true rfl) (fun act0 f0 => ?_)
 have e0 := Ext.refl w
 refine wp_seq ?_
 refine At.start ?_
 refine At.rd f0 1 [[]] [(4, .bool false)] [] (by kernel_rfl) trivial (fun act2 f1 => ?_)
 clear f0
 refine At.done rfl ?_
 refine t_n ?_
 have f3 := f1.sub (r := [(0, .int .i64 (k)), (1, .int .i64 (p))]) ⟨rfl, rfl, trivial⟩
 clear f1
 refine wp_seq ?_
 refine At.start ?_
 refine At.rd f3 6 [[], [.as_ (.int .i64 (2 * k))], [.as_ (.int .i64 ((2 * k) + 1))], [], [], []] [(4, .bool (decide (((2 * k) + 1 : Int) ≥ p))), (9, .bool (decide (((2 * k) + 1 : Int) ≥ p))), (8, .int .i64 (p)), (7, .int .i64 ((2 * k) + 1)), (6, .int .i64 (2 * k)), (5, .int .i64 (k))] [((.int .i64 (IntKind.i64.wrap (2 * k)) : Value) = .int .i64 (2 * k)), ((.int .i64 (IntKind.i64.wrap ((2 * k) + 1)) : Value) = .int .i64 ((2 * k) + 1))] (by kernel_rfl) ⟨(w64 (by omega) (by omega)), (w64 (by omega) (by omega)), trivial⟩ (fun act5 f4 => ?_)
 clear f3
 refine At.done rfl ?_
 refine t_n ?_
 have f6 := f4.sub (r := [(4, .bool (decide (((2 * k) + 1 : Int) ≥ p)))]) ⟨rfl, trivial⟩
 clear f4
 refine wp_ret ?_
 refine ret_ f6 [] [.bool (decide (((2 * k) + 1 : Int) ≥ p))] [] (by kernel_rfl) trivial ?_
 exact ⟨rfl, e0⟩

set_option maxHeartbeats 4000000 in
theorem cmpM_any {a b : Tup} {p : Int} {w : World} :
    Calls Try.prog 23 #[tupV a, tupV b, .int .i64 (p)] w fun e w' => e = .returned (.int .i64 (cmpT a b p)) ∧ Ext w w' := by
 refine enter_ (args := [tupV a, tupV b, .int .i64 (p)]) Try.func23 rfl Try.ntmps23 (Nat.le_of_ble_eq_true rfl) (fun act0 f0 => ?_)
 have e0 := Ext.refl w
 refine wp_seq ?_
 refine At.start ?_
 refine At.seq f0 1 [[]] [(3, .pointer (some ⟨w.heap.size, 0, none⟩))] (w.alloc (.cells ((tupC a)).toArray 41 (0, 0))) [] (by kernel_rfl) trivial (fun act4 w1 hw2 f3 => ?_)
 clear f0
 have g5 := gr_alloc hw2
 have szw1 := g5.size
 have e7 := e0.gr g5 no_row
 clear e0
 have bx8 : Bx w1 (w.heap.size) (tupC a) 41 := Bx.new hw2
 have := bx8.lt
 clear g5 hw2
 refine At.seq f3 1 [[]] [(4, .pointer (some ⟨w1.heap.size, 0, none⟩))] (w1.alloc (.cells ((tupC b)).toArray 41 (0, 0))) [] (by kernel_rfl) trivial (fun act12 w9 hw10 f11 => ?_)
 clear f3
 have g13 := gr_alloc hw10
 have szw9 := g13.size
 have e15 := e7.gr g13 no_row
 clear e7
 have bx16 := bx8.gr g13 (by simp)
 clear bx8
 have bx17 : Bx w9 (w1.heap.size) (tupC b) 41 := Bx.new hw10
 have := bx17.lt
 clear g13 hw10
 refine At.rd f11 1 [[]] [(6, .int .i64 (0))] [] (by kernel_rfl) trivial (fun act19 f18 => ?_)
 clear f11
 refine At.done rfl ?_
 refine t_n ?_
 have f20 := f18.sub (r := [(6, .int .i64 (0)), (4, .pointer (some ⟨w1.heap.size, 0, none⟩)), (3, .pointer (some ⟨w.heap.size, 0, none⟩)), (2, .int .i64 (p))]) ⟨rfl, rfl, rfl, rfl, trivial⟩
 clear f18
 refine wp_seq ?_
 refine wp_block ?_
 refine wp_seq ?_
 refine At.start ?_
 rcases Bool.eq_false_or_eq_true (a.top) with h21 | h21
 ·refine At.rd f20 7 [[], [.ld (.bool (a.top))], [.as_ (.bool true)], [], [.ld (.bool (b.top))], [], []] [(8, .bool (b.top)), (14, .bool (b.top)), (13, .bool (b.top)), (12, .pointer (some ⟨w1.heap.size, 0, none⟩)), (11, .bool true), (10, .bool (a.top)), (9, .pointer (some ⟨w.heap.size, 0, none⟩))] [(w9.cell? ⟨w.heap.size, 0, none⟩ = some (.bool (a.top))), ((.bool (a.top) : Value) = .bool true), (w9.cell? ⟨w1.heap.size, 0, none⟩ = some (.bool (b.top)))] (by kernel_rfl) ⟨(bx16.cell (i := 0) rfl), (congrArg Value.bool h21), (bx17.cell (i := 0) rfl), trivial⟩ (fun act24 f23 => ?_)
  clear f20
  refine At.done rfl ?_
  refine t_n ?_
  have f25 := f23.sub (r := [(8, .bool (b.top)), (6, .int .i64 (0)), (4, .pointer (some ⟨w1.heap.size, 0, none⟩)), (3, .pointer (some ⟨w.heap.size, 0, none⟩)), (2, .int .i64 (p))]) ⟨rfl, rfl, rfl, rfl, rfl, trivial⟩
  clear f23
  refine cond_S f25 (t := b.top) rfl (fun h26 => ?_) (fun h26 => ?_)
  ·refine wp_seq ?_
   refine At.start ?_
   refine At.rd f25 1 [[]] [(6, .int .i64 (0))] [] (by kernel_rfl) trivial (fun act29 f28 => ?_)
   clear f25
   refine At.done rfl ?_
   refine t_n ?_
   have f30 := f28.sub (r := [(6, .int .i64 (0))]) ⟨rfl, trivial⟩
   clear f28
   refine wp_ret ?_
   refine b_r ?_
   refine t_r ?_
   refine ret_ f30 [] [.int .i64 (0)] [] (by kernel_rfl) trivial ?_
   exact ⟨ret_eq (congrArg (Value.int .i64) (by first | exact down_lt (by assumption) (by assumption) hdn (by omega) (by omega) (by omega) (by omega) | exact down_gt (by assumption) (by assumption) hdn (by omega) (by omega) (by omega) (by omega) | exact down_end (by assumption) (by assumption) hdn (by omega) (by omega) (by omega) | exact cmp_tt (by assumption) (by assumption) | exact cmp_tf (by assumption) (by assumption) | exact cmp_ft (by assumption) (by assumption) | (rw [low_ff (by assumption) (by assumption)]; unfold lowT; omega))), e15⟩
  ·refine wp_seq ?_
   refine At.start ?_
   refine At.rd f25 3 [[], [.ld (.bool (a.top))], []] [(15, .bool (a.top)), (17, .bool (a.top)), (16, .pointer (some ⟨w.heap.size, 0, none⟩))] [(w9.cell? ⟨w.heap.size, 0, none⟩ = some (.bool (a.top)))] (by kernel_rfl) ⟨(bx16.cell (i := 0) rfl), trivial⟩ (fun act33 f32 => ?_)
   clear f25
   refine At.done rfl ?_
   refine t_n ?_
   have f34 := f32.sub (r := [(15, .bool (a.top)), (6, .int .i64 (0)), (4, .pointer (some ⟨w1.heap.size, 0, none⟩)), (3, .pointer (some ⟨w.heap.size, 0, none⟩)), (2, .int .i64 (p))]) ⟨rfl, rfl, rfl, rfl, rfl, trivial⟩
   clear f32
   refine cond_S f34 (t := a.top) rfl (fun hh => ?_) (fun hh => ?_)
   rotate_left
   · exact absurd (hh.symm.trans h21) (by decide)
   refine wp_seq ?_
   refine At.start ?_
   refine At.rd f34 1 [[]] [(6, .int .i64 (1))] [] (by kernel_rfl) trivial (fun act36 f35 => ?_)
   clear f34
   refine At.done rfl ?_
   refine t_n ?_
   have f37 := f35.sub (r := [(6, .int .i64 (1))]) ⟨rfl, trivial⟩
   clear f35
   refine wp_ret ?_
   refine b_r ?_
   refine t_r ?_
   refine ret_ f37 [] [.int .i64 (1)] [] (by kernel_rfl) trivial ?_
   exact ⟨ret_eq (congrArg (Value.int .i64) (by first | exact down_lt (by assumption) (by assumption) hdn (by omega) (by omega) (by omega) (by omega) | exact down_gt (by assumption) (by assumption) hdn (by omega) (by omega) (by omega) (by omega) | exact down_end (by assumption) (by assumption) hdn (by omega) (by omega) (by omega) | exact cmp_tt (by assumption) (by assumption) | exact cmp_tf (by assumption) (by assumption) | exact cmp_ft (by assumption) (by assumption) | (rw [low_ff (by assumption) (by assumption)]; unfold lowT; omega))), e15⟩
 ·refine At.rd f20 7 [[], [.ld (.bool (a.top))], [.as_ (.bool false)], [], [], [], []] [(8, .bool false), (14, .bool false), (13, undef), (12, undef), (11, .bool false), (10, .bool (a.top)), (9, .pointer (some ⟨w.heap.size, 0, none⟩))] [(w9.cell? ⟨w.heap.size, 0, none⟩ = some (.bool (a.top))), ((.bool (a.top) : Value) = .bool false)] (by kernel_rfl) ⟨(bx16.cell (i := 0) rfl), (congrArg Value.bool h21), trivial⟩ (fun act40 f39 => ?_)
  clear f20
  refine At.done rfl ?_
  refine t_n ?_
  have f41 := f39.sub (r := [(8, .bool false), (6, .int .i64 (0)), (4, .pointer (some ⟨w1.heap.size, 0, none⟩)), (3, .pointer (some ⟨w.heap.size, 0, none⟩)), (2, .int .i64 (p))]) ⟨rfl, rfl, rfl, rfl, rfl, trivial⟩
  clear f39
  refine cond_F f41 rfl ?_
  refine wp_seq ?_
  refine At.start ?_
  refine At.rd f41 3 [[], [.ld (.bool (a.top))], []] [(15, .bool (a.top)), (17, .bool (a.top)), (16, .pointer (some ⟨w.heap.size, 0, none⟩))] [(w9.cell? ⟨w.heap.size, 0, none⟩ = some (.bool (a.top)))] (by kernel_rfl) ⟨(bx16.cell (i := 0) rfl), trivial⟩ (fun act43 f42 => ?_)
  clear f41
  refine At.done rfl ?_
  refine t_n ?_
  have f44 := f42.sub (r := [(15, .bool (a.top)), (6, .int .i64 (0)), (4, .pointer (some ⟨w1.heap.size, 0, none⟩)), (3, .pointer (some ⟨w.heap.size, 0, none⟩)), (2, .int .i64 (p))]) ⟨rfl, rfl, rfl, rfl, rfl, trivial⟩
  clear f42
  refine cond_S f44 (t := a.top) rfl (fun hh => ?_) (fun hh => ?_)
  · exact absurd (hh.symm.trans h21) (by decide)
  refine wp_seq ?_
  refine At.start ?_
  refine At.rd f44 3 [[], [.ld (.bool (b.top))], []] [(18, .bool (b.top)), (20, .bool (b.top)), (19, .pointer (some ⟨w1.heap.size, 0, none⟩))] [(w9.cell? ⟨w1.heap.size, 0, none⟩ = some (.bool (b.top)))] (by kernel_rfl) ⟨(bx17.cell (i := 0) rfl), trivial⟩ (fun act46 f45 => ?_)
  clear f44
  refine At.done rfl ?_
  refine t_n ?_
  have f47 := f45.sub (r := [(18, .bool (b.top)), (6, .int .i64 (0)), (4, .pointer (some ⟨w1.heap.size, 0, none⟩)), (3, .pointer (some ⟨w.heap.size, 0, none⟩)), (2, .int .i64 (p))]) ⟨rfl, rfl, rfl, rfl, rfl, trivial⟩
  clear f45
  refine cond_S f47 (t := b.top) rfl (fun h48 => ?_) (fun h48 => ?_)
  ·refine wp_seq ?_
   refine At.start ?_
   refine At.rd f47 1 [[]] [(6, .int .i64 (-1))] [] (by kernel_rfl) trivial (fun act51 f50 => ?_)
   clear f47
   refine At.done rfl ?_
   refine t_n ?_
   have f52 := f50.sub (r := [(6, .int .i64 (-1))]) ⟨rfl, trivial⟩
   clear f50
   refine wp_ret ?_
   refine b_r ?_
   refine t_r ?_
   refine ret_ f52 [] [.int .i64 (-1)] [] (by kernel_rfl) trivial ?_
   exact ⟨ret_eq (congrArg (Value.int .i64) (by first | exact down_lt (by assumption) (by assumption) hdn (by omega) (by omega) (by omega) (by omega) | exact down_gt (by assumption) (by assumption) hdn (by omega) (by omega) (by omega) (by omega) | exact down_end (by assumption) (by assumption) hdn (by omega) (by omega) (by omega) | exact cmp_tt (by assumption) (by assumption) | exact cmp_tf (by assumption) (by assumption) | exact cmp_ft (by assumption) (by assumption) | (rw [low_ff (by assumption) (by assumption)]; unfold lowT; omega))), e15⟩
  ·refine wp_skip ?_
   refine b_n ?_
   refine t_n ?_
   have f54 := f47.sub (r := [(6, .int .i64 (0)), (4, .pointer (some ⟨w1.heap.size, 0, none⟩)), (3, .pointer (some ⟨w.heap.size, 0, none⟩)), (2, .int .i64 (p))]) ⟨rfl, rfl, rfl, rfl, trivial⟩
   clear f47
   refine wp_seq ?_
   refine wp_seq ?_
   refine At.start ?_
   refine At.rd f54 1 [[]] [(7, .int .i64 (3))] [] (by kernel_rfl) trivial (fun act56 f55 => ?_)
   clear f54
   refine At.done rfl ?_
   refine t_n ?_
   refine wp_block ?_
   have f57 := f55.sub (r := [(7, .int .i64 (3)), (4, .pointer (some ⟨w1.heap.size, 0, none⟩)), (3, .pointer (some ⟨w.heap.size, 0, none⟩)), (2, .int .i64 (p))]) ⟨rfl, rfl, rfl, rfl, trivial⟩
   refine loop_g (fun (m_ : Nat) a_ w_ => ∃ (k : Int), m_ = (k + 1).toNat ∧ (Frm 50 a_ [(7, .int .i64 (k)), (4, .pointer (some ⟨w1.heap.size, 0, none⟩)), (3, .pointer (some ⟨w.heap.size, 0, none⟩)), (2, .int .i64 (p))]) ∧ (Ext w w_) ∧ (Bx w_ (w.heap.size) (tupC a) 41) ∧ (Bx w_ (w1.heap.size) (tupC b) 41) ∧ (-1 ≤ k) ∧ (k ≤ 3) ∧ (DownT a b p k)) _ ⟨3, rfl, f57, e15, bx16, bx17, (by omega), (by omega), down0⟩ ?_
   clear f57 f55
   clear bx16
   clear bx17
   clear e15
   intro m_ act58 w59 ⟨k, hm61, f62, e60, bx63, bx64, i65, i66, hdn⟩
   have szw59 := e60.size
   have := bx63.lt
   have := bx64.lt
   refine wp_seq ?_
   refine wp_seq ?_
   refine At.start ?_
   rcases Bool.eq_false_or_eq_true (decide ((k : Int) ≥ 0)) with h67 | h67
   ·have q68 := of_decide_eq_true h67
    refine At.rd f62 5 [[], [], [.as_ (.bool true)], [], []] [(25, .int .i64 (p)), (24, .int .i64 (k)), (23, .bool true), (22, .bool (decide ((k : Int) ≥ 0))), (21, .int .i64 (k))] [((.bool (decide ((k : Int) ≥ 0)) : Value) = .bool true)] (by kernel_rfl) ⟨(congrArg Value.bool h67), trivial⟩ (fun act70 f69 => ?_)
    clear f62
    refine At.call f69 43 #[.int .i64 (k), .int .i64 (p)] (some 26) (by kernel_rfl) (above_any (k := k) (p := p) (by omega) (by omega)) ?_
    rintro e_ w71 ⟨rfl, he⟩
    refine ⟨_, rfl, _, rfl, fun act72 f73 => ?_⟩
    clear f69
    have g74 := gr_ext he
    have szw71 := g74.size
    have e75 := e60.gr g74 no_row
    clear e60
    have bx76 := bx63.gr g74 (by simp)
    clear bx63
    have bx77 := bx64.gr g74 (by simp)
    clear bx64
    clear g74 he
    refine At.rd f73 1 [[]] [(27, .bool (decide (2 * k + 1 ≥ p)))] [] (by kernel_rfl) trivial (fun act79 f78 => ?_)
    clear f73
    refine At.done rfl ?_
    refine t_n ?_
    have f80 := f78.sub (r := [(27, .bool (decide (2 * k + 1 ≥ p))), (26, .bool (decide (2 * k + 1 ≥ p))), (25, .int .i64 (p)), (24, .int .i64 (k)), (7, .int .i64 (k)), (4, .pointer (some ⟨w1.heap.size, 0, none⟩)), (3, .pointer (some ⟨w.heap.size, 0, none⟩)), (2, .int .i64 (p))]) ⟨rfl, rfl, rfl, rfl, rfl, rfl, rfl, rfl, trivial⟩
    clear f78
    refine cond_S f80 (t := decide (2 * k + 1 ≥ p)) rfl (fun h81 => ?_) (fun h81 => ?_)
    ·have q82 := of_decide_eq_true h81
     refine wp_skip ?_
     refine t_n ?_
     have f83 := f80.sub (r := [(26, .bool (decide (2 * k + 1 ≥ p))), (25, .int .i64 (p)), (24, .int .i64 (k)), (7, .int .i64 (k)), (4, .pointer (some ⟨w1.heap.size, 0, none⟩)), (3, .pointer (some ⟨w.heap.size, 0, none⟩)), (2, .int .i64 (p))]) ⟨rfl, rfl, rfl, rfl, rfl, rfl, rfl, trivial⟩
     clear f80
     refine wp_seq ?_
     refine wp_block ?_
     refine wp_block ?_
     refine wp_seq ?_
     refine drawn_ro f83 (by kernel_rfl) (by kernel_rfl) [[], [], [], [.ld (.int .i64 (gI [a.c0, a.c1, a.c2, a.c3] k))], [], [], [], [.ld (.int .i64 (gI [b.c0, b.c1, b.c2, b.c3] k))], [], []] [(30, .bool (decide ((gI [a.c0, a.c1, a.c2, a.c3] k : Int) < (gI [b.c0, b.c1, b.c2, b.c3] k)))), (39, .bool (decide ((gI [a.c0, a.c1, a.c2, a.c3] k : Int) < (gI [b.c0, b.c1, b.c2, b.c3] k)))), (38, .int .i64 (gI [b.c0, b.c1, b.c2, b.c3] k)), (37, .pointer (some ((⟨w1.heap.size, 1, none⟩ : Addr).add ((k : Int).toNat * 1)))), (36, .pointer (some ⟨w1.heap.size, 1, none⟩)), (35, .int .i64 (k)), (34, .int .i64 (gI [a.c0, a.c1, a.c2, a.c3] k)), (33, .pointer (some ((⟨w.heap.size, 1, none⟩ : Addr).add ((k : Int).toNat * 1)))), (32, .pointer (some ⟨w.heap.size, 1, none⟩)), (31, .int .i64 (k))] [(0 ≤ (k : Int)), ((k : Int) < (4 : Nat)), (w71.cell? ((⟨w.heap.size, 1, none⟩ : Addr).add ((k : Int).toNat * 1)) = some (.int .i64 (gI [a.c0, a.c1, a.c2, a.c3] k))), (0 ≤ (k : Int)), ((k : Int) < (4 : Nat)), (w71.cell? ((⟨w1.heap.size, 1, none⟩ : Addr).add ((k : Int).toNat * 1)) = some (.int .i64 (gI [b.c0, b.c1, b.c2, b.c3] k)))] (by kernel_rfl) ⟨(by omega), (by omega), (Bx.arr (pre := [.bool (a.top)]) (l := [a.c0, a.c1, a.c2, a.c3]) (post := []) bx76 rfl k (by omega) (by simp only [List.length_cons, List.length_nil]; omega)), (by omega), (by omega), (Bx.arr (pre := [.bool (b.top)]) (l := [b.c0, b.c1, b.c2, b.c3]) (post := []) bx77 rfl k (by omega) (by simp only [List.length_cons, List.length_nil]; omega)), trivial⟩ (fun act85 w86 hw87 f84 => ?_)
     clear f83
     have g88 := gr_drew hw87
     have szw86 := g88.size
     have e89 := e75.gr g88 no_row
     clear e75
     have bx90 := bx76.gr g88 (by simp)
     clear bx76
     have bx91 := bx77.gr g88 (by simp)
     clear bx77
     clear g88 hw87
     refine t_n ?_
     have f92 := f84.sub (r := [(30, .bool (decide ((gI [a.c0, a.c1, a.c2, a.c3] k : Int) < (gI [b.c0, b.c1, b.c2, b.c3] k)))), (26, .bool (decide (2 * k + 1 ≥ p))), (25, .int .i64 (p)), (24, .int .i64 (k)), (7, .int .i64 (k)), (4, .pointer (some ⟨w1.heap.size, 0, none⟩)), (3, .pointer (some ⟨w.heap.size, 0, none⟩)), (2, .int .i64 (p))]) ⟨rfl, rfl, rfl, rfl, rfl, rfl, rfl, rfl, trivial⟩
     clear f84
     refine cond_S f92 (t := decide ((gI [a.c0, a.c1, a.c2, a.c3] k : Int) < (gI [b.c0, b.c1, b.c2, b.c3] k))) rfl (fun h93 => ?_) (fun h93 => ?_)
     ·have q94 := of_decide_eq_true h93
      refine wp_seq ?_
      refine At.start ?_
      refine At.rd f92 1 [[]] [(6, .int .i64 (-1))] [] (by kernel_rfl) trivial (fun act96 f95 => ?_)
      clear f92
      refine At.done rfl ?_
      refine t_n ?_
      have f97 := f95.sub (r := [(6, .int .i64 (-1))]) ⟨rfl, trivial⟩
      clear f95
      refine wp_ret ?_
      refine b_r ?_
      refine b_r ?_
      refine t_r ?_
      refine t_r ?_
      refine b_r ?_
      refine t_r ?_
      refine ret_ f97 [] [.int .i64 (-1)] [] (by kernel_rfl) trivial ?_
      exact ⟨ret_eq (congrArg (Value.int .i64) (by first | exact down_lt (by assumption) (by assumption) hdn (by omega) (by omega) (by omega) (by omega) | exact down_gt (by assumption) (by assumption) hdn (by omega) (by omega) (by omega) (by omega) | exact down_end (by assumption) (by assumption) hdn (by omega) (by omega) (by omega) | exact cmp_tt (by assumption) (by assumption) | exact cmp_tf (by assumption) (by assumption) | exact cmp_ft (by assumption) (by assumption) | (rw [low_ff (by assumption) (by assumption)]; unfold lowT; omega))), e89⟩
     ·have q98 := of_decide_eq_false h93
      refine wp_seq ?_
      refine drawn_ro f92 (by kernel_rfl) (by kernel_rfl) [[], [], [], [.ld (.int .i64 (gI [a.c0, a.c1, a.c2, a.c3] k))], [], [], [], [.ld (.int .i64 (gI [b.c0, b.c1, b.c2, b.c3] k))], [], []] [(40, .bool (decide ((gI [a.c0, a.c1, a.c2, a.c3] k : Int) > (gI [b.c0, b.c1, b.c2, b.c3] k)))), (49, .bool (decide ((gI [a.c0, a.c1, a.c2, a.c3] k : Int) > (gI [b.c0, b.c1, b.c2, b.c3] k)))), (48, .int .i64 (gI [b.c0, b.c1, b.c2, b.c3] k)), (47, .pointer (some ((⟨w1.heap.size, 1, none⟩ : Addr).add ((k : Int).toNat * 1)))), (46, .pointer (some ⟨w1.heap.size, 1, none⟩)), (45, .int .i64 (k)), (44, .int .i64 (gI [a.c0, a.c1, a.c2, a.c3] k)), (43, .pointer (some ((⟨w.heap.size, 1, none⟩ : Addr).add ((k : Int).toNat * 1)))), (42, .pointer (some ⟨w.heap.size, 1, none⟩)), (41, .int .i64 (k))] [(0 ≤ (k : Int)), ((k : Int) < (4 : Nat)), (w86.cell? ((⟨w.heap.size, 1, none⟩ : Addr).add ((k : Int).toNat * 1)) = some (.int .i64 (gI [a.c0, a.c1, a.c2, a.c3] k))), (0 ≤ (k : Int)), ((k : Int) < (4 : Nat)), (w86.cell? ((⟨w1.heap.size, 1, none⟩ : Addr).add ((k : Int).toNat * 1)) = some (.int .i64 (gI [b.c0, b.c1, b.c2, b.c3] k)))] (by kernel_rfl) ⟨(by omega), (by omega), (Bx.arr (pre := [.bool (a.top)]) (l := [a.c0, a.c1, a.c2, a.c3]) (post := []) bx90 rfl k (by omega) (by simp only [List.length_cons, List.length_nil]; omega)), (by omega), (by omega), (Bx.arr (pre := [.bool (b.top)]) (l := [b.c0, b.c1, b.c2, b.c3]) (post := []) bx91 rfl k (by omega) (by simp only [List.length_cons, List.length_nil]; omega)), trivial⟩ (fun act100 w101 hw102 f99 => ?_)
      clear f92
      have g103 := gr_drew hw102
      have szw101 := g103.size
      have e104 := e89.gr g103 no_row
      clear e89
      have bx105 := bx90.gr g103 (by simp)
      clear bx90
      have bx106 := bx91.gr g103 (by simp)
      clear bx91
      clear g103 hw102
      refine t_n ?_
      have f107 := f99.sub (r := [(40, .bool (decide ((gI [a.c0, a.c1, a.c2, a.c3] k : Int) > (gI [b.c0, b.c1, b.c2, b.c3] k)))), (26, .bool (decide (2 * k + 1 ≥ p))), (25, .int .i64 (p)), (24, .int .i64 (k)), (7, .int .i64 (k)), (4, .pointer (some ⟨w1.heap.size, 0, none⟩)), (3, .pointer (some ⟨w.heap.size, 0, none⟩)), (2, .int .i64 (p))]) ⟨rfl, rfl, rfl, rfl, rfl, rfl, rfl, rfl, trivial⟩
      clear f99
      refine cond_S f107 (t := decide ((gI [a.c0, a.c1, a.c2, a.c3] k : Int) > (gI [b.c0, b.c1, b.c2, b.c3] k))) rfl (fun h108 => ?_) (fun h108 => ?_)
      ·have q109 := of_decide_eq_true h108
       refine wp_seq ?_
       refine At.start ?_
       refine At.rd f107 1 [[]] [(6, .int .i64 (1))] [] (by kernel_rfl) trivial (fun act111 f110 => ?_)
       clear f107
       refine At.done rfl ?_
       refine t_n ?_
       have f112 := f110.sub (r := [(6, .int .i64 (1))]) ⟨rfl, trivial⟩
       clear f110
       refine wp_ret ?_
       refine b_r ?_
       refine b_r ?_
       refine t_r ?_
       refine t_r ?_
       refine b_r ?_
       refine t_r ?_
       refine ret_ f112 [] [.int .i64 (1)] [] (by kernel_rfl) trivial ?_
       exact ⟨ret_eq (congrArg (Value.int .i64) (by first | exact down_lt (by assumption) (by assumption) hdn (by omega) (by omega) (by omega) (by omega) | exact down_gt (by assumption) (by assumption) hdn (by omega) (by omega) (by omega) (by omega) | exact down_end (by assumption) (by assumption) hdn (by omega) (by omega) (by omega) | exact cmp_tt (by assumption) (by assumption) | exact cmp_tf (by assumption) (by assumption) | exact cmp_ft (by assumption) (by assumption) | (rw [low_ff (by assumption) (by assumption)]; unfold lowT; omega))), e104⟩
      ·have q113 := of_decide_eq_false h108
       refine wp_skip ?_
       refine b_n ?_
       refine b_n ?_
       refine t_n ?_
       have f114 := f107.sub (r := [(26, .bool (decide (2 * k + 1 ≥ p))), (25, .int .i64 (p)), (24, .int .i64 (k)), (7, .int .i64 (k)), (4, .pointer (some ⟨w1.heap.size, 0, none⟩)), (3, .pointer (some ⟨w.heap.size, 0, none⟩)), (2, .int .i64 (p))]) ⟨rfl, rfl, rfl, rfl, rfl, rfl, rfl, trivial⟩
       clear f107
       refine At.start ?_
       refine At.rd f114 3 [[], [.as_ (.int .i64 (k - 1))], []] [(7, .int .i64 (k - 1)), (29, .int .i64 (k - 1)), (28, .int .i64 (k))] [((.int .i64 (IntKind.i64.wrap (k - 1)) : Value) = .int .i64 (k - 1))] (by kernel_rfl) ⟨(w64 (by omega) (by omega)), trivial⟩ (fun act116 f115 => ?_)
       clear f114
       refine At.done rfl ?_
       refine t_n ?_
       have f117 := f115.sub (r := [(7, .int .i64 (k - 1)), (4, .pointer (some ⟨w1.heap.size, 0, none⟩)), (3, .pointer (some ⟨w.heap.size, 0, none⟩)), (2, .int .i64 (p))]) ⟨rfl, rfl, rfl, rfl, trivial⟩
       exact ⟨_, (by omega), (k - 1), rfl, f117, e104, bx105, bx106, (by omega), (by omega), (down_next hdn (by omega) (by omega) (by omega))⟩
    ·have q118 := of_decide_eq_false h81
     refine wp_exit ?_
     refine t_e ?_
     refine t_e ?_
     refine b_e ?_
     refine t_n ?_
     have f119 := f80.sub (r := []) trivial
     clear f80
     refine wp_seq ?_
     refine At.start ?_
     refine At.rd f119 1 [[]] [(6, .int .i64 (0))] [] (by kernel_rfl) trivial (fun act121 f120 => ?_)
     clear f119
     refine At.done rfl ?_
     refine t_n ?_
     refine wp_ret ?_
     refine ret_ f120 [] [.int .i64 (0)] [] (by kernel_rfl) trivial ?_
     exact ⟨ret_eq (congrArg (Value.int .i64) (by first | exact down_lt (by assumption) (by assumption) hdn (by omega) (by omega) (by omega) (by omega) | exact down_gt (by assumption) (by assumption) hdn (by omega) (by omega) (by omega) (by omega) | exact down_end (by assumption) (by assumption) hdn (by omega) (by omega) (by omega) | exact cmp_tt (by assumption) (by assumption) | exact cmp_tf (by assumption) (by assumption) | exact cmp_ft (by assumption) (by assumption) | (rw [low_ff (by assumption) (by assumption)]; unfold lowT; omega))), e75⟩
   ·have q122 := of_decide_eq_false h67
    refine At.rd f62 7 [[], [], [.as_ (.bool false)], [], [], [], []] [(27, .bool false), (26, undef), (25, undef), (24, undef), (23, .bool false), (22, .bool (decide ((k : Int) ≥ 0))), (21, .int .i64 (k))] [((.bool (decide ((k : Int) ≥ 0)) : Value) = .bool false)] (by kernel_rfl) ⟨(congrArg Value.bool h67), trivial⟩ (fun act124 f123 => ?_)
    clear f62
    refine At.done rfl ?_
    refine t_n ?_
    have f125 := f123.sub (r := [(27, .bool false), (7, .int .i64 (k)), (4, .pointer (some ⟨w1.heap.size, 0, none⟩)), (3, .pointer (some ⟨w.heap.size, 0, none⟩)), (2, .int .i64 (p))]) ⟨rfl, rfl, rfl, rfl, rfl, trivial⟩
    clear f123
    refine cond_F f125 rfl ?_
    refine wp_exit ?_
    refine t_e ?_
    refine t_e ?_
    refine b_e ?_
    refine t_n ?_
    have f126 := f125.sub (r := []) trivial
    clear f125
    refine wp_seq ?_
    refine At.start ?_
    refine At.rd f126 1 [[]] [(6, .int .i64 (0))] [] (by kernel_rfl) trivial (fun act128 f127 => ?_)
    clear f126
    refine At.done rfl ?_
    refine t_n ?_
    refine wp_ret ?_
    refine ret_ f127 [] [.int .i64 (0)] [] (by kernel_rfl) trivial ?_
    exact ⟨ret_eq (congrArg (Value.int .i64) (by first | exact down_lt (by assumption) (by assumption) hdn (by omega) (by omega) (by omega) (by omega) | exact down_gt (by assumption) (by assumption) hdn (by omega) (by omega) (by omega) (by omega) | exact down_end (by assumption) (by assumption) hdn (by omega) (by omega) (by omega) | exact cmp_tt (by assumption) (by assumption) | exact cmp_tf (by assumption) (by assumption) | exact cmp_ft (by assumption) (by assumption) | (rw [low_ff (by assumption) (by assumption)]; unfold lowT; omega))), e60⟩

set_option maxHeartbeats 4000000 in
theorem cmpR_any {a b : Tup} {p : Int} {w : World} :
    Calls Try.prog 24 #[tupV a, tupV b, .int .i64 (p)] w fun e w' => e = .returned (.int .i64 (cmpT a b p)) ∧ Ext w w' := by
 refine enter_ (args := [tupV a, tupV b, .int .i64 (p)]) Try.func24 rfl Try.ntmps24 (Nat.le_of_ble_eq_true rfl) (fun act0 f0 => ?_)
 have e0 := Ext.refl w
 refine wp_seq ?_
 refine At.start ?_
 refine At.seq f0 1 [[]] [(3, .pointer (some ⟨w.heap.size, 0, none⟩))] (w.alloc (.cells ((tupC a)).toArray 40 (0, 0))) [] (by kernel_rfl) trivial (fun act4 w1 hw2 f3 => ?_)
 clear f0
 have g5 := gr_alloc hw2
 have szw1 := g5.size
 have e7 := e0.gr g5 no_row
 clear e0
 have bx8 : Bx w1 (w.heap.size) (tupC a) 40 := Bx.new hw2
 have := bx8.lt
 clear g5 hw2
 refine At.seq f3 1 [[]] [(4, .pointer (some ⟨w1.heap.size, 0, none⟩))] (w1.alloc (.cells ((tupC b)).toArray 40 (0, 0))) [] (by kernel_rfl) trivial (fun act12 w9 hw10 f11 => ?_)
 clear f3
 have g13 := gr_alloc hw10
 have szw9 := g13.size
 have e15 := e7.gr g13 no_row
 clear e7
 have bx16 := bx8.gr g13 (by simp)
 clear bx8
 have bx17 : Bx w9 (w1.heap.size) (tupC b) 40 := Bx.new hw10
 have := bx17.lt
 clear g13 hw10
 refine At.rd f11 1 [[]] [(6, .int .i64 (0))] [] (by kernel_rfl) trivial (fun act19 f18 => ?_)
 clear f11
 refine At.done rfl ?_
 refine t_n ?_
 have f20 := f18.sub (r := [(6, .int .i64 (0)), (4, .pointer (some ⟨w1.heap.size, 0, none⟩)), (3, .pointer (some ⟨w.heap.size, 0, none⟩)), (2, .int .i64 (p))]) ⟨rfl, rfl, rfl, rfl, trivial⟩
 clear f18
 refine wp_seq ?_
 refine wp_seq ?_
 refine At.start ?_
 rcases Bool.eq_false_or_eq_true (a.top) with h21 | h21
 ·refine At.rd f20 6 [[], [.ld (.bool (a.top))], [.as_ (.bool true)], [], [], []] [(13, .bool true), (12, undef), (11, undef), (10, .bool true), (9, .bool (a.top)), (8, .pointer (some ⟨w.heap.size, 0, none⟩))] [(w9.cell? ⟨w.heap.size, 0, none⟩ = some (.bool (a.top))), ((.bool (a.top) : Value) = .bool true)] (by kernel_rfl) ⟨(bx16.cell (i := 0) rfl), (congrArg Value.bool h21), trivial⟩ (fun act24 f23 => ?_)
  clear f20
  refine At.done rfl ?_
  refine t_n ?_
  have f25 := f23.sub (r := [(13, .bool true), (6, .int .i64 (0)), (4, .pointer (some ⟨w1.heap.size, 0, none⟩)), (3, .pointer (some ⟨w.heap.size, 0, none⟩)), (2, .int .i64 (p))]) ⟨rfl, rfl, rfl, rfl, rfl, trivial⟩
  clear f23
  refine cond_T f25 rfl ?_
  refine wp_seq ?_
  refine wp_seq ?_
  refine At.start ?_
  refine At.rd f25 6 [[], [.ld (.bool (a.top))], [.as_ (.bool true)], [], [.ld (.bool (b.top))], []] [(19, .bool (b.top)), (18, .bool (b.top)), (17, .pointer (some ⟨w1.heap.size, 0, none⟩)), (16, .bool true), (15, .bool (a.top)), (14, .pointer (some ⟨w.heap.size, 0, none⟩))] [(w9.cell? ⟨w.heap.size, 0, none⟩ = some (.bool (a.top))), ((.bool (a.top) : Value) = .bool true), (w9.cell? ⟨w1.heap.size, 0, none⟩ = some (.bool (b.top)))] (by kernel_rfl) ⟨(bx16.cell (i := 0) rfl), (congrArg Value.bool h21), (bx17.cell (i := 0) rfl), trivial⟩ (fun act27 f26 => ?_)
  clear f25
  refine At.done rfl ?_
  refine t_n ?_
  have f28 := f26.sub (r := [(19, .bool (b.top)), (3, .pointer (some ⟨w.heap.size, 0, none⟩))]) ⟨rfl, rfl, trivial⟩
  clear f26
  refine cond_S f28 (t := b.top) rfl (fun h29 => ?_) (fun h29 => ?_)
  ·refine wp_seq ?_
   refine At.start ?_
   refine At.rd f28 1 [[]] [(6, .int .i64 (0))] [] (by kernel_rfl) trivial (fun act32 f31 => ?_)
   clear f28
   refine At.done rfl ?_
   refine t_n ?_
   have f33 := f31.sub (r := [(6, .int .i64 (0))]) ⟨rfl, trivial⟩
   clear f31
   refine wp_ret ?_
   refine t_r ?_
   refine t_r ?_
   refine ret_ f33 [] [.int .i64 (0)] [] (by kernel_rfl) trivial ?_
   exact ⟨ret_eq (congrArg (Value.int .i64) (by first | exact down_lt (by assumption) (by assumption) hdn (by omega) (by omega) (by omega) (by omega) | exact down_gt (by assumption) (by assumption) hdn (by omega) (by omega) (by omega) (by omega) | exact down_end (by assumption) (by assumption) hdn (by omega) (by omega) (by omega) | exact cmp_tt (by assumption) (by assumption) | exact cmp_tf (by assumption) (by assumption) | exact cmp_ft (by assumption) (by assumption) | (rw [low_ff (by assumption) (by assumption)]; unfold lowT; omega))), e15⟩
  ·refine wp_skip ?_
   refine t_n ?_
   have f35 := f28.sub (r := [(3, .pointer (some ⟨w.heap.size, 0, none⟩))]) ⟨rfl, trivial⟩
   clear f28
   refine wp_seq ?_
   refine wp_seq ?_
   refine At.start ?_
   refine At.rd f35 2 [[], [.ld (.bool (a.top))]] [(21, .bool (a.top)), (20, .pointer (some ⟨w.heap.size, 0, none⟩))] [(w9.cell? ⟨w.heap.size, 0, none⟩ = some (.bool (a.top)))] (by kernel_rfl) ⟨(bx16.cell (i := 0) rfl), trivial⟩ (fun act37 f36 => ?_)
   clear f35
   refine At.done rfl ?_
   refine t_n ?_
   have f38 := f36.sub (r := [(21, .bool (a.top))]) ⟨rfl, trivial⟩
   clear f36
   refine cond_S f38 (t := a.top) rfl (fun hh => ?_) (fun hh => ?_)
   rotate_left
   · exact absurd (hh.symm.trans h21) (by decide)
   refine wp_seq ?_
   refine At.start ?_
   refine At.rd f38 1 [[]] [(6, .int .i64 (1))] [] (by kernel_rfl) trivial (fun act40 f39 => ?_)
   clear f38
   refine At.done rfl ?_
   refine t_n ?_
   have f41 := f39.sub (r := [(6, .int .i64 (1))]) ⟨rfl, trivial⟩
   clear f39
   refine wp_ret ?_
   refine t_r ?_
   refine t_r ?_
   refine ret_ f41 [] [.int .i64 (1)] [] (by kernel_rfl) trivial ?_
   exact ⟨ret_eq (congrArg (Value.int .i64) (by first | exact down_lt (by assumption) (by assumption) hdn (by omega) (by omega) (by omega) (by omega) | exact down_gt (by assumption) (by assumption) hdn (by omega) (by omega) (by omega) (by omega) | exact down_end (by assumption) (by assumption) hdn (by omega) (by omega) (by omega) | exact cmp_tt (by assumption) (by assumption) | exact cmp_tf (by assumption) (by assumption) | exact cmp_ft (by assumption) (by assumption) | (rw [low_ff (by assumption) (by assumption)]; unfold lowT; omega))), e15⟩
 ·refine At.rd f20 6 [[], [.ld (.bool (a.top))], [.as_ (.bool false)], [], [.ld (.bool (b.top))], []] [(13, .bool (b.top)), (12, .bool (b.top)), (11, .pointer (some ⟨w1.heap.size, 0, none⟩)), (10, .bool false), (9, .bool (a.top)), (8, .pointer (some ⟨w.heap.size, 0, none⟩))] [(w9.cell? ⟨w.heap.size, 0, none⟩ = some (.bool (a.top))), ((.bool (a.top) : Value) = .bool false), (w9.cell? ⟨w1.heap.size, 0, none⟩ = some (.bool (b.top)))] (by kernel_rfl) ⟨(bx16.cell (i := 0) rfl), (congrArg Value.bool h21), (bx17.cell (i := 0) rfl), trivial⟩ (fun act44 f43 => ?_)
  clear f20
  refine At.done rfl ?_
  refine t_n ?_
  have f45 := f43.sub (r := [(13, .bool (b.top)), (6, .int .i64 (0)), (4, .pointer (some ⟨w1.heap.size, 0, none⟩)), (3, .pointer (some ⟨w.heap.size, 0, none⟩)), (2, .int .i64 (p))]) ⟨rfl, rfl, rfl, rfl, rfl, trivial⟩
  clear f43
  refine cond_S f45 (t := b.top) rfl (fun h46 => ?_) (fun h46 => ?_)
  ·refine wp_seq ?_
   refine wp_seq ?_
   refine At.start ?_
   refine At.rd f45 6 [[], [.ld (.bool (a.top))], [.as_ (.bool false)], [], [], []] [(19, .bool false), (18, undef), (17, undef), (16, .bool false), (15, .bool (a.top)), (14, .pointer (some ⟨w.heap.size, 0, none⟩))] [(w9.cell? ⟨w.heap.size, 0, none⟩ = some (.bool (a.top))), ((.bool (a.top) : Value) = .bool false)] (by kernel_rfl) ⟨(bx16.cell (i := 0) rfl), (congrArg Value.bool h21), trivial⟩ (fun act49 f48 => ?_)
   clear f45
   refine At.done rfl ?_
   refine t_n ?_
   have f50 := f48.sub (r := [(19, .bool false), (3, .pointer (some ⟨w.heap.size, 0, none⟩))]) ⟨rfl, rfl, trivial⟩
   clear f48
   refine cond_F f50 rfl ?_
   refine wp_skip ?_
   refine t_n ?_
   have f51 := f50.sub (r := [(3, .pointer (some ⟨w.heap.size, 0, none⟩))]) ⟨rfl, trivial⟩
   clear f50
   refine wp_seq ?_
   refine wp_seq ?_
   refine At.start ?_
   refine At.rd f51 2 [[], [.ld (.bool (a.top))]] [(21, .bool (a.top)), (20, .pointer (some ⟨w.heap.size, 0, none⟩))] [(w9.cell? ⟨w.heap.size, 0, none⟩ = some (.bool (a.top)))] (by kernel_rfl) ⟨(bx16.cell (i := 0) rfl), trivial⟩ (fun act53 f52 => ?_)
   clear f51
   refine At.done rfl ?_
   refine t_n ?_
   have f54 := f52.sub (r := [(21, .bool (a.top))]) ⟨rfl, trivial⟩
   clear f52
   refine cond_S f54 (t := a.top) rfl (fun hh => ?_) (fun hh => ?_)
   · exact absurd (hh.symm.trans h21) (by decide)
   refine wp_skip ?_
   refine t_n ?_
   have f55 := f54.sub (r := []) trivial
   clear f54
   refine wp_seq ?_
   refine At.start ?_
   refine At.rd f55 1 [[]] [(6, .int .i64 (-1))] [] (by kernel_rfl) trivial (fun act57 f56 => ?_)
   clear f55
   refine At.done rfl ?_
   refine t_n ?_
   refine wp_ret ?_
   refine t_r ?_
   refine ret_ f56 [] [.int .i64 (-1)] [] (by kernel_rfl) trivial ?_
   exact ⟨ret_eq (congrArg (Value.int .i64) (by first | exact down_lt (by assumption) (by assumption) hdn (by omega) (by omega) (by omega) (by omega) | exact down_gt (by assumption) (by assumption) hdn (by omega) (by omega) (by omega) (by omega) | exact down_end (by assumption) (by assumption) hdn (by omega) (by omega) (by omega) | exact cmp_tt (by assumption) (by assumption) | exact cmp_tf (by assumption) (by assumption) | exact cmp_ft (by assumption) (by assumption) | (rw [low_ff (by assumption) (by assumption)]; unfold lowT; omega))), e15⟩
  ·refine wp_skip ?_
   refine t_n ?_
   have f59 := f45.sub (r := [(6, .int .i64 (0)), (4, .pointer (some ⟨w1.heap.size, 0, none⟩)), (3, .pointer (some ⟨w.heap.size, 0, none⟩)), (2, .int .i64 (p))]) ⟨rfl, rfl, rfl, rfl, trivial⟩
   clear f45
   refine wp_seq ?_
   refine wp_seq ?_
   refine At.start ?_
   refine At.rd f59 1 [[]] [(7, .int .i64 (3))] [] (by kernel_rfl) trivial (fun act61 f60 => ?_)
   clear f59
   refine At.done rfl ?_
   refine t_n ?_
   refine wp_block ?_
   have f62 := f60.sub (r := [(7, .int .i64 (3)), (6, .int .i64 (0)), (4, .pointer (some ⟨w1.heap.size, 0, none⟩)), (3, .pointer (some ⟨w.heap.size, 0, none⟩)), (2, .int .i64 (p))]) ⟨rfl, rfl, rfl, rfl, rfl, trivial⟩
   refine loop_g (fun (m_ : Nat) a_ w_ => ∃ (k : Int), m_ = (k + 1).toNat ∧ (Frm 49 a_ [(7, .int .i64 (k)), (6, .int .i64 (0)), (4, .pointer (some ⟨w1.heap.size, 0, none⟩)), (3, .pointer (some ⟨w.heap.size, 0, none⟩)), (2, .int .i64 (p))]) ∧ (Ext w w_) ∧ (Bx w_ (w.heap.size) (tupC a) 40) ∧ (Bx w_ (w1.heap.size) (tupC b) 40) ∧ (-1 ≤ k) ∧ (k ≤ 3) ∧ (DownT a b p k)) _ ⟨3, rfl, f62, e15, bx16, bx17, (by omega), (by omega), down0⟩ ?_
   clear f62 f60
   clear bx16
   clear bx17
   clear e15
   intro m_ act63 w65 ⟨k, hm67, f68, e66, bx69, bx70, i71, i72, hdn⟩
   have szw65 := e66.size
   have := bx69.lt
   have := bx70.lt
   refine wp_seq ?_
   refine wp_seq ?_
   refine At.start ?_
   refine At.rd f68 2 [[], []] [(23, .bool (decide ((k : Int) ≥ 0))), (22, .int .i64 (k))] [] (by kernel_rfl) trivial (fun act74 f73 => ?_)
   clear f68
   refine At.done rfl ?_
   refine t_n ?_
   have f75 := f73.sub (r := [(23, .bool (decide ((k : Int) ≥ 0))), (7, .int .i64 (k)), (6, .int .i64 (0)), (4, .pointer (some ⟨w1.heap.size, 0, none⟩)), (3, .pointer (some ⟨w.heap.size, 0, none⟩)), (2, .int .i64 (p))]) ⟨rfl, rfl, rfl, rfl, rfl, rfl, trivial⟩
   clear f73
   refine cond_S f75 (t := decide ((k : Int) ≥ 0)) rfl (fun h76 => ?_) (fun h76 => ?_)
   ·have q77 := of_decide_eq_true h76
    refine wp_skip ?_
    refine t_n ?_
    have f78 := f75.sub (r := [(7, .int .i64 (k)), (6, .int .i64 (0)), (4, .pointer (some ⟨w1.heap.size, 0, none⟩)), (3, .pointer (some ⟨w.heap.size, 0, none⟩)), (2, .int .i64 (p))]) ⟨rfl, rfl, rfl, rfl, rfl, trivial⟩
    clear f75
    refine wp_seq ?_
    refine wp_block ?_
    refine wp_seq ?_
    refine wp_seq ?_
    refine At.start ?_
    refine At.rd f78 5 [[], [.as_ (.int .i64 (2 * k))], [.as_ (.int .i64 ((2 * k) + 1))], [], []] [(30, .bool (decide (((2 * k) + 1 : Int) < p))), (29, .int .i64 (p)), (28, .int .i64 ((2 * k) + 1)), (27, .int .i64 (2 * k)), (26, .int .i64 (k))] [((.int .i64 (IntKind.i64.wrap (2 * k)) : Value) = .int .i64 (2 * k)), ((.int .i64 (IntKind.i64.wrap ((2 * k) + 1)) : Value) = .int .i64 ((2 * k) + 1))] (by kernel_rfl) ⟨(w64 (by omega) (by omega)), (w64 (by omega) (by omega)), trivial⟩ (fun act80 f79 => ?_)
    clear f78
    refine At.done rfl ?_
    refine t_n ?_
    have f81 := f79.sub (r := [(30, .bool (decide (((2 * k) + 1 : Int) < p))), (7, .int .i64 (k)), (6, .int .i64 (0)), (4, .pointer (some ⟨w1.heap.size, 0, none⟩)), (3, .pointer (some ⟨w.heap.size, 0, none⟩)), (2, .int .i64 (p))]) ⟨rfl, rfl, rfl, rfl, rfl, rfl, trivial⟩
    clear f79
    refine cond_S f81 (t := decide (((2 * k) + 1 : Int) < p)) rfl (fun h82 => ?_) (fun h82 => ?_)
    ·have q83 := of_decide_eq_true h82
     refine wp_seq ?_
     refine At.start ?_
     refine At.rd f81 1 [[]] [(6, .int .i64 (0))] [] (by kernel_rfl) trivial (fun act85 f84 => ?_)
     clear f81
     refine At.done rfl ?_
     refine t_n ?_
     have f86 := f84.sub (r := [(6, .int .i64 (0))]) ⟨rfl, trivial⟩
     clear f84
     refine wp_ret ?_
     refine t_r ?_
     refine b_r ?_
     refine t_r ?_
     refine t_r ?_
     refine b_r ?_
     refine t_r ?_
     refine ret_ f86 [] [.int .i64 (0)] [] (by kernel_rfl) trivial ?_
     exact ⟨ret_eq (congrArg (Value.int .i64) (by first | exact down_lt (by assumption) (by assumption) hdn (by omega) (by omega) (by omega) (by omega) | exact down_gt (by assumption) (by assumption) hdn (by omega) (by omega) (by omega) (by omega) | exact down_end (by assumption) (by assumption) hdn (by omega) (by omega) (by omega) | exact cmp_tt (by assumption) (by assumption) | exact cmp_tf (by assumption) (by assumption) | exact cmp_ft (by assumption) (by assumption) | (rw [low_ff (by assumption) (by assumption)]; unfold lowT; omega))), e66⟩
    ·have q87 := of_decide_eq_false h82
     refine wp_skip ?_
     refine t_n ?_
     have f88 := f81.sub (r := [(7, .int .i64 (k)), (6, .int .i64 (0)), (4, .pointer (some ⟨w1.heap.size, 0, none⟩)), (3, .pointer (some ⟨w.heap.size, 0, none⟩)), (2, .int .i64 (p))]) ⟨rfl, rfl, rfl, rfl, rfl, trivial⟩
     clear f81
     refine wp_seq ?_
     refine wp_seq ?_
     refine drawn_ro f88 (by kernel_rfl) (by kernel_rfl) [[], [], [], [.ld (.int .i64 (gI [a.c0, a.c1, a.c2, a.c3] k))], [], [], [], [.ld (.int .i64 (gI [b.c0, b.c1, b.c2, b.c3] k))], []] [(39, .bool (decide ((gI [a.c0, a.c1, a.c2, a.c3] k : Int) < (gI [b.c0, b.c1, b.c2, b.c3] k)))), (38, .int .i64 (gI [b.c0, b.c1, b.c2, b.c3] k)), (37, .pointer (some ((⟨w1.heap.size, 1, none⟩ : Addr).add ((k : Int).toNat * 1)))), (36, .pointer (some ⟨w1.heap.size, 1, none⟩)), (35, .int .i64 (k)), (34, .int .i64 (gI [a.c0, a.c1, a.c2, a.c3] k)), (33, .pointer (some ((⟨w.heap.size, 1, none⟩ : Addr).add ((k : Int).toNat * 1)))), (32, .pointer (some ⟨w.heap.size, 1, none⟩)), (31, .int .i64 (k))] [(0 ≤ (k : Int)), ((k : Int) < (4 : Nat)), (w65.cell? ((⟨w.heap.size, 1, none⟩ : Addr).add ((k : Int).toNat * 1)) = some (.int .i64 (gI [a.c0, a.c1, a.c2, a.c3] k))), (0 ≤ (k : Int)), ((k : Int) < (4 : Nat)), (w65.cell? ((⟨w1.heap.size, 1, none⟩ : Addr).add ((k : Int).toNat * 1)) = some (.int .i64 (gI [b.c0, b.c1, b.c2, b.c3] k)))] (by kernel_rfl) ⟨(by omega), (by omega), (Bx.arr (pre := [.bool (a.top)]) (l := [a.c0, a.c1, a.c2, a.c3]) (post := []) bx69 rfl k (by omega) (by simp only [List.length_cons, List.length_nil]; omega)), (by omega), (by omega), (Bx.arr (pre := [.bool (b.top)]) (l := [b.c0, b.c1, b.c2, b.c3]) (post := []) bx70 rfl k (by omega) (by simp only [List.length_cons, List.length_nil]; omega)), trivial⟩ (fun act90 w91 hw92 f89 => ?_)
     clear f88
     have g93 := gr_drew hw92
     have szw91 := g93.size
     have e94 := e66.gr g93 no_row
     clear e66
     have bx95 := bx69.gr g93 (by simp)
     clear bx69
     have bx96 := bx70.gr g93 (by simp)
     clear bx70
     clear g93 hw92
     refine t_n ?_
     have f97 := f89.sub (r := [(39, .bool (decide ((gI [a.c0, a.c1, a.c2, a.c3] k : Int) < (gI [b.c0, b.c1, b.c2, b.c3] k)))), (7, .int .i64 (k)), (6, .int .i64 (0)), (4, .pointer (some ⟨w1.heap.size, 0, none⟩)), (3, .pointer (some ⟨w.heap.size, 0, none⟩)), (2, .int .i64 (p))]) ⟨rfl, rfl, rfl, rfl, rfl, rfl, trivial⟩
     clear f89
     refine cond_S f97 (t := decide ((gI [a.c0, a.c1, a.c2, a.c3] k : Int) < (gI [b.c0, b.c1, b.c2, b.c3] k))) rfl (fun h98 => ?_) (fun h98 => ?_)
     ·have q99 := of_decide_eq_true h98
      refine wp_seq ?_
      refine At.start ?_
      refine At.rd f97 1 [[]] [(6, .int .i64 (-1))] [] (by kernel_rfl) trivial (fun act101 f100 => ?_)
      clear f97
      refine At.done rfl ?_
      refine t_n ?_
      have f102 := f100.sub (r := [(6, .int .i64 (-1))]) ⟨rfl, trivial⟩
      clear f100
      refine wp_ret ?_
      refine t_r ?_
      refine b_r ?_
      refine t_r ?_
      refine t_r ?_
      refine b_r ?_
      refine t_r ?_
      refine ret_ f102 [] [.int .i64 (-1)] [] (by kernel_rfl) trivial ?_
      exact ⟨ret_eq (congrArg (Value.int .i64) (by first | exact down_lt (by assumption) (by assumption) hdn (by omega) (by omega) (by omega) (by omega) | exact down_gt (by assumption) (by assumption) hdn (by omega) (by omega) (by omega) (by omega) | exact down_end (by assumption) (by assumption) hdn (by omega) (by omega) (by omega) | exact cmp_tt (by assumption) (by assumption) | exact cmp_tf (by assumption) (by assumption) | exact cmp_ft (by assumption) (by assumption) | (rw [low_ff (by assumption) (by assumption)]; unfold lowT; omega))), e94⟩
     ·have q103 := of_decide_eq_false h98
      refine wp_skip ?_
      refine t_n ?_
      have f104 := f97.sub (r := [(7, .int .i64 (k)), (6, .int .i64 (0)), (4, .pointer (some ⟨w1.heap.size, 0, none⟩)), (3, .pointer (some ⟨w.heap.size, 0, none⟩)), (2, .int .i64 (p))]) ⟨rfl, rfl, rfl, rfl, rfl, trivial⟩
      clear f97
      refine wp_seq ?_
      refine drawn_ro f104 (by kernel_rfl) (by kernel_rfl) [[], [], [], [.ld (.int .i64 (gI [a.c0, a.c1, a.c2, a.c3] k))], [], [], [], [.ld (.int .i64 (gI [b.c0, b.c1, b.c2, b.c3] k))], []] [(48, .bool (decide ((gI [a.c0, a.c1, a.c2, a.c3] k : Int) > (gI [b.c0, b.c1, b.c2, b.c3] k)))), (47, .int .i64 (gI [b.c0, b.c1, b.c2, b.c3] k)), (46, .pointer (some ((⟨w1.heap.size, 1, none⟩ : Addr).add ((k : Int).toNat * 1)))), (45, .pointer (some ⟨w1.heap.size, 1, none⟩)), (44, .int .i64 (k)), (43, .int .i64 (gI [a.c0, a.c1, a.c2, a.c3] k)), (42, .pointer (some ((⟨w.heap.size, 1, none⟩ : Addr).add ((k : Int).toNat * 1)))), (41, .pointer (some ⟨w.heap.size, 1, none⟩)), (40, .int .i64 (k))] [(0 ≤ (k : Int)), ((k : Int) < (4 : Nat)), (w91.cell? ((⟨w.heap.size, 1, none⟩ : Addr).add ((k : Int).toNat * 1)) = some (.int .i64 (gI [a.c0, a.c1, a.c2, a.c3] k))), (0 ≤ (k : Int)), ((k : Int) < (4 : Nat)), (w91.cell? ((⟨w1.heap.size, 1, none⟩ : Addr).add ((k : Int).toNat * 1)) = some (.int .i64 (gI [b.c0, b.c1, b.c2, b.c3] k)))] (by kernel_rfl) ⟨(by omega), (by omega), (Bx.arr (pre := [.bool (a.top)]) (l := [a.c0, a.c1, a.c2, a.c3]) (post := []) bx95 rfl k (by omega) (by simp only [List.length_cons, List.length_nil]; omega)), (by omega), (by omega), (Bx.arr (pre := [.bool (b.top)]) (l := [b.c0, b.c1, b.c2, b.c3]) (post := []) bx96 rfl k (by omega) (by simp only [List.length_cons, List.length_nil]; omega)), trivial⟩ (fun act106 w107 hw108 f105 => ?_)
      clear f104
      have g109 := gr_drew hw108
      have szw107 := g109.size
      have e110 := e94.gr g109 no_row
      clear e94
      have bx111 := bx95.gr g109 (by simp)
      clear bx95
      have bx112 := bx96.gr g109 (by simp)
      clear bx96
      clear g109 hw108
      refine t_n ?_
      have f113 := f105.sub (r := [(48, .bool (decide ((gI [a.c0, a.c1, a.c2, a.c3] k : Int) > (gI [b.c0, b.c1, b.c2, b.c3] k)))), (7, .int .i64 (k)), (6, .int .i64 (0)), (4, .pointer (some ⟨w1.heap.size, 0, none⟩)), (3, .pointer (some ⟨w.heap.size, 0, none⟩)), (2, .int .i64 (p))]) ⟨rfl, rfl, rfl, rfl, rfl, rfl, trivial⟩
      clear f105
      refine cond_S f113 (t := decide ((gI [a.c0, a.c1, a.c2, a.c3] k : Int) > (gI [b.c0, b.c1, b.c2, b.c3] k))) rfl (fun h114 => ?_) (fun h114 => ?_)
      ·have q115 := of_decide_eq_true h114
       refine wp_seq ?_
       refine At.start ?_
       refine At.rd f113 1 [[]] [(6, .int .i64 (1))] [] (by kernel_rfl) trivial (fun act117 f116 => ?_)
       clear f113
       refine At.done rfl ?_
       refine t_n ?_
       have f118 := f116.sub (r := [(6, .int .i64 (1))]) ⟨rfl, trivial⟩
       clear f116
       refine wp_ret ?_
       refine b_r ?_
       refine t_r ?_
       refine t_r ?_
       refine b_r ?_
       refine t_r ?_
       refine ret_ f118 [] [.int .i64 (1)] [] (by kernel_rfl) trivial ?_
       exact ⟨ret_eq (congrArg (Value.int .i64) (by first | exact down_lt (by assumption) (by assumption) hdn (by omega) (by omega) (by omega) (by omega) | exact down_gt (by assumption) (by assumption) hdn (by omega) (by omega) (by omega) (by omega) | exact down_end (by assumption) (by assumption) hdn (by omega) (by omega) (by omega) | exact cmp_tt (by assumption) (by assumption) | exact cmp_tf (by assumption) (by assumption) | exact cmp_ft (by assumption) (by assumption) | (rw [low_ff (by assumption) (by assumption)]; unfold lowT; omega))), e110⟩
      ·have q119 := of_decide_eq_false h114
       refine wp_skip ?_
       refine b_n ?_
       refine t_n ?_
       have f120 := f113.sub (r := [(7, .int .i64 (k)), (6, .int .i64 (0)), (4, .pointer (some ⟨w1.heap.size, 0, none⟩)), (3, .pointer (some ⟨w.heap.size, 0, none⟩)), (2, .int .i64 (p))]) ⟨rfl, rfl, rfl, rfl, rfl, trivial⟩
       clear f113
       refine At.start ?_
       refine At.rd f120 3 [[], [.as_ (.int .i64 (k - 1))], []] [(7, .int .i64 (k - 1)), (25, .int .i64 (k - 1)), (24, .int .i64 (k))] [((.int .i64 (IntKind.i64.wrap (k - 1)) : Value) = .int .i64 (k - 1))] (by kernel_rfl) ⟨(w64 (by omega) (by omega)), trivial⟩ (fun act122 f121 => ?_)
       clear f120
       refine At.done rfl ?_
       refine t_n ?_
       have f123 := f121.sub (r := [(7, .int .i64 (k - 1)), (6, .int .i64 (0)), (4, .pointer (some ⟨w1.heap.size, 0, none⟩)), (3, .pointer (some ⟨w.heap.size, 0, none⟩)), (2, .int .i64 (p))]) ⟨rfl, rfl, rfl, rfl, rfl, trivial⟩
       exact ⟨_, (by omega), (k - 1), rfl, f123, e110, bx111, bx112, (by omega), (by omega), (down_next hdn (by omega) (by omega) (by omega))⟩
   ·have q124 := of_decide_eq_false h76
    refine wp_exit ?_
    refine t_e ?_
    refine t_e ?_
    refine b_e ?_
    refine t_n ?_
    have f125 := f75.sub (r := []) trivial
    clear f75
    refine wp_seq ?_
    refine At.start ?_
    refine At.rd f125 1 [[]] [(6, .int .i64 (0))] [] (by kernel_rfl) trivial (fun act127 f126 => ?_)
    clear f125
    refine At.done rfl ?_
    refine t_n ?_
    refine wp_ret ?_
    refine ret_ f126 [] [.int .i64 (0)] [] (by kernel_rfl) trivial ?_
    exact ⟨ret_eq (congrArg (Value.int .i64) (by first | exact down_lt (by assumption) (by assumption) hdn (by omega) (by omega) (by omega) (by omega) | exact down_gt (by assumption) (by assumption) hdn (by omega) (by omega) (by omega) (by omega) | exact down_end (by assumption) (by assumption) hdn (by omega) (by omega) (by omega) | exact cmp_tt (by assumption) (by assumption) | exact cmp_tf (by assumption) (by assumption) | exact cmp_ft (by assumption) (by assumption) | (rw [low_ff (by assumption) (by assumption)]; unfold lowT; omega))), e66⟩

end Go.Proofs.Ytklbpajmoklheaa
