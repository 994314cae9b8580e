/-
  A walk of a Go function, printed by a program of this repo. Conditions: what the theorems name.
-/
import Derived.Test.YtklbpajmoklheaaPureTup
set_option linter.unusedVariables false
set_option linter.unusedSimpArgs false
namespace Go.Proofs.Ytklbpajmoklheaa
open Go Go.RowKit

set_option maxHeartbeats 4000000 in
theorem above_any {k p : Int} {w : World} (h0 : -1 ≤ k) (h1 : k ≤ 4) :
    Calls Try.prog 43 #[.int .i64 (k), .int .i64 (p)] w fun e w' => e = .returned (.bool (decide (2 * k + 1 ≥ p))) ∧ Ext w w' := by
  refine enter_ (args := [.int .i64 (k), .int .i64 (p)]) Try.func43 rfl Try.ntmps43 (Nat.le_of_ble_eq_true rfl) (fun act0 f0 => ?_)
  have e0 := Ext.refl w
  refine wp_seq ?_
  refine At.start ?_
  refine At.rd f0 1 [[]] [(4, .bool false)] [] (by kernel_rfl) trivial (fun act2 f1 => ?_)
  clear f0
  refine At.done rfl ?_
  refine t_n ?_
  refine wp_seq ?_
  refine At.start ?_
  refine At.rd f1 6 [[], [.as_ (.int .i64 (2 * k))], [.as_ (.int .i64 ((2 * k) + 1))], [], [], []] [(4, .bool (decide (((2 * k) + 1 : Int) ≥ p))), (9, .bool (decide (((2 * k) + 1 : Int) ≥ p))), (8, .int .i64 (p)), (7, .int .i64 ((2 * k) + 1)), (6, .int .i64 (2 * k)), (5, .int .i64 (k))] [((.int .i64 (IntKind.i64.wrap (2 * k)) : Value) = .int .i64 (2 * k)), ((.int .i64 (IntKind.i64.wrap ((2 * k) + 1)) : Value) = .int .i64 ((2 * k) + 1))] (by kernel_rfl) ⟨(w64 (by omega) (by omega)), (w64 (by omega) (by omega)), trivial⟩ (fun act4 f3 => ?_)
  clear f1
  refine At.done rfl ?_
  refine t_n ?_
  have f5 := f3.sub (r := [(4, .bool (decide (((2 * k) + 1 : Int) ≥ p)))]) ⟨rfl, trivial⟩
  clear f3
  refine wp_ret ?_
  refine ret_ f5 [] [.bool (decide (((2 * k) + 1 : Int) ≥ p))] [] (by kernel_rfl) trivial ?_
  exact ⟨rfl, e0⟩

set_option maxHeartbeats 4000000 in
theorem cmpM_any {a b : Tup} {p : Int} {w : World} :
    Calls Try.prog 23 #[tupV a, tupV b, .int .i64 (p)] w fun e w' => e = .returned (.int .i64 (cmpT a b p)) ∧ Ext w w' := by
  refine enter_ (args := [tupV a, tupV b, .int .i64 (p)]) Try.func23 rfl Try.ntmps23 (Nat.le_of_ble_eq_true rfl) (fun act0 f0 => ?_)
  have e0 := Ext.refl w
  refine wp_seq ?_
  refine At.start ?_
  refine At.seq f0 1 [[]] [(3, .pointer (some ⟨w.heap.size, 0, none⟩))] (w.alloc (.cells ((tupC a)).toArray 41 (0, 0))) [] (by kernel_rfl) trivial (fun act4 w1 hw2 f3 => ?_)
  clear f0
  have g5 := gr_alloc hw2
  have szw1 := g5.size
  have e7 := e0.gr g5 no_row
  clear e0
  have bx8 : Bx w1 (w.heap.size) (tupC a) 41 := Bx.new hw2
  have := bx8.lt
  clear g5 hw2
  refine At.seq f3 1 [[]] [(4, .pointer (some ⟨w1.heap.size, 0, none⟩))] (w1.alloc (.cells ((tupC b)).toArray 41 (0, 0))) [] (by kernel_rfl) trivial (fun act12 w9 hw10 f11 => ?_)
  clear f3
  have g13 := gr_alloc hw10
  have szw9 := g13.size
  have e15 := e7.gr g13 no_row
  clear e7
  have bx16 := bx8.gr g13 (by simp)
  clear bx8
  have bx17 : Bx w9 (w1.heap.size) (tupC b) 41 := Bx.new hw10
  have := bx17.lt
  clear g13 hw10
  refine At.rd f11 1 [[]] [(6, .int .i64 (0))] [] (by kernel_rfl) trivial (fun act19 f18 => ?_)
  clear f11
  refine At.done rfl ?_
  refine t_n ?_
  have f20 := f18.sub (r := [(6, .int .i64 (0)), (4, .pointer (some ⟨w1.heap.size, 0, none⟩)), (3, .pointer (some ⟨w.heap.size, 0, none⟩)), (2, .int .i64 (p))]) ⟨rfl, rfl, rfl, rfl, trivial⟩
  clear f18
  refine wp_seq ?_
  refine wp_block ?_
  refine wp_seq ?_
  refine At.start ?_
  rcases Bool.eq_false_or_eq_true (a.top) with h21 | h21
  · refine At.rd f20 7 [[], [.ld (.bool (a.top))], [.as_ (.bool true)], [], [.ld (.bool (b.top))], [], []] [(8, .bool (b.top)), (14, .bool (b.top)), (13, .bool (b.top)), (12, .pointer (some ⟨w1.heap.size, 0, none⟩)), (11, .bool true), (10, .bool (a.top)), (9, .pointer (some ⟨w.heap.size, 0, none⟩))] [(w9.cell? ⟨w.heap.size, 0, none⟩ = some (.bool (a.top))), ((.bool (a.top) : Value) = .bool true), (w9.cell? ⟨w1.heap.size, 0, none⟩ = some (.bool (b.top)))] (by kernel_rfl) ⟨(bx16.cell (i := 0) rfl), (congrArg Value.bool h21), (bx17.cell (i := 0) rfl), trivial⟩ (fun act24 f23 => ?_)
    clear f20
    refine At.done rfl ?_
    refine t_n ?_
    have f25 := f23.sub (r := [(8, .bool (b.top)), (6, .int .i64 (0)), (4, .pointer (some ⟨w1.heap.size, 0, none⟩)), (3, .pointer (some ⟨w.heap.size, 0, none⟩)), (2, .int .i64 (p))]) ⟨rfl, rfl, rfl, rfl, rfl, trivial⟩
    clear f23
    refine cond_S f25 (t := b.top) rfl (fun h26 => ?_) (fun h26 => ?_)
    · refine wp_seq ?_
      refine At.start ?_
      refine At.rd f25 1 [[]] [(6, .int .i64 (0))] [] (by kernel_rfl) trivial (fun act29 f28 => ?_)
      clear f25
      refine At.done rfl ?_
      refine t_n ?_
      have f30 := f28.sub (r := [(6, .int .i64 (0)), (4, .pointer (some ⟨w1.heap.size, 0, none⟩)), (3, .pointer (some ⟨w.heap.size, 0, none⟩)), (2, .int .i64 (p))]) ⟨rfl, rfl, rfl, rfl, trivial⟩
      clear f28
      refine wp_ret ?_
      refine b_r ?_
      refine t_r ?_
      refine ret_ f30 [] [.int .i64 (0)] [] (by kernel_rfl) trivial ?_
      exact ⟨ret_eq (congrArg (Value.int .i64) (by first | exact cmp_tt (by assumption) (by assumption) | exact cmp_tf (by assumption) (by assumption) | exact cmp_ft (by assumption) (by assumption) | (rw [low_ff (by assumption) (by assumption)]; unfold lowT; omega))), e15⟩
    · refine wp_seq ?_
      refine At.start ?_
      refine At.rd f25 3 [[], [.ld (.bool (a.top))], []] [(15, .bool (a.top)), (17, .bool (a.top)), (16, .pointer (some ⟨w.heap.size, 0, none⟩))] [(w9.cell? ⟨w.heap.size, 0, none⟩ = some (.bool (a.top)))] (by kernel_rfl) ⟨(bx16.cell (i := 0) rfl), trivial⟩ (fun act33 f32 => ?_)
      clear f25
      refine At.done rfl ?_
      refine t_n ?_
      have f34 := f32.sub (r := [(15, .bool (a.top)), (6, .int .i64 (0)), (4, .pointer (some ⟨w1.heap.size, 0, none⟩)), (3, .pointer (some ⟨w.heap.size, 0, none⟩)), (2, .int .i64 (p))]) ⟨rfl, rfl, rfl, rfl, rfl, trivial⟩
      clear f32
      refine cond_S f34 (t := a.top) rfl (fun hh => ?_) (fun hh => ?_)
      rotate_left
      · exact absurd (hh.symm.trans h21) (by decide)
      refine wp_seq ?_
      refine At.start ?_
      refine At.rd f34 1 [[]] [(6, .int .i64 (1))] [] (by kernel_rfl) trivial (fun act36 f35 => ?_)
      clear f34
      refine At.done rfl ?_
      refine t_n ?_
      have f37 := f35.sub (r := [(6, .int .i64 (1)), (4, .pointer (some ⟨w1.heap.size, 0, none⟩)), (3, .pointer (some ⟨w.heap.size, 0, none⟩)), (2, .int .i64 (p))]) ⟨rfl, rfl, rfl, rfl, trivial⟩
      clear f35
      refine wp_ret ?_
      refine b_r ?_
      refine t_r ?_
      refine ret_ f37 [] [.int .i64 (1)] [] (by kernel_rfl) trivial ?_
      exact ⟨ret_eq (congrArg (Value.int .i64) (by first | exact cmp_tt (by assumption) (by assumption) | exact cmp_tf (by assumption) (by assumption) | exact cmp_ft (by assumption) (by assumption) | (rw [low_ff (by assumption) (by assumption)]; unfold lowT; omega))), e15⟩
  · refine At.rd f20 7 [[], [.ld (.bool (a.top))], [.as_ (.bool false)], [], [], [], []] [(8, .bool false), (14, .bool false), (13, undef), (12, undef), (11, .bool false), (10, .bool (a.top)), (9, .pointer (some ⟨w.heap.size, 0, none⟩))] [(w9.cell? ⟨w.heap.size, 0, none⟩ = some (.bool (a.top))), ((.bool (a.top) : Value) = .bool false)] (by kernel_rfl) ⟨(bx16.cell (i := 0) rfl), (congrArg Value.bool h21), trivial⟩ (fun act40 f39 => ?_)
    clear f20
    refine At.done rfl ?_
    refine t_n ?_
    have f41 := f39.sub (r := [(8, .bool false), (6, .int .i64 (0)), (4, .pointer (some ⟨w1.heap.size, 0, none⟩)), (3, .pointer (some ⟨w.heap.size, 0, none⟩)), (2, .int .i64 (p))]) ⟨rfl, rfl, rfl, rfl, rfl, trivial⟩
    clear f39
    refine cond_F f41 rfl ?_
    refine wp_seq ?_
    refine At.start ?_
    refine At.rd f41 3 [[], [.ld (.bool (a.top))], []] [(15, .bool (a.top)), (17, .bool (a.top)), (16, .pointer (some ⟨w.heap.size, 0, none⟩))] [(w9.cell? ⟨w.heap.size, 0, none⟩ = some (.bool (a.top)))] (by kernel_rfl) ⟨(bx16.cell (i := 0) rfl), trivial⟩ (fun act43 f42 => ?_)
    clear f41
    refine At.done rfl ?_
    refine t_n ?_
    have f44 := f42.sub (r := [(15, .bool (a.top)), (6, .int .i64 (0)), (4, .pointer (some ⟨w1.heap.size, 0, none⟩)), (3, .pointer (some ⟨w.heap.size, 0, none⟩)), (2, .int .i64 (p))]) ⟨rfl, rfl, rfl, rfl, rfl, trivial⟩
    clear f42
    refine cond_S f44 (t := a.top) rfl (fun hh => ?_) (fun hh => ?_)
    · exact absurd (hh.symm.trans h21) (by decide)
    refine wp_seq ?_
    refine At.start ?_
    refine At.rd f44 3 [[], [.ld (.bool (b.top))], []] [(18, .bool (b.top)), (20, .bool (b.top)), (19, .pointer (some ⟨w1.heap.size, 0, none⟩))] [(w9.cell? ⟨w1.heap.size, 0, none⟩ = some (.bool (b.top)))] (by kernel_rfl) ⟨(bx17.cell (i := 0) rfl), trivial⟩ (fun act46 f45 => ?_)
    clear f44
    refine At.done rfl ?_
    refine t_n ?_
    have f47 := f45.sub (r := [(18, .bool (b.top)), (6, .int .i64 (0)), (4, .pointer (some ⟨w1.heap.size, 0, none⟩)), (3, .pointer (some ⟨w.heap.size, 0, none⟩)), (2, .int .i64 (p))]) ⟨rfl, rfl, rfl, rfl, rfl, trivial⟩
    clear f45
    refine cond_S f47 (t := b.top) rfl (fun h48 => ?_) (fun h48 => ?_)
    · refine wp_seq ?_
      refine At.start ?_
      refine At.rd f47 1 [[]] [(6, .int .i64 (-1))] [] (by kernel_rfl) trivial (fun act51 f50 => ?_)
      clear f47
      refine At.done rfl ?_
      refine t_n ?_
      have f52 := f50.sub (r := [(6, .int .i64 (-1)), (4, .pointer (some ⟨w1.heap.size, 0, none⟩)), (3, .pointer (some ⟨w.heap.size, 0, none⟩)), (2, .int .i64 (p))]) ⟨rfl, rfl, rfl, rfl, trivial⟩
      clear f50
      refine wp_ret ?_
      refine b_r ?_
      refine t_r ?_
      refine ret_ f52 [] [.int .i64 (-1)] [] (by kernel_rfl) trivial ?_
      exact ⟨ret_eq (congrArg (Value.int .i64) (by first | exact cmp_tt (by assumption) (by assumption) | exact cmp_tf (by assumption) (by assumption) | exact cmp_ft (by assumption) (by assumption) | (rw [low_ff (by assumption) (by assumption)]; unfold lowT; omega))), e15⟩
    · refine wp_skip ?_
      refine b_n ?_
      refine t_n ?_
      have f54 := f47.sub (r := [(6, .int .i64 (0)), (4, .pointer (some ⟨w1.heap.size, 0, none⟩)), (3, .pointer (some ⟨w.heap.size, 0, none⟩)), (2, .int .i64 (p))]) ⟨rfl, rfl, rfl, rfl, trivial⟩
      clear f47
      refine wp_seq ?_
      refine wp_seq ?_
      refine At.start ?_
      refine At.rd f54 1 [[]] [(7, .int .i64 (3))] [] (by kernel_rfl) trivial (fun act56 f55 => ?_)
      clear f54
      refine At.done rfl ?_
      refine t_n ?_
      refine wp_block ?_
      refine loop_u0 ?_
      refine loop_u ?_
      refine wp_seq ?_
      refine wp_seq ?_
      refine At.start ?_
      refine At.rd f55 5 [[], [.as_ (.bool true)], [], [], []] [(25, .int .i64 (p)), (24, .int .i64 (3)), (23, .bool true), (22, .bool true), (21, .int .i64 (3))] [((.bool (decide ((3 : Int) ≥ 0)) : Value) = .bool true)] (by kernel_rfl) ⟨(by kernel_rfl), trivial⟩ (fun act58 f57 => ?_)
      clear f55
      refine At.call f57 43 #[.int .i64 (3), .int .i64 (p)] (some 26) (by kernel_rfl) (above_any (k := 3) (p := p) (by omega) (by omega)) ?_
      rintro e_ w59 ⟨rfl, he⟩
      refine ⟨_, rfl, _, rfl, fun act60 f61 => ?_⟩
      clear f57
      have g62 := gr_ext he
      have szw59 := g62.size
      have e63 := e15.gr g62 no_row
      clear e15
      have bx64 := bx16.gr g62 (by simp)
      clear bx16
      have bx65 := bx17.gr g62 (by simp)
      clear bx17
      clear g62 he
      refine At.rd f61 1 [[]] [(27, .bool (decide (2 * 3 + 1 ≥ p)))] [] (by kernel_rfl) trivial (fun act67 f66 => ?_)
      clear f61
      refine At.done rfl ?_
      refine t_n ?_
      refine cond_S f66 (t := decide (2 * 3 + 1 ≥ p)) rfl (fun h68 => ?_) (fun h68 => ?_)
      · have q69 := of_decide_eq_true h68
        refine wp_skip ?_
        refine t_n ?_
        refine wp_seq ?_
        refine wp_block ?_
        refine wp_block ?_
        refine wp_seq ?_
        refine drawn_ro f66 (by kernel_rfl) (by kernel_rfl) [[], [], [], [.ld (.int .i64 (a.c3))], [], [], [], [.ld (.int .i64 (b.c3))], [], []] [(30, .bool (decide ((a.c3 : Int) < b.c3))), (39, .bool (decide ((a.c3 : Int) < b.c3))), (38, .int .i64 (b.c3)), (37, .pointer (some ⟨w1.heap.size, 4, none⟩)), (36, .pointer (some ⟨w1.heap.size, 1, none⟩)), (35, .int .i64 (3)), (34, .int .i64 (a.c3)), (33, .pointer (some ⟨w.heap.size, 4, none⟩)), (32, .pointer (some ⟨w.heap.size, 1, none⟩)), (31, .int .i64 (3))] [(0 ≤ (3 : Int)), ((3 : Int) < (4 : Nat)), (w59.cell? ⟨w.heap.size, 4, none⟩ = some (.int .i64 (a.c3))), (0 ≤ (3 : Int)), ((3 : Int) < (4 : Nat)), (w59.cell? ⟨w1.heap.size, 4, none⟩ = some (.int .i64 (b.c3)))] (by kernel_rfl) ⟨(by decide), (by decide), (bx64.cell (i := 4) rfl), (by decide), (by decide), (bx65.cell (i := 4) rfl), trivial⟩ (fun act71 w72 hw73 f70 => ?_)
        clear f66
        have g74 := gr_drew hw73
        have szw72 := g74.size
        have e75 := e63.gr g74 no_row
        clear e63
        have bx76 := bx64.gr g74 (by simp)
        clear bx64
        have bx77 := bx65.gr g74 (by simp)
        clear bx65
        clear g74 hw73
        refine t_n ?_
        refine cond_S f70 (t := decide ((a.c3 : Int) < b.c3)) rfl (fun h78 => ?_) (fun h78 => ?_)
        · have q79 := of_decide_eq_true h78
          refine wp_seq ?_
          refine At.start ?_
          refine At.rd f70 1 [[]] [(6, .int .i64 (-1))] [] (by kernel_rfl) trivial (fun act81 f80 => ?_)
          clear f70
          refine At.done rfl ?_
          refine t_n ?_
          have f82 := f80.sub (r := [(6, .int .i64 (-1)), (30, .bool (decide ((a.c3 : Int) < b.c3))), (39, .bool (decide ((a.c3 : Int) < b.c3))), (38, .int .i64 (b.c3)), (37, .pointer (some ⟨w1.heap.size, 4, none⟩)), (36, .pointer (some ⟨w1.heap.size, 1, none⟩)), (35, .int .i64 (3)), (34, .int .i64 (a.c3)), (33, .pointer (some ⟨w.heap.size, 4, none⟩)), (32, .pointer (some ⟨w.heap.size, 1, none⟩)), (31, .int .i64 (3)), (27, .bool (decide (2 * 3 + 1 ≥ p))), (26, .bool (decide (2 * 3 + 1 ≥ p))), (25, .int .i64 (p)), (24, .int .i64 (3)), (23, .bool true), (22, .bool true), (21, .int .i64 (3)), (7, .int .i64 (3)), (4, .pointer (some ⟨w1.heap.size, 0, none⟩)), (3, .pointer (some ⟨w.heap.size, 0, none⟩)), (2, .int .i64 (p))]) ⟨rfl, rfl, rfl, rfl, rfl, rfl, rfl, rfl, rfl, rfl, rfl, rfl, rfl, rfl, rfl, rfl, rfl, rfl, rfl, rfl, rfl, rfl, trivial⟩
          clear f80
          refine wp_ret ?_
          refine b_r ?_
          refine b_r ?_
          refine t_r ?_
          refine t_r ?_
          refine b_r ?_
          refine t_r ?_
          refine ret_ f82 [] [.int .i64 (-1)] [] (by kernel_rfl) trivial ?_
          exact ⟨ret_eq (congrArg (Value.int .i64) (by first | exact cmp_tt (by assumption) (by assumption) | exact cmp_tf (by assumption) (by assumption) | exact cmp_ft (by assumption) (by assumption) | (rw [low_ff (by assumption) (by assumption)]; unfold lowT; omega))), e75⟩
        · have q83 := of_decide_eq_false h78
          refine wp_seq ?_
          refine drawn_ro f70 (by kernel_rfl) (by kernel_rfl) [[], [], [], [.ld (.int .i64 (a.c3))], [], [], [], [.ld (.int .i64 (b.c3))], [], []] [(40, .bool (decide ((a.c3 : Int) > b.c3))), (49, .bool (decide ((a.c3 : Int) > b.c3))), (48, .int .i64 (b.c3)), (47, .pointer (some ⟨w1.heap.size, 4, none⟩)), (46, .pointer (some ⟨w1.heap.size, 1, none⟩)), (45, .int .i64 (3)), (44, .int .i64 (a.c3)), (43, .pointer (some ⟨w.heap.size, 4, none⟩)), (42, .pointer (some ⟨w.heap.size, 1, none⟩)), (41, .int .i64 (3))] [(0 ≤ (3 : Int)), ((3 : Int) < (4 : Nat)), (w72.cell? ⟨w.heap.size, 4, none⟩ = some (.int .i64 (a.c3))), (0 ≤ (3 : Int)), ((3 : Int) < (4 : Nat)), (w72.cell? ⟨w1.heap.size, 4, none⟩ = some (.int .i64 (b.c3)))] (by kernel_rfl) ⟨(by decide), (by decide), (bx76.cell (i := 4) rfl), (by decide), (by decide), (bx77.cell (i := 4) rfl), trivial⟩ (fun act85 w86 hw87 f84 => ?_)
          clear f70
          have g88 := gr_drew hw87
          have szw86 := g88.size
          have e89 := e75.gr g88 no_row
          clear e75
          have bx90 := bx76.gr g88 (by simp)
          clear bx76
          have bx91 := bx77.gr g88 (by simp)
          clear bx77
          clear g88 hw87
          refine t_n ?_
          refine cond_S f84 (t := decide ((a.c3 : Int) > b.c3)) rfl (fun h92 => ?_) (fun h92 => ?_)
          · have q93 := of_decide_eq_true h92
            refine wp_seq ?_
            refine At.start ?_
            refine At.rd f84 1 [[]] [(6, .int .i64 (1))] [] (by kernel_rfl) trivial (fun act95 f94 => ?_)
            clear f84
            refine At.done rfl ?_
            refine t_n ?_
            have f96 := f94.sub (r := [(6, .int .i64 (1)), (40, .bool (decide ((a.c3 : Int) > b.c3))), (49, .bool (decide ((a.c3 : Int) > b.c3))), (48, .int .i64 (b.c3)), (47, .pointer (some ⟨w1.heap.size, 4, none⟩)), (46, .pointer (some ⟨w1.heap.size, 1, none⟩)), (45, .int .i64 (3)), (44, .int .i64 (a.c3)), (43, .pointer (some ⟨w.heap.size, 4, none⟩)), (42, .pointer (some ⟨w.heap.size, 1, none⟩)), (41, .int .i64 (3)), (30, .bool (decide ((a.c3 : Int) < b.c3))), (39, .bool (decide ((a.c3 : Int) < b.c3))), (38, .int .i64 (b.c3)), (37, .pointer (some ⟨w1.heap.size, 4, none⟩)), (36, .pointer (some ⟨w1.heap.size, 1, none⟩)), (35, .int .i64 (3)), (34, .int .i64 (a.c3)), (33, .pointer (some ⟨w.heap.size, 4, none⟩)), (32, .pointer (some ⟨w.heap.size, 1, none⟩)), (31, .int .i64 (3)), (27, .bool (decide (2 * 3 + 1 ≥ p))), (26, .bool (decide (2 * 3 + 1 ≥ p))), (25, .int .i64 (p)), (24, .int .i64 (3)), (23, .bool true), (22, .bool true), (21, .int .i64 (3)), (7, .int .i64 (3)), (4, .pointer (some ⟨w1.heap.size, 0, none⟩)), (3, .pointer (some ⟨w.heap.size, 0, none⟩)), (2, .int .i64 (p))]) ⟨rfl, rfl, rfl, rfl, rfl, rfl, rfl, rfl, rfl, rfl, rfl, rfl, rfl, rfl, rfl, rfl, rfl, rfl, rfl, rfl, rfl, rfl, rfl, rfl, rfl, rfl, rfl, rfl, rfl, rfl, rfl, rfl, trivial⟩
            clear f94
            refine wp_ret ?_
            refine b_r ?_
            refine b_r ?_
            refine t_r ?_
            refine t_r ?_
            refine b_r ?_
            refine t_r ?_
            refine ret_ f96 [] [.int .i64 (1)] [] (by kernel_rfl) trivial ?_
            exact ⟨ret_eq (congrArg (Value.int .i64) (by first | exact cmp_tt (by assumption) (by assumption) | exact cmp_tf (by assumption) (by assumption) | exact cmp_ft (by assumption) (by assumption) | (rw [low_ff (by assumption) (by assumption)]; unfold lowT; omega))), e89⟩
          · have q97 := of_decide_eq_false h92
            refine wp_skip ?_
            refine b_n ?_
            refine b_n ?_
            refine t_n ?_
            refine At.start ?_
            refine At.rd f84 3 [[], [.as_ (.int .i64 (2))], []] [(7, .int .i64 (2)), (29, .int .i64 (2)), (28, .int .i64 (3))] [((.int .i64 (IntKind.i64.wrap (3 - 1)) : Value) = .int .i64 (2))] (by kernel_rfl) ⟨(by kernel_rfl), trivial⟩ (fun act99 f98 => ?_)
            clear f84
            refine At.done rfl ?_
            refine t_n ?_
            have f100 := f98.sub (r := [(7, .int .i64 (2)), (29, .int .i64 (2)), (28, .int .i64 (3)), (40, .bool (decide ((a.c3 : Int) > b.c3))), (49, .bool (decide ((a.c3 : Int) > b.c3))), (48, .int .i64 (b.c3)), (47, .pointer (some ⟨w1.heap.size, 4, none⟩)), (46, .pointer (some ⟨w1.heap.size, 1, none⟩)), (45, .int .i64 (3)), (44, .int .i64 (a.c3)), (43, .pointer (some ⟨w.heap.size, 4, none⟩)), (42, .pointer (some ⟨w.heap.size, 1, none⟩)), (41, .int .i64 (3)), (30, .bool (decide ((a.c3 : Int) < b.c3))), (39, .bool (decide ((a.c3 : Int) < b.c3))), (38, .int .i64 (b.c3)), (37, .pointer (some ⟨w1.heap.size, 4, none⟩)), (36, .pointer (some ⟨w1.heap.size, 1, none⟩)), (35, .int .i64 (3)), (34, .int .i64 (a.c3)), (33, .pointer (some ⟨w.heap.size, 4, none⟩)), (32, .pointer (some ⟨w.heap.size, 1, none⟩)), (31, .int .i64 (3)), (27, .bool (decide (2 * 3 + 1 ≥ p))), (26, .bool (decide (2 * 3 + 1 ≥ p))), (25, .int .i64 (p)), (24, .int .i64 (3)), (23, .bool true), (22, .bool true), (21, .int .i64 (3)), (6, .int .i64 (0)), (4, .pointer (some ⟨w1.heap.size, 0, none⟩)), (3, .pointer (some ⟨w.heap.size, 0, none⟩)), (2, .int .i64 (p))]) ⟨rfl, rfl, rfl, rfl, rfl, rfl, rfl, rfl, rfl, rfl, rfl, rfl, rfl, rfl, rfl, rfl, rfl, rfl, rfl, rfl, rfl, rfl, rfl, rfl, rfl, rfl, rfl, rfl, rfl, rfl, rfl, rfl, rfl, rfl, trivial⟩
            clear f98
            refine loop_u ?_
            refine wp_seq ?_
            refine wp_seq ?_
            refine At.start ?_
            refine At.rd f100 5 [[], [.as_ (.bool true)], [], [], []] [(25, .int .i64 (p)), (24, .int .i64 (2)), (23, .bool true), (22, .bool true), (21, .int .i64 (2))] [((.bool (decide ((2 : Int) ≥ 0)) : Value) = .bool true)] (by kernel_rfl) ⟨(by kernel_rfl), trivial⟩ (fun act102 f101 => ?_)
            clear f100
            refine At.call f101 43 #[.int .i64 (2), .int .i64 (p)] (some 26) (by kernel_rfl) (above_any (k := 2) (p := p) (by omega) (by omega)) ?_
            rintro e_ w103 ⟨rfl, he⟩
            refine ⟨_, rfl, _, rfl, fun act104 f105 => ?_⟩
            clear f101
            have g106 := gr_ext he
            have szw103 := g106.size
            have e107 := e89.gr g106 no_row
            clear e89
            have bx108 := bx90.gr g106 (by simp)
            clear bx90
            have bx109 := bx91.gr g106 (by simp)
            clear bx91
            clear g106 he
            refine At.rd f105 1 [[]] [(27, .bool (decide (2 * 2 + 1 ≥ p)))] [] (by kernel_rfl) trivial (fun act111 f110 => ?_)
            clear f105
            refine At.done rfl ?_
            refine t_n ?_
            have f112 := f110.sub (r := [(27, .bool (decide (2 * 2 + 1 ≥ p))), (26, .bool (decide (2 * 2 + 1 ≥ p))), (25, .int .i64 (p)), (24, .int .i64 (2)), (23, .bool true), (22, .bool true), (21, .int .i64 (2)), (7, .int .i64 (2)), (29, .int .i64 (2)), (28, .int .i64 (3)), (40, .bool (decide ((a.c3 : Int) > b.c3))), (49, .bool (decide ((a.c3 : Int) > b.c3))), (48, .int .i64 (b.c3)), (47, .pointer (some ⟨w1.heap.size, 4, none⟩)), (46, .pointer (some ⟨w1.heap.size, 1, none⟩)), (45, .int .i64 (3)), (44, .int .i64 (a.c3)), (43, .pointer (some ⟨w.heap.size, 4, none⟩)), (42, .pointer (some ⟨w.heap.size, 1, none⟩)), (41, .int .i64 (3)), (30, .bool (decide ((a.c3 : Int) < b.c3))), (39, .bool (decide ((a.c3 : Int) < b.c3))), (38, .int .i64 (b.c3)), (37, .pointer (some ⟨w1.heap.size, 4, none⟩)), (36, .pointer (some ⟨w1.heap.size, 1, none⟩)), (35, .int .i64 (3)), (34, .int .i64 (a.c3)), (33, .pointer (some ⟨w.heap.size, 4, none⟩)), (32, .pointer (some ⟨w.heap.size, 1, none⟩)), (31, .int .i64 (3)), (6, .int .i64 (0)), (4, .pointer (some ⟨w1.heap.size, 0, none⟩)), (3, .pointer (some ⟨w.heap.size, 0, none⟩)), (2, .int .i64 (p))]) ⟨rfl, rfl, rfl, rfl, rfl, rfl, rfl, rfl, rfl, rfl, rfl, rfl, rfl, rfl, rfl, rfl, rfl, rfl, rfl, rfl, rfl, rfl, rfl, rfl, rfl, rfl, rfl, rfl, rfl, rfl, rfl, rfl, rfl, rfl, trivial⟩
            clear f110
            refine cond_S f112 (t := decide (2 * 2 + 1 ≥ p)) rfl (fun h113 => ?_) (fun h113 => ?_)
            · have q114 := of_decide_eq_true h113
              refine wp_skip ?_
              refine t_n ?_
              refine wp_seq ?_
              refine wp_block ?_
              refine wp_block ?_
              refine wp_seq ?_
              refine drawn_ro f112 (by kernel_rfl) (by kernel_rfl) [[], [], [], [.ld (.int .i64 (a.c2))], [], [], [], [.ld (.int .i64 (b.c2))], [], []] [(30, .bool (decide ((a.c2 : Int) < b.c2))), (39, .bool (decide ((a.c2 : Int) < b.c2))), (38, .int .i64 (b.c2)), (37, .pointer (some ⟨w1.heap.size, 3, none⟩)), (36, .pointer (some ⟨w1.heap.size, 1, none⟩)), (35, .int .i64 (2)), (34, .int .i64 (a.c2)), (33, .pointer (some ⟨w.heap.size, 3, none⟩)), (32, .pointer (some ⟨w.heap.size, 1, none⟩)), (31, .int .i64 (2))] [(0 ≤ (2 : Int)), ((2 : Int) < (4 : Nat)), (w103.cell? ⟨w.heap.size, 3, none⟩ = some (.int .i64 (a.c2))), (0 ≤ (2 : Int)), ((2 : Int) < (4 : Nat)), (w103.cell? ⟨w1.heap.size, 3, none⟩ = some (.int .i64 (b.c2)))] (by kernel_rfl) ⟨(by decide), (by decide), (bx108.cell (i := 3) rfl), (by decide), (by decide), (bx109.cell (i := 3) rfl), trivial⟩ (fun act116 w117 hw118 f115 => ?_)
              clear f112
              have g119 := gr_drew hw118
              have szw117 := g119.size
              have e120 := e107.gr g119 no_row
              clear e107
              have bx121 := bx108.gr g119 (by simp)
              clear bx108
              have bx122 := bx109.gr g119 (by simp)
              clear bx109
              clear g119 hw118
              refine t_n ?_
              have f123 := f115.sub (r := [(30, .bool (decide ((a.c2 : Int) < b.c2))), (39, .bool (decide ((a.c2 : Int) < b.c2))), (38, .int .i64 (b.c2)), (37, .pointer (some ⟨w1.heap.size, 3, none⟩)), (36, .pointer (some ⟨w1.heap.size, 1, none⟩)), (35, .int .i64 (2)), (34, .int .i64 (a.c2)), (33, .pointer (some ⟨w.heap.size, 3, none⟩)), (32, .pointer (some ⟨w.heap.size, 1, none⟩)), (31, .int .i64 (2)), (27, .bool (decide (2 * 2 + 1 ≥ p))), (26, .bool (decide (2 * 2 + 1 ≥ p))), (25, .int .i64 (p)), (24, .int .i64 (2)), (23, .bool true), (22, .bool true), (21, .int .i64 (2)), (7, .int .i64 (2)), (29, .int .i64 (2)), (28, .int .i64 (3)), (40, .bool (decide ((a.c3 : Int) > b.c3))), (49, .bool (decide ((a.c3 : Int) > b.c3))), (48, .int .i64 (b.c3)), (47, .pointer (some ⟨w1.heap.size, 4, none⟩)), (46, .pointer (some ⟨w1.heap.size, 1, none⟩)), (45, .int .i64 (3)), (44, .int .i64 (a.c3)), (43, .pointer (some ⟨w.heap.size, 4, none⟩)), (42, .pointer (some ⟨w.heap.size, 1, none⟩)), (41, .int .i64 (3)), (6, .int .i64 (0)), (4, .pointer (some ⟨w1.heap.size, 0, none⟩)), (3, .pointer (some ⟨w.heap.size, 0, none⟩)), (2, .int .i64 (p))]) ⟨rfl, rfl, rfl, rfl, rfl, rfl, rfl, rfl, rfl, rfl, rfl, rfl, rfl, rfl, rfl, rfl, rfl, rfl, rfl, rfl, rfl, rfl, rfl, rfl, rfl, rfl, rfl, rfl, rfl, rfl, rfl, rfl, rfl, rfl, trivial⟩
              clear f115
              refine cond_S f123 (t := decide ((a.c2 : Int) < b.c2)) rfl (fun h124 => ?_) (fun h124 => ?_)
              · have q125 := of_decide_eq_true h124
                refine wp_seq ?_
                refine At.start ?_
                refine At.rd f123 1 [[]] [(6, .int .i64 (-1))] [] (by kernel_rfl) trivial (fun act127 f126 => ?_)
                clear f123
                refine At.done rfl ?_
                refine t_n ?_
                have f128 := f126.sub (r := [(6, .int .i64 (-1)), (30, .bool (decide ((a.c2 : Int) < b.c2))), (39, .bool (decide ((a.c2 : Int) < b.c2))), (38, .int .i64 (b.c2)), (37, .pointer (some ⟨w1.heap.size, 3, none⟩)), (36, .pointer (some ⟨w1.heap.size, 1, none⟩)), (35, .int .i64 (2)), (34, .int .i64 (a.c2)), (33, .pointer (some ⟨w.heap.size, 3, none⟩)), (32, .pointer (some ⟨w.heap.size, 1, none⟩)), (31, .int .i64 (2)), (27, .bool (decide (2 * 2 + 1 ≥ p))), (26, .bool (decide (2 * 2 + 1 ≥ p))), (25, .int .i64 (p)), (24, .int .i64 (2)), (23, .bool true), (22, .bool true), (21, .int .i64 (2)), (7, .int .i64 (2)), (29, .int .i64 (2)), (28, .int .i64 (3)), (40, .bool (decide ((a.c3 : Int) > b.c3))), (49, .bool (decide ((a.c3 : Int) > b.c3))), (48, .int .i64 (b.c3)), (47, .pointer (some ⟨w1.heap.size, 4, none⟩)), (46, .pointer (some ⟨w1.heap.size, 1, none⟩)), (45, .int .i64 (3)), (44, .int .i64 (a.c3)), (43, .pointer (some ⟨w.heap.size, 4, none⟩)), (42, .pointer (some ⟨w.heap.size, 1, none⟩)), (41, .int .i64 (3)), (4, .pointer (some ⟨w1.heap.size, 0, none⟩)), (3, .pointer (some ⟨w.heap.size, 0, none⟩)), (2, .int .i64 (p))]) ⟨rfl, rfl, rfl, rfl, rfl, rfl, rfl, rfl, rfl, rfl, rfl, rfl, rfl, rfl, rfl, rfl, rfl, rfl, rfl, rfl, rfl, rfl, rfl, rfl, rfl, rfl, rfl, rfl, rfl, rfl, rfl, rfl, rfl, rfl, trivial⟩
                clear f126
                refine wp_ret ?_
                refine b_r ?_
                refine b_r ?_
                refine t_r ?_
                refine t_r ?_
                refine b_r ?_
                refine t_r ?_
                refine ret_ f128 [] [.int .i64 (-1)] [] (by kernel_rfl) trivial ?_
                exact ⟨ret_eq (congrArg (Value.int .i64) (by first | exact cmp_tt (by assumption) (by assumption) | exact cmp_tf (by assumption) (by assumption) | exact cmp_ft (by assumption) (by assumption) | (rw [low_ff (by assumption) (by assumption)]; unfold lowT; omega))), e120⟩
              · have q129 := of_decide_eq_false h124
                refine wp_seq ?_
                refine drawn_ro f123 (by kernel_rfl) (by kernel_rfl) [[], [], [], [.ld (.int .i64 (a.c2))], [], [], [], [.ld (.int .i64 (b.c2))], [], []] [(40, .bool (decide ((a.c2 : Int) > b.c2))), (49, .bool (decide ((a.c2 : Int) > b.c2))), (48, .int .i64 (b.c2)), (47, .pointer (some ⟨w1.heap.size, 3, none⟩)), (46, .pointer (some ⟨w1.heap.size, 1, none⟩)), (45, .int .i64 (2)), (44, .int .i64 (a.c2)), (43, .pointer (some ⟨w.heap.size, 3, none⟩)), (42, .pointer (some ⟨w.heap.size, 1, none⟩)), (41, .int .i64 (2))] [(0 ≤ (2 : Int)), ((2 : Int) < (4 : Nat)), (w117.cell? ⟨w.heap.size, 3, none⟩ = some (.int .i64 (a.c2))), (0 ≤ (2 : Int)), ((2 : Int) < (4 : Nat)), (w117.cell? ⟨w1.heap.size, 3, none⟩ = some (.int .i64 (b.c2)))] (by kernel_rfl) ⟨(by decide), (by decide), (bx121.cell (i := 3) rfl), (by decide), (by decide), (bx122.cell (i := 3) rfl), trivial⟩ (fun act131 w132 hw133 f130 => ?_)
                clear f123
                have g134 := gr_drew hw133
                have szw132 := g134.size
                have e135 := e120.gr g134 no_row
                clear e120
                have bx136 := bx121.gr g134 (by simp)
                clear bx121
                have bx137 := bx122.gr g134 (by simp)
                clear bx122
                clear g134 hw133
                refine t_n ?_
                have f138 := f130.sub (r := [(40, .bool (decide ((a.c2 : Int) > b.c2))), (49, .bool (decide ((a.c2 : Int) > b.c2))), (48, .int .i64 (b.c2)), (47, .pointer (some ⟨w1.heap.size, 3, none⟩)), (46, .pointer (some ⟨w1.heap.size, 1, none⟩)), (45, .int .i64 (2)), (44, .int .i64 (a.c2)), (43, .pointer (some ⟨w.heap.size, 3, none⟩)), (42, .pointer (some ⟨w.heap.size, 1, none⟩)), (41, .int .i64 (2)), (30, .bool (decide ((a.c2 : Int) < b.c2))), (39, .bool (decide ((a.c2 : Int) < b.c2))), (38, .int .i64 (b.c2)), (37, .pointer (some ⟨w1.heap.size, 3, none⟩)), (36, .pointer (some ⟨w1.heap.size, 1, none⟩)), (35, .int .i64 (2)), (34, .int .i64 (a.c2)), (33, .pointer (some ⟨w.heap.size, 3, none⟩)), (32, .pointer (some ⟨w.heap.size, 1, none⟩)), (31, .int .i64 (2)), (27, .bool (decide (2 * 2 + 1 ≥ p))), (26, .bool (decide (2 * 2 + 1 ≥ p))), (25, .int .i64 (p)), (24, .int .i64 (2)), (23, .bool true), (22, .bool true), (21, .int .i64 (2)), (7, .int .i64 (2)), (29, .int .i64 (2)), (28, .int .i64 (3)), (6, .int .i64 (0)), (4, .pointer (some ⟨w1.heap.size, 0, none⟩)), (3, .pointer (some ⟨w.heap.size, 0, none⟩)), (2, .int .i64 (p))]) ⟨rfl, rfl, rfl, rfl, rfl, rfl, rfl, rfl, rfl, rfl, rfl, rfl, rfl, rfl, rfl, rfl, rfl, rfl, rfl, rfl, rfl, rfl, rfl, rfl, rfl, rfl, rfl, rfl, rfl, rfl, rfl, rfl, rfl, rfl, trivial⟩
                clear f130
                refine cond_S f138 (t := decide ((a.c2 : Int) > b.c2)) rfl (fun h139 => ?_) (fun h139 => ?_)
                · have q140 := of_decide_eq_true h139
                  refine wp_seq ?_
                  refine At.start ?_
                  refine At.rd f138 1 [[]] [(6, .int .i64 (1))] [] (by kernel_rfl) trivial (fun act142 f141 => ?_)
                  clear f138
                  refine At.done rfl ?_
                  refine t_n ?_
                  have f143 := f141.sub (r := [(6, .int .i64 (1)), (40, .bool (decide ((a.c2 : Int) > b.c2))), (49, .bool (decide ((a.c2 : Int) > b.c2))), (48, .int .i64 (b.c2)), (47, .pointer (some ⟨w1.heap.size, 3, none⟩)), (46, .pointer (some ⟨w1.heap.size, 1, none⟩)), (45, .int .i64 (2)), (44, .int .i64 (a.c2)), (43, .pointer (some ⟨w.heap.size, 3, none⟩)), (42, .pointer (some ⟨w.heap.size, 1, none⟩)), (41, .int .i64 (2)), (30, .bool (decide ((a.c2 : Int) < b.c2))), (39, .bool (decide ((a.c2 : Int) < b.c2))), (38, .int .i64 (b.c2)), (37, .pointer (some ⟨w1.heap.size, 3, none⟩)), (36, .pointer (some ⟨w1.heap.size, 1, none⟩)), (35, .int .i64 (2)), (34, .int .i64 (a.c2)), (33, .pointer (some ⟨w.heap.size, 3, none⟩)), (32, .pointer (some ⟨w.heap.size, 1, none⟩)), (31, .int .i64 (2)), (27, .bool (decide (2 * 2 + 1 ≥ p))), (26, .bool (decide (2 * 2 + 1 ≥ p))), (25, .int .i64 (p)), (24, .int .i64 (2)), (23, .bool true), (22, .bool true), (21, .int .i64 (2)), (7, .int .i64 (2)), (29, .int .i64 (2)), (28, .int .i64 (3)), (4, .pointer (some ⟨w1.heap.size, 0, none⟩)), (3, .pointer (some ⟨w.heap.size, 0, none⟩)), (2, .int .i64 (p))]) ⟨rfl, rfl, rfl, rfl, rfl, rfl, rfl, rfl, rfl, rfl, rfl, rfl, rfl, rfl, rfl, rfl, rfl, rfl, rfl, rfl, rfl, rfl, rfl, rfl, rfl, rfl, rfl, rfl, rfl, rfl, rfl, rfl, rfl, rfl, trivial⟩
                  clear f141
                  refine wp_ret ?_
                  refine b_r ?_
                  refine b_r ?_
                  refine t_r ?_
                  refine t_r ?_
                  refine b_r ?_
                  refine t_r ?_
                  refine ret_ f143 [] [.int .i64 (1)] [] (by kernel_rfl) trivial ?_
                  exact ⟨ret_eq (congrArg (Value.int .i64) (by first | exact cmp_tt (by assumption) (by assumption) | exact cmp_tf (by assumption) (by assumption) | exact cmp_ft (by assumption) (by assumption) | (rw [low_ff (by assumption) (by assumption)]; unfold lowT; omega))), e135⟩
                · have q144 := of_decide_eq_false h139
                  refine wp_skip ?_
                  refine b_n ?_
                  refine b_n ?_
                  refine t_n ?_
                  refine At.start ?_
                  refine At.rd f138 3 [[], [.as_ (.int .i64 (1))], []] [(7, .int .i64 (1)), (29, .int .i64 (1)), (28, .int .i64 (2))] [((.int .i64 (IntKind.i64.wrap (2 - 1)) : Value) = .int .i64 (1))] (by kernel_rfl) ⟨(by kernel_rfl), trivial⟩ (fun act146 f145 => ?_)
                  clear f138
                  refine At.done rfl ?_
                  refine t_n ?_
                  have f147 := f145.sub (r := [(7, .int .i64 (1)), (29, .int .i64 (1)), (28, .int .i64 (2)), (40, .bool (decide ((a.c2 : Int) > b.c2))), (49, .bool (decide ((a.c2 : Int) > b.c2))), (48, .int .i64 (b.c2)), (47, .pointer (some ⟨w1.heap.size, 3, none⟩)), (46, .pointer (some ⟨w1.heap.size, 1, none⟩)), (45, .int .i64 (2)), (44, .int .i64 (a.c2)), (43, .pointer (some ⟨w.heap.size, 3, none⟩)), (42, .pointer (some ⟨w.heap.size, 1, none⟩)), (41, .int .i64 (2)), (30, .bool (decide ((a.c2 : Int) < b.c2))), (39, .bool (decide ((a.c2 : Int) < b.c2))), (38, .int .i64 (b.c2)), (37, .pointer (some ⟨w1.heap.size, 3, none⟩)), (36, .pointer (some ⟨w1.heap.size, 1, none⟩)), (35, .int .i64 (2)), (34, .int .i64 (a.c2)), (33, .pointer (some ⟨w.heap.size, 3, none⟩)), (32, .pointer (some ⟨w.heap.size, 1, none⟩)), (31, .int .i64 (2)), (27, .bool (decide (2 * 2 + 1 ≥ p))), (26, .bool (decide (2 * 2 + 1 ≥ p))), (25, .int .i64 (p)), (24, .int .i64 (2)), (23, .bool true), (22, .bool true), (21, .int .i64 (2)), (6, .int .i64 (0)), (4, .pointer (some ⟨w1.heap.size, 0, none⟩)), (3, .pointer (some ⟨w.heap.size, 0, none⟩)), (2, .int .i64 (p))]) ⟨rfl, rfl, rfl, rfl, rfl, rfl, rfl, rfl, rfl, rfl, rfl, rfl, rfl, rfl, rfl, rfl, rfl, rfl, rfl, rfl, rfl, rfl, rfl, rfl, rfl, rfl, rfl, rfl, rfl, rfl, rfl, rfl, rfl, rfl, trivial⟩
                  clear f145
                  refine loop_u ?_
                  refine wp_seq ?_
                  refine wp_seq ?_
                  refine At.start ?_
                  refine At.rd f147 5 [[], [.as_ (.bool true)], [], [], []] [(25, .int .i64 (p)), (24, .int .i64 (1)), (23, .bool true), (22, .bool true), (21, .int .i64 (1))] [((.bool (decide ((1 : Int) ≥ 0)) : Value) = .bool true)] (by kernel_rfl) ⟨(by kernel_rfl), trivial⟩ (fun act149 f148 => ?_)
                  clear f147
                  refine At.call f148 43 #[.int .i64 (1), .int .i64 (p)] (some 26) (by kernel_rfl) (above_any (k := 1) (p := p) (by omega) (by omega)) ?_
                  rintro e_ w150 ⟨rfl, he⟩
                  refine ⟨_, rfl, _, rfl, fun act151 f152 => ?_⟩
                  clear f148
                  have g153 := gr_ext he
                  have szw150 := g153.size
                  have e154 := e135.gr g153 no_row
                  clear e135
                  have bx155 := bx136.gr g153 (by simp)
                  clear bx136
                  have bx156 := bx137.gr g153 (by simp)
                  clear bx137
                  clear g153 he
                  refine At.rd f152 1 [[]] [(27, .bool (decide (2 * 1 + 1 ≥ p)))] [] (by kernel_rfl) trivial (fun act158 f157 => ?_)
                  clear f152
                  refine At.done rfl ?_
                  refine t_n ?_
                  have f159 := f157.sub (r := [(27, .bool (decide (2 * 1 + 1 ≥ p))), (26, .bool (decide (2 * 1 + 1 ≥ p))), (25, .int .i64 (p)), (24, .int .i64 (1)), (23, .bool true), (22, .bool true), (21, .int .i64 (1)), (7, .int .i64 (1)), (29, .int .i64 (1)), (28, .int .i64 (2)), (40, .bool (decide ((a.c2 : Int) > b.c2))), (49, .bool (decide ((a.c2 : Int) > b.c2))), (48, .int .i64 (b.c2)), (47, .pointer (some ⟨w1.heap.size, 3, none⟩)), (46, .pointer (some ⟨w1.heap.size, 1, none⟩)), (45, .int .i64 (2)), (44, .int .i64 (a.c2)), (43, .pointer (some ⟨w.heap.size, 3, none⟩)), (42, .pointer (some ⟨w.heap.size, 1, none⟩)), (41, .int .i64 (2)), (30, .bool (decide ((a.c2 : Int) < b.c2))), (39, .bool (decide ((a.c2 : Int) < b.c2))), (38, .int .i64 (b.c2)), (37, .pointer (some ⟨w1.heap.size, 3, none⟩)), (36, .pointer (some ⟨w1.heap.size, 1, none⟩)), (35, .int .i64 (2)), (34, .int .i64 (a.c2)), (33, .pointer (some ⟨w.heap.size, 3, none⟩)), (32, .pointer (some ⟨w.heap.size, 1, none⟩)), (31, .int .i64 (2)), (6, .int .i64 (0)), (4, .pointer (some ⟨w1.heap.size, 0, none⟩)), (3, .pointer (some ⟨w.heap.size, 0, none⟩)), (2, .int .i64 (p))]) ⟨rfl, rfl, rfl, rfl, rfl, rfl, rfl, rfl, rfl, rfl, rfl, rfl, rfl, rfl, rfl, rfl, rfl, rfl, rfl, rfl, rfl, rfl, rfl, rfl, rfl, rfl, rfl, rfl, rfl, rfl, rfl, rfl, rfl, rfl, trivial⟩
                  clear f157
                  refine cond_S f159 (t := decide (2 * 1 + 1 ≥ p)) rfl (fun h160 => ?_) (fun h160 => ?_)
                  · have q161 := of_decide_eq_true h160
                    refine wp_skip ?_
                    refine t_n ?_
                    refine wp_seq ?_
                    refine wp_block ?_
                    refine wp_block ?_
                    refine wp_seq ?_
                    refine drawn_ro f159 (by kernel_rfl) (by kernel_rfl) [[], [], [], [.ld (.int .i64 (a.c1))], [], [], [], [.ld (.int .i64 (b.c1))], [], []] [(30, .bool (decide ((a.c1 : Int) < b.c1))), (39, .bool (decide ((a.c1 : Int) < b.c1))), (38, .int .i64 (b.c1)), (37, .pointer (some ⟨w1.heap.size, 2, none⟩)), (36, .pointer (some ⟨w1.heap.size, 1, none⟩)), (35, .int .i64 (1)), (34, .int .i64 (a.c1)), (33, .pointer (some ⟨w.heap.size, 2, none⟩)), (32, .pointer (some ⟨w.heap.size, 1, none⟩)), (31, .int .i64 (1))] [(0 ≤ (1 : Int)), ((1 : Int) < (4 : Nat)), (w150.cell? ⟨w.heap.size, 2, none⟩ = some (.int .i64 (a.c1))), (0 ≤ (1 : Int)), ((1 : Int) < (4 : Nat)), (w150.cell? ⟨w1.heap.size, 2, none⟩ = some (.int .i64 (b.c1)))] (by kernel_rfl) ⟨(by decide), (by decide), (bx155.cell (i := 2) rfl), (by decide), (by decide), (bx156.cell (i := 2) rfl), trivial⟩ (fun act163 w164 hw165 f162 => ?_)
                    clear f159
                    have g166 := gr_drew hw165
                    have szw164 := g166.size
                    have e167 := e154.gr g166 no_row
                    clear e154
                    have bx168 := bx155.gr g166 (by simp)
                    clear bx155
                    have bx169 := bx156.gr g166 (by simp)
                    clear bx156
                    clear g166 hw165
                    refine t_n ?_
                    have f170 := f162.sub (r := [(30, .bool (decide ((a.c1 : Int) < b.c1))), (39, .bool (decide ((a.c1 : Int) < b.c1))), (38, .int .i64 (b.c1)), (37, .pointer (some ⟨w1.heap.size, 2, none⟩)), (36, .pointer (some ⟨w1.heap.size, 1, none⟩)), (35, .int .i64 (1)), (34, .int .i64 (a.c1)), (33, .pointer (some ⟨w.heap.size, 2, none⟩)), (32, .pointer (some ⟨w.heap.size, 1, none⟩)), (31, .int .i64 (1)), (27, .bool (decide (2 * 1 + 1 ≥ p))), (26, .bool (decide (2 * 1 + 1 ≥ p))), (25, .int .i64 (p)), (24, .int .i64 (1)), (23, .bool true), (22, .bool true), (21, .int .i64 (1)), (7, .int .i64 (1)), (29, .int .i64 (1)), (28, .int .i64 (2)), (40, .bool (decide ((a.c2 : Int) > b.c2))), (49, .bool (decide ((a.c2 : Int) > b.c2))), (48, .int .i64 (b.c2)), (47, .pointer (some ⟨w1.heap.size, 3, none⟩)), (46, .pointer (some ⟨w1.heap.size, 1, none⟩)), (45, .int .i64 (2)), (44, .int .i64 (a.c2)), (43, .pointer (some ⟨w.heap.size, 3, none⟩)), (42, .pointer (some ⟨w.heap.size, 1, none⟩)), (41, .int .i64 (2)), (6, .int .i64 (0)), (4, .pointer (some ⟨w1.heap.size, 0, none⟩)), (3, .pointer (some ⟨w.heap.size, 0, none⟩)), (2, .int .i64 (p))]) ⟨rfl, rfl, rfl, rfl, rfl, rfl, rfl, rfl, rfl, rfl, rfl, rfl, rfl, rfl, rfl, rfl, rfl, rfl, rfl, rfl, rfl, rfl, rfl, rfl, rfl, rfl, rfl, rfl, rfl, rfl, rfl, rfl, rfl, rfl, trivial⟩
                    clear f162
                    refine cond_S f170 (t := decide ((a.c1 : Int) < b.c1)) rfl (fun h171 => ?_) (fun h171 => ?_)
                    · have q172 := of_decide_eq_true h171
                      refine wp_seq ?_
                      refine At.start ?_
                      refine At.rd f170 1 [[]] [(6, .int .i64 (-1))] [] (by kernel_rfl) trivial (fun act174 f173 => ?_)
                      clear f170
                      refine At.done rfl ?_
                      refine t_n ?_
                      have f175 := f173.sub (r := [(6, .int .i64 (-1)), (30, .bool (decide ((a.c1 : Int) < b.c1))), (39, .bool (decide ((a.c1 : Int) < b.c1))), (38, .int .i64 (b.c1)), (37, .pointer (some ⟨w1.heap.size, 2, none⟩)), (36, .pointer (some ⟨w1.heap.size, 1, none⟩)), (35, .int .i64 (1)), (34, .int .i64 (a.c1)), (33, .pointer (some ⟨w.heap.size, 2, none⟩)), (32, .pointer (some ⟨w.heap.size, 1, none⟩)), (31, .int .i64 (1)), (27, .bool (decide (2 * 1 + 1 ≥ p))), (26, .bool (decide (2 * 1 + 1 ≥ p))), (25, .int .i64 (p)), (24, .int .i64 (1)), (23, .bool true), (22, .bool true), (21, .int .i64 (1)), (7, .int .i64 (1)), (29, .int .i64 (1)), (28, .int .i64 (2)), (40, .bool (decide ((a.c2 : Int) > b.c2))), (49, .bool (decide ((a.c2 : Int) > b.c2))), (48, .int .i64 (b.c2)), (47, .pointer (some ⟨w1.heap.size, 3, none⟩)), (46, .pointer (some ⟨w1.heap.size, 1, none⟩)), (45, .int .i64 (2)), (44, .int .i64 (a.c2)), (43, .pointer (some ⟨w.heap.size, 3, none⟩)), (42, .pointer (some ⟨w.heap.size, 1, none⟩)), (41, .int .i64 (2)), (4, .pointer (some ⟨w1.heap.size, 0, none⟩)), (3, .pointer (some ⟨w.heap.size, 0, none⟩)), (2, .int .i64 (p))]) ⟨rfl, rfl, rfl, rfl, rfl, rfl, rfl, rfl, rfl, rfl, rfl, rfl, rfl, rfl, rfl, rfl, rfl, rfl, rfl, rfl, rfl, rfl, rfl, rfl, rfl, rfl, rfl, rfl, rfl, rfl, rfl, rfl, rfl, rfl, trivial⟩
                      clear f173
                      refine wp_ret ?_
                      refine b_r ?_
                      refine b_r ?_
                      refine t_r ?_
                      refine t_r ?_
                      refine b_r ?_
                      refine t_r ?_
                      refine ret_ f175 [] [.int .i64 (-1)] [] (by kernel_rfl) trivial ?_
                      exact ⟨ret_eq (congrArg (Value.int .i64) (by first | exact cmp_tt (by assumption) (by assumption) | exact cmp_tf (by assumption) (by assumption) | exact cmp_ft (by assumption) (by assumption) | (rw [low_ff (by assumption) (by assumption)]; unfold lowT; omega))), e167⟩
                    · have q176 := of_decide_eq_false h171
                      refine wp_seq ?_
                      refine drawn_ro f170 (by kernel_rfl) (by kernel_rfl) [[], [], [], [.ld (.int .i64 (a.c1))], [], [], [], [.ld (.int .i64 (b.c1))], [], []] [(40, .bool (decide ((a.c1 : Int) > b.c1))), (49, .bool (decide ((a.c1 : Int) > b.c1))), (48, .int .i64 (b.c1)), (47, .pointer (some ⟨w1.heap.size, 2, none⟩)), (46, .pointer (some ⟨w1.heap.size, 1, none⟩)), (45, .int .i64 (1)), (44, .int .i64 (a.c1)), (43, .pointer (some ⟨w.heap.size, 2, none⟩)), (42, .pointer (some ⟨w.heap.size, 1, none⟩)), (41, .int .i64 (1))] [(0 ≤ (1 : Int)), ((1 : Int) < (4 : Nat)), (w164.cell? ⟨w.heap.size, 2, none⟩ = some (.int .i64 (a.c1))), (0 ≤ (1 : Int)), ((1 : Int) < (4 : Nat)), (w164.cell? ⟨w1.heap.size, 2, none⟩ = some (.int .i64 (b.c1)))] (by kernel_rfl) ⟨(by decide), (by decide), (bx168.cell (i := 2) rfl), (by decide), (by decide), (bx169.cell (i := 2) rfl), trivial⟩ (fun act178 w179 hw180 f177 => ?_)
                      clear f170
                      have g181 := gr_drew hw180
                      have szw179 := g181.size
                      have e182 := e167.gr g181 no_row
                      clear e167
                      have bx183 := bx168.gr g181 (by simp)
                      clear bx168
                      have bx184 := bx169.gr g181 (by simp)
                      clear bx169
                      clear g181 hw180
                      refine t_n ?_
                      have f185 := f177.sub (r := [(40, .bool (decide ((a.c1 : Int) > b.c1))), (49, .bool (decide ((a.c1 : Int) > b.c1))), (48, .int .i64 (b.c1)), (47, .pointer (some ⟨w1.heap.size, 2, none⟩)), (46, .pointer (some ⟨w1.heap.size, 1, none⟩)), (45, .int .i64 (1)), (44, .int .i64 (a.c1)), (43, .pointer (some ⟨w.heap.size, 2, none⟩)), (42, .pointer (some ⟨w.heap.size, 1, none⟩)), (41, .int .i64 (1)), (30, .bool (decide ((a.c1 : Int) < b.c1))), (39, .bool (decide ((a.c1 : Int) < b.c1))), (38, .int .i64 (b.c1)), (37, .pointer (some ⟨w1.heap.size, 2, none⟩)), (36, .pointer (some ⟨w1.heap.size, 1, none⟩)), (35, .int .i64 (1)), (34, .int .i64 (a.c1)), (33, .pointer (some ⟨w.heap.size, 2, none⟩)), (32, .pointer (some ⟨w.heap.size, 1, none⟩)), (31, .int .i64 (1)), (27, .bool (decide (2 * 1 + 1 ≥ p))), (26, .bool (decide (2 * 1 + 1 ≥ p))), (25, .int .i64 (p)), (24, .int .i64 (1)), (23, .bool true), (22, .bool true), (21, .int .i64 (1)), (7, .int .i64 (1)), (29, .int .i64 (1)), (28, .int .i64 (2)), (6, .int .i64 (0)), (4, .pointer (some ⟨w1.heap.size, 0, none⟩)), (3, .pointer (some ⟨w.heap.size, 0, none⟩)), (2, .int .i64 (p))]) ⟨rfl, rfl, rfl, rfl, rfl, rfl, rfl, rfl, rfl, rfl, rfl, rfl, rfl, rfl, rfl, rfl, rfl, rfl, rfl, rfl, rfl, rfl, rfl, rfl, rfl, rfl, rfl, rfl, rfl, rfl, rfl, rfl, rfl, rfl, trivial⟩
                      clear f177
                      refine cond_S f185 (t := decide ((a.c1 : Int) > b.c1)) rfl (fun h186 => ?_) (fun h186 => ?_)
                      · have q187 := of_decide_eq_true h186
                        refine wp_seq ?_
                        refine At.start ?_
                        refine At.rd f185 1 [[]] [(6, .int .i64 (1))] [] (by kernel_rfl) trivial (fun act189 f188 => ?_)
                        clear f185
                        refine At.done rfl ?_
                        refine t_n ?_
                        have f190 := f188.sub (r := [(6, .int .i64 (1)), (40, .bool (decide ((a.c1 : Int) > b.c1))), (49, .bool (decide ((a.c1 : Int) > b.c1))), (48, .int .i64 (b.c1)), (47, .pointer (some ⟨w1.heap.size, 2, none⟩)), (46, .pointer (some ⟨w1.heap.size, 1, none⟩)), (45, .int .i64 (1)), (44, .int .i64 (a.c1)), (43, .pointer (some ⟨w.heap.size, 2, none⟩)), (42, .pointer (some ⟨w.heap.size, 1, none⟩)), (41, .int .i64 (1)), (30, .bool (decide ((a.c1 : Int) < b.c1))), (39, .bool (decide ((a.c1 : Int) < b.c1))), (38, .int .i64 (b.c1)), (37, .pointer (some ⟨w1.heap.size, 2, none⟩)), (36, .pointer (some ⟨w1.heap.size, 1, none⟩)), (35, .int .i64 (1)), (34, .int .i64 (a.c1)), (33, .pointer (some ⟨w.heap.size, 2, none⟩)), (32, .pointer (some ⟨w.heap.size, 1, none⟩)), (31, .int .i64 (1)), (27, .bool (decide (2 * 1 + 1 ≥ p))), (26, .bool (decide (2 * 1 + 1 ≥ p))), (25, .int .i64 (p)), (24, .int .i64 (1)), (23, .bool true), (22, .bool true), (21, .int .i64 (1)), (7, .int .i64 (1)), (29, .int .i64 (1)), (28, .int .i64 (2)), (4, .pointer (some ⟨w1.heap.size, 0, none⟩)), (3, .pointer (some ⟨w.heap.size, 0, none⟩)), (2, .int .i64 (p))]) ⟨rfl, rfl, rfl, rfl, rfl, rfl, rfl, rfl, rfl, rfl, rfl, rfl, rfl, rfl, rfl, rfl, rfl, rfl, rfl, rfl, rfl, rfl, rfl, rfl, rfl, rfl, rfl, rfl, rfl, rfl, rfl, rfl, rfl, rfl, trivial⟩
                        clear f188
                        refine wp_ret ?_
                        refine b_r ?_
                        refine b_r ?_
                        refine t_r ?_
                        refine t_r ?_
                        refine b_r ?_
                        refine t_r ?_
                        refine ret_ f190 [] [.int .i64 (1)] [] (by kernel_rfl) trivial ?_
                        exact ⟨ret_eq (congrArg (Value.int .i64) (by first | exact cmp_tt (by assumption) (by assumption) | exact cmp_tf (by assumption) (by assumption) | exact cmp_ft (by assumption) (by assumption) | (rw [low_ff (by assumption) (by assumption)]; unfold lowT; omega))), e182⟩
                      · have q191 := of_decide_eq_false h186
                        refine wp_skip ?_
                        refine b_n ?_
                        refine b_n ?_
                        refine t_n ?_
                        refine At.start ?_
                        refine At.rd f185 3 [[], [.as_ (.int .i64 (0))], []] [(7, .int .i64 (0)), (29, .int .i64 (0)), (28, .int .i64 (1))] [((.int .i64 (IntKind.i64.wrap (1 - 1)) : Value) = .int .i64 (0))] (by kernel_rfl) ⟨(by kernel_rfl), trivial⟩ (fun act193 f192 => ?_)
                        clear f185
                        refine At.done rfl ?_
                        refine t_n ?_
                        have f194 := f192.sub (r := [(7, .int .i64 (0)), (29, .int .i64 (0)), (28, .int .i64 (1)), (40, .bool (decide ((a.c1 : Int) > b.c1))), (49, .bool (decide ((a.c1 : Int) > b.c1))), (48, .int .i64 (b.c1)), (47, .pointer (some ⟨w1.heap.size, 2, none⟩)), (46, .pointer (some ⟨w1.heap.size, 1, none⟩)), (45, .int .i64 (1)), (44, .int .i64 (a.c1)), (43, .pointer (some ⟨w.heap.size, 2, none⟩)), (42, .pointer (some ⟨w.heap.size, 1, none⟩)), (41, .int .i64 (1)), (30, .bool (decide ((a.c1 : Int) < b.c1))), (39, .bool (decide ((a.c1 : Int) < b.c1))), (38, .int .i64 (b.c1)), (37, .pointer (some ⟨w1.heap.size, 2, none⟩)), (36, .pointer (some ⟨w1.heap.size, 1, none⟩)), (35, .int .i64 (1)), (34, .int .i64 (a.c1)), (33, .pointer (some ⟨w.heap.size, 2, none⟩)), (32, .pointer (some ⟨w.heap.size, 1, none⟩)), (31, .int .i64 (1)), (27, .bool (decide (2 * 1 + 1 ≥ p))), (26, .bool (decide (2 * 1 + 1 ≥ p))), (25, .int .i64 (p)), (24, .int .i64 (1)), (23, .bool true), (22, .bool true), (21, .int .i64 (1)), (6, .int .i64 (0)), (4, .pointer (some ⟨w1.heap.size, 0, none⟩)), (3, .pointer (some ⟨w.heap.size, 0, none⟩)), (2, .int .i64 (p))]) ⟨rfl, rfl, rfl, rfl, rfl, rfl, rfl, rfl, rfl, rfl, rfl, rfl, rfl, rfl, rfl, rfl, rfl, rfl, rfl, rfl, rfl, rfl, rfl, rfl, rfl, rfl, rfl, rfl, rfl, rfl, rfl, rfl, rfl, rfl, trivial⟩
                        clear f192
                        refine loop_u ?_
                        refine wp_seq ?_
                        refine wp_seq ?_
                        refine At.start ?_
                        refine At.rd f194 5 [[], [.as_ (.bool true)], [], [], []] [(25, .int .i64 (p)), (24, .int .i64 (0)), (23, .bool true), (22, .bool true), (21, .int .i64 (0))] [((.bool (decide ((0 : Int) ≥ 0)) : Value) = .bool true)] (by kernel_rfl) ⟨(by kernel_rfl), trivial⟩ (fun act196 f195 => ?_)
                        clear f194
                        refine At.call f195 43 #[.int .i64 (0), .int .i64 (p)] (some 26) (by kernel_rfl) (above_any (k := 0) (p := p) (by omega) (by omega)) ?_
                        rintro e_ w197 ⟨rfl, he⟩
                        refine ⟨_, rfl, _, rfl, fun act198 f199 => ?_⟩
                        clear f195
                        have g200 := gr_ext he
                        have szw197 := g200.size
                        have e201 := e182.gr g200 no_row
                        clear e182
                        have bx202 := bx183.gr g200 (by simp)
                        clear bx183
                        have bx203 := bx184.gr g200 (by simp)
                        clear bx184
                        clear g200 he
                        refine At.rd f199 1 [[]] [(27, .bool (decide (2 * 0 + 1 ≥ p)))] [] (by kernel_rfl) trivial (fun act205 f204 => ?_)
                        clear f199
                        refine At.done rfl ?_
                        refine t_n ?_
                        have f206 := f204.sub (r := [(27, .bool (decide (2 * 0 + 1 ≥ p))), (26, .bool (decide (2 * 0 + 1 ≥ p))), (25, .int .i64 (p)), (24, .int .i64 (0)), (23, .bool true), (22, .bool true), (21, .int .i64 (0)), (7, .int .i64 (0)), (29, .int .i64 (0)), (28, .int .i64 (1)), (40, .bool (decide ((a.c1 : Int) > b.c1))), (49, .bool (decide ((a.c1 : Int) > b.c1))), (48, .int .i64 (b.c1)), (47, .pointer (some ⟨w1.heap.size, 2, none⟩)), (46, .pointer (some ⟨w1.heap.size, 1, none⟩)), (45, .int .i64 (1)), (44, .int .i64 (a.c1)), (43, .pointer (some ⟨w.heap.size, 2, none⟩)), (42, .pointer (some ⟨w.heap.size, 1, none⟩)), (41, .int .i64 (1)), (30, .bool (decide ((a.c1 : Int) < b.c1))), (39, .bool (decide ((a.c1 : Int) < b.c1))), (38, .int .i64 (b.c1)), (37, .pointer (some ⟨w1.heap.size, 2, none⟩)), (36, .pointer (some ⟨w1.heap.size, 1, none⟩)), (35, .int .i64 (1)), (34, .int .i64 (a.c1)), (33, .pointer (some ⟨w.heap.size, 2, none⟩)), (32, .pointer (some ⟨w.heap.size, 1, none⟩)), (31, .int .i64 (1)), (6, .int .i64 (0)), (4, .pointer (some ⟨w1.heap.size, 0, none⟩)), (3, .pointer (some ⟨w.heap.size, 0, none⟩)), (2, .int .i64 (p))]) ⟨rfl, rfl, rfl, rfl, rfl, rfl, rfl, rfl, rfl, rfl, rfl, rfl, rfl, rfl, rfl, rfl, rfl, rfl, rfl, rfl, rfl, rfl, rfl, rfl, rfl, rfl, rfl, rfl, rfl, rfl, rfl, rfl, rfl, rfl, trivial⟩
                        clear f204
                        refine cond_S f206 (t := decide (2 * 0 + 1 ≥ p)) rfl (fun h207 => ?_) (fun h207 => ?_)
                        · have q208 := of_decide_eq_true h207
                          refine wp_skip ?_
                          refine t_n ?_
                          refine wp_seq ?_
                          refine wp_block ?_
                          refine wp_block ?_
                          refine wp_seq ?_
                          refine drawn_ro f206 (by kernel_rfl) (by kernel_rfl) [[], [], [], [.ld (.int .i64 (a.c0))], [], [], [], [.ld (.int .i64 (b.c0))], [], []] [(30, .bool (decide ((a.c0 : Int) < b.c0))), (39, .bool (decide ((a.c0 : Int) < b.c0))), (38, .int .i64 (b.c0)), (37, .pointer (some ⟨w1.heap.size, 1, none⟩)), (36, .pointer (some ⟨w1.heap.size, 1, none⟩)), (35, .int .i64 (0)), (34, .int .i64 (a.c0)), (33, .pointer (some ⟨w.heap.size, 1, none⟩)), (32, .pointer (some ⟨w.heap.size, 1, none⟩)), (31, .int .i64 (0))] [(0 ≤ (0 : Int)), ((0 : Int) < (4 : Nat)), (w197.cell? ⟨w.heap.size, 1, none⟩ = some (.int .i64 (a.c0))), (0 ≤ (0 : Int)), ((0 : Int) < (4 : Nat)), (w197.cell? ⟨w1.heap.size, 1, none⟩ = some (.int .i64 (b.c0)))] (by kernel_rfl) ⟨(by decide), (by decide), (bx202.cell (i := 1) rfl), (by decide), (by decide), (bx203.cell (i := 1) rfl), trivial⟩ (fun act210 w211 hw212 f209 => ?_)
                          clear f206
                          have g213 := gr_drew hw212
                          have szw211 := g213.size
                          have e214 := e201.gr g213 no_row
                          clear e201
                          have bx215 := bx202.gr g213 (by simp)
                          clear bx202
                          have bx216 := bx203.gr g213 (by simp)
                          clear bx203
                          clear g213 hw212
                          refine t_n ?_
                          have f217 := f209.sub (r := [(30, .bool (decide ((a.c0 : Int) < b.c0))), (39, .bool (decide ((a.c0 : Int) < b.c0))), (38, .int .i64 (b.c0)), (37, .pointer (some ⟨w1.heap.size, 1, none⟩)), (36, .pointer (some ⟨w1.heap.size, 1, none⟩)), (35, .int .i64 (0)), (34, .int .i64 (a.c0)), (33, .pointer (some ⟨w.heap.size, 1, none⟩)), (32, .pointer (some ⟨w.heap.size, 1, none⟩)), (31, .int .i64 (0)), (27, .bool (decide (2 * 0 + 1 ≥ p))), (26, .bool (decide (2 * 0 + 1 ≥ p))), (25, .int .i64 (p)), (24, .int .i64 (0)), (23, .bool true), (22, .bool true), (21, .int .i64 (0)), (7, .int .i64 (0)), (29, .int .i64 (0)), (28, .int .i64 (1)), (40, .bool (decide ((a.c1 : Int) > b.c1))), (49, .bool (decide ((a.c1 : Int) > b.c1))), (48, .int .i64 (b.c1)), (47, .pointer (some ⟨w1.heap.size, 2, none⟩)), (46, .pointer (some ⟨w1.heap.size, 1, none⟩)), (45, .int .i64 (1)), (44, .int .i64 (a.c1)), (43, .pointer (some ⟨w.heap.size, 2, none⟩)), (42, .pointer (some ⟨w.heap.size, 1, none⟩)), (41, .int .i64 (1)), (6, .int .i64 (0)), (4, .pointer (some ⟨w1.heap.size, 0, none⟩)), (3, .pointer (some ⟨w.heap.size, 0, none⟩)), (2, .int .i64 (p))]) ⟨rfl, rfl, rfl, rfl, rfl, rfl, rfl, rfl, rfl, rfl, rfl, rfl, rfl, rfl, rfl, rfl, rfl, rfl, rfl, rfl, rfl, rfl, rfl, rfl, rfl, rfl, rfl, rfl, rfl, rfl, rfl, rfl, rfl, rfl, trivial⟩
                          clear f209
                          refine cond_S f217 (t := decide ((a.c0 : Int) < b.c0)) rfl (fun h218 => ?_) (fun h218 => ?_)
                          · have q219 := of_decide_eq_true h218
                            refine wp_seq ?_
                            refine At.start ?_
                            refine At.rd f217 1 [[]] [(6, .int .i64 (-1))] [] (by kernel_rfl) trivial (fun act221 f220 => ?_)
                            clear f217
                            refine At.done rfl ?_
                            refine t_n ?_
                            have f222 := f220.sub (r := [(6, .int .i64 (-1)), (30, .bool (decide ((a.c0 : Int) < b.c0))), (39, .bool (decide ((a.c0 : Int) < b.c0))), (38, .int .i64 (b.c0)), (37, .pointer (some ⟨w1.heap.size, 1, none⟩)), (36, .pointer (some ⟨w1.heap.size, 1, none⟩)), (35, .int .i64 (0)), (34, .int .i64 (a.c0)), (33, .pointer (some ⟨w.heap.size, 1, none⟩)), (32, .pointer (some ⟨w.heap.size, 1, none⟩)), (31, .int .i64 (0)), (27, .bool (decide (2 * 0 + 1 ≥ p))), (26, .bool (decide (2 * 0 + 1 ≥ p))), (25, .int .i64 (p)), (24, .int .i64 (0)), (23, .bool true), (22, .bool true), (21, .int .i64 (0)), (7, .int .i64 (0)), (29, .int .i64 (0)), (28, .int .i64 (1)), (40, .bool (decide ((a.c1 : Int) > b.c1))), (49, .bool (decide ((a.c1 : Int) > b.c1))), (48, .int .i64 (b.c1)), (47, .pointer (some ⟨w1.heap.size, 2, none⟩)), (46, .pointer (some ⟨w1.heap.size, 1, none⟩)), (45, .int .i64 (1)), (44, .int .i64 (a.c1)), (43, .pointer (some ⟨w.heap.size, 2, none⟩)), (42, .pointer (some ⟨w.heap.size, 1, none⟩)), (41, .int .i64 (1)), (4, .pointer (some ⟨w1.heap.size, 0, none⟩)), (3, .pointer (some ⟨w.heap.size, 0, none⟩)), (2, .int .i64 (p))]) ⟨rfl, rfl, rfl, rfl, rfl, rfl, rfl, rfl, rfl, rfl, rfl, rfl, rfl, rfl, rfl, rfl, rfl, rfl, rfl, rfl, rfl, rfl, rfl, rfl, rfl, rfl, rfl, rfl, rfl, rfl, rfl, rfl, rfl, rfl, trivial⟩
                            clear f220
                            refine wp_ret ?_
                            refine b_r ?_
                            refine b_r ?_
                            refine t_r ?_
                            refine t_r ?_
                            refine b_r ?_
                            refine t_r ?_
                            refine ret_ f222 [] [.int .i64 (-1)] [] (by kernel_rfl) trivial ?_
                            exact ⟨ret_eq (congrArg (Value.int .i64) (by first | exact cmp_tt (by assumption) (by assumption) | exact cmp_tf (by assumption) (by assumption) | exact cmp_ft (by assumption) (by assumption) | (rw [low_ff (by assumption) (by assumption)]; unfold lowT; omega))), e214⟩
                          · have q223 := of_decide_eq_false h218
                            refine wp_seq ?_
                            refine drawn_ro f217 (by kernel_rfl) (by kernel_rfl) [[], [], [], [.ld (.int .i64 (a.c0))], [], [], [], [.ld (.int .i64 (b.c0))], [], []] [(40, .bool (decide ((a.c0 : Int) > b.c0))), (49, .bool (decide ((a.c0 : Int) > b.c0))), (48, .int .i64 (b.c0)), (47, .pointer (some ⟨w1.heap.size, 1, none⟩)), (46, .pointer (some ⟨w1.heap.size, 1, none⟩)), (45, .int .i64 (0)), (44, .int .i64 (a.c0)), (43, .pointer (some ⟨w.heap.size, 1, none⟩)), (42, .pointer (some ⟨w.heap.size, 1, none⟩)), (41, .int .i64 (0))] [(0 ≤ (0 : Int)), ((0 : Int) < (4 : Nat)), (w211.cell? ⟨w.heap.size, 1, none⟩ = some (.int .i64 (a.c0))), (0 ≤ (0 : Int)), ((0 : Int) < (4 : Nat)), (w211.cell? ⟨w1.heap.size, 1, none⟩ = some (.int .i64 (b.c0)))] (by kernel_rfl) ⟨(by decide), (by decide), (bx215.cell (i := 1) rfl), (by decide), (by decide), (bx216.cell (i := 1) rfl), trivial⟩ (fun act225 w226 hw227 f224 => ?_)
                            clear f217
                            have g228 := gr_drew hw227
                            have szw226 := g228.size
                            have e229 := e214.gr g228 no_row
                            clear e214
                            have bx230 := bx215.gr g228 (by simp)
                            clear bx215
                            have bx231 := bx216.gr g228 (by simp)
                            clear bx216
                            clear g228 hw227
                            refine t_n ?_
                            have f232 := f224.sub (r := [(40, .bool (decide ((a.c0 : Int) > b.c0))), (49, .bool (decide ((a.c0 : Int) > b.c0))), (48, .int .i64 (b.c0)), (47, .pointer (some ⟨w1.heap.size, 1, none⟩)), (46, .pointer (some ⟨w1.heap.size, 1, none⟩)), (45, .int .i64 (0)), (44, .int .i64 (a.c0)), (43, .pointer (some ⟨w.heap.size, 1, none⟩)), (42, .pointer (some ⟨w.heap.size, 1, none⟩)), (41, .int .i64 (0)), (30, .bool (decide ((a.c0 : Int) < b.c0))), (39, .bool (decide ((a.c0 : Int) < b.c0))), (38, .int .i64 (b.c0)), (37, .pointer (some ⟨w1.heap.size, 1, none⟩)), (36, .pointer (some ⟨w1.heap.size, 1, none⟩)), (35, .int .i64 (0)), (34, .int .i64 (a.c0)), (33, .pointer (some ⟨w.heap.size, 1, none⟩)), (32, .pointer (some ⟨w.heap.size, 1, none⟩)), (31, .int .i64 (0)), (27, .bool (decide (2 * 0 + 1 ≥ p))), (26, .bool (decide (2 * 0 + 1 ≥ p))), (25, .int .i64 (p)), (24, .int .i64 (0)), (23, .bool true), (22, .bool true), (21, .int .i64 (0)), (7, .int .i64 (0)), (29, .int .i64 (0)), (28, .int .i64 (1)), (6, .int .i64 (0)), (4, .pointer (some ⟨w1.heap.size, 0, none⟩)), (3, .pointer (some ⟨w.heap.size, 0, none⟩)), (2, .int .i64 (p))]) ⟨rfl, rfl, rfl, rfl, rfl, rfl, rfl, rfl, rfl, rfl, rfl, rfl, rfl, rfl, rfl, rfl, rfl, rfl, rfl, rfl, rfl, rfl, rfl, rfl, rfl, rfl, rfl, rfl, rfl, rfl, rfl, rfl, rfl, rfl, trivial⟩
                            clear f224
                            refine cond_S f232 (t := decide ((a.c0 : Int) > b.c0)) rfl (fun h233 => ?_) (fun h233 => ?_)
                            · have q234 := of_decide_eq_true h233
                              refine wp_seq ?_
                              refine At.start ?_
                              refine At.rd f232 1 [[]] [(6, .int .i64 (1))] [] (by kernel_rfl) trivial (fun act236 f235 => ?_)
                              clear f232
                              refine At.done rfl ?_
                              refine t_n ?_
                              have f237 := f235.sub (r := [(6, .int .i64 (1)), (40, .bool (decide ((a.c0 : Int) > b.c0))), (49, .bool (decide ((a.c0 : Int) > b.c0))), (48, .int .i64 (b.c0)), (47, .pointer (some ⟨w1.heap.size, 1, none⟩)), (46, .pointer (some ⟨w1.heap.size, 1, none⟩)), (45, .int .i64 (0)), (44, .int .i64 (a.c0)), (43, .pointer (some ⟨w.heap.size, 1, none⟩)), (42, .pointer (some ⟨w.heap.size, 1, none⟩)), (41, .int .i64 (0)), (30, .bool (decide ((a.c0 : Int) < b.c0))), (39, .bool (decide ((a.c0 : Int) < b.c0))), (38, .int .i64 (b.c0)), (37, .pointer (some ⟨w1.heap.size, 1, none⟩)), (36, .pointer (some ⟨w1.heap.size, 1, none⟩)), (35, .int .i64 (0)), (34, .int .i64 (a.c0)), (33, .pointer (some ⟨w.heap.size, 1, none⟩)), (32, .pointer (some ⟨w.heap.size, 1, none⟩)), (31, .int .i64 (0)), (27, .bool (decide (2 * 0 + 1 ≥ p))), (26, .bool (decide (2 * 0 + 1 ≥ p))), (25, .int .i64 (p)), (24, .int .i64 (0)), (23, .bool true), (22, .bool true), (21, .int .i64 (0)), (7, .int .i64 (0)), (29, .int .i64 (0)), (28, .int .i64 (1)), (4, .pointer (some ⟨w1.heap.size, 0, none⟩)), (3, .pointer (some ⟨w.heap.size, 0, none⟩)), (2, .int .i64 (p))]) ⟨rfl, rfl, rfl, rfl, rfl, rfl, rfl, rfl, rfl, rfl, rfl, rfl, rfl, rfl, rfl, rfl, rfl, rfl, rfl, rfl, rfl, rfl, rfl, rfl, rfl, rfl, rfl, rfl, rfl, rfl, rfl, rfl, rfl, rfl, trivial⟩
                              clear f235
                              refine wp_ret ?_
                              refine b_r ?_
                              refine b_r ?_
                              refine t_r ?_
                              refine t_r ?_
                              refine b_r ?_
                              refine t_r ?_
                              refine ret_ f237 [] [.int .i64 (1)] [] (by kernel_rfl) trivial ?_
                              exact ⟨ret_eq (congrArg (Value.int .i64) (by first | exact cmp_tt (by assumption) (by assumption) | exact cmp_tf (by assumption) (by assumption) | exact cmp_ft (by assumption) (by assumption) | (rw [low_ff (by assumption) (by assumption)]; unfold lowT; omega))), e229⟩
                            · have q238 := of_decide_eq_false h233
                              refine wp_skip ?_
                              refine b_n ?_
                              refine b_n ?_
                              refine t_n ?_
                              refine At.start ?_
                              refine At.rd f232 3 [[], [.as_ (.int .i64 (-1))], []] [(7, .int .i64 (-1)), (29, .int .i64 (-1)), (28, .int .i64 (0))] [((.int .i64 (IntKind.i64.wrap (0 - 1)) : Value) = .int .i64 (-1))] (by kernel_rfl) ⟨(by kernel_rfl), trivial⟩ (fun act240 f239 => ?_)
                              clear f232
                              refine At.done rfl ?_
                              refine t_n ?_
                              have f241 := f239.sub (r := [(7, .int .i64 (-1)), (29, .int .i64 (-1)), (28, .int .i64 (0)), (40, .bool (decide ((a.c0 : Int) > b.c0))), (49, .bool (decide ((a.c0 : Int) > b.c0))), (48, .int .i64 (b.c0)), (47, .pointer (some ⟨w1.heap.size, 1, none⟩)), (46, .pointer (some ⟨w1.heap.size, 1, none⟩)), (45, .int .i64 (0)), (44, .int .i64 (a.c0)), (43, .pointer (some ⟨w.heap.size, 1, none⟩)), (42, .pointer (some ⟨w.heap.size, 1, none⟩)), (41, .int .i64 (0)), (30, .bool (decide ((a.c0 : Int) < b.c0))), (39, .bool (decide ((a.c0 : Int) < b.c0))), (38, .int .i64 (b.c0)), (37, .pointer (some ⟨w1.heap.size, 1, none⟩)), (36, .pointer (some ⟨w1.heap.size, 1, none⟩)), (35, .int .i64 (0)), (34, .int .i64 (a.c0)), (33, .pointer (some ⟨w.heap.size, 1, none⟩)), (32, .pointer (some ⟨w.heap.size, 1, none⟩)), (31, .int .i64 (0)), (27, .bool (decide (2 * 0 + 1 ≥ p))), (26, .bool (decide (2 * 0 + 1 ≥ p))), (25, .int .i64 (p)), (24, .int .i64 (0)), (23, .bool true), (22, .bool true), (21, .int .i64 (0)), (6, .int .i64 (0)), (4, .pointer (some ⟨w1.heap.size, 0, none⟩)), (3, .pointer (some ⟨w.heap.size, 0, none⟩)), (2, .int .i64 (p))]) ⟨rfl, rfl, rfl, rfl, rfl, rfl, rfl, rfl, rfl, rfl, rfl, rfl, rfl, rfl, rfl, rfl, rfl, rfl, rfl, rfl, rfl, rfl, rfl, rfl, rfl, rfl, rfl, rfl, rfl, rfl, rfl, rfl, rfl, rfl, trivial⟩
                              clear f239
                              refine loop_u ?_
                              refine wp_seq ?_
                              refine wp_seq ?_
                              refine At.start ?_
                              refine At.rd f241 7 [[], [.as_ (.bool false)], [], [], [], [], []] [(27, .bool false), (26, undef), (25, undef), (24, undef), (23, .bool false), (22, .bool false), (21, .int .i64 (-1))] [((.bool (decide ((-1 : Int) ≥ 0)) : Value) = .bool false)] (by kernel_rfl) ⟨(by kernel_rfl), trivial⟩ (fun act243 f242 => ?_)
                              clear f241
                              refine At.done rfl ?_
                              refine t_n ?_
                              have f244 := f242.sub (r := [(27, .bool false), (23, .bool false), (22, .bool false), (21, .int .i64 (-1)), (7, .int .i64 (-1)), (29, .int .i64 (-1)), (28, .int .i64 (0)), (40, .bool (decide ((a.c0 : Int) > b.c0))), (49, .bool (decide ((a.c0 : Int) > b.c0))), (48, .int .i64 (b.c0)), (47, .pointer (some ⟨w1.heap.size, 1, none⟩)), (46, .pointer (some ⟨w1.heap.size, 1, none⟩)), (45, .int .i64 (0)), (44, .int .i64 (a.c0)), (43, .pointer (some ⟨w.heap.size, 1, none⟩)), (42, .pointer (some ⟨w.heap.size, 1, none⟩)), (41, .int .i64 (0)), (30, .bool (decide ((a.c0 : Int) < b.c0))), (39, .bool (decide ((a.c0 : Int) < b.c0))), (38, .int .i64 (b.c0)), (37, .pointer (some ⟨w1.heap.size, 1, none⟩)), (36, .pointer (some ⟨w1.heap.size, 1, none⟩)), (35, .int .i64 (0)), (34, .int .i64 (a.c0)), (33, .pointer (some ⟨w.heap.size, 1, none⟩)), (32, .pointer (some ⟨w.heap.size, 1, none⟩)), (31, .int .i64 (0)), (6, .int .i64 (0)), (4, .pointer (some ⟨w1.heap.size, 0, none⟩)), (3, .pointer (some ⟨w.heap.size, 0, none⟩)), (2, .int .i64 (p))]) ⟨rfl, rfl, rfl, rfl, rfl, rfl, rfl, rfl, rfl, rfl, rfl, rfl, rfl, rfl, rfl, rfl, rfl, rfl, rfl, rfl, rfl, rfl, rfl, rfl, rfl, rfl, rfl, rfl, rfl, rfl, rfl, trivial⟩
                              clear f242
                              refine cond_F f244 rfl ?_
                              refine wp_exit ?_
                              refine t_e ?_
                              refine t_e ?_
                              refine b_e ?_
                              refine t_n ?_
                              have f245 := f244.sub (r := [(6, .int .i64 (0))]) ⟨rfl, trivial⟩
                              clear f244
                              refine wp_seq ?_
                              refine At.start ?_
                              refine At.rd f245 1 [[]] [(6, .int .i64 (0))] [] (by kernel_rfl) trivial (fun act247 f246 => ?_)
                              clear f245
                              refine At.done rfl ?_
                              refine t_n ?_
                              have f248 := f246.sub (r := [(6, .int .i64 (0))]) ⟨rfl, trivial⟩
                              clear f246
                              refine wp_ret ?_
                              refine ret_ f248 [] [.int .i64 (0)] [] (by kernel_rfl) trivial ?_
                              exact ⟨ret_eq (congrArg (Value.int .i64) (by first | exact cmp_tt (by assumption) (by assumption) | exact cmp_tf (by assumption) (by assumption) | exact cmp_ft (by assumption) (by assumption) | (rw [low_ff (by assumption) (by assumption)]; unfold lowT; omega))), e229⟩
                        · have q249 := of_decide_eq_false h207
                          refine wp_exit ?_
                          refine t_e ?_
                          refine t_e ?_
                          refine b_e ?_
                          refine t_n ?_
                          have f250 := f206.sub (r := [(6, .int .i64 (0))]) ⟨rfl, trivial⟩
                          clear f206
                          refine wp_seq ?_
                          refine At.start ?_
                          refine At.rd f250 1 [[]] [(6, .int .i64 (0))] [] (by kernel_rfl) trivial (fun act252 f251 => ?_)
                          clear f250
                          refine At.done rfl ?_
                          refine t_n ?_
                          have f253 := f251.sub (r := [(6, .int .i64 (0))]) ⟨rfl, trivial⟩
                          clear f251
                          refine wp_ret ?_
                          refine ret_ f253 [] [.int .i64 (0)] [] (by kernel_rfl) trivial ?_
                          exact ⟨ret_eq (congrArg (Value.int .i64) (by first | exact cmp_tt (by assumption) (by assumption) | exact cmp_tf (by assumption) (by assumption) | exact cmp_ft (by assumption) (by assumption) | (rw [low_ff (by assumption) (by assumption)]; unfold lowT; omega))), e201⟩
                  · have q254 := of_decide_eq_false h160
                    refine wp_exit ?_
                    refine t_e ?_
                    refine t_e ?_
                    refine b_e ?_
                    refine t_n ?_
                    have f255 := f159.sub (r := [(6, .int .i64 (0))]) ⟨rfl, trivial⟩
                    clear f159
                    refine wp_seq ?_
                    refine At.start ?_
                    refine At.rd f255 1 [[]] [(6, .int .i64 (0))] [] (by kernel_rfl) trivial (fun act257 f256 => ?_)
                    clear f255
                    refine At.done rfl ?_
                    refine t_n ?_
                    have f258 := f256.sub (r := [(6, .int .i64 (0))]) ⟨rfl, trivial⟩
                    clear f256
                    refine wp_ret ?_
                    refine ret_ f258 [] [.int .i64 (0)] [] (by kernel_rfl) trivial ?_
                    exact ⟨ret_eq (congrArg (Value.int .i64) (by first | exact cmp_tt (by assumption) (by assumption) | exact cmp_tf (by assumption) (by assumption) | exact cmp_ft (by assumption) (by assumption) | (rw [low_ff (by assumption) (by assumption)]; unfold lowT; omega))), e154⟩
            · have q259 := of_decide_eq_false h113
              refine wp_exit ?_
              refine t_e ?_
              refine t_e ?_
              refine b_e ?_
              refine t_n ?_
              have f260 := f112.sub (r := [(6, .int .i64 (0))]) ⟨rfl, trivial⟩
              clear f112
              refine wp_seq ?_
              refine At.start ?_
              refine At.rd f260 1 [[]] [(6, .int .i64 (0))] [] (by kernel_rfl) trivial (fun act262 f261 => ?_)
              clear f260
              refine At.done rfl ?_
              refine t_n ?_
              have f263 := f261.sub (r := [(6, .int .i64 (0))]) ⟨rfl, trivial⟩
              clear f261
              refine wp_ret ?_
              refine ret_ f263 [] [.int .i64 (0)] [] (by kernel_rfl) trivial ?_
              exact ⟨ret_eq (congrArg (Value.int .i64) (by first | exact cmp_tt (by assumption) (by assumption) | exact cmp_tf (by assumption) (by assumption) | exact cmp_ft (by assumption) (by assumption) | (rw [low_ff (by assumption) (by assumption)]; unfold lowT; omega))), e107⟩
      · have q264 := of_decide_eq_false h68
        refine wp_exit ?_
        refine t_e ?_
        refine t_e ?_
        refine b_e ?_
        refine t_n ?_
        have f265 := f66.sub (r := [(6, .int .i64 (0))]) ⟨rfl, trivial⟩
        clear f66
        refine wp_seq ?_
        refine At.start ?_
        refine At.rd f265 1 [[]] [(6, .int .i64 (0))] [] (by kernel_rfl) trivial (fun act267 f266 => ?_)
        clear f265
        refine At.done rfl ?_
        refine t_n ?_
        have f268 := f266.sub (r := [(6, .int .i64 (0))]) ⟨rfl, trivial⟩
        clear f266
        refine wp_ret ?_
        refine ret_ f268 [] [.int .i64 (0)] [] (by kernel_rfl) trivial ?_
        exact ⟨ret_eq (congrArg (Value.int .i64) (by first | exact cmp_tt (by assumption) (by assumption) | exact cmp_tf (by assumption) (by assumption) | exact cmp_ft (by assumption) (by assumption) | (rw [low_ff (by assumption) (by assumption)]; unfold lowT; omega))), e63⟩

set_option maxHeartbeats 4000000 in
theorem cmpR_any {a b : Tup} {p : Int} {w : World} :
    Calls Try.prog 24 #[tupV a, tupV b, .int .i64 (p)] w fun e w' => e = .returned (.int .i64 (cmpT a b p)) ∧ Ext w w' := by
  refine enter_ (args := [tupV a, tupV b, .int .i64 (p)]) Try.func24 rfl Try.ntmps24 (Nat.le_of_ble_eq_true rfl) (fun act0 f0 => ?_)
  have e0 := Ext.refl w
  refine wp_seq ?_
  refine At.start ?_
  refine At.seq f0 1 [[]] [(3, .pointer (some ⟨w.heap.size, 0, none⟩))] (w.alloc (.cells ((tupC a)).toArray 40 (0, 0))) [] (by kernel_rfl) trivial (fun act4 w1 hw2 f3 => ?_)
  clear f0
  have g5 := gr_alloc hw2
  have szw1 := g5.size
  have e7 := e0.gr g5 no_row
  clear e0
  have bx8 : Bx w1 (w.heap.size) (tupC a) 40 := Bx.new hw2
  have := bx8.lt
  clear g5 hw2
  refine At.seq f3 1 [[]] [(4, .pointer (some ⟨w1.heap.size, 0, none⟩))] (w1.alloc (.cells ((tupC b)).toArray 40 (0, 0))) [] (by kernel_rfl) trivial (fun act12 w9 hw10 f11 => ?_)
  clear f3
  have g13 := gr_alloc hw10
  have szw9 := g13.size
  have e15 := e7.gr g13 no_row
  clear e7
  have bx16 := bx8.gr g13 (by simp)
  clear bx8
  have bx17 : Bx w9 (w1.heap.size) (tupC b) 40 := Bx.new hw10
  have := bx17.lt
  clear g13 hw10
  refine At.rd f11 1 [[]] [(6, .int .i64 (0))] [] (by kernel_rfl) trivial (fun act19 f18 => ?_)
  clear f11
  refine At.done rfl ?_
  refine t_n ?_
  have f20 := f18.sub (r := [(6, .int .i64 (0)), (4, .pointer (some ⟨w1.heap.size, 0, none⟩)), (3, .pointer (some ⟨w.heap.size, 0, none⟩)), (2, .int .i64 (p))]) ⟨rfl, rfl, rfl, rfl, trivial⟩
  clear f18
  refine wp_seq ?_
  refine wp_seq ?_
  refine At.start ?_
  rcases Bool.eq_false_or_eq_true (a.top) with h21 | h21
  · refine At.rd f20 6 [[], [.ld (.bool (a.top))], [.as_ (.bool true)], [], [], []] [(13, .bool true), (12, undef), (11, undef), (10, .bool true), (9, .bool (a.top)), (8, .pointer (some ⟨w.heap.size, 0, none⟩))] [(w9.cell? ⟨w.heap.size, 0, none⟩ = some (.bool (a.top))), ((.bool (a.top) : Value) = .bool true)] (by kernel_rfl) ⟨(bx16.cell (i := 0) rfl), (congrArg Value.bool h21), trivial⟩ (fun act24 f23 => ?_)
    clear f20
    refine At.done rfl ?_
    refine t_n ?_
    have f25 := f23.sub (r := [(13, .bool true), (6, .int .i64 (0)), (4, .pointer (some ⟨w1.heap.size, 0, none⟩)), (3, .pointer (some ⟨w.heap.size, 0, none⟩)), (2, .int .i64 (p))]) ⟨rfl, rfl, rfl, rfl, rfl, trivial⟩
    clear f23
    refine cond_T f25 rfl ?_
    refine wp_seq ?_
    refine wp_seq ?_
    refine At.start ?_
    refine At.rd f25 6 [[], [.ld (.bool (a.top))], [.as_ (.bool true)], [], [.ld (.bool (b.top))], []] [(19, .bool (b.top)), (18, .bool (b.top)), (17, .pointer (some ⟨w1.heap.size, 0, none⟩)), (16, .bool true), (15, .bool (a.top)), (14, .pointer (some ⟨w.heap.size, 0, none⟩))] [(w9.cell? ⟨w.heap.size, 0, none⟩ = some (.bool (a.top))), ((.bool (a.top) : Value) = .bool true), (w9.cell? ⟨w1.heap.size, 0, none⟩ = some (.bool (b.top)))] (by kernel_rfl) ⟨(bx16.cell (i := 0) rfl), (congrArg Value.bool h21), (bx17.cell (i := 0) rfl), trivial⟩ (fun act27 f26 => ?_)
    clear f25
    refine At.done rfl ?_
    refine t_n ?_
    have f28 := f26.sub (r := [(19, .bool (b.top)), (6, .int .i64 (0)), (4, .pointer (some ⟨w1.heap.size, 0, none⟩)), (3, .pointer (some ⟨w.heap.size, 0, none⟩)), (2, .int .i64 (p))]) ⟨rfl, rfl, rfl, rfl, rfl, trivial⟩
    clear f26
    refine cond_S f28 (t := b.top) rfl (fun h29 => ?_) (fun h29 => ?_)
    · refine wp_seq ?_
      refine At.start ?_
      refine At.rd f28 1 [[]] [(6, .int .i64 (0))] [] (by kernel_rfl) trivial (fun act32 f31 => ?_)
      clear f28
      refine At.done rfl ?_
      refine t_n ?_
      have f33 := f31.sub (r := [(6, .int .i64 (0)), (4, .pointer (some ⟨w1.heap.size, 0, none⟩)), (3, .pointer (some ⟨w.heap.size, 0, none⟩)), (2, .int .i64 (p))]) ⟨rfl, rfl, rfl, rfl, trivial⟩
      clear f31
      refine wp_ret ?_
      refine t_r ?_
      refine t_r ?_
      refine ret_ f33 [] [.int .i64 (0)] [] (by kernel_rfl) trivial ?_
      exact ⟨ret_eq (congrArg (Value.int .i64) (by first | exact cmp_tt (by assumption) (by assumption) | exact cmp_tf (by assumption) (by assumption) | exact cmp_ft (by assumption) (by assumption) | (rw [low_ff (by assumption) (by assumption)]; unfold lowT; omega))), e15⟩
    · refine wp_skip ?_
      refine t_n ?_
      have f35 := f28.sub (r := [(6, .int .i64 (0)), (4, .pointer (some ⟨w1.heap.size, 0, none⟩)), (3, .pointer (some ⟨w.heap.size, 0, none⟩)), (2, .int .i64 (p))]) ⟨rfl, rfl, rfl, rfl, trivial⟩
      clear f28
      refine wp_seq ?_
      refine wp_seq ?_
      refine At.start ?_
      refine At.rd f35 2 [[], [.ld (.bool (a.top))]] [(21, .bool (a.top)), (20, .pointer (some ⟨w.heap.size, 0, none⟩))] [(w9.cell? ⟨w.heap.size, 0, none⟩ = some (.bool (a.top)))] (by kernel_rfl) ⟨(bx16.cell (i := 0) rfl), trivial⟩ (fun act37 f36 => ?_)
      clear f35
      refine At.done rfl ?_
      refine t_n ?_
      have f38 := f36.sub (r := [(21, .bool (a.top)), (6, .int .i64 (0)), (4, .pointer (some ⟨w1.heap.size, 0, none⟩)), (3, .pointer (some ⟨w.heap.size, 0, none⟩)), (2, .int .i64 (p))]) ⟨rfl, rfl, rfl, rfl, rfl, trivial⟩
      clear f36
      refine cond_S f38 (t := a.top) rfl (fun hh => ?_) (fun hh => ?_)
      rotate_left
      · exact absurd (hh.symm.trans h21) (by decide)
      refine wp_seq ?_
      refine At.start ?_
      refine At.rd f38 1 [[]] [(6, .int .i64 (1))] [] (by kernel_rfl) trivial (fun act40 f39 => ?_)
      clear f38
      refine At.done rfl ?_
      refine t_n ?_
      have f41 := f39.sub (r := [(6, .int .i64 (1)), (4, .pointer (some ⟨w1.heap.size, 0, none⟩)), (3, .pointer (some ⟨w.heap.size, 0, none⟩)), (2, .int .i64 (p))]) ⟨rfl, rfl, rfl, rfl, trivial⟩
      clear f39
      refine wp_ret ?_
      refine t_r ?_
      refine t_r ?_
      refine ret_ f41 [] [.int .i64 (1)] [] (by kernel_rfl) trivial ?_
      exact ⟨ret_eq (congrArg (Value.int .i64) (by first | exact cmp_tt (by assumption) (by assumption) | exact cmp_tf (by assumption) (by assumption) | exact cmp_ft (by assumption) (by assumption) | (rw [low_ff (by assumption) (by assumption)]; unfold lowT; omega))), e15⟩
  · refine At.rd f20 6 [[], [.ld (.bool (a.top))], [.as_ (.bool false)], [], [.ld (.bool (b.top))], []] [(13, .bool (b.top)), (12, .bool (b.top)), (11, .pointer (some ⟨w1.heap.size, 0, none⟩)), (10, .bool false), (9, .bool (a.top)), (8, .pointer (some ⟨w.heap.size, 0, none⟩))] [(w9.cell? ⟨w.heap.size, 0, none⟩ = some (.bool (a.top))), ((.bool (a.top) : Value) = .bool false), (w9.cell? ⟨w1.heap.size, 0, none⟩ = some (.bool (b.top)))] (by kernel_rfl) ⟨(bx16.cell (i := 0) rfl), (congrArg Value.bool h21), (bx17.cell (i := 0) rfl), trivial⟩ (fun act44 f43 => ?_)
    clear f20
    refine At.done rfl ?_
    refine t_n ?_
    have f45 := f43.sub (r := [(13, .bool (b.top)), (6, .int .i64 (0)), (4, .pointer (some ⟨w1.heap.size, 0, none⟩)), (3, .pointer (some ⟨w.heap.size, 0, none⟩)), (2, .int .i64 (p))]) ⟨rfl, rfl, rfl, rfl, rfl, trivial⟩
    clear f43
    refine cond_S f45 (t := b.top) rfl (fun h46 => ?_) (fun h46 => ?_)
    · refine wp_seq ?_
      refine wp_seq ?_
      refine At.start ?_
      refine At.rd f45 6 [[], [.ld (.bool (a.top))], [.as_ (.bool false)], [], [], []] [(19, .bool false), (18, undef), (17, undef), (16, .bool false), (15, .bool (a.top)), (14, .pointer (some ⟨w.heap.size, 0, none⟩))] [(w9.cell? ⟨w.heap.size, 0, none⟩ = some (.bool (a.top))), ((.bool (a.top) : Value) = .bool false)] (by kernel_rfl) ⟨(bx16.cell (i := 0) rfl), (congrArg Value.bool h21), trivial⟩ (fun act49 f48 => ?_)
      clear f45
      refine At.done rfl ?_
      refine t_n ?_
      have f50 := f48.sub (r := [(19, .bool false), (6, .int .i64 (0)), (4, .pointer (some ⟨w1.heap.size, 0, none⟩)), (3, .pointer (some ⟨w.heap.size, 0, none⟩)), (2, .int .i64 (p))]) ⟨rfl, rfl, rfl, rfl, rfl, trivial⟩
      clear f48
      refine cond_F f50 rfl ?_
      refine wp_skip ?_
      refine t_n ?_
      have f51 := f50.sub (r := [(6, .int .i64 (0)), (4, .pointer (some ⟨w1.heap.size, 0, none⟩)), (3, .pointer (some ⟨w.heap.size, 0, none⟩)), (2, .int .i64 (p))]) ⟨rfl, rfl, rfl, rfl, trivial⟩
      clear f50
      refine wp_seq ?_
      refine wp_seq ?_
      refine At.start ?_
      refine At.rd f51 2 [[], [.ld (.bool (a.top))]] [(21, .bool (a.top)), (20, .pointer (some ⟨w.heap.size, 0, none⟩))] [(w9.cell? ⟨w.heap.size, 0, none⟩ = some (.bool (a.top)))] (by kernel_rfl) ⟨(bx16.cell (i := 0) rfl), trivial⟩ (fun act53 f52 => ?_)
      clear f51
      refine At.done rfl ?_
      refine t_n ?_
      have f54 := f52.sub (r := [(21, .bool (a.top)), (6, .int .i64 (0)), (4, .pointer (some ⟨w1.heap.size, 0, none⟩)), (3, .pointer (some ⟨w.heap.size, 0, none⟩)), (2, .int .i64 (p))]) ⟨rfl, rfl, rfl, rfl, rfl, trivial⟩
      clear f52
      refine cond_S f54 (t := a.top) rfl (fun hh => ?_) (fun hh => ?_)
      · exact absurd (hh.symm.trans h21) (by decide)
      refine wp_skip ?_
      refine t_n ?_
      have f55 := f54.sub (r := [(6, .int .i64 (0)), (4, .pointer (some ⟨w1.heap.size, 0, none⟩)), (3, .pointer (some ⟨w.heap.size, 0, none⟩)), (2, .int .i64 (p))]) ⟨rfl, rfl, rfl, rfl, trivial⟩
      clear f54
      refine wp_seq ?_
      refine At.start ?_
      refine At.rd f55 1 [[]] [(6, .int .i64 (-1))] [] (by kernel_rfl) trivial (fun act57 f56 => ?_)
      clear f55
      refine At.done rfl ?_
      refine t_n ?_
      have f58 := f56.sub (r := [(6, .int .i64 (-1)), (4, .pointer (some ⟨w1.heap.size, 0, none⟩)), (3, .pointer (some ⟨w.heap.size, 0, none⟩)), (2, .int .i64 (p))]) ⟨rfl, rfl, rfl, rfl, trivial⟩
      clear f56
      refine wp_ret ?_
      refine t_r ?_
      refine ret_ f58 [] [.int .i64 (-1)] [] (by kernel_rfl) trivial ?_
      exact ⟨ret_eq (congrArg (Value.int .i64) (by first | exact cmp_tt (by assumption) (by assumption) | exact cmp_tf (by assumption) (by assumption) | exact cmp_ft (by assumption) (by assumption) | (rw [low_ff (by assumption) (by assumption)]; unfold lowT; omega))), e15⟩
    · refine wp_skip ?_
      refine t_n ?_
      have f60 := f45.sub (r := [(6, .int .i64 (0)), (4, .pointer (some ⟨w1.heap.size, 0, none⟩)), (3, .pointer (some ⟨w.heap.size, 0, none⟩)), (2, .int .i64 (p))]) ⟨rfl, rfl, rfl, rfl, trivial⟩
      clear f45
      refine wp_seq ?_
      refine wp_seq ?_
      refine At.start ?_
      refine At.rd f60 1 [[]] [(7, .int .i64 (3))] [] (by kernel_rfl) trivial (fun act62 f61 => ?_)
      clear f60
      refine At.done rfl ?_
      refine t_n ?_
      refine wp_block ?_
      refine loop_u0 ?_
      refine loop_u ?_
      refine wp_seq ?_
      refine wp_seq ?_
      refine At.start ?_
      refine At.rd f61 2 [[], [.as_ (.bool true)]] [(23, .bool true), (22, .int .i64 (3))] [((.bool (decide ((3 : Int) ≥ 0)) : Value) = .bool true)] (by kernel_rfl) ⟨(by kernel_rfl), trivial⟩ (fun act64 f63 => ?_)
      clear f61
      refine At.done rfl ?_
      refine t_n ?_
      refine cond_T f63 rfl ?_
      refine wp_skip ?_
      refine t_n ?_
      refine wp_seq ?_
      refine wp_block ?_
      refine wp_seq ?_
      refine wp_seq ?_
      refine At.start ?_
      refine At.rd f63 5 [[], [.as_ (.int .i64 (6))], [.as_ (.int .i64 (7))], [], []] [(30, .bool (decide ((7 : Int) < p))), (29, .int .i64 (p)), (28, .int .i64 (7)), (27, .int .i64 (6)), (26, .int .i64 (3))] [((.int .i64 (IntKind.i64.wrap (2 * 3)) : Value) = .int .i64 (6)), ((.int .i64 (IntKind.i64.wrap (6 + 1)) : Value) = .int .i64 (7))] (by kernel_rfl) ⟨(by kernel_rfl), (by kernel_rfl), trivial⟩ (fun act66 f65 => ?_)
      clear f63
      refine At.done rfl ?_
      refine t_n ?_
      refine cond_S f65 (t := decide ((7 : Int) < p)) rfl (fun h67 => ?_) (fun h67 => ?_)
      · have q68 := of_decide_eq_true h67
        refine wp_seq ?_
        refine At.start ?_
        refine At.rd f65 1 [[]] [(6, .int .i64 (0))] [] (by kernel_rfl) trivial (fun act70 f69 => ?_)
        clear f65
        refine At.done rfl ?_
        refine t_n ?_
        have f71 := f69.sub (r := [(6, .int .i64 (0)), (30, .bool (decide ((7 : Int) < p))), (29, .int .i64 (p)), (28, .int .i64 (7)), (27, .int .i64 (6)), (26, .int .i64 (3)), (23, .bool true), (22, .int .i64 (3)), (7, .int .i64 (3)), (4, .pointer (some ⟨w1.heap.size, 0, none⟩)), (3, .pointer (some ⟨w.heap.size, 0, none⟩)), (2, .int .i64 (p))]) ⟨rfl, rfl, rfl, rfl, rfl, rfl, rfl, rfl, rfl, rfl, rfl, rfl, trivial⟩
        clear f69
        refine wp_ret ?_
        refine t_r ?_
        refine b_r ?_
        refine t_r ?_
        refine t_r ?_
        refine b_r ?_
        refine t_r ?_
        refine ret_ f71 [] [.int .i64 (0)] [] (by kernel_rfl) trivial ?_
        exact ⟨ret_eq (congrArg (Value.int .i64) (by first | exact cmp_tt (by assumption) (by assumption) | exact cmp_tf (by assumption) (by assumption) | exact cmp_ft (by assumption) (by assumption) | (rw [low_ff (by assumption) (by assumption)]; unfold lowT; omega))), e15⟩
      · have q72 := of_decide_eq_false h67
        refine wp_skip ?_
        refine t_n ?_
        refine wp_seq ?_
        refine wp_seq ?_
        refine drawn_ro f65 (by kernel_rfl) (by kernel_rfl) [[], [], [], [.ld (.int .i64 (a.c3))], [], [], [], [.ld (.int .i64 (b.c3))], []] [(39, .bool (decide ((a.c3 : Int) < b.c3))), (38, .int .i64 (b.c3)), (37, .pointer (some ⟨w1.heap.size, 4, none⟩)), (36, .pointer (some ⟨w1.heap.size, 1, none⟩)), (35, .int .i64 (3)), (34, .int .i64 (a.c3)), (33, .pointer (some ⟨w.heap.size, 4, none⟩)), (32, .pointer (some ⟨w.heap.size, 1, none⟩)), (31, .int .i64 (3))] [(0 ≤ (3 : Int)), ((3 : Int) < (4 : Nat)), (w9.cell? ⟨w.heap.size, 4, none⟩ = some (.int .i64 (a.c3))), (0 ≤ (3 : Int)), ((3 : Int) < (4 : Nat)), (w9.cell? ⟨w1.heap.size, 4, none⟩ = some (.int .i64 (b.c3)))] (by kernel_rfl) ⟨(by decide), (by decide), (bx16.cell (i := 4) rfl), (by decide), (by decide), (bx17.cell (i := 4) rfl), trivial⟩ (fun act74 w75 hw76 f73 => ?_)
        clear f65
        have g77 := gr_drew hw76
        have szw75 := g77.size
        have e78 := e15.gr g77 no_row
        clear e15
        have bx79 := bx16.gr g77 (by simp)
        clear bx16
        have bx80 := bx17.gr g77 (by simp)
        clear bx17
        clear g77 hw76
        refine t_n ?_
        refine cond_S f73 (t := decide ((a.c3 : Int) < b.c3)) rfl (fun h81 => ?_) (fun h81 => ?_)
        · have q82 := of_decide_eq_true h81
          refine wp_seq ?_
          refine At.start ?_
          refine At.rd f73 1 [[]] [(6, .int .i64 (-1))] [] (by kernel_rfl) trivial (fun act84 f83 => ?_)
          clear f73
          refine At.done rfl ?_
          refine t_n ?_
          have f85 := f83.sub (r := [(6, .int .i64 (-1)), (39, .bool (decide ((a.c3 : Int) < b.c3))), (38, .int .i64 (b.c3)), (37, .pointer (some ⟨w1.heap.size, 4, none⟩)), (36, .pointer (some ⟨w1.heap.size, 1, none⟩)), (35, .int .i64 (3)), (34, .int .i64 (a.c3)), (33, .pointer (some ⟨w.heap.size, 4, none⟩)), (32, .pointer (some ⟨w.heap.size, 1, none⟩)), (31, .int .i64 (3)), (30, .bool (decide ((7 : Int) < p))), (29, .int .i64 (p)), (28, .int .i64 (7)), (27, .int .i64 (6)), (26, .int .i64 (3)), (23, .bool true), (22, .int .i64 (3)), (7, .int .i64 (3)), (4, .pointer (some ⟨w1.heap.size, 0, none⟩)), (3, .pointer (some ⟨w.heap.size, 0, none⟩)), (2, .int .i64 (p))]) ⟨rfl, rfl, rfl, rfl, rfl, rfl, rfl, rfl, rfl, rfl, rfl, rfl, rfl, rfl, rfl, rfl, rfl, rfl, rfl, rfl, rfl, trivial⟩
          clear f83
          refine wp_ret ?_
          refine t_r ?_
          refine b_r ?_
          refine t_r ?_
          refine t_r ?_
          refine b_r ?_
          refine t_r ?_
          refine ret_ f85 [] [.int .i64 (-1)] [] (by kernel_rfl) trivial ?_
          exact ⟨ret_eq (congrArg (Value.int .i64) (by first | exact cmp_tt (by assumption) (by assumption) | exact cmp_tf (by assumption) (by assumption) | exact cmp_ft (by assumption) (by assumption) | (rw [low_ff (by assumption) (by assumption)]; unfold lowT; omega))), e78⟩
        · have q86 := of_decide_eq_false h81
          refine wp_skip ?_
          refine t_n ?_
          refine wp_seq ?_
          refine drawn_ro f73 (by kernel_rfl) (by kernel_rfl) [[], [], [], [.ld (.int .i64 (a.c3))], [], [], [], [.ld (.int .i64 (b.c3))], []] [(48, .bool (decide ((a.c3 : Int) > b.c3))), (47, .int .i64 (b.c3)), (46, .pointer (some ⟨w1.heap.size, 4, none⟩)), (45, .pointer (some ⟨w1.heap.size, 1, none⟩)), (44, .int .i64 (3)), (43, .int .i64 (a.c3)), (42, .pointer (some ⟨w.heap.size, 4, none⟩)), (41, .pointer (some ⟨w.heap.size, 1, none⟩)), (40, .int .i64 (3))] [(0 ≤ (3 : Int)), ((3 : Int) < (4 : Nat)), (w75.cell? ⟨w.heap.size, 4, none⟩ = some (.int .i64 (a.c3))), (0 ≤ (3 : Int)), ((3 : Int) < (4 : Nat)), (w75.cell? ⟨w1.heap.size, 4, none⟩ = some (.int .i64 (b.c3)))] (by kernel_rfl) ⟨(by decide), (by decide), (bx79.cell (i := 4) rfl), (by decide), (by decide), (bx80.cell (i := 4) rfl), trivial⟩ (fun act88 w89 hw90 f87 => ?_)
          clear f73
          have g91 := gr_drew hw90
          have szw89 := g91.size
          have e92 := e78.gr g91 no_row
          clear e78
          have bx93 := bx79.gr g91 (by simp)
          clear bx79
          have bx94 := bx80.gr g91 (by simp)
          clear bx80
          clear g91 hw90
          refine t_n ?_
          refine cond_S f87 (t := decide ((a.c3 : Int) > b.c3)) rfl (fun h95 => ?_) (fun h95 => ?_)
          · have q96 := of_decide_eq_true h95
            refine wp_seq ?_
            refine At.start ?_
            refine At.rd f87 1 [[]] [(6, .int .i64 (1))] [] (by kernel_rfl) trivial (fun act98 f97 => ?_)
            clear f87
            refine At.done rfl ?_
            refine t_n ?_
            have f99 := f97.sub (r := [(6, .int .i64 (1)), (48, .bool (decide ((a.c3 : Int) > b.c3))), (47, .int .i64 (b.c3)), (46, .pointer (some ⟨w1.heap.size, 4, none⟩)), (45, .pointer (some ⟨w1.heap.size, 1, none⟩)), (44, .int .i64 (3)), (43, .int .i64 (a.c3)), (42, .pointer (some ⟨w.heap.size, 4, none⟩)), (41, .pointer (some ⟨w.heap.size, 1, none⟩)), (40, .int .i64 (3)), (39, .bool (decide ((a.c3 : Int) < b.c3))), (38, .int .i64 (b.c3)), (37, .pointer (some ⟨w1.heap.size, 4, none⟩)), (36, .pointer (some ⟨w1.heap.size, 1, none⟩)), (35, .int .i64 (3)), (34, .int .i64 (a.c3)), (33, .pointer (some ⟨w.heap.size, 4, none⟩)), (32, .pointer (some ⟨w.heap.size, 1, none⟩)), (31, .int .i64 (3)), (30, .bool (decide ((7 : Int) < p))), (29, .int .i64 (p)), (28, .int .i64 (7)), (27, .int .i64 (6)), (26, .int .i64 (3)), (23, .bool true), (22, .int .i64 (3)), (7, .int .i64 (3)), (4, .pointer (some ⟨w1.heap.size, 0, none⟩)), (3, .pointer (some ⟨w.heap.size, 0, none⟩)), (2, .int .i64 (p))]) ⟨rfl, rfl, rfl, rfl, rfl, rfl, rfl, rfl, rfl, rfl, rfl, rfl, rfl, rfl, rfl, rfl, rfl, rfl, rfl, rfl, rfl, rfl, rfl, rfl, rfl, rfl, rfl, rfl, rfl, rfl, trivial⟩
            clear f97
            refine wp_ret ?_
            refine b_r ?_
            refine t_r ?_
            refine t_r ?_
            refine b_r ?_
            refine t_r ?_
            refine ret_ f99 [] [.int .i64 (1)] [] (by kernel_rfl) trivial ?_
            exact ⟨ret_eq (congrArg (Value.int .i64) (by first | exact cmp_tt (by assumption) (by assumption) | exact cmp_tf (by assumption) (by assumption) | exact cmp_ft (by assumption) (by assumption) | (rw [low_ff (by assumption) (by assumption)]; unfold lowT; omega))), e92⟩
          · have q100 := of_decide_eq_false h95
            refine wp_skip ?_
            refine b_n ?_
            refine t_n ?_
            refine At.start ?_
            refine At.rd f87 3 [[], [.as_ (.int .i64 (2))], []] [(7, .int .i64 (2)), (25, .int .i64 (2)), (24, .int .i64 (3))] [((.int .i64 (IntKind.i64.wrap (3 - 1)) : Value) = .int .i64 (2))] (by kernel_rfl) ⟨(by kernel_rfl), trivial⟩ (fun act102 f101 => ?_)
            clear f87
            refine At.done rfl ?_
            refine t_n ?_
            have f103 := f101.sub (r := [(7, .int .i64 (2)), (25, .int .i64 (2)), (24, .int .i64 (3)), (48, .bool (decide ((a.c3 : Int) > b.c3))), (47, .int .i64 (b.c3)), (46, .pointer (some ⟨w1.heap.size, 4, none⟩)), (45, .pointer (some ⟨w1.heap.size, 1, none⟩)), (44, .int .i64 (3)), (43, .int .i64 (a.c3)), (42, .pointer (some ⟨w.heap.size, 4, none⟩)), (41, .pointer (some ⟨w.heap.size, 1, none⟩)), (40, .int .i64 (3)), (39, .bool (decide ((a.c3 : Int) < b.c3))), (38, .int .i64 (b.c3)), (37, .pointer (some ⟨w1.heap.size, 4, none⟩)), (36, .pointer (some ⟨w1.heap.size, 1, none⟩)), (35, .int .i64 (3)), (34, .int .i64 (a.c3)), (33, .pointer (some ⟨w.heap.size, 4, none⟩)), (32, .pointer (some ⟨w.heap.size, 1, none⟩)), (31, .int .i64 (3)), (30, .bool (decide ((7 : Int) < p))), (29, .int .i64 (p)), (28, .int .i64 (7)), (27, .int .i64 (6)), (26, .int .i64 (3)), (23, .bool true), (22, .int .i64 (3)), (6, .int .i64 (0)), (4, .pointer (some ⟨w1.heap.size, 0, none⟩)), (3, .pointer (some ⟨w.heap.size, 0, none⟩)), (2, .int .i64 (p))]) ⟨rfl, rfl, rfl, rfl, rfl, rfl, rfl, rfl, rfl, rfl, rfl, rfl, rfl, rfl, rfl, rfl, rfl, rfl, rfl, rfl, rfl, rfl, rfl, rfl, rfl, rfl, rfl, rfl, rfl, rfl, rfl, rfl, trivial⟩
            clear f101
            refine loop_u ?_
            refine wp_seq ?_
            refine wp_seq ?_
            refine At.start ?_
            refine At.rd f103 2 [[], [.as_ (.bool true)]] [(23, .bool true), (22, .int .i64 (2))] [((.bool (decide ((2 : Int) ≥ 0)) : Value) = .bool true)] (by kernel_rfl) ⟨(by kernel_rfl), trivial⟩ (fun act105 f104 => ?_)
            clear f103
            refine At.done rfl ?_
            refine t_n ?_
            have f106 := f104.sub (r := [(23, .bool true), (22, .int .i64 (2)), (7, .int .i64 (2)), (25, .int .i64 (2)), (24, .int .i64 (3)), (48, .bool (decide ((a.c3 : Int) > b.c3))), (47, .int .i64 (b.c3)), (46, .pointer (some ⟨w1.heap.size, 4, none⟩)), (45, .pointer (some ⟨w1.heap.size, 1, none⟩)), (44, .int .i64 (3)), (43, .int .i64 (a.c3)), (42, .pointer (some ⟨w.heap.size, 4, none⟩)), (41, .pointer (some ⟨w.heap.size, 1, none⟩)), (40, .int .i64 (3)), (39, .bool (decide ((a.c3 : Int) < b.c3))), (38, .int .i64 (b.c3)), (37, .pointer (some ⟨w1.heap.size, 4, none⟩)), (36, .pointer (some ⟨w1.heap.size, 1, none⟩)), (35, .int .i64 (3)), (34, .int .i64 (a.c3)), (33, .pointer (some ⟨w.heap.size, 4, none⟩)), (32, .pointer (some ⟨w.heap.size, 1, none⟩)), (31, .int .i64 (3)), (30, .bool (decide ((7 : Int) < p))), (29, .int .i64 (p)), (28, .int .i64 (7)), (27, .int .i64 (6)), (26, .int .i64 (3)), (6, .int .i64 (0)), (4, .pointer (some ⟨w1.heap.size, 0, none⟩)), (3, .pointer (some ⟨w.heap.size, 0, none⟩)), (2, .int .i64 (p))]) ⟨rfl, rfl, rfl, rfl, rfl, rfl, rfl, rfl, rfl, rfl, rfl, rfl, rfl, rfl, rfl, rfl, rfl, rfl, rfl, rfl, rfl, rfl, rfl, rfl, rfl, rfl, rfl, rfl, rfl, rfl, rfl, rfl, trivial⟩
            clear f104
            refine cond_T f106 rfl ?_
            refine wp_skip ?_
            refine t_n ?_
            refine wp_seq ?_
            refine wp_block ?_
            refine wp_seq ?_
            refine wp_seq ?_
            refine At.start ?_
            refine At.rd f106 5 [[], [.as_ (.int .i64 (4))], [.as_ (.int .i64 (5))], [], []] [(30, .bool (decide ((5 : Int) < p))), (29, .int .i64 (p)), (28, .int .i64 (5)), (27, .int .i64 (4)), (26, .int .i64 (2))] [((.int .i64 (IntKind.i64.wrap (2 * 2)) : Value) = .int .i64 (4)), ((.int .i64 (IntKind.i64.wrap (4 + 1)) : Value) = .int .i64 (5))] (by kernel_rfl) ⟨(by kernel_rfl), (by kernel_rfl), trivial⟩ (fun act108 f107 => ?_)
            clear f106
            refine At.done rfl ?_
            refine t_n ?_
            have f109 := f107.sub (r := [(30, .bool (decide ((5 : Int) < p))), (29, .int .i64 (p)), (28, .int .i64 (5)), (27, .int .i64 (4)), (26, .int .i64 (2)), (23, .bool true), (22, .int .i64 (2)), (7, .int .i64 (2)), (25, .int .i64 (2)), (24, .int .i64 (3)), (48, .bool (decide ((a.c3 : Int) > b.c3))), (47, .int .i64 (b.c3)), (46, .pointer (some ⟨w1.heap.size, 4, none⟩)), (45, .pointer (some ⟨w1.heap.size, 1, none⟩)), (44, .int .i64 (3)), (43, .int .i64 (a.c3)), (42, .pointer (some ⟨w.heap.size, 4, none⟩)), (41, .pointer (some ⟨w.heap.size, 1, none⟩)), (40, .int .i64 (3)), (39, .bool (decide ((a.c3 : Int) < b.c3))), (38, .int .i64 (b.c3)), (37, .pointer (some ⟨w1.heap.size, 4, none⟩)), (36, .pointer (some ⟨w1.heap.size, 1, none⟩)), (35, .int .i64 (3)), (34, .int .i64 (a.c3)), (33, .pointer (some ⟨w.heap.size, 4, none⟩)), (32, .pointer (some ⟨w.heap.size, 1, none⟩)), (31, .int .i64 (3)), (6, .int .i64 (0)), (4, .pointer (some ⟨w1.heap.size, 0, none⟩)), (3, .pointer (some ⟨w.heap.size, 0, none⟩)), (2, .int .i64 (p))]) ⟨rfl, rfl, rfl, rfl, rfl, rfl, rfl, rfl, rfl, rfl, rfl, rfl, rfl, rfl, rfl, rfl, rfl, rfl, rfl, rfl, rfl, rfl, rfl, rfl, rfl, rfl, rfl, rfl, rfl, rfl, rfl, rfl, trivial⟩
            clear f107
            refine cond_S f109 (t := decide ((5 : Int) < p)) rfl (fun h110 => ?_) (fun h110 => ?_)
            · have q111 := of_decide_eq_true h110
              refine wp_seq ?_
              refine At.start ?_
              refine At.rd f109 1 [[]] [(6, .int .i64 (0))] [] (by kernel_rfl) trivial (fun act113 f112 => ?_)
              clear f109
              refine At.done rfl ?_
              refine t_n ?_
              have f114 := f112.sub (r := [(6, .int .i64 (0)), (30, .bool (decide ((5 : Int) < p))), (29, .int .i64 (p)), (28, .int .i64 (5)), (27, .int .i64 (4)), (26, .int .i64 (2)), (23, .bool true), (22, .int .i64 (2)), (7, .int .i64 (2)), (25, .int .i64 (2)), (24, .int .i64 (3)), (48, .bool (decide ((a.c3 : Int) > b.c3))), (47, .int .i64 (b.c3)), (46, .pointer (some ⟨w1.heap.size, 4, none⟩)), (45, .pointer (some ⟨w1.heap.size, 1, none⟩)), (44, .int .i64 (3)), (43, .int .i64 (a.c3)), (42, .pointer (some ⟨w.heap.size, 4, none⟩)), (41, .pointer (some ⟨w.heap.size, 1, none⟩)), (40, .int .i64 (3)), (39, .bool (decide ((a.c3 : Int) < b.c3))), (38, .int .i64 (b.c3)), (37, .pointer (some ⟨w1.heap.size, 4, none⟩)), (36, .pointer (some ⟨w1.heap.size, 1, none⟩)), (35, .int .i64 (3)), (34, .int .i64 (a.c3)), (33, .pointer (some ⟨w.heap.size, 4, none⟩)), (32, .pointer (some ⟨w.heap.size, 1, none⟩)), (31, .int .i64 (3)), (4, .pointer (some ⟨w1.heap.size, 0, none⟩)), (3, .pointer (some ⟨w.heap.size, 0, none⟩)), (2, .int .i64 (p))]) ⟨rfl, rfl, rfl, rfl, rfl, rfl, rfl, rfl, rfl, rfl, rfl, rfl, rfl, rfl, rfl, rfl, rfl, rfl, rfl, rfl, rfl, rfl, rfl, rfl, rfl, rfl, rfl, rfl, rfl, rfl, rfl, rfl, trivial⟩
              clear f112
              refine wp_ret ?_
              refine t_r ?_
              refine b_r ?_
              refine t_r ?_
              refine t_r ?_
              refine b_r ?_
              refine t_r ?_
              refine ret_ f114 [] [.int .i64 (0)] [] (by kernel_rfl) trivial ?_
              exact ⟨ret_eq (congrArg (Value.int .i64) (by first | exact cmp_tt (by assumption) (by assumption) | exact cmp_tf (by assumption) (by assumption) | exact cmp_ft (by assumption) (by assumption) | (rw [low_ff (by assumption) (by assumption)]; unfold lowT; omega))), e92⟩
            · have q115 := of_decide_eq_false h110
              refine wp_skip ?_
              refine t_n ?_
              refine wp_seq ?_
              refine wp_seq ?_
              refine drawn_ro f109 (by kernel_rfl) (by kernel_rfl) [[], [], [], [.ld (.int .i64 (a.c2))], [], [], [], [.ld (.int .i64 (b.c2))], []] [(39, .bool (decide ((a.c2 : Int) < b.c2))), (38, .int .i64 (b.c2)), (37, .pointer (some ⟨w1.heap.size, 3, none⟩)), (36, .pointer (some ⟨w1.heap.size, 1, none⟩)), (35, .int .i64 (2)), (34, .int .i64 (a.c2)), (33, .pointer (some ⟨w.heap.size, 3, none⟩)), (32, .pointer (some ⟨w.heap.size, 1, none⟩)), (31, .int .i64 (2))] [(0 ≤ (2 : Int)), ((2 : Int) < (4 : Nat)), (w89.cell? ⟨w.heap.size, 3, none⟩ = some (.int .i64 (a.c2))), (0 ≤ (2 : Int)), ((2 : Int) < (4 : Nat)), (w89.cell? ⟨w1.heap.size, 3, none⟩ = some (.int .i64 (b.c2)))] (by kernel_rfl) ⟨(by decide), (by decide), (bx93.cell (i := 3) rfl), (by decide), (by decide), (bx94.cell (i := 3) rfl), trivial⟩ (fun act117 w118 hw119 f116 => ?_)
              clear f109
              have g120 := gr_drew hw119
              have szw118 := g120.size
              have e121 := e92.gr g120 no_row
              clear e92
              have bx122 := bx93.gr g120 (by simp)
              clear bx93
              have bx123 := bx94.gr g120 (by simp)
              clear bx94
              clear g120 hw119
              refine t_n ?_
              have f124 := f116.sub (r := [(39, .bool (decide ((a.c2 : Int) < b.c2))), (38, .int .i64 (b.c2)), (37, .pointer (some ⟨w1.heap.size, 3, none⟩)), (36, .pointer (some ⟨w1.heap.size, 1, none⟩)), (35, .int .i64 (2)), (34, .int .i64 (a.c2)), (33, .pointer (some ⟨w.heap.size, 3, none⟩)), (32, .pointer (some ⟨w.heap.size, 1, none⟩)), (31, .int .i64 (2)), (30, .bool (decide ((5 : Int) < p))), (29, .int .i64 (p)), (28, .int .i64 (5)), (27, .int .i64 (4)), (26, .int .i64 (2)), (23, .bool true), (22, .int .i64 (2)), (7, .int .i64 (2)), (25, .int .i64 (2)), (24, .int .i64 (3)), (48, .bool (decide ((a.c3 : Int) > b.c3))), (47, .int .i64 (b.c3)), (46, .pointer (some ⟨w1.heap.size, 4, none⟩)), (45, .pointer (some ⟨w1.heap.size, 1, none⟩)), (44, .int .i64 (3)), (43, .int .i64 (a.c3)), (42, .pointer (some ⟨w.heap.size, 4, none⟩)), (41, .pointer (some ⟨w.heap.size, 1, none⟩)), (40, .int .i64 (3)), (6, .int .i64 (0)), (4, .pointer (some ⟨w1.heap.size, 0, none⟩)), (3, .pointer (some ⟨w.heap.size, 0, none⟩)), (2, .int .i64 (p))]) ⟨rfl, rfl, rfl, rfl, rfl, rfl, rfl, rfl, rfl, rfl, rfl, rfl, rfl, rfl, rfl, rfl, rfl, rfl, rfl, rfl, rfl, rfl, rfl, rfl, rfl, rfl, rfl, rfl, rfl, rfl, rfl, rfl, trivial⟩
              clear f116
              refine cond_S f124 (t := decide ((a.c2 : Int) < b.c2)) rfl (fun h125 => ?_) (fun h125 => ?_)
              · have q126 := of_decide_eq_true h125
                refine wp_seq ?_
                refine At.start ?_
                refine At.rd f124 1 [[]] [(6, .int .i64 (-1))] [] (by kernel_rfl) trivial (fun act128 f127 => ?_)
                clear f124
                refine At.done rfl ?_
                refine t_n ?_
                have f129 := f127.sub (r := [(6, .int .i64 (-1)), (39, .bool (decide ((a.c2 : Int) < b.c2))), (38, .int .i64 (b.c2)), (37, .pointer (some ⟨w1.heap.size, 3, none⟩)), (36, .pointer (some ⟨w1.heap.size, 1, none⟩)), (35, .int .i64 (2)), (34, .int .i64 (a.c2)), (33, .pointer (some ⟨w.heap.size, 3, none⟩)), (32, .pointer (some ⟨w.heap.size, 1, none⟩)), (31, .int .i64 (2)), (30, .bool (decide ((5 : Int) < p))), (29, .int .i64 (p)), (28, .int .i64 (5)), (27, .int .i64 (4)), (26, .int .i64 (2)), (23, .bool true), (22, .int .i64 (2)), (7, .int .i64 (2)), (25, .int .i64 (2)), (24, .int .i64 (3)), (48, .bool (decide ((a.c3 : Int) > b.c3))), (47, .int .i64 (b.c3)), (46, .pointer (some ⟨w1.heap.size, 4, none⟩)), (45, .pointer (some ⟨w1.heap.size, 1, none⟩)), (44, .int .i64 (3)), (43, .int .i64 (a.c3)), (42, .pointer (some ⟨w.heap.size, 4, none⟩)), (41, .pointer (some ⟨w.heap.size, 1, none⟩)), (40, .int .i64 (3)), (4, .pointer (some ⟨w1.heap.size, 0, none⟩)), (3, .pointer (some ⟨w.heap.size, 0, none⟩)), (2, .int .i64 (p))]) ⟨rfl, rfl, rfl, rfl, rfl, rfl, rfl, rfl, rfl, rfl, rfl, rfl, rfl, rfl, rfl, rfl, rfl, rfl, rfl, rfl, rfl, rfl, rfl, rfl, rfl, rfl, rfl, rfl, rfl, rfl, rfl, rfl, trivial⟩
                clear f127
                refine wp_ret ?_
                refine t_r ?_
                refine b_r ?_
                refine t_r ?_
                refine t_r ?_
                refine b_r ?_
                refine t_r ?_
                refine ret_ f129 [] [.int .i64 (-1)] [] (by kernel_rfl) trivial ?_
                exact ⟨ret_eq (congrArg (Value.int .i64) (by first | exact cmp_tt (by assumption) (by assumption) | exact cmp_tf (by assumption) (by assumption) | exact cmp_ft (by assumption) (by assumption) | (rw [low_ff (by assumption) (by assumption)]; unfold lowT; omega))), e121⟩
              · have q130 := of_decide_eq_false h125
                refine wp_skip ?_
                refine t_n ?_
                refine wp_seq ?_
                refine drawn_ro f124 (by kernel_rfl) (by kernel_rfl) [[], [], [], [.ld (.int .i64 (a.c2))], [], [], [], [.ld (.int .i64 (b.c2))], []] [(48, .bool (decide ((a.c2 : Int) > b.c2))), (47, .int .i64 (b.c2)), (46, .pointer (some ⟨w1.heap.size, 3, none⟩)), (45, .pointer (some ⟨w1.heap.size, 1, none⟩)), (44, .int .i64 (2)), (43, .int .i64 (a.c2)), (42, .pointer (some ⟨w.heap.size, 3, none⟩)), (41, .pointer (some ⟨w.heap.size, 1, none⟩)), (40, .int .i64 (2))] [(0 ≤ (2 : Int)), ((2 : Int) < (4 : Nat)), (w118.cell? ⟨w.heap.size, 3, none⟩ = some (.int .i64 (a.c2))), (0 ≤ (2 : Int)), ((2 : Int) < (4 : Nat)), (w118.cell? ⟨w1.heap.size, 3, none⟩ = some (.int .i64 (b.c2)))] (by kernel_rfl) ⟨(by decide), (by decide), (bx122.cell (i := 3) rfl), (by decide), (by decide), (bx123.cell (i := 3) rfl), trivial⟩ (fun act132 w133 hw134 f131 => ?_)
                clear f124
                have g135 := gr_drew hw134
                have szw133 := g135.size
                have e136 := e121.gr g135 no_row
                clear e121
                have bx137 := bx122.gr g135 (by simp)
                clear bx122
                have bx138 := bx123.gr g135 (by simp)
                clear bx123
                clear g135 hw134
                refine t_n ?_
                have f139 := f131.sub (r := [(48, .bool (decide ((a.c2 : Int) > b.c2))), (47, .int .i64 (b.c2)), (46, .pointer (some ⟨w1.heap.size, 3, none⟩)), (45, .pointer (some ⟨w1.heap.size, 1, none⟩)), (44, .int .i64 (2)), (43, .int .i64 (a.c2)), (42, .pointer (some ⟨w.heap.size, 3, none⟩)), (41, .pointer (some ⟨w.heap.size, 1, none⟩)), (40, .int .i64 (2)), (39, .bool (decide ((a.c2 : Int) < b.c2))), (38, .int .i64 (b.c2)), (37, .pointer (some ⟨w1.heap.size, 3, none⟩)), (36, .pointer (some ⟨w1.heap.size, 1, none⟩)), (35, .int .i64 (2)), (34, .int .i64 (a.c2)), (33, .pointer (some ⟨w.heap.size, 3, none⟩)), (32, .pointer (some ⟨w.heap.size, 1, none⟩)), (31, .int .i64 (2)), (30, .bool (decide ((5 : Int) < p))), (29, .int .i64 (p)), (28, .int .i64 (5)), (27, .int .i64 (4)), (26, .int .i64 (2)), (23, .bool true), (22, .int .i64 (2)), (7, .int .i64 (2)), (25, .int .i64 (2)), (24, .int .i64 (3)), (6, .int .i64 (0)), (4, .pointer (some ⟨w1.heap.size, 0, none⟩)), (3, .pointer (some ⟨w.heap.size, 0, none⟩)), (2, .int .i64 (p))]) ⟨rfl, rfl, rfl, rfl, rfl, rfl, rfl, rfl, rfl, rfl, rfl, rfl, rfl, rfl, rfl, rfl, rfl, rfl, rfl, rfl, rfl, rfl, rfl, rfl, rfl, rfl, rfl, rfl, rfl, rfl, rfl, rfl, trivial⟩
                clear f131
                refine cond_S f139 (t := decide ((a.c2 : Int) > b.c2)) rfl (fun h140 => ?_) (fun h140 => ?_)
                · have q141 := of_decide_eq_true h140
                  refine wp_seq ?_
                  refine At.start ?_
                  refine At.rd f139 1 [[]] [(6, .int .i64 (1))] [] (by kernel_rfl) trivial (fun act143 f142 => ?_)
                  clear f139
                  refine At.done rfl ?_
                  refine t_n ?_
                  have f144 := f142.sub (r := [(6, .int .i64 (1)), (48, .bool (decide ((a.c2 : Int) > b.c2))), (47, .int .i64 (b.c2)), (46, .pointer (some ⟨w1.heap.size, 3, none⟩)), (45, .pointer (some ⟨w1.heap.size, 1, none⟩)), (44, .int .i64 (2)), (43, .int .i64 (a.c2)), (42, .pointer (some ⟨w.heap.size, 3, none⟩)), (41, .pointer (some ⟨w.heap.size, 1, none⟩)), (40, .int .i64 (2)), (39, .bool (decide ((a.c2 : Int) < b.c2))), (38, .int .i64 (b.c2)), (37, .pointer (some ⟨w1.heap.size, 3, none⟩)), (36, .pointer (some ⟨w1.heap.size, 1, none⟩)), (35, .int .i64 (2)), (34, .int .i64 (a.c2)), (33, .pointer (some ⟨w.heap.size, 3, none⟩)), (32, .pointer (some ⟨w.heap.size, 1, none⟩)), (31, .int .i64 (2)), (30, .bool (decide ((5 : Int) < p))), (29, .int .i64 (p)), (28, .int .i64 (5)), (27, .int .i64 (4)), (26, .int .i64 (2)), (23, .bool true), (22, .int .i64 (2)), (7, .int .i64 (2)), (25, .int .i64 (2)), (24, .int .i64 (3)), (4, .pointer (some ⟨w1.heap.size, 0, none⟩)), (3, .pointer (some ⟨w.heap.size, 0, none⟩)), (2, .int .i64 (p))]) ⟨rfl, rfl, rfl, rfl, rfl, rfl, rfl, rfl, rfl, rfl, rfl, rfl, rfl, rfl, rfl, rfl, rfl, rfl, rfl, rfl, rfl, rfl, rfl, rfl, rfl, rfl, rfl, rfl, rfl, rfl, rfl, rfl, trivial⟩
                  clear f142
                  refine wp_ret ?_
                  refine b_r ?_
                  refine t_r ?_
                  refine t_r ?_
                  refine b_r ?_
                  refine t_r ?_
                  refine ret_ f144 [] [.int .i64 (1)] [] (by kernel_rfl) trivial ?_
                  exact ⟨ret_eq (congrArg (Value.int .i64) (by first | exact cmp_tt (by assumption) (by assumption) | exact cmp_tf (by assumption) (by assumption) | exact cmp_ft (by assumption) (by assumption) | (rw [low_ff (by assumption) (by assumption)]; unfold lowT; omega))), e136⟩
                · have q145 := of_decide_eq_false h140
                  refine wp_skip ?_
                  refine b_n ?_
                  refine t_n ?_
                  refine At.start ?_
                  refine At.rd f139 3 [[], [.as_ (.int .i64 (1))], []] [(7, .int .i64 (1)), (25, .int .i64 (1)), (24, .int .i64 (2))] [((.int .i64 (IntKind.i64.wrap (2 - 1)) : Value) = .int .i64 (1))] (by kernel_rfl) ⟨(by kernel_rfl), trivial⟩ (fun act147 f146 => ?_)
                  clear f139
                  refine At.done rfl ?_
                  refine t_n ?_
                  have f148 := f146.sub (r := [(7, .int .i64 (1)), (25, .int .i64 (1)), (24, .int .i64 (2)), (48, .bool (decide ((a.c2 : Int) > b.c2))), (47, .int .i64 (b.c2)), (46, .pointer (some ⟨w1.heap.size, 3, none⟩)), (45, .pointer (some ⟨w1.heap.size, 1, none⟩)), (44, .int .i64 (2)), (43, .int .i64 (a.c2)), (42, .pointer (some ⟨w.heap.size, 3, none⟩)), (41, .pointer (some ⟨w.heap.size, 1, none⟩)), (40, .int .i64 (2)), (39, .bool (decide ((a.c2 : Int) < b.c2))), (38, .int .i64 (b.c2)), (37, .pointer (some ⟨w1.heap.size, 3, none⟩)), (36, .pointer (some ⟨w1.heap.size, 1, none⟩)), (35, .int .i64 (2)), (34, .int .i64 (a.c2)), (33, .pointer (some ⟨w.heap.size, 3, none⟩)), (32, .pointer (some ⟨w.heap.size, 1, none⟩)), (31, .int .i64 (2)), (30, .bool (decide ((5 : Int) < p))), (29, .int .i64 (p)), (28, .int .i64 (5)), (27, .int .i64 (4)), (26, .int .i64 (2)), (23, .bool true), (22, .int .i64 (2)), (6, .int .i64 (0)), (4, .pointer (some ⟨w1.heap.size, 0, none⟩)), (3, .pointer (some ⟨w.heap.size, 0, none⟩)), (2, .int .i64 (p))]) ⟨rfl, rfl, rfl, rfl, rfl, rfl, rfl, rfl, rfl, rfl, rfl, rfl, rfl, rfl, rfl, rfl, rfl, rfl, rfl, rfl, rfl, rfl, rfl, rfl, rfl, rfl, rfl, rfl, rfl, rfl, rfl, rfl, trivial⟩
                  clear f146
                  refine loop_u ?_
                  refine wp_seq ?_
                  refine wp_seq ?_
                  refine At.start ?_
                  refine At.rd f148 2 [[], [.as_ (.bool true)]] [(23, .bool true), (22, .int .i64 (1))] [((.bool (decide ((1 : Int) ≥ 0)) : Value) = .bool true)] (by kernel_rfl) ⟨(by kernel_rfl), trivial⟩ (fun act150 f149 => ?_)
                  clear f148
                  refine At.done rfl ?_
                  refine t_n ?_
                  have f151 := f149.sub (r := [(23, .bool true), (22, .int .i64 (1)), (7, .int .i64 (1)), (25, .int .i64 (1)), (24, .int .i64 (2)), (48, .bool (decide ((a.c2 : Int) > b.c2))), (47, .int .i64 (b.c2)), (46, .pointer (some ⟨w1.heap.size, 3, none⟩)), (45, .pointer (some ⟨w1.heap.size, 1, none⟩)), (44, .int .i64 (2)), (43, .int .i64 (a.c2)), (42, .pointer (some ⟨w.heap.size, 3, none⟩)), (41, .pointer (some ⟨w.heap.size, 1, none⟩)), (40, .int .i64 (2)), (39, .bool (decide ((a.c2 : Int) < b.c2))), (38, .int .i64 (b.c2)), (37, .pointer (some ⟨w1.heap.size, 3, none⟩)), (36, .pointer (some ⟨w1.heap.size, 1, none⟩)), (35, .int .i64 (2)), (34, .int .i64 (a.c2)), (33, .pointer (some ⟨w.heap.size, 3, none⟩)), (32, .pointer (some ⟨w.heap.size, 1, none⟩)), (31, .int .i64 (2)), (30, .bool (decide ((5 : Int) < p))), (29, .int .i64 (p)), (28, .int .i64 (5)), (27, .int .i64 (4)), (26, .int .i64 (2)), (6, .int .i64 (0)), (4, .pointer (some ⟨w1.heap.size, 0, none⟩)), (3, .pointer (some ⟨w.heap.size, 0, none⟩)), (2, .int .i64 (p))]) ⟨rfl, rfl, rfl, rfl, rfl, rfl, rfl, rfl, rfl, rfl, rfl, rfl, rfl, rfl, rfl, rfl, rfl, rfl, rfl, rfl, rfl, rfl, rfl, rfl, rfl, rfl, rfl, rfl, rfl, rfl, rfl, rfl, trivial⟩
                  clear f149
                  refine cond_T f151 rfl ?_
                  refine wp_skip ?_
                  refine t_n ?_
                  refine wp_seq ?_
                  refine wp_block ?_
                  refine wp_seq ?_
                  refine wp_seq ?_
                  refine At.start ?_
                  refine At.rd f151 5 [[], [.as_ (.int .i64 (2))], [.as_ (.int .i64 (3))], [], []] [(30, .bool (decide ((3 : Int) < p))), (29, .int .i64 (p)), (28, .int .i64 (3)), (27, .int .i64 (2)), (26, .int .i64 (1))] [((.int .i64 (IntKind.i64.wrap (2 * 1)) : Value) = .int .i64 (2)), ((.int .i64 (IntKind.i64.wrap (2 + 1)) : Value) = .int .i64 (3))] (by kernel_rfl) ⟨(by kernel_rfl), (by kernel_rfl), trivial⟩ (fun act153 f152 => ?_)
                  clear f151
                  refine At.done rfl ?_
                  refine t_n ?_
                  have f154 := f152.sub (r := [(30, .bool (decide ((3 : Int) < p))), (29, .int .i64 (p)), (28, .int .i64 (3)), (27, .int .i64 (2)), (26, .int .i64 (1)), (23, .bool true), (22, .int .i64 (1)), (7, .int .i64 (1)), (25, .int .i64 (1)), (24, .int .i64 (2)), (48, .bool (decide ((a.c2 : Int) > b.c2))), (47, .int .i64 (b.c2)), (46, .pointer (some ⟨w1.heap.size, 3, none⟩)), (45, .pointer (some ⟨w1.heap.size, 1, none⟩)), (44, .int .i64 (2)), (43, .int .i64 (a.c2)), (42, .pointer (some ⟨w.heap.size, 3, none⟩)), (41, .pointer (some ⟨w.heap.size, 1, none⟩)), (40, .int .i64 (2)), (39, .bool (decide ((a.c2 : Int) < b.c2))), (38, .int .i64 (b.c2)), (37, .pointer (some ⟨w1.heap.size, 3, none⟩)), (36, .pointer (some ⟨w1.heap.size, 1, none⟩)), (35, .int .i64 (2)), (34, .int .i64 (a.c2)), (33, .pointer (some ⟨w.heap.size, 3, none⟩)), (32, .pointer (some ⟨w.heap.size, 1, none⟩)), (31, .int .i64 (2)), (6, .int .i64 (0)), (4, .pointer (some ⟨w1.heap.size, 0, none⟩)), (3, .pointer (some ⟨w.heap.size, 0, none⟩)), (2, .int .i64 (p))]) ⟨rfl, rfl, rfl, rfl, rfl, rfl, rfl, rfl, rfl, rfl, rfl, rfl, rfl, rfl, rfl, rfl, rfl, rfl, rfl, rfl, rfl, rfl, rfl, rfl, rfl, rfl, rfl, rfl, rfl, rfl, rfl, rfl, trivial⟩
                  clear f152
                  refine cond_S f154 (t := decide ((3 : Int) < p)) rfl (fun h155 => ?_) (fun h155 => ?_)
                  · have q156 := of_decide_eq_true h155
                    refine wp_seq ?_
                    refine At.start ?_
                    refine At.rd f154 1 [[]] [(6, .int .i64 (0))] [] (by kernel_rfl) trivial (fun act158 f157 => ?_)
                    clear f154
                    refine At.done rfl ?_
                    refine t_n ?_
                    have f159 := f157.sub (r := [(6, .int .i64 (0)), (30, .bool (decide ((3 : Int) < p))), (29, .int .i64 (p)), (28, .int .i64 (3)), (27, .int .i64 (2)), (26, .int .i64 (1)), (23, .bool true), (22, .int .i64 (1)), (7, .int .i64 (1)), (25, .int .i64 (1)), (24, .int .i64 (2)), (48, .bool (decide ((a.c2 : Int) > b.c2))), (47, .int .i64 (b.c2)), (46, .pointer (some ⟨w1.heap.size, 3, none⟩)), (45, .pointer (some ⟨w1.heap.size, 1, none⟩)), (44, .int .i64 (2)), (43, .int .i64 (a.c2)), (42, .pointer (some ⟨w.heap.size, 3, none⟩)), (41, .pointer (some ⟨w.heap.size, 1, none⟩)), (40, .int .i64 (2)), (39, .bool (decide ((a.c2 : Int) < b.c2))), (38, .int .i64 (b.c2)), (37, .pointer (some ⟨w1.heap.size, 3, none⟩)), (36, .pointer (some ⟨w1.heap.size, 1, none⟩)), (35, .int .i64 (2)), (34, .int .i64 (a.c2)), (33, .pointer (some ⟨w.heap.size, 3, none⟩)), (32, .pointer (some ⟨w.heap.size, 1, none⟩)), (31, .int .i64 (2)), (4, .pointer (some ⟨w1.heap.size, 0, none⟩)), (3, .pointer (some ⟨w.heap.size, 0, none⟩)), (2, .int .i64 (p))]) ⟨rfl, rfl, rfl, rfl, rfl, rfl, rfl, rfl, rfl, rfl, rfl, rfl, rfl, rfl, rfl, rfl, rfl, rfl, rfl, rfl, rfl, rfl, rfl, rfl, rfl, rfl, rfl, rfl, rfl, rfl, rfl, rfl, trivial⟩
                    clear f157
                    refine wp_ret ?_
                    refine t_r ?_
                    refine b_r ?_
                    refine t_r ?_
                    refine t_r ?_
                    refine b_r ?_
                    refine t_r ?_
                    refine ret_ f159 [] [.int .i64 (0)] [] (by kernel_rfl) trivial ?_
                    exact ⟨ret_eq (congrArg (Value.int .i64) (by first | exact cmp_tt (by assumption) (by assumption) | exact cmp_tf (by assumption) (by assumption) | exact cmp_ft (by assumption) (by assumption) | (rw [low_ff (by assumption) (by assumption)]; unfold lowT; omega))), e136⟩
                  · have q160 := of_decide_eq_false h155
                    refine wp_skip ?_
                    refine t_n ?_
                    refine wp_seq ?_
                    refine wp_seq ?_
                    refine drawn_ro f154 (by kernel_rfl) (by kernel_rfl) [[], [], [], [.ld (.int .i64 (a.c1))], [], [], [], [.ld (.int .i64 (b.c1))], []] [(39, .bool (decide ((a.c1 : Int) < b.c1))), (38, .int .i64 (b.c1)), (37, .pointer (some ⟨w1.heap.size, 2, none⟩)), (36, .pointer (some ⟨w1.heap.size, 1, none⟩)), (35, .int .i64 (1)), (34, .int .i64 (a.c1)), (33, .pointer (some ⟨w.heap.size, 2, none⟩)), (32, .pointer (some ⟨w.heap.size, 1, none⟩)), (31, .int .i64 (1))] [(0 ≤ (1 : Int)), ((1 : Int) < (4 : Nat)), (w133.cell? ⟨w.heap.size, 2, none⟩ = some (.int .i64 (a.c1))), (0 ≤ (1 : Int)), ((1 : Int) < (4 : Nat)), (w133.cell? ⟨w1.heap.size, 2, none⟩ = some (.int .i64 (b.c1)))] (by kernel_rfl) ⟨(by decide), (by decide), (bx137.cell (i := 2) rfl), (by decide), (by decide), (bx138.cell (i := 2) rfl), trivial⟩ (fun act162 w163 hw164 f161 => ?_)
                    clear f154
                    have g165 := gr_drew hw164
                    have szw163 := g165.size
                    have e166 := e136.gr g165 no_row
                    clear e136
                    have bx167 := bx137.gr g165 (by simp)
                    clear bx137
                    have bx168 := bx138.gr g165 (by simp)
                    clear bx138
                    clear g165 hw164
                    refine t_n ?_
                    have f169 := f161.sub (r := [(39, .bool (decide ((a.c1 : Int) < b.c1))), (38, .int .i64 (b.c1)), (37, .pointer (some ⟨w1.heap.size, 2, none⟩)), (36, .pointer (some ⟨w1.heap.size, 1, none⟩)), (35, .int .i64 (1)), (34, .int .i64 (a.c1)), (33, .pointer (some ⟨w.heap.size, 2, none⟩)), (32, .pointer (some ⟨w.heap.size, 1, none⟩)), (31, .int .i64 (1)), (30, .bool (decide ((3 : Int) < p))), (29, .int .i64 (p)), (28, .int .i64 (3)), (27, .int .i64 (2)), (26, .int .i64 (1)), (23, .bool true), (22, .int .i64 (1)), (7, .int .i64 (1)), (25, .int .i64 (1)), (24, .int .i64 (2)), (48, .bool (decide ((a.c2 : Int) > b.c2))), (47, .int .i64 (b.c2)), (46, .pointer (some ⟨w1.heap.size, 3, none⟩)), (45, .pointer (some ⟨w1.heap.size, 1, none⟩)), (44, .int .i64 (2)), (43, .int .i64 (a.c2)), (42, .pointer (some ⟨w.heap.size, 3, none⟩)), (41, .pointer (some ⟨w.heap.size, 1, none⟩)), (40, .int .i64 (2)), (6, .int .i64 (0)), (4, .pointer (some ⟨w1.heap.size, 0, none⟩)), (3, .pointer (some ⟨w.heap.size, 0, none⟩)), (2, .int .i64 (p))]) ⟨rfl, rfl, rfl, rfl, rfl, rfl, rfl, rfl, rfl, rfl, rfl, rfl, rfl, rfl, rfl, rfl, rfl, rfl, rfl, rfl, rfl, rfl, rfl, rfl, rfl, rfl, rfl, rfl, rfl, rfl, rfl, rfl, trivial⟩
                    clear f161
                    refine cond_S f169 (t := decide ((a.c1 : Int) < b.c1)) rfl (fun h170 => ?_) (fun h170 => ?_)
                    · have q171 := of_decide_eq_true h170
                      refine wp_seq ?_
                      refine At.start ?_
                      refine At.rd f169 1 [[]] [(6, .int .i64 (-1))] [] (by kernel_rfl) trivial (fun act173 f172 => ?_)
                      clear f169
                      refine At.done rfl ?_
                      refine t_n ?_
                      have f174 := f172.sub (r := [(6, .int .i64 (-1)), (39, .bool (decide ((a.c1 : Int) < b.c1))), (38, .int .i64 (b.c1)), (37, .pointer (some ⟨w1.heap.size, 2, none⟩)), (36, .pointer (some ⟨w1.heap.size, 1, none⟩)), (35, .int .i64 (1)), (34, .int .i64 (a.c1)), (33, .pointer (some ⟨w.heap.size, 2, none⟩)), (32, .pointer (some ⟨w.heap.size, 1, none⟩)), (31, .int .i64 (1)), (30, .bool (decide ((3 : Int) < p))), (29, .int .i64 (p)), (28, .int .i64 (3)), (27, .int .i64 (2)), (26, .int .i64 (1)), (23, .bool true), (22, .int .i64 (1)), (7, .int .i64 (1)), (25, .int .i64 (1)), (24, .int .i64 (2)), (48, .bool (decide ((a.c2 : Int) > b.c2))), (47, .int .i64 (b.c2)), (46, .pointer (some ⟨w1.heap.size, 3, none⟩)), (45, .pointer (some ⟨w1.heap.size, 1, none⟩)), (44, .int .i64 (2)), (43, .int .i64 (a.c2)), (42, .pointer (some ⟨w.heap.size, 3, none⟩)), (41, .pointer (some ⟨w.heap.size, 1, none⟩)), (40, .int .i64 (2)), (4, .pointer (some ⟨w1.heap.size, 0, none⟩)), (3, .pointer (some ⟨w.heap.size, 0, none⟩)), (2, .int .i64 (p))]) ⟨rfl, rfl, rfl, rfl, rfl, rfl, rfl, rfl, rfl, rfl, rfl, rfl, rfl, rfl, rfl, rfl, rfl, rfl, rfl, rfl, rfl, rfl, rfl, rfl, rfl, rfl, rfl, rfl, rfl, rfl, rfl, rfl, trivial⟩
                      clear f172
                      refine wp_ret ?_
                      refine t_r ?_
                      refine b_r ?_
                      refine t_r ?_
                      refine t_r ?_
                      refine b_r ?_
                      refine t_r ?_
                      refine ret_ f174 [] [.int .i64 (-1)] [] (by kernel_rfl) trivial ?_
                      exact ⟨ret_eq (congrArg (Value.int .i64) (by first | exact cmp_tt (by assumption) (by assumption) | exact cmp_tf (by assumption) (by assumption) | exact cmp_ft (by assumption) (by assumption) | (rw [low_ff (by assumption) (by assumption)]; unfold lowT; omega))), e166⟩
                    · have q175 := of_decide_eq_false h170
                      refine wp_skip ?_
                      refine t_n ?_
                      refine wp_seq ?_
                      refine drawn_ro f169 (by kernel_rfl) (by kernel_rfl) [[], [], [], [.ld (.int .i64 (a.c1))], [], [], [], [.ld (.int .i64 (b.c1))], []] [(48, .bool (decide ((a.c1 : Int) > b.c1))), (47, .int .i64 (b.c1)), (46, .pointer (some ⟨w1.heap.size, 2, none⟩)), (45, .pointer (some ⟨w1.heap.size, 1, none⟩)), (44, .int .i64 (1)), (43, .int .i64 (a.c1)), (42, .pointer (some ⟨w.heap.size, 2, none⟩)), (41, .pointer (some ⟨w.heap.size, 1, none⟩)), (40, .int .i64 (1))] [(0 ≤ (1 : Int)), ((1 : Int) < (4 : Nat)), (w163.cell? ⟨w.heap.size, 2, none⟩ = some (.int .i64 (a.c1))), (0 ≤ (1 : Int)), ((1 : Int) < (4 : Nat)), (w163.cell? ⟨w1.heap.size, 2, none⟩ = some (.int .i64 (b.c1)))] (by kernel_rfl) ⟨(by decide), (by decide), (bx167.cell (i := 2) rfl), (by decide), (by decide), (bx168.cell (i := 2) rfl), trivial⟩ (fun act177 w178 hw179 f176 => ?_)
                      clear f169
                      have g180 := gr_drew hw179
                      have szw178 := g180.size
                      have e181 := e166.gr g180 no_row
                      clear e166
                      have bx182 := bx167.gr g180 (by simp)
                      clear bx167
                      have bx183 := bx168.gr g180 (by simp)
                      clear bx168
                      clear g180 hw179
                      refine t_n ?_
                      have f184 := f176.sub (r := [(48, .bool (decide ((a.c1 : Int) > b.c1))), (47, .int .i64 (b.c1)), (46, .pointer (some ⟨w1.heap.size, 2, none⟩)), (45, .pointer (some ⟨w1.heap.size, 1, none⟩)), (44, .int .i64 (1)), (43, .int .i64 (a.c1)), (42, .pointer (some ⟨w.heap.size, 2, none⟩)), (41, .pointer (some ⟨w.heap.size, 1, none⟩)), (40, .int .i64 (1)), (39, .bool (decide ((a.c1 : Int) < b.c1))), (38, .int .i64 (b.c1)), (37, .pointer (some ⟨w1.heap.size, 2, none⟩)), (36, .pointer (some ⟨w1.heap.size, 1, none⟩)), (35, .int .i64 (1)), (34, .int .i64 (a.c1)), (33, .pointer (some ⟨w.heap.size, 2, none⟩)), (32, .pointer (some ⟨w.heap.size, 1, none⟩)), (31, .int .i64 (1)), (30, .bool (decide ((3 : Int) < p))), (29, .int .i64 (p)), (28, .int .i64 (3)), (27, .int .i64 (2)), (26, .int .i64 (1)), (23, .bool true), (22, .int .i64 (1)), (7, .int .i64 (1)), (25, .int .i64 (1)), (24, .int .i64 (2)), (6, .int .i64 (0)), (4, .pointer (some ⟨w1.heap.size, 0, none⟩)), (3, .pointer (some ⟨w.heap.size, 0, none⟩)), (2, .int .i64 (p))]) ⟨rfl, rfl, rfl, rfl, rfl, rfl, rfl, rfl, rfl, rfl, rfl, rfl, rfl, rfl, rfl, rfl, rfl, rfl, rfl, rfl, rfl, rfl, rfl, rfl, rfl, rfl, rfl, rfl, rfl, rfl, rfl, rfl, trivial⟩
                      clear f176
                      refine cond_S f184 (t := decide ((a.c1 : Int) > b.c1)) rfl (fun h185 => ?_) (fun h185 => ?_)
                      · have q186 := of_decide_eq_true h185
                        refine wp_seq ?_
                        refine At.start ?_
                        refine At.rd f184 1 [[]] [(6, .int .i64 (1))] [] (by kernel_rfl) trivial (fun act188 f187 => ?_)
                        clear f184
                        refine At.done rfl ?_
                        refine t_n ?_
                        have f189 := f187.sub (r := [(6, .int .i64 (1)), (48, .bool (decide ((a.c1 : Int) > b.c1))), (47, .int .i64 (b.c1)), (46, .pointer (some ⟨w1.heap.size, 2, none⟩)), (45, .pointer (some ⟨w1.heap.size, 1, none⟩)), (44, .int .i64 (1)), (43, .int .i64 (a.c1)), (42, .pointer (some ⟨w.heap.size, 2, none⟩)), (41, .pointer (some ⟨w.heap.size, 1, none⟩)), (40, .int .i64 (1)), (39, .bool (decide ((a.c1 : Int) < b.c1))), (38, .int .i64 (b.c1)), (37, .pointer (some ⟨w1.heap.size, 2, none⟩)), (36, .pointer (some ⟨w1.heap.size, 1, none⟩)), (35, .int .i64 (1)), (34, .int .i64 (a.c1)), (33, .pointer (some ⟨w.heap.size, 2, none⟩)), (32, .pointer (some ⟨w.heap.size, 1, none⟩)), (31, .int .i64 (1)), (30, .bool (decide ((3 : Int) < p))), (29, .int .i64 (p)), (28, .int .i64 (3)), (27, .int .i64 (2)), (26, .int .i64 (1)), (23, .bool true), (22, .int .i64 (1)), (7, .int .i64 (1)), (25, .int .i64 (1)), (24, .int .i64 (2)), (4, .pointer (some ⟨w1.heap.size, 0, none⟩)), (3, .pointer (some ⟨w.heap.size, 0, none⟩)), (2, .int .i64 (p))]) ⟨rfl, rfl, rfl, rfl, rfl, rfl, rfl, rfl, rfl, rfl, rfl, rfl, rfl, rfl, rfl, rfl, rfl, rfl, rfl, rfl, rfl, rfl, rfl, rfl, rfl, rfl, rfl, rfl, rfl, rfl, rfl, rfl, trivial⟩
                        clear f187
                        refine wp_ret ?_
                        refine b_r ?_
                        refine t_r ?_
                        refine t_r ?_
                        refine b_r ?_
                        refine t_r ?_
                        refine ret_ f189 [] [.int .i64 (1)] [] (by kernel_rfl) trivial ?_
                        exact ⟨ret_eq (congrArg (Value.int .i64) (by first | exact cmp_tt (by assumption) (by assumption) | exact cmp_tf (by assumption) (by assumption) | exact cmp_ft (by assumption) (by assumption) | (rw [low_ff (by assumption) (by assumption)]; unfold lowT; omega))), e181⟩
                      · have q190 := of_decide_eq_false h185
                        refine wp_skip ?_
                        refine b_n ?_
                        refine t_n ?_
                        refine At.start ?_
                        refine At.rd f184 3 [[], [.as_ (.int .i64 (0))], []] [(7, .int .i64 (0)), (25, .int .i64 (0)), (24, .int .i64 (1))] [((.int .i64 (IntKind.i64.wrap (1 - 1)) : Value) = .int .i64 (0))] (by kernel_rfl) ⟨(by kernel_rfl), trivial⟩ (fun act192 f191 => ?_)
                        clear f184
                        refine At.done rfl ?_
                        refine t_n ?_
                        have f193 := f191.sub (r := [(7, .int .i64 (0)), (25, .int .i64 (0)), (24, .int .i64 (1)), (48, .bool (decide ((a.c1 : Int) > b.c1))), (47, .int .i64 (b.c1)), (46, .pointer (some ⟨w1.heap.size, 2, none⟩)), (45, .pointer (some ⟨w1.heap.size, 1, none⟩)), (44, .int .i64 (1)), (43, .int .i64 (a.c1)), (42, .pointer (some ⟨w.heap.size, 2, none⟩)), (41, .pointer (some ⟨w.heap.size, 1, none⟩)), (40, .int .i64 (1)), (39, .bool (decide ((a.c1 : Int) < b.c1))), (38, .int .i64 (b.c1)), (37, .pointer (some ⟨w1.heap.size, 2, none⟩)), (36, .pointer (some ⟨w1.heap.size, 1, none⟩)), (35, .int .i64 (1)), (34, .int .i64 (a.c1)), (33, .pointer (some ⟨w.heap.size, 2, none⟩)), (32, .pointer (some ⟨w.heap.size, 1, none⟩)), (31, .int .i64 (1)), (30, .bool (decide ((3 : Int) < p))), (29, .int .i64 (p)), (28, .int .i64 (3)), (27, .int .i64 (2)), (26, .int .i64 (1)), (23, .bool true), (22, .int .i64 (1)), (6, .int .i64 (0)), (4, .pointer (some ⟨w1.heap.size, 0, none⟩)), (3, .pointer (some ⟨w.heap.size, 0, none⟩)), (2, .int .i64 (p))]) ⟨rfl, rfl, rfl, rfl, rfl, rfl, rfl, rfl, rfl, rfl, rfl, rfl, rfl, rfl, rfl, rfl, rfl, rfl, rfl, rfl, rfl, rfl, rfl, rfl, rfl, rfl, rfl, rfl, rfl, rfl, rfl, rfl, trivial⟩
                        clear f191
                        refine loop_u ?_
                        refine wp_seq ?_
                        refine wp_seq ?_
                        refine At.start ?_
                        refine At.rd f193 2 [[], [.as_ (.bool true)]] [(23, .bool true), (22, .int .i64 (0))] [((.bool (decide ((0 : Int) ≥ 0)) : Value) = .bool true)] (by kernel_rfl) ⟨(by kernel_rfl), trivial⟩ (fun act195 f194 => ?_)
                        clear f193
                        refine At.done rfl ?_
                        refine t_n ?_
                        have f196 := f194.sub (r := [(23, .bool true), (22, .int .i64 (0)), (7, .int .i64 (0)), (25, .int .i64 (0)), (24, .int .i64 (1)), (48, .bool (decide ((a.c1 : Int) > b.c1))), (47, .int .i64 (b.c1)), (46, .pointer (some ⟨w1.heap.size, 2, none⟩)), (45, .pointer (some ⟨w1.heap.size, 1, none⟩)), (44, .int .i64 (1)), (43, .int .i64 (a.c1)), (42, .pointer (some ⟨w.heap.size, 2, none⟩)), (41, .pointer (some ⟨w.heap.size, 1, none⟩)), (40, .int .i64 (1)), (39, .bool (decide ((a.c1 : Int) < b.c1))), (38, .int .i64 (b.c1)), (37, .pointer (some ⟨w1.heap.size, 2, none⟩)), (36, .pointer (some ⟨w1.heap.size, 1, none⟩)), (35, .int .i64 (1)), (34, .int .i64 (a.c1)), (33, .pointer (some ⟨w.heap.size, 2, none⟩)), (32, .pointer (some ⟨w.heap.size, 1, none⟩)), (31, .int .i64 (1)), (30, .bool (decide ((3 : Int) < p))), (29, .int .i64 (p)), (28, .int .i64 (3)), (27, .int .i64 (2)), (26, .int .i64 (1)), (6, .int .i64 (0)), (4, .pointer (some ⟨w1.heap.size, 0, none⟩)), (3, .pointer (some ⟨w.heap.size, 0, none⟩)), (2, .int .i64 (p))]) ⟨rfl, rfl, rfl, rfl, rfl, rfl, rfl, rfl, rfl, rfl, rfl, rfl, rfl, rfl, rfl, rfl, rfl, rfl, rfl, rfl, rfl, rfl, rfl, rfl, rfl, rfl, rfl, rfl, rfl, rfl, rfl, rfl, trivial⟩
                        clear f194
                        refine cond_T f196 rfl ?_
                        refine wp_skip ?_
                        refine t_n ?_
                        refine wp_seq ?_
                        refine wp_block ?_
                        refine wp_seq ?_
                        refine wp_seq ?_
                        refine At.start ?_
                        refine At.rd f196 5 [[], [.as_ (.int .i64 (0))], [.as_ (.int .i64 (1))], [], []] [(30, .bool (decide ((1 : Int) < p))), (29, .int .i64 (p)), (28, .int .i64 (1)), (27, .int .i64 (0)), (26, .int .i64 (0))] [((.int .i64 (IntKind.i64.wrap (2 * 0)) : Value) = .int .i64 (0)), ((.int .i64 (IntKind.i64.wrap (0 + 1)) : Value) = .int .i64 (1))] (by kernel_rfl) ⟨(by kernel_rfl), (by kernel_rfl), trivial⟩ (fun act198 f197 => ?_)
                        clear f196
                        refine At.done rfl ?_
                        refine t_n ?_
                        have f199 := f197.sub (r := [(30, .bool (decide ((1 : Int) < p))), (29, .int .i64 (p)), (28, .int .i64 (1)), (27, .int .i64 (0)), (26, .int .i64 (0)), (23, .bool true), (22, .int .i64 (0)), (7, .int .i64 (0)), (25, .int .i64 (0)), (24, .int .i64 (1)), (48, .bool (decide ((a.c1 : Int) > b.c1))), (47, .int .i64 (b.c1)), (46, .pointer (some ⟨w1.heap.size, 2, none⟩)), (45, .pointer (some ⟨w1.heap.size, 1, none⟩)), (44, .int .i64 (1)), (43, .int .i64 (a.c1)), (42, .pointer (some ⟨w.heap.size, 2, none⟩)), (41, .pointer (some ⟨w.heap.size, 1, none⟩)), (40, .int .i64 (1)), (39, .bool (decide ((a.c1 : Int) < b.c1))), (38, .int .i64 (b.c1)), (37, .pointer (some ⟨w1.heap.size, 2, none⟩)), (36, .pointer (some ⟨w1.heap.size, 1, none⟩)), (35, .int .i64 (1)), (34, .int .i64 (a.c1)), (33, .pointer (some ⟨w.heap.size, 2, none⟩)), (32, .pointer (some ⟨w.heap.size, 1, none⟩)), (31, .int .i64 (1)), (6, .int .i64 (0)), (4, .pointer (some ⟨w1.heap.size, 0, none⟩)), (3, .pointer (some ⟨w.heap.size, 0, none⟩)), (2, .int .i64 (p))]) ⟨rfl, rfl, rfl, rfl, rfl, rfl, rfl, rfl, rfl, rfl, rfl, rfl, rfl, rfl, rfl, rfl, rfl, rfl, rfl, rfl, rfl, rfl, rfl, rfl, rfl, rfl, rfl, rfl, rfl, rfl, rfl, rfl, trivial⟩
                        clear f197
                        refine cond_S f199 (t := decide ((1 : Int) < p)) rfl (fun h200 => ?_) (fun h200 => ?_)
                        · have q201 := of_decide_eq_true h200
                          refine wp_seq ?_
                          refine At.start ?_
                          refine At.rd f199 1 [[]] [(6, .int .i64 (0))] [] (by kernel_rfl) trivial (fun act203 f202 => ?_)
                          clear f199
                          refine At.done rfl ?_
                          refine t_n ?_
                          have f204 := f202.sub (r := [(6, .int .i64 (0)), (30, .bool (decide ((1 : Int) < p))), (29, .int .i64 (p)), (28, .int .i64 (1)), (27, .int .i64 (0)), (26, .int .i64 (0)), (23, .bool true), (22, .int .i64 (0)), (7, .int .i64 (0)), (25, .int .i64 (0)), (24, .int .i64 (1)), (48, .bool (decide ((a.c1 : Int) > b.c1))), (47, .int .i64 (b.c1)), (46, .pointer (some ⟨w1.heap.size, 2, none⟩)), (45, .pointer (some ⟨w1.heap.size, 1, none⟩)), (44, .int .i64 (1)), (43, .int .i64 (a.c1)), (42, .pointer (some ⟨w.heap.size, 2, none⟩)), (41, .pointer (some ⟨w.heap.size, 1, none⟩)), (40, .int .i64 (1)), (39, .bool (decide ((a.c1 : Int) < b.c1))), (38, .int .i64 (b.c1)), (37, .pointer (some ⟨w1.heap.size, 2, none⟩)), (36, .pointer (some ⟨w1.heap.size, 1, none⟩)), (35, .int .i64 (1)), (34, .int .i64 (a.c1)), (33, .pointer (some ⟨w.heap.size, 2, none⟩)), (32, .pointer (some ⟨w.heap.size, 1, none⟩)), (31, .int .i64 (1)), (4, .pointer (some ⟨w1.heap.size, 0, none⟩)), (3, .pointer (some ⟨w.heap.size, 0, none⟩)), (2, .int .i64 (p))]) ⟨rfl, rfl, rfl, rfl, rfl, rfl, rfl, rfl, rfl, rfl, rfl, rfl, rfl, rfl, rfl, rfl, rfl, rfl, rfl, rfl, rfl, rfl, rfl, rfl, rfl, rfl, rfl, rfl, rfl, rfl, rfl, rfl, trivial⟩
                          clear f202
                          refine wp_ret ?_
                          refine t_r ?_
                          refine b_r ?_
                          refine t_r ?_
                          refine t_r ?_
                          refine b_r ?_
                          refine t_r ?_
                          refine ret_ f204 [] [.int .i64 (0)] [] (by kernel_rfl) trivial ?_
                          exact ⟨ret_eq (congrArg (Value.int .i64) (by first | exact cmp_tt (by assumption) (by assumption) | exact cmp_tf (by assumption) (by assumption) | exact cmp_ft (by assumption) (by assumption) | (rw [low_ff (by assumption) (by assumption)]; unfold lowT; omega))), e181⟩
                        · have q205 := of_decide_eq_false h200
                          refine wp_skip ?_
                          refine t_n ?_
                          refine wp_seq ?_
                          refine wp_seq ?_
                          refine drawn_ro f199 (by kernel_rfl) (by kernel_rfl) [[], [], [], [.ld (.int .i64 (a.c0))], [], [], [], [.ld (.int .i64 (b.c0))], []] [(39, .bool (decide ((a.c0 : Int) < b.c0))), (38, .int .i64 (b.c0)), (37, .pointer (some ⟨w1.heap.size, 1, none⟩)), (36, .pointer (some ⟨w1.heap.size, 1, none⟩)), (35, .int .i64 (0)), (34, .int .i64 (a.c0)), (33, .pointer (some ⟨w.heap.size, 1, none⟩)), (32, .pointer (some ⟨w.heap.size, 1, none⟩)), (31, .int .i64 (0))] [(0 ≤ (0 : Int)), ((0 : Int) < (4 : Nat)), (w178.cell? ⟨w.heap.size, 1, none⟩ = some (.int .i64 (a.c0))), (0 ≤ (0 : Int)), ((0 : Int) < (4 : Nat)), (w178.cell? ⟨w1.heap.size, 1, none⟩ = some (.int .i64 (b.c0)))] (by kernel_rfl) ⟨(by decide), (by decide), (bx182.cell (i := 1) rfl), (by decide), (by decide), (bx183.cell (i := 1) rfl), trivial⟩ (fun act207 w208 hw209 f206 => ?_)
                          clear f199
                          have g210 := gr_drew hw209
                          have szw208 := g210.size
                          have e211 := e181.gr g210 no_row
                          clear e181
                          have bx212 := bx182.gr g210 (by simp)
                          clear bx182
                          have bx213 := bx183.gr g210 (by simp)
                          clear bx183
                          clear g210 hw209
                          refine t_n ?_
                          have f214 := f206.sub (r := [(39, .bool (decide ((a.c0 : Int) < b.c0))), (38, .int .i64 (b.c0)), (37, .pointer (some ⟨w1.heap.size, 1, none⟩)), (36, .pointer (some ⟨w1.heap.size, 1, none⟩)), (35, .int .i64 (0)), (34, .int .i64 (a.c0)), (33, .pointer (some ⟨w.heap.size, 1, none⟩)), (32, .pointer (some ⟨w.heap.size, 1, none⟩)), (31, .int .i64 (0)), (30, .bool (decide ((1 : Int) < p))), (29, .int .i64 (p)), (28, .int .i64 (1)), (27, .int .i64 (0)), (26, .int .i64 (0)), (23, .bool true), (22, .int .i64 (0)), (7, .int .i64 (0)), (25, .int .i64 (0)), (24, .int .i64 (1)), (48, .bool (decide ((a.c1 : Int) > b.c1))), (47, .int .i64 (b.c1)), (46, .pointer (some ⟨w1.heap.size, 2, none⟩)), (45, .pointer (some ⟨w1.heap.size, 1, none⟩)), (44, .int .i64 (1)), (43, .int .i64 (a.c1)), (42, .pointer (some ⟨w.heap.size, 2, none⟩)), (41, .pointer (some ⟨w.heap.size, 1, none⟩)), (40, .int .i64 (1)), (6, .int .i64 (0)), (4, .pointer (some ⟨w1.heap.size, 0, none⟩)), (3, .pointer (some ⟨w.heap.size, 0, none⟩)), (2, .int .i64 (p))]) ⟨rfl, rfl, rfl, rfl, rfl, rfl, rfl, rfl, rfl, rfl, rfl, rfl, rfl, rfl, rfl, rfl, rfl, rfl, rfl, rfl, rfl, rfl, rfl, rfl, rfl, rfl, rfl, rfl, rfl, rfl, rfl, rfl, trivial⟩
                          clear f206
                          refine cond_S f214 (t := decide ((a.c0 : Int) < b.c0)) rfl (fun h215 => ?_) (fun h215 => ?_)
                          · have q216 := of_decide_eq_true h215
                            refine wp_seq ?_
                            refine At.start ?_
                            refine At.rd f214 1 [[]] [(6, .int .i64 (-1))] [] (by kernel_rfl) trivial (fun act218 f217 => ?_)
                            clear f214
                            refine At.done rfl ?_
                            refine t_n ?_
                            have f219 := f217.sub (r := [(6, .int .i64 (-1)), (39, .bool (decide ((a.c0 : Int) < b.c0))), (38, .int .i64 (b.c0)), (37, .pointer (some ⟨w1.heap.size, 1, none⟩)), (36, .pointer (some ⟨w1.heap.size, 1, none⟩)), (35, .int .i64 (0)), (34, .int .i64 (a.c0)), (33, .pointer (some ⟨w.heap.size, 1, none⟩)), (32, .pointer (some ⟨w.heap.size, 1, none⟩)), (31, .int .i64 (0)), (30, .bool (decide ((1 : Int) < p))), (29, .int .i64 (p)), (28, .int .i64 (1)), (27, .int .i64 (0)), (26, .int .i64 (0)), (23, .bool true), (22, .int .i64 (0)), (7, .int .i64 (0)), (25, .int .i64 (0)), (24, .int .i64 (1)), (48, .bool (decide ((a.c1 : Int) > b.c1))), (47, .int .i64 (b.c1)), (46, .pointer (some ⟨w1.heap.size, 2, none⟩)), (45, .pointer (some ⟨w1.heap.size, 1, none⟩)), (44, .int .i64 (1)), (43, .int .i64 (a.c1)), (42, .pointer (some ⟨w.heap.size, 2, none⟩)), (41, .pointer (some ⟨w.heap.size, 1, none⟩)), (40, .int .i64 (1)), (4, .pointer (some ⟨w1.heap.size, 0, none⟩)), (3, .pointer (some ⟨w.heap.size, 0, none⟩)), (2, .int .i64 (p))]) ⟨rfl, rfl, rfl, rfl, rfl, rfl, rfl, rfl, rfl, rfl, rfl, rfl, rfl, rfl, rfl, rfl, rfl, rfl, rfl, rfl, rfl, rfl, rfl, rfl, rfl, rfl, rfl, rfl, rfl, rfl, rfl, rfl, trivial⟩
                            clear f217
                            refine wp_ret ?_
                            refine t_r ?_
                            refine b_r ?_
                            refine t_r ?_
                            refine t_r ?_
                            refine b_r ?_
                            refine t_r ?_
                            refine ret_ f219 [] [.int .i64 (-1)] [] (by kernel_rfl) trivial ?_
                            exact ⟨ret_eq (congrArg (Value.int .i64) (by first | exact cmp_tt (by assumption) (by assumption) | exact cmp_tf (by assumption) (by assumption) | exact cmp_ft (by assumption) (by assumption) | (rw [low_ff (by assumption) (by assumption)]; unfold lowT; omega))), e211⟩
                          · have q220 := of_decide_eq_false h215
                            refine wp_skip ?_
                            refine t_n ?_
                            refine wp_seq ?_
                            refine drawn_ro f214 (by kernel_rfl) (by kernel_rfl) [[], [], [], [.ld (.int .i64 (a.c0))], [], [], [], [.ld (.int .i64 (b.c0))], []] [(48, .bool (decide ((a.c0 : Int) > b.c0))), (47, .int .i64 (b.c0)), (46, .pointer (some ⟨w1.heap.size, 1, none⟩)), (45, .pointer (some ⟨w1.heap.size, 1, none⟩)), (44, .int .i64 (0)), (43, .int .i64 (a.c0)), (42, .pointer (some ⟨w.heap.size, 1, none⟩)), (41, .pointer (some ⟨w.heap.size, 1, none⟩)), (40, .int .i64 (0))] [(0 ≤ (0 : Int)), ((0 : Int) < (4 : Nat)), (w208.cell? ⟨w.heap.size, 1, none⟩ = some (.int .i64 (a.c0))), (0 ≤ (0 : Int)), ((0 : Int) < (4 : Nat)), (w208.cell? ⟨w1.heap.size, 1, none⟩ = some (.int .i64 (b.c0)))] (by kernel_rfl) ⟨(by decide), (by decide), (bx212.cell (i := 1) rfl), (by decide), (by decide), (bx213.cell (i := 1) rfl), trivial⟩ (fun act222 w223 hw224 f221 => ?_)
                            clear f214
                            have g225 := gr_drew hw224
                            have szw223 := g225.size
                            have e226 := e211.gr g225 no_row
                            clear e211
                            have bx227 := bx212.gr g225 (by simp)
                            clear bx212
                            have bx228 := bx213.gr g225 (by simp)
                            clear bx213
                            clear g225 hw224
                            refine t_n ?_
                            have f229 := f221.sub (r := [(48, .bool (decide ((a.c0 : Int) > b.c0))), (47, .int .i64 (b.c0)), (46, .pointer (some ⟨w1.heap.size, 1, none⟩)), (45, .pointer (some ⟨w1.heap.size, 1, none⟩)), (44, .int .i64 (0)), (43, .int .i64 (a.c0)), (42, .pointer (some ⟨w.heap.size, 1, none⟩)), (41, .pointer (some ⟨w.heap.size, 1, none⟩)), (40, .int .i64 (0)), (39, .bool (decide ((a.c0 : Int) < b.c0))), (38, .int .i64 (b.c0)), (37, .pointer (some ⟨w1.heap.size, 1, none⟩)), (36, .pointer (some ⟨w1.heap.size, 1, none⟩)), (35, .int .i64 (0)), (34, .int .i64 (a.c0)), (33, .pointer (some ⟨w.heap.size, 1, none⟩)), (32, .pointer (some ⟨w.heap.size, 1, none⟩)), (31, .int .i64 (0)), (30, .bool (decide ((1 : Int) < p))), (29, .int .i64 (p)), (28, .int .i64 (1)), (27, .int .i64 (0)), (26, .int .i64 (0)), (23, .bool true), (22, .int .i64 (0)), (7, .int .i64 (0)), (25, .int .i64 (0)), (24, .int .i64 (1)), (6, .int .i64 (0)), (4, .pointer (some ⟨w1.heap.size, 0, none⟩)), (3, .pointer (some ⟨w.heap.size, 0, none⟩)), (2, .int .i64 (p))]) ⟨rfl, rfl, rfl, rfl, rfl, rfl, rfl, rfl, rfl, rfl, rfl, rfl, rfl, rfl, rfl, rfl, rfl, rfl, rfl, rfl, rfl, rfl, rfl, rfl, rfl, rfl, rfl, rfl, rfl, rfl, rfl, rfl, trivial⟩
                            clear f221
                            refine cond_S f229 (t := decide ((a.c0 : Int) > b.c0)) rfl (fun h230 => ?_) (fun h230 => ?_)
                            · have q231 := of_decide_eq_true h230
                              refine wp_seq ?_
                              refine At.start ?_
                              refine At.rd f229 1 [[]] [(6, .int .i64 (1))] [] (by kernel_rfl) trivial (fun act233 f232 => ?_)
                              clear f229
                              refine At.done rfl ?_
                              refine t_n ?_
                              have f234 := f232.sub (r := [(6, .int .i64 (1)), (48, .bool (decide ((a.c0 : Int) > b.c0))), (47, .int .i64 (b.c0)), (46, .pointer (some ⟨w1.heap.size, 1, none⟩)), (45, .pointer (some ⟨w1.heap.size, 1, none⟩)), (44, .int .i64 (0)), (43, .int .i64 (a.c0)), (42, .pointer (some ⟨w.heap.size, 1, none⟩)), (41, .pointer (some ⟨w.heap.size, 1, none⟩)), (40, .int .i64 (0)), (39, .bool (decide ((a.c0 : Int) < b.c0))), (38, .int .i64 (b.c0)), (37, .pointer (some ⟨w1.heap.size, 1, none⟩)), (36, .pointer (some ⟨w1.heap.size, 1, none⟩)), (35, .int .i64 (0)), (34, .int .i64 (a.c0)), (33, .pointer (some ⟨w.heap.size, 1, none⟩)), (32, .pointer (some ⟨w.heap.size, 1, none⟩)), (31, .int .i64 (0)), (30, .bool (decide ((1 : Int) < p))), (29, .int .i64 (p)), (28, .int .i64 (1)), (27, .int .i64 (0)), (26, .int .i64 (0)), (23, .bool true), (22, .int .i64 (0)), (7, .int .i64 (0)), (25, .int .i64 (0)), (24, .int .i64 (1)), (4, .pointer (some ⟨w1.heap.size, 0, none⟩)), (3, .pointer (some ⟨w.heap.size, 0, none⟩)), (2, .int .i64 (p))]) ⟨rfl, rfl, rfl, rfl, rfl, rfl, rfl, rfl, rfl, rfl, rfl, rfl, rfl, rfl, rfl, rfl, rfl, rfl, rfl, rfl, rfl, rfl, rfl, rfl, rfl, rfl, rfl, rfl, rfl, rfl, rfl, rfl, trivial⟩
                              clear f232
                              refine wp_ret ?_
                              refine b_r ?_
                              refine t_r ?_
                              refine t_r ?_
                              refine b_r ?_
                              refine t_r ?_
                              refine ret_ f234 [] [.int .i64 (1)] [] (by kernel_rfl) trivial ?_
                              exact ⟨ret_eq (congrArg (Value.int .i64) (by first | exact cmp_tt (by assumption) (by assumption) | exact cmp_tf (by assumption) (by assumption) | exact cmp_ft (by assumption) (by assumption) | (rw [low_ff (by assumption) (by assumption)]; unfold lowT; omega))), e226⟩
                            · have q235 := of_decide_eq_false h230
                              refine wp_skip ?_
                              refine b_n ?_
                              refine t_n ?_
                              refine At.start ?_
                              refine At.rd f229 3 [[], [.as_ (.int .i64 (-1))], []] [(7, .int .i64 (-1)), (25, .int .i64 (-1)), (24, .int .i64 (0))] [((.int .i64 (IntKind.i64.wrap (0 - 1)) : Value) = .int .i64 (-1))] (by kernel_rfl) ⟨(by kernel_rfl), trivial⟩ (fun act237 f236 => ?_)
                              clear f229
                              refine At.done rfl ?_
                              refine t_n ?_
                              have f238 := f236.sub (r := [(7, .int .i64 (-1)), (25, .int .i64 (-1)), (24, .int .i64 (0)), (48, .bool (decide ((a.c0 : Int) > b.c0))), (47, .int .i64 (b.c0)), (46, .pointer (some ⟨w1.heap.size, 1, none⟩)), (45, .pointer (some ⟨w1.heap.size, 1, none⟩)), (44, .int .i64 (0)), (43, .int .i64 (a.c0)), (42, .pointer (some ⟨w.heap.size, 1, none⟩)), (41, .pointer (some ⟨w.heap.size, 1, none⟩)), (40, .int .i64 (0)), (39, .bool (decide ((a.c0 : Int) < b.c0))), (38, .int .i64 (b.c0)), (37, .pointer (some ⟨w1.heap.size, 1, none⟩)), (36, .pointer (some ⟨w1.heap.size, 1, none⟩)), (35, .int .i64 (0)), (34, .int .i64 (a.c0)), (33, .pointer (some ⟨w.heap.size, 1, none⟩)), (32, .pointer (some ⟨w.heap.size, 1, none⟩)), (31, .int .i64 (0)), (30, .bool (decide ((1 : Int) < p))), (29, .int .i64 (p)), (28, .int .i64 (1)), (27, .int .i64 (0)), (26, .int .i64 (0)), (23, .bool true), (22, .int .i64 (0)), (6, .int .i64 (0)), (4, .pointer (some ⟨w1.heap.size, 0, none⟩)), (3, .pointer (some ⟨w.heap.size, 0, none⟩)), (2, .int .i64 (p))]) ⟨rfl, rfl, rfl, rfl, rfl, rfl, rfl, rfl, rfl, rfl, rfl, rfl, rfl, rfl, rfl, rfl, rfl, rfl, rfl, rfl, rfl, rfl, rfl, rfl, rfl, rfl, rfl, rfl, rfl, rfl, rfl, rfl, trivial⟩
                              clear f236
                              refine loop_u ?_
                              refine wp_seq ?_
                              refine wp_seq ?_
                              refine At.start ?_
                              refine At.rd f238 2 [[], [.as_ (.bool false)]] [(23, .bool false), (22, .int .i64 (-1))] [((.bool (decide ((-1 : Int) ≥ 0)) : Value) = .bool false)] (by kernel_rfl) ⟨(by kernel_rfl), trivial⟩ (fun act240 f239 => ?_)
                              clear f238
                              refine At.done rfl ?_
                              refine t_n ?_
                              have f241 := f239.sub (r := [(23, .bool false), (22, .int .i64 (-1)), (7, .int .i64 (-1)), (25, .int .i64 (-1)), (24, .int .i64 (0)), (48, .bool (decide ((a.c0 : Int) > b.c0))), (47, .int .i64 (b.c0)), (46, .pointer (some ⟨w1.heap.size, 1, none⟩)), (45, .pointer (some ⟨w1.heap.size, 1, none⟩)), (44, .int .i64 (0)), (43, .int .i64 (a.c0)), (42, .pointer (some ⟨w.heap.size, 1, none⟩)), (41, .pointer (some ⟨w.heap.size, 1, none⟩)), (40, .int .i64 (0)), (39, .bool (decide ((a.c0 : Int) < b.c0))), (38, .int .i64 (b.c0)), (37, .pointer (some ⟨w1.heap.size, 1, none⟩)), (36, .pointer (some ⟨w1.heap.size, 1, none⟩)), (35, .int .i64 (0)), (34, .int .i64 (a.c0)), (33, .pointer (some ⟨w.heap.size, 1, none⟩)), (32, .pointer (some ⟨w.heap.size, 1, none⟩)), (31, .int .i64 (0)), (30, .bool (decide ((1 : Int) < p))), (29, .int .i64 (p)), (28, .int .i64 (1)), (27, .int .i64 (0)), (26, .int .i64 (0)), (6, .int .i64 (0)), (4, .pointer (some ⟨w1.heap.size, 0, none⟩)), (3, .pointer (some ⟨w.heap.size, 0, none⟩)), (2, .int .i64 (p))]) ⟨rfl, rfl, rfl, rfl, rfl, rfl, rfl, rfl, rfl, rfl, rfl, rfl, rfl, rfl, rfl, rfl, rfl, rfl, rfl, rfl, rfl, rfl, rfl, rfl, rfl, rfl, rfl, rfl, rfl, rfl, rfl, rfl, trivial⟩
                              clear f239
                              refine cond_F f241 rfl ?_
                              refine wp_exit ?_
                              refine t_e ?_
                              refine t_e ?_
                              refine b_e ?_
                              refine t_n ?_
                              have f242 := f241.sub (r := [(6, .int .i64 (0))]) ⟨rfl, trivial⟩
                              clear f241
                              refine wp_seq ?_
                              refine At.start ?_
                              refine At.rd f242 1 [[]] [(6, .int .i64 (0))] [] (by kernel_rfl) trivial (fun act244 f243 => ?_)
                              clear f242
                              refine At.done rfl ?_
                              refine t_n ?_
                              have f245 := f243.sub (r := [(6, .int .i64 (0))]) ⟨rfl, trivial⟩
                              clear f243
                              refine wp_ret ?_
                              refine ret_ f245 [] [.int .i64 (0)] [] (by kernel_rfl) trivial ?_
                              exact ⟨ret_eq (congrArg (Value.int .i64) (by first | exact cmp_tt (by assumption) (by assumption) | exact cmp_tf (by assumption) (by assumption) | exact cmp_ft (by assumption) (by assumption) | (rw [low_ff (by assumption) (by assumption)]; unfold lowT; omega))), e226⟩

end Go.Proofs.Ytklbpajmoklheaa
