/-
  A walk of a Go function, printed by a program of this repo. Conditions: what the theorems name.
-/
import Derived.Test.YtklbpajmoklheaaPureTup
import Derived.Test.YtklbpajmoklheaaWTup
import Derived.Test.YtklbpajmoklheaaWCounts
set_option linter.unusedVariables false
set_option linter.unusedSimpArgs false
namespace Go.Proofs.Ytklbpajmoklheaa
open Go Go.RowKit

set_option maxHeartbeats 4000000 in
theorem up_any {n0 n1 n2 n3 p : Int} {t : Tup} {w : World} (h0 : n0 ≤ 140737488351232) (h1 : n1 ≤ 140737488351232) (h2 : n2 ≤ 140737488351232) (h3 : n3 ≤ 140737488351232) (ht : okT t) :
    Calls Try.prog 55 #[.agg #[.int .i64 (n0), .int .i64 (n1), .int .i64 (n2), .int .i64 (n3)], .int .i64 (p), tupV t] w fun e w' => e = .returned (.agg #[.bool (upT n0 n1 n2 n3 p t).top, .int .i64 (upT n0 n1 n2 n3 p t).c0, .int .i64 (upT n0 n1 n2 n3 p t).c1, .int .i64 (upT n0 n1 n2 n3 p t).c2, .int .i64 (upT n0 n1 n2 n3 p t).c3]) ∧ Ext w w' := by
  refine enter_ (args := [.agg #[.int .i64 (n0), .int .i64 (n1), .int .i64 (n2), .int .i64 (n3)], .int .i64 (p), tupV t]) Try.func55 rfl Try.ntmps55 (Nat.le_of_ble_eq_true rfl) (fun act0 f0 => ?_)
  have e0 := Ext.refl w
  refine wp_seq ?_
  refine At.start ?_
  refine At.seq f0 1 [[]] [(3, .pointer (some ⟨w.heap.size, 0, none⟩))] (w.alloc (.cells #[.int .i64 (n0), .int .i64 (n1), .int .i64 (n2), .int .i64 (n3)] 38 (0, 0))) [] (by kernel_rfl) trivial (fun act4 w1 hw2 f3 => ?_)
  clear f0
  have g5 := gr_alloc hw2
  have szw1 := g5.size
  have e7 := e0.gr g5 no_row
  clear e0
  have bx8 : Bx w1 (w.heap.size) [.int .i64 (n0), .int .i64 (n1), .int .i64 (n2), .int .i64 (n3)] 38 := Bx.new hw2
  have := bx8.lt
  clear g5 hw2
  refine At.seq f3 1 [[]] [(5, .pointer (some ⟨w1.heap.size, 0, none⟩))] (w1.alloc (.cells ((tupC t)).toArray 41 (0, 0))) [] (by kernel_rfl) trivial (fun act12 w9 hw10 f11 => ?_)
  clear f3
  have g13 := gr_alloc hw10
  have szw9 := g13.size
  have e15 := e7.gr g13 no_row
  clear e7
  have bx16 := bx8.gr g13 (by simp)
  clear bx8
  have bx17 : Bx w9 (w1.heap.size) (tupC t) 41 := Bx.new hw10
  have := bx17.lt
  clear g13 hw10
  refine At.seq f11 1 [[]] [(6, .pointer (some ⟨w9.heap.size, 0, none⟩))] (w9.alloc (.cells #[.bool false, .int .i64 (0), .int .i64 (0), .int .i64 (0), .int .i64 (0)] 41 (0, 0))) [] (by kernel_rfl) trivial (fun act21 w18 hw19 f20 => ?_)
  clear f11
  have g22 := gr_alloc hw19
  have szw18 := g22.size
  have e24 := e15.gr g22 no_row
  clear e15
  have bx25 := bx16.gr g22 (by simp)
  clear bx16
  have bx26 := bx17.gr g22 (by simp)
  clear bx17
  have bx27 : Bx w18 (w9.heap.size) [.bool false, .int .i64 (0), .int .i64 (0), .int .i64 (0), .int .i64 (0)] 41 := Bx.new hw19
  have := bx27.lt
  clear g22 hw19
  refine At.done rfl ?_
  refine t_n ?_
  have f28 := f20.sub (r := [(6, .pointer (some ⟨w9.heap.size, 0, none⟩)), (5, .pointer (some ⟨w1.heap.size, 0, none⟩)), (3, .pointer (some ⟨w.heap.size, 0, none⟩)), (1, .int .i64 (p))]) ⟨rfl, rfl, rfl, rfl, trivial⟩
  clear f20
  refine wp_seq ?_
  refine wp_seq ?_
  refine At.start ?_
  refine At.rd f28 2 [[], [.ld (.bool (t.top))]] [(10, .bool (t.top)), (9, .pointer (some ⟨w1.heap.size, 0, none⟩))] [(w18.cell? ⟨w1.heap.size, 0, none⟩ = some (.bool (t.top)))] (by kernel_rfl) ⟨(bx26.cell (i := 0) rfl), trivial⟩ (fun act30 f29 => ?_)
  clear f28
  refine At.done rfl ?_
  refine t_n ?_
  have f31 := f29.sub (r := [(10, .bool (t.top)), (6, .pointer (some ⟨w9.heap.size, 0, none⟩)), (5, .pointer (some ⟨w1.heap.size, 0, none⟩)), (3, .pointer (some ⟨w.heap.size, 0, none⟩)), (1, .int .i64 (p))]) ⟨rfl, rfl, rfl, rfl, rfl, trivial⟩
  clear f29
  refine cond_S f31 (t := t.top) rfl (fun h32 => ?_) (fun h32 => ?_)
  · refine wp_seq ?_
    refine At.start ?_
    refine At.rd f31 1 [[]] [(11, .agg #[.bool true, .int .i64 (0), .int .i64 (0), .int .i64 (0), .int .i64 (0)])] [] (by kernel_rfl) trivial (fun act35 f34 => ?_)
    clear f31
    refine At.store f34 (t := 41) (b := w9.heap.size) (off := 0) (v := .agg #[.bool true, .int .i64 (0), .int .i64 (0), .int .i64 (0), .int .i64 (0)]) (by kernel_rfl) bx27 (by kernel_rfl) (fun act40 w36 g37 bx38 f39 => ?_)
    clear f34
    replace bx38 : Bx w36 (w9.heap.size) [.bool true, .int .i64 (0), .int .i64 (0), .int .i64 (0), .int .i64 (0)] 41 := bx38
    have szw36 := g37.size
    have e41 := e24.gr g37 (fun k h => by injection h; omega)
    clear e24
    have bx42 := bx25.gr g37 (fun h => by injection h; omega)
    clear bx25
    have bx43 := bx26.gr g37 (fun h => by injection h; omega)
    clear bx26
    clear bx27 g37
    refine At.done rfl ?_
    refine t_n ?_
    have f44 := f39.sub (r := [(6, .pointer (some ⟨w9.heap.size, 0, none⟩)), (5, .pointer (some ⟨w1.heap.size, 0, none⟩)), (3, .pointer (some ⟨w.heap.size, 0, none⟩)), (1, .int .i64 (p))]) ⟨rfl, rfl, rfl, rfl, trivial⟩
    clear f39
    refine wp_ret ?_
    refine t_r ?_
    refine ret_ f44 [[.bool true, .int .i64 (0), .int .i64 (0), .int .i64 (0), .int .i64 (0)]] [.agg #[.bool true, .int .i64 (0), .int .i64 (0), .int .i64 (0), .int .i64 (0)]] [(w36.cell? ⟨w9.heap.size, 0, none⟩ = some (.bool true)), (w36.cell? ⟨w9.heap.size, 1, none⟩ = some (.int .i64 (0))), (w36.cell? ⟨w9.heap.size, 2, none⟩ = some (.int .i64 (0))), (w36.cell? ⟨w9.heap.size, 3, none⟩ = some (.int .i64 (0))), (w36.cell? ⟨w9.heap.size, 4, none⟩ = some (.int .i64 (0)))] (by kernel_rfl) ⟨(bx38.cell (i := 0) rfl), (bx38.cell (i := 1) rfl), (bx38.cell (i := 2) rfl), (bx38.cell (i := 3) rfl), (bx38.cell (i := 4) rfl), trivial⟩ ?_
    exact ⟨tup_ret (by first | exact up_top (by assumption) | exact up_odd (by assumption) (by assumption) (inc_no hfu (by omega))), e41⟩
  · refine wp_skip ?_
    refine t_n ?_
    have f46 := f31.sub (r := [(6, .pointer (some ⟨w9.heap.size, 0, none⟩)), (5, .pointer (some ⟨w1.heap.size, 0, none⟩)), (3, .pointer (some ⟨w.heap.size, 0, none⟩)), (1, .int .i64 (p))]) ⟨rfl, rfl, rfl, rfl, trivial⟩
    clear f31
    refine wp_seq ?_
    refine wp_seq ?_
    refine At.start ?_
    refine At.rd f46 1 [[]] [(12, .int .i64 (0))] [] (by kernel_rfl) trivial (fun act48 f47 => ?_)
    clear f46
    refine At.done rfl ?_
    refine t_n ?_
    refine wp_block ?_
    have f49 := f47.sub (r := [(12, .int .i64 (0)), (6, .pointer (some ⟨w9.heap.size, 0, none⟩)), (5, .pointer (some ⟨w1.heap.size, 0, none⟩)), (3, .pointer (some ⟨w.heap.size, 0, none⟩)), (1, .int .i64 (p))]) ⟨rfl, rfl, rfl, rfl, rfl, trivial⟩
    refine loop_g (fun (m_ : Nat) a_ w_ => ∃ (k : Int), m_ = (4 - k).toNat ∧ (Frm 55 a_ [(12, .int .i64 (k)), (6, .pointer (some ⟨w9.heap.size, 0, none⟩)), (5, .pointer (some ⟨w1.heap.size, 0, none⟩)), (3, .pointer (some ⟨w.heap.size, 0, none⟩)), (1, .int .i64 (p))]) ∧ (Ext w w_) ∧ (Bx w_ (w.heap.size) [.int .i64 (n0), .int .i64 (n1), .int .i64 (n2), .int .i64 (n3)] 38) ∧ (Bx w_ (w1.heap.size) [.bool (t.top), .int .i64 (kp p k 1 0 t.c0), .int .i64 (kp p k 3 1 t.c1), .int .i64 (kp p k 5 2 t.c2), .int .i64 (kp p k 7 3 t.c3)] 41) ∧ (Bx w_ (w9.heap.size) [.bool false, .int .i64 (0), .int .i64 (0), .int .i64 (0), .int .i64 (0)] 41) ∧ (0 ≤ k) ∧ (k ≤ 4)) _ ⟨0, rfl, f49, e24, bx25, (bx26.as (v5_eq rfl (kp0 (by omega)) (kp0 (by omega)) (kp0 (by omega)) (kp0 (by omega)))), bx27, (by omega), (by omega)⟩ ?_
    clear f49 f47
    clear bx25
    clear bx26
    clear bx27
    clear e24
    intro m_ act50 w51 ⟨k, hm53, f54, e52, bx55, bx56, bx57, i58, i59⟩
    have szw51 := e52.size
    have := bx55.lt
    have := bx56.lt
    have := bx57.lt
    refine wp_seq ?_
    refine At.start ?_
    refine At.rd f54 1 [[]] [(13, .bool (decide ((k : Int) < 4)))] [] (by kernel_rfl) trivial (fun act61 f60 => ?_)
    clear f54
    refine At.done rfl ?_
    refine t_n ?_
    refine wp_seq ?_
    refine cond_S f60 (t := decide ((k : Int) < 4)) rfl (fun h62 => ?_) (fun h62 => ?_)
    · have q63 := of_decide_eq_true h62
      refine wp_skip ?_
      refine t_n ?_
      refine wp_seq ?_
      refine wp_block ?_
      refine wp_seq ?_
      refine At.start ?_
      refine At.rd f60 2 [[], []] [(7, .int .i64 (k)), (14, .int .i64 (k))] [] (by kernel_rfl) trivial (fun act65 f64 => ?_)
      clear f60
      refine At.done rfl ?_
      refine t_n ?_
      refine wp_seq ?_
      refine At.start ?_
      refine At.rd f64 2 [[], []] [(16, .int .i64 (p)), (15, .int .i64 (k))] [] (by kernel_rfl) trivial (fun act67 f66 => ?_)
      clear f64
      refine At.call f66 43 #[.int .i64 (k), .int .i64 (p)] (some 17) (by kernel_rfl) (above_any (k := k) (p := p) (by omega) (by omega)) ?_
      rintro e_ w68 ⟨rfl, he⟩
      refine ⟨_, rfl, _, rfl, fun act69 f70 => ?_⟩
      clear f66
      have g71 := gr_ext he
      have szw68 := g71.size
      have e72 := e52.gr g71 no_row
      clear e52
      have bx73 := bx55.gr g71 (by simp)
      clear bx55
      have bx74 := bx56.gr g71 (by simp)
      clear bx56
      have bx75 := bx57.gr g71 (by simp)
      clear bx57
      clear g71 he
      refine At.rd f70 1 [[]] [(18, .bool (!(decide (2 * k + 1 ≥ p))))] [] (by kernel_rfl) trivial (fun act77 f76 => ?_)
      clear f70
      refine At.done rfl ?_
      refine t_n ?_
      refine cond_S f76 (t := !(decide (2 * k + 1 ≥ p))) rfl (fun h78 => ?_) (fun h78 => ?_)
      · have q79 : (decide (2 * k + 1 ≥ p)) = false := by simpa using h78
        have q80 := of_decide_eq_false q79
        refine At.start ?_
        refine At.rd f76 3 [[], [], []] [(21, .pointer (some ((⟨w1.heap.size, 1, none⟩ : Addr).add ((k : Int).toNat * 1)))), (20, .pointer (some ⟨w1.heap.size, 1, none⟩)), (19, .int .i64 (k))] [(0 ≤ (k : Int)), ((k : Int) < (4 : Nat))] (by kernel_rfl) ⟨(by omega), (by omega), trivial⟩ (fun act82 f81 => ?_)
        clear f76
        refine At.act f81 (storeArr (pre := [.bool (t.top)]) (l := [kp p k 1 0 t.c0, kp p k 3 1 t.c1, kp p k 5 2 t.c2, kp p k 7 3 t.c3]) (post := []) (t := 3) (v := 0) (i := k) (by kernel_rfl) (by kernel_rfl) bx74 rfl rfl (by omega) (by simp only [List.length_cons, List.length_nil]; omega)) ?_
        rintro d_ v_ w83 ⟨rfl, g84, bx85⟩
        refine ⟨_, rfl, fun act87 f86 => ?_⟩
        clear f81
        replace bx85 : Bx w83 (w1.heap.size) [.bool (t.top), .int .i64 (if k = 0 then 0 else kp p k 1 0 t.c0), .int .i64 (if k = 1 then 0 else kp p k 3 1 t.c1), .int .i64 (if k = 2 then 0 else kp p k 5 2 t.c2), .int .i64 (if k = 3 then 0 else kp p k 7 3 t.c3)] 41 := bx85.as (by rw [set4 k (by omega) (by omega)]; rfl)
        have szw83 := g84.size
        have e88 := e72.gr g84 (fun k h => by injection h; omega)
        clear e72
        have bx89 := bx73.gr g84 (fun h => by injection h; omega)
        clear bx73
        have bx90 := bx75.gr g84 (fun h => by injection h; omega)
        clear bx75
        clear bx74 g84
        refine At.done rfl ?_
        refine b_n ?_
        refine t_n ?_
        refine At.start ?_
        refine At.rd f86 2 [[.as_ (.int .i64 (k + 1))], []] [(12, .int .i64 (k + 1)), (22, .int .i64 (k + 1))] [((.int .i64 (IntKind.i64.wrap (k + 1)) : Value) = .int .i64 (k + 1))] (by kernel_rfl) ⟨(w64 (by omega) (by omega)), trivial⟩ (fun act92 f91 => ?_)
        clear f86
        refine At.done rfl ?_
        refine t_n ?_
        have f93 := f91.sub (r := [(12, .int .i64 (k + 1)), (6, .pointer (some ⟨w9.heap.size, 0, none⟩)), (5, .pointer (some ⟨w1.heap.size, 0, none⟩)), (3, .pointer (some ⟨w.heap.size, 0, none⟩)), (1, .int .i64 (p))]) ⟨rfl, rfl, rfl, rfl, rfl, trivial⟩
        exact ⟨_, (by omega), (k + 1), rfl, f93, e88, bx89, (bx85.as (by first | exact (v5_eq rfl (kp_keep (by omega) rfl) (kp_keep (by omega) rfl) (kp_keep (by omega) rfl) (kp_keep (by omega) rfl)) | exact (v5_eq rfl (kp_zero (by omega) rfl) (kp_zero (by omega) rfl) (kp_zero (by omega) rfl) (kp_zero (by omega) rfl)))), bx90, (by omega), (by omega)⟩
      · have q94 : (decide (2 * k + 1 ≥ p)) = true := by simpa using h78
        have q95 := of_decide_eq_true q94
        refine wp_skip ?_
        refine b_n ?_
        refine t_n ?_
        refine At.start ?_
        refine At.rd f76 2 [[.as_ (.int .i64 (k + 1))], []] [(12, .int .i64 (k + 1)), (22, .int .i64 (k + 1))] [((.int .i64 (IntKind.i64.wrap (k + 1)) : Value) = .int .i64 (k + 1))] (by kernel_rfl) ⟨(w64 (by omega) (by omega)), trivial⟩ (fun act97 f96 => ?_)
        clear f76
        refine At.done rfl ?_
        refine t_n ?_
        have f98 := f96.sub (r := [(12, .int .i64 (k + 1)), (6, .pointer (some ⟨w9.heap.size, 0, none⟩)), (5, .pointer (some ⟨w1.heap.size, 0, none⟩)), (3, .pointer (some ⟨w.heap.size, 0, none⟩)), (1, .int .i64 (p))]) ⟨rfl, rfl, rfl, rfl, rfl, trivial⟩
        exact ⟨_, (by omega), (k + 1), rfl, f98, e72, bx73, (bx74.as (by first | exact (v5_eq rfl (kp_keep (by omega) rfl) (kp_keep (by omega) rfl) (kp_keep (by omega) rfl) (kp_keep (by omega) rfl)) | exact (v5_eq rfl (kp_zero (by omega) rfl) (kp_zero (by omega) rfl) (kp_zero (by omega) rfl) (kp_zero (by omega) rfl)))), bx75, (by omega), (by omega)⟩
    · have q99 := of_decide_eq_false h62
      refine wp_exit ?_
      refine t_e ?_
      refine t_e ?_
      refine b_e ?_
      refine t_n ?_
      have f100 := f60.sub (r := [(6, .pointer (some ⟨w9.heap.size, 0, none⟩)), (5, .pointer (some ⟨w1.heap.size, 0, none⟩)), (3, .pointer (some ⟨w.heap.size, 0, none⟩)), (1, .int .i64 (p))]) ⟨rfl, rfl, rfl, rfl, trivial⟩
      clear f60
      refine wp_seq ?_
      refine wp_seq ?_
      refine At.start ?_
      refine At.rd f100 3 [[], [], []] [(25, .bool ((IntKind.i64.wrap ((BitVec.ofInt 64 p &&& BitVec.ofInt 64 1).toNat : Int) : Int) == 0)), (24, .int .i64 (IntKind.i64.wrap ((BitVec.ofInt 64 p &&& BitVec.ofInt 64 1).toNat : Int))), (23, .int .i64 (p))] [] (by kernel_rfl) trivial (fun act102 f101 => ?_)
      clear f100
      refine At.done rfl ?_
      refine t_n ?_
      have f103 := f101.sub (r := [(25, .bool ((IntKind.i64.wrap ((BitVec.ofInt 64 p &&& BitVec.ofInt 64 1).toNat : Int) : Int) == 0)), (6, .pointer (some ⟨w9.heap.size, 0, none⟩)), (5, .pointer (some ⟨w1.heap.size, 0, none⟩)), (3, .pointer (some ⟨w.heap.size, 0, none⟩)), (1, .int .i64 (p))]) ⟨rfl, rfl, rfl, rfl, rfl, trivial⟩
      clear f101
      refine cond_S f103 (t := (IntKind.i64.wrap ((BitVec.ofInt 64 p &&& BitVec.ofInt 64 1).toNat : Int) : Int) == 0) rfl (fun h104 => ?_) (fun h104 => ?_)
      · have q105 := eq_of_beq h104
        refine wp_seq ?_
        refine At.start ?_
        refine At.rd f103 1 [[.ld (.bool (t.top)), .ld (.int .i64 (kp p k 1 0 t.c0)), .ld (.int .i64 (kp p k 3 1 t.c1)), .ld (.int .i64 (kp p k 5 2 t.c2)), .ld (.int .i64 (kp p k 7 3 t.c3))]] [(26, .agg #[.bool (t.top), .int .i64 (kp p k 1 0 t.c0), .int .i64 (kp p k 3 1 t.c1), .int .i64 (kp p k 5 2 t.c2), .int .i64 (kp p k 7 3 t.c3)])] [(w51.cell? ⟨w1.heap.size, 0, none⟩ = some (.bool (t.top))), (w51.cell? ⟨w1.heap.size, 1, none⟩ = some (.int .i64 (kp p k 1 0 t.c0))), (w51.cell? ⟨w1.heap.size, 2, none⟩ = some (.int .i64 (kp p k 3 1 t.c1))), (w51.cell? ⟨w1.heap.size, 3, none⟩ = some (.int .i64 (kp p k 5 2 t.c2))), (w51.cell? ⟨w1.heap.size, 4, none⟩ = some (.int .i64 (kp p k 7 3 t.c3)))] (by kernel_rfl) ⟨(bx56.cell (i := 0) rfl), (bx56.cell (i := 1) rfl), (bx56.cell (i := 2) rfl), (bx56.cell (i := 3) rfl), (bx56.cell (i := 4) rfl), trivial⟩ (fun act107 f106 => ?_)
        clear f103
        refine At.store f106 (t := 41) (b := w9.heap.size) (off := 0) (v := .agg #[.bool (t.top), .int .i64 (kp p k 1 0 t.c0), .int .i64 (kp p k 3 1 t.c1), .int .i64 (kp p k 5 2 t.c2), .int .i64 (kp p k 7 3 t.c3)]) (by kernel_rfl) bx57 (by kernel_rfl) (fun act112 w108 g109 bx110 f111 => ?_)
        clear f106
        replace bx110 : Bx w108 (w9.heap.size) [.bool (t.top), .int .i64 (kp p k 1 0 t.c0), .int .i64 (kp p k 3 1 t.c1), .int .i64 (kp p k 5 2 t.c2), .int .i64 (kp p k 7 3 t.c3)] 41 := bx110
        have szw108 := g109.size
        have e113 := e52.gr g109 (fun k h => by injection h; omega)
        clear e52
        have bx114 := bx55.gr g109 (fun h => by injection h; omega)
        clear bx55
        have bx115 := bx56.gr g109 (fun h => by injection h; omega)
        clear bx56
        clear bx57 g109
        refine At.done rfl ?_
        refine t_n ?_
        have f116 := f111.sub (r := [(6, .pointer (some ⟨w9.heap.size, 0, none⟩)), (5, .pointer (some ⟨w1.heap.size, 0, none⟩)), (3, .pointer (some ⟨w.heap.size, 0, none⟩)), (1, .int .i64 (p))]) ⟨rfl, rfl, rfl, rfl, trivial⟩
        clear f111
        refine wp_ret ?_
        refine t_r ?_
        refine ret_ f116 [[.bool (t.top), .int .i64 (kp p k 1 0 t.c0), .int .i64 (kp p k 3 1 t.c1), .int .i64 (kp p k 5 2 t.c2), .int .i64 (kp p k 7 3 t.c3)]] [.agg #[.bool (t.top), .int .i64 (kp p k 1 0 t.c0), .int .i64 (kp p k 3 1 t.c1), .int .i64 (kp p k 5 2 t.c2), .int .i64 (kp p k 7 3 t.c3)]] [(w108.cell? ⟨w9.heap.size, 0, none⟩ = some (.bool (t.top))), (w108.cell? ⟨w9.heap.size, 1, none⟩ = some (.int .i64 (kp p k 1 0 t.c0))), (w108.cell? ⟨w9.heap.size, 2, none⟩ = some (.int .i64 (kp p k 3 1 t.c1))), (w108.cell? ⟨w9.heap.size, 3, none⟩ = some (.int .i64 (kp p k 5 2 t.c2))), (w108.cell? ⟨w9.heap.size, 4, none⟩ = some (.int .i64 (kp p k 7 3 t.c3)))] (by kernel_rfl) ⟨(bx110.cell (i := 0) rfl), (bx110.cell (i := 1) rfl), (bx110.cell (i := 2) rfl), (bx110.cell (i := 3) rfl), (bx110.cell (i := 4) rfl), trivial⟩ ?_
        exact ⟨tup_ret (by (obtain rfl : k = 4 := by omega); exact up_even (by assumption) (by assumption) (by assumption)), e113⟩
      · have q117 := ne_of_beq_false h104
        refine wp_skip ?_
        refine t_n ?_
        have f118 := f103.sub (r := [(6, .pointer (some ⟨w9.heap.size, 0, none⟩)), (5, .pointer (some ⟨w1.heap.size, 0, none⟩)), (3, .pointer (some ⟨w.heap.size, 0, none⟩)), (1, .int .i64 (p))]) ⟨rfl, rfl, rfl, rfl, trivial⟩
        clear f103
        refine wp_seq ?_
        refine wp_seq ?_
        refine At.start ?_
        refine At.rd f118 1 [[]] [(27, .int .i64 (0))] [] (by kernel_rfl) trivial (fun act120 f119 => ?_)
        clear f118
        refine At.done rfl ?_
        refine t_n ?_
        refine wp_block ?_
        have f121 := f119.sub (r := [(27, .int .i64 (0)), (6, .pointer (some ⟨w9.heap.size, 0, none⟩)), (5, .pointer (some ⟨w1.heap.size, 0, none⟩)), (3, .pointer (some ⟨w.heap.size, 0, none⟩)), (1, .int .i64 (p))]) ⟨rfl, rfl, rfl, rfl, rfl, trivial⟩
        refine loop_g (fun (m_ : Nat) a_ w_ => ∃ (i : Int), m_ = (4 - i).toNat ∧ (Frm 55 a_ [(27, .int .i64 (i)), (6, .pointer (some ⟨w9.heap.size, 0, none⟩)), (5, .pointer (some ⟨w1.heap.size, 0, none⟩)), (3, .pointer (some ⟨w.heap.size, 0, none⟩)), (1, .int .i64 (p))]) ∧ (Ext w w_) ∧ (Bx w_ (w.heap.size) [.int .i64 (n0), .int .i64 (n1), .int .i64 (n2), .int .i64 (n3)] 38) ∧ (Bx w_ (w1.heap.size) [.bool (t.top), .int .i64 (k2 p i 1 0 (keepT p t).c0), .int .i64 (k2 p i 3 1 (keepT p t).c1), .int .i64 (k2 p i 5 2 (keepT p t).c2), .int .i64 (k2 p i 7 3 (keepT p t).c3)] 41) ∧ (Bx w_ (w9.heap.size) [.bool false, .int .i64 (0), .int .i64 (0), .int .i64 (0), .int .i64 (0)] 41) ∧ (0 ≤ i) ∧ (i ≤ 4) ∧ (full4 n0 n1 n2 n3 p i (keepT p t))) _ ⟨0, rfl, f121, e52, bx55, (bx56.as (by (obtain rfl : k = 4 := by omega); exact kp_k2 rfl)), bx57, (by omega), (by omega), full0⟩ ?_
        clear f121 f119
        clear bx55
        clear bx56
        clear bx57
        clear e52
        intro m_ act122 w123 ⟨i, hm125, f126, e124, bx127, bx128, bx129, i130, i131, hfu⟩
        have szw123 := e124.size
        have := bx127.lt
        have := bx128.lt
        have := bx129.lt
        refine wp_seq ?_
        refine At.start ?_
        refine At.rd f126 1 [[]] [(28, .bool (decide ((i : Int) < 4)))] [] (by kernel_rfl) trivial (fun act133 f132 => ?_)
        clear f126
        refine At.done rfl ?_
        refine t_n ?_
        refine wp_seq ?_
        refine cond_S f132 (t := decide ((i : Int) < 4)) rfl (fun h134 => ?_) (fun h134 => ?_)
        · have q135 := of_decide_eq_true h134
          refine wp_skip ?_
          refine t_n ?_
          refine wp_seq ?_
          refine wp_block ?_
          refine wp_seq ?_
          refine At.start ?_
          refine At.rd f132 2 [[], []] [(8, .int .i64 (i)), (29, .int .i64 (i))] [] (by kernel_rfl) trivial (fun act137 f136 => ?_)
          clear f132
          refine At.done rfl ?_
          refine t_n ?_
          refine wp_seq ?_
          refine wp_seq ?_
          refine At.start ?_
          refine At.rd f136 2 [[], []] [(31, .int .i64 (p)), (30, .int .i64 (i))] [] (by kernel_rfl) trivial (fun act139 f138 => ?_)
          clear f136
          refine At.call f138 43 #[.int .i64 (i), .int .i64 (p)] (some 32) (by kernel_rfl) (above_any (k := i) (p := p) (by omega) (by omega)) ?_
          rintro e_ w140 ⟨rfl, he⟩
          refine ⟨_, rfl, _, rfl, fun act141 f142 => ?_⟩
          clear f138
          have g143 := gr_ext he
          have szw140 := g143.size
          have e144 := e124.gr g143 no_row
          clear e124
          have bx145 := bx127.gr g143 (by simp)
          clear bx127
          have bx146 := bx128.gr g143 (by simp)
          clear bx128
          have bx147 := bx129.gr g143 (by simp)
          clear bx129
          clear g143 he
          refine At.rd f142 1 [[]] [(33, .bool (!(decide (2 * i + 1 ≥ p))))] [] (by kernel_rfl) trivial (fun act149 f148 => ?_)
          clear f142
          refine At.done rfl ?_
          refine t_n ?_
          refine cond_S f148 (t := !(decide (2 * i + 1 ≥ p))) rfl (fun h150 => ?_) (fun h150 => ?_)
          · have q151 : (decide (2 * i + 1 ≥ p)) = false := by simpa using h150
            have q152 := of_decide_eq_false q151
            refine wp_exit ?_
            refine t_e ?_
            refine b_e ?_
            refine t_n ?_
            refine At.start ?_
            refine At.rd f148 2 [[.as_ (.int .i64 (i + 1))], []] [(27, .int .i64 (i + 1)), (53, .int .i64 (i + 1))] [((.int .i64 (IntKind.i64.wrap (i + 1)) : Value) = .int .i64 (i + 1))] (by kernel_rfl) ⟨(w64 (by omega) (by omega)), trivial⟩ (fun act154 f153 => ?_)
            clear f148
            refine At.done rfl ?_
            refine t_n ?_
            have f155 := f153.sub (r := [(27, .int .i64 (i + 1)), (6, .pointer (some ⟨w9.heap.size, 0, none⟩)), (5, .pointer (some ⟨w1.heap.size, 0, none⟩)), (3, .pointer (some ⟨w.heap.size, 0, none⟩)), (1, .int .i64 (p))]) ⟨rfl, rfl, rfl, rfl, rfl, trivial⟩
            exact ⟨_, (by omega), (i + 1), rfl, f155, e144, bx145, (bx146.as (by first | exact (v5_eq rfl (k2_keep (by omega) rfl) (k2_keep (by omega) rfl) (k2_keep (by omega) rfl) (k2_keep (by omega) rfl)) | exact (v5_eq rfl (k2_zero (by omega) rfl) (k2_zero (by omega) rfl) (k2_zero (by omega) rfl) (k2_zero (by omega) rfl)))), bx147, (by omega), (by omega), (by first | exact full_keep hfu (by omega) (by omega) | exact full_next hfu (by omega) (by omega) (by assumption))⟩
          · have q156 : (decide (2 * i + 1 ≥ p)) = true := by simpa using h150
            have q157 := of_decide_eq_true q156
            refine wp_skip ?_
            refine t_n ?_
            refine wp_seq ?_
            refine wp_seq ?_
            refine drawn_ro f148 (by kernel_rfl) (by kernel_rfl) [[], [], [], [.ld (.int .i64 (gI [k2 p i 1 0 (keepT p t).c0, k2 p i 3 1 (keepT p t).c1, k2 p i 5 2 (keepT p t).c2, k2 p i 7 3 (keepT p t).c3] i))], [], [], [.ld (.int .i64 (gI [n0, n1, n2, n3] i))], []] [(41, .bool (decide ((gI [k2 p i 1 0 (keepT p t).c0, k2 p i 3 1 (keepT p t).c1, k2 p i 5 2 (keepT p t).c2, k2 p i 7 3 (keepT p t).c3] i : Int) < (gI [n0, n1, n2, n3] i)))), (40, .int .i64 (gI [n0, n1, n2, n3] i)), (39, .pointer (some ((⟨w.heap.size, 0, none⟩ : Addr).add ((i : Int).toNat * 1)))), (38, .int .i64 (i)), (37, .int .i64 (gI [k2 p i 1 0 (keepT p t).c0, k2 p i 3 1 (keepT p t).c1, k2 p i 5 2 (keepT p t).c2, k2 p i 7 3 (keepT p t).c3] i)), (36, .pointer (some ((⟨w1.heap.size, 1, none⟩ : Addr).add ((i : Int).toNat * 1)))), (35, .pointer (some ⟨w1.heap.size, 1, none⟩)), (34, .int .i64 (i))] [(0 ≤ (i : Int)), ((i : Int) < (4 : Nat)), (w140.cell? ((⟨w1.heap.size, 1, none⟩ : Addr).add ((i : Int).toNat * 1)) = some (.int .i64 (gI [k2 p i 1 0 (keepT p t).c0, k2 p i 3 1 (keepT p t).c1, k2 p i 5 2 (keepT p t).c2, k2 p i 7 3 (keepT p t).c3] i))), (0 ≤ (i : Int)), ((i : Int) < (4 : Nat)), (w140.cell? ((⟨w.heap.size, 0, none⟩ : Addr).add ((i : Int).toNat * 1)) = some (.int .i64 (gI [n0, n1, n2, n3] i)))] (by kernel_rfl) ⟨(by omega), (by omega), (Bx.arr (pre := [.bool (t.top)]) (l := [k2 p i 1 0 (keepT p t).c0, k2 p i 3 1 (keepT p t).c1, k2 p i 5 2 (keepT p t).c2, k2 p i 7 3 (keepT p t).c3]) (post := []) bx146 rfl i (by omega) (by simp only [List.length_cons, List.length_nil]; omega)), (by omega), (by omega), (Bx.arr (pre := []) (l := [n0, n1, n2, n3]) (post := []) bx145 rfl i (by omega) (by simp only [List.length_cons, List.length_nil]; omega)), trivial⟩ (fun act159 w160 hw161 f158 => ?_)
            clear f148
            have g162 := gr_drew hw161
            have szw160 := g162.size
            have e163 := e144.gr g162 no_row
            clear e144
            have bx164 := bx145.gr g162 (by simp)
            clear bx145
            have bx165 := bx146.gr g162 (by simp)
            clear bx146
            have bx166 := bx147.gr g162 (by simp)
            clear bx147
            clear g162 hw161
            refine t_n ?_
            refine cond_S f158 (t := decide ((gI [k2 p i 1 0 (keepT p t).c0, k2 p i 3 1 (keepT p t).c1, k2 p i 5 2 (keepT p t).c2, k2 p i 7 3 (keepT p t).c3] i : Int) < (gI [n0, n1, n2, n3] i))) rfl (fun h167 => ?_) (fun h167 => ?_)
            · have q168 := of_decide_eq_true h167
              refine wp_seq ?_
              have hko := keep_ok (p := p) ht
              have hlb := gI4_lb (B := -9223372036854775808) (i := i) (by omega) (by omega) (k2_lb (p := p) (k := i) (q := 1) (j := 0) (by omega) hko.1) (k2_lb (p := p) (k := i) (q := 3) (j := 1) (by omega) hko.2.1) (k2_lb (p := p) (k := i) (q := 5) (j := 2) (by omega) hko.2.2.1) (k2_lb (p := p) (k := i) (q := 7) (j := 3) (by omega) hko.2.2.2)
              have hub := gI4_ub (B := 140737488351232) (i := i) (by omega) (by omega) h0 h1 h2 h3
              refine At.start ?_
              refine At.rd f158 7 [[], [], [], [.ld (.int .i64 (gI [k2 p i 1 0 (keepT p t).c0, k2 p i 3 1 (keepT p t).c1, k2 p i 5 2 (keepT p t).c2, k2 p i 7 3 (keepT p t).c3] i))], [.as_ (.int .i64 ((gI [k2 p i 1 0 (keepT p t).c0, k2 p i 3 1 (keepT p t).c1, k2 p i 5 2 (keepT p t).c2, k2 p i 7 3 (keepT p t).c3] i) + 1))], [], []] [(48, .pointer (some ((⟨w1.heap.size, 1, none⟩ : Addr).add ((i : Int).toNat * 1)))), (47, .pointer (some ⟨w1.heap.size, 1, none⟩)), (46, .int .i64 ((gI [k2 p i 1 0 (keepT p t).c0, k2 p i 3 1 (keepT p t).c1, k2 p i 5 2 (keepT p t).c2, k2 p i 7 3 (keepT p t).c3] i) + 1)), (45, .int .i64 (gI [k2 p i 1 0 (keepT p t).c0, k2 p i 3 1 (keepT p t).c1, k2 p i 5 2 (keepT p t).c2, k2 p i 7 3 (keepT p t).c3] i)), (44, .pointer (some ((⟨w1.heap.size, 1, none⟩ : Addr).add ((i : Int).toNat * 1)))), (43, .pointer (some ⟨w1.heap.size, 1, none⟩)), (42, .int .i64 (i))] [(0 ≤ (i : Int)), ((i : Int) < (4 : Nat)), (w160.cell? ((⟨w1.heap.size, 1, none⟩ : Addr).add ((i : Int).toNat * 1)) = some (.int .i64 (gI [k2 p i 1 0 (keepT p t).c0, k2 p i 3 1 (keepT p t).c1, k2 p i 5 2 (keepT p t).c2, k2 p i 7 3 (keepT p t).c3] i))), ((.int .i64 (IntKind.i64.wrap ((gI [k2 p i 1 0 (keepT p t).c0, k2 p i 3 1 (keepT p t).c1, k2 p i 5 2 (keepT p t).c2, k2 p i 7 3 (keepT p t).c3] i) + 1)) : Value) = .int .i64 ((gI [k2 p i 1 0 (keepT p t).c0, k2 p i 3 1 (keepT p t).c1, k2 p i 5 2 (keepT p t).c2, k2 p i 7 3 (keepT p t).c3] i) + 1)), (0 ≤ (i : Int)), ((i : Int) < (4 : Nat))] (by kernel_rfl) ⟨(by omega), (by omega), (Bx.arr (pre := [.bool (t.top)]) (l := [k2 p i 1 0 (keepT p t).c0, k2 p i 3 1 (keepT p t).c1, k2 p i 5 2 (keepT p t).c2, k2 p i 7 3 (keepT p t).c3]) (post := []) bx165 rfl i (by omega) (by simp only [List.length_cons, List.length_nil]; omega)), (w64 (by omega) (by omega)), (by omega), (by omega), trivial⟩ (fun act170 f169 => ?_)
              clear f158
              refine At.act f169 (storeArr (pre := [.bool (t.top)]) (l := [k2 p i 1 0 (keepT p t).c0, k2 p i 3 1 (keepT p t).c1, k2 p i 5 2 (keepT p t).c2, k2 p i 7 3 (keepT p t).c3]) (post := []) (t := 3) (v := (gI [k2 p i 1 0 (keepT p t).c0, k2 p i 3 1 (keepT p t).c1, k2 p i 5 2 (keepT p t).c2, k2 p i 7 3 (keepT p t).c3] i) + 1) (i := i) (by kernel_rfl) (by kernel_rfl) bx165 rfl rfl (by omega) (by simp only [List.length_cons, List.length_nil]; omega)) ?_
              rintro d_ v_ w171 ⟨rfl, g172, bx173⟩
              refine ⟨_, rfl, fun act175 f174 => ?_⟩
              clear f169
              replace bx173 : Bx w171 (w1.heap.size) [.bool (t.top), .int .i64 (if i = 0 then (gI [k2 p i 1 0 (keepT p t).c0, k2 p i 3 1 (keepT p t).c1, k2 p i 5 2 (keepT p t).c2, k2 p i 7 3 (keepT p t).c3] i) + 1 else k2 p i 1 0 (keepT p t).c0), .int .i64 (if i = 1 then (gI [k2 p i 1 0 (keepT p t).c0, k2 p i 3 1 (keepT p t).c1, k2 p i 5 2 (keepT p t).c2, k2 p i 7 3 (keepT p t).c3] i) + 1 else k2 p i 3 1 (keepT p t).c1), .int .i64 (if i = 2 then (gI [k2 p i 1 0 (keepT p t).c0, k2 p i 3 1 (keepT p t).c1, k2 p i 5 2 (keepT p t).c2, k2 p i 7 3 (keepT p t).c3] i) + 1 else k2 p i 5 2 (keepT p t).c2), .int .i64 (if i = 3 then (gI [k2 p i 1 0 (keepT p t).c0, k2 p i 3 1 (keepT p t).c1, k2 p i 5 2 (keepT p t).c2, k2 p i 7 3 (keepT p t).c3] i) + 1 else k2 p i 7 3 (keepT p t).c3)] 41 := bx173.as (by rw [set4 i (by omega) (by omega)]; rfl)
              have szw171 := g172.size
              have e176 := e163.gr g172 (fun k h => by injection h; omega)
              clear e163
              have bx177 := bx164.gr g172 (fun h => by injection h; omega)
              clear bx164
              have bx178 := bx166.gr g172 (fun h => by injection h; omega)
              clear bx166
              clear bx165 g172
              refine At.done rfl ?_
              refine t_n ?_
              refine wp_seq ?_
              refine At.start ?_
              refine At.rd f174 1 [[.ld (.bool (t.top)), .ld (.int .i64 (if i = 0 then (gI [k2 p i 1 0 (keepT p t).c0, k2 p i 3 1 (keepT p t).c1, k2 p i 5 2 (keepT p t).c2, k2 p i 7 3 (keepT p t).c3] i) + 1 else k2 p i 1 0 (keepT p t).c0)), .ld (.int .i64 (if i = 1 then (gI [k2 p i 1 0 (keepT p t).c0, k2 p i 3 1 (keepT p t).c1, k2 p i 5 2 (keepT p t).c2, k2 p i 7 3 (keepT p t).c3] i) + 1 else k2 p i 3 1 (keepT p t).c1)), .ld (.int .i64 (if i = 2 then (gI [k2 p i 1 0 (keepT p t).c0, k2 p i 3 1 (keepT p t).c1, k2 p i 5 2 (keepT p t).c2, k2 p i 7 3 (keepT p t).c3] i) + 1 else k2 p i 5 2 (keepT p t).c2)), .ld (.int .i64 (if i = 3 then (gI [k2 p i 1 0 (keepT p t).c0, k2 p i 3 1 (keepT p t).c1, k2 p i 5 2 (keepT p t).c2, k2 p i 7 3 (keepT p t).c3] i) + 1 else k2 p i 7 3 (keepT p t).c3))]] [(49, .agg #[.bool (t.top), .int .i64 (if i = 0 then (gI [k2 p i 1 0 (keepT p t).c0, k2 p i 3 1 (keepT p t).c1, k2 p i 5 2 (keepT p t).c2, k2 p i 7 3 (keepT p t).c3] i) + 1 else k2 p i 1 0 (keepT p t).c0), .int .i64 (if i = 1 then (gI [k2 p i 1 0 (keepT p t).c0, k2 p i 3 1 (keepT p t).c1, k2 p i 5 2 (keepT p t).c2, k2 p i 7 3 (keepT p t).c3] i) + 1 else k2 p i 3 1 (keepT p t).c1), .int .i64 (if i = 2 then (gI [k2 p i 1 0 (keepT p t).c0, k2 p i 3 1 (keepT p t).c1, k2 p i 5 2 (keepT p t).c2, k2 p i 7 3 (keepT p t).c3] i) + 1 else k2 p i 5 2 (keepT p t).c2), .int .i64 (if i = 3 then (gI [k2 p i 1 0 (keepT p t).c0, k2 p i 3 1 (keepT p t).c1, k2 p i 5 2 (keepT p t).c2, k2 p i 7 3 (keepT p t).c3] i) + 1 else k2 p i 7 3 (keepT p t).c3)])] [(w171.cell? ⟨w1.heap.size, 0, none⟩ = some (.bool (t.top))), (w171.cell? ⟨w1.heap.size, 1, none⟩ = some (.int .i64 (if i = 0 then (gI [k2 p i 1 0 (keepT p t).c0, k2 p i 3 1 (keepT p t).c1, k2 p i 5 2 (keepT p t).c2, k2 p i 7 3 (keepT p t).c3] i) + 1 else k2 p i 1 0 (keepT p t).c0))), (w171.cell? ⟨w1.heap.size, 2, none⟩ = some (.int .i64 (if i = 1 then (gI [k2 p i 1 0 (keepT p t).c0, k2 p i 3 1 (keepT p t).c1, k2 p i 5 2 (keepT p t).c2, k2 p i 7 3 (keepT p t).c3] i) + 1 else k2 p i 3 1 (keepT p t).c1))), (w171.cell? ⟨w1.heap.size, 3, none⟩ = some (.int .i64 (if i = 2 then (gI [k2 p i 1 0 (keepT p t).c0, k2 p i 3 1 (keepT p t).c1, k2 p i 5 2 (keepT p t).c2, k2 p i 7 3 (keepT p t).c3] i) + 1 else k2 p i 5 2 (keepT p t).c2))), (w171.cell? ⟨w1.heap.size, 4, none⟩ = some (.int .i64 (if i = 3 then (gI [k2 p i 1 0 (keepT p t).c0, k2 p i 3 1 (keepT p t).c1, k2 p i 5 2 (keepT p t).c2, k2 p i 7 3 (keepT p t).c3] i) + 1 else k2 p i 7 3 (keepT p t).c3)))] (by kernel_rfl) ⟨(bx173.cell (i := 0) rfl), (bx173.cell (i := 1) rfl), (bx173.cell (i := 2) rfl), (bx173.cell (i := 3) rfl), (bx173.cell (i := 4) rfl), trivial⟩ (fun act180 f179 => ?_)
              clear f174
              refine At.store f179 (t := 41) (b := w9.heap.size) (off := 0) (v := .agg #[.bool (t.top), .int .i64 (if i = 0 then (gI [k2 p i 1 0 (keepT p t).c0, k2 p i 3 1 (keepT p t).c1, k2 p i 5 2 (keepT p t).c2, k2 p i 7 3 (keepT p t).c3] i) + 1 else k2 p i 1 0 (keepT p t).c0), .int .i64 (if i = 1 then (gI [k2 p i 1 0 (keepT p t).c0, k2 p i 3 1 (keepT p t).c1, k2 p i 5 2 (keepT p t).c2, k2 p i 7 3 (keepT p t).c3] i) + 1 else k2 p i 3 1 (keepT p t).c1), .int .i64 (if i = 2 then (gI [k2 p i 1 0 (keepT p t).c0, k2 p i 3 1 (keepT p t).c1, k2 p i 5 2 (keepT p t).c2, k2 p i 7 3 (keepT p t).c3] i) + 1 else k2 p i 5 2 (keepT p t).c2), .int .i64 (if i = 3 then (gI [k2 p i 1 0 (keepT p t).c0, k2 p i 3 1 (keepT p t).c1, k2 p i 5 2 (keepT p t).c2, k2 p i 7 3 (keepT p t).c3] i) + 1 else k2 p i 7 3 (keepT p t).c3)]) (by kernel_rfl) bx178 (by kernel_rfl) (fun act185 w181 g182 bx183 f184 => ?_)
              clear f179
              replace bx183 : Bx w181 (w9.heap.size) [.bool (t.top), .int .i64 (if i = 0 then (gI [k2 p i 1 0 (keepT p t).c0, k2 p i 3 1 (keepT p t).c1, k2 p i 5 2 (keepT p t).c2, k2 p i 7 3 (keepT p t).c3] i) + 1 else k2 p i 1 0 (keepT p t).c0), .int .i64 (if i = 1 then (gI [k2 p i 1 0 (keepT p t).c0, k2 p i 3 1 (keepT p t).c1, k2 p i 5 2 (keepT p t).c2, k2 p i 7 3 (keepT p t).c3] i) + 1 else k2 p i 3 1 (keepT p t).c1), .int .i64 (if i = 2 then (gI [k2 p i 1 0 (keepT p t).c0, k2 p i 3 1 (keepT p t).c1, k2 p i 5 2 (keepT p t).c2, k2 p i 7 3 (keepT p t).c3] i) + 1 else k2 p i 5 2 (keepT p t).c2), .int .i64 (if i = 3 then (gI [k2 p i 1 0 (keepT p t).c0, k2 p i 3 1 (keepT p t).c1, k2 p i 5 2 (keepT p t).c2, k2 p i 7 3 (keepT p t).c3] i) + 1 else k2 p i 7 3 (keepT p t).c3)] 41 := bx183
              have szw181 := g182.size
              have e186 := e176.gr g182 (fun k h => by injection h; omega)
              clear e176
              have bx187 := bx177.gr g182 (fun h => by injection h; omega)
              clear bx177
              have bx188 := bx173.gr g182 (fun h => by injection h; omega)
              clear bx173
              clear bx178 g182
              refine At.done rfl ?_
              refine t_n ?_
              refine wp_ret ?_
              refine t_r ?_
              refine b_r ?_
              refine t_r ?_
              refine t_r ?_
              refine b_r ?_
              refine t_r ?_
              refine ret_ f184 [[.bool (t.top), .int .i64 (if i = 0 then (gI [k2 p i 1 0 (keepT p t).c0, k2 p i 3 1 (keepT p t).c1, k2 p i 5 2 (keepT p t).c2, k2 p i 7 3 (keepT p t).c3] i) + 1 else k2 p i 1 0 (keepT p t).c0), .int .i64 (if i = 1 then (gI [k2 p i 1 0 (keepT p t).c0, k2 p i 3 1 (keepT p t).c1, k2 p i 5 2 (keepT p t).c2, k2 p i 7 3 (keepT p t).c3] i) + 1 else k2 p i 3 1 (keepT p t).c1), .int .i64 (if i = 2 then (gI [k2 p i 1 0 (keepT p t).c0, k2 p i 3 1 (keepT p t).c1, k2 p i 5 2 (keepT p t).c2, k2 p i 7 3 (keepT p t).c3] i) + 1 else k2 p i 5 2 (keepT p t).c2), .int .i64 (if i = 3 then (gI [k2 p i 1 0 (keepT p t).c0, k2 p i 3 1 (keepT p t).c1, k2 p i 5 2 (keepT p t).c2, k2 p i 7 3 (keepT p t).c3] i) + 1 else k2 p i 7 3 (keepT p t).c3)]] [.agg #[.bool (t.top), .int .i64 (if i = 0 then (gI [k2 p i 1 0 (keepT p t).c0, k2 p i 3 1 (keepT p t).c1, k2 p i 5 2 (keepT p t).c2, k2 p i 7 3 (keepT p t).c3] i) + 1 else k2 p i 1 0 (keepT p t).c0), .int .i64 (if i = 1 then (gI [k2 p i 1 0 (keepT p t).c0, k2 p i 3 1 (keepT p t).c1, k2 p i 5 2 (keepT p t).c2, k2 p i 7 3 (keepT p t).c3] i) + 1 else k2 p i 3 1 (keepT p t).c1), .int .i64 (if i = 2 then (gI [k2 p i 1 0 (keepT p t).c0, k2 p i 3 1 (keepT p t).c1, k2 p i 5 2 (keepT p t).c2, k2 p i 7 3 (keepT p t).c3] i) + 1 else k2 p i 5 2 (keepT p t).c2), .int .i64 (if i = 3 then (gI [k2 p i 1 0 (keepT p t).c0, k2 p i 3 1 (keepT p t).c1, k2 p i 5 2 (keepT p t).c2, k2 p i 7 3 (keepT p t).c3] i) + 1 else k2 p i 7 3 (keepT p t).c3)]] [(w181.cell? ⟨w9.heap.size, 0, none⟩ = some (.bool (t.top))), (w181.cell? ⟨w9.heap.size, 1, none⟩ = some (.int .i64 (if i = 0 then (gI [k2 p i 1 0 (keepT p t).c0, k2 p i 3 1 (keepT p t).c1, k2 p i 5 2 (keepT p t).c2, k2 p i 7 3 (keepT p t).c3] i) + 1 else k2 p i 1 0 (keepT p t).c0))), (w181.cell? ⟨w9.heap.size, 2, none⟩ = some (.int .i64 (if i = 1 then (gI [k2 p i 1 0 (keepT p t).c0, k2 p i 3 1 (keepT p t).c1, k2 p i 5 2 (keepT p t).c2, k2 p i 7 3 (keepT p t).c3] i) + 1 else k2 p i 3 1 (keepT p t).c1))), (w181.cell? ⟨w9.heap.size, 3, none⟩ = some (.int .i64 (if i = 2 then (gI [k2 p i 1 0 (keepT p t).c0, k2 p i 3 1 (keepT p t).c1, k2 p i 5 2 (keepT p t).c2, k2 p i 7 3 (keepT p t).c3] i) + 1 else k2 p i 5 2 (keepT p t).c2))), (w181.cell? ⟨w9.heap.size, 4, none⟩ = some (.int .i64 (if i = 3 then (gI [k2 p i 1 0 (keepT p t).c0, k2 p i 3 1 (keepT p t).c1, k2 p i 5 2 (keepT p t).c2, k2 p i 7 3 (keepT p t).c3] i) + 1 else k2 p i 7 3 (keepT p t).c3)))] (by kernel_rfl) ⟨(bx183.cell (i := 0) rfl), (bx183.cell (i := 1) rfl), (bx183.cell (i := 2) rfl), (bx183.cell (i := 3) rfl), (bx183.cell (i := 4) rfl), trivial⟩ ?_
              exact ⟨tup_ret (up_odd (by assumption) (by assumption) (inc_at hfu (by omega) (by omega) (by omega) (by omega) (by first | rfl | assumption) rfl)), e186⟩
            · have q189 := of_decide_eq_false h167
              refine wp_skip ?_
              refine t_n ?_
              refine At.start ?_
              refine At.rd f158 3 [[], [], []] [(52, .pointer (some ((⟨w1.heap.size, 1, none⟩ : Addr).add ((i : Int).toNat * 1)))), (51, .pointer (some ⟨w1.heap.size, 1, none⟩)), (50, .int .i64 (i))] [(0 ≤ (i : Int)), ((i : Int) < (4 : Nat))] (by kernel_rfl) ⟨(by omega), (by omega), trivial⟩ (fun act191 f190 => ?_)
              clear f158
              refine At.act f190 (storeArr (pre := [.bool (t.top)]) (l := [k2 p i 1 0 (keepT p t).c0, k2 p i 3 1 (keepT p t).c1, k2 p i 5 2 (keepT p t).c2, k2 p i 7 3 (keepT p t).c3]) (post := []) (t := 3) (v := 0) (i := i) (by kernel_rfl) (by kernel_rfl) bx165 rfl rfl (by omega) (by simp only [List.length_cons, List.length_nil]; omega)) ?_
              rintro d_ v_ w192 ⟨rfl, g193, bx194⟩
              refine ⟨_, rfl, fun act196 f195 => ?_⟩
              clear f190
              replace bx194 : Bx w192 (w1.heap.size) [.bool (t.top), .int .i64 (if i = 0 then 0 else k2 p i 1 0 (keepT p t).c0), .int .i64 (if i = 1 then 0 else k2 p i 3 1 (keepT p t).c1), .int .i64 (if i = 2 then 0 else k2 p i 5 2 (keepT p t).c2), .int .i64 (if i = 3 then 0 else k2 p i 7 3 (keepT p t).c3)] 41 := bx194.as (by rw [set4 i (by omega) (by omega)]; rfl)
              have szw192 := g193.size
              have e197 := e163.gr g193 (fun k h => by injection h; omega)
              clear e163
              have bx198 := bx164.gr g193 (fun h => by injection h; omega)
              clear bx164
              have bx199 := bx166.gr g193 (fun h => by injection h; omega)
              clear bx166
              clear bx165 g193
              refine At.done rfl ?_
              refine b_n ?_
              refine t_n ?_
              refine At.start ?_
              refine At.rd f195 2 [[.as_ (.int .i64 (i + 1))], []] [(27, .int .i64 (i + 1)), (53, .int .i64 (i + 1))] [((.int .i64 (IntKind.i64.wrap (i + 1)) : Value) = .int .i64 (i + 1))] (by kernel_rfl) ⟨(w64 (by omega) (by omega)), trivial⟩ (fun act201 f200 => ?_)
              clear f195
              refine At.done rfl ?_
              refine t_n ?_
              have f202 := f200.sub (r := [(27, .int .i64 (i + 1)), (6, .pointer (some ⟨w9.heap.size, 0, none⟩)), (5, .pointer (some ⟨w1.heap.size, 0, none⟩)), (3, .pointer (some ⟨w.heap.size, 0, none⟩)), (1, .int .i64 (p))]) ⟨rfl, rfl, rfl, rfl, rfl, trivial⟩
              exact ⟨_, (by omega), (i + 1), rfl, f202, e197, bx198, (bx194.as (by first | exact (v5_eq rfl (k2_keep (by omega) rfl) (k2_keep (by omega) rfl) (k2_keep (by omega) rfl) (k2_keep (by omega) rfl)) | exact (v5_eq rfl (k2_zero (by omega) rfl) (k2_zero (by omega) rfl) (k2_zero (by omega) rfl) (k2_zero (by omega) rfl)))), bx199, (by omega), (by omega), (by first | exact full_keep hfu (by omega) (by omega) | exact full_next hfu (by omega) (by omega) (by assumption))⟩
        · have q203 := of_decide_eq_false h134
          refine wp_exit ?_
          refine t_e ?_
          refine t_e ?_
          refine b_e ?_
          refine t_n ?_
          have f204 := f132.sub (r := [(6, .pointer (some ⟨w9.heap.size, 0, none⟩))]) ⟨rfl, trivial⟩
          clear f132
          refine wp_seq ?_
          refine At.start ?_
          refine At.rd f204 1 [[]] [(54, .agg #[.bool true, .int .i64 (0), .int .i64 (0), .int .i64 (0), .int .i64 (0)])] [] (by kernel_rfl) trivial (fun act206 f205 => ?_)
          clear f204
          refine At.store f205 (t := 41) (b := w9.heap.size) (off := 0) (v := .agg #[.bool true, .int .i64 (0), .int .i64 (0), .int .i64 (0), .int .i64 (0)]) (by kernel_rfl) bx129 (by kernel_rfl) (fun act211 w207 g208 bx209 f210 => ?_)
          clear f205
          replace bx209 : Bx w207 (w9.heap.size) [.bool true, .int .i64 (0), .int .i64 (0), .int .i64 (0), .int .i64 (0)] 41 := bx209
          have szw207 := g208.size
          have e212 := e124.gr g208 (fun k h => by injection h; omega)
          clear e124
          have bx213 := bx127.gr g208 (fun h => by injection h; omega)
          clear bx127
          have bx214 := bx128.gr g208 (fun h => by injection h; omega)
          clear bx128
          clear bx129 g208
          refine At.done rfl ?_
          refine t_n ?_
          have f215 := f210.sub (r := [(6, .pointer (some ⟨w9.heap.size, 0, none⟩))]) ⟨rfl, trivial⟩
          clear f210
          refine wp_ret ?_
          refine ret_ f215 [[.bool true, .int .i64 (0), .int .i64 (0), .int .i64 (0), .int .i64 (0)]] [.agg #[.bool true, .int .i64 (0), .int .i64 (0), .int .i64 (0), .int .i64 (0)]] [(w207.cell? ⟨w9.heap.size, 0, none⟩ = some (.bool true)), (w207.cell? ⟨w9.heap.size, 1, none⟩ = some (.int .i64 (0))), (w207.cell? ⟨w9.heap.size, 2, none⟩ = some (.int .i64 (0))), (w207.cell? ⟨w9.heap.size, 3, none⟩ = some (.int .i64 (0))), (w207.cell? ⟨w9.heap.size, 4, none⟩ = some (.int .i64 (0)))] (by kernel_rfl) ⟨(bx209.cell (i := 0) rfl), (bx209.cell (i := 1) rfl), (bx209.cell (i := 2) rfl), (bx209.cell (i := 3) rfl), (bx209.cell (i := 4) rfl), trivial⟩ ?_
          exact ⟨tup_ret (by first | exact up_top (by assumption) | exact up_odd (by assumption) (by assumption) (inc_no hfu (by omega))), e212⟩

end Go.Proofs.Ytklbpajmoklheaa
