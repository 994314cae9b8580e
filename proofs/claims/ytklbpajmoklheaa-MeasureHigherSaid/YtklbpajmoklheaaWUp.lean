/-
  A walk of a Go function, printed by a program of this repo. Conditions: what the theorems name.
-/
import Derived.Test.YtklbpajmoklheaaPureTup
import Derived.Test.YtklbpajmoklheaaWTup
import Derived.Test.YtklbpajmoklheaaWCounts
set_option linter.unusedVariables false
set_option linter.unusedSimpArgs false
namespace Go.Proofs.Ytklbpajmoklheaa
open Go Go.RowKit

set_option maxHeartbeats 4000000 in
theorem up_any {n0 n1 n2 n3 p : Int} {t : Tup} {w : World} (h0 : n0 ≤ 140737488351232) (h1 : n1 ≤ 140737488351232) (h2 : n2 ≤ 140737488351232) (h3 : n3 ≤ 140737488351232) (ht : okT t) :
    Calls Try.prog 55 #[.agg #[.int .i64 (n0), .int .i64 (n1), .int .i64 (n2), .int .i64 (n3)], .int .i64 (p), tupV t] w fun e w' => e = .returned (.agg #[.bool (upT n0 n1 n2 n3 p t).top, .int .i64 (upT n0 n1 n2 n3 p t).c0, .int .i64 (upT n0 n1 n2 n3 p t).c1, .int .i64 (upT n0 n1 n2 n3 p t).c2, .int .i64 (upT n0 n1 n2 n3 p t).c3]) ∧ Ext w w' := by
 refine enter_ (args := [.agg #[.int .i64 (n0), .int .i64 (n1), .int .i64 (n2), .int .i64 (n3)], .int .i64 (p), tupV t]) Try.func55 rfl Try.ntmps55 (Nat.le_of_ble_eq_true rfl) (fun act0 f0 => ?_)
 have e0 := Ext.refl w
 refine wp_seq ?_
 refine At.start ?_
 refine At.seq f0 1 [[]] [(3, .pointer (some ⟨w.heap.size, 0, none⟩))] (w.alloc (.cells #[.int .i64 (n0), .int .i64 (n1), .int .i64 (n2), .int .i64 (n3)] 38 (0, 0))) [] (by kernel_rfl) trivial (fun act4 w1 hw2 f3 => ?_)
 clear f0
 have g5 := gr_alloc hw2
 have szw1 := g5.size
 have e7 := e0.gr g5 no_row
 clear e0
 have bx8 : Bx w1 (w.heap.size) [.int .i64 (n0), .int .i64 (n1), .int .i64 (n2), .int .i64 (n3)] 38 := Bx.new hw2
 have := bx8.lt
 clear g5 hw2
 refine At.seq f3 1 [[]] [(5, .pointer (some ⟨w1.heap.size, 0, none⟩))] (w1.alloc (.cells ((tupC t)).toArray 41 (0, 0))) [] (by kernel_rfl) trivial (fun act12 w9 hw10 f11 => ?_)
 clear f3
 have g13 := gr_alloc hw10
 have szw9 := g13.size
 have e15 := e7.gr g13 no_row
 clear e7
 have bx16 := bx8.gr g13 (by simp)
 clear bx8
 have bx17 : Bx w9 (w1.heap.size) (tupC t) 41 := Bx.new hw10
 have := bx17.lt
 clear g13 hw10
 refine At.seq f11 1 [[]] [(6, .pointer (some ⟨w9.heap.size, 0, none⟩))] (w9.alloc (.cells #[.bool false, .int .i64 (0), .int .i64 (0), .int .i64 (0), .int .i64 (0)] 41 (0, 0))) [] (by kernel_rfl) trivial (fun act21 w18 hw19 f20 => ?_)
 clear f11
 have g22 := gr_alloc hw19
 have szw18 := g22.size
 have e24 := e15.gr g22 no_row
 clear e15
 have bx25 := bx16.gr g22 (by simp)
 clear bx16
 have bx26 := bx17.gr g22 (by simp)
 clear bx17
 have bx27 : Bx w18 (w9.heap.size) [.bool false, .int .i64 (0), .int .i64 (0), .int .i64 (0), .int .i64 (0)] 41 := Bx.new hw19
 have := bx27.lt
 clear g22 hw19
 refine At.done rfl ?_
 refine t_n ?_
 have f28 := f20.sub (r := [(6, .pointer (some ⟨w9.heap.size, 0, none⟩)), (5, .pointer (some ⟨w1.heap.size, 0, none⟩)), (3, .pointer (some ⟨w.heap.size, 0, none⟩)), (1, .int .i64 (p))]) ⟨rfl, rfl, rfl, rfl, trivial⟩
 clear f20
 refine wp_seq ?_
 refine wp_seq ?_
 refine At.start ?_
 refine At.rd f28 2 [[], [.ld (.bool (t.top))]] [(10, .bool (t.top)), (9, .pointer (some ⟨w1.heap.size, 0, none⟩))] [(w18.cell? ⟨w1.heap.size, 0, none⟩ = some (.bool (t.top)))] (by kernel_rfl) ⟨(bx26.cell (i := 0) rfl), trivial⟩ (fun act30 f29 => ?_)
 clear f28
 refine At.done rfl ?_
 refine t_n ?_
 have f31 := f29.sub (r := [(10, .bool (t.top)), (6, .pointer (some ⟨w9.heap.size, 0, none⟩)), (5, .pointer (some ⟨w1.heap.size, 0, none⟩)), (3, .pointer (some ⟨w.heap.size, 0, none⟩)), (1, .int .i64 (p))]) ⟨rfl, rfl, rfl, rfl, rfl, trivial⟩
 clear f29
 refine cond_S f31 (t := t.top) rfl (fun h32 => ?_) (fun h32 => ?_)
 ·refine wp_seq ?_
  refine At.start ?_
  refine At.rd f31 1 [[]] [(11, .agg #[.bool true, .int .i64 (0), .int .i64 (0), .int .i64 (0), .int .i64 (0)])] [] (by kernel_rfl) trivial (fun act35 f34 => ?_)
  clear f31
  refine At.store f34 (t := 41) (b := w9.heap.size) (off := 0) (v := .agg #[.bool true, .int .i64 (0), .int .i64 (0), .int .i64 (0), .int .i64 (0)]) (by kernel_rfl) bx27 (by kernel_rfl) (fun act40 w36 g37 bx38 f39 => ?_)
  clear f34
  replace bx38 : Bx w36 (w9.heap.size) [.bool true, .int .i64 (0), .int .i64 (0), .int .i64 (0), .int .i64 (0)] 41 := bx38
  have szw36 := g37.size
  have e41 := e24.gr g37 (fun k h => by injection h; omega)
  clear e24
  have bx42 := bx25.gr g37 (fun h => by injection h; omega)
  clear bx25
  have bx43 := bx26.gr g37 (fun h => by injection h; omega)
  clear bx26
  clear bx27 g37
  refine At.done rfl ?_
  refine t_n ?_
  have f44 := f39.sub (r := [(6, .pointer (some ⟨w9.heap.size, 0, none⟩))]) ⟨rfl, trivial⟩
  clear f39
  refine wp_ret ?_
  refine t_r ?_
  refine ret_ f44 [[.bool true, .int .i64 (0), .int .i64 (0), .int .i64 (0), .int .i64 (0)]] [.agg #[.bool true, .int .i64 (0), .int .i64 (0), .int .i64 (0), .int .i64 (0)]] [(w36.cell? ⟨w9.heap.size, 0, none⟩ = some (.bool true)), (w36.cell? ⟨w9.heap.size, 1, none⟩ = some (.int .i64 (0))), (w36.cell? ⟨w9.heap.size, 2, none⟩ = some (.int .i64 (0))), (w36.cell? ⟨w9.heap.size, 3, none⟩ = some (.int .i64 (0))), (w36.cell? ⟨w9.heap.size, 4, none⟩ = some (.int .i64 (0)))] (by kernel_rfl) ⟨(bx38.cell (i := 0) rfl), (bx38.cell (i := 1) rfl), (bx38.cell (i := 2) rfl), (bx38.cell (i := 3) rfl), (bx38.cell (i := 4) rfl), trivial⟩ ?_
  exact ⟨tup_ret (by first | exact up_top (by assumption) | exact up_odd (by assumption) (by assumption) (inc_no hfu (by omega))), e41⟩
 ·refine wp_skip ?_
  refine t_n ?_
  have f46 := f31.sub (r := [(6, .pointer (some ⟨w9.heap.size, 0, none⟩)), (5, .pointer (some ⟨w1.heap.size, 0, none⟩)), (3, .pointer (some ⟨w.heap.size, 0, none⟩)), (1, .int .i64 (p))]) ⟨rfl, rfl, rfl, rfl, trivial⟩
  clear f31
  refine wp_seq ?_
  refine wp_seq ?_
  refine At.start ?_
  refine At.rd f46 1 [[]] [(12, .int .i64 (0))] [] (by kernel_rfl) trivial (fun act48 f47 => ?_)
  clear f46
  refine At.done rfl ?_
  refine t_n ?_
  refine wp_block ?_
  have f49 := f47.sub (r := [(12, .int .i64 (0)), (6, .pointer (some ⟨w9.heap.size, 0, none⟩)), (5, .pointer (some ⟨w1.heap.size, 0, none⟩)), (3, .pointer (some ⟨w.heap.size, 0, none⟩)), (1, .int .i64 (p))]) ⟨rfl, rfl, rfl, rfl, rfl, trivial⟩
  refine loop_g (fun (m_ : Nat) a_ w_ => ∃ (k : Int), m_ = (4 - k).toNat ∧ (Frm 55 a_ [(12, .int .i64 (k)), (6, .pointer (some ⟨w9.heap.size, 0, none⟩)), (5, .pointer (some ⟨w1.heap.size, 0, none⟩)), (3, .pointer (some ⟨w.heap.size, 0, none⟩)), (1, .int .i64 (p))]) ∧ (Ext w w_) ∧ (Bx w_ (w.heap.size) [.int .i64 (n0), .int .i64 (n1), .int .i64 (n2), .int .i64 (n3)] 38) ∧ (Bx w_ (w1.heap.size) [.bool (t.top), .int .i64 (kp p k 1 0 t.c0), .int .i64 (kp p k 3 1 t.c1), .int .i64 (kp p k 5 2 t.c2), .int .i64 (kp p k 7 3 t.c3)] 41) ∧ (Bx w_ (w9.heap.size) [.bool false, .int .i64 (0), .int .i64 (0), .int .i64 (0), .int .i64 (0)] 41) ∧ (0 ≤ k) ∧ (k ≤ 4)) _ ⟨0, rfl, f49, e24, bx25, (bx26.as (v5_eq rfl (kp0 (by omega)) (kp0 (by omega)) (kp0 (by omega)) (kp0 (by omega)))), bx27, (by omega), (by omega)⟩ ?_
  clear f49 f47
  clear bx25
  clear bx26
  clear bx27
  clear e24
  intro m_ act50 w51 ⟨k, hm53, f54, e52, bx55, bx56, bx57, i58, i59⟩
  have szw51 := e52.size
  have := bx55.lt
  have := bx56.lt
  have := bx57.lt
  refine wp_seq ?_
  refine At.start ?_
  refine At.rd f54 1 [[]] [(13, .bool (decide ((k : Int) < 4)))] [] (by kernel_rfl) trivial (fun act61 f60 => ?_)
  clear f54
  refine At.done rfl ?_
  refine t_n ?_
  refine wp_seq ?_
  refine cond_S f60 (t := decide ((k : Int) < 4)) rfl (fun h62 => ?_) (fun h62 => ?_)
  ·have q63 := of_decide_eq_true h62
   refine wp_skip ?_
   refine t_n ?_
   have f64 := f60.sub (r := [(12, .int .i64 (k)), (6, .pointer (some ⟨w9.heap.size, 0, none⟩)), (5, .pointer (some ⟨w1.heap.size, 0, none⟩)), (3, .pointer (some ⟨w.heap.size, 0, none⟩)), (1, .int .i64 (p))]) ⟨rfl, rfl, rfl, rfl, rfl, trivial⟩
   clear f60
   refine wp_seq ?_
   refine wp_block ?_
   refine wp_seq ?_
   refine At.start ?_
   refine At.rd f64 2 [[], []] [(7, .int .i64 (k)), (14, .int .i64 (k))] [] (by kernel_rfl) trivial (fun act66 f65 => ?_)
   clear f64
   refine At.done rfl ?_
   refine t_n ?_
   have f67 := f65.sub (r := [(7, .int .i64 (k)), (12, .int .i64 (k)), (6, .pointer (some ⟨w9.heap.size, 0, none⟩)), (5, .pointer (some ⟨w1.heap.size, 0, none⟩)), (3, .pointer (some ⟨w.heap.size, 0, none⟩)), (1, .int .i64 (p))]) ⟨rfl, rfl, rfl, rfl, rfl, rfl, trivial⟩
   clear f65
   refine wp_seq ?_
   refine At.start ?_
   refine At.rd f67 2 [[], []] [(16, .int .i64 (p)), (15, .int .i64 (k))] [] (by kernel_rfl) trivial (fun act69 f68 => ?_)
   clear f67
   refine At.call f68 43 #[.int .i64 (k), .int .i64 (p)] (some 17) (by kernel_rfl) (above_any (k := k) (p := p) (by omega) (by omega)) ?_
   rintro e_ w70 ⟨rfl, he⟩
   refine ⟨_, rfl, _, rfl, fun act71 f72 => ?_⟩
   clear f68
   have g73 := gr_ext he
   have szw70 := g73.size
   have e74 := e52.gr g73 no_row
   clear e52
   have bx75 := bx55.gr g73 (by simp)
   clear bx55
   have bx76 := bx56.gr g73 (by simp)
   clear bx56
   have bx77 := bx57.gr g73 (by simp)
   clear bx57
   clear g73 he
   refine At.rd f72 1 [[]] [(18, .bool (!(decide (2 * k + 1 ≥ p))))] [] (by kernel_rfl) trivial (fun act79 f78 => ?_)
   clear f72
   refine At.done rfl ?_
   refine t_n ?_
   have f80 := f78.sub (r := [(18, .bool (!(decide (2 * k + 1 ≥ p)))), (7, .int .i64 (k)), (12, .int .i64 (k)), (6, .pointer (some ⟨w9.heap.size, 0, none⟩)), (5, .pointer (some ⟨w1.heap.size, 0, none⟩)), (3, .pointer (some ⟨w.heap.size, 0, none⟩)), (1, .int .i64 (p))]) ⟨rfl, rfl, rfl, rfl, rfl, rfl, rfl, trivial⟩
   clear f78
   refine cond_S f80 (t := !(decide (2 * k + 1 ≥ p))) rfl (fun h81 => ?_) (fun h81 => ?_)
   ·have q82 : (decide (2 * k + 1 ≥ p)) = false := by first | exact Eq.mp (Bool.not_eq_true' _) h81 | exact Eq.mp (Bool.not_eq_false' _) h81 | simpa using h81
    have q83 := of_decide_eq_false q82
    refine At.start ?_
    refine At.rd f80 3 [[], [], []] [(21, .pointer (some ((⟨w1.heap.size, 1, none⟩ : Addr).add ((k : Int).toNat * 1)))), (20, .pointer (some ⟨w1.heap.size, 1, none⟩)), (19, .int .i64 (k))] [(0 ≤ (k : Int)), ((k : Int) < (4 : Nat))] (by kernel_rfl) ⟨(by omega), (by omega), trivial⟩ (fun act85 f84 => ?_)
    clear f80
    refine At.act f84 (storeArr (pre := [.bool (t.top)]) (l := [kp p k 1 0 t.c0, kp p k 3 1 t.c1, kp p k 5 2 t.c2, kp p k 7 3 t.c3]) (post := []) (t := 3) (v := 0) (i := k) (by kernel_rfl) (by kernel_rfl) bx76 rfl rfl (by omega) (by simp only [List.length_cons, List.length_nil]; omega)) ?_
    rintro d_ v_ w86 ⟨rfl, g87, bx88⟩
    refine ⟨_, rfl, fun act90 f89 => ?_⟩
    clear f84
    replace bx88 : Bx w86 (w1.heap.size) [.bool (t.top), .int .i64 (if k = 0 then 0 else kp p k 1 0 t.c0), .int .i64 (if k = 1 then 0 else kp p k 3 1 t.c1), .int .i64 (if k = 2 then 0 else kp p k 5 2 t.c2), .int .i64 (if k = 3 then 0 else kp p k 7 3 t.c3)] 41 := bx88.as (by rw [set4 k (by omega) (by omega)]; rfl)
    have szw86 := g87.size
    have e91 := e74.gr g87 (fun k h => by injection h; omega)
    clear e74
    have bx92 := bx75.gr g87 (fun h => by injection h; omega)
    clear bx75
    have bx93 := bx77.gr g87 (fun h => by injection h; omega)
    clear bx77
    clear bx76 g87
    refine At.done rfl ?_
    refine b_n ?_
    refine t_n ?_
    have f94 := f89.sub (r := [(12, .int .i64 (k)), (6, .pointer (some ⟨w9.heap.size, 0, none⟩)), (5, .pointer (some ⟨w1.heap.size, 0, none⟩)), (3, .pointer (some ⟨w.heap.size, 0, none⟩)), (1, .int .i64 (p))]) ⟨rfl, rfl, rfl, rfl, rfl, trivial⟩
    clear f89
    refine At.start ?_
    refine At.rd f94 2 [[.as_ (.int .i64 (k + 1))], []] [(12, .int .i64 (k + 1)), (22, .int .i64 (k + 1))] [((.int .i64 (IntKind.i64.wrap (k + 1)) : Value) = .int .i64 (k + 1))] (by kernel_rfl) ⟨(w64 (by omega) (by omega)), trivial⟩ (fun act96 f95 => ?_)
    clear f94
    refine At.done rfl ?_
    refine t_n ?_
    have f97 := f95.sub (r := [(12, .int .i64 (k + 1)), (6, .pointer (some ⟨w9.heap.size, 0, none⟩)), (5, .pointer (some ⟨w1.heap.size, 0, none⟩)), (3, .pointer (some ⟨w.heap.size, 0, none⟩)), (1, .int .i64 (p))]) ⟨rfl, rfl, rfl, rfl, rfl, trivial⟩
    exact ⟨_, (by omega), (k + 1), rfl, f97, e91, bx92, (bx88.as (by first | exact (v5_eq rfl (kp_keep (by omega) rfl) (kp_keep (by omega) rfl) (kp_keep (by omega) rfl) (kp_keep (by omega) rfl)) | exact (v5_eq rfl (kp_zero (by omega) rfl) (kp_zero (by omega) rfl) (kp_zero (by omega) rfl) (kp_zero (by omega) rfl)))), bx93, (by omega), (by omega)⟩
   ·have q98 : (decide (2 * k + 1 ≥ p)) = true := by first | exact Eq.mp (Bool.not_eq_true' _) h81 | exact Eq.mp (Bool.not_eq_false' _) h81 | simpa using h81
    have q99 := of_decide_eq_true q98
    refine wp_skip ?_
    refine b_n ?_
    refine t_n ?_
    have f100 := f80.sub (r := [(12, .int .i64 (k)), (6, .pointer (some ⟨w9.heap.size, 0, none⟩)), (5, .pointer (some ⟨w1.heap.size, 0, none⟩)), (3, .pointer (some ⟨w.heap.size, 0, none⟩)), (1, .int .i64 (p))]) ⟨rfl, rfl, rfl, rfl, rfl, trivial⟩
    clear f80
    refine At.start ?_
    refine At.rd f100 2 [[.as_ (.int .i64 (k + 1))], []] [(12, .int .i64 (k + 1)), (22, .int .i64 (k + 1))] [((.int .i64 (IntKind.i64.wrap (k + 1)) : Value) = .int .i64 (k + 1))] (by kernel_rfl) ⟨(w64 (by omega) (by omega)), trivial⟩ (fun act102 f101 => ?_)
    clear f100
    refine At.done rfl ?_
    refine t_n ?_
    have f103 := f101.sub (r := [(12, .int .i64 (k + 1)), (6, .pointer (some ⟨w9.heap.size, 0, none⟩)), (5, .pointer (some ⟨w1.heap.size, 0, none⟩)), (3, .pointer (some ⟨w.heap.size, 0, none⟩)), (1, .int .i64 (p))]) ⟨rfl, rfl, rfl, rfl, rfl, trivial⟩
    exact ⟨_, (by omega), (k + 1), rfl, f103, e74, bx75, (bx76.as (by first | exact (v5_eq rfl (kp_keep (by omega) rfl) (kp_keep (by omega) rfl) (kp_keep (by omega) rfl) (kp_keep (by omega) rfl)) | exact (v5_eq rfl (kp_zero (by omega) rfl) (kp_zero (by omega) rfl) (kp_zero (by omega) rfl) (kp_zero (by omega) rfl)))), bx77, (by omega), (by omega)⟩
  ·have q104 := of_decide_eq_false h62
   refine wp_exit ?_
   refine t_e ?_
   refine t_e ?_
   refine b_e ?_
   refine t_n ?_
   have f105 := f60.sub (r := [(6, .pointer (some ⟨w9.heap.size, 0, none⟩)), (5, .pointer (some ⟨w1.heap.size, 0, none⟩)), (3, .pointer (some ⟨w.heap.size, 0, none⟩)), (1, .int .i64 (p))]) ⟨rfl, rfl, rfl, rfl, trivial⟩
   clear f60
   refine wp_seq ?_
   refine wp_seq ?_
   refine At.start ?_
   refine At.rd f105 3 [[], [], []] [(25, .bool ((IntKind.i64.wrap ((BitVec.ofInt 64 p &&& BitVec.ofInt 64 1).toNat : Int) : Int) == 0)), (24, .int .i64 (IntKind.i64.wrap ((BitVec.ofInt 64 p &&& BitVec.ofInt 64 1).toNat : Int))), (23, .int .i64 (p))] [] (by kernel_rfl) trivial (fun act107 f106 => ?_)
   clear f105
   refine At.done rfl ?_
   refine t_n ?_
   have f108 := f106.sub (r := [(25, .bool ((IntKind.i64.wrap ((BitVec.ofInt 64 p &&& BitVec.ofInt 64 1).toNat : Int) : Int) == 0)), (6, .pointer (some ⟨w9.heap.size, 0, none⟩)), (5, .pointer (some ⟨w1.heap.size, 0, none⟩)), (3, .pointer (some ⟨w.heap.size, 0, none⟩)), (1, .int .i64 (p))]) ⟨rfl, rfl, rfl, rfl, rfl, trivial⟩
   clear f106
   refine cond_S f108 (t := (IntKind.i64.wrap ((BitVec.ofInt 64 p &&& BitVec.ofInt 64 1).toNat : Int) : Int) == 0) rfl (fun h109 => ?_) (fun h109 => ?_)
   ·have q110 := eq_of_beq h109
    refine wp_seq ?_
    refine At.start ?_
    refine At.rd f108 1 [[.ld (.bool (t.top)), .ld (.int .i64 (kp p k 1 0 t.c0)), .ld (.int .i64 (kp p k 3 1 t.c1)), .ld (.int .i64 (kp p k 5 2 t.c2)), .ld (.int .i64 (kp p k 7 3 t.c3))]] [(26, .agg #[.bool (t.top), .int .i64 (kp p k 1 0 t.c0), .int .i64 (kp p k 3 1 t.c1), .int .i64 (kp p k 5 2 t.c2), .int .i64 (kp p k 7 3 t.c3)])] [(w51.cell? ⟨w1.heap.size, 0, none⟩ = some (.bool (t.top))), (w51.cell? ⟨w1.heap.size, 1, none⟩ = some (.int .i64 (kp p k 1 0 t.c0))), (w51.cell? ⟨w1.heap.size, 2, none⟩ = some (.int .i64 (kp p k 3 1 t.c1))), (w51.cell? ⟨w1.heap.size, 3, none⟩ = some (.int .i64 (kp p k 5 2 t.c2))), (w51.cell? ⟨w1.heap.size, 4, none⟩ = some (.int .i64 (kp p k 7 3 t.c3)))] (by kernel_rfl) ⟨(bx56.cell (i := 0) rfl), (bx56.cell (i := 1) rfl), (bx56.cell (i := 2) rfl), (bx56.cell (i := 3) rfl), (bx56.cell (i := 4) rfl), trivial⟩ (fun act112 f111 => ?_)
    clear f108
    refine At.store f111 (t := 41) (b := w9.heap.size) (off := 0) (v := .agg #[.bool (t.top), .int .i64 (kp p k 1 0 t.c0), .int .i64 (kp p k 3 1 t.c1), .int .i64 (kp p k 5 2 t.c2), .int .i64 (kp p k 7 3 t.c3)]) (by kernel_rfl) bx57 (by kernel_rfl) (fun act117 w113 g114 bx115 f116 => ?_)
    clear f111
    replace bx115 : Bx w113 (w9.heap.size) [.bool (t.top), .int .i64 (kp p k 1 0 t.c0), .int .i64 (kp p k 3 1 t.c1), .int .i64 (kp p k 5 2 t.c2), .int .i64 (kp p k 7 3 t.c3)] 41 := bx115
    have szw113 := g114.size
    have e118 := e52.gr g114 (fun k h => by injection h; omega)
    clear e52
    have bx119 := bx55.gr g114 (fun h => by injection h; omega)
    clear bx55
    have bx120 := bx56.gr g114 (fun h => by injection h; omega)
    clear bx56
    clear bx57 g114
    refine At.done rfl ?_
    refine t_n ?_
    have f121 := f116.sub (r := [(6, .pointer (some ⟨w9.heap.size, 0, none⟩))]) ⟨rfl, trivial⟩
    clear f116
    refine wp_ret ?_
    refine t_r ?_
    refine ret_ f121 [[.bool (t.top), .int .i64 (kp p k 1 0 t.c0), .int .i64 (kp p k 3 1 t.c1), .int .i64 (kp p k 5 2 t.c2), .int .i64 (kp p k 7 3 t.c3)]] [.agg #[.bool (t.top), .int .i64 (kp p k 1 0 t.c0), .int .i64 (kp p k 3 1 t.c1), .int .i64 (kp p k 5 2 t.c2), .int .i64 (kp p k 7 3 t.c3)]] [(w113.cell? ⟨w9.heap.size, 0, none⟩ = some (.bool (t.top))), (w113.cell? ⟨w9.heap.size, 1, none⟩ = some (.int .i64 (kp p k 1 0 t.c0))), (w113.cell? ⟨w9.heap.size, 2, none⟩ = some (.int .i64 (kp p k 3 1 t.c1))), (w113.cell? ⟨w9.heap.size, 3, none⟩ = some (.int .i64 (kp p k 5 2 t.c2))), (w113.cell? ⟨w9.heap.size, 4, none⟩ = some (.int .i64 (kp p k 7 3 t.c3)))] (by kernel_rfl) ⟨(bx115.cell (i := 0) rfl), (bx115.cell (i := 1) rfl), (bx115.cell (i := 2) rfl), (bx115.cell (i := 3) rfl), (bx115.cell (i := 4) rfl), trivial⟩ ?_
    exact ⟨tup_ret (by (obtain rfl : k = 4 := by omega); exact up_even (by assumption) (by assumption) (by assumption)), e118⟩
   ·have q122 := ne_of_beq_false h109
    refine wp_skip ?_
    refine t_n ?_
    have f123 := f108.sub (r := [(6, .pointer (some ⟨w9.heap.size, 0, none⟩)), (5, .pointer (some ⟨w1.heap.size, 0, none⟩)), (3, .pointer (some ⟨w.heap.size, 0, none⟩)), (1, .int .i64 (p))]) ⟨rfl, rfl, rfl, rfl, trivial⟩
    clear f108
    refine wp_seq ?_
    refine wp_seq ?_
    refine At.start ?_
    refine At.rd f123 1 [[]] [(27, .int .i64 (0))] [] (by kernel_rfl) trivial (fun act125 f124 => ?_)
    clear f123
    refine At.done rfl ?_
    refine t_n ?_
    refine wp_block ?_
    have f126 := f124.sub (r := [(27, .int .i64 (0)), (6, .pointer (some ⟨w9.heap.size, 0, none⟩)), (5, .pointer (some ⟨w1.heap.size, 0, none⟩)), (3, .pointer (some ⟨w.heap.size, 0, none⟩)), (1, .int .i64 (p))]) ⟨rfl, rfl, rfl, rfl, rfl, trivial⟩
    refine loop_g (fun (m_ : Nat) a_ w_ => ∃ (i : Int), m_ = (4 - i).toNat ∧ (Frm 55 a_ [(27, .int .i64 (i)), (6, .pointer (some ⟨w9.heap.size, 0, none⟩)), (5, .pointer (some ⟨w1.heap.size, 0, none⟩)), (3, .pointer (some ⟨w.heap.size, 0, none⟩)), (1, .int .i64 (p))]) ∧ (Ext w w_) ∧ (Bx w_ (w.heap.size) [.int .i64 (n0), .int .i64 (n1), .int .i64 (n2), .int .i64 (n3)] 38) ∧ (Bx w_ (w1.heap.size) [.bool (t.top), .int .i64 (k2 p i 1 0 (keepT p t).c0), .int .i64 (k2 p i 3 1 (keepT p t).c1), .int .i64 (k2 p i 5 2 (keepT p t).c2), .int .i64 (k2 p i 7 3 (keepT p t).c3)] 41) ∧ (Bx w_ (w9.heap.size) [.bool false, .int .i64 (0), .int .i64 (0), .int .i64 (0), .int .i64 (0)] 41) ∧ (0 ≤ i) ∧ (i ≤ 4) ∧ (full4 n0 n1 n2 n3 p i (keepT p t))) _ ⟨0, rfl, f126, e52, bx55, (bx56.as (by (obtain rfl : k = 4 := by omega); exact kp_k2 rfl)), bx57, (by omega), (by omega), full0⟩ ?_
    clear f126 f124
    clear bx55
    clear bx56
    clear bx57
    clear e52
    intro m_ act127 w128 ⟨i, hm130, f131, e129, bx132, bx133, bx134, i135, i136, hfu⟩
    have szw128 := e129.size
    have := bx132.lt
    have := bx133.lt
    have := bx134.lt
    refine wp_seq ?_
    refine At.start ?_
    refine At.rd f131 1 [[]] [(28, .bool (decide ((i : Int) < 4)))] [] (by kernel_rfl) trivial (fun act138 f137 => ?_)
    clear f131
    refine At.done rfl ?_
    refine t_n ?_
    refine wp_seq ?_
    refine cond_S f137 (t := decide ((i : Int) < 4)) rfl (fun h139 => ?_) (fun h139 => ?_)
    ·have q140 := of_decide_eq_true h139
     refine wp_skip ?_
     refine t_n ?_
     have f141 := f137.sub (r := [(27, .int .i64 (i)), (6, .pointer (some ⟨w9.heap.size, 0, none⟩)), (5, .pointer (some ⟨w1.heap.size, 0, none⟩)), (3, .pointer (some ⟨w.heap.size, 0, none⟩)), (1, .int .i64 (p))]) ⟨rfl, rfl, rfl, rfl, rfl, trivial⟩
     clear f137
     refine wp_seq ?_
     refine wp_block ?_
     refine wp_seq ?_
     refine At.start ?_
     refine At.rd f141 2 [[], []] [(8, .int .i64 (i)), (29, .int .i64 (i))] [] (by kernel_rfl) trivial (fun act143 f142 => ?_)
     clear f141
     refine At.done rfl ?_
     refine t_n ?_
     have f144 := f142.sub (r := [(8, .int .i64 (i)), (27, .int .i64 (i)), (6, .pointer (some ⟨w9.heap.size, 0, none⟩)), (5, .pointer (some ⟨w1.heap.size, 0, none⟩)), (3, .pointer (some ⟨w.heap.size, 0, none⟩)), (1, .int .i64 (p))]) ⟨rfl, rfl, rfl, rfl, rfl, rfl, trivial⟩
     clear f142
     refine wp_seq ?_
     refine wp_seq ?_
     refine At.start ?_
     refine At.rd f144 2 [[], []] [(31, .int .i64 (p)), (30, .int .i64 (i))] [] (by kernel_rfl) trivial (fun act146 f145 => ?_)
     clear f144
     refine At.call f145 43 #[.int .i64 (i), .int .i64 (p)] (some 32) (by kernel_rfl) (above_any (k := i) (p := p) (by omega) (by omega)) ?_
     rintro e_ w147 ⟨rfl, he⟩
     refine ⟨_, rfl, _, rfl, fun act148 f149 => ?_⟩
     clear f145
     have g150 := gr_ext he
     have szw147 := g150.size
     have e151 := e129.gr g150 no_row
     clear e129
     have bx152 := bx132.gr g150 (by simp)
     clear bx132
     have bx153 := bx133.gr g150 (by simp)
     clear bx133
     have bx154 := bx134.gr g150 (by simp)
     clear bx134
     clear g150 he
     refine At.rd f149 1 [[]] [(33, .bool (!(decide (2 * i + 1 ≥ p))))] [] (by kernel_rfl) trivial (fun act156 f155 => ?_)
     clear f149
     refine At.done rfl ?_
     refine t_n ?_
     have f157 := f155.sub (r := [(33, .bool (!(decide (2 * i + 1 ≥ p)))), (8, .int .i64 (i)), (27, .int .i64 (i)), (6, .pointer (some ⟨w9.heap.size, 0, none⟩)), (5, .pointer (some ⟨w1.heap.size, 0, none⟩)), (3, .pointer (some ⟨w.heap.size, 0, none⟩)), (1, .int .i64 (p))]) ⟨rfl, rfl, rfl, rfl, rfl, rfl, rfl, trivial⟩
     clear f155
     refine cond_S f157 (t := !(decide (2 * i + 1 ≥ p))) rfl (fun h158 => ?_) (fun h158 => ?_)
     ·have q159 : (decide (2 * i + 1 ≥ p)) = false := by first | exact Eq.mp (Bool.not_eq_true' _) h158 | exact Eq.mp (Bool.not_eq_false' _) h158 | simpa using h158
      have q160 := of_decide_eq_false q159
      refine wp_exit ?_
      refine t_e ?_
      refine b_e ?_
      refine t_n ?_
      have f161 := f157.sub (r := [(27, .int .i64 (i)), (6, .pointer (some ⟨w9.heap.size, 0, none⟩)), (5, .pointer (some ⟨w1.heap.size, 0, none⟩)), (3, .pointer (some ⟨w.heap.size, 0, none⟩)), (1, .int .i64 (p))]) ⟨rfl, rfl, rfl, rfl, rfl, trivial⟩
      clear f157
      refine At.start ?_
      refine At.rd f161 2 [[.as_ (.int .i64 (i + 1))], []] [(27, .int .i64 (i + 1)), (53, .int .i64 (i + 1))] [((.int .i64 (IntKind.i64.wrap (i + 1)) : Value) = .int .i64 (i + 1))] (by kernel_rfl) ⟨(w64 (by omega) (by omega)), trivial⟩ (fun act163 f162 => ?_)
      clear f161
      refine At.done rfl ?_
      refine t_n ?_
      have f164 := f162.sub (r := [(27, .int .i64 (i + 1)), (6, .pointer (some ⟨w9.heap.size, 0, none⟩)), (5, .pointer (some ⟨w1.heap.size, 0, none⟩)), (3, .pointer (some ⟨w.heap.size, 0, none⟩)), (1, .int .i64 (p))]) ⟨rfl, rfl, rfl, rfl, rfl, trivial⟩
      exact ⟨_, (by omega), (i + 1), rfl, f164, e151, bx152, (bx153.as (by first | exact (v5_eq rfl (k2_keep (by omega) rfl) (k2_keep (by omega) rfl) (k2_keep (by omega) rfl) (k2_keep (by omega) rfl)) | exact (v5_eq rfl (k2_zero (by omega) rfl) (k2_zero (by omega) rfl) (k2_zero (by omega) rfl) (k2_zero (by omega) rfl)))), bx154, (by omega), (by omega), (by first | exact full_keep hfu (by omega) (by omega) | exact full_next hfu (by omega) (by omega) (by assumption))⟩
     ·have q165 : (decide (2 * i + 1 ≥ p)) = true := by first | exact Eq.mp (Bool.not_eq_true' _) h158 | exact Eq.mp (Bool.not_eq_false' _) h158 | simpa using h158
      have q166 := of_decide_eq_true q165
      refine wp_skip ?_
      refine t_n ?_
      have f167 := f157.sub (r := [(8, .int .i64 (i)), (27, .int .i64 (i)), (6, .pointer (some ⟨w9.heap.size, 0, none⟩)), (5, .pointer (some ⟨w1.heap.size, 0, none⟩)), (3, .pointer (some ⟨w.heap.size, 0, none⟩)), (1, .int .i64 (p))]) ⟨rfl, rfl, rfl, rfl, rfl, rfl, trivial⟩
      clear f157
      refine wp_seq ?_
      refine wp_seq ?_
      refine drawn_ro f167 (by kernel_rfl) (by kernel_rfl) [[], [], [], [.ld (.int .i64 (gI [k2 p i 1 0 (keepT p t).c0, k2 p i 3 1 (keepT p t).c1, k2 p i 5 2 (keepT p t).c2, k2 p i 7 3 (keepT p t).c3] i))], [], [], [.ld (.int .i64 (gI [n0, n1, n2, n3] i))], []] [(41, .bool (decide ((gI [k2 p i 1 0 (keepT p t).c0, k2 p i 3 1 (keepT p t).c1, k2 p i 5 2 (keepT p t).c2, k2 p i 7 3 (keepT p t).c3] i : Int) < (gI [n0, n1, n2, n3] i)))), (40, .int .i64 (gI [n0, n1, n2, n3] i)), (39, .pointer (some ((⟨w.heap.size, 0, none⟩ : Addr).add ((i : Int).toNat * 1)))), (38, .int .i64 (i)), (37, .int .i64 (gI [k2 p i 1 0 (keepT p t).c0, k2 p i 3 1 (keepT p t).c1, k2 p i 5 2 (keepT p t).c2, k2 p i 7 3 (keepT p t).c3] i)), (36, .pointer (some ((⟨w1.heap.size, 1, none⟩ : Addr).add ((i : Int).toNat * 1)))), (35, .pointer (some ⟨w1.heap.size, 1, none⟩)), (34, .int .i64 (i))] [(0 ≤ (i : Int)), ((i : Int) < (4 : Nat)), (w147.cell? ((⟨w1.heap.size, 1, none⟩ : Addr).add ((i : Int).toNat * 1)) = some (.int .i64 (gI [k2 p i 1 0 (keepT p t).c0, k2 p i 3 1 (keepT p t).c1, k2 p i 5 2 (keepT p t).c2, k2 p i 7 3 (keepT p t).c3] i))), (0 ≤ (i : Int)), ((i : Int) < (4 : Nat)), (w147.cell? ((⟨w.heap.size, 0, none⟩ : Addr).add ((i : Int).toNat * 1)) = some (.int .i64 (gI [n0, n1, n2, n3] i)))] (by kernel_rfl) ⟨(by omega), (by omega), (Bx.arr (pre := [.bool (t.top)]) (l := [k2 p i 1 0 (keepT p t).c0, k2 p i 3 1 (keepT p t).c1, k2 p i 5 2 (keepT p t).c2, k2 p i 7 3 (keepT p t).c3]) (post := []) bx153 rfl i (by omega) (by simp only [List.length_cons, List.length_nil]; omega)), (by omega), (by omega), (Bx.arr (pre := []) (l := [n0, n1, n2, n3]) (post := []) bx152 rfl i (by omega) (by simp only [List.length_cons, List.length_nil]; omega)), trivial⟩ (fun act169 w170 hw171 f168 => ?_)
      clear f167
      have g172 := gr_drew hw171
      have szw170 := g172.size
      have e173 := e151.gr g172 no_row
      clear e151
      have bx174 := bx152.gr g172 (by simp)
      clear bx152
      have bx175 := bx153.gr g172 (by simp)
      clear bx153
      have bx176 := bx154.gr g172 (by simp)
      clear bx154
      clear g172 hw171
      refine t_n ?_
      have f177 := f168.sub (r := [(41, .bool (decide ((gI [k2 p i 1 0 (keepT p t).c0, k2 p i 3 1 (keepT p t).c1, k2 p i 5 2 (keepT p t).c2, k2 p i 7 3 (keepT p t).c3] i : Int) < (gI [n0, n1, n2, n3] i)))), (8, .int .i64 (i)), (27, .int .i64 (i)), (6, .pointer (some ⟨w9.heap.size, 0, none⟩)), (5, .pointer (some ⟨w1.heap.size, 0, none⟩)), (3, .pointer (some ⟨w.heap.size, 0, none⟩)), (1, .int .i64 (p))]) ⟨rfl, rfl, rfl, rfl, rfl, rfl, rfl, trivial⟩
      clear f168
      refine cond_S f177 (t := decide ((gI [k2 p i 1 0 (keepT p t).c0, k2 p i 3 1 (keepT p t).c1, k2 p i 5 2 (keepT p t).c2, k2 p i 7 3 (keepT p t).c3] i : Int) < (gI [n0, n1, n2, n3] i))) rfl (fun h178 => ?_) (fun h178 => ?_)
      ·have q179 := of_decide_eq_true h178
       refine wp_seq ?_
       have hko := keep_ok (p := p) ht
       have hlb := gI4_lb (B := -9223372036854775808) (i := i) (by omega) (by omega) (k2_lb (p := p) (k := i) (q := 1) (j := 0) (by omega) hko.1) (k2_lb (p := p) (k := i) (q := 3) (j := 1) (by omega) hko.2.1) (k2_lb (p := p) (k := i) (q := 5) (j := 2) (by omega) hko.2.2.1) (k2_lb (p := p) (k := i) (q := 7) (j := 3) (by omega) hko.2.2.2)
       have hub := gI4_ub (B := 140737488351232) (i := i) (by omega) (by omega) h0 h1 h2 h3
       refine At.start ?_
       refine At.rd f177 7 [[], [], [], [.ld (.int .i64 (gI [k2 p i 1 0 (keepT p t).c0, k2 p i 3 1 (keepT p t).c1, k2 p i 5 2 (keepT p t).c2, k2 p i 7 3 (keepT p t).c3] i))], [.as_ (.int .i64 ((gI [k2 p i 1 0 (keepT p t).c0, k2 p i 3 1 (keepT p t).c1, k2 p i 5 2 (keepT p t).c2, k2 p i 7 3 (keepT p t).c3] i) + 1))], [], []] [(48, .pointer (some ((⟨w1.heap.size, 1, none⟩ : Addr).add ((i : Int).toNat * 1)))), (47, .pointer (some ⟨w1.heap.size, 1, none⟩)), (46, .int .i64 ((gI [k2 p i 1 0 (keepT p t).c0, k2 p i 3 1 (keepT p t).c1, k2 p i 5 2 (keepT p t).c2, k2 p i 7 3 (keepT p t).c3] i) + 1)), (45, .int .i64 (gI [k2 p i 1 0 (keepT p t).c0, k2 p i 3 1 (keepT p t).c1, k2 p i 5 2 (keepT p t).c2, k2 p i 7 3 (keepT p t).c3] i)), (44, .pointer (some ((⟨w1.heap.size, 1, none⟩ : Addr).add ((i : Int).toNat * 1)))), (43, .pointer (some ⟨w1.heap.size, 1, none⟩)), (42, .int .i64 (i))] [(0 ≤ (i : Int)), ((i : Int) < (4 : Nat)), (w170.cell? ((⟨w1.heap.size, 1, none⟩ : Addr).add ((i : Int).toNat * 1)) = some (.int .i64 (gI [k2 p i 1 0 (keepT p t).c0, k2 p i 3 1 (keepT p t).c1, k2 p i 5 2 (keepT p t).c2, k2 p i 7 3 (keepT p t).c3] i))), ((.int .i64 (IntKind.i64.wrap ((gI [k2 p i 1 0 (keepT p t).c0, k2 p i 3 1 (keepT p t).c1, k2 p i 5 2 (keepT p t).c2, k2 p i 7 3 (keepT p t).c3] i) + 1)) : Value) = .int .i64 ((gI [k2 p i 1 0 (keepT p t).c0, k2 p i 3 1 (keepT p t).c1, k2 p i 5 2 (keepT p t).c2, k2 p i 7 3 (keepT p t).c3] i) + 1)), (0 ≤ (i : Int)), ((i : Int) < (4 : Nat))] (by kernel_rfl) ⟨(by omega), (by omega), (Bx.arr (pre := [.bool (t.top)]) (l := [k2 p i 1 0 (keepT p t).c0, k2 p i 3 1 (keepT p t).c1, k2 p i 5 2 (keepT p t).c2, k2 p i 7 3 (keepT p t).c3]) (post := []) bx175 rfl i (by omega) (by simp only [List.length_cons, List.length_nil]; omega)), (w64 (by omega) (by omega)), (by omega), (by omega), trivial⟩ (fun act181 f180 => ?_)
       clear f177
       refine At.act f180 (storeArr (pre := [.bool (t.top)]) (l := [k2 p i 1 0 (keepT p t).c0, k2 p i 3 1 (keepT p t).c1, k2 p i 5 2 (keepT p t).c2, k2 p i 7 3 (keepT p t).c3]) (post := []) (t := 3) (v := (gI [k2 p i 1 0 (keepT p t).c0, k2 p i 3 1 (keepT p t).c1, k2 p i 5 2 (keepT p t).c2, k2 p i 7 3 (keepT p t).c3] i) + 1) (i := i) (by kernel_rfl) (by kernel_rfl) bx175 rfl rfl (by omega) (by simp only [List.length_cons, List.length_nil]; omega)) ?_
       rintro d_ v_ w182 ⟨rfl, g183, bx184⟩
       refine ⟨_, rfl, fun act186 f185 => ?_⟩
       clear f180
       replace bx184 : Bx w182 (w1.heap.size) [.bool (t.top), .int .i64 (if i = 0 then (gI [k2 p i 1 0 (keepT p t).c0, k2 p i 3 1 (keepT p t).c1, k2 p i 5 2 (keepT p t).c2, k2 p i 7 3 (keepT p t).c3] i) + 1 else k2 p i 1 0 (keepT p t).c0), .int .i64 (if i = 1 then (gI [k2 p i 1 0 (keepT p t).c0, k2 p i 3 1 (keepT p t).c1, k2 p i 5 2 (keepT p t).c2, k2 p i 7 3 (keepT p t).c3] i) + 1 else k2 p i 3 1 (keepT p t).c1), .int .i64 (if i = 2 then (gI [k2 p i 1 0 (keepT p t).c0, k2 p i 3 1 (keepT p t).c1, k2 p i 5 2 (keepT p t).c2, k2 p i 7 3 (keepT p t).c3] i) + 1 else k2 p i 5 2 (keepT p t).c2), .int .i64 (if i = 3 then (gI [k2 p i 1 0 (keepT p t).c0, k2 p i 3 1 (keepT p t).c1, k2 p i 5 2 (keepT p t).c2, k2 p i 7 3 (keepT p t).c3] i) + 1 else k2 p i 7 3 (keepT p t).c3)] 41 := bx184.as (by rw [set4 i (by omega) (by omega)]; rfl)
       have szw182 := g183.size
       have e187 := e173.gr g183 (fun k h => by injection h; omega)
       clear e173
       have bx188 := bx174.gr g183 (fun h => by injection h; omega)
       clear bx174
       have bx189 := bx176.gr g183 (fun h => by injection h; omega)
       clear bx176
       clear bx175 g183
       refine At.done rfl ?_
       refine t_n ?_
       have f190 := f185.sub (r := [(6, .pointer (some ⟨w9.heap.size, 0, none⟩)), (5, .pointer (some ⟨w1.heap.size, 0, none⟩))]) ⟨rfl, rfl, trivial⟩
       clear f185
       refine wp_seq ?_
       refine At.start ?_
       refine At.rd f190 1 [[.ld (.bool (t.top)), .ld (.int .i64 (if i = 0 then (gI [k2 p i 1 0 (keepT p t).c0, k2 p i 3 1 (keepT p t).c1, k2 p i 5 2 (keepT p t).c2, k2 p i 7 3 (keepT p t).c3] i) + 1 else k2 p i 1 0 (keepT p t).c0)), .ld (.int .i64 (if i = 1 then (gI [k2 p i 1 0 (keepT p t).c0, k2 p i 3 1 (keepT p t).c1, k2 p i 5 2 (keepT p t).c2, k2 p i 7 3 (keepT p t).c3] i) + 1 else k2 p i 3 1 (keepT p t).c1)), .ld (.int .i64 (if i = 2 then (gI [k2 p i 1 0 (keepT p t).c0, k2 p i 3 1 (keepT p t).c1, k2 p i 5 2 (keepT p t).c2, k2 p i 7 3 (keepT p t).c3] i) + 1 else k2 p i 5 2 (keepT p t).c2)), .ld (.int .i64 (if i = 3 then (gI [k2 p i 1 0 (keepT p t).c0, k2 p i 3 1 (keepT p t).c1, k2 p i 5 2 (keepT p t).c2, k2 p i 7 3 (keepT p t).c3] i) + 1 else k2 p i 7 3 (keepT p t).c3))]] [(49, .agg #[.bool (t.top), .int .i64 (if i = 0 then (gI [k2 p i 1 0 (keepT p t).c0, k2 p i 3 1 (keepT p t).c1, k2 p i 5 2 (keepT p t).c2, k2 p i 7 3 (keepT p t).c3] i) + 1 else k2 p i 1 0 (keepT p t).c0), .int .i64 (if i = 1 then (gI [k2 p i 1 0 (keepT p t).c0, k2 p i 3 1 (keepT p t).c1, k2 p i 5 2 (keepT p t).c2, k2 p i 7 3 (keepT p t).c3] i) + 1 else k2 p i 3 1 (keepT p t).c1), .int .i64 (if i = 2 then (gI [k2 p i 1 0 (keepT p t).c0, k2 p i 3 1 (keepT p t).c1, k2 p i 5 2 (keepT p t).c2, k2 p i 7 3 (keepT p t).c3] i) + 1 else k2 p i 5 2 (keepT p t).c2), .int .i64 (if i = 3 then (gI [k2 p i 1 0 (keepT p t).c0, k2 p i 3 1 (keepT p t).c1, k2 p i 5 2 (keepT p t).c2, k2 p i 7 3 (keepT p t).c3] i) + 1 else k2 p i 7 3 (keepT p t).c3)])] [(w182.cell? ⟨w1.heap.size, 0, none⟩ = some (.bool (t.top))), (w182.cell? ⟨w1.heap.size, 1, none⟩ = some (.int .i64 (if i = 0 then (gI [k2 p i 1 0 (keepT p t).c0, k2 p i 3 1 (keepT p t).c1, k2 p i 5 2 (keepT p t).c2, k2 p i 7 3 (keepT p t).c3] i) + 1 else k2 p i 1 0 (keepT p t).c0))), (w182.cell? ⟨w1.heap.size, 2, none⟩ = some (.int .i64 (if i = 1 then (gI [k2 p i 1 0 (keepT p t).c0, k2 p i 3 1 (keepT p t).c1, k2 p i 5 2 (keepT p t).c2, k2 p i 7 3 (keepT p t).c3] i) + 1 else k2 p i 3 1 (keepT p t).c1))), (w182.cell? ⟨w1.heap.size, 3, none⟩ = some (.int .i64 (if i = 2 then (gI [k2 p i 1 0 (keepT p t).c0, k2 p i 3 1 (keepT p t).c1, k2 p i 5 2 (keepT p t).c2, k2 p i 7 3 (keepT p t).c3] i) + 1 else k2 p i 5 2 (keepT p t).c2))), (w182.cell? ⟨w1.heap.size, 4, none⟩ = some (.int .i64 (if i = 3 then (gI [k2 p i 1 0 (keepT p t).c0, k2 p i 3 1 (keepT p t).c1, k2 p i 5 2 (keepT p t).c2, k2 p i 7 3 (keepT p t).c3] i) + 1 else k2 p i 7 3 (keepT p t).c3)))] (by kernel_rfl) ⟨(bx184.cell (i := 0) rfl), (bx184.cell (i := 1) rfl), (bx184.cell (i := 2) rfl), (bx184.cell (i := 3) rfl), (bx184.cell (i := 4) rfl), trivial⟩ (fun act192 f191 => ?_)
       clear f190
       refine At.store f191 (t := 41) (b := w9.heap.size) (off := 0) (v := .agg #[.bool (t.top), .int .i64 (if i = 0 then (gI [k2 p i 1 0 (keepT p t).c0, k2 p i 3 1 (keepT p t).c1, k2 p i 5 2 (keepT p t).c2, k2 p i 7 3 (keepT p t).c3] i) + 1 else k2 p i 1 0 (keepT p t).c0), .int .i64 (if i = 1 then (gI [k2 p i 1 0 (keepT p t).c0, k2 p i 3 1 (keepT p t).c1, k2 p i 5 2 (keepT p t).c2, k2 p i 7 3 (keepT p t).c3] i) + 1 else k2 p i 3 1 (keepT p t).c1), .int .i64 (if i = 2 then (gI [k2 p i 1 0 (keepT p t).c0, k2 p i 3 1 (keepT p t).c1, k2 p i 5 2 (keepT p t).c2, k2 p i 7 3 (keepT p t).c3] i) + 1 else k2 p i 5 2 (keepT p t).c2), .int .i64 (if i = 3 then (gI [k2 p i 1 0 (keepT p t).c0, k2 p i 3 1 (keepT p t).c1, k2 p i 5 2 (keepT p t).c2, k2 p i 7 3 (keepT p t).c3] i) + 1 else k2 p i 7 3 (keepT p t).c3)]) (by kernel_rfl) bx189 (by kernel_rfl) (fun act197 w193 g194 bx195 f196 => ?_)
       clear f191
       replace bx195 : Bx w193 (w9.heap.size) [.bool (t.top), .int .i64 (if i = 0 then (gI [k2 p i 1 0 (keepT p t).c0, k2 p i 3 1 (keepT p t).c1, k2 p i 5 2 (keepT p t).c2, k2 p i 7 3 (keepT p t).c3] i) + 1 else k2 p i 1 0 (keepT p t).c0), .int .i64 (if i = 1 then (gI [k2 p i 1 0 (keepT p t).c0, k2 p i 3 1 (keepT p t).c1, k2 p i 5 2 (keepT p t).c2, k2 p i 7 3 (keepT p t).c3] i) + 1 else k2 p i 3 1 (keepT p t).c1), .int .i64 (if i = 2 then (gI [k2 p i 1 0 (keepT p t).c0, k2 p i 3 1 (keepT p t).c1, k2 p i 5 2 (keepT p t).c2, k2 p i 7 3 (keepT p t).c3] i) + 1 else k2 p i 5 2 (keepT p t).c2), .int .i64 (if i = 3 then (gI [k2 p i 1 0 (keepT p t).c0, k2 p i 3 1 (keepT p t).c1, k2 p i 5 2 (keepT p t).c2, k2 p i 7 3 (keepT p t).c3] i) + 1 else k2 p i 7 3 (keepT p t).c3)] 41 := bx195
       have szw193 := g194.size
       have e198 := e187.gr g194 (fun k h => by injection h; omega)
       clear e187
       have bx199 := bx188.gr g194 (fun h => by injection h; omega)
       clear bx188
       have bx200 := bx184.gr g194 (fun h => by injection h; omega)
       clear bx184
       clear bx189 g194
       refine At.done rfl ?_
       refine t_n ?_
       have f201 := f196.sub (r := [(6, .pointer (some ⟨w9.heap.size, 0, none⟩))]) ⟨rfl, trivial⟩
       clear f196
       refine wp_ret ?_
       refine t_r ?_
       refine b_r ?_
       refine t_r ?_
       refine t_r ?_
       refine b_r ?_
       refine t_r ?_
       refine ret_ f201 [[.bool (t.top), .int .i64 (if i = 0 then (gI [k2 p i 1 0 (keepT p t).c0, k2 p i 3 1 (keepT p t).c1, k2 p i 5 2 (keepT p t).c2, k2 p i 7 3 (keepT p t).c3] i) + 1 else k2 p i 1 0 (keepT p t).c0), .int .i64 (if i = 1 then (gI [k2 p i 1 0 (keepT p t).c0, k2 p i 3 1 (keepT p t).c1, k2 p i 5 2 (keepT p t).c2, k2 p i 7 3 (keepT p t).c3] i) + 1 else k2 p i 3 1 (keepT p t).c1), .int .i64 (if i = 2 then (gI [k2 p i 1 0 (keepT p t).c0, k2 p i 3 1 (keepT p t).c1, k2 p i 5 2 (keepT p t).c2, k2 p i 7 3 (keepT p t).c3] i) + 1 else k2 p i 5 2 (keepT p t).c2), .int .i64 (if i = 3 then (gI [k2 p i 1 0 (keepT p t).c0, k2 p i 3 1 (keepT p t).c1, k2 p i 5 2 (keepT p t).c2, k2 p i 7 3 (keepT p t).c3] i) + 1 else k2 p i 7 3 (keepT p t).c3)]] [.agg #[.bool (t.top), .int .i64 (if i = 0 then (gI [k2 p i 1 0 (keepT p t).c0, k2 p i 3 1 (keepT p t).c1, k2 p i 5 2 (keepT p t).c2, k2 p i 7 3 (keepT p t).c3] i) + 1 else k2 p i 1 0 (keepT p t).c0), .int .i64 (if i = 1 then (gI [k2 p i 1 0 (keepT p t).c0, k2 p i 3 1 (keepT p t).c1, k2 p i 5 2 (keepT p t).c2, k2 p i 7 3 (keepT p t).c3] i) + 1 else k2 p i 3 1 (keepT p t).c1), .int .i64 (if i = 2 then (gI [k2 p i 1 0 (keepT p t).c0, k2 p i 3 1 (keepT p t).c1, k2 p i 5 2 (keepT p t).c2, k2 p i 7 3 (keepT p t).c3] i) + 1 else k2 p i 5 2 (keepT p t).c2), .int .i64 (if i = 3 then (gI [k2 p i 1 0 (keepT p t).c0, k2 p i 3 1 (keepT p t).c1, k2 p i 5 2 (keepT p t).c2, k2 p i 7 3 (keepT p t).c3] i) + 1 else k2 p i 7 3 (keepT p t).c3)]] [(w193.cell? ⟨w9.heap.size, 0, none⟩ = some (.bool (t.top))), (w193.cell? ⟨w9.heap.size, 1, none⟩ = some (.int .i64 (if i = 0 then (gI [k2 p i 1 0 (keepT p t).c0, k2 p i 3 1 (keepT p t).c1, k2 p i 5 2 (keepT p t).c2, k2 p i 7 3 (keepT p t).c3] i) + 1 else k2 p i 1 0 (keepT p t).c0))), (w193.cell? ⟨w9.heap.size, 2, none⟩ = some (.int .i64 (if i = 1 then (gI [k2 p i 1 0 (keepT p t).c0, k2 p i 3 1 (keepT p t).c1, k2 p i 5 2 (keepT p t).c2, k2 p i 7 3 (keepT p t).c3] i) + 1 else k2 p i 3 1 (keepT p t).c1))), (w193.cell? ⟨w9.heap.size, 3, none⟩ = some (.int .i64 (if i = 2 then (gI [k2 p i 1 0 (keepT p t).c0, k2 p i 3 1 (keepT p t).c1, k2 p i 5 2 (keepT p t).c2, k2 p i 7 3 (keepT p t).c3] i) + 1 else k2 p i 5 2 (keepT p t).c2))), (w193.cell? ⟨w9.heap.size, 4, none⟩ = some (.int .i64 (if i = 3 then (gI [k2 p i 1 0 (keepT p t).c0, k2 p i 3 1 (keepT p t).c1, k2 p i 5 2 (keepT p t).c2, k2 p i 7 3 (keepT p t).c3] i) + 1 else k2 p i 7 3 (keepT p t).c3)))] (by kernel_rfl) ⟨(bx195.cell (i := 0) rfl), (bx195.cell (i := 1) rfl), (bx195.cell (i := 2) rfl), (bx195.cell (i := 3) rfl), (bx195.cell (i := 4) rfl), trivial⟩ ?_
       exact ⟨tup_ret (up_odd (by assumption) (by assumption) (inc_at hfu (by omega) (by omega) (by omega) (by omega) (by first | rfl | assumption) rfl)), e198⟩
      ·have q202 := of_decide_eq_false h178
       refine wp_skip ?_
       refine t_n ?_
       have f203 := f177.sub (r := [(8, .int .i64 (i)), (27, .int .i64 (i)), (6, .pointer (some ⟨w9.heap.size, 0, none⟩)), (5, .pointer (some ⟨w1.heap.size, 0, none⟩)), (3, .pointer (some ⟨w.heap.size, 0, none⟩)), (1, .int .i64 (p))]) ⟨rfl, rfl, rfl, rfl, rfl, rfl, trivial⟩
       clear f177
       refine At.start ?_
       refine At.rd f203 3 [[], [], []] [(52, .pointer (some ((⟨w1.heap.size, 1, none⟩ : Addr).add ((i : Int).toNat * 1)))), (51, .pointer (some ⟨w1.heap.size, 1, none⟩)), (50, .int .i64 (i))] [(0 ≤ (i : Int)), ((i : Int) < (4 : Nat))] (by kernel_rfl) ⟨(by omega), (by omega), trivial⟩ (fun act205 f204 => ?_)
       clear f203
       refine At.act f204 (storeArr (pre := [.bool (t.top)]) (l := [k2 p i 1 0 (keepT p t).c0, k2 p i 3 1 (keepT p t).c1, k2 p i 5 2 (keepT p t).c2, k2 p i 7 3 (keepT p t).c3]) (post := []) (t := 3) (v := 0) (i := i) (by kernel_rfl) (by kernel_rfl) bx175 rfl rfl (by omega) (by simp only [List.length_cons, List.length_nil]; omega)) ?_
       rintro d_ v_ w206 ⟨rfl, g207, bx208⟩
       refine ⟨_, rfl, fun act210 f209 => ?_⟩
       clear f204
       replace bx208 : Bx w206 (w1.heap.size) [.bool (t.top), .int .i64 (if i = 0 then 0 else k2 p i 1 0 (keepT p t).c0), .int .i64 (if i = 1 then 0 else k2 p i 3 1 (keepT p t).c1), .int .i64 (if i = 2 then 0 else k2 p i 5 2 (keepT p t).c2), .int .i64 (if i = 3 then 0 else k2 p i 7 3 (keepT p t).c3)] 41 := bx208.as (by rw [set4 i (by omega) (by omega)]; rfl)
       have szw206 := g207.size
       have e211 := e173.gr g207 (fun k h => by injection h; omega)
       clear e173
       have bx212 := bx174.gr g207 (fun h => by injection h; omega)
       clear bx174
       have bx213 := bx176.gr g207 (fun h => by injection h; omega)
       clear bx176
       clear bx175 g207
       refine At.done rfl ?_
       refine b_n ?_
       refine t_n ?_
       have f214 := f209.sub (r := [(27, .int .i64 (i)), (6, .pointer (some ⟨w9.heap.size, 0, none⟩)), (5, .pointer (some ⟨w1.heap.size, 0, none⟩)), (3, .pointer (some ⟨w.heap.size, 0, none⟩)), (1, .int .i64 (p))]) ⟨rfl, rfl, rfl, rfl, rfl, trivial⟩
       clear f209
       refine At.start ?_
       refine At.rd f214 2 [[.as_ (.int .i64 (i + 1))], []] [(27, .int .i64 (i + 1)), (53, .int .i64 (i + 1))] [((.int .i64 (IntKind.i64.wrap (i + 1)) : Value) = .int .i64 (i + 1))] (by kernel_rfl) ⟨(w64 (by omega) (by omega)), trivial⟩ (fun act216 f215 => ?_)
       clear f214
       refine At.done rfl ?_
       refine t_n ?_
       have f217 := f215.sub (r := [(27, .int .i64 (i + 1)), (6, .pointer (some ⟨w9.heap.size, 0, none⟩)), (5, .pointer (some ⟨w1.heap.size, 0, none⟩)), (3, .pointer (some ⟨w.heap.size, 0, none⟩)), (1, .int .i64 (p))]) ⟨rfl, rfl, rfl, rfl, rfl, trivial⟩
       exact ⟨_, (by omega), (i + 1), rfl, f217, e211, bx212, (bx208.as (by first | exact (v5_eq rfl (k2_keep (by omega) rfl) (k2_keep (by omega) rfl) (k2_keep (by omega) rfl) (k2_keep (by omega) rfl)) | exact (v5_eq rfl (k2_zero (by omega) rfl) (k2_zero (by omega) rfl) (k2_zero (by omega) rfl) (k2_zero (by omega) rfl)))), bx213, (by omega), (by omega), (by first | exact full_keep hfu (by omega) (by omega) | exact full_next hfu (by omega) (by omega) (by assumption))⟩
    ·have q218 := of_decide_eq_false h139
     refine wp_exit ?_
     refine t_e ?_
     refine t_e ?_
     refine b_e ?_
     refine t_n ?_
     have f219 := f137.sub (r := [(6, .pointer (some ⟨w9.heap.size, 0, none⟩))]) ⟨rfl, trivial⟩
     clear f137
     refine wp_seq ?_
     refine At.start ?_
     refine At.rd f219 1 [[]] [(54, .agg #[.bool true, .int .i64 (0), .int .i64 (0), .int .i64 (0), .int .i64 (0)])] [] (by kernel_rfl) trivial (fun act221 f220 => ?_)
     clear f219
     refine At.store f220 (t := 41) (b := w9.heap.size) (off := 0) (v := .agg #[.bool true, .int .i64 (0), .int .i64 (0), .int .i64 (0), .int .i64 (0)]) (by kernel_rfl) bx134 (by kernel_rfl) (fun act226 w222 g223 bx224 f225 => ?_)
     clear f220
     replace bx224 : Bx w222 (w9.heap.size) [.bool true, .int .i64 (0), .int .i64 (0), .int .i64 (0), .int .i64 (0)] 41 := bx224
     have szw222 := g223.size
     have e227 := e129.gr g223 (fun k h => by injection h; omega)
     clear e129
     have bx228 := bx132.gr g223 (fun h => by injection h; omega)
     clear bx132
     have bx229 := bx133.gr g223 (fun h => by injection h; omega)
     clear bx133
     clear bx134 g223
     refine At.done rfl ?_
     refine t_n ?_
     have f230 := f225.sub (r := [(6, .pointer (some ⟨w9.heap.size, 0, none⟩))]) ⟨rfl, trivial⟩
     clear f225
     refine wp_ret ?_
     refine ret_ f230 [[.bool true, .int .i64 (0), .int .i64 (0), .int .i64 (0), .int .i64 (0)]] [.agg #[.bool true, .int .i64 (0), .int .i64 (0), .int .i64 (0), .int .i64 (0)]] [(w222.cell? ⟨w9.heap.size, 0, none⟩ = some (.bool true)), (w222.cell? ⟨w9.heap.size, 1, none⟩ = some (.int .i64 (0))), (w222.cell? ⟨w9.heap.size, 2, none⟩ = some (.int .i64 (0))), (w222.cell? ⟨w9.heap.size, 3, none⟩ = some (.int .i64 (0))), (w222.cell? ⟨w9.heap.size, 4, none⟩ = some (.int .i64 (0)))] (by kernel_rfl) ⟨(bx224.cell (i := 0) rfl), (bx224.cell (i := 1) rfl), (bx224.cell (i := 2) rfl), (bx224.cell (i := 3) rfl), (bx224.cell (i := 4) rfl), trivial⟩ ?_
     exact ⟨tup_ret (by first | exact up_top (by assumption) | exact up_odd (by assumption) (by assumption) (inc_no hfu (by omega))), e227⟩

end Go.Proofs.Ytklbpajmoklheaa
