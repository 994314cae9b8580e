/-
  A walk of a Go function, printed by a program of this repo. Conditions: what the theorems name.
-/
import Derived.Test.YtklbpajmoklheaaPureTup
import Derived.Test.YtklbpajmoklheaaWTup
import Derived.Test.YtklbpajmoklheaaWCounts
set_option linter.unusedVariables false
set_option linter.unusedSimpArgs false
namespace Go.Proofs.Ytklbpajmoklheaa
open Go Go.RowKit

set_option maxHeartbeats 4000000 in
theorem upR_any {Ag0 Ag1 Ag2 : Option Addr} {cg0 cg1 cg2 : Nat} {g : GameL} {p : Int} {t : Tup} {w : World} (rg : RdG w 0 w.heap.size Ag0 Ag1 Ag2 cg0 cg1 cg2 g) (ht : okT t) :
    Calls Try.prog 48 #[.agg #[.slice Ag0 g.ow.length cg0, .slice Ag1 g.pr.length cg1, .slice Ag2 g.mv.length cg2], .int .i64 (p), tupV t] w fun e w' => e = .returned (.agg #[.bool (upT (cnt g.pr 1) (cnt g.pr 3) (cnt g.pr 5) (cnt g.pr 7) p t).top, .int .i64 (upT (cnt g.pr 1) (cnt g.pr 3) (cnt g.pr 5) (cnt g.pr 7) p t).c0, .int .i64 (upT (cnt g.pr 1) (cnt g.pr 3) (cnt g.pr 5) (cnt g.pr 7) p t).c1, .int .i64 (upT (cnt g.pr 1) (cnt g.pr 3) (cnt g.pr 5) (cnt g.pr 7) p t).c2, .int .i64 (upT (cnt g.pr 1) (cnt g.pr 3) (cnt g.pr 5) (cnt g.pr 7) p t).c3]) ∧ Ext w w' := by
 have hlg0 := rg.ow.len
 have hlg1 := rg.pr.len
 have hlg2 := rg.mv.len
 have hkg0 := rg.k0
 have hkg1 := rg.k1
 have hkg2 := rg.k2
 refine enter_ (args := [.agg #[.slice Ag0 g.ow.length cg0, .slice Ag1 g.pr.length cg1, .slice Ag2 g.mv.length cg2], .int .i64 (p), tupV t]) Try.func48 rfl Try.ntmps48 (Nat.le_of_ble_eq_true rfl) (fun act0 f0 => ?_)
 have e0 := Ext.refl w
 refine wp_seq ?_
 refine At.start ?_
 refine At.seq f0 1 [[]] [(3, .pointer (some ⟨w.heap.size, 0, none⟩))] (w.alloc (.cells #[.slice Ag0 g.ow.length cg0, .slice Ag1 g.pr.length cg1, .slice Ag2 g.mv.length cg2] 25 (0, 0))) [] (by kernel_rfl) trivial (fun act4 w1 hw2 f3 => ?_)
 clear f0
 have g5 := gr_alloc hw2
 have szw1 := g5.size
 have e7 := e0.gr g5 no_row
 clear e0
 have r8 := rg.gr g5 (fun _ h => by cases h)
 clear rg
 have bx9 : Bx w1 (w.heap.size) [.slice Ag0 g.ow.length cg0, .slice Ag1 g.pr.length cg1, .slice Ag2 g.mv.length cg2] 25 := Bx.new hw2
 have := bx9.lt
 clear g5 hw2
 refine At.seq f3 1 [[]] [(5, .pointer (some ⟨w1.heap.size, 0, none⟩))] (w1.alloc (.cells ((tupC t)).toArray 40 (0, 0))) [] (by kernel_rfl) trivial (fun act13 w10 hw11 f12 => ?_)
 clear f3
 have g14 := gr_alloc hw11
 have szw10 := g14.size
 have e16 := e7.gr g14 no_row
 clear e7
 have r17 := r8.gr g14 (fun _ h => by cases h)
 clear r8
 have bx18 := bx9.gr g14 (by simp)
 clear bx9
 have bx19 : Bx w10 (w1.heap.size) (tupC t) 40 := Bx.new hw11
 have := bx19.lt
 clear g14 hw11
 refine At.seq f12 1 [[]] [(6, .pointer (some ⟨w10.heap.size, 0, none⟩))] (w10.alloc (.cells #[.bool false, .int .i64 (0), .int .i64 (0), .int .i64 (0), .int .i64 (0)] 40 (0, 0))) [] (by kernel_rfl) trivial (fun act23 w20 hw21 f22 => ?_)
 clear f12
 have g24 := gr_alloc hw21
 have szw20 := g24.size
 have e26 := e16.gr g24 no_row
 clear e16
 have r27 := r17.gr g24 (fun _ h => by cases h)
 clear r17
 have bx28 := bx18.gr g24 (by simp)
 clear bx18
 have bx29 := bx19.gr g24 (by simp)
 clear bx19
 have bx30 : Bx w20 (w10.heap.size) [.bool false, .int .i64 (0), .int .i64 (0), .int .i64 (0), .int .i64 (0)] 40 := Bx.new hw21
 have := bx30.lt
 clear g24 hw21
 refine At.done rfl ?_
 refine t_n ?_
 have f31 := f22.sub (r := [(6, .pointer (some ⟨w10.heap.size, 0, none⟩)), (5, .pointer (some ⟨w1.heap.size, 0, none⟩)), (3, .pointer (some ⟨w.heap.size, 0, none⟩)), (1, .int .i64 (p))]) ⟨rfl, rfl, rfl, rfl, trivial⟩
 clear f22
 refine wp_seq ?_
 refine wp_seq ?_
 refine At.start ?_
 refine At.rd f31 2 [[], [.ld (.bool (t.top))]] [(11, .bool (t.top)), (10, .pointer (some ⟨w1.heap.size, 0, none⟩))] [(w20.cell? ⟨w1.heap.size, 0, none⟩ = some (.bool (t.top)))] (by kernel_rfl) ⟨(bx29.cell (i := 0) rfl), trivial⟩ (fun act33 f32 => ?_)
 clear f31
 refine At.done rfl ?_
 refine t_n ?_
 have f34 := f32.sub (r := [(11, .bool (t.top)), (6, .pointer (some ⟨w10.heap.size, 0, none⟩)), (5, .pointer (some ⟨w1.heap.size, 0, none⟩)), (3, .pointer (some ⟨w.heap.size, 0, none⟩)), (1, .int .i64 (p))]) ⟨rfl, rfl, rfl, rfl, rfl, trivial⟩
 clear f32
 refine cond_S f34 (t := t.top) rfl (fun h35 => ?_) (fun h35 => ?_)
 ·refine wp_seq ?_
  refine At.start ?_
  refine At.rd f34 1 [[]] [(12, .agg #[.bool true, .int .i64 (0), .int .i64 (0), .int .i64 (0), .int .i64 (0)])] [] (by kernel_rfl) trivial (fun act38 f37 => ?_)
  clear f34
  refine At.store f37 (t := 40) (b := w10.heap.size) (off := 0) (v := .agg #[.bool true, .int .i64 (0), .int .i64 (0), .int .i64 (0), .int .i64 (0)]) (by kernel_rfl) bx30 (by kernel_rfl) (fun act43 w39 g40 bx41 f42 => ?_)
  clear f37
  replace bx41 : Bx w39 (w10.heap.size) [.bool true, .int .i64 (0), .int .i64 (0), .int .i64 (0), .int .i64 (0)] 40 := bx41
  have szw39 := g40.size
  have e44 := e26.gr g40 (fun k h => by injection h; omega)
  clear e26
  have r45 := r27.gr g40 (fun k h => by injection h; omega)
  clear r27
  have bx46 := bx28.gr g40 (fun h => by injection h; omega)
  clear bx28
  have bx47 := bx29.gr g40 (fun h => by injection h; omega)
  clear bx29
  clear bx30 g40
  refine At.done rfl ?_
  refine t_n ?_
  have f48 := f42.sub (r := [(6, .pointer (some ⟨w10.heap.size, 0, none⟩))]) ⟨rfl, trivial⟩
  clear f42
  refine wp_ret ?_
  refine t_r ?_
  refine ret_ f48 [[.bool true, .int .i64 (0), .int .i64 (0), .int .i64 (0), .int .i64 (0)]] [.agg #[.bool true, .int .i64 (0), .int .i64 (0), .int .i64 (0), .int .i64 (0)]] [(w39.cell? ⟨w10.heap.size, 0, none⟩ = some (.bool true)), (w39.cell? ⟨w10.heap.size, 1, none⟩ = some (.int .i64 (0))), (w39.cell? ⟨w10.heap.size, 2, none⟩ = some (.int .i64 (0))), (w39.cell? ⟨w10.heap.size, 3, none⟩ = some (.int .i64 (0))), (w39.cell? ⟨w10.heap.size, 4, none⟩ = some (.int .i64 (0)))] (by kernel_rfl) ⟨(bx41.cell (i := 0) rfl), (bx41.cell (i := 1) rfl), (bx41.cell (i := 2) rfl), (bx41.cell (i := 3) rfl), (bx41.cell (i := 4) rfl), trivial⟩ ?_
  exact ⟨tup_ret (by first | exact up_top (by assumption) | exact up_odd (by assumption) (by assumption) (inc_no hfu (by omega))), e44⟩
 ·refine wp_skip ?_
  refine t_n ?_
  have f50 := f34.sub (r := [(6, .pointer (some ⟨w10.heap.size, 0, none⟩)), (5, .pointer (some ⟨w1.heap.size, 0, none⟩)), (3, .pointer (some ⟨w.heap.size, 0, none⟩)), (1, .int .i64 (p))]) ⟨rfl, rfl, rfl, rfl, trivial⟩
  clear f34
  refine wp_seq ?_
  refine At.start ?_
  refine At.rd f50 1 [[]] [(13, .agg #[.bool false, .int .i64 (0), .int .i64 (0), .int .i64 (0), .int .i64 (0)])] [] (by kernel_rfl) trivial (fun act52 f51 => ?_)
  clear f50
  refine At.seq f51 1 [[]] [(7, .pointer (some ⟨w20.heap.size, 0, none⟩))] (w20.alloc (.cells #[.bool false, .int .i64 (0), .int .i64 (0), .int .i64 (0), .int .i64 (0)] 40 (0, 0))) [] (by kernel_rfl) trivial (fun act56 w53 hw54 f55 => ?_)
  clear f51
  have g57 := gr_alloc hw54
  have szw53 := g57.size
  have e59 := e26.gr g57 no_row
  clear e26
  have r60 := r27.gr g57 (fun _ h => by cases h)
  clear r27
  have bx61 := bx28.gr g57 (by simp)
  clear bx28
  have bx62 := bx29.gr g57 (by simp)
  clear bx29
  have bx63 := bx30.gr g57 (by simp)
  clear bx30
  have bx64 : Bx w53 (w20.heap.size) [.bool false, .int .i64 (0), .int .i64 (0), .int .i64 (0), .int .i64 (0)] 40 := Bx.new hw54
  have := bx64.lt
  clear g57 hw54
  refine At.store f55 (t := 40) (b := w20.heap.size) (off := 0) (v := .agg #[.bool false, .int .i64 (0), .int .i64 (0), .int .i64 (0), .int .i64 (0)]) (by kernel_rfl) bx64 (by kernel_rfl) (fun act69 w65 g66 bx67 f68 => ?_)
  clear f55
  replace bx67 : Bx w65 (w20.heap.size) [.bool false, .int .i64 (0), .int .i64 (0), .int .i64 (0), .int .i64 (0)] 40 := bx67
  have szw65 := g66.size
  have e70 := e59.gr g66 (fun k h => by injection h; omega)
  clear e59
  have r71 := r60.gr g66 (fun k h => by injection h; omega)
  clear r60
  have bx72 := bx61.gr g66 (fun h => by injection h; omega)
  clear bx61
  have bx73 := bx62.gr g66 (fun h => by injection h; omega)
  clear bx62
  have bx74 := bx63.gr g66 (fun h => by injection h; omega)
  clear bx63
  clear bx64 g66
  refine At.done rfl ?_
  refine t_n ?_
  have f75 := f68.sub (r := [(7, .pointer (some ⟨w20.heap.size, 0, none⟩)), (6, .pointer (some ⟨w10.heap.size, 0, none⟩)), (5, .pointer (some ⟨w1.heap.size, 0, none⟩)), (3, .pointer (some ⟨w.heap.size, 0, none⟩)), (1, .int .i64 (p))]) ⟨rfl, rfl, rfl, rfl, rfl, trivial⟩
  clear f68
  refine wp_seq ?_
  refine wp_seq ?_
  refine At.start ?_
  refine At.rd f75 1 [[]] [(8, .int .i64 (0))] [] (by kernel_rfl) trivial (fun act77 f76 => ?_)
  clear f75
  refine At.done rfl ?_
  refine t_n ?_
  refine wp_block ?_
  have f78 := f76.sub (r := [(8, .int .i64 (0)), (7, .pointer (some ⟨w20.heap.size, 0, none⟩)), (6, .pointer (some ⟨w10.heap.size, 0, none⟩)), (5, .pointer (some ⟨w1.heap.size, 0, none⟩)), (3, .pointer (some ⟨w.heap.size, 0, none⟩)), (1, .int .i64 (p))]) ⟨rfl, rfl, rfl, rfl, rfl, rfl, trivial⟩
  refine loop_g (fun (m_ : Nat) a_ w_ => ∃ (k : Int), m_ = (4 - k).toNat ∧ (Frm 65 a_ [(8, .int .i64 (k)), (7, .pointer (some ⟨w20.heap.size, 0, none⟩)), (6, .pointer (some ⟨w10.heap.size, 0, none⟩)), (5, .pointer (some ⟨w1.heap.size, 0, none⟩)), (3, .pointer (some ⟨w.heap.size, 0, none⟩)), (1, .int .i64 (p))]) ∧ (Ext w w_) ∧ (RdG w_ 0 w.heap.size Ag0 Ag1 Ag2 cg0 cg1 cg2 g) ∧ (Bx w_ (w.heap.size) [.slice Ag0 g.ow.length cg0, .slice Ag1 g.pr.length cg1, .slice Ag2 g.mv.length cg2] 25) ∧ (Bx w_ (w1.heap.size) (tupC t) 40) ∧ (Bx w_ (w10.heap.size) [.bool false, .int .i64 (0), .int .i64 (0), .int .i64 (0), .int .i64 (0)] 40) ∧ (Bx w_ (w20.heap.size) [.bool false, .int .i64 (ko p k 1 0 t.c0), .int .i64 (ko p k 3 1 t.c1), .int .i64 (ko p k 5 2 t.c2), .int .i64 (ko p k 7 3 t.c3)] 40) ∧ (0 ≤ k) ∧ (k ≤ 4)) _ ⟨0, rfl, f78, e70, r71, bx72, bx73, bx74, (bx67.as (v5_eq rfl (ko0 (by omega)) (ko0 (by omega)) (ko0 (by omega)) (ko0 (by omega)))), (by omega), (by omega)⟩ ?_
  clear f78 f76
  clear r71
  clear bx72
  clear bx73
  clear bx74
  clear bx67
  clear e70
  intro m_ act79 w80 ⟨k, hm82, f83, e81, r84, bx85, bx86, bx87, bx88, i89, i90⟩
  have szw80 := e81.size
  have := bx85.lt
  have := bx86.lt
  have := bx87.lt
  have := bx88.lt
  refine wp_seq ?_
  refine wp_seq ?_
  refine At.start ?_
  refine At.rd f83 2 [[], []] [(15, .bool (decide ((k : Int) < 4))), (14, .int .i64 (k))] [] (by kernel_rfl) trivial (fun act92 f91 => ?_)
  clear f83
  refine At.done rfl ?_
  refine t_n ?_
  have f93 := f91.sub (r := [(15, .bool (decide ((k : Int) < 4))), (8, .int .i64 (k)), (7, .pointer (some ⟨w20.heap.size, 0, none⟩)), (6, .pointer (some ⟨w10.heap.size, 0, none⟩)), (5, .pointer (some ⟨w1.heap.size, 0, none⟩)), (3, .pointer (some ⟨w.heap.size, 0, none⟩)), (1, .int .i64 (p))]) ⟨rfl, rfl, rfl, rfl, rfl, rfl, rfl, trivial⟩
  clear f91
  refine cond_S f93 (t := decide ((k : Int) < 4)) rfl (fun h94 => ?_) (fun h94 => ?_)
  ·have q95 := of_decide_eq_true h94
   refine wp_skip ?_
   refine t_n ?_
   have f96 := f93.sub (r := [(8, .int .i64 (k)), (7, .pointer (some ⟨w20.heap.size, 0, none⟩)), (6, .pointer (some ⟨w10.heap.size, 0, none⟩)), (5, .pointer (some ⟨w1.heap.size, 0, none⟩)), (3, .pointer (some ⟨w.heap.size, 0, none⟩)), (1, .int .i64 (p))]) ⟨rfl, rfl, rfl, rfl, rfl, rfl, trivial⟩
   clear f93
   refine wp_seq ?_
   refine wp_block ?_
   refine wp_seq ?_
   refine At.start ?_
   refine At.rd f96 5 [[], [.as_ (.int .i64 (2 * k))], [.as_ (.int .i64 ((2 * k) + 1))], [], []] [(22, .bool (decide (((2 * k) + 1 : Int) ≥ p))), (21, .int .i64 (p)), (20, .int .i64 ((2 * k) + 1)), (19, .int .i64 (2 * k)), (18, .int .i64 (k))] [((.int .i64 (IntKind.i64.wrap (2 * k)) : Value) = .int .i64 (2 * k)), ((.int .i64 (IntKind.i64.wrap ((2 * k) + 1)) : Value) = .int .i64 ((2 * k) + 1))] (by kernel_rfl) ⟨(w64 (by omega) (by omega)), (w64 (by omega) (by omega)), trivial⟩ (fun act98 f97 => ?_)
   clear f96
   refine At.done rfl ?_
   refine t_n ?_
   have f99 := f97.sub (r := [(22, .bool (decide (((2 * k) + 1 : Int) ≥ p))), (8, .int .i64 (k)), (7, .pointer (some ⟨w20.heap.size, 0, none⟩)), (6, .pointer (some ⟨w10.heap.size, 0, none⟩)), (5, .pointer (some ⟨w1.heap.size, 0, none⟩)), (3, .pointer (some ⟨w.heap.size, 0, none⟩)), (1, .int .i64 (p))]) ⟨rfl, rfl, rfl, rfl, rfl, rfl, rfl, trivial⟩
   clear f97
   refine cond_S f99 (t := decide (((2 * k) + 1 : Int) ≥ p)) rfl (fun h100 => ?_) (fun h100 => ?_)
   ·have q101 := of_decide_eq_true h100
    refine At.start ?_
    refine At.rd f99 7 [[], [], [], [], [.ld (.int .i64 (gI [t.c0, t.c1, t.c2, t.c3] k))], [], []] [(29, .pointer (some ((⟨w20.heap.size, 1, none⟩ : Addr).add ((k : Int).toNat * 1)))), (28, .pointer (some ⟨w20.heap.size, 1, none⟩)), (27, .int .i64 (gI [t.c0, t.c1, t.c2, t.c3] k)), (26, .pointer (some ((⟨w1.heap.size, 1, none⟩ : Addr).add ((k : Int).toNat * 1)))), (25, .pointer (some ⟨w1.heap.size, 1, none⟩)), (24, .int .i64 (k)), (23, .int .i64 (k))] [(0 ≤ (k : Int)), ((k : Int) < (4 : Nat)), (w80.cell? ((⟨w1.heap.size, 1, none⟩ : Addr).add ((k : Int).toNat * 1)) = some (.int .i64 (gI [t.c0, t.c1, t.c2, t.c3] k))), (0 ≤ (k : Int)), ((k : Int) < (4 : Nat))] (by kernel_rfl) ⟨(by omega), (by omega), (Bx.arr (pre := [.bool (t.top)]) (l := [t.c0, t.c1, t.c2, t.c3]) (post := []) bx86 rfl k (by omega) (by simp only [List.length_cons, List.length_nil]; omega)), (by omega), (by omega), trivial⟩ (fun act103 f102 => ?_)
    clear f99
    refine At.act f102 (storeArr (pre := [.bool false]) (l := [ko p k 1 0 t.c0, ko p k 3 1 t.c1, ko p k 5 2 t.c2, ko p k 7 3 t.c3]) (post := []) (t := 3) (v := gI [t.c0, t.c1, t.c2, t.c3] k) (i := k) (by kernel_rfl) (by kernel_rfl) bx88 rfl rfl (by omega) (by simp only [List.length_cons, List.length_nil]; omega)) ?_
    rintro d_ v_ w104 ⟨rfl, g105, bx106⟩
    refine ⟨_, rfl, fun act108 f107 => ?_⟩
    clear f102
    replace bx106 : Bx w104 (w20.heap.size) [.bool false, .int .i64 (if k = 0 then gI [t.c0, t.c1, t.c2, t.c3] k else ko p k 1 0 t.c0), .int .i64 (if k = 1 then gI [t.c0, t.c1, t.c2, t.c3] k else ko p k 3 1 t.c1), .int .i64 (if k = 2 then gI [t.c0, t.c1, t.c2, t.c3] k else ko p k 5 2 t.c2), .int .i64 (if k = 3 then gI [t.c0, t.c1, t.c2, t.c3] k else ko p k 7 3 t.c3)] 40 := bx106.as (by rw [set4 k (by omega) (by omega)]; rfl)
    have szw104 := g105.size
    have e109 := e81.gr g105 (fun k h => by injection h; omega)
    clear e81
    have r110 := r84.gr g105 (fun k h => by injection h; omega)
    clear r84
    have bx111 := bx85.gr g105 (fun h => by injection h; omega)
    clear bx85
    have bx112 := bx86.gr g105 (fun h => by injection h; omega)
    clear bx86
    have bx113 := bx87.gr g105 (fun h => by injection h; omega)
    clear bx87
    clear bx88 g105
    refine At.done rfl ?_
    refine b_n ?_
    refine t_n ?_
    have f114 := f107.sub (r := [(8, .int .i64 (k)), (7, .pointer (some ⟨w20.heap.size, 0, none⟩)), (6, .pointer (some ⟨w10.heap.size, 0, none⟩)), (5, .pointer (some ⟨w1.heap.size, 0, none⟩)), (3, .pointer (some ⟨w.heap.size, 0, none⟩)), (1, .int .i64 (p))]) ⟨rfl, rfl, rfl, rfl, rfl, rfl, trivial⟩
    clear f107
    refine At.start ?_
    refine At.rd f114 3 [[], [.as_ (.int .i64 (k + 1))], []] [(8, .int .i64 (k + 1)), (17, .int .i64 (k + 1)), (16, .int .i64 (k))] [((.int .i64 (IntKind.i64.wrap (k + 1)) : Value) = .int .i64 (k + 1))] (by kernel_rfl) ⟨(w64 (by omega) (by omega)), trivial⟩ (fun act116 f115 => ?_)
    clear f114
    refine At.done rfl ?_
    refine t_n ?_
    have f117 := f115.sub (r := [(8, .int .i64 (k + 1)), (7, .pointer (some ⟨w20.heap.size, 0, none⟩)), (6, .pointer (some ⟨w10.heap.size, 0, none⟩)), (5, .pointer (some ⟨w1.heap.size, 0, none⟩)), (3, .pointer (some ⟨w.heap.size, 0, none⟩)), (1, .int .i64 (p))]) ⟨rfl, rfl, rfl, rfl, rfl, rfl, trivial⟩
    exact ⟨_, (by omega), (k + 1), rfl, f117, e109, r110, bx111, bx112, bx113, (bx106.as (by first | exact (v5_eq rfl (ko_no (by omega) rfl) (ko_no (by omega) rfl) (ko_no (by omega) rfl) (ko_no (by omega) rfl)) | exact ko_all (by omega) (by omega) (by omega))), (by omega), (by omega)⟩
   ·have q118 := of_decide_eq_false h100
    refine wp_skip ?_
    refine b_n ?_
    refine t_n ?_
    have f119 := f99.sub (r := [(8, .int .i64 (k)), (7, .pointer (some ⟨w20.heap.size, 0, none⟩)), (6, .pointer (some ⟨w10.heap.size, 0, none⟩)), (5, .pointer (some ⟨w1.heap.size, 0, none⟩)), (3, .pointer (some ⟨w.heap.size, 0, none⟩)), (1, .int .i64 (p))]) ⟨rfl, rfl, rfl, rfl, rfl, rfl, trivial⟩
    clear f99
    refine At.start ?_
    refine At.rd f119 3 [[], [.as_ (.int .i64 (k + 1))], []] [(8, .int .i64 (k + 1)), (17, .int .i64 (k + 1)), (16, .int .i64 (k))] [((.int .i64 (IntKind.i64.wrap (k + 1)) : Value) = .int .i64 (k + 1))] (by kernel_rfl) ⟨(w64 (by omega) (by omega)), trivial⟩ (fun act121 f120 => ?_)
    clear f119
    refine At.done rfl ?_
    refine t_n ?_
    have f122 := f120.sub (r := [(8, .int .i64 (k + 1)), (7, .pointer (some ⟨w20.heap.size, 0, none⟩)), (6, .pointer (some ⟨w10.heap.size, 0, none⟩)), (5, .pointer (some ⟨w1.heap.size, 0, none⟩)), (3, .pointer (some ⟨w.heap.size, 0, none⟩)), (1, .int .i64 (p))]) ⟨rfl, rfl, rfl, rfl, rfl, rfl, trivial⟩
    exact ⟨_, (by omega), (k + 1), rfl, f122, e81, r84, bx85, bx86, bx87, (bx88.as (by first | exact (v5_eq rfl (ko_no (by omega) rfl) (ko_no (by omega) rfl) (ko_no (by omega) rfl) (ko_no (by omega) rfl)) | exact ko_all (by omega) (by omega) (by omega))), (by omega), (by omega)⟩
  ·have q123 := of_decide_eq_false h94
   refine wp_exit ?_
   refine t_e ?_
   refine t_e ?_
   refine b_e ?_
   refine t_n ?_
   have f124 := f93.sub (r := [(7, .pointer (some ⟨w20.heap.size, 0, none⟩)), (6, .pointer (some ⟨w10.heap.size, 0, none⟩)), (3, .pointer (some ⟨w.heap.size, 0, none⟩)), (1, .int .i64 (p))]) ⟨rfl, rfl, rfl, rfl, trivial⟩
   clear f93
   refine wp_seq ?_
   refine wp_seq ?_
   refine At.start ?_
   refine At.rd f124 3 [[], [], []] [(32, .bool ((IntKind.i64.wrap ((BitVec.ofInt 64 p &&& BitVec.ofInt 64 1).toNat : Int) : Int) == 0)), (31, .int .i64 (IntKind.i64.wrap ((BitVec.ofInt 64 p &&& BitVec.ofInt 64 1).toNat : Int))), (30, .int .i64 (p))] [] (by kernel_rfl) trivial (fun act126 f125 => ?_)
   clear f124
   refine At.done rfl ?_
   refine t_n ?_
   have f127 := f125.sub (r := [(32, .bool ((IntKind.i64.wrap ((BitVec.ofInt 64 p &&& BitVec.ofInt 64 1).toNat : Int) : Int) == 0)), (7, .pointer (some ⟨w20.heap.size, 0, none⟩)), (6, .pointer (some ⟨w10.heap.size, 0, none⟩)), (3, .pointer (some ⟨w.heap.size, 0, none⟩)), (1, .int .i64 (p))]) ⟨rfl, rfl, rfl, rfl, rfl, trivial⟩
   clear f125
   refine cond_S f127 (t := (IntKind.i64.wrap ((BitVec.ofInt 64 p &&& BitVec.ofInt 64 1).toNat : Int) : Int) == 0) rfl (fun h128 => ?_) (fun h128 => ?_)
   ·have q129 := eq_of_beq h128
    refine wp_seq ?_
    refine At.start ?_
    refine At.rd f127 1 [[.ld (.bool false), .ld (.int .i64 (ko p k 1 0 t.c0)), .ld (.int .i64 (ko p k 3 1 t.c1)), .ld (.int .i64 (ko p k 5 2 t.c2)), .ld (.int .i64 (ko p k 7 3 t.c3))]] [(33, .agg #[.bool false, .int .i64 (ko p k 1 0 t.c0), .int .i64 (ko p k 3 1 t.c1), .int .i64 (ko p k 5 2 t.c2), .int .i64 (ko p k 7 3 t.c3)])] [(w80.cell? ⟨w20.heap.size, 0, none⟩ = some (.bool false)), (w80.cell? ⟨w20.heap.size, 1, none⟩ = some (.int .i64 (ko p k 1 0 t.c0))), (w80.cell? ⟨w20.heap.size, 2, none⟩ = some (.int .i64 (ko p k 3 1 t.c1))), (w80.cell? ⟨w20.heap.size, 3, none⟩ = some (.int .i64 (ko p k 5 2 t.c2))), (w80.cell? ⟨w20.heap.size, 4, none⟩ = some (.int .i64 (ko p k 7 3 t.c3)))] (by kernel_rfl) ⟨(bx88.cell (i := 0) rfl), (bx88.cell (i := 1) rfl), (bx88.cell (i := 2) rfl), (bx88.cell (i := 3) rfl), (bx88.cell (i := 4) rfl), trivial⟩ (fun act131 f130 => ?_)
    clear f127
    refine At.store f130 (t := 40) (b := w10.heap.size) (off := 0) (v := .agg #[.bool false, .int .i64 (ko p k 1 0 t.c0), .int .i64 (ko p k 3 1 t.c1), .int .i64 (ko p k 5 2 t.c2), .int .i64 (ko p k 7 3 t.c3)]) (by kernel_rfl) bx87 (by kernel_rfl) (fun act136 w132 g133 bx134 f135 => ?_)
    clear f130
    replace bx134 : Bx w132 (w10.heap.size) [.bool false, .int .i64 (ko p k 1 0 t.c0), .int .i64 (ko p k 3 1 t.c1), .int .i64 (ko p k 5 2 t.c2), .int .i64 (ko p k 7 3 t.c3)] 40 := bx134
    have szw132 := g133.size
    have e137 := e81.gr g133 (fun k h => by injection h; omega)
    clear e81
    have r138 := r84.gr g133 (fun k h => by injection h; omega)
    clear r84
    have bx139 := bx85.gr g133 (fun h => by injection h; omega)
    clear bx85
    have bx140 := bx86.gr g133 (fun h => by injection h; omega)
    clear bx86
    have bx141 := bx88.gr g133 (fun h => by injection h; omega)
    clear bx88
    clear bx87 g133
    refine At.done rfl ?_
    refine t_n ?_
    have f142 := f135.sub (r := [(6, .pointer (some ⟨w10.heap.size, 0, none⟩))]) ⟨rfl, trivial⟩
    clear f135
    refine wp_ret ?_
    refine t_r ?_
    refine ret_ f142 [[.bool false, .int .i64 (ko p k 1 0 t.c0), .int .i64 (ko p k 3 1 t.c1), .int .i64 (ko p k 5 2 t.c2), .int .i64 (ko p k 7 3 t.c3)]] [.agg #[.bool false, .int .i64 (ko p k 1 0 t.c0), .int .i64 (ko p k 3 1 t.c1), .int .i64 (ko p k 5 2 t.c2), .int .i64 (ko p k 7 3 t.c3)]] [(w132.cell? ⟨w10.heap.size, 0, none⟩ = some (.bool false)), (w132.cell? ⟨w10.heap.size, 1, none⟩ = some (.int .i64 (ko p k 1 0 t.c0))), (w132.cell? ⟨w10.heap.size, 2, none⟩ = some (.int .i64 (ko p k 3 1 t.c1))), (w132.cell? ⟨w10.heap.size, 3, none⟩ = some (.int .i64 (ko p k 5 2 t.c2))), (w132.cell? ⟨w10.heap.size, 4, none⟩ = some (.int .i64 (ko p k 7 3 t.c3)))] (by kernel_rfl) ⟨(bx134.cell (i := 0) rfl), (bx134.cell (i := 1) rfl), (bx134.cell (i := 2) rfl), (bx134.cell (i := 3) rfl), (bx134.cell (i := 4) rfl), trivial⟩ ?_
    exact ⟨tup_ret (by (obtain rfl : k = 4 := by omega); rw [ko4 (by omega), ko4 (by omega), ko4 (by omega), ko4 (by omega)]; exact up_even rfl (by assumption) (by assumption)), e137⟩
   ·have q143 := ne_of_beq_false h128
    refine wp_skip ?_
    refine t_n ?_
    have f144 := f127.sub (r := [(7, .pointer (some ⟨w20.heap.size, 0, none⟩)), (6, .pointer (some ⟨w10.heap.size, 0, none⟩)), (3, .pointer (some ⟨w.heap.size, 0, none⟩)), (1, .int .i64 (p))]) ⟨rfl, rfl, rfl, rfl, trivial⟩
    clear f127
    refine wp_seq ?_
    refine wp_seq ?_
    refine At.start ?_
    refine At.rd f144 1 [[]] [(9, .int .i64 (0))] [] (by kernel_rfl) trivial (fun act146 f145 => ?_)
    clear f144
    refine At.done rfl ?_
    refine t_n ?_
    refine wp_block ?_
    have f147 := f145.sub (r := [(9, .int .i64 (0)), (7, .pointer (some ⟨w20.heap.size, 0, none⟩)), (6, .pointer (some ⟨w10.heap.size, 0, none⟩)), (3, .pointer (some ⟨w.heap.size, 0, none⟩)), (1, .int .i64 (p))]) ⟨rfl, rfl, rfl, rfl, rfl, trivial⟩
    refine loop_g (fun (m_ : Nat) a_ w_ => ∃ (i : Int), m_ = (4 - i).toNat ∧ (Frm 65 a_ [(9, .int .i64 (i)), (7, .pointer (some ⟨w20.heap.size, 0, none⟩)), (6, .pointer (some ⟨w10.heap.size, 0, none⟩)), (3, .pointer (some ⟨w.heap.size, 0, none⟩)), (1, .int .i64 (p))]) ∧ (Ext w w_) ∧ (RdG w_ 0 w.heap.size Ag0 Ag1 Ag2 cg0 cg1 cg2 g) ∧ (Bx w_ (w.heap.size) [.slice Ag0 g.ow.length cg0, .slice Ag1 g.pr.length cg1, .slice Ag2 g.mv.length cg2] 25) ∧ (Bx w_ (w1.heap.size) (tupC t) 40) ∧ (Bx w_ (w10.heap.size) [.bool false, .int .i64 (0), .int .i64 (0), .int .i64 (0), .int .i64 (0)] 40) ∧ (Bx w_ (w20.heap.size) [.bool false, .int .i64 (k2 p i 1 0 (keepT p t).c0), .int .i64 (k2 p i 3 1 (keepT p t).c1), .int .i64 (k2 p i 5 2 (keepT p t).c2), .int .i64 (k2 p i 7 3 (keepT p t).c3)] 40) ∧ (0 ≤ i) ∧ (i ≤ 4) ∧ (full4 (cnt g.pr 1) (cnt g.pr 3) (cnt g.pr 5) (cnt g.pr 7) p i (keepT p t))) _ ⟨0, rfl, f147, e81, r84, bx85, bx86, bx87, (bx88.as (by (obtain rfl : k = 4 := by omega); rw [ko4 (by omega), ko4 (by omega), ko4 (by omega), ko4 (by omega)]; exact kp_k2 rfl)), (by omega), (by omega), full0⟩ ?_
    clear f147 f145
    clear r84
    clear bx85
    clear bx86
    clear bx87
    clear bx88
    clear e81
    intro m_ act148 w149 ⟨i, hm151, f152, e150, r153, bx154, bx155, bx156, bx157, i158, i159, hfu⟩
    have szw149 := e150.size
    have := bx154.lt
    have := bx155.lt
    have := bx156.lt
    have := bx157.lt
    refine wp_seq ?_
    refine wp_seq ?_
    refine At.start ?_
    refine At.rd f152 2 [[], []] [(35, .bool (decide ((i : Int) < 4))), (34, .int .i64 (i))] [] (by kernel_rfl) trivial (fun act161 f160 => ?_)
    clear f152
    refine At.done rfl ?_
    refine t_n ?_
    have f162 := f160.sub (r := [(35, .bool (decide ((i : Int) < 4))), (9, .int .i64 (i)), (7, .pointer (some ⟨w20.heap.size, 0, none⟩)), (6, .pointer (some ⟨w10.heap.size, 0, none⟩)), (3, .pointer (some ⟨w.heap.size, 0, none⟩)), (1, .int .i64 (p))]) ⟨rfl, rfl, rfl, rfl, rfl, rfl, trivial⟩
    clear f160
    refine cond_S f162 (t := decide ((i : Int) < 4)) rfl (fun h163 => ?_) (fun h163 => ?_)
    ·have q164 := of_decide_eq_true h163
     refine wp_skip ?_
     refine t_n ?_
     have f165 := f162.sub (r := [(9, .int .i64 (i)), (7, .pointer (some ⟨w20.heap.size, 0, none⟩)), (6, .pointer (some ⟨w10.heap.size, 0, none⟩)), (3, .pointer (some ⟨w.heap.size, 0, none⟩)), (1, .int .i64 (p))]) ⟨rfl, rfl, rfl, rfl, rfl, trivial⟩
     clear f162
     refine wp_seq ?_
     refine wp_block ?_
     refine wp_seq ?_
     refine wp_seq ?_
     refine At.start ?_
     refine At.rd f165 5 [[], [.as_ (.int .i64 (2 * i))], [.as_ (.int .i64 ((2 * i) + 1))], [], []] [(42, .bool (decide (((2 * i) + 1 : Int) < p))), (41, .int .i64 (p)), (40, .int .i64 ((2 * i) + 1)), (39, .int .i64 (2 * i)), (38, .int .i64 (i))] [((.int .i64 (IntKind.i64.wrap (2 * i)) : Value) = .int .i64 (2 * i)), ((.int .i64 (IntKind.i64.wrap ((2 * i) + 1)) : Value) = .int .i64 ((2 * i) + 1))] (by kernel_rfl) ⟨(w64 (by omega) (by omega)), (w64 (by omega) (by omega)), trivial⟩ (fun act167 f166 => ?_)
     clear f165
     refine At.done rfl ?_
     refine t_n ?_
     have f168 := f166.sub (r := [(42, .bool (decide (((2 * i) + 1 : Int) < p))), (9, .int .i64 (i)), (7, .pointer (some ⟨w20.heap.size, 0, none⟩)), (6, .pointer (some ⟨w10.heap.size, 0, none⟩)), (3, .pointer (some ⟨w.heap.size, 0, none⟩)), (1, .int .i64 (p))]) ⟨rfl, rfl, rfl, rfl, rfl, rfl, trivial⟩
     clear f166
     refine cond_S f168 (t := decide (((2 * i) + 1 : Int) < p)) rfl (fun h169 => ?_) (fun h169 => ?_)
     ·have q170 := of_decide_eq_true h169
      refine wp_exit ?_
      refine t_e ?_
      refine b_e ?_
      refine t_n ?_
      have f171 := f168.sub (r := [(9, .int .i64 (i)), (7, .pointer (some ⟨w20.heap.size, 0, none⟩)), (6, .pointer (some ⟨w10.heap.size, 0, none⟩)), (3, .pointer (some ⟨w.heap.size, 0, none⟩)), (1, .int .i64 (p))]) ⟨rfl, rfl, rfl, rfl, rfl, trivial⟩
      clear f168
      refine At.start ?_
      refine At.rd f171 3 [[], [.as_ (.int .i64 (i + 1))], []] [(9, .int .i64 (i + 1)), (37, .int .i64 (i + 1)), (36, .int .i64 (i))] [((.int .i64 (IntKind.i64.wrap (i + 1)) : Value) = .int .i64 (i + 1))] (by kernel_rfl) ⟨(w64 (by omega) (by omega)), trivial⟩ (fun act173 f172 => ?_)
      clear f171
      refine At.done rfl ?_
      refine t_n ?_
      have f174 := f172.sub (r := [(9, .int .i64 (i + 1)), (7, .pointer (some ⟨w20.heap.size, 0, none⟩)), (6, .pointer (some ⟨w10.heap.size, 0, none⟩)), (3, .pointer (some ⟨w.heap.size, 0, none⟩)), (1, .int .i64 (p))]) ⟨rfl, rfl, rfl, rfl, rfl, trivial⟩
      exact ⟨_, (by omega), (i + 1), rfl, f174, e150, r153, bx154, bx155, bx156, (bx157.as (by first | exact (v5_eq rfl (k2_keep (by omega) rfl) (k2_keep (by omega) rfl) (k2_keep (by omega) rfl) (k2_keep (by omega) rfl)) | exact (v5_eq rfl (k2_zero (by omega) rfl) (k2_zero (by omega) rfl) (k2_zero (by omega) rfl) (k2_zero (by omega) rfl)))), (by omega), (by omega), (by first | exact full_keep hfu (by omega) (by omega) | exact full_next hfu (by omega) (by omega) (by have := gI_cnt (l := g.pr) (i := i) (by omega) (by omega); omega))⟩
     ·have q175 := of_decide_eq_false h169
      refine wp_skip ?_
      refine t_n ?_
      have f176 := f168.sub (r := [(9, .int .i64 (i)), (7, .pointer (some ⟨w20.heap.size, 0, none⟩)), (6, .pointer (some ⟨w10.heap.size, 0, none⟩)), (3, .pointer (some ⟨w.heap.size, 0, none⟩)), (1, .int .i64 (p))]) ⟨rfl, rfl, rfl, rfl, rfl, trivial⟩
      clear f168
      refine wp_seq ?_
      refine wp_seq ?_
      obtain ⟨Cs177, hCs178⟩ : ∃ c : List (Addr × Value), c = [(((⟨w20.heap.size, 1, none⟩ : Addr).add ((i : Int).toNat * 1)), (.int .i64 (gI [k2 p i 1 0 (keepT p t).c0, k2 p i 3 1 (keepT p t).c1, k2 p i 5 2 (keepT p t).c2, k2 p i 7 3 (keepT p t).c3] i))), (⟨w.heap.size, 0, none⟩, (.slice Ag0 g.ow.length cg0)), (⟨w.heap.size, 1, none⟩, (.slice Ag1 g.pr.length cg1)), (⟨w.heap.size, 2, none⟩, (.slice Ag2 g.mv.length cg2))] := ⟨_, rfl⟩
      have hS179 : HoldsC Cs177 w149 := by rw [hCs178]; exact ⟨(Bx.arr (pre := [.bool false]) (l := [k2 p i 1 0 (keepT p t).c0, k2 p i 3 1 (keepT p t).c1, k2 p i 5 2 (keepT p t).c2, k2 p i 7 3 (keepT p t).c3]) (post := []) bx157 rfl i (by omega) (by simp only [List.length_cons, List.length_nil]; omega)), (bx154.cell (i := 0) rfl), (bx154.cell (i := 1) rfl), (bx154.cell (i := 2) rfl), trivial⟩
      refine AtH.start Cs177 10 #[false, false, false, false, false, false, false, false, false, false] (by kernel_rfl) rfl rfl (fun w181 hw182 => ?_)
      have g180 := gr_drew hw182
      have hS183 := hS179.gr g180
      have szw181 := g180.size
      have e184 := e150.gr g180 no_row
      clear e150
      have r185 := r153.gr g180 (fun _ h => by cases h)
      clear r153
      have bx186 := bx154.gr g180 (by simp)
      clear bx154
      have bx187 := bx155.gr g180 (by simp)
      clear bx155
      have bx188 := bx156.gr g180 (by simp)
      clear bx156
      have bx189 := bx157.gr g180 (by simp)
      clear bx157
      clear g180 hw182 hS179
      refine AtH.rd (by kernel_rfl) (fun d v c a w h => by cases d <;> exact h) hS183 [0, 1, 2, 3, 4, 5, 6, 7] [[], [], [], [.ld (.int .i64 (gI [k2 p i 1 0 (keepT p t).c0, k2 p i 3 1 (keepT p t).c1, k2 p i 5 2 (keepT p t).c2, k2 p i 7 3 (keepT p t).c3] i))], [.ld (.slice Ag0 g.ow.length cg0), .ld (.slice Ag1 g.pr.length cg1), .ld (.slice Ag2 g.mv.length cg2)], [], [.as_ (.int .i64 (2 * i))], [.as_ (.int .i64 ((2 * i) + 1))]] [(50, .int .i64 ((2 * i) + 1)), (49, .int .i64 (2 * i)), (48, .int .i64 (i)), (47, .agg #[.slice Ag0 g.ow.length cg0, .slice Ag1 g.pr.length cg1, .slice Ag2 g.mv.length cg2]), (46, .int .i64 (gI [k2 p i 1 0 (keepT p t).c0, k2 p i 3 1 (keepT p t).c1, k2 p i 5 2 (keepT p t).c2, k2 p i 7 3 (keepT p t).c3] i)), (45, .pointer (some ((⟨w20.heap.size, 1, none⟩ : Addr).add ((i : Int).toNat * 1)))), (44, .pointer (some ⟨w20.heap.size, 1, none⟩)), (43, .int .i64 (i))] #[true, true, true, true, true, true, true, true, false, false] [(0 ≤ (i : Int)), ((i : Int) < (4 : Nat)), (∃ j_ : Nat, Cs177[j_]? = some (((⟨w20.heap.size, 1, none⟩ : Addr).add ((i : Int).toNat * 1)), (.int .i64 (gI [k2 p i 1 0 (keepT p t).c0, k2 p i 3 1 (keepT p t).c1, k2 p i 5 2 (keepT p t).c2, k2 p i 7 3 (keepT p t).c3] i)))), (∃ j_ : Nat, Cs177[j_]? = some (⟨w.heap.size, 0, none⟩, (.slice Ag0 g.ow.length cg0))), (∃ j_ : Nat, Cs177[j_]? = some (⟨w.heap.size, 1, none⟩, (.slice Ag1 g.pr.length cg1))), (∃ j_ : Nat, Cs177[j_]? = some (⟨w.heap.size, 2, none⟩, (.slice Ag2 g.mv.length cg2))), ((.int .i64 (IntKind.i64.wrap (2 * i)) : Value) = .int .i64 (2 * i)), ((.int .i64 (IntKind.i64.wrap ((2 * i) + 1)) : Value) = .int .i64 ((2 * i) + 1))] 2 f176 (by kernel_rfl) ⟨(by omega), (by omega), ⟨0, by rw [hCs178]; rfl⟩, ⟨1, by rw [hCs178]; rfl⟩, ⟨2, by rw [hCs178]; rfl⟩, ⟨3, by rw [hCs178]; rfl⟩, (w64 (by omega) (by omega)), (w64 (by omega) (by omega)), trivial⟩ (fun act191 f190 => ?_)
      clear f176
      refine AtH.all [8] 1 (by kernel_rfl) (by simp) ⟨?_, trivial⟩
      refine OneH.call f190 56 #[.agg #[.slice Ag0 g.ow.length cg0, .slice Ag1 g.pr.length cg1, .slice Ag2 g.mv.length cg2], .int .i64 ((2 * i) + 1)] (some 51) #[true, true, true, true, true, true, true, true, true, false] (by kernel_rfl) (by kernel_rfl) (many_any (p := (2 * i) + 1) (r185.wide (Nat.zero_le _) (by omega))) ?_
      rintro e_ w193 ⟨rfl, he⟩
      refine ⟨_, rfl, _, rfl, fun act194 f195 => ?_⟩
      clear f190
      have g196 := gr_ext he
      have hS192 := hS183.gr g196
      have szw193 := g196.size
      have e197 := e184.gr g196 no_row
      clear e184
      have r198 := r185.gr g196 (fun _ h => by cases h)
      clear r185
      have bx199 := bx186.gr g196 (by simp)
      clear bx186
      have bx200 := bx187.gr g196 (by simp)
      clear bx187
      have bx201 := bx188.gr g196 (by simp)
      clear bx188
      have bx202 := bx189.gr g196 (by simp)
      clear bx189
      clear g196 he
      refine ⟨hS192, ?_⟩
      refine AtH.rd (by kernel_rfl) (fun d v c a w h => by cases d <;> exact h) hS192 [9] [[]] [(52, .bool (decide ((gI [k2 p i 1 0 (keepT p t).c0, k2 p i 3 1 (keepT p t).c1, k2 p i 5 2 (keepT p t).c2, k2 p i 7 3 (keepT p t).c3] i : Int) < (cnt g.pr ((2 * i) + 1)))))] #[true, true, true, true, true, true, true, true, true, true] [] 0 f195 (by kernel_rfl) trivial (fun act204 f203 => ?_)
      clear f195
      refine AtH.done (by kernel_rfl) ?_
      clear hS192
      refine t_n ?_
      have f205 := f203.sub (r := [(52, .bool (decide ((gI [k2 p i 1 0 (keepT p t).c0, k2 p i 3 1 (keepT p t).c1, k2 p i 5 2 (keepT p t).c2, k2 p i 7 3 (keepT p t).c3] i : Int) < (cnt g.pr ((2 * i) + 1))))), (9, .int .i64 (i)), (7, .pointer (some ⟨w20.heap.size, 0, none⟩)), (6, .pointer (some ⟨w10.heap.size, 0, none⟩)), (3, .pointer (some ⟨w.heap.size, 0, none⟩)), (1, .int .i64 (p))]) ⟨rfl, rfl, rfl, rfl, rfl, rfl, trivial⟩
      clear f203
      refine cond_S f205 (t := decide ((gI [k2 p i 1 0 (keepT p t).c0, k2 p i 3 1 (keepT p t).c1, k2 p i 5 2 (keepT p t).c2, k2 p i 7 3 (keepT p t).c3] i : Int) < (cnt g.pr ((2 * i) + 1)))) rfl (fun h206 => ?_) (fun h206 => ?_)
      ·have q207 := of_decide_eq_true h206
       refine wp_seq ?_
       have hko := keep_ok (p := p) ht
       have hlb := gI4_lb (B := -9223372036854775808) (i := i) (by omega) (by omega) (k2_lb (p := p) (k := i) (q := 1) (j := 0) (by omega) hko.1) (k2_lb (p := p) (k := i) (q := 3) (j := 1) (by omega) hko.2.1) (k2_lb (p := p) (k := i) (q := 5) (j := 2) (by omega) hko.2.2.1) (k2_lb (p := p) (k := i) (q := 7) (j := 3) (by omega) hko.2.2.2)
       have hub := cnt_le g.pr (2 * i + 1)
       have hgc := gI_cnt (l := g.pr) (i := i) (by omega) (by omega)
       refine At.start ?_
       refine At.rd f205 7 [[], [], [], [.ld (.int .i64 (gI [k2 p i 1 0 (keepT p t).c0, k2 p i 3 1 (keepT p t).c1, k2 p i 5 2 (keepT p t).c2, k2 p i 7 3 (keepT p t).c3] i))], [.as_ (.int .i64 ((gI [k2 p i 1 0 (keepT p t).c0, k2 p i 3 1 (keepT p t).c1, k2 p i 5 2 (keepT p t).c2, k2 p i 7 3 (keepT p t).c3] i) + 1))], [], []] [(59, .pointer (some ((⟨w20.heap.size, 1, none⟩ : Addr).add ((i : Int).toNat * 1)))), (58, .pointer (some ⟨w20.heap.size, 1, none⟩)), (57, .int .i64 ((gI [k2 p i 1 0 (keepT p t).c0, k2 p i 3 1 (keepT p t).c1, k2 p i 5 2 (keepT p t).c2, k2 p i 7 3 (keepT p t).c3] i) + 1)), (56, .int .i64 (gI [k2 p i 1 0 (keepT p t).c0, k2 p i 3 1 (keepT p t).c1, k2 p i 5 2 (keepT p t).c2, k2 p i 7 3 (keepT p t).c3] i)), (55, .pointer (some ((⟨w20.heap.size, 1, none⟩ : Addr).add ((i : Int).toNat * 1)))), (54, .pointer (some ⟨w20.heap.size, 1, none⟩)), (53, .int .i64 (i))] [(0 ≤ (i : Int)), ((i : Int) < (4 : Nat)), (w193.cell? ((⟨w20.heap.size, 1, none⟩ : Addr).add ((i : Int).toNat * 1)) = some (.int .i64 (gI [k2 p i 1 0 (keepT p t).c0, k2 p i 3 1 (keepT p t).c1, k2 p i 5 2 (keepT p t).c2, k2 p i 7 3 (keepT p t).c3] i))), ((.int .i64 (IntKind.i64.wrap ((gI [k2 p i 1 0 (keepT p t).c0, k2 p i 3 1 (keepT p t).c1, k2 p i 5 2 (keepT p t).c2, k2 p i 7 3 (keepT p t).c3] i) + 1)) : Value) = .int .i64 ((gI [k2 p i 1 0 (keepT p t).c0, k2 p i 3 1 (keepT p t).c1, k2 p i 5 2 (keepT p t).c2, k2 p i 7 3 (keepT p t).c3] i) + 1)), (0 ≤ (i : Int)), ((i : Int) < (4 : Nat))] (by kernel_rfl) ⟨(by omega), (by omega), (Bx.arr (pre := [.bool false]) (l := [k2 p i 1 0 (keepT p t).c0, k2 p i 3 1 (keepT p t).c1, k2 p i 5 2 (keepT p t).c2, k2 p i 7 3 (keepT p t).c3]) (post := []) bx202 rfl i (by omega) (by simp only [List.length_cons, List.length_nil]; omega)), (w64 (by omega) (by omega)), (by omega), (by omega), trivial⟩ (fun act209 f208 => ?_)
       clear f205
       refine At.act f208 (storeArr (pre := [.bool false]) (l := [k2 p i 1 0 (keepT p t).c0, k2 p i 3 1 (keepT p t).c1, k2 p i 5 2 (keepT p t).c2, k2 p i 7 3 (keepT p t).c3]) (post := []) (t := 3) (v := (gI [k2 p i 1 0 (keepT p t).c0, k2 p i 3 1 (keepT p t).c1, k2 p i 5 2 (keepT p t).c2, k2 p i 7 3 (keepT p t).c3] i) + 1) (i := i) (by kernel_rfl) (by kernel_rfl) bx202 rfl rfl (by omega) (by simp only [List.length_cons, List.length_nil]; omega)) ?_
       rintro d_ v_ w210 ⟨rfl, g211, bx212⟩
       refine ⟨_, rfl, fun act214 f213 => ?_⟩
       clear f208
       replace bx212 : Bx w210 (w20.heap.size) [.bool false, .int .i64 (if i = 0 then (gI [k2 p i 1 0 (keepT p t).c0, k2 p i 3 1 (keepT p t).c1, k2 p i 5 2 (keepT p t).c2, k2 p i 7 3 (keepT p t).c3] i) + 1 else k2 p i 1 0 (keepT p t).c0), .int .i64 (if i = 1 then (gI [k2 p i 1 0 (keepT p t).c0, k2 p i 3 1 (keepT p t).c1, k2 p i 5 2 (keepT p t).c2, k2 p i 7 3 (keepT p t).c3] i) + 1 else k2 p i 3 1 (keepT p t).c1), .int .i64 (if i = 2 then (gI [k2 p i 1 0 (keepT p t).c0, k2 p i 3 1 (keepT p t).c1, k2 p i 5 2 (keepT p t).c2, k2 p i 7 3 (keepT p t).c3] i) + 1 else k2 p i 5 2 (keepT p t).c2), .int .i64 (if i = 3 then (gI [k2 p i 1 0 (keepT p t).c0, k2 p i 3 1 (keepT p t).c1, k2 p i 5 2 (keepT p t).c2, k2 p i 7 3 (keepT p t).c3] i) + 1 else k2 p i 7 3 (keepT p t).c3)] 40 := bx212.as (by rw [set4 i (by omega) (by omega)]; rfl)
       have szw210 := g211.size
       have e215 := e197.gr g211 (fun k h => by injection h; omega)
       clear e197
       have r216 := r198.gr g211 (fun k h => by injection h; omega)
       clear r198
       have bx217 := bx199.gr g211 (fun h => by injection h; omega)
       clear bx199
       have bx218 := bx200.gr g211 (fun h => by injection h; omega)
       clear bx200
       have bx219 := bx201.gr g211 (fun h => by injection h; omega)
       clear bx201
       clear bx202 g211
       refine At.done rfl ?_
       refine t_n ?_
       have f220 := f213.sub (r := [(7, .pointer (some ⟨w20.heap.size, 0, none⟩)), (6, .pointer (some ⟨w10.heap.size, 0, none⟩))]) ⟨rfl, rfl, trivial⟩
       clear f213
       refine wp_seq ?_
       refine At.start ?_
       refine At.rd f220 1 [[.ld (.bool false), .ld (.int .i64 (if i = 0 then (gI [k2 p i 1 0 (keepT p t).c0, k2 p i 3 1 (keepT p t).c1, k2 p i 5 2 (keepT p t).c2, k2 p i 7 3 (keepT p t).c3] i) + 1 else k2 p i 1 0 (keepT p t).c0)), .ld (.int .i64 (if i = 1 then (gI [k2 p i 1 0 (keepT p t).c0, k2 p i 3 1 (keepT p t).c1, k2 p i 5 2 (keepT p t).c2, k2 p i 7 3 (keepT p t).c3] i) + 1 else k2 p i 3 1 (keepT p t).c1)), .ld (.int .i64 (if i = 2 then (gI [k2 p i 1 0 (keepT p t).c0, k2 p i 3 1 (keepT p t).c1, k2 p i 5 2 (keepT p t).c2, k2 p i 7 3 (keepT p t).c3] i) + 1 else k2 p i 5 2 (keepT p t).c2)), .ld (.int .i64 (if i = 3 then (gI [k2 p i 1 0 (keepT p t).c0, k2 p i 3 1 (keepT p t).c1, k2 p i 5 2 (keepT p t).c2, k2 p i 7 3 (keepT p t).c3] i) + 1 else k2 p i 7 3 (keepT p t).c3))]] [(60, .agg #[.bool false, .int .i64 (if i = 0 then (gI [k2 p i 1 0 (keepT p t).c0, k2 p i 3 1 (keepT p t).c1, k2 p i 5 2 (keepT p t).c2, k2 p i 7 3 (keepT p t).c3] i) + 1 else k2 p i 1 0 (keepT p t).c0), .int .i64 (if i = 1 then (gI [k2 p i 1 0 (keepT p t).c0, k2 p i 3 1 (keepT p t).c1, k2 p i 5 2 (keepT p t).c2, k2 p i 7 3 (keepT p t).c3] i) + 1 else k2 p i 3 1 (keepT p t).c1), .int .i64 (if i = 2 then (gI [k2 p i 1 0 (keepT p t).c0, k2 p i 3 1 (keepT p t).c1, k2 p i 5 2 (keepT p t).c2, k2 p i 7 3 (keepT p t).c3] i) + 1 else k2 p i 5 2 (keepT p t).c2), .int .i64 (if i = 3 then (gI [k2 p i 1 0 (keepT p t).c0, k2 p i 3 1 (keepT p t).c1, k2 p i 5 2 (keepT p t).c2, k2 p i 7 3 (keepT p t).c3] i) + 1 else k2 p i 7 3 (keepT p t).c3)])] [(w210.cell? ⟨w20.heap.size, 0, none⟩ = some (.bool false)), (w210.cell? ⟨w20.heap.size, 1, none⟩ = some (.int .i64 (if i = 0 then (gI [k2 p i 1 0 (keepT p t).c0, k2 p i 3 1 (keepT p t).c1, k2 p i 5 2 (keepT p t).c2, k2 p i 7 3 (keepT p t).c3] i) + 1 else k2 p i 1 0 (keepT p t).c0))), (w210.cell? ⟨w20.heap.size, 2, none⟩ = some (.int .i64 (if i = 1 then (gI [k2 p i 1 0 (keepT p t).c0, k2 p i 3 1 (keepT p t).c1, k2 p i 5 2 (keepT p t).c2, k2 p i 7 3 (keepT p t).c3] i) + 1 else k2 p i 3 1 (keepT p t).c1))), (w210.cell? ⟨w20.heap.size, 3, none⟩ = some (.int .i64 (if i = 2 then (gI [k2 p i 1 0 (keepT p t).c0, k2 p i 3 1 (keepT p t).c1, k2 p i 5 2 (keepT p t).c2, k2 p i 7 3 (keepT p t).c3] i) + 1 else k2 p i 5 2 (keepT p t).c2))), (w210.cell? ⟨w20.heap.size, 4, none⟩ = some (.int .i64 (if i = 3 then (gI [k2 p i 1 0 (keepT p t).c0, k2 p i 3 1 (keepT p t).c1, k2 p i 5 2 (keepT p t).c2, k2 p i 7 3 (keepT p t).c3] i) + 1 else k2 p i 7 3 (keepT p t).c3)))] (by kernel_rfl) ⟨(bx212.cell (i := 0) rfl), (bx212.cell (i := 1) rfl), (bx212.cell (i := 2) rfl), (bx212.cell (i := 3) rfl), (bx212.cell (i := 4) rfl), trivial⟩ (fun act222 f221 => ?_)
       clear f220
       refine At.store f221 (t := 40) (b := w10.heap.size) (off := 0) (v := .agg #[.bool false, .int .i64 (if i = 0 then (gI [k2 p i 1 0 (keepT p t).c0, k2 p i 3 1 (keepT p t).c1, k2 p i 5 2 (keepT p t).c2, k2 p i 7 3 (keepT p t).c3] i) + 1 else k2 p i 1 0 (keepT p t).c0), .int .i64 (if i = 1 then (gI [k2 p i 1 0 (keepT p t).c0, k2 p i 3 1 (keepT p t).c1, k2 p i 5 2 (keepT p t).c2, k2 p i 7 3 (keepT p t).c3] i) + 1 else k2 p i 3 1 (keepT p t).c1), .int .i64 (if i = 2 then (gI [k2 p i 1 0 (keepT p t).c0, k2 p i 3 1 (keepT p t).c1, k2 p i 5 2 (keepT p t).c2, k2 p i 7 3 (keepT p t).c3] i) + 1 else k2 p i 5 2 (keepT p t).c2), .int .i64 (if i = 3 then (gI [k2 p i 1 0 (keepT p t).c0, k2 p i 3 1 (keepT p t).c1, k2 p i 5 2 (keepT p t).c2, k2 p i 7 3 (keepT p t).c3] i) + 1 else k2 p i 7 3 (keepT p t).c3)]) (by kernel_rfl) bx219 (by kernel_rfl) (fun act227 w223 g224 bx225 f226 => ?_)
       clear f221
       replace bx225 : Bx w223 (w10.heap.size) [.bool false, .int .i64 (if i = 0 then (gI [k2 p i 1 0 (keepT p t).c0, k2 p i 3 1 (keepT p t).c1, k2 p i 5 2 (keepT p t).c2, k2 p i 7 3 (keepT p t).c3] i) + 1 else k2 p i 1 0 (keepT p t).c0), .int .i64 (if i = 1 then (gI [k2 p i 1 0 (keepT p t).c0, k2 p i 3 1 (keepT p t).c1, k2 p i 5 2 (keepT p t).c2, k2 p i 7 3 (keepT p t).c3] i) + 1 else k2 p i 3 1 (keepT p t).c1), .int .i64 (if i = 2 then (gI [k2 p i 1 0 (keepT p t).c0, k2 p i 3 1 (keepT p t).c1, k2 p i 5 2 (keepT p t).c2, k2 p i 7 3 (keepT p t).c3] i) + 1 else k2 p i 5 2 (keepT p t).c2), .int .i64 (if i = 3 then (gI [k2 p i 1 0 (keepT p t).c0, k2 p i 3 1 (keepT p t).c1, k2 p i 5 2 (keepT p t).c2, k2 p i 7 3 (keepT p t).c3] i) + 1 else k2 p i 7 3 (keepT p t).c3)] 40 := bx225
       have szw223 := g224.size
       have e228 := e215.gr g224 (fun k h => by injection h; omega)
       clear e215
       have r229 := r216.gr g224 (fun k h => by injection h; omega)
       clear r216
       have bx230 := bx217.gr g224 (fun h => by injection h; omega)
       clear bx217
       have bx231 := bx218.gr g224 (fun h => by injection h; omega)
       clear bx218
       have bx232 := bx212.gr g224 (fun h => by injection h; omega)
       clear bx212
       clear bx219 g224
       refine At.done rfl ?_
       refine t_n ?_
       have f233 := f226.sub (r := [(6, .pointer (some ⟨w10.heap.size, 0, none⟩))]) ⟨rfl, trivial⟩
       clear f226
       refine wp_ret ?_
       refine t_r ?_
       refine b_r ?_
       refine t_r ?_
       refine t_r ?_
       refine b_r ?_
       refine t_r ?_
       refine ret_ f233 [[.bool false, .int .i64 (if i = 0 then (gI [k2 p i 1 0 (keepT p t).c0, k2 p i 3 1 (keepT p t).c1, k2 p i 5 2 (keepT p t).c2, k2 p i 7 3 (keepT p t).c3] i) + 1 else k2 p i 1 0 (keepT p t).c0), .int .i64 (if i = 1 then (gI [k2 p i 1 0 (keepT p t).c0, k2 p i 3 1 (keepT p t).c1, k2 p i 5 2 (keepT p t).c2, k2 p i 7 3 (keepT p t).c3] i) + 1 else k2 p i 3 1 (keepT p t).c1), .int .i64 (if i = 2 then (gI [k2 p i 1 0 (keepT p t).c0, k2 p i 3 1 (keepT p t).c1, k2 p i 5 2 (keepT p t).c2, k2 p i 7 3 (keepT p t).c3] i) + 1 else k2 p i 5 2 (keepT p t).c2), .int .i64 (if i = 3 then (gI [k2 p i 1 0 (keepT p t).c0, k2 p i 3 1 (keepT p t).c1, k2 p i 5 2 (keepT p t).c2, k2 p i 7 3 (keepT p t).c3] i) + 1 else k2 p i 7 3 (keepT p t).c3)]] [.agg #[.bool false, .int .i64 (if i = 0 then (gI [k2 p i 1 0 (keepT p t).c0, k2 p i 3 1 (keepT p t).c1, k2 p i 5 2 (keepT p t).c2, k2 p i 7 3 (keepT p t).c3] i) + 1 else k2 p i 1 0 (keepT p t).c0), .int .i64 (if i = 1 then (gI [k2 p i 1 0 (keepT p t).c0, k2 p i 3 1 (keepT p t).c1, k2 p i 5 2 (keepT p t).c2, k2 p i 7 3 (keepT p t).c3] i) + 1 else k2 p i 3 1 (keepT p t).c1), .int .i64 (if i = 2 then (gI [k2 p i 1 0 (keepT p t).c0, k2 p i 3 1 (keepT p t).c1, k2 p i 5 2 (keepT p t).c2, k2 p i 7 3 (keepT p t).c3] i) + 1 else k2 p i 5 2 (keepT p t).c2), .int .i64 (if i = 3 then (gI [k2 p i 1 0 (keepT p t).c0, k2 p i 3 1 (keepT p t).c1, k2 p i 5 2 (keepT p t).c2, k2 p i 7 3 (keepT p t).c3] i) + 1 else k2 p i 7 3 (keepT p t).c3)]] [(w223.cell? ⟨w10.heap.size, 0, none⟩ = some (.bool false)), (w223.cell? ⟨w10.heap.size, 1, none⟩ = some (.int .i64 (if i = 0 then (gI [k2 p i 1 0 (keepT p t).c0, k2 p i 3 1 (keepT p t).c1, k2 p i 5 2 (keepT p t).c2, k2 p i 7 3 (keepT p t).c3] i) + 1 else k2 p i 1 0 (keepT p t).c0))), (w223.cell? ⟨w10.heap.size, 2, none⟩ = some (.int .i64 (if i = 1 then (gI [k2 p i 1 0 (keepT p t).c0, k2 p i 3 1 (keepT p t).c1, k2 p i 5 2 (keepT p t).c2, k2 p i 7 3 (keepT p t).c3] i) + 1 else k2 p i 3 1 (keepT p t).c1))), (w223.cell? ⟨w10.heap.size, 3, none⟩ = some (.int .i64 (if i = 2 then (gI [k2 p i 1 0 (keepT p t).c0, k2 p i 3 1 (keepT p t).c1, k2 p i 5 2 (keepT p t).c2, k2 p i 7 3 (keepT p t).c3] i) + 1 else k2 p i 5 2 (keepT p t).c2))), (w223.cell? ⟨w10.heap.size, 4, none⟩ = some (.int .i64 (if i = 3 then (gI [k2 p i 1 0 (keepT p t).c0, k2 p i 3 1 (keepT p t).c1, k2 p i 5 2 (keepT p t).c2, k2 p i 7 3 (keepT p t).c3] i) + 1 else k2 p i 7 3 (keepT p t).c3)))] (by kernel_rfl) ⟨(bx225.cell (i := 0) rfl), (bx225.cell (i := 1) rfl), (bx225.cell (i := 2) rfl), (bx225.cell (i := 3) rfl), (bx225.cell (i := 4) rfl), trivial⟩ ?_
       exact ⟨tup_ret (up_odd (by assumption) (by assumption) (inc_at hfu (by omega) (by omega) (by omega) (by omega) (by first | rfl | assumption) rfl)), e228⟩
      ·have q234 := of_decide_eq_false h206
       refine wp_skip ?_
       refine t_n ?_
       have f235 := f205.sub (r := [(9, .int .i64 (i)), (7, .pointer (some ⟨w20.heap.size, 0, none⟩)), (6, .pointer (some ⟨w10.heap.size, 0, none⟩)), (3, .pointer (some ⟨w.heap.size, 0, none⟩)), (1, .int .i64 (p))]) ⟨rfl, rfl, rfl, rfl, rfl, trivial⟩
       clear f205
       refine At.start ?_
       refine At.rd f235 3 [[], [], []] [(63, .pointer (some ((⟨w20.heap.size, 1, none⟩ : Addr).add ((i : Int).toNat * 1)))), (62, .pointer (some ⟨w20.heap.size, 1, none⟩)), (61, .int .i64 (i))] [(0 ≤ (i : Int)), ((i : Int) < (4 : Nat))] (by kernel_rfl) ⟨(by omega), (by omega), trivial⟩ (fun act237 f236 => ?_)
       clear f235
       refine At.act f236 (storeArr (pre := [.bool false]) (l := [k2 p i 1 0 (keepT p t).c0, k2 p i 3 1 (keepT p t).c1, k2 p i 5 2 (keepT p t).c2, k2 p i 7 3 (keepT p t).c3]) (post := []) (t := 3) (v := 0) (i := i) (by kernel_rfl) (by kernel_rfl) bx202 rfl rfl (by omega) (by simp only [List.length_cons, List.length_nil]; omega)) ?_
       rintro d_ v_ w238 ⟨rfl, g239, bx240⟩
       refine ⟨_, rfl, fun act242 f241 => ?_⟩
       clear f236
       replace bx240 : Bx w238 (w20.heap.size) [.bool false, .int .i64 (if i = 0 then 0 else k2 p i 1 0 (keepT p t).c0), .int .i64 (if i = 1 then 0 else k2 p i 3 1 (keepT p t).c1), .int .i64 (if i = 2 then 0 else k2 p i 5 2 (keepT p t).c2), .int .i64 (if i = 3 then 0 else k2 p i 7 3 (keepT p t).c3)] 40 := bx240.as (by rw [set4 i (by omega) (by omega)]; rfl)
       have szw238 := g239.size
       have e243 := e197.gr g239 (fun k h => by injection h; omega)
       clear e197
       have r244 := r198.gr g239 (fun k h => by injection h; omega)
       clear r198
       have bx245 := bx199.gr g239 (fun h => by injection h; omega)
       clear bx199
       have bx246 := bx200.gr g239 (fun h => by injection h; omega)
       clear bx200
       have bx247 := bx201.gr g239 (fun h => by injection h; omega)
       clear bx201
       clear bx202 g239
       refine At.done rfl ?_
       refine b_n ?_
       refine t_n ?_
       have f248 := f241.sub (r := [(9, .int .i64 (i)), (7, .pointer (some ⟨w20.heap.size, 0, none⟩)), (6, .pointer (some ⟨w10.heap.size, 0, none⟩)), (3, .pointer (some ⟨w.heap.size, 0, none⟩)), (1, .int .i64 (p))]) ⟨rfl, rfl, rfl, rfl, rfl, trivial⟩
       clear f241
       refine At.start ?_
       refine At.rd f248 3 [[], [.as_ (.int .i64 (i + 1))], []] [(9, .int .i64 (i + 1)), (37, .int .i64 (i + 1)), (36, .int .i64 (i))] [((.int .i64 (IntKind.i64.wrap (i + 1)) : Value) = .int .i64 (i + 1))] (by kernel_rfl) ⟨(w64 (by omega) (by omega)), trivial⟩ (fun act250 f249 => ?_)
       clear f248
       refine At.done rfl ?_
       refine t_n ?_
       have f251 := f249.sub (r := [(9, .int .i64 (i + 1)), (7, .pointer (some ⟨w20.heap.size, 0, none⟩)), (6, .pointer (some ⟨w10.heap.size, 0, none⟩)), (3, .pointer (some ⟨w.heap.size, 0, none⟩)), (1, .int .i64 (p))]) ⟨rfl, rfl, rfl, rfl, rfl, trivial⟩
       exact ⟨_, (by omega), (i + 1), rfl, f251, e243, r244, bx245, bx246, bx247, (bx240.as (by first | exact (v5_eq rfl (k2_keep (by omega) rfl) (k2_keep (by omega) rfl) (k2_keep (by omega) rfl) (k2_keep (by omega) rfl)) | exact (v5_eq rfl (k2_zero (by omega) rfl) (k2_zero (by omega) rfl) (k2_zero (by omega) rfl) (k2_zero (by omega) rfl)))), (by omega), (by omega), (by first | exact full_keep hfu (by omega) (by omega) | exact full_next hfu (by omega) (by omega) (by have := gI_cnt (l := g.pr) (i := i) (by omega) (by omega); omega))⟩
    ·have q252 := of_decide_eq_false h163
     refine wp_exit ?_
     refine t_e ?_
     refine t_e ?_
     refine b_e ?_
     refine t_n ?_
     have f253 := f162.sub (r := [(6, .pointer (some ⟨w10.heap.size, 0, none⟩))]) ⟨rfl, trivial⟩
     clear f162
     refine wp_seq ?_
     refine At.start ?_
     refine At.rd f253 1 [[]] [(64, .agg #[.bool true, .int .i64 (0), .int .i64 (0), .int .i64 (0), .int .i64 (0)])] [] (by kernel_rfl) trivial (fun act255 f254 => ?_)
     clear f253
     refine At.store f254 (t := 40) (b := w10.heap.size) (off := 0) (v := .agg #[.bool true, .int .i64 (0), .int .i64 (0), .int .i64 (0), .int .i64 (0)]) (by kernel_rfl) bx156 (by kernel_rfl) (fun act260 w256 g257 bx258 f259 => ?_)
     clear f254
     replace bx258 : Bx w256 (w10.heap.size) [.bool true, .int .i64 (0), .int .i64 (0), .int .i64 (0), .int .i64 (0)] 40 := bx258
     have szw256 := g257.size
     have e261 := e150.gr g257 (fun k h => by injection h; omega)
     clear e150
     have r262 := r153.gr g257 (fun k h => by injection h; omega)
     clear r153
     have bx263 := bx154.gr g257 (fun h => by injection h; omega)
     clear bx154
     have bx264 := bx155.gr g257 (fun h => by injection h; omega)
     clear bx155
     have bx265 := bx157.gr g257 (fun h => by injection h; omega)
     clear bx157
     clear bx156 g257
     refine At.done rfl ?_
     refine t_n ?_
     have f266 := f259.sub (r := [(6, .pointer (some ⟨w10.heap.size, 0, none⟩))]) ⟨rfl, trivial⟩
     clear f259
     refine wp_ret ?_
     refine ret_ f266 [[.bool true, .int .i64 (0), .int .i64 (0), .int .i64 (0), .int .i64 (0)]] [.agg #[.bool true, .int .i64 (0), .int .i64 (0), .int .i64 (0), .int .i64 (0)]] [(w256.cell? ⟨w10.heap.size, 0, none⟩ = some (.bool true)), (w256.cell? ⟨w10.heap.size, 1, none⟩ = some (.int .i64 (0))), (w256.cell? ⟨w10.heap.size, 2, none⟩ = some (.int .i64 (0))), (w256.cell? ⟨w10.heap.size, 3, none⟩ = some (.int .i64 (0))), (w256.cell? ⟨w10.heap.size, 4, none⟩ = some (.int .i64 (0)))] (by kernel_rfl) ⟨(bx258.cell (i := 0) rfl), (bx258.cell (i := 1) rfl), (bx258.cell (i := 2) rfl), (bx258.cell (i := 3) rfl), (bx258.cell (i := 4) rfl), trivial⟩ ?_
     exact ⟨tup_ret (by first | exact up_top (by assumption) | exact up_odd (by assumption) (by assumption) (inc_no hfu (by omega))), e261⟩

end Go.Proofs.Ytklbpajmoklheaa
