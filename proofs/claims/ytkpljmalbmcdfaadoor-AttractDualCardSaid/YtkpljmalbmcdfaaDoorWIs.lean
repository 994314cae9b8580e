/-
  A walk of a Go function, printed by a program of this repo. Conditions: what the theorems name.
-/
import Derived.Test.YtkpljmalbmcdfaaDoorLem
import Derived.Test.YtkpljmalbmcdfaaDoorPureGame
import Derived.Test.YtkpljmalbmcdfaaDoorFz
import Derived.Test.YtkpljmalbmcdfaaDoorWRight
import Derived.Test.YtkpljmalbmcdfaaDoorWRight2
set_option linter.unusedVariables false
set_option linter.unusedSimpArgs false
namespace Go.Proofs.YtkpljmalbmcdfaaDoor
open Go Go.RowKit

set_option maxHeartbeats 4000000 in
theorem isR_any {Ag0 Ag1 Ag2 : Option Addr} {cg0 cg1 cg2 : Nat} {g : GameL} {w : World} (rg : RdG w 0 w.heap.size Ag0 Ag1 Ag2 cg0 cg1 cg2 g) :
    Calls Tryd.prog 10 #[.agg #[.slice Ag0 g.ow.length cg0, .slice Ag1 g.pr.length cg1, .slice Ag2 g.mv.length cg2]] w fun e w' => e = .returned (.bool (isR g)) ∧ Ext w w' := by
 have hlg0 := rg.ow.len
 have hlg1 := rg.pr.len
 have hlg2 := rg.mv.len
 have hkg0 := rg.k0
 have hkg1 := rg.k1
 have hkg2 := rg.k2
 refine enter_ (args := [.agg #[.slice Ag0 g.ow.length cg0, .slice Ag1 g.pr.length cg1, .slice Ag2 g.mv.length cg2]]) Tryd.func10 rfl Tryd.ntmps10 (Nat.le_of_ble_eq_true rfl) (fun act0 f0 => ?_)
 have e0 := Ext.refl w
 refine wp_seq ?_
 refine At.start ?_
 refine At.seq f0 1 [[]] [(1, .pointer (some ⟨w.heap.size, 0, none⟩))] (w.alloc (.cells #[.slice Ag0 g.ow.length cg0, .slice Ag1 g.pr.length cg1, .slice Ag2 g.mv.length cg2] 25 (0, 0))) [] (by kernel_rfl) trivial (fun act4 w1 hw2 f3 => ?_)
 clear f0
 have g5 := gr_alloc hw2
 have szw1 := g5.size
 have e7 := e0.gr g5 no_row
 clear e0
 have r8 := rg.gr g5 (fun _ h => by cases h)
 clear rg
 have bx9 : Bx w1 (w.heap.size) [.slice Ag0 g.ow.length cg0, .slice Ag1 g.pr.length cg1, .slice Ag2 g.mv.length cg2] 25 := Bx.new hw2
 have := bx9.lt
 clear g5 hw2
 refine At.rd f3 1 [[]] [(2, .bool false)] [] (by kernel_rfl) trivial (fun act11 f10 => ?_)
 clear f3
 refine At.done rfl ?_
 refine t_n ?_
 have f12 := f10.sub (r := [(1, .pointer (some ⟨w.heap.size, 0, none⟩))]) ⟨rfl, trivial⟩
 clear f10
 refine wp_seq ?_
 refine At.start ?_
 refine At.rd f12 1 [[.ld (.slice Ag0 g.ow.length cg0), .ld (.slice Ag1 g.pr.length cg1), .ld (.slice Ag2 g.mv.length cg2)]] [(6, .agg #[.slice Ag0 g.ow.length cg0, .slice Ag1 g.pr.length cg1, .slice Ag2 g.mv.length cg2])] [(w1.cell? ⟨w.heap.size, 0, none⟩ = some (.slice Ag0 g.ow.length cg0)), (w1.cell? ⟨w.heap.size, 1, none⟩ = some (.slice Ag1 g.pr.length cg1)), (w1.cell? ⟨w.heap.size, 2, none⟩ = some (.slice Ag2 g.mv.length cg2))] (by kernel_rfl) ⟨(bx9.cell (i := 0) rfl), (bx9.cell (i := 1) rfl), (bx9.cell (i := 2) rfl), trivial⟩ (fun act14 f13 => ?_)
 clear f12
 refine At.call f13 30 #[.agg #[.slice Ag0 g.ow.length cg0, .slice Ag1 g.pr.length cg1, .slice Ag2 g.mv.length cg2]] (some 7) (by kernel_rfl) (rightR_any (r8.wide (Nat.zero_le _) (by omega))) ?_
 rintro e_ w15 ⟨rfl, he⟩
 refine ⟨_, rfl, _, rfl, fun act16 f17 => ?_⟩
 clear f13
 have g18 := gr_ext he
 have szw15 := g18.size
 have e19 := e7.gr g18 no_row
 clear e7
 have r20 := r8.gr g18 (fun _ h => by cases h)
 clear r8
 have bx21 := bx9.gr g18 (by simp)
 clear bx9
 clear g18 he
 refine At.rd f17 5 [[], [], [], [], []] [(4, .int .i64 ((rightP g).2)), (3, .int .i64 ((rightP g).1)), (9, .int .i64 ((rightP g).2)), (8, .int .i64 ((rightP g).1)), (5, .tuple #[.int .i64 ((rightP g).1), .int .i64 ((rightP g).2)])] [] (by kernel_rfl) trivial (fun act23 f22 => ?_)
 clear f17
 refine At.done rfl ?_
 refine t_n ?_
 have f24 := f22.sub (r := [(4, .int .i64 ((rightP g).2))]) ⟨rfl, trivial⟩
 clear f22
 refine wp_seq ?_
 refine At.start ?_
 refine At.rd f24 3 [[], [], []] [(2, .bool (((rightP g).2 : Int) == 0)), (11, .bool (((rightP g).2 : Int) == 0)), (10, .int .i64 ((rightP g).2))] [] (by kernel_rfl) trivial (fun act26 f25 => ?_)
 clear f24
 refine At.done rfl ?_
 refine t_n ?_
 have f27 := f25.sub (r := [(2, .bool (((rightP g).2 : Int) == 0))]) ⟨rfl, trivial⟩
 clear f25
 refine wp_ret ?_
 refine ret_ f27 [] [.bool (((rightP g).2 : Int) == 0)] [] (by kernel_rfl) trivial ?_
 exact ⟨rfl, e19⟩

set_option maxHeartbeats 4000000 in
theorem index_any {Aa : Option Addr} {ca : Nat} {la : List Int} {v : Int} {w : World} (ra : RdI w 0 w.heap.size Aa la) :
    Calls Tryd.prog 39 #[.slice Aa la.length ca, .int .i64 (v)] w fun e w' => e = .returned (.int .i64 (idxI la v)) ∧ Ext w w' := by
 have hla := ra.len
 refine enter_ (args := [.slice Aa la.length ca, .int .i64 (v)]) Tryd.func39 rfl Tryd.ntmps39 (Nat.le_of_ble_eq_true rfl) (fun act0 f0 => ?_)
 have e0 := Ext.refl w
 refine wp_seq ?_
 refine At.start ?_
 refine At.rd f0 1 [[]] [(4, .int .i64 (0))] [] (by kernel_rfl) trivial (fun act2 f1 => ?_)
 clear f0
 refine At.done rfl ?_
 refine t_n ?_
 refine wp_seq ?_
 refine wp_seq ?_
 refine At.start ?_
 refine At.rd f1 3 [[], [], []] [(8, .int .i64 (0)), (7, .int .i64 (((la.length : Nat) : Int))), (6, .slice Aa la.length ca)] [] (by kernel_rfl) trivial (fun act4 f3 => ?_)
 clear f1
 refine At.done rfl ?_
 refine t_n ?_
 have f5 := f3.sub (r := [(8, .int .i64 (0)), (7, .int .i64 (((la.length : Nat) : Int))), (4, .int .i64 (0)), (0, .slice Aa la.length ca), (1, .int .i64 (v))]) ⟨rfl, rfl, rfl, rfl, rfl, trivial⟩
 clear f3
 refine wp_block ?_
 have f6 := f5.sub (r := [(8, .int .i64 (0)), (7, .int .i64 (((la.length : Nat) : Int))), (0, .slice Aa la.length ca), (1, .int .i64 (v))]) ⟨rfl, rfl, rfl, rfl, trivial⟩
 refine loop_g (fun (m_ : Nat) a_ w_ => ∃ (k : Int), m_ = ((la.length : Int) - k).toNat ∧ (Frm 19 a_ [(8, .int .i64 (k)), (7, .int .i64 (((la.length : Nat) : Int))), (0, .slice Aa la.length ca), (1, .int .i64 (v))]) ∧ (Ext w w_) ∧ (RdI w_ 0 w.heap.size Aa la) ∧ (0 ≤ k) ∧ (k ≤ (la.length : Int)) ∧ (v ∉ la.take k.toNat)) _ ⟨0, rfl, f6, e0, ra, (by omega), (by omega), (notin_zero _ _)⟩ ?_
 clear f6 f5
 clear ra
 clear e0
 intro m_ act7 w8 ⟨k, hm10, f11, e9, r12, i13, i14, i15⟩
 have szw8 := e9.size
 refine wp_seq ?_
 refine At.start ?_
 refine At.rd f11 1 [[]] [(9, .bool (decide ((k : Int) < ((la.length : Nat) : Int))))] [] (by kernel_rfl) trivial (fun act17 f16 => ?_)
 clear f11
 refine At.done rfl ?_
 refine t_n ?_
 refine wp_seq ?_
 refine cond_S f16 (t := decide ((k : Int) < ((la.length : Nat) : Int))) rfl (fun h18 => ?_) (fun h18 => ?_)
 ·have q19 := of_decide_eq_true h18
  refine wp_skip ?_
  refine t_n ?_
  have f20 := f16.sub (r := [(8, .int .i64 (k)), (7, .int .i64 (((la.length : Nat) : Int))), (0, .slice Aa la.length ca), (1, .int .i64 (v))]) ⟨rfl, rfl, rfl, rfl, trivial⟩
  clear f16
  refine wp_seq ?_
  refine wp_block ?_
  refine wp_seq ?_
  refine At.start ?_
  refine At.rd f20 2 [[], []] [(5, .int .i64 (k)), (10, .int .i64 (k))] [] (by kernel_rfl) trivial (fun act22 f21 => ?_)
  clear f20
  refine At.done rfl ?_
  refine t_n ?_
  have f23 := f21.sub (r := [(5, .int .i64 (k)), (8, .int .i64 (k)), (7, .int .i64 (((la.length : Nat) : Int))), (0, .slice Aa la.length ca), (1, .int .i64 (v))]) ⟨rfl, rfl, rfl, rfl, rfl, trivial⟩
  clear f21
  refine wp_seq ?_
  refine At.start ?_
  obtain ⟨ad24, hA25, _, _, hc26⟩ := RdI.get r12 (k) (by omega) (by omega)
  refine At.rd f23 6 [[], [], [], [.ad ad24], [.ld (.int .i64 (gI la (k)))], []] [(16, .bool ((v : Int) == (gI la (k)))), (15, .int .i64 (gI la (k))), (14, .pointer (some (ad24.add ((k : Int).toNat * 1)))), (13, .int .i64 (k)), (12, .slice Aa la.length ca), (11, .int .i64 (v))] [(Aa = some ad24), (0 ≤ (k : Int)), ((k : Int) < (la.length : Nat)), (w8.cell? (ad24.add ((k : Int).toNat * 1)) = some (.int .i64 (gI la (k))))] (by kernel_rfl) ⟨hA25, (by omega), (by omega), hc26, trivial⟩ (fun act28 f27 => ?_)
  clear f23
  refine At.done rfl ?_
  refine t_n ?_
  have f29 := f27.sub (r := [(16, .bool ((v : Int) == (gI la (k)))), (5, .int .i64 (k)), (8, .int .i64 (k)), (7, .int .i64 (((la.length : Nat) : Int))), (0, .slice Aa la.length ca), (1, .int .i64 (v))]) ⟨rfl, rfl, rfl, rfl, rfl, rfl, trivial⟩
  clear f27
  refine cond_S f29 (t := (v : Int) == (gI la (k))) rfl (fun h30 => ?_) (fun h30 => ?_)
  ·have q31 := eq_of_beq h30
   refine wp_seq ?_
   refine At.start ?_
   refine At.rd f29 2 [[], []] [(4, .int .i64 (k)), (17, .int .i64 (k))] [] (by kernel_rfl) trivial (fun act33 f32 => ?_)
   clear f29
   refine At.done rfl ?_
   refine t_n ?_
   have f34 := f32.sub (r := [(4, .int .i64 (k))]) ⟨rfl, trivial⟩
   clear f32
   refine wp_ret ?_
   refine b_r ?_
   refine t_r ?_
   refine t_r ?_
   refine b_r ?_
   refine t_r ?_
   refine ret_ f34 [] [.int .i64 (k)] [] (by kernel_rfl) trivial ?_
   exact ⟨ret_eq (congrArg (Value.int .i64) (idx_at (by omega) (by omega) (by assumption) (by assumption))), e9⟩
  ·have q35 := ne_of_beq_false h30
   refine wp_skip ?_
   refine b_n ?_
   refine t_n ?_
   have f36 := f29.sub (r := [(8, .int .i64 (k)), (7, .int .i64 (((la.length : Nat) : Int))), (0, .slice Aa la.length ca), (1, .int .i64 (v))]) ⟨rfl, rfl, rfl, rfl, trivial⟩
   clear f29
   refine At.start ?_
   refine At.rd f36 2 [[.as_ (.int .i64 (k + 1))], []] [(8, .int .i64 (k + 1)), (18, .int .i64 (k + 1))] [((.int .i64 (IntKind.i64.wrap (k + 1)) : Value) = .int .i64 (k + 1))] (by kernel_rfl) ⟨(w64 (by omega) (by omega)), trivial⟩ (fun act38 f37 => ?_)
   clear f36
   refine At.done rfl ?_
   refine t_n ?_
   have f39 := f37.sub (r := [(8, .int .i64 (k + 1)), (7, .int .i64 (((la.length : Nat) : Int))), (0, .slice Aa la.length ca), (1, .int .i64 (v))]) ⟨rfl, rfl, rfl, rfl, trivial⟩
   exact ⟨_, (by omega), (k + 1), rfl, f39, e9, r12, (by omega), (by omega), (notin_next (by omega) (by omega) (by assumption) (by assumption))⟩
 ·have q40 := of_decide_eq_false h18
  refine wp_exit ?_
  refine t_e ?_
  refine t_e ?_
  refine b_e ?_
  refine t_n ?_
  have f41 := f16.sub (r := []) trivial
  clear f16
  refine wp_seq ?_
  refine At.start ?_
  refine At.rd f41 1 [[]] [(4, .int .i64 (-1))] [] (by kernel_rfl) trivial (fun act43 f42 => ?_)
  clear f41
  refine At.done rfl ?_
  refine t_n ?_
  refine wp_ret ?_
  refine ret_ f42 [] [.int .i64 (-1)] [] (by kernel_rfl) trivial ?_
  exact ⟨ret_eq (congrArg (Value.int .i64) (idx_no (by assumption) (by omega))), e9⟩

set_option maxHeartbeats 4000000 in
theorem contains_any {Aa : Option Addr} {ca : Nat} {la : List Int} {v : Int} {w : World} (ra : RdI w 0 w.heap.size Aa la) :
    Calls Tryd.prog 35 #[.slice Aa la.length ca, .int .i64 (v)] w fun e w' => e = .returned (.bool (decide (v ∈ la))) ∧ Ext w w' := by
 have hla := ra.len
 refine enter_ (args := [.slice Aa la.length ca, .int .i64 (v)]) Tryd.func35 rfl Tryd.ntmps35 (Nat.le_of_ble_eq_true rfl) (fun act0 f0 => ?_)
 have e0 := Ext.refl w
 refine wp_seq ?_
 refine At.start ?_
 refine At.rd f0 1 [[]] [(4, .bool false)] [] (by kernel_rfl) trivial (fun act2 f1 => ?_)
 clear f0
 refine At.done rfl ?_
 refine t_n ?_
 have f3 := f1.sub (r := [(0, .slice Aa la.length ca), (1, .int .i64 (v))]) ⟨rfl, rfl, trivial⟩
 clear f1
 refine wp_seq ?_
 refine At.start ?_
 refine At.rd f3 2 [[], []] [(6, .int .i64 (v)), (5, .slice Aa la.length ca)] [] (by kernel_rfl) trivial (fun act5 f4 => ?_)
 clear f3
 refine At.call f4 39 #[.slice Aa la.length ca, .int .i64 (v)] (some 7) (by kernel_rfl) (index_any (v := v) (ra.wide (Nat.zero_le _) (by omega))) ?_
 rintro e_ w6 ⟨rfl, he⟩
 refine ⟨_, rfl, _, rfl, fun act7 f8 => ?_⟩
 clear f4
 have g9 := gr_ext he
 have szw6 := g9.size
 have e10 := e0.gr g9 no_row
 clear e0
 have r11 := ra.gr g9 (fun _ h => by cases h)
 clear ra
 clear g9 he
 refine At.rd f8 2 [[], []] [(4, .bool (decide ((idxI la v : Int) ≥ 0))), (8, .bool (decide ((idxI la v : Int) ≥ 0)))] [] (by kernel_rfl) trivial (fun act13 f12 => ?_)
 clear f8
 refine At.done rfl ?_
 refine t_n ?_
 have f14 := f12.sub (r := [(4, .bool (decide ((idxI la v : Int) ≥ 0)))]) ⟨rfl, trivial⟩
 clear f12
 refine wp_ret ?_
 refine ret_ f14 [] [.bool (decide ((idxI la v : Int) ≥ 0))] [] (by kernel_rfl) trivial ?_
 exact ⟨ret_eq (congrArg Value.bool (idx_in _ _)), e10⟩

end Go.Proofs.YtkpljmalbmcdfaaDoor
