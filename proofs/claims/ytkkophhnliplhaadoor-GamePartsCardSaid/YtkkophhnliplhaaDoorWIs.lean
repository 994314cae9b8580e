/-
  A walk of a Go function, printed by a program of this repo. Conditions: what the theorems name.
-/
import Derived.Test.YtkkophhnliplhaaDoorLem
import Derived.Test.YtkkophhnliplhaaDoorPureGame
import Derived.Test.YtkkophhnliplhaaDoorWRight
import Derived.Test.YtkkophhnliplhaaDoorWRight2
set_option linter.unusedVariables false
set_option linter.unusedSimpArgs false
namespace Go.Proofs.YtkkophhnliplhaaDoor
open Go Go.RowKit

set_option maxHeartbeats 4000000 in
theorem isR_any {Ag0 Ag1 Ag2 : Option Addr} {cg0 cg1 cg2 : Nat} {g : GameL} {w : World} (rg : RdG w 0 w.heap.size Ag0 Ag1 Ag2 cg0 cg1 cg2 g) :
    Calls Tryd.prog 40 #[.agg #[.slice Ag0 g.ow.length cg0, .slice Ag1 g.pr.length cg1, .slice Ag2 g.mv.length cg2]] w fun e w' => e = .returned (.bool (isR g)) ∧ Ext w w' := by
 have hlg0 := rg.ow.len
 have hlg1 := rg.pr.len
 have hlg2 := rg.mv.len
 have hkg0 := rg.k0
 have hkg1 := rg.k1
 have hkg2 := rg.k2
 refine enter_ (args := [.agg #[.slice Ag0 g.ow.length cg0, .slice Ag1 g.pr.length cg1, .slice Ag2 g.mv.length cg2]]) Tryd.func40 rfl Tryd.ntmps40 (Nat.le_of_ble_eq_true rfl) (fun act0 f0 => ?_)
 have e0 : Ext w w := Ext.refl w
 refine wp_seq ?_
 refine At.start ?_
 refine At.seq f0 1 [[]] [(1, .pointer (some ⟨w.heap.size, 0, none⟩))] (w.alloc (.cells #[.slice Ag0 g.ow.length cg0, .slice Ag1 g.pr.length cg1, .slice Ag2 g.mv.length cg2] 25 (0, 0))) [] (by kernel_rfl) trivial (fun act4 w1 hw2 f3 => ?_)
 clear f0
 have g5 := gr_alloc hw2
 have szw1 := g5.size
 replace e0 := e0.gr g5 no_row
 have r8 := rg.gr g5 (fun _ h => by cases h)
 clear rg
 have bx9 : Bx w1 (w.heap.size) [.slice Ag0 g.ow.length cg0, .slice Ag1 g.pr.length cg1, .slice Ag2 g.mv.length cg2] 25 := Bx.new hw2
 have := bx9.lt
 clear g5 hw2
 refine At.rd f3 1 [[]] [(2, .bool false)] [] (by kernel_rfl) trivial (fun act11 f10 => ?_)
 clear f3
 refine At.done rfl ?_
 refine t_n ?_
 refine wp_seq ?_
 refine At.start ?_
 refine At.rd f10 1 [[.ld (.slice Ag0 g.ow.length cg0), .ld (.slice Ag1 g.pr.length cg1), .ld (.slice Ag2 g.mv.length cg2)]] [(6, .agg #[.slice Ag0 g.ow.length cg0, .slice Ag1 g.pr.length cg1, .slice Ag2 g.mv.length cg2])] [(w1.cell? ⟨w.heap.size, 0, none⟩ = some (.slice Ag0 g.ow.length cg0)), (w1.cell? ⟨w.heap.size, 1, none⟩ = some (.slice Ag1 g.pr.length cg1)), (w1.cell? ⟨w.heap.size, 2, none⟩ = some (.slice Ag2 g.mv.length cg2))] (by kernel_rfl) ⟨(bx9.cell (i := 0) rfl), (bx9.cell (i := 1) rfl), (bx9.cell (i := 2) rfl), trivial⟩ (fun act13 f12 => ?_)
 clear f10
 refine At.call f12 15 #[.agg #[.slice Ag0 g.ow.length cg0, .slice Ag1 g.pr.length cg1, .slice Ag2 g.mv.length cg2]] (some 7) (by kernel_rfl) (rightR_any (r8.wide (Nat.zero_le _) (by omega))) ?_
 rintro e_ w14 ⟨rfl, he⟩
 refine ⟨_, rfl, _, rfl, fun act15 f16 => ?_⟩
 clear f12
 have g17 := gr_ext he
 have szw14 := g17.size
 replace e0 := e0.gr g17 no_row
 replace r8 := r8.gr g17 (fun _ h => by cases h)
 replace bx9 := bx9.gr g17 (by simp)
 clear g17 he
 refine At.rd f16 5 [[], [], [], [], []] [(4, .int .i64 ((rightP g).2)), (3, .int .i64 ((rightP g).1)), (9, .int .i64 ((rightP g).2)), (8, .int .i64 ((rightP g).1)), (5, .tuple #[.int .i64 ((rightP g).1), .int .i64 ((rightP g).2)])] [] (by kernel_rfl) trivial (fun act22 f21 => ?_)
 clear f16
 refine At.done rfl ?_
 refine t_n ?_
 refine wp_seq ?_
 refine At.start ?_
 refine At.rd f21 3 [[], [], []] [(2, .bool (((rightP g).2 : Int) == 0)), (11, .bool (((rightP g).2 : Int) == 0)), (10, .int .i64 ((rightP g).2))] [] (by kernel_rfl) trivial (fun act24 f23 => ?_)
 clear f21
 refine At.done rfl ?_
 refine t_n ?_
 refine wp_ret ?_
 refine ret_ f23 [] [.bool (((rightP g).2 : Int) == 0)] [] (by kernel_rfl) trivial ?_
 exact ⟨rfl, e0⟩

set_option maxHeartbeats 4000000 in
theorem index_any {Aa : Option Addr} {ca : Nat} {la : List Int} {v : Int} {w : World} (ra : RdI w 0 w.heap.size Aa la) :
    Calls Tryd.prog 46 #[.slice Aa la.length ca, .int .i64 (v)] w fun e w' => e = .returned (.int .i64 (idxI la v)) ∧ Ext w w' := by
 have hla := ra.len
 refine enter_ (args := [.slice Aa la.length ca, .int .i64 (v)]) Tryd.func46 rfl Tryd.ntmps46 (Nat.le_of_ble_eq_true rfl) (fun act0 f0 => ?_)
 have e0 : Ext w w := Ext.refl w
 refine wp_seq ?_
 refine At.start ?_
 refine At.rd f0 1 [[]] [(4, .int .i64 (0))] [] (by kernel_rfl) trivial (fun act2 f1 => ?_)
 clear f0
 refine At.done rfl ?_
 refine t_n ?_
 refine wp_seq ?_
 refine wp_seq ?_
 refine At.start ?_
 refine At.rd f1 3 [[], [], []] [(8, .int .i64 (0)), (7, .int .i64 (((la.length : Nat) : Int))), (6, .slice Aa la.length ca)] [] (by kernel_rfl) trivial (fun act4 f3 => ?_)
 clear f1
 refine At.done rfl ?_
 refine t_n ?_
 refine wp_block ?_
 have f5 := f3.sub (r := [(8, .int .i64 (0)), (7, .int .i64 (((la.length : Nat) : Int))), (0, .slice Aa la.length ca), (1, .int .i64 (v))]) ⟨rfl, rfl, rfl, rfl, trivial⟩
 refine loop_g (fun (m_ : Nat) a_ w_ => ∃ (k : Int), m_ = ((la.length : Int) - k).toNat ∧ (Frm 19 a_ [(8, .int .i64 (k)), (7, .int .i64 (((la.length : Nat) : Int))), (0, .slice Aa la.length ca), (1, .int .i64 (v))]) ∧ (Ext w w_) ∧ (RdI w_ 0 w.heap.size Aa la) ∧ (0 ≤ k) ∧ (k ≤ (la.length : Int)) ∧ (v ∉ la.take k.toNat)) _ ⟨0, rfl, f5, e0, ra, (by omega), (by omega), (notin_zero _ _)⟩ ?_
 clear f5 f3
 clear ra
 clear e0
 intro m_ act6 w7 ⟨k, hm9, f10, e8, r11, i12, i13, i14⟩
 have szw7 := e8.size
 refine wp_seq ?_
 refine At.start ?_
 refine At.rd f10 1 [[]] [(9, .bool (decide ((k : Int) < ((la.length : Nat) : Int))))] [] (by kernel_rfl) trivial (fun act16 f15 => ?_)
 clear f10
 refine At.done rfl ?_
 refine t_n ?_
 refine wp_seq ?_
 refine cond_S f15 (t := decide ((k : Int) < ((la.length : Nat) : Int))) rfl (fun h17 => ?_) (fun h17 => ?_)
 ·have q18 := of_decide_eq_true h17
  refine wp_skip ?_
  refine t_n ?_
  refine wp_seq ?_
  refine wp_block ?_
  refine wp_seq ?_
  refine At.start ?_
  refine At.rd f15 2 [[], []] [(5, .int .i64 (k)), (10, .int .i64 (k))] [] (by kernel_rfl) trivial (fun act20 f19 => ?_)
  clear f15
  refine At.done rfl ?_
  refine t_n ?_
  refine wp_seq ?_
  refine At.start ?_
  obtain ⟨ad21, hA22, _, _, hc23⟩ := RdI.get r11 (k) (by omega) (by omega)
  refine At.rd f19 6 [[], [], [], [.ad ad21], [.ld (.int .i64 (gI la (k)))], []] [(16, .bool ((v : Int) == (gI la (k)))), (15, .int .i64 (gI la (k))), (14, .pointer (some (ad21.add ((k : Int).toNat * 1)))), (13, .int .i64 (k)), (12, .slice Aa la.length ca), (11, .int .i64 (v))] [(Aa = some ad21), (0 ≤ (k : Int)), ((k : Int) < (la.length : Nat)), (w7.cell? (ad21.add ((k : Int).toNat * 1)) = some (.int .i64 (gI la (k))))] (by kernel_rfl) ⟨hA22, (by omega), (by omega), hc23, trivial⟩ (fun act25 f24 => ?_)
  clear f19
  refine At.done rfl ?_
  refine t_n ?_
  refine cond_S f24 (t := (v : Int) == (gI la (k))) rfl (fun h26 => ?_) (fun h26 => ?_)
  ·have q27 := eq_of_beq h26
   refine wp_seq ?_
   refine At.start ?_
   refine At.rd f24 2 [[], []] [(4, .int .i64 (k)), (17, .int .i64 (k))] [] (by kernel_rfl) trivial (fun act29 f28 => ?_)
   clear f24
   refine At.done rfl ?_
   refine t_n ?_
   refine wp_ret ?_
   refine b_r ?_
   refine t_r ?_
   refine t_r ?_
   refine b_r ?_
   refine t_r ?_
   refine ret_ f28 [] [.int .i64 (k)] [] (by kernel_rfl) trivial ?_
   exact ⟨ret_eq (congrArg (Value.int .i64) (idx_at (by omega) (by omega) (by assumption) (by assumption))), e8⟩
  ·have q30 := ne_of_beq_false h26
   refine wp_skip ?_
   refine b_n ?_
   refine t_n ?_
   refine At.start ?_
   refine At.rd f24 2 [[.as_ (.int .i64 (k + 1))], []] [(8, .int .i64 (k + 1)), (18, .int .i64 (k + 1))] [((.int .i64 (IntKind.i64.wrap (k + 1)) : Value) = .int .i64 (k + 1))] (by kernel_rfl) ⟨(w64 (by omega) (by omega)), trivial⟩ (fun act32 f31 => ?_)
   clear f24
   refine At.done rfl ?_
   refine t_n ?_
   have f33 := f31.sub (r := [(8, .int .i64 (k + 1)), (7, .int .i64 (((la.length : Nat) : Int))), (0, .slice Aa la.length ca), (1, .int .i64 (v))]) ⟨rfl, rfl, rfl, rfl, trivial⟩
   exact ⟨_, (by omega), (k + 1), rfl, f33, e8, r11, (by omega), (by omega), (notin_next (by omega) (by omega) (by assumption) (by assumption))⟩
 ·have q34 := of_decide_eq_false h17
  refine wp_exit ?_
  refine t_e ?_
  refine t_e ?_
  refine b_e ?_
  refine t_n ?_
  refine wp_seq ?_
  refine At.start ?_
  refine At.rd f15 1 [[]] [(4, .int .i64 (-1))] [] (by kernel_rfl) trivial (fun act36 f35 => ?_)
  clear f15
  refine At.done rfl ?_
  refine t_n ?_
  refine wp_ret ?_
  refine ret_ f35 [] [.int .i64 (-1)] [] (by kernel_rfl) trivial ?_
  exact ⟨ret_eq (congrArg (Value.int .i64) (idx_no (by assumption) (by omega))), e8⟩

set_option maxHeartbeats 4000000 in
theorem contains_any {Aa : Option Addr} {ca : Nat} {la : List Int} {v : Int} {w : World} (ra : RdI w 0 w.heap.size Aa la) :
    Calls Tryd.prog 38 #[.slice Aa la.length ca, .int .i64 (v)] w fun e w' => e = .returned (.bool (decide (v ∈ la))) ∧ Ext w w' := by
 have hla := ra.len
 refine enter_ (args := [.slice Aa la.length ca, .int .i64 (v)]) Tryd.func38 rfl Tryd.ntmps38 (Nat.le_of_ble_eq_true rfl) (fun act0 f0 => ?_)
 have e0 : Ext w w := Ext.refl w
 refine wp_seq ?_
 refine At.start ?_
 refine At.rd f0 1 [[]] [(4, .bool false)] [] (by kernel_rfl) trivial (fun act2 f1 => ?_)
 clear f0
 refine At.done rfl ?_
 refine t_n ?_
 refine wp_seq ?_
 refine At.start ?_
 refine At.rd f1 2 [[], []] [(6, .int .i64 (v)), (5, .slice Aa la.length ca)] [] (by kernel_rfl) trivial (fun act4 f3 => ?_)
 clear f1
 refine At.call f3 46 #[.slice Aa la.length ca, .int .i64 (v)] (some 7) (by kernel_rfl) (index_any (v := v) (ra.wide (Nat.zero_le _) (by omega))) ?_
 rintro e_ w5 ⟨rfl, he⟩
 refine ⟨_, rfl, _, rfl, fun act6 f7 => ?_⟩
 clear f3
 have g8 := gr_ext he
 have szw5 := g8.size
 replace e0 := e0.gr g8 no_row
 have r10 := ra.gr g8 (fun _ h => by cases h)
 clear ra
 clear g8 he
 refine At.rd f7 2 [[], []] [(4, .bool (decide ((idxI la v : Int) ≥ 0))), (8, .bool (decide ((idxI la v : Int) ≥ 0)))] [] (by kernel_rfl) trivial (fun act12 f11 => ?_)
 clear f7
 refine At.done rfl ?_
 refine t_n ?_
 refine wp_ret ?_
 refine ret_ f11 [] [.bool (decide ((idxI la v : Int) ≥ 0))] [] (by kernel_rfl) trivial ?_
 exact ⟨ret_eq (congrArg Value.bool (idx_in _ _)), e0⟩

end Go.Proofs.YtkkophhnliplhaaDoor
