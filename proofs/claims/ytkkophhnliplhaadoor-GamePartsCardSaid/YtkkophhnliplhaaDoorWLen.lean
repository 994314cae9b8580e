/-
  A walk of a Go function, printed by a program of this repo. Conditions: what the theorems name.
-/
import Derived.Test.YtkkophhnliplhaaDoorWOnes
import Derived.Test.YtkkophhnliplhaaDoorPureLen
set_option linter.unusedVariables false
set_option linter.unusedSimpArgs false
namespace Go.Proofs.YtkkophhnliplhaaDoor
open Go Go.RowKit

set_option maxHeartbeats 4000000 in
theorem len_any {s : List Int} {w : World} (hs : OkW s) :
    Calls Tryd.prog 47 #[.agg ((s : List Int).map wV).toArray] w fun e w' => e = .returned (.int .i64 (lenW s)) ∧ Ext w w' := by
 have hls := hs.1
 refine enter_ (args := [.agg ((s : List Int).map wV).toArray]) Tryd.func47 rfl Tryd.ntmps47 (Nat.le_of_ble_eq_true rfl) (fun act0 f0 => ?_)
 have e0 : Ext w w := Ext.refl w
 refine wp_seq ?_
 refine At.start ?_
 refine At.seq f0 1 [[]] [(1, .pointer (some ⟨w.heap.size, 0, none⟩))] (w.alloc (.cells ((s : List Int).map wV).toArray 47 (0, 0))) [] (by kernel_rfl) trivial (fun act4 w1 hw2 f3 => ?_)
 clear f0
 have g5 := gr_alloc hw2
 have szw1 := g5.size
 replace e0 := e0.gr g5 no_row
 have bx8 : Bx w1 (w.heap.size) ((s : List Int).map wV) 47 := Bx.new hw2
 have := bx8.lt
 clear g5 hw2
 refine At.rd f3 1 [[]] [(2, .int .i64 (0))] [] (by kernel_rfl) trivial (fun act10 f9 => ?_)
 clear f3
 refine At.done rfl ?_
 refine t_n ?_
 refine wp_seq ?_
 refine At.start ?_
 refine At.rd f9 1 [[]] [(3, .int .i64 (0))] [] (by kernel_rfl) trivial (fun act12 f11 => ?_)
 clear f9
 refine At.done rfl ?_
 refine t_n ?_
 refine wp_seq ?_
 refine wp_seq ?_
 refine At.start ?_
 refine At.rd f11 2 [[.cs ((s : List Int).map wV)], []] [(7, .int .i64 (0)), (6, .agg ((s : List Int).map wV).toArray)] [(((s : List Int).map wV).length = 4), (∀ (j : Nat) (v : Value), ((s : List Int).map wV)[j]? = some v → w1.cell? ((⟨w.heap.size, 0, none⟩ : Addr).add j) = some v)] (by kernel_rfl) ⟨((List.length_map _).trans (by assumption)), bx8.whole, trivial⟩ (fun act14 f13 => ?_)
 clear f11
 refine At.done rfl ?_
 refine t_n ?_
 refine wp_block ?_
 have f15 := f13.sub (r := [(7, .int .i64 (0)), (3, .int .i64 (0)), (6, .agg ((s : List Int).map wV).toArray), (2, .int .i64 (0))]) ⟨rfl, rfl, rfl, rfl, trivial⟩
 refine loop_g (fun (m_ : Nat) a_ w_ => ∃ (k : Int) (r : Int), m_ = (4 - k).toNat ∧ (Frm 16 a_ [(7, .int .i64 (k)), (3, .int .i64 (r)), (6, .agg ((s : List Int).map wV).toArray), (2, .int .i64 (0))]) ∧ (Ext w w_) ∧ (Bx w_ (w.heap.size) ((s : List Int).map wV) 47) ∧ (0 ≤ k) ∧ (k ≤ 4) ∧ (r = lenN s k.toNat) ∧ (0 ≤ r) ∧ (r ≤ 64 * k)) _ ⟨0, 0, rfl, f15, e0, bx8, (by omega), (by omega), rfl, (by omega), (by omega)⟩ ?_
 clear f15 f13
 clear bx8
 clear e0
 intro m_ act16 w17 ⟨k, r, hm19, f20, e18, bx21, i22, i23, hr, i24, i25⟩
 have szw17 := e18.size
 have := bx21.lt
 refine wp_seq ?_
 refine At.start ?_
 refine At.rd f20 1 [[]] [(8, .bool (decide ((k : Int) < 4)))] [] (by kernel_rfl) trivial (fun act27 f26 => ?_)
 clear f20
 refine At.done rfl ?_
 refine t_n ?_
 refine wp_seq ?_
 refine cond_S f26 (t := decide ((k : Int) < 4)) rfl (fun h28 => ?_) (fun h28 => ?_)
 ·have q29 := of_decide_eq_true h28
  refine wp_skip ?_
  refine t_n ?_
  refine wp_seq ?_
  refine wp_block ?_
  refine wp_seq ?_
  refine At.start ?_
  refine At.rd f26 2 [[.ld (.int .u64 (gI s k))], []] [(5, .int .u64 (gI s k)), (9, .int .u64 (gI s k))] [(0 ≤ (k : Int)), ((k : Int) < (4 : Nat)), ((((s : List Int).map wV).toArray : Array Value)[(k : Int).toNat * 1]? = some (.int .u64 (gI s k)))] (by kernel_rfl) ⟨(by omega), (by omega), (idxM wV (0 : Int) k (by omega) (by have := (by first | assumption | exact (okW_with (by assumption)).1 | exact (okW_less (by assumption)).1 | exact (ofW_ok _).1 | exact (fullW_W _).1 | (refine okLen ?_; (repeat (first | assumption | exact ofW_ok _ | exact fullW_W _ | apply okW_with | apply okW_less | refine okW_orS ?_ ?_ | refine okW_andS ?_ ?_ | refine okW_minusS ?_ ?_)); done) | rfl | omega | (simp only [List.length_set]; first | done | assumption | omega) | exact lenW4 _ (by assumption)); omega)), trivial⟩ (fun act31 f30 => ?_)
  clear f26
  refine At.done rfl ?_
  refine t_n ?_
  refine At.start ?_
  refine At.rd f30 2 [[], []] [(11, .int .u64 (gI s k)), (10, .int .i64 (r))] [] (by kernel_rfl) trivial (fun act33 f32 => ?_)
  clear f30
  refine At.call f32 48 #[.int .u64 (gI s k)] (some 12) (by kernel_rfl) (onesI (z := gI s k) (hs.2 _)) ?_
  rintro e_ w34 ⟨rfl, he⟩
  have := onI_le (gI s k)
  refine ⟨_, rfl, _, rfl, fun act35 f36 => ?_⟩
  clear f32
  have g37 := gr_ext he
  have szw34 := g37.size
  replace e18 := e18.gr g37 no_row
  replace bx21 := bx21.gr g37 (by simp)
  clear g37 he
  refine At.rd f36 2 [[.as_ (.int .i64 (r + (onI (gI s k))))], []] [(3, .int .i64 (r + (onI (gI s k)))), (13, .int .i64 (r + (onI (gI s k))))] [((.int .i64 (IntKind.i64.wrap (r + (onI (gI s k)))) : Value) = .int .i64 (r + (onI (gI s k))))] (by kernel_rfl) ⟨(w64 (by omega) (by omega)), trivial⟩ (fun act41 f40 => ?_)
  clear f36
  refine At.done rfl ?_
  refine b_n ?_
  refine t_n ?_
  refine At.start ?_
  refine At.rd f40 2 [[.as_ (.int .i64 (k + 1))], []] [(7, .int .i64 (k + 1)), (14, .int .i64 (k + 1))] [((.int .i64 (IntKind.i64.wrap (k + 1)) : Value) = .int .i64 (k + 1))] (by kernel_rfl) ⟨(w64 (by omega) (by omega)), trivial⟩ (fun act43 f42 => ?_)
  clear f40
  refine At.done rfl ?_
  refine t_n ?_
  have f44 := f42.sub (r := [(7, .int .i64 (k + 1)), (3, .int .i64 (r + (onI (gI s k)))), (6, .agg ((s : List Int).map wV).toArray), (2, .int .i64 (0))]) ⟨rfl, rfl, rfl, rfl, trivial⟩
  exact ⟨_, (by omega), (k + 1), (r + onI (gI s k)), rfl, f44, e18, bx21, (by omega), (by omega), (len_next hr (by omega)), (by omega), (by omega)⟩
 ·have q45 := of_decide_eq_false h28
  refine wp_exit ?_
  refine t_e ?_
  refine t_e ?_
  refine b_e ?_
  refine t_n ?_
  refine wp_seq ?_
  refine At.start ?_
  refine At.rd f26 2 [[], []] [(2, .int .i64 (r)), (15, .int .i64 (r))] [] (by kernel_rfl) trivial (fun act47 f46 => ?_)
  clear f26
  refine At.done rfl ?_
  refine t_n ?_
  refine wp_ret ?_
  refine ret_ f46 [] [.int .i64 (r)] [] (by kernel_rfl) trivial ?_
  exact ⟨ret_eq (congrArg (Value.int .i64) (len_end hr (by omega) (by omega))), e18⟩

end Go.Proofs.YtkkophhnliplhaaDoor
