/-
  A walk of a Go function, printed by a program of this repo. Conditions: what the theorems name.
-/
import Derived.Test.YtepekncgknlcjaaDoorPureList
set_option linter.unusedVariables false
set_option linter.unusedSimpArgs false
namespace Go.Proofs.YtepekncgknlcjaaDoor
open Go Go.RowKit

set_option maxHeartbeats 4000000 in
theorem least_any {s : List Int} {w : World} (hs : OkW s) (rT : RdT w 0 w.heap.size) :
    Calls Tryd.prog 22 #[.agg ((s : List Int).map wV).toArray] w fun e w' => e = .returned (.int .i64 (leastD (fromW s))) ∧ Ext w w' := by
 have hls := hs.1
 refine enter_ (args := [.agg ((s : List Int).map wV).toArray]) Tryd.func22 rfl Tryd.ntmps22 (Nat.le_of_ble_eq_true rfl) (fun act0 f0 => ?_)
 have e0 := Ext.refl w
 refine wp_seq ?_
 refine At.start ?_
 refine At.seq f0 1 [[]] [(1, .pointer (some ⟨w.heap.size, 0, none⟩))] (w.alloc (.cells ((s : List Int).map wV).toArray 26 (0, 0))) [] (by kernel_rfl) trivial (fun act4 w1 hw2 f3 => ?_)
 clear f0
 have g5 := gr_alloc hw2
 have szw1 := g5.size
 have e7 := e0.gr g5 no_row
 clear e0
 have r8 := rT.gr g5 (fun _ h => by cases h)
 clear rT
 have bx9 : Bx w1 (w.heap.size) ((s : List Int).map wV) 26 := Bx.new hw2
 have := bx9.lt
 clear g5 hw2
 refine At.rd f3 1 [[]] [(2, .int .i64 (0))] [] (by kernel_rfl) trivial (fun act11 f10 => ?_)
 clear f3
 refine At.done rfl ?_
 refine t_n ?_
 have f12 := f10.sub (r := [(2, .int .i64 (0)), (1, .pointer (some ⟨w.heap.size, 0, none⟩))]) ⟨rfl, rfl, trivial⟩
 clear f10
 refine wp_seq ?_
 refine wp_seq ?_
 refine At.start ?_
 refine At.rd f12 2 [[.cs ((s : List Int).map wV)], []] [(6, .int .i64 (0)), (5, .agg ((s : List Int).map wV).toArray)] [(((s : List Int).map wV).length = 4), (∀ (j : Nat) (v : Value), ((s : List Int).map wV)[j]? = some v → w1.cell? ((⟨w.heap.size, 0, none⟩ : Addr).add j) = some v)] (by kernel_rfl) ⟨(by simp only [List.length_map, List.length_set, List.length_replicate, List.length_cons, List.length_nil]; first | done | assumption | exact from_len _ | exact of_len _ | exact ofZ_len _ | exact (ofW_ok _).1 | exact (fullW_W _).1 | exact (okW_with (by assumption)).1 | exact (okW_less (by assumption)).1 | exact put_len (from_len _) | exact orD_len _ _ | exact andD_len _ _ | exact minusD_len _ _ | exact fullD_len _ | (refine okLen ?_; (repeat (first | assumption | exact ofW_ok _ | exact fullW_W _ | apply okW_with | apply okW_less | refine okW_orS ?_ ?_ | refine okW_andS ?_ ?_ | refine okW_minusS ?_ ?_)); done) | omega | rfl), bx9.whole, trivial⟩ (fun act14 f13 => ?_)
 clear f12
 refine At.done rfl ?_
 refine t_n ?_
 have f15 := f13.sub (r := [(6, .int .i64 (0)), (5, .agg ((s : List Int).map wV).toArray), (2, .int .i64 (0))]) ⟨rfl, rfl, rfl, trivial⟩
 clear f13
 refine wp_block ?_
 have f16 := f15.sub (r := [(6, .int .i64 (0)), (5, .agg ((s : List Int).map wV).toArray)]) ⟨rfl, rfl, trivial⟩
 refine loop_g (fun (m_ : Nat) a_ w_ => ∃ (k : Int), m_ = (4 - k).toNat ∧ (Frm 18 a_ [(6, .int .i64 (k)), (5, .agg ((s : List Int).map wV).toArray)]) ∧ (Ext w w_) ∧ (RdT w_ 0 w.heap.size) ∧ (Bx w_ (w.heap.size) ((s : List Int).map wV) 26) ∧ (0 ≤ k) ∧ (k ≤ 4) ∧ (∀ j : Int, 0 ≤ j → j < 64 * k → gB (fromW s) j = false)) _ ⟨0, rfl, f16, e7, r8, bx9, (by omega), (by omega), (fun j a b => by omega)⟩ ?_
 clear f16 f15
 clear r8
 clear bx9
 clear e7
 intro m_ act17 w18 ⟨k, hm20, f21, e19, r22, bx23, i24, i25, hno⟩
 have szw18 := e19.size
 have := bx23.lt
 refine wp_seq ?_
 refine At.start ?_
 refine At.rd f21 1 [[]] [(7, .bool (decide ((k : Int) < 4)))] [] (by kernel_rfl) trivial (fun act27 f26 => ?_)
 clear f21
 refine At.done rfl ?_
 refine t_n ?_
 refine wp_seq ?_
 refine cond_S f26 (t := decide ((k : Int) < 4)) rfl (fun h28 => ?_) (fun h28 => ?_)
 ·have q29 := of_decide_eq_true h28
  refine wp_skip ?_
  refine t_n ?_
  have f30 := f26.sub (r := [(6, .int .i64 (k)), (5, .agg ((s : List Int).map wV).toArray)]) ⟨rfl, rfl, trivial⟩
  clear f26
  refine wp_seq ?_
  refine wp_block ?_
  refine wp_seq ?_
  refine At.start ?_
  refine At.rd f30 4 [[], [.ld (.int .u64 (gI s k))], [], []] [(4, .int .u64 (gI s k)), (3, .int .i64 (k)), (9, .int .u64 (gI s k)), (8, .int .i64 (k))] [(0 ≤ (k : Int)), ((k : Int) < (4 : Nat)), ((((s : List Int).map wV).toArray : Array Value)[(k : Int).toNat * 1]? = some (.int .u64 (gI s k)))] (by kernel_rfl) ⟨(by omega), (by omega), (idxM wV (0 : Int) k (by omega) (by have := (by first | assumption | exact (okW_with (by assumption)).1 | exact (okW_less (by assumption)).1 | exact (ofW_ok _).1 | exact (fullW_W _).1 | (refine okLen ?_; (repeat (first | assumption | exact ofW_ok _ | exact fullW_W _ | apply okW_with | apply okW_less | refine okW_orS ?_ ?_ | refine okW_andS ?_ ?_ | refine okW_minusS ?_ ?_)); done) | rfl | omega | (simp only [List.length_set]; first | done | assumption | omega) | exact lenW4 _ (by assumption)); omega)), trivial⟩ (fun act32 f31 => ?_)
  clear f30
  refine At.done rfl ?_
  refine t_n ?_
  have f33 := f31.sub (r := [(4, .int .u64 (gI s k)), (3, .int .i64 (k)), (6, .int .i64 (k)), (5, .agg ((s : List Int).map wV).toArray)]) ⟨rfl, rfl, rfl, rfl, trivial⟩
  clear f31
  refine wp_seq ?_
  refine At.start ?_
  refine At.rd f33 2 [[], []] [(11, .bool ((gI s k : Int) != 0)), (10, .int .u64 (gI s k))] [] (by kernel_rfl) trivial (fun act35 f34 => ?_)
  clear f33
  refine At.done rfl ?_
  refine t_n ?_
  have f36 := f34.sub (r := [(11, .bool ((gI s k : Int) != 0)), (4, .int .u64 (gI s k)), (3, .int .i64 (k)), (6, .int .i64 (k)), (5, .agg ((s : List Int).map wV).toArray)]) ⟨rfl, rfl, rfl, rfl, rfl, trivial⟩
  clear f34
  refine cond_S f36 (t := (gI s k : Int) != 0) rfl (fun h37 => ?_) (fun h37 => ?_)
  ·have q38 := bne_iff_ne.1 h37
   refine wp_seq ?_
   refine At.start ?_
   refine At.rd f36 3 [[], [.as_ (.int .i64 (64 * k))], []] [(14, .int .u64 (gI s k)), (13, .int .i64 (64 * k)), (12, .int .i64 (k))] [((.int .i64 (IntKind.i64.wrap (64 * k)) : Value) = .int .i64 (64 * k))] (by kernel_rfl) ⟨(w64 (by omega) (by omega)), trivial⟩ (fun act40 f39 => ?_)
   clear f36
   refine At.call f39 40 #[.int .u64 (gI s k)] (some 15) (by kernel_rfl) (tzI_any (z := gI s k) (by first | exact hs.2 _ | exact hrw.1 | assumption) (r22.wide (Nat.zero_le _) (by omega))) ?_
   rintro e_ w41 ⟨rfl, he⟩
   have := tz_lt (z := gI s k) (by first | exact hs.2 _ | exact hrw.1 | assumption) (by omega)
   refine ⟨_, rfl, _, rfl, fun act42 f43 => ?_⟩
   clear f39
   have g44 := gr_ext he
   have szw41 := g44.size
   have e45 := e19.gr g44 no_row
   clear e19
   have r46 := r22.gr g44 (fun _ h => by cases h)
   clear r22
   have bx47 := bx23.gr g44 (by simp)
   clear bx23
   clear g44 he
   refine At.rd f43 2 [[.as_ (.int .i64 ((64 * k) + (tzI (gI s k))))], []] [(2, .int .i64 ((64 * k) + (tzI (gI s k)))), (16, .int .i64 ((64 * k) + (tzI (gI s k))))] [((.int .i64 (IntKind.i64.wrap ((64 * k) + (tzI (gI s k)))) : Value) = .int .i64 ((64 * k) + (tzI (gI s k))))] (by kernel_rfl) ⟨(w64 (by omega) (by omega)), trivial⟩ (fun act49 f48 => ?_)
   clear f43
   refine At.done rfl ?_
   refine t_n ?_
   have f50 := f48.sub (r := [(2, .int .i64 ((64 * k) + (tzI (gI s k))))]) ⟨rfl, trivial⟩
   clear f48
   refine wp_ret ?_
   refine b_r ?_
   refine t_r ?_
   refine t_r ?_
   refine b_r ?_
   refine t_r ?_
   refine ret_ f50 [] [.int .i64 ((64 * k) + (tzI (gI s k)))] [] (by kernel_rfl) trivial ?_
   exact ⟨ret_eq (congrArg (Value.int .i64) (by first | exact least_hit hs hno (by omega) (by omega) (by omega) | exact least_no (k := 256) (by omega) (fun j a b => hno j a (by omega)))), e45⟩
  ·have q51 := bne_eq_false_iff_eq.1 h37
   refine wp_skip ?_
   refine b_n ?_
   refine t_n ?_
   have f52 := f36.sub (r := [(6, .int .i64 (k)), (5, .agg ((s : List Int).map wV).toArray)]) ⟨rfl, rfl, trivial⟩
   clear f36
   refine At.start ?_
   refine At.rd f52 2 [[.as_ (.int .i64 (k + 1))], []] [(6, .int .i64 (k + 1)), (17, .int .i64 (k + 1))] [((.int .i64 (IntKind.i64.wrap (k + 1)) : Value) = .int .i64 (k + 1))] (by kernel_rfl) ⟨(w64 (by omega) (by omega)), trivial⟩ (fun act54 f53 => ?_)
   clear f52
   refine At.done rfl ?_
   refine t_n ?_
   have f55 := f53.sub (r := [(6, .int .i64 (k + 1)), (5, .agg ((s : List Int).map wV).toArray)]) ⟨rfl, rfl, trivial⟩
   exact ⟨_, (by omega), (k + 1), rfl, f55, e19, r22, bx23, (by omega), (by omega), (least_skip hno (by omega) (by omega) (by omega))⟩
 ·have q56 := of_decide_eq_false h28
  refine wp_exit ?_
  refine t_e ?_
  refine t_e ?_
  refine b_e ?_
  refine t_n ?_
  have f57 := f26.sub (r := []) trivial
  clear f26
  refine wp_seq ?_
  refine At.start ?_
  refine At.rd f57 1 [[]] [(2, .int .i64 (-1))] [] (by kernel_rfl) trivial (fun act59 f58 => ?_)
  clear f57
  refine At.done rfl ?_
  refine t_n ?_
  refine wp_ret ?_
  refine ret_ f58 [] [.int .i64 (-1)] [] (by kernel_rfl) trivial ?_
  exact ⟨ret_eq (congrArg (Value.int .i64) (by first | exact least_hit hs hno (by omega) (by omega) (by omega) | exact least_no (k := 256) (by omega) (fun j a b => hno j a (by omega)))), e19⟩

end Go.Proofs.YtepekncgknlcjaaDoor
