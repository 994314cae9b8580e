/-
  A walk of a Go function, printed by a program of this repo. Conditions: what the theorems name.
-/
import Derived.Test.YtkkophhnliplhaaDoorPureList
set_option linter.unusedVariables false
set_option linter.unusedSimpArgs false
namespace Go.Proofs.YtkkophhnliplhaaDoor
open Go Go.RowKit

set_option maxHeartbeats 4000000 in
theorem least_any {s : List Int} {w : World} (hs : OkW s) (rT : RdT w 0 w.heap.size) :
    Calls Tryd.prog 35 #[.agg ((s : List Int).map wV).toArray] w fun e w' => e = .returned (.int .i64 (leastD (fromW s))) ∧ Ext w w' := by
 have hls := hs.1
 refine enter_ (args := [.agg ((s : List Int).map wV).toArray]) Tryd.func35 rfl Tryd.ntmps35 (Nat.le_of_ble_eq_true rfl) (fun act0 f0 => ?_)
 have e0 : Ext w w := Ext.refl w
 refine wp_seq ?_
 refine At.start ?_
 refine At.seq f0 1 [[]] [(1, .pointer (some ⟨w.heap.size, 0, none⟩))] (w.alloc (.cells ((s : List Int).map wV).toArray 47 (0, 0))) [] (by kernel_rfl) trivial (fun act4 w1 hw2 f3 => ?_)
 clear f0
 have g5 := gr_alloc hw2
 have szw1 := g5.size
 replace e0 := e0.gr g5 no_row
 have r8 := rT.gr g5 (fun _ h => by cases h)
 clear rT
 have bx9 : Bx w1 (w.heap.size) ((s : List Int).map wV) 47 := Bx.new hw2
 have := bx9.lt
 clear g5 hw2
 refine At.rd f3 1 [[]] [(2, .int .i64 (0))] [] (by kernel_rfl) trivial (fun act11 f10 => ?_)
 clear f3
 refine At.done rfl ?_
 refine t_n ?_
 refine wp_seq ?_
 refine wp_seq ?_
 refine At.start ?_
 refine At.rd f10 2 [[.cs ((s : List Int).map wV)], []] [(6, .int .i64 (0)), (5, .agg ((s : List Int).map wV).toArray)] [(((s : List Int).map wV).length = 4), (∀ (j : Nat) (v : Value), ((s : List Int).map wV)[j]? = some v → w1.cell? ((⟨w.heap.size, 0, none⟩ : Addr).add j) = some v)] (by kernel_rfl) ⟨((List.length_map _).trans (by assumption)), bx9.whole, trivial⟩ (fun act13 f12 => ?_)
 clear f10
 refine At.done rfl ?_
 refine t_n ?_
 refine wp_block ?_
 have f14 := f12.sub (r := [(6, .int .i64 (0)), (5, .agg ((s : List Int).map wV).toArray)]) ⟨rfl, rfl, trivial⟩
 refine loop_g (fun (m_ : Nat) a_ w_ => ∃ (k : Int), m_ = (4 - k).toNat ∧ (Frm 18 a_ [(6, .int .i64 (k)), (5, .agg ((s : List Int).map wV).toArray)]) ∧ (Ext w w_) ∧ (RdT w_ 0 w.heap.size) ∧ (Bx w_ (w.heap.size) ((s : List Int).map wV) 47) ∧ (0 ≤ k) ∧ (k ≤ 4) ∧ (∀ j : Int, 0 ≤ j → j < 64 * k → gB (fromW s) j = false)) _ ⟨0, rfl, f14, e0, r8, bx9, (by omega), (by omega), (fun j a b => by omega)⟩ ?_
 clear f14 f12
 clear r8
 clear bx9
 clear e0
 intro m_ act15 w16 ⟨k, hm18, f19, e17, r20, bx21, i22, i23, hno⟩
 have szw16 := e17.size
 have := bx21.lt
 refine wp_seq ?_
 refine At.start ?_
 refine At.rd f19 1 [[]] [(7, .bool (decide ((k : Int) < 4)))] [] (by kernel_rfl) trivial (fun act25 f24 => ?_)
 clear f19
 refine At.done rfl ?_
 refine t_n ?_
 refine wp_seq ?_
 refine cond_S f24 (t := decide ((k : Int) < 4)) rfl (fun h26 => ?_) (fun h26 => ?_)
 ·have q27 := of_decide_eq_true h26
  refine wp_skip ?_
  refine t_n ?_
  refine wp_seq ?_
  refine wp_block ?_
  refine wp_seq ?_
  refine At.start ?_
  refine At.rd f24 4 [[], [.ld (.int .u64 (gI s k))], [], []] [(4, .int .u64 (gI s k)), (3, .int .i64 (k)), (9, .int .u64 (gI s k)), (8, .int .i64 (k))] [(0 ≤ (k : Int)), ((k : Int) < (4 : Nat)), ((((s : List Int).map wV).toArray : Array Value)[(k : Int).toNat * 1]? = some (.int .u64 (gI s k)))] (by kernel_rfl) ⟨(by omega), (by omega), (idxM wV (0 : Int) k (by omega) (by have := (by first | assumption | exact (okW_with (by assumption)).1 | exact (okW_less (by assumption)).1 | exact (ofW_ok _).1 | exact (fullW_W _).1 | (refine okLen ?_; (repeat (first | assumption | exact ofW_ok _ | exact fullW_W _ | apply okW_with | apply okW_less | refine okW_orS ?_ ?_ | refine okW_andS ?_ ?_ | refine okW_minusS ?_ ?_)); done) | rfl | omega | (simp only [List.length_set]; first | done | assumption | omega) | exact lenW4 _ (by assumption)); omega)), trivial⟩ (fun act29 f28 => ?_)
  clear f24
  refine At.done rfl ?_
  refine t_n ?_
  refine wp_seq ?_
  refine At.start ?_
  refine At.rd f28 2 [[], []] [(11, .bool ((gI s k : Int) != 0)), (10, .int .u64 (gI s k))] [] (by kernel_rfl) trivial (fun act31 f30 => ?_)
  clear f28
  refine At.done rfl ?_
  refine t_n ?_
  refine cond_S f30 (t := (gI s k : Int) != 0) rfl (fun h32 => ?_) (fun h32 => ?_)
  ·have q33 := bne_iff_ne.1 h32
   refine wp_seq ?_
   refine At.start ?_
   refine At.rd f30 3 [[], [.as_ (.int .i64 (64 * k))], []] [(14, .int .u64 (gI s k)), (13, .int .i64 (64 * k)), (12, .int .i64 (k))] [((.int .i64 (IntKind.i64.wrap (64 * k)) : Value) = .int .i64 (64 * k))] (by kernel_rfl) ⟨(w64 (by omega) (by omega)), trivial⟩ (fun act35 f34 => ?_)
   clear f30
   refine At.call f34 45 #[.int .u64 (gI s k)] (some 15) (by kernel_rfl) (tzI_any (z := gI s k) (by first | exact hs.2 _ | exact hrw.1 | assumption) (r20.wide (Nat.zero_le _) (by omega))) ?_
   rintro e_ w36 ⟨rfl, he⟩
   have := tz_lt (z := gI s k) (by first | exact hs.2 _ | exact hrw.1 | assumption) (by omega)
   refine ⟨_, rfl, _, rfl, fun act37 f38 => ?_⟩
   clear f34
   have g39 := gr_ext he
   have szw36 := g39.size
   replace e17 := e17.gr g39 no_row
   replace r20 := r20.gr g39 (fun _ h => by cases h)
   replace bx21 := bx21.gr g39 (by simp)
   clear g39 he
   refine At.rd f38 2 [[.as_ (.int .i64 ((64 * k) + (tzI (gI s k))))], []] [(2, .int .i64 ((64 * k) + (tzI (gI s k)))), (16, .int .i64 ((64 * k) + (tzI (gI s k))))] [((.int .i64 (IntKind.i64.wrap ((64 * k) + (tzI (gI s k)))) : Value) = .int .i64 ((64 * k) + (tzI (gI s k))))] (by kernel_rfl) ⟨(w64 (by omega) (by omega)), trivial⟩ (fun act44 f43 => ?_)
   clear f38
   refine At.done rfl ?_
   refine t_n ?_
   refine wp_ret ?_
   refine b_r ?_
   refine t_r ?_
   refine t_r ?_
   refine b_r ?_
   refine t_r ?_
   refine ret_ f43 [] [.int .i64 ((64 * k) + (tzI (gI s k)))] [] (by kernel_rfl) trivial ?_
   exact ⟨ret_eq (congrArg (Value.int .i64) (by first | exact least_hit hs hno (by omega) (by omega) (by omega) | exact least_no (k := 256) (by omega) (fun j a b => hno j a (by omega)))), e17⟩
  ·have q45 := bne_eq_false_iff_eq.1 h32
   refine wp_skip ?_
   refine b_n ?_
   refine t_n ?_
   refine At.start ?_
   refine At.rd f30 2 [[.as_ (.int .i64 (k + 1))], []] [(6, .int .i64 (k + 1)), (17, .int .i64 (k + 1))] [((.int .i64 (IntKind.i64.wrap (k + 1)) : Value) = .int .i64 (k + 1))] (by kernel_rfl) ⟨(w64 (by omega) (by omega)), trivial⟩ (fun act47 f46 => ?_)
   clear f30
   refine At.done rfl ?_
   refine t_n ?_
   have f48 := f46.sub (r := [(6, .int .i64 (k + 1)), (5, .agg ((s : List Int).map wV).toArray)]) ⟨rfl, rfl, trivial⟩
   exact ⟨_, (by omega), (k + 1), rfl, f48, e17, r20, bx21, (by omega), (by omega), (least_skip hno (by omega) (by omega) (by omega))⟩
 ·have q49 := of_decide_eq_false h26
  refine wp_exit ?_
  refine t_e ?_
  refine t_e ?_
  refine b_e ?_
  refine t_n ?_
  refine wp_seq ?_
  refine At.start ?_
  refine At.rd f24 1 [[]] [(2, .int .i64 (-1))] [] (by kernel_rfl) trivial (fun act51 f50 => ?_)
  clear f24
  refine At.done rfl ?_
  refine t_n ?_
  refine wp_ret ?_
  refine ret_ f50 [] [.int .i64 (-1)] [] (by kernel_rfl) trivial ?_
  exact ⟨ret_eq (congrArg (Value.int .i64) (by first | exact least_hit hs hno (by omega) (by omega) (by omega) | exact least_no (k := 256) (by omega) (fun j a b => hno j a (by omega)))), e17⟩

end Go.Proofs.YtkkophhnliplhaaDoor
