/-
  A walk of a Go function, printed by a program of this repo. Conditions: what the theorems name.
-/
import Derived.Test.YtplpgfcjjnaigaaDoorPureList
set_option linter.unusedVariables false
set_option linter.unusedSimpArgs false
namespace Go.Proofs.YtplpgfcjjnaigaaDoor
open Go Go.RowKit

set_option maxHeartbeats 4000000 in
theorem least_any {s : List Int} {w : World} (hs : OkW s) (rT : RdT w 0 w.heap.size) :
    Calls Tryd.prog 40 #[.agg ((s : List Int).map wV).toArray] w fun e w' => e = .returned (.int .i64 (leastD (fromW s))) ∧ Ext w w' := by
 have hls := hs.1
 refine enter_ (args := [.agg ((s : List Int).map wV).toArray]) Tryd.func40 rfl Tryd.ntmps40 (Nat.le_of_ble_eq_true rfl) (fun act0 f0 => ?_)
 have e0 : Ext w w := Ext.refl w
 refine wp_seq ?_
 refine At.start ?_
 refine At.seq f0 1 [[]] [(1, .pointer (some ⟨w.heap.size, 0, none⟩))] (w.alloc (.cells ((s : List Int).map wV).toArray 44 (0, 0))) [] (by kernel_rfl) trivial (fun act4 w1 hw2 f3 => ?_)
 clear f0; have g5 := gr_alloc hw2; have := g5.size; replace e0 := e0.gn g5; have r8 := rT.gn g5; clear rT; have bx9 : Bx w1 (w.heap.size) ((s : List Int).map wV) 44 := Bx.new hw2; have := bx9.lt; clear g5 hw2
 refine At.rd f3 1 [[]] [(2, .int .i64 (0))] [] (by kernel_rfl) trivial (fun aT aI => ?_)
 clear f3
 refine At.done rfl ?_
 refine t_n ?_
 refine wp_seq ?_
 refine wp_seq ?_
 refine At.start ?_
 refine At.rd aI 2 [[.cs ((s : List Int).map wV)], []] [(6, .int .i64 (0)), (5, .agg ((s : List Int).map wV).toArray)] [(((s : List Int).map wV).length = 4), (∀ (j : Nat) (v : Value), ((s : List Int).map wV)[j]? = some v → w1.cell? ((⟨w.heap.size, 0, none⟩ : Addr).add j) = some v)] (by kernel_rfl) ⟨((List.length_map _).trans (by assumption)), bx9.whole, trivial⟩ (fun aU aJ => ?_)
 clear aI
 refine At.done rfl ?_
 refine t_n ?_
 refine wp_block ?_
 have aK := aJ.sub (r := [(6, .int .i64 (0)), (5, .agg ((s : List Int).map wV).toArray)]) ⟨rfl, rfl, trivial⟩
 refine loop_g (fun (m_ : Nat) a_ w_ => ∃ (k : Int), m_ = (4 - k).toNat ∧ (Frm 18 a_ [(6, .int .i64 (k)), (5, .agg ((s : List Int).map wV).toArray)]) ∧ (Ext w w_) ∧ (RdT w_ 0 w.heap.size) ∧ (Bx w_ (w.heap.size) ((s : List Int).map wV) 44) ∧ (0 ≤ k) ∧ (k ≤ 4) ∧ (∀ j : Int, 0 ≤ j → j < 64 * k → gB (fromW s) j = false)) _ ⟨0, rfl, aK, e0, r8, bx9, (by omega), (by omega), (fun j a b => by omega)⟩ ?_
 clear aK aJ; clear r8; clear bx9; clear e0
 intro m_ aV aW ⟨k, hm18, aL, aA, aE, aF, i22, i23, hno⟩
 have := aA.size; have := aF.lt
 refine wp_seq ?_
 refine At.start ?_
 refine At.rd aL 1 [[]] [(7, .bool (decide ((k : Int) < 4)))] [] (by kernel_rfl) trivial (fun aX aB => ?_)
 clear aL
 refine At.done rfl ?_
 refine t_n ?_
 refine wp_seq ?_
 refine cond_S aB (t := decide ((k : Int) < 4)) rfl (fun aG => ?_) (fun aG => ?_)
 ·have aY := of_decide_eq_true aG
  refine wp_skip ?_
  refine t_n ?_
  refine wp_seq ?_
  refine wp_block ?_
  refine wp_seq ?_
  refine At.start ?_
  refine At.rd aB 4 [[], [.ld (.int .u64 (gI s k))], [], []] [(4, .int .u64 (gI s k)), (3, .int .i64 (k)), (9, .int .u64 (gI s k)), (8, .int .i64 (k))] [(0 ≤ (k : Int)), ((k : Int) < (4 : Nat)), ((((s : List Int).map wV).toArray : Array Value)[(k : Int).toNat * 1]? = some (.int .u64 (gI s k)))] (by kernel_rfl) ⟨(by omega), (by omega), (idxM wV (0 : Int) k (by omega) (by have := (by first | assumption | exact (okW_with (by assumption)).1 | exact (okW_less (by assumption)).1 | exact (ofW_ok _).1 | exact (fullW_W _).1 | (refine okLen ?_; (repeat (first | assumption | exact ofW_ok _ | exact fullW_W _ | apply okW_with | apply okW_less | refine okW_orS ?_ ?_ | refine okW_andS ?_ ?_ | refine okW_minusS ?_ ?_)); done) | rfl | omega | (simp only [List.length_set]; first | done | assumption | omega) | exact lenW4 _ (by assumption)); omega)), trivial⟩ (fun aZ aM => ?_)
  clear aB
  refine At.done rfl ?_
  refine t_n ?_
  refine wp_seq ?_
  refine At.start ?_
  refine At.rd aM 2 [[], []] [(11, .bool ((gI s k : Int) != 0)), (10, .int .u64 (gI s k))] [] (by kernel_rfl) trivial (fun bA aC => ?_)
  clear aM
  refine At.done rfl ?_
  refine t_n ?_
  refine cond_S aC (t := (gI s k : Int) != 0) rfl (fun aH => ?_) (fun aH => ?_)
  ·have bB := bne_iff_ne.1 aH
   refine wp_seq ?_
   refine At.start ?_
   refine At.rd aC 3 [[], [.as_ (.int .i64 (64 * k))], []] [(14, .int .u64 (gI s k)), (13, .int .i64 (64 * k)), (12, .int .i64 (k))] [((.int .i64 (IntKind.i64.wrap (64 * k)) : Value) = .int .i64 (64 * k))] (by kernel_rfl) ⟨(w64 (by omega) (by omega)), trivial⟩ (fun bC aN => ?_)
   clear aC
   refine At.call aN 56 #[.int .u64 (gI s k)] (some 15) (by kernel_rfl) (tzI_any (z := gI s k) (by first | exact hs.2 _ | exact hrw.1 | assumption) (aE.wide (Nat.zero_le _) (by omega))) ?_
   rintro e_ bD ⟨rfl, he⟩
   have := tz_lt (z := gI s k) (by first | exact hs.2 _ | exact hrw.1 | assumption) (by omega)
   refine ⟨_, rfl, _, rfl, fun bE aO => ?_⟩
   clear aN; have aD := gr_ext he; have := aD.size; replace aA := aA.gn aD; replace aE := aE.gn aD; replace aF := aF.gn aD; clear aD he
   refine At.rd aO 2 [[.as_ (.int .i64 ((64 * k) + (tzI (gI s k))))], []] [(2, .int .i64 ((64 * k) + (tzI (gI s k)))), (16, .int .i64 ((64 * k) + (tzI (gI s k))))] [((.int .i64 (IntKind.i64.wrap ((64 * k) + (tzI (gI s k)))) : Value) = .int .i64 ((64 * k) + (tzI (gI s k))))] (by kernel_rfl) ⟨(w64 (by omega) (by omega)), trivial⟩ (fun bF aP => ?_)
   clear aO
   refine At.done rfl ?_
   refine t_n ?_
   refine wp_ret ?_
   refine b_r ?_
   refine t_r ?_
   refine t_r ?_
   refine b_r ?_
   refine t_r ?_
   refine ret_ aP [] [.int .i64 ((64 * k) + (tzI (gI s k)))] [] (by kernel_rfl) trivial ?_
   exact ⟨ret_eq (congrArg (Value.int .i64) (by first | exact least_hit hs hno (by omega) (by omega) (by omega) | exact least_no (k := 256) (by omega) (fun j a b => hno j a (by omega)))), aA⟩
  have bG := bne_eq_false_iff_eq.1 aH
  refine wp_skip ?_
  refine b_n ?_
  refine t_n ?_
  refine At.start ?_
  refine At.rd aC 2 [[.as_ (.int .i64 (k + 1))], []] [(6, .int .i64 (k + 1)), (17, .int .i64 (k + 1))] [((.int .i64 (IntKind.i64.wrap (k + 1)) : Value) = .int .i64 (k + 1))] (by kernel_rfl) ⟨(w64 (by omega) (by omega)), trivial⟩ (fun bH aQ => ?_)
  clear aC
  refine At.done rfl ?_
  refine t_n ?_
  have aR := aQ.sub (r := [(6, .int .i64 (k + 1)), (5, .agg ((s : List Int).map wV).toArray)]) ⟨rfl, rfl, trivial⟩
  exact ⟨_, (by omega), (k + 1), rfl, aR, aA, aE, aF, (by omega), (by omega), (least_skip hno (by omega) (by omega) (by omega))⟩
 have bI := of_decide_eq_false aG
 refine wp_exit ?_
 refine t_e ?_
 refine t_e ?_
 refine b_e ?_
 refine t_n ?_
 refine wp_seq ?_
 refine At.start ?_
 refine At.rd aB 1 [[]] [(2, .int .i64 (-1))] [] (by kernel_rfl) trivial (fun bJ aS => ?_)
 clear aB
 refine At.done rfl ?_
 refine t_n ?_
 refine wp_ret ?_
 refine ret_ aS [] [.int .i64 (-1)] [] (by kernel_rfl) trivial ?_
 exact ⟨ret_eq (congrArg (Value.int .i64) (by first | exact least_hit hs hno (by omega) (by omega) (by omega) | exact least_no (k := 256) (by omega) (fun j a b => hno j a (by omega)))), aA⟩

end Go.Proofs.YtplpgfcjjnaigaaDoor
