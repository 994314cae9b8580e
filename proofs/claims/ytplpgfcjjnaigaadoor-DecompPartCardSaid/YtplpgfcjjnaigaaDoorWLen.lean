/-
  A walk of a Go function, printed by a program of this repo. Conditions: what the theorems name.
-/
import Derived.Test.YtplpgfcjjnaigaaDoorWOnes
import Derived.Test.YtplpgfcjjnaigaaDoorPureLen
set_option linter.unusedVariables false
set_option linter.unusedSimpArgs false
namespace Go.Proofs.YtplpgfcjjnaigaaDoor
open Go Go.RowKit

set_option maxHeartbeats 4000000 in
theorem len_any {s : List Int} {w : World} (hs : OkW s) :
    Calls Tryd.prog 57 #[.agg ((s : List Int).map wV).toArray] w fun e w' => e = .returned (.int .i64 (lenW s)) ∧ Ext w w' := by
 have hls := hs.1
 refine enter_ (args := [.agg ((s : List Int).map wV).toArray]) Tryd.func57 rfl Tryd.ntmps57 (Nat.le_of_ble_eq_true rfl) (fun act0 f0 => ?_)
 have e0 : Ext w w := Ext.refl w
 refine wp_seq ?_
 refine At.start ?_
 refine At.seq f0 1 [[]] [(1, .pointer (some ⟨w.heap.size, 0, none⟩))] (w.alloc (.cells ((s : List Int).map wV).toArray 44 (0, 0))) [] (by kernel_rfl) trivial (fun act4 w1 hw2 f3 => ?_)
 clear f0; have g5 := gr_alloc hw2; have := g5.size; replace e0 := e0.gn g5; have bx8 : Bx w1 (w.heap.size) ((s : List Int).map wV) 44 := Bx.new hw2; have := bx8.lt; clear g5 hw2
 refine At.rd f3 1 [[]] [(2, .int .i64 (0))] [] (by kernel_rfl) trivial (fun aQ f9 => ?_)
 clear f3
 refine At.done rfl ?_
 refine t_n ?_
 refine wp_seq ?_
 refine At.start ?_
 refine At.rd f9 1 [[]] [(3, .int .i64 (0))] [] (by kernel_rfl) trivial (fun aR aF => ?_)
 clear f9
 refine At.done rfl ?_
 refine t_n ?_
 refine wp_seq ?_
 refine wp_seq ?_
 refine At.start ?_
 refine At.rd aF 2 [[.cs ((s : List Int).map wV)], []] [(7, .int .i64 (0)), (6, .agg ((s : List Int).map wV).toArray)] [(((s : List Int).map wV).length = 4), (∀ (j : Nat) (v : Value), ((s : List Int).map wV)[j]? = some v → w1.cell? ((⟨w.heap.size, 0, none⟩ : Addr).add j) = some v)] (by kernel_rfl) ⟨((List.length_map _).trans (by assumption)), bx8.whole, trivial⟩ (fun aS aG => ?_)
 clear aF
 refine At.done rfl ?_
 refine t_n ?_
 refine wp_block ?_
 have aH := aG.sub (r := [(7, .int .i64 (0)), (3, .int .i64 (0)), (6, .agg ((s : List Int).map wV).toArray), (2, .int .i64 (0))]) ⟨rfl, rfl, rfl, rfl, trivial⟩
 refine loop_g (fun (m_ : Nat) a_ w_ => ∃ (k : Int) (r : Int), m_ = (4 - k).toNat ∧ (Frm 16 a_ [(7, .int .i64 (k)), (3, .int .i64 (r)), (6, .agg ((s : List Int).map wV).toArray), (2, .int .i64 (0))]) ∧ (Ext w w_) ∧ (Bx w_ (w.heap.size) ((s : List Int).map wV) 44) ∧ (0 ≤ k) ∧ (k ≤ 4) ∧ (r = lenN s k.toNat) ∧ (0 ≤ r) ∧ (r ≤ 64 * k)) _ ⟨0, 0, rfl, aH, e0, bx8, (by omega), (by omega), rfl, (by omega), (by omega)⟩ ?_
 clear aH aG; clear bx8; clear e0
 intro m_ aT aU ⟨k, r, hm19, aI, aA, aC, i22, i23, hr, i24, i25⟩
 have := aA.size; have := aC.lt
 refine wp_seq ?_
 refine At.start ?_
 refine At.rd aI 1 [[]] [(8, .bool (decide ((k : Int) < 4)))] [] (by kernel_rfl) trivial (fun aV aB => ?_)
 clear aI
 refine At.done rfl ?_
 refine t_n ?_
 refine wp_seq ?_
 refine cond_S aB (t := decide ((k : Int) < 4)) rfl (fun aE => ?_) (fun aE => ?_)
 ·have aW := of_decide_eq_true aE
  refine wp_skip ?_
  refine t_n ?_
  refine wp_seq ?_
  refine wp_block ?_
  refine wp_seq ?_
  refine At.start ?_
  refine At.rd aB 2 [[.ld (.int .u64 (gI s k))], []] [(5, .int .u64 (gI s k)), (9, .int .u64 (gI s k))] [(0 ≤ (k : Int)), ((k : Int) < (4 : Nat)), ((((s : List Int).map wV).toArray : Array Value)[(k : Int).toNat * 1]? = some (.int .u64 (gI s k)))] (by kernel_rfl) ⟨(by omega), (by omega), (idxM wV (0 : Int) k (by omega) (by have := (by first | assumption | exact (okW_with (by assumption)).1 | exact (okW_less (by assumption)).1 | exact (ofW_ok _).1 | exact (fullW_W _).1 | (refine okLen ?_; (repeat (first | assumption | exact ofW_ok _ | exact fullW_W _ | apply okW_with | apply okW_less | refine okW_orS ?_ ?_ | refine okW_andS ?_ ?_ | refine okW_minusS ?_ ?_)); done) | rfl | omega | (simp only [List.length_set]; first | done | assumption | omega) | exact lenW4 _ (by assumption)); omega)), trivial⟩ (fun aX aJ => ?_)
  clear aB
  refine At.done rfl ?_
  refine t_n ?_
  refine At.start ?_
  refine At.rd aJ 2 [[], []] [(11, .int .u64 (gI s k)), (10, .int .i64 (r))] [] (by kernel_rfl) trivial (fun aY aK => ?_)
  clear aJ
  refine At.call aK 62 #[.int .u64 (gI s k)] (some 12) (by kernel_rfl) (onesI (z := gI s k) (hs.2 _)) ?_
  rintro e_ aZ ⟨rfl, he⟩
  have := onI_le (gI s k)
  refine ⟨_, rfl, _, rfl, fun bA aL => ?_⟩
  clear aK; have aD := gr_ext he; have := aD.size; replace aA := aA.gn aD; replace aC := aC.gn aD; clear aD he
  refine At.rd aL 2 [[.as_ (.int .i64 (r + (onI (gI s k))))], []] [(3, .int .i64 (r + (onI (gI s k)))), (13, .int .i64 (r + (onI (gI s k))))] [((.int .i64 (IntKind.i64.wrap (r + (onI (gI s k)))) : Value) = .int .i64 (r + (onI (gI s k))))] (by kernel_rfl) ⟨(w64 (by omega) (by omega)), trivial⟩ (fun bB aM => ?_)
  clear aL
  refine At.done rfl ?_
  refine b_n ?_
  refine t_n ?_
  refine At.start ?_
  refine At.rd aM 2 [[.as_ (.int .i64 (k + 1))], []] [(7, .int .i64 (k + 1)), (14, .int .i64 (k + 1))] [((.int .i64 (IntKind.i64.wrap (k + 1)) : Value) = .int .i64 (k + 1))] (by kernel_rfl) ⟨(w64 (by omega) (by omega)), trivial⟩ (fun bC aN => ?_)
  clear aM
  refine At.done rfl ?_
  refine t_n ?_
  have aO := aN.sub (r := [(7, .int .i64 (k + 1)), (3, .int .i64 (r + (onI (gI s k)))), (6, .agg ((s : List Int).map wV).toArray), (2, .int .i64 (0))]) ⟨rfl, rfl, rfl, rfl, trivial⟩
  exact ⟨_, (by omega), (k + 1), (r + onI (gI s k)), rfl, aO, aA, aC, (by omega), (by omega), (len_next hr (by omega)), (by omega), (by omega)⟩
 have bD := of_decide_eq_false aE
 refine wp_exit ?_
 refine t_e ?_
 refine t_e ?_
 refine b_e ?_
 refine t_n ?_
 refine wp_seq ?_
 refine At.start ?_
 refine At.rd aB 2 [[], []] [(2, .int .i64 (r)), (15, .int .i64 (r))] [] (by kernel_rfl) trivial (fun bE aP => ?_)
 clear aB
 refine At.done rfl ?_
 refine t_n ?_
 refine wp_ret ?_
 refine ret_ aP [] [.int .i64 (r)] [] (by kernel_rfl) trivial ?_
 exact ⟨ret_eq (congrArg (Value.int .i64) (len_end hr (by omega) (by omega))), aA⟩

end Go.Proofs.YtplpgfcjjnaigaaDoor
