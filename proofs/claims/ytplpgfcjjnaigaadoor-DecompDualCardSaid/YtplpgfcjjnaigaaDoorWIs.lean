/-
  A walk of a Go function, printed by a program of this repo. Conditions: what the theorems name.
-/
import Derived.Test.YtplpgfcjjnaigaaDoorLem
import Derived.Test.YtplpgfcjjnaigaaDoorPureGame
import Derived.Test.YtplpgfcjjnaigaaDoorWRight2
set_option linter.unusedVariables false
set_option linter.unusedSimpArgs false
namespace Go.Proofs.YtplpgfcjjnaigaaDoor
open Go Go.RowKit

set_option maxHeartbeats 4000000 in
theorem index_any {Aa : Option Addr} {ca : Nat} {la : List Int} {v : Int} {w : World} (ra : RdI w 0 w.heap.size Aa la) :
    Calls Tryd.prog 58 #[.slice Aa la.length ca, .int .i64 (v)] w fun e w' => e = .returned (.int .i64 (idxI la v)) ∧ Ext w w' := by
 have hla := ra.len
 refine enter_ (args := [.slice Aa la.length ca, .int .i64 (v)]) Tryd.func58 rfl Tryd.ntmps58 (Nat.le_of_ble_eq_true rfl) (fun act0 f0 => ?_)
 have e0 : Ext w w := Ext.refl w
 refine wp_seq ?_
 refine At.start ?_
 refine At.rd f0 1 [[]] [(4, .int .i64 (0))] [] (by kernel_rfl) trivial (fun act2 f1 => ?_)
 clear f0
 refine At.done rfl ?_
 refine t_n ?_
 refine wp_seq ?_
 refine wp_seq ?_
 refine At.start ?_
 refine At.rd f1 3 [[], [], []] [(8, .int .i64 (0)), (7, .int .i64 (((la.length : Nat) : Int))), (6, .slice Aa la.length ca)] [] (by kernel_rfl) trivial (fun act4 f3 => ?_)
 clear f1
 refine At.done rfl ?_
 refine t_n ?_
 refine wp_block ?_
 have f5 := f3.sub (r := [(8, .int .i64 (0)), (7, .int .i64 (((la.length : Nat) : Int))), (0, .slice Aa la.length ca), (1, .int .i64 (v))]) ⟨rfl, rfl, rfl, rfl, trivial⟩
 refine loop_g (fun (m_ : Nat) a_ w_ => ∃ (k : Int), m_ = ((la.length : Int) - k).toNat ∧ (Frm 19 a_ [(8, .int .i64 (k)), (7, .int .i64 (((la.length : Nat) : Int))), (0, .slice Aa la.length ca), (1, .int .i64 (v))]) ∧ (Ext w w_) ∧ (RdI w_ 0 w.heap.size Aa la) ∧ (0 ≤ k) ∧ (k ≤ (la.length : Int)) ∧ (v ∉ la.take k.toNat)) _ ⟨0, rfl, f5, e0, ra, (by omega), (by omega), (notin_zero _ _)⟩ ?_
 clear f5 f3; clear ra; clear e0
 intro m_ act6 w7 ⟨k, hm9, aF, e8, aG, i12, i13, i14⟩
 have := e8.size
 refine wp_seq ?_
 refine At.start ?_
 refine At.rd aF 1 [[]] [(9, .bool (decide ((k : Int) < ((la.length : Nat) : Int))))] [] (by kernel_rfl) trivial (fun aO aA => ?_)
 clear aF
 refine At.done rfl ?_
 refine t_n ?_
 refine wp_seq ?_
 refine cond_S aA (t := decide ((k : Int) < ((la.length : Nat) : Int))) rfl (fun aD => ?_) (fun aD => ?_)
 ·have aP := of_decide_eq_true aD
  refine wp_skip ?_
  refine t_n ?_
  refine wp_seq ?_
  refine wp_block ?_
  refine wp_seq ?_
  refine At.start ?_
  refine At.rd aA 2 [[], []] [(5, .int .i64 (k)), (10, .int .i64 (k))] [] (by kernel_rfl) trivial (fun aQ aH => ?_)
  clear aA
  refine At.done rfl ?_
  refine t_n ?_
  refine wp_seq ?_
  refine At.start ?_
  obtain ⟨aC, aI, _, _, aJ⟩ := RdI.get aG (k) (by omega) (by omega)
  refine At.rd aH 6 [[], [], [], [.ad aC], [.ld (.int .i64 (gI la (k)))], []] [(16, .bool ((v : Int) == (gI la (k)))), (15, .int .i64 (gI la (k))), (14, .pointer (some (aC.add ((k : Int).toNat * 1)))), (13, .int .i64 (k)), (12, .slice Aa la.length ca), (11, .int .i64 (v))] [(Aa = some aC), (0 ≤ (k : Int)), ((k : Int) < (la.length : Nat)), (w7.cell? (aC.add ((k : Int).toNat * 1)) = some (.int .i64 (gI la (k))))] (by kernel_rfl) ⟨aI, (by omega), (by omega), aJ, trivial⟩ (fun aR aB => ?_)
  clear aH
  refine At.done rfl ?_
  refine t_n ?_
  refine cond_S aB (t := (v : Int) == (gI la (k))) rfl (fun aE => ?_) (fun aE => ?_)
  ·have aS := eq_of_beq aE
   refine wp_seq ?_
   refine At.start ?_
   refine At.rd aB 2 [[], []] [(4, .int .i64 (k)), (17, .int .i64 (k))] [] (by kernel_rfl) trivial (fun aT aK => ?_)
   clear aB
   refine At.done rfl ?_
   refine t_n ?_
   refine wp_ret ?_
   refine b_r ?_
   refine t_r ?_
   refine t_r ?_
   refine b_r ?_
   refine t_r ?_
   refine ret_ aK [] [.int .i64 (k)] [] (by kernel_rfl) trivial ?_
   exact ⟨ret_eq (congrArg (Value.int .i64) (idx_at (by omega) (by omega) (by assumption) (by assumption))), e8⟩
  have aU := ne_of_beq_false aE
  refine wp_skip ?_
  refine b_n ?_
  refine t_n ?_
  refine At.start ?_
  refine At.rd aB 2 [[.as_ (.int .i64 (k + 1))], []] [(8, .int .i64 (k + 1)), (18, .int .i64 (k + 1))] [((.int .i64 (IntKind.i64.wrap (k + 1)) : Value) = .int .i64 (k + 1))] (by kernel_rfl) ⟨(w64 (by omega) (by omega)), trivial⟩ (fun aV aL => ?_)
  clear aB
  refine At.done rfl ?_
  refine t_n ?_
  have aM := aL.sub (r := [(8, .int .i64 (k + 1)), (7, .int .i64 (((la.length : Nat) : Int))), (0, .slice Aa la.length ca), (1, .int .i64 (v))]) ⟨rfl, rfl, rfl, rfl, trivial⟩
  exact ⟨_, (by omega), (k + 1), rfl, aM, e8, aG, (by omega), (by omega), (notin_next (by omega) (by omega) (by assumption) (by assumption))⟩
 have aW := of_decide_eq_false aD
 refine wp_exit ?_
 refine t_e ?_
 refine t_e ?_
 refine b_e ?_
 refine t_n ?_
 refine wp_seq ?_
 refine At.start ?_
 refine At.rd aA 1 [[]] [(4, .int .i64 (-1))] [] (by kernel_rfl) trivial (fun aX aN => ?_)
 clear aA
 refine At.done rfl ?_
 refine t_n ?_
 refine wp_ret ?_
 refine ret_ aN [] [.int .i64 (-1)] [] (by kernel_rfl) trivial ?_
 exact ⟨ret_eq (congrArg (Value.int .i64) (idx_no (by assumption) (by omega))), e8⟩

set_option maxHeartbeats 4000000 in
theorem contains_any {Aa : Option Addr} {ca : Nat} {la : List Int} {v : Int} {w : World} (ra : RdI w 0 w.heap.size Aa la) :
    Calls Tryd.prog 49 #[.slice Aa la.length ca, .int .i64 (v)] w fun e w' => e = .returned (.bool (decide (v ∈ la))) ∧ Ext w w' := by
 have hla := ra.len
 refine enter_ (args := [.slice Aa la.length ca, .int .i64 (v)]) Tryd.func49 rfl Tryd.ntmps49 (Nat.le_of_ble_eq_true rfl) (fun act0 f0 => ?_)
 have e0 : Ext w w := Ext.refl w
 refine wp_seq ?_
 refine At.start ?_
 refine At.rd f0 1 [[]] [(4, .bool false)] [] (by kernel_rfl) trivial (fun act2 f1 => ?_)
 clear f0
 refine At.done rfl ?_
 refine t_n ?_
 refine wp_seq ?_
 refine At.start ?_
 refine At.rd f1 2 [[], []] [(6, .int .i64 (v)), (5, .slice Aa la.length ca)] [] (by kernel_rfl) trivial (fun act4 f3 => ?_)
 clear f1
 refine At.call f3 58 #[.slice Aa la.length ca, .int .i64 (v)] (some 7) (by kernel_rfl) (index_any (v := v) (ra.wide (Nat.zero_le _) (by omega))) ?_
 rintro e_ w5 ⟨rfl, he⟩
 refine ⟨_, rfl, _, rfl, fun act6 f7 => ?_⟩
 clear f3; have g8 := gr_ext he; have := g8.size; replace e0 := e0.gn g8; have aB := ra.gn g8; clear ra; clear g8 he
 refine At.rd f7 2 [[], []] [(4, .bool (decide ((idxI la v : Int) ≥ 0))), (8, .bool (decide ((idxI la v : Int) ≥ 0)))] [] (by kernel_rfl) trivial (fun aC aA => ?_)
 clear f7
 refine At.done rfl ?_
 refine t_n ?_
 refine wp_ret ?_
 refine ret_ aA [] [.bool (decide ((idxI la v : Int) ≥ 0))] [] (by kernel_rfl) trivial ?_
 exact ⟨ret_eq (congrArg Value.bool (idx_in _ _)), e0⟩

end Go.Proofs.YtplpgfcjjnaigaaDoor
