/-
  A walk of a Go function, printed by a program of this repo. Conditions: what the theorems name.
-/
import Derived.Test.YtplpgfcjjnaigaaDoorPureSet
import Derived.Test.YtplpgfcjjnaigaaDoorWSetW
set_option linter.unusedVariables false
set_option linter.unusedSimpArgs false
namespace Go.Proofs.YtplpgfcjjnaigaaDoor
open Go Go.RowKit

set_option maxHeartbeats 4000000 in
theorem of_any {Aa : Option Addr} {ca : Nat} {la : List Int} {w : World} (ra : RdI w 0 w.heap.size Aa la) :
    Calls Tryd.prog 22 #[.slice Aa la.length ca] w fun e w' => e = .returned (.agg (((ofW la : List Int)).map wV).toArray) ∧ Ext w w' := by
 have hla := ra.len
 refine enter_ (args := [.slice Aa la.length ca]) Tryd.func22 rfl Tryd.ntmps22 (Nat.le_of_ble_eq_true rfl) (fun act0 f0 => ?_)
 have e0 : Ext w w := Ext.refl w
 refine wp_seq ?_
 refine At.start ?_
 refine At.seq f0 1 [[]] [(2, .pointer (some ⟨w.heap.size, 0, none⟩))] (w.alloc (.cells ((List.replicate 4 (0 : Int) : List Int).map wV).toArray 44 (0, 0))) [] (by kernel_rfl) trivial (fun act4 w1 hw2 f3 => ?_)
 clear f0; have g5 := gr_alloc hw2; have := g5.size; replace e0 := e0.gn g5; have r8 := ra.gn g5; clear ra; have bx9 : Bx w1 (w.heap.size) ((List.replicate 4 (0 : Int) : List Int).map wV) 44 := Bx.new hw2; have := bx9.lt; clear g5 hw2
 refine At.done rfl ?_
 refine t_n ?_
 refine wp_seq ?_
 refine At.start ?_
 refine At.seq f3 1 [[]] [(3, .pointer (some ⟨w1.heap.size, 0, none⟩))] (w1.alloc (.cells ((List.replicate 4 (0 : Int) : List Int).map wV).toArray 44 (0, 0))) [] (by kernel_rfl) trivial (fun bF aX aK aO => ?_)
 clear f3; have aF := gr_alloc aK; have := aF.size; replace e0 := e0.gn aF; replace r8 := r8.gn aF; replace bx9 := bx9.gn aF; have aL : Bx aX (w1.heap.size) ((List.replicate 4 (0 : Int) : List Int).map wV) 44 := Bx.new aK; have := aL.lt; clear aF aK
 refine At.done rfl ?_
 refine t_n ?_
 refine wp_seq ?_
 refine wp_seq ?_
 refine At.start ?_
 refine At.rd aO 3 [[], [], []] [(8, .int .i64 (0)), (7, .int .i64 (((la.length : Nat) : Int))), (6, .slice Aa la.length ca)] [] (by kernel_rfl) trivial (fun bG aP => ?_)
 clear aO
 refine At.done rfl ?_
 refine t_n ?_
 refine wp_block ?_
 have aQ := aP.sub (r := [(8, .int .i64 (0)), (7, .int .i64 (((la.length : Nat) : Int))), (6, .slice Aa la.length ca), (3, .pointer (some ⟨w1.heap.size, 0, none⟩)), (2, .pointer (some ⟨w.heap.size, 0, none⟩))]) ⟨rfl, rfl, rfl, rfl, rfl, trivial⟩
 refine loop_g (fun (m_ : Nat) a_ w_ => ∃ (k : Int) (xs : List Int), m_ = ((la.length : Int) - k).toNat ∧ (Frm 17 a_ [(8, .int .i64 (k)), (7, .int .i64 (((la.length : Nat) : Int))), (6, .slice Aa la.length ca), (3, .pointer (some ⟨w1.heap.size, 0, none⟩)), (2, .pointer (some ⟨w.heap.size, 0, none⟩))]) ∧ (Ext w w_) ∧ (RdI w_ 0 w.heap.size Aa la) ∧ (Bx w_ (w.heap.size) ((List.replicate 4 (0 : Int) : List Int).map wV) 44) ∧ (Bx w_ (w1.heap.size) ((xs : List Int).map wV) 44) ∧ (0 ≤ k) ∧ (k ≤ (la.length : Int)) ∧ (OkW xs) ∧ (xs = ofW (la.take k.toNat)) ∧ (xs.length = 4)) _ ⟨0, List.replicate 4 (0 : Int), rfl, aQ, e0, r8, bx9, aL, (by omega), (by omega), okW_0, rfl, rfl⟩ ?_
 clear aQ aP; clear r8; clear bx9; clear aL; clear e0
 intro m_ bH aM ⟨k, xs, hm26, aR, aA, aC, aD, aB, i31, i32, hok, hxs, i33⟩
 have := aA.size; have := aD.lt; have := aB.lt
 refine wp_seq ?_
 refine At.start ?_
 refine At.rd aR 1 [[]] [(9, .bool (decide ((k : Int) < ((la.length : Nat) : Int))))] [] (by kernel_rfl) trivial (fun bI aG => ?_)
 clear aR
 refine At.done rfl ?_
 refine t_n ?_
 refine wp_seq ?_
 refine cond_S aG (t := decide ((k : Int) < ((la.length : Nat) : Int))) rfl (fun aN => ?_) (fun aN => ?_)
 ·have bJ := of_decide_eq_true aN
  refine wp_skip ?_
  refine t_n ?_
  refine wp_seq ?_
  refine wp_block ?_
  refine wp_seq ?_
  refine At.start ?_
  obtain ⟨aJ, aY, _, _, aZ⟩ := RdI.get aC (k) (by omega) (by omega)
  refine At.rd aG 3 [[.ad aJ], [.ld (.int .i64 (gI la (k)))], []] [(5, .int .i64 (gI la (k))), (11, .int .i64 (gI la (k))), (10, .pointer (some (aJ.add ((k : Int).toNat * 1))))] [(Aa = some aJ), (0 ≤ (k : Int)), ((k : Int) < (la.length : Nat)), (aM.cell? (aJ.add ((k : Int).toNat * 1)) = some (.int .i64 (gI la (k))))] (by kernel_rfl) ⟨aY, (by omega), (by omega), aZ, trivial⟩ (fun bK aS => ?_)
  clear aG
  refine At.done rfl ?_
  refine t_n ?_
  refine At.start ?_
  refine At.rd aS 2 [[.cs ((xs : List Int).map wV)], []] [(13, .int .i64 (gI la (k))), (12, .agg ((xs : List Int).map wV).toArray)] [(((xs : List Int).map wV).length = 4), (∀ (j : Nat) (v : Value), ((xs : List Int).map wV)[j]? = some v → aM.cell? ((⟨w1.heap.size, 0, none⟩ : Addr).add j) = some v)] (by kernel_rfl) ⟨((List.length_map _).trans (by assumption)), aB.whole, trivial⟩ (fun bL aT => ?_)
  clear aS
  refine At.call aT 25 #[.agg ((xs : List Int).map wV).toArray, .int .i64 (gI la (k))] (some 14) (by kernel_rfl) (with_any (s := xs) (n := gI la (k)) (by assumption)) ?_
  rintro e_ bM ⟨rfl, he⟩
  refine ⟨_, rfl, _, rfl, fun bN aU => ?_⟩
  clear aT; have aE := gr_ext he; have := aE.size; replace aA := aA.gn aE; replace aC := aC.gn aE; replace aD := aD.gn aE; replace aB := aB.gn aE; clear aE he
  refine At.act aU (storeBlk (t := 44) (b := w1.heap.size) (n := 4) (cs' := ((withW xs (gI la (k)) : List Int).map wV)) (by kernel_rfl) (by kernel_rfl) ((List.length_map _).trans (okLen (okW_with (by assumption)))) oneW_ ((show ((withW xs (gI la (k)) : List Int).map wV).length = 4 from ((List.length_map _).trans (okLen (okW_with (by assumption))))).trans (show ((xs : List Int).map wV).length = 4 from ((List.length_map _).trans (by assumption))).symm) aB) ?_
  rintro d_ v_ bO ⟨rfl, aH, bA⟩
  refine ⟨_, rfl, fun bP aV => ?_⟩
  clear aU; have := aH.size; replace aA := aA.gr aH (fun k h => by injection h; omega); replace aC := aC.gb aH (by omega); replace aD := aD.gb aH (by omega); clear aB aH
  refine At.done rfl ?_
  refine b_n ?_
  refine t_n ?_
  refine At.start ?_
  refine At.rd aV 2 [[.as_ (.int .i64 (k + 1))], []] [(8, .int .i64 (k + 1)), (15, .int .i64 (k + 1))] [((.int .i64 (IntKind.i64.wrap (k + 1)) : Value) = .int .i64 (k + 1))] (by kernel_rfl) ⟨(w64 (by omega) (by omega)), trivial⟩ (fun bQ bB => ?_)
  clear aV
  refine At.done rfl ?_
  refine t_n ?_
  have bC := bB.sub (r := [(8, .int .i64 (k + 1)), (7, .int .i64 (((la.length : Nat) : Int))), (6, .slice Aa la.length ca), (3, .pointer (some ⟨w1.heap.size, 0, none⟩)), (2, .pointer (some ⟨w.heap.size, 0, none⟩))]) ⟨rfl, rfl, rfl, rfl, rfl, trivial⟩
  exact ⟨_, (by omega), (k + 1), withW xs (gI la (k)), rfl, bC, aA, aC, aD, bA, (by omega), (by omega), (okW_with hok), (ofW_next hxs (by omega) (by omega)), (okW_with hok).1⟩
 have bR := of_decide_eq_false aN
 refine wp_exit ?_
 refine t_e ?_
 refine t_e ?_
 refine b_e ?_
 refine t_n ?_
 refine wp_seq ?_
 refine At.start ?_
 refine At.rd aG 1 [[.cs ((xs : List Int).map wV)]] [(16, .agg ((xs : List Int).map wV).toArray)] [(((xs : List Int).map wV).length = 4), (∀ (j : Nat) (v : Value), ((xs : List Int).map wV)[j]? = some v → aM.cell? ((⟨w1.heap.size, 0, none⟩ : Addr).add j) = some v)] (by kernel_rfl) ⟨((List.length_map _).trans (by assumption)), aB.whole, trivial⟩ (fun bS aW => ?_)
 clear aG
 refine At.act aW (storeBlk (t := 44) (b := w.heap.size) (n := 4) (cs' := ((xs : List Int).map wV)) (by kernel_rfl) (by kernel_rfl) ((List.length_map _).trans (by assumption)) oneW_ ((show ((xs : List Int).map wV).length = 4 from ((List.length_map _).trans (by assumption))).trans (show ((List.replicate 4 (0 : Int) : List Int).map wV).length = 4 from (by simp only [List.length_map, List.length_set, List.length_replicate, List.length_cons, List.length_nil]; first | done | assumption | exact from_len _ | exact of_len _ | exact ofZ_len _ | exact (ofW_ok _).1 | exact (fullW_W _).1 | exact (okW_with (by assumption)).1 | exact (okW_less (by assumption)).1 | exact put_len (from_len _) | exact orD_len _ _ | exact andD_len _ _ | exact minusD_len _ _ | exact fullD_len _ | (refine okLen ?_; (repeat (first | assumption | exact ofW_ok _ | exact fullW_W _ | apply okW_with | apply okW_less | refine okW_orS ?_ ?_ | refine okW_andS ?_ ?_ | refine okW_minusS ?_ ?_)); done) | omega | rfl)).symm) aD) ?_
 rintro d_ v_ bT ⟨rfl, aI, bD⟩
 refine ⟨_, rfl, fun bU bE => ?_⟩
 clear aW; have := aI.size; replace aA := aA.gr aI (fun k h => by injection h; omega); replace aC := aC.gb aI (by omega); replace aB := aB.gb aI (by omega); clear aD aI
 refine At.done rfl ?_
 refine t_n ?_
 refine wp_ret ?_
 refine retB_ bE (sl := 2) (cs := ((xs : List Int).map wV)) (m := 4) rfl (by kernel_rfl) (by kernel_rfl) ((List.length_map _).trans (by assumption)) bD ?_
 exact ⟨ret_map (by rw [hxs, List.take_of_length_le (by omega)]), aA⟩

end Go.Proofs.YtplpgfcjjnaigaaDoor
