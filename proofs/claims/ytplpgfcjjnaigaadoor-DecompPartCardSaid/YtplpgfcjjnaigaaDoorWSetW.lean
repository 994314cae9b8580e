/-
  A walk of a Go function, printed by a program of this repo. Conditions: what the theorems name.
-/
import Derived.Test.YtplpgfcjjnaigaaDoorPureSet
set_option linter.unusedVariables false
set_option linter.unusedSimpArgs false
namespace Go.Proofs.YtplpgfcjjnaigaaDoor
open Go Go.RowKit

set_option maxHeartbeats 4000000 in
theorem with_any {s : List Int} {n : Int} {w : World} (hs : OkW s) :
    Calls Tryd.prog 25 #[.agg ((s : List Int).map wV).toArray, .int .i64 (n)] w fun e w' => e = .returned (.agg (((withW s n : List Int)).map wV).toArray) ∧ Ext w w' := by
 have hls := hs.1
 refine enter_ (args := [.agg ((s : List Int).map wV).toArray, .int .i64 (n)]) Tryd.func25 rfl Tryd.ntmps25 (Nat.le_of_ble_eq_true rfl) (fun act0 f0 => ?_)
 have e0 : Ext w w := Ext.refl w
 refine wp_seq ?_
 refine At.start ?_
 refine At.seq f0 1 [[]] [(2, .pointer (some ⟨w.heap.size, 0, none⟩))] (w.alloc (.cells ((s : List Int).map wV).toArray 44 (0, 0))) [] (by kernel_rfl) trivial (fun act4 w1 hw2 f3 => ?_)
 clear f0; have g5 := gr_alloc hw2; have := g5.size; replace e0 := e0.gn g5; have bx8 : Bx w1 (w.heap.size) ((s : List Int).map wV) 44 := Bx.new hw2; have := bx8.lt; clear g5 hw2
 refine At.seq f3 1 [[]] [(4, .pointer (some ⟨w1.heap.size, 0, none⟩))] (w1.alloc (.cells ((List.replicate 4 (0 : Int) : List Int).map wV).toArray 44 (0, 0))) [] (by kernel_rfl) trivial (fun bA w9 aJ aD => ?_)
 clear f3; have aE := gr_alloc aJ; have := aE.size; replace e0 := e0.gn aE; replace bx8 := bx8.gn aE; have aA : Bx w9 (w1.heap.size) ((List.replicate 4 (0 : Int) : List Int).map wV) 44 := Bx.new aJ; have := aA.lt; clear aE aJ
 refine At.done rfl ?_
 refine t_n ?_
 refine wp_seq ?_
 refine wp_seq ?_
 refine At.start ?_
 rcases Bool.eq_false_or_eq_true (decide ((n : Int) ≥ 0)) with aB | aB
 ·have bB := of_decide_eq_true aB
  refine At.rd aD 6 [[], [], [.as_ (.bool true)], [], [], []] [(10, .bool (decide ((n : Int) < 256))), (9, .bool (decide ((n : Int) < 256))), (8, .int .i64 (n)), (7, .bool true), (6, .bool (decide ((n : Int) ≥ 0))), (5, .int .i64 (n))] [((.bool (decide ((n : Int) ≥ 0)) : Value) = .bool true)] (by kernel_rfl) ⟨(congrArg Value.bool aB), trivial⟩ (fun bC aC => ?_)
  clear aD
  refine At.done rfl ?_
  refine t_n ?_
  refine cond_S aC (t := decide ((n : Int) < 256)) rfl (fun aK => ?_) (fun aK => ?_)
  ·have bD := of_decide_eq_true aK
   refine At.start ?_
   refine At.rd aC 10 [[], [.as_ (.int .i64 ((n : Int) / 64))], [], [.ld (.int .u64 (gI s ((n : Int) / 64)))], [], [.as_ (.int .i64 ((n : Int) % 64))], [.as_ (.int .u64 ((n : Int) % 64))], [.as_ (.int .u64 (oneW ((n : Int) % 64)))], [.as_ (.int .u64 (orW (gI s ((n : Int) / 64)) (oneW ((n : Int) % 64))))], []] [(20, .pointer (some ((⟨w.heap.size, 0, none⟩ : Addr).add (((n : Int) / 64 : Int).toNat * 1)))), (19, .int .u64 (orW (gI s ((n : Int) / 64)) (oneW ((n : Int) % 64)))), (18, .int .u64 (oneW ((n : Int) % 64))), (17, .int .u64 ((n : Int) % 64)), (16, .int .i64 ((n : Int) % 64)), (15, .int .i64 (n)), (14, .int .u64 (gI s ((n : Int) / 64))), (13, .pointer (some ((⟨w.heap.size, 0, none⟩ : Addr).add (((n : Int) / 64 : Int).toNat * 1)))), (12, .int .i64 ((n : Int) / 64)), (11, .int .i64 (n))] [(0 ≤ (6 : Int)), ((.int .i64 ((n : Int).fdiv (2 ^ (min (6 : Int).toNat IntKind.i64.bits))) : Value) = .int .i64 ((n : Int) / 64)), (0 ≤ ((n : Int) / 64 : Int)), (((n : Int) / 64 : Int) < (4 : Nat)), (w9.cell? ((⟨w.heap.size, 0, none⟩ : Addr).add (((n : Int) / 64 : Int).toNat * 1)) = some (.int .u64 (gI s ((n : Int) / 64)))), ((.int .i64 (IntKind.i64.wrap ((BitVec.ofInt 64 n &&& BitVec.ofInt 64 63).toNat : Int)) : Value) = .int .i64 ((n : Int) % 64)), ((.int .u64 (IntKind.u64.wrap ((n : Int) % 64)) : Value) = .int .u64 ((n : Int) % 64)), (0 ≤ ((n : Int) % 64 : Int)), ((.int .u64 (IntKind.u64.wrap (1 * (2 ^ (min ((n : Int) % 64 : Int).toNat IntKind.u64.bits)))) : Value) = .int .u64 (oneW ((n : Int) % 64))), ((.int .u64 (IntKind.u64.wrap ((BitVec.ofInt 64 (gI s ((n : Int) / 64)) ||| BitVec.ofInt 64 (oneW ((n : Int) % 64))).toNat : Int)) : Value) = .int .u64 (orW (gI s ((n : Int) / 64)) (oneW ((n : Int) % 64)))), (0 ≤ ((n : Int) / 64 : Int)), (((n : Int) / 64 : Int) < (4 : Nat))] (by kernel_rfl) ⟨(by omega), (congrArg (Value.int .i64) (shr6 _)), (by omega), (by omega), (Bx.arrM (f := wV) (0 : Int) bx8 ((n : Int) / 64) (by omega) (by omega)), (congrArg (Value.int .i64) (and63 (by omega) (by omega))), (wu64 (by omega) (by omega)), (by omega), (congrArg (Value.int .u64) (shl_one (by omega) (by omega))), (congrArg (Value.int .u64) (or64 (by first | exact hs.2 _ | exact ht.2 _ | exact oneW_W (by omega) (by omega) | exact mixW_W hmx (by omega) (by omega) hs) (by first | exact hs.2 _ | exact ht.2 _ | exact oneW_W (by omega) (by omega) | exact mixW_W hmx (by omega) (by omega) hs))), (by omega), (by omega), trivial⟩ (fun bE aN => ?_)
   clear aC
   refine At.act aN (storeArrM (f := wV) (t := 42) (b := w.heap.size) (i := (n : Int) / 64) (x := orW (gI s ((n : Int) / 64)) (oneW ((n : Int) % 64))) (v := .int .u64 (orW (gI s ((n : Int) / 64)) (oneW ((n : Int) % 64)))) (by kernel_rfl) rfl rfl (by kernel_rfl) bx8 (by omega) (by omega)) ?_
   rintro d_ v_ aT ⟨rfl, aF, aL⟩
   refine ⟨_, rfl, fun bF aO => ?_⟩
   clear aN; have bG : ((s).set ((n : Int) / 64 : Int).toNat (orW (gI s ((n : Int) / 64)) (oneW ((n : Int) % 64)))).length = (s : List Int).length := List.length_set; have := aF.size; replace e0 := e0.gr aF (fun k h => by injection h; omega); replace aA := aA.gb aF (by omega); clear bx8 aF
   refine At.done rfl ?_
   refine t_n ?_
   have aP := aO.sub (r := [(4, .pointer (some ⟨w1.heap.size, 0, none⟩)), (2, .pointer (some ⟨w.heap.size, 0, none⟩))]) ⟨rfl, rfl, trivial⟩; clear aO
   refine wp_seq ?_
   refine At.start ?_
   refine At.rd aP 1 [[.cs (((s).set ((n : Int) / 64 : Int).toNat (orW (gI s ((n : Int) / 64)) (oneW ((n : Int) % 64))) : List Int).map wV)]] [(21, .agg (((s).set ((n : Int) / 64 : Int).toNat (orW (gI s ((n : Int) / 64)) (oneW ((n : Int) % 64))) : List Int).map wV).toArray)] [((((s).set ((n : Int) / 64 : Int).toNat (orW (gI s ((n : Int) / 64)) (oneW ((n : Int) % 64))) : List Int).map wV).length = 4), (∀ (j : Nat) (v : Value), (((s).set ((n : Int) / 64 : Int).toNat (orW (gI s ((n : Int) / 64)) (oneW ((n : Int) % 64))) : List Int).map wV)[j]? = some v → aT.cell? ((⟨w.heap.size, 0, none⟩ : Addr).add j) = some v)] (by kernel_rfl) ⟨(by simp only [List.length_map, List.length_set, List.length_replicate, List.length_cons, List.length_nil]; first | done | assumption | exact from_len _ | exact of_len _ | exact ofZ_len _ | exact (ofW_ok _).1 | exact (fullW_W _).1 | exact (okW_with (by assumption)).1 | exact (okW_less (by assumption)).1 | exact put_len (from_len _) | exact orD_len _ _ | exact andD_len _ _ | exact minusD_len _ _ | exact fullD_len _ | (refine okLen ?_; (repeat (first | assumption | exact ofW_ok _ | exact fullW_W _ | apply okW_with | apply okW_less | refine okW_orS ?_ ?_ | refine okW_andS ?_ ?_ | refine okW_minusS ?_ ?_)); done) | omega | rfl), aL.whole, trivial⟩ (fun bH aQ => ?_)
   clear aP
   refine At.act aQ (storeBlk (t := 44) (b := w1.heap.size) (n := 4) (cs' := (((s).set ((n : Int) / 64 : Int).toNat (orW (gI s ((n : Int) / 64)) (oneW ((n : Int) % 64))) : List Int).map wV)) (by kernel_rfl) (by kernel_rfl) (by simp only [List.length_map, List.length_set, List.length_replicate, List.length_cons, List.length_nil]; first | done | assumption | exact from_len _ | exact of_len _ | exact ofZ_len _ | exact (ofW_ok _).1 | exact (fullW_W _).1 | exact (okW_with (by assumption)).1 | exact (okW_less (by assumption)).1 | exact put_len (from_len _) | exact orD_len _ _ | exact andD_len _ _ | exact minusD_len _ _ | exact fullD_len _ | (refine okLen ?_; (repeat (first | assumption | exact ofW_ok _ | exact fullW_W _ | apply okW_with | apply okW_less | refine okW_orS ?_ ?_ | refine okW_andS ?_ ?_ | refine okW_minusS ?_ ?_)); done) | omega | rfl) oneW_ ((show (((s).set ((n : Int) / 64 : Int).toNat (orW (gI s ((n : Int) / 64)) (oneW ((n : Int) % 64))) : List Int).map wV).length = 4 from (by simp only [List.length_map, List.length_set, List.length_replicate, List.length_cons, List.length_nil]; first | done | assumption | exact from_len _ | exact of_len _ | exact ofZ_len _ | exact (ofW_ok _).1 | exact (fullW_W _).1 | exact (okW_with (by assumption)).1 | exact (okW_less (by assumption)).1 | exact put_len (from_len _) | exact orD_len _ _ | exact andD_len _ _ | exact minusD_len _ _ | exact fullD_len _ | (refine okLen ?_; (repeat (first | assumption | exact ofW_ok _ | exact fullW_W _ | apply okW_with | apply okW_less | refine okW_orS ?_ ?_ | refine okW_andS ?_ ?_ | refine okW_minusS ?_ ?_)); done) | omega | rfl)).trans (show ((List.replicate 4 (0 : Int) : List Int).map wV).length = 4 from (by simp only [List.length_map, List.length_set, List.length_replicate, List.length_cons, List.length_nil]; first | done | assumption | exact from_len _ | exact of_len _ | exact ofZ_len _ | exact (ofW_ok _).1 | exact (fullW_W _).1 | exact (okW_with (by assumption)).1 | exact (okW_less (by assumption)).1 | exact put_len (from_len _) | exact orD_len _ _ | exact andD_len _ _ | exact minusD_len _ _ | exact fullD_len _ | (refine okLen ?_; (repeat (first | assumption | exact ofW_ok _ | exact fullW_W _ | apply okW_with | apply okW_less | refine okW_orS ?_ ?_ | refine okW_andS ?_ ?_ | refine okW_minusS ?_ ?_)); done) | omega | rfl)).symm) aA) ?_
   rintro d_ v_ bI ⟨rfl, aG, aU⟩
   refine ⟨_, rfl, fun bJ aV => ?_⟩
   clear aQ; have := aG.size; replace e0 := e0.gr aG (fun k h => by injection h; omega); replace aL := aL.gb aG (by omega); clear aA aG
   refine At.done rfl ?_
   refine t_n ?_
   refine wp_ret ?_
   refine retB_ aV (sl := 4) (cs := (((s).set ((n : Int) / 64 : Int).toNat (orW (gI s ((n : Int) / 64)) (oneW ((n : Int) % 64))) : List Int).map wV)) (m := 4) rfl (by kernel_rfl) (by kernel_rfl) (by simp only [List.length_map, List.length_set, List.length_replicate, List.length_cons, List.length_nil]; first | done | assumption | exact from_len _ | exact of_len _ | exact ofZ_len _ | exact (ofW_ok _).1 | exact (fullW_W _).1 | exact (okW_with (by assumption)).1 | exact (okW_less (by assumption)).1 | exact put_len (from_len _) | exact orD_len _ _ | exact andD_len _ _ | exact minusD_len _ _ | exact fullD_len _ | (refine okLen ?_; (repeat (first | assumption | exact ofW_ok _ | exact fullW_W _ | apply okW_with | apply okW_less | refine okW_orS ?_ ?_ | refine okW_andS ?_ ?_ | refine okW_minusS ?_ ?_)); done) | omega | rfl) aU ?_
   exact ⟨ret_map (by first | rw [withW, if_pos ⟨by omega, by omega⟩] | rw [withW, if_neg (by omega)]), e0⟩
  have bK := of_decide_eq_false aK
  refine wp_skip ?_
  refine t_n ?_
  refine wp_seq ?_
  refine At.start ?_
  refine At.rd aC 1 [[.cs ((s : List Int).map wV)]] [(21, .agg ((s : List Int).map wV).toArray)] [(((s : List Int).map wV).length = 4), (∀ (j : Nat) (v : Value), ((s : List Int).map wV)[j]? = some v → w9.cell? ((⟨w.heap.size, 0, none⟩ : Addr).add j) = some v)] (by kernel_rfl) ⟨((List.length_map _).trans (by assumption)), bx8.whole, trivial⟩ (fun bL aR => ?_)
  clear aC
  refine At.act aR (storeBlk (t := 44) (b := w1.heap.size) (n := 4) (cs' := ((s : List Int).map wV)) (by kernel_rfl) (by kernel_rfl) ((List.length_map _).trans (by assumption)) oneW_ ((show ((s : List Int).map wV).length = 4 from ((List.length_map _).trans (by assumption))).trans (show ((List.replicate 4 (0 : Int) : List Int).map wV).length = 4 from (by simp only [List.length_map, List.length_set, List.length_replicate, List.length_cons, List.length_nil]; first | done | assumption | exact from_len _ | exact of_len _ | exact ofZ_len _ | exact (ofW_ok _).1 | exact (fullW_W _).1 | exact (okW_with (by assumption)).1 | exact (okW_less (by assumption)).1 | exact put_len (from_len _) | exact orD_len _ _ | exact andD_len _ _ | exact minusD_len _ _ | exact fullD_len _ | (refine okLen ?_; (repeat (first | assumption | exact ofW_ok _ | exact fullW_W _ | apply okW_with | apply okW_less | refine okW_orS ?_ ?_ | refine okW_andS ?_ ?_ | refine okW_minusS ?_ ?_)); done) | omega | rfl)).symm) aA) ?_
  rintro d_ v_ bM ⟨rfl, aH, aW⟩
  refine ⟨_, rfl, fun bN aX => ?_⟩
  clear aR; have := aH.size; replace e0 := e0.gr aH (fun k h => by injection h; omega); replace bx8 := bx8.gb aH (by omega); clear aA aH
  refine At.done rfl ?_
  refine t_n ?_
  refine wp_ret ?_
  refine retB_ aX (sl := 4) (cs := ((s : List Int).map wV)) (m := 4) rfl (by kernel_rfl) (by kernel_rfl) ((List.length_map _).trans (by assumption)) aW ?_
  exact ⟨ret_map (by first | rw [withW, if_pos ⟨by omega, by omega⟩] | rw [withW, if_neg (by omega)]), e0⟩
 have bO := of_decide_eq_false aB
 refine At.rd aD 6 [[], [], [.as_ (.bool false)], [], [], []] [(10, .bool false), (9, undef), (8, undef), (7, .bool false), (6, .bool (decide ((n : Int) ≥ 0))), (5, .int .i64 (n))] [((.bool (decide ((n : Int) ≥ 0)) : Value) = .bool false)] (by kernel_rfl) ⟨(congrArg Value.bool aB), trivial⟩ (fun bP aM => ?_)
 clear aD
 refine At.done rfl ?_
 refine t_n ?_
 refine cond_F aM rfl ?_
 refine wp_skip ?_
 refine t_n ?_
 refine wp_seq ?_
 refine At.start ?_
 refine At.rd aM 1 [[.cs ((s : List Int).map wV)]] [(21, .agg ((s : List Int).map wV).toArray)] [(((s : List Int).map wV).length = 4), (∀ (j : Nat) (v : Value), ((s : List Int).map wV)[j]? = some v → w9.cell? ((⟨w.heap.size, 0, none⟩ : Addr).add j) = some v)] (by kernel_rfl) ⟨((List.length_map _).trans (by assumption)), bx8.whole, trivial⟩ (fun bQ aS => ?_)
 clear aM
 refine At.act aS (storeBlk (t := 44) (b := w1.heap.size) (n := 4) (cs' := ((s : List Int).map wV)) (by kernel_rfl) (by kernel_rfl) ((List.length_map _).trans (by assumption)) oneW_ ((show ((s : List Int).map wV).length = 4 from ((List.length_map _).trans (by assumption))).trans (show ((List.replicate 4 (0 : Int) : List Int).map wV).length = 4 from (by simp only [List.length_map, List.length_set, List.length_replicate, List.length_cons, List.length_nil]; first | done | assumption | exact from_len _ | exact of_len _ | exact ofZ_len _ | exact (ofW_ok _).1 | exact (fullW_W _).1 | exact (okW_with (by assumption)).1 | exact (okW_less (by assumption)).1 | exact put_len (from_len _) | exact orD_len _ _ | exact andD_len _ _ | exact minusD_len _ _ | exact fullD_len _ | (refine okLen ?_; (repeat (first | assumption | exact ofW_ok _ | exact fullW_W _ | apply okW_with | apply okW_less | refine okW_orS ?_ ?_ | refine okW_andS ?_ ?_ | refine okW_minusS ?_ ?_)); done) | omega | rfl)).symm) aA) ?_
 rintro d_ v_ bR ⟨rfl, aI, aY⟩
 refine ⟨_, rfl, fun bS aZ => ?_⟩
 clear aS; have := aI.size; replace e0 := e0.gr aI (fun k h => by injection h; omega); replace bx8 := bx8.gb aI (by omega); clear aA aI
 refine At.done rfl ?_
 refine t_n ?_
 refine wp_ret ?_
 refine retB_ aZ (sl := 4) (cs := ((s : List Int).map wV)) (m := 4) rfl (by kernel_rfl) (by kernel_rfl) ((List.length_map _).trans (by assumption)) aY ?_
 exact ⟨ret_map (by first | rw [withW, if_pos ⟨by omega, by omega⟩] | rw [withW, if_neg (by omega)]), e0⟩

set_option maxHeartbeats 4000000 in
theorem or_any {s : List Int} {t : List Int} {w : World} (hs : OkW s) (ht : OkW t) :
    Calls Tryd.prog 32 #[.agg ((s : List Int).map wV).toArray, .agg ((t : List Int).map wV).toArray] w fun e w' => e = .returned (.agg (((ofZW (fun j => orW (gI s j) (gI t j)) : List Int)).map wV).toArray) ∧ Ext w w' := by
 have hls := hs.1; have hlt := ht.1
 refine enter_ (args := [.agg ((s : List Int).map wV).toArray, .agg ((t : List Int).map wV).toArray]) Tryd.func32 rfl Tryd.ntmps32 (Nat.le_of_ble_eq_true rfl) (fun act0 f0 => ?_)
 have e0 : Ext w w := Ext.refl w
 refine wp_seq ?_
 refine At.start ?_
 refine At.seq f0 1 [[]] [(2, .pointer (some ⟨w.heap.size, 0, none⟩))] (w.alloc (.cells ((s : List Int).map wV).toArray 44 (0, 0))) [] (by kernel_rfl) trivial (fun act4 w1 hw2 f3 => ?_)
 clear f0; have g5 := gr_alloc hw2; have := g5.size; replace e0 := e0.gn g5; have bx8 : Bx w1 (w.heap.size) ((s : List Int).map wV) 44 := Bx.new hw2; have := bx8.lt; clear g5 hw2
 refine At.seq f3 1 [[]] [(3, .pointer (some ⟨w1.heap.size, 0, none⟩))] (w1.alloc (.cells ((t : List Int).map wV).toArray 44 (0, 0))) [] (by kernel_rfl) trivial (fun bR w9 aM aT => ?_)
 clear f3; have aL := gr_alloc aM; have := aL.size; replace e0 := e0.gn aL; replace bx8 := bx8.gn aL; have aG : Bx w9 (w1.heap.size) ((t : List Int).map wV) 44 := Bx.new aM; have := aG.lt; clear aL aM
 refine At.seq aT 1 [[]] [(4, .pointer (some ⟨w9.heap.size, 0, none⟩))] (w9.alloc (.cells ((List.replicate 4 (0 : Int) : List Int).map wV).toArray 44 (0, 0))) [] (by kernel_rfl) trivial (fun bS bJ aN aU => ?_)
 clear aT; have aH := gr_alloc aN; have := aH.size; replace e0 := e0.gn aH; replace bx8 := bx8.gn aH; replace aG := aG.gn aH; have aO : Bx bJ (w9.heap.size) ((List.replicate 4 (0 : Int) : List Int).map wV) 44 := Bx.new aN; have := aO.lt; clear aH aN
 refine At.done rfl ?_
 refine t_n ?_
 refine wp_seq ?_
 refine wp_seq ?_
 refine At.start ?_
 refine At.rd aU 1 [[]] [(6, .int .i64 (0))] [] (by kernel_rfl) trivial (fun bT aV => ?_)
 clear aU
 refine At.done rfl ?_
 refine t_n ?_
 refine wp_block ?_
 have aW := aV.sub (r := [(6, .int .i64 (0)), (4, .pointer (some ⟨w9.heap.size, 0, none⟩)), (3, .pointer (some ⟨w1.heap.size, 0, none⟩)), (2, .pointer (some ⟨w.heap.size, 0, none⟩))]) ⟨rfl, rfl, rfl, rfl, trivial⟩
 refine loop_g (fun (m_ : Nat) a_ w_ => ∃ (k : Int) (xs : List Int), m_ = (4 - k).toNat ∧ (Frm 19 a_ [(6, .int .i64 (k)), (4, .pointer (some ⟨w9.heap.size, 0, none⟩)), (3, .pointer (some ⟨w1.heap.size, 0, none⟩)), (2, .pointer (some ⟨w.heap.size, 0, none⟩))]) ∧ (Ext w w_) ∧ (Bx w_ (w.heap.size) ((xs : List Int).map wV) 44) ∧ (Bx w_ (w1.heap.size) ((t : List Int).map wV) 44) ∧ (Bx w_ (w9.heap.size) ((List.replicate 4 (0 : Int) : List Int).map wV) 44) ∧ (0 ≤ k) ∧ (k ≤ 4) ∧ (xs.length = 4) ∧ (MixW s xs (fun j => orW (gI s j) (gI t j)) k)) _ ⟨0, s, rfl, aW, e0, bx8, aG, aO, (by omega), (by omega), (by omega), (mixW_0 hls)⟩ ?_
 clear aW aV; clear bx8; clear aG; clear aO; clear e0
 intro m_ bU aX ⟨k, xs, hm34, aY, aA, aB, aC, aD, i39, i40, i41, hmx⟩
 have := aA.size; have := aB.lt; have := aC.lt; have := aD.lt
 refine wp_seq ?_
 refine At.start ?_
 refine At.rd aY 1 [[]] [(7, .bool (decide ((k : Int) < 4)))] [] (by kernel_rfl) trivial (fun bV aI => ?_)
 clear aY
 refine At.done rfl ?_
 refine t_n ?_
 refine wp_seq ?_
 refine cond_S aI (t := decide ((k : Int) < 4)) rfl (fun aP => ?_) (fun aP => ?_)
 ·have bW := of_decide_eq_true aP
  refine wp_skip ?_
  refine t_n ?_
  refine wp_seq ?_
  refine wp_block ?_
  refine wp_seq ?_
  refine At.start ?_
  refine At.rd aI 2 [[], []] [(5, .int .i64 (k)), (8, .int .i64 (k))] [] (by kernel_rfl) trivial (fun bX aZ => ?_)
  clear aI
  refine At.done rfl ?_
  refine t_n ?_
  obtain ⟨aQ, aR⟩ : ∃ c : List (Addr × Value), c = [(((⟨w1.heap.size, 0, none⟩ : Addr).add ((k : Int).toNat * 1)), (.int .u64 (gI t k)))] := ⟨_, rfl⟩
  have bA : HoldsC aQ aX := by rw [aR]; exact ⟨(Bx.arrM (f := wV) (0 : Int) aC k (by omega) (by omega)), trivial⟩
  refine AtH.start aQ 9 #[false, false, false, false, false, false, false, false, false] (by kernel_rfl) rfl rfl (fun aS bB => ?_)
  have aE := gr_drew bB; have aJ := bA.gr aE; have := aE.size; replace aA := aA.gn aE; replace aB := aB.gn aE; replace aC := aC.gn aE; replace aD := aD.gn aE; clear aE bB bA
  refine AtH.rd (by kernel_rfl) (fun d v c a w h => by cases d <;> exact h) aJ [0, 1, 3, 4, 5] [[], [], [], [], [.ld (.int .u64 (gI t k))]] [(14, .int .u64 (gI t k)), (13, .pointer (some ((⟨w1.heap.size, 0, none⟩ : Addr).add ((k : Int).toNat * 1)))), (12, .int .i64 (k)), (10, .pointer (some ((⟨w.heap.size, 0, none⟩ : Addr).add ((k : Int).toNat * 1)))), (9, .int .i64 (k))] #[true, true, false, true, true, true, false, false, false] [(0 ≤ (k : Int)), ((k : Int) < (4 : Nat)), (0 ≤ (k : Int)), ((k : Int) < (4 : Nat)), (∃ j_ : Nat, aQ[j_]? = some (((⟨w1.heap.size, 0, none⟩ : Addr).add ((k : Int).toNat * 1)), (.int .u64 (gI t k))))] 4 aZ (by kernel_rfl) ⟨(by omega), (by omega), (by omega), (by omega), ⟨0, by rw [aR]; rfl⟩, trivial⟩ (fun bY bC => ?_)
  clear aZ
  refine AtH.all [2] 3 (by kernel_rfl) (by simp) ⟨?_, trivial⟩
  refine OneH.seq bC [[.ld (.int .u64 (gI xs k))]] [(11, .int .u64 (gI xs k))] aS [(aS.cell? ((⟨w.heap.size, 0, none⟩ : Addr).add ((k : Int).toNat * 1)) = some (.int .u64 (gI xs k)))] #[true, true, true, true, true, true, false, false, false] (by kernel_rfl) (by kernel_rfl) (by kernel_rfl) ⟨(Bx.arrM (f := wV) (0 : Int) aB k (by omega) (by omega)), trivial⟩ (fun bZ bK bL bD => ?_)
  obtain rfl : aS = bK := bL.symm
  clear bC
  refine ⟨aJ, ?_⟩
  refine AtH.rd (by kernel_rfl) (fun d v c a w h => by cases d <;> exact h) aJ [6] [[.as_ (.int .u64 (orW (gI xs k) (gI t k)))]] [(15, .int .u64 (orW (gI xs k) (gI t k)))] #[true, true, true, true, true, true, true, false, false] [((.int .u64 (IntKind.u64.wrap ((BitVec.ofInt 64 (gI xs k) ||| BitVec.ofInt 64 (gI t k)).toNat : Int)) : Value) = .int .u64 (orW (gI xs k) (gI t k)))] 2 bD (by kernel_rfl) ⟨(congrArg (Value.int .u64) (or64 (by first | exact hs.2 _ | exact ht.2 _ | exact oneW_W (by omega) (by omega) | exact mixW_W hmx (by omega) (by omega) hs) (by first | exact hs.2 _ | exact ht.2 _ | exact oneW_W (by omega) (by omega) | exact mixW_W hmx (by omega) (by omega) hs))), trivial⟩ (fun cA bE => ?_)
  clear bD
  refine AtH.rd (by kernel_rfl) (fun d v c a w h => by cases d <;> exact h) aJ [7] [[]] [(16, .pointer (some ((⟨w.heap.size, 0, none⟩ : Addr).add ((k : Int).toNat * 1))))] #[true, true, true, true, true, true, true, true, false] [(0 ≤ (k : Int)), ((k : Int) < (4 : Nat))] 1 bE (by kernel_rfl) ⟨(by omega), (by omega), trivial⟩ (fun cB bF => ?_)
  clear bE
  refine AtH.all [8] 0 (by kernel_rfl) (by simp) ⟨?_, trivial⟩
  refine OneH.act bF #[true, true, true, true, true, true, true, true, true] (by kernel_rfl) (storeArrM (f := wV) (t := 42) (b := w.heap.size) (i := k) (x := orW (gI xs k) (gI t k)) (v := .int .u64 (orW (gI xs k) (gI t k))) (by kernel_rfl) rfl rfl (by kernel_rfl) aB (by omega) (by omega)) ?_
  rintro d_ v_ cC ⟨rfl, aF, bM⟩
  have bG := aJ.gr' aF (by rw [aR]; exact ⟨(by simp only [add_block]; omega), trivial⟩)
  refine ⟨_, rfl, fun cD bH => ⟨bG, ?_⟩⟩
  clear bF; have cE : ((xs).set (k : Int).toNat (orW (gI xs k) (gI t k))).length = (xs : List Int).length := List.length_set; have := aF.size; replace aA := aA.gr aF (fun k h => by injection h; omega); replace aC := aC.gb aF (by omega); replace aD := aD.gb aF (by omega); clear aB aF
  refine AtH.done (by kernel_rfl) ?_
  clear bG
  refine b_n ?_
  refine t_n ?_
  refine At.start ?_
  refine At.rd bH 2 [[.as_ (.int .i64 (k + 1))], []] [(6, .int .i64 (k + 1)), (17, .int .i64 (k + 1))] [((.int .i64 (IntKind.i64.wrap (k + 1)) : Value) = .int .i64 (k + 1))] (by kernel_rfl) ⟨(w64 (by omega) (by omega)), trivial⟩ (fun cF bN => ?_)
  clear bH
  refine At.done rfl ?_
  refine t_n ?_
  have bO := bN.sub (r := [(6, .int .i64 (k + 1)), (4, .pointer (some ⟨w9.heap.size, 0, none⟩)), (3, .pointer (some ⟨w1.heap.size, 0, none⟩)), (2, .pointer (some ⟨w.heap.size, 0, none⟩))]) ⟨rfl, rfl, rfl, rfl, trivial⟩
  exact ⟨_, (by omega), (k + 1), (xs).set (k : Int).toNat (orW (gI xs k) (gI t k)), rfl, bO, aA, bM, aC, aD, (by omega), (by omega), (by omega), (mixW_next hmx (by omega) (by omega) (by rw [mixW_at hmx (by omega) (by omega)]))⟩
 have cG := of_decide_eq_false aP
 refine wp_exit ?_
 refine t_e ?_
 refine t_e ?_
 refine b_e ?_
 refine t_n ?_
 refine wp_seq ?_
 refine At.start ?_
 refine At.rd aI 1 [[.cs ((xs : List Int).map wV)]] [(18, .agg ((xs : List Int).map wV).toArray)] [(((xs : List Int).map wV).length = 4), (∀ (j : Nat) (v : Value), ((xs : List Int).map wV)[j]? = some v → aX.cell? ((⟨w.heap.size, 0, none⟩ : Addr).add j) = some v)] (by kernel_rfl) ⟨((List.length_map _).trans (by assumption)), aB.whole, trivial⟩ (fun cH bI => ?_)
 clear aI
 refine At.act bI (storeBlk (t := 44) (b := w9.heap.size) (n := 4) (cs' := ((xs : List Int).map wV)) (by kernel_rfl) (by kernel_rfl) ((List.length_map _).trans (by assumption)) oneW_ ((show ((xs : List Int).map wV).length = 4 from ((List.length_map _).trans (by assumption))).trans (show ((List.replicate 4 (0 : Int) : List Int).map wV).length = 4 from (by simp only [List.length_map, List.length_set, List.length_replicate, List.length_cons, List.length_nil]; first | done | assumption | exact from_len _ | exact of_len _ | exact ofZ_len _ | exact (ofW_ok _).1 | exact (fullW_W _).1 | exact (okW_with (by assumption)).1 | exact (okW_less (by assumption)).1 | exact put_len (from_len _) | exact orD_len _ _ | exact andD_len _ _ | exact minusD_len _ _ | exact fullD_len _ | (refine okLen ?_; (repeat (first | assumption | exact ofW_ok _ | exact fullW_W _ | apply okW_with | apply okW_less | refine okW_orS ?_ ?_ | refine okW_andS ?_ ?_ | refine okW_minusS ?_ ?_)); done) | omega | rfl)).symm) aD) ?_
 rintro d_ v_ cI ⟨rfl, aK, bP⟩
 refine ⟨_, rfl, fun cJ bQ => ?_⟩
 clear bI; have := aK.size; replace aA := aA.gr aK (fun k h => by injection h; omega); replace aB := aB.gb aK (by omega); replace aC := aC.gb aK (by omega); clear aD aK
 refine At.done rfl ?_
 refine t_n ?_
 refine wp_ret ?_
 refine retB_ bQ (sl := 4) (cs := ((xs : List Int).map wV)) (m := 4) rfl (by kernel_rfl) (by kernel_rfl) ((List.length_map _).trans (by assumption)) bP ?_
 exact ⟨ret_map (mixW_end hmx (by omega)), aA⟩

set_option maxHeartbeats 4000000 in
theorem and_any {s : List Int} {t : List Int} {w : World} (hs : OkW s) (ht : OkW t) :
    Calls Tryd.prog 26 #[.agg ((s : List Int).map wV).toArray, .agg ((t : List Int).map wV).toArray] w fun e w' => e = .returned (.agg (((ofZW (fun j => andW (gI s j) (gI t j)) : List Int)).map wV).toArray) ∧ Ext w w' := by
 have hls := hs.1; have hlt := ht.1
 refine enter_ (args := [.agg ((s : List Int).map wV).toArray, .agg ((t : List Int).map wV).toArray]) Tryd.func26 rfl Tryd.ntmps26 (Nat.le_of_ble_eq_true rfl) (fun act0 f0 => ?_)
 have e0 : Ext w w := Ext.refl w
 refine wp_seq ?_
 refine At.start ?_
 refine At.seq f0 1 [[]] [(2, .pointer (some ⟨w.heap.size, 0, none⟩))] (w.alloc (.cells ((s : List Int).map wV).toArray 44 (0, 0))) [] (by kernel_rfl) trivial (fun act4 w1 hw2 f3 => ?_)
 clear f0; have g5 := gr_alloc hw2; have := g5.size; replace e0 := e0.gn g5; have bx8 : Bx w1 (w.heap.size) ((s : List Int).map wV) 44 := Bx.new hw2; have := bx8.lt; clear g5 hw2
 refine At.seq f3 1 [[]] [(3, .pointer (some ⟨w1.heap.size, 0, none⟩))] (w1.alloc (.cells ((t : List Int).map wV).toArray 44 (0, 0))) [] (by kernel_rfl) trivial (fun bR w9 aM aT => ?_)
 clear f3; have aL := gr_alloc aM; have := aL.size; replace e0 := e0.gn aL; replace bx8 := bx8.gn aL; have aG : Bx w9 (w1.heap.size) ((t : List Int).map wV) 44 := Bx.new aM; have := aG.lt; clear aL aM
 refine At.seq aT 1 [[]] [(4, .pointer (some ⟨w9.heap.size, 0, none⟩))] (w9.alloc (.cells ((List.replicate 4 (0 : Int) : List Int).map wV).toArray 44 (0, 0))) [] (by kernel_rfl) trivial (fun bS bJ aN aU => ?_)
 clear aT; have aH := gr_alloc aN; have := aH.size; replace e0 := e0.gn aH; replace bx8 := bx8.gn aH; replace aG := aG.gn aH; have aO : Bx bJ (w9.heap.size) ((List.replicate 4 (0 : Int) : List Int).map wV) 44 := Bx.new aN; have := aO.lt; clear aH aN
 refine At.done rfl ?_
 refine t_n ?_
 refine wp_seq ?_
 refine wp_seq ?_
 refine At.start ?_
 refine At.rd aU 1 [[]] [(6, .int .i64 (0))] [] (by kernel_rfl) trivial (fun bT aV => ?_)
 clear aU
 refine At.done rfl ?_
 refine t_n ?_
 refine wp_block ?_
 have aW := aV.sub (r := [(6, .int .i64 (0)), (4, .pointer (some ⟨w9.heap.size, 0, none⟩)), (3, .pointer (some ⟨w1.heap.size, 0, none⟩)), (2, .pointer (some ⟨w.heap.size, 0, none⟩))]) ⟨rfl, rfl, rfl, rfl, trivial⟩
 refine loop_g (fun (m_ : Nat) a_ w_ => ∃ (k : Int) (xs : List Int), m_ = (4 - k).toNat ∧ (Frm 19 a_ [(6, .int .i64 (k)), (4, .pointer (some ⟨w9.heap.size, 0, none⟩)), (3, .pointer (some ⟨w1.heap.size, 0, none⟩)), (2, .pointer (some ⟨w.heap.size, 0, none⟩))]) ∧ (Ext w w_) ∧ (Bx w_ (w.heap.size) ((xs : List Int).map wV) 44) ∧ (Bx w_ (w1.heap.size) ((t : List Int).map wV) 44) ∧ (Bx w_ (w9.heap.size) ((List.replicate 4 (0 : Int) : List Int).map wV) 44) ∧ (0 ≤ k) ∧ (k ≤ 4) ∧ (xs.length = 4) ∧ (MixW s xs (fun j => andW (gI s j) (gI t j)) k)) _ ⟨0, s, rfl, aW, e0, bx8, aG, aO, (by omega), (by omega), (by omega), (mixW_0 hls)⟩ ?_
 clear aW aV; clear bx8; clear aG; clear aO; clear e0
 intro m_ bU aX ⟨k, xs, hm34, aY, aA, aB, aC, aD, i39, i40, i41, hmx⟩
 have := aA.size; have := aB.lt; have := aC.lt; have := aD.lt
 refine wp_seq ?_
 refine At.start ?_
 refine At.rd aY 1 [[]] [(7, .bool (decide ((k : Int) < 4)))] [] (by kernel_rfl) trivial (fun bV aI => ?_)
 clear aY
 refine At.done rfl ?_
 refine t_n ?_
 refine wp_seq ?_
 refine cond_S aI (t := decide ((k : Int) < 4)) rfl (fun aP => ?_) (fun aP => ?_)
 ·have bW := of_decide_eq_true aP
  refine wp_skip ?_
  refine t_n ?_
  refine wp_seq ?_
  refine wp_block ?_
  refine wp_seq ?_
  refine At.start ?_
  refine At.rd aI 2 [[], []] [(5, .int .i64 (k)), (8, .int .i64 (k))] [] (by kernel_rfl) trivial (fun bX aZ => ?_)
  clear aI
  refine At.done rfl ?_
  refine t_n ?_
  obtain ⟨aQ, aR⟩ : ∃ c : List (Addr × Value), c = [(((⟨w1.heap.size, 0, none⟩ : Addr).add ((k : Int).toNat * 1)), (.int .u64 (gI t k)))] := ⟨_, rfl⟩
  have bA : HoldsC aQ aX := by rw [aR]; exact ⟨(Bx.arrM (f := wV) (0 : Int) aC k (by omega) (by omega)), trivial⟩
  refine AtH.start aQ 9 #[false, false, false, false, false, false, false, false, false] (by kernel_rfl) rfl rfl (fun aS bB => ?_)
  have aE := gr_drew bB; have aJ := bA.gr aE; have := aE.size; replace aA := aA.gn aE; replace aB := aB.gn aE; replace aC := aC.gn aE; replace aD := aD.gn aE; clear aE bB bA
  refine AtH.rd (by kernel_rfl) (fun d v c a w h => by cases d <;> exact h) aJ [0, 1, 3, 4, 5] [[], [], [], [], [.ld (.int .u64 (gI t k))]] [(14, .int .u64 (gI t k)), (13, .pointer (some ((⟨w1.heap.size, 0, none⟩ : Addr).add ((k : Int).toNat * 1)))), (12, .int .i64 (k)), (10, .pointer (some ((⟨w.heap.size, 0, none⟩ : Addr).add ((k : Int).toNat * 1)))), (9, .int .i64 (k))] #[true, true, false, true, true, true, false, false, false] [(0 ≤ (k : Int)), ((k : Int) < (4 : Nat)), (0 ≤ (k : Int)), ((k : Int) < (4 : Nat)), (∃ j_ : Nat, aQ[j_]? = some (((⟨w1.heap.size, 0, none⟩ : Addr).add ((k : Int).toNat * 1)), (.int .u64 (gI t k))))] 4 aZ (by kernel_rfl) ⟨(by omega), (by omega), (by omega), (by omega), ⟨0, by rw [aR]; rfl⟩, trivial⟩ (fun bY bC => ?_)
  clear aZ
  refine AtH.all [2] 3 (by kernel_rfl) (by simp) ⟨?_, trivial⟩
  refine OneH.seq bC [[.ld (.int .u64 (gI xs k))]] [(11, .int .u64 (gI xs k))] aS [(aS.cell? ((⟨w.heap.size, 0, none⟩ : Addr).add ((k : Int).toNat * 1)) = some (.int .u64 (gI xs k)))] #[true, true, true, true, true, true, false, false, false] (by kernel_rfl) (by kernel_rfl) (by kernel_rfl) ⟨(Bx.arrM (f := wV) (0 : Int) aB k (by omega) (by omega)), trivial⟩ (fun bZ bK bL bD => ?_)
  obtain rfl : aS = bK := bL.symm
  clear bC
  refine ⟨aJ, ?_⟩
  refine AtH.rd (by kernel_rfl) (fun d v c a w h => by cases d <;> exact h) aJ [6] [[.as_ (.int .u64 (andW (gI xs k) (gI t k)))]] [(15, .int .u64 (andW (gI xs k) (gI t k)))] #[true, true, true, true, true, true, true, false, false] [((.int .u64 (IntKind.u64.wrap ((BitVec.ofInt 64 (gI xs k) &&& BitVec.ofInt 64 (gI t k)).toNat : Int)) : Value) = .int .u64 (andW (gI xs k) (gI t k)))] 2 bD (by kernel_rfl) ⟨(congrArg (Value.int .u64) (and64 (by first | exact hs.2 _ | exact ht.2 _ | exact oneW_W (by omega) (by omega) | exact mixW_W hmx (by omega) (by omega) hs) (by first | exact hs.2 _ | exact ht.2 _ | exact oneW_W (by omega) (by omega) | exact mixW_W hmx (by omega) (by omega) hs))), trivial⟩ (fun cA bE => ?_)
  clear bD
  refine AtH.rd (by kernel_rfl) (fun d v c a w h => by cases d <;> exact h) aJ [7] [[]] [(16, .pointer (some ((⟨w.heap.size, 0, none⟩ : Addr).add ((k : Int).toNat * 1))))] #[true, true, true, true, true, true, true, true, false] [(0 ≤ (k : Int)), ((k : Int) < (4 : Nat))] 1 bE (by kernel_rfl) ⟨(by omega), (by omega), trivial⟩ (fun cB bF => ?_)
  clear bE
  refine AtH.all [8] 0 (by kernel_rfl) (by simp) ⟨?_, trivial⟩
  refine OneH.act bF #[true, true, true, true, true, true, true, true, true] (by kernel_rfl) (storeArrM (f := wV) (t := 42) (b := w.heap.size) (i := k) (x := andW (gI xs k) (gI t k)) (v := .int .u64 (andW (gI xs k) (gI t k))) (by kernel_rfl) rfl rfl (by kernel_rfl) aB (by omega) (by omega)) ?_
  rintro d_ v_ cC ⟨rfl, aF, bM⟩
  have bG := aJ.gr' aF (by rw [aR]; exact ⟨(by simp only [add_block]; omega), trivial⟩)
  refine ⟨_, rfl, fun cD bH => ⟨bG, ?_⟩⟩
  clear bF; have cE : ((xs).set (k : Int).toNat (andW (gI xs k) (gI t k))).length = (xs : List Int).length := List.length_set; have := aF.size; replace aA := aA.gr aF (fun k h => by injection h; omega); replace aC := aC.gb aF (by omega); replace aD := aD.gb aF (by omega); clear aB aF
  refine AtH.done (by kernel_rfl) ?_
  clear bG
  refine b_n ?_
  refine t_n ?_
  refine At.start ?_
  refine At.rd bH 2 [[.as_ (.int .i64 (k + 1))], []] [(6, .int .i64 (k + 1)), (17, .int .i64 (k + 1))] [((.int .i64 (IntKind.i64.wrap (k + 1)) : Value) = .int .i64 (k + 1))] (by kernel_rfl) ⟨(w64 (by omega) (by omega)), trivial⟩ (fun cF bN => ?_)
  clear bH
  refine At.done rfl ?_
  refine t_n ?_
  have bO := bN.sub (r := [(6, .int .i64 (k + 1)), (4, .pointer (some ⟨w9.heap.size, 0, none⟩)), (3, .pointer (some ⟨w1.heap.size, 0, none⟩)), (2, .pointer (some ⟨w.heap.size, 0, none⟩))]) ⟨rfl, rfl, rfl, rfl, trivial⟩
  exact ⟨_, (by omega), (k + 1), (xs).set (k : Int).toNat (andW (gI xs k) (gI t k)), rfl, bO, aA, bM, aC, aD, (by omega), (by omega), (by omega), (mixW_next hmx (by omega) (by omega) (by rw [mixW_at hmx (by omega) (by omega)]))⟩
 have cG := of_decide_eq_false aP
 refine wp_exit ?_
 refine t_e ?_
 refine t_e ?_
 refine b_e ?_
 refine t_n ?_
 refine wp_seq ?_
 refine At.start ?_
 refine At.rd aI 1 [[.cs ((xs : List Int).map wV)]] [(18, .agg ((xs : List Int).map wV).toArray)] [(((xs : List Int).map wV).length = 4), (∀ (j : Nat) (v : Value), ((xs : List Int).map wV)[j]? = some v → aX.cell? ((⟨w.heap.size, 0, none⟩ : Addr).add j) = some v)] (by kernel_rfl) ⟨((List.length_map _).trans (by assumption)), aB.whole, trivial⟩ (fun cH bI => ?_)
 clear aI
 refine At.act bI (storeBlk (t := 44) (b := w9.heap.size) (n := 4) (cs' := ((xs : List Int).map wV)) (by kernel_rfl) (by kernel_rfl) ((List.length_map _).trans (by assumption)) oneW_ ((show ((xs : List Int).map wV).length = 4 from ((List.length_map _).trans (by assumption))).trans (show ((List.replicate 4 (0 : Int) : List Int).map wV).length = 4 from (by simp only [List.length_map, List.length_set, List.length_replicate, List.length_cons, List.length_nil]; first | done | assumption | exact from_len _ | exact of_len _ | exact ofZ_len _ | exact (ofW_ok _).1 | exact (fullW_W _).1 | exact (okW_with (by assumption)).1 | exact (okW_less (by assumption)).1 | exact put_len (from_len _) | exact orD_len _ _ | exact andD_len _ _ | exact minusD_len _ _ | exact fullD_len _ | (refine okLen ?_; (repeat (first | assumption | exact ofW_ok _ | exact fullW_W _ | apply okW_with | apply okW_less | refine okW_orS ?_ ?_ | refine okW_andS ?_ ?_ | refine okW_minusS ?_ ?_)); done) | omega | rfl)).symm) aD) ?_
 rintro d_ v_ cI ⟨rfl, aK, bP⟩
 refine ⟨_, rfl, fun cJ bQ => ?_⟩
 clear bI; have := aK.size; replace aA := aA.gr aK (fun k h => by injection h; omega); replace aB := aB.gb aK (by omega); replace aC := aC.gb aK (by omega); clear aD aK
 refine At.done rfl ?_
 refine t_n ?_
 refine wp_ret ?_
 refine retB_ bQ (sl := 4) (cs := ((xs : List Int).map wV)) (m := 4) rfl (by kernel_rfl) (by kernel_rfl) ((List.length_map _).trans (by assumption)) bP ?_
 exact ⟨ret_map (mixW_end hmx (by omega)), aA⟩

set_option maxHeartbeats 4000000 in
theorem minus_any {s : List Int} {t : List Int} {w : World} (hs : OkW s) (ht : OkW t) :
    Calls Tryd.prog 42 #[.agg ((s : List Int).map wV).toArray, .agg ((t : List Int).map wV).toArray] w fun e w' => e = .returned (.agg (((ofZW (fun j => notW (gI s j) (gI t j)) : List Int)).map wV).toArray) ∧ Ext w w' := by
 have hls := hs.1; have hlt := ht.1
 refine enter_ (args := [.agg ((s : List Int).map wV).toArray, .agg ((t : List Int).map wV).toArray]) Tryd.func42 rfl Tryd.ntmps42 (Nat.le_of_ble_eq_true rfl) (fun act0 f0 => ?_)
 have e0 : Ext w w := Ext.refl w
 refine wp_seq ?_
 refine At.start ?_
 refine At.seq f0 1 [[]] [(2, .pointer (some ⟨w.heap.size, 0, none⟩))] (w.alloc (.cells ((s : List Int).map wV).toArray 44 (0, 0))) [] (by kernel_rfl) trivial (fun act4 w1 hw2 f3 => ?_)
 clear f0; have g5 := gr_alloc hw2; have := g5.size; replace e0 := e0.gn g5; have bx8 : Bx w1 (w.heap.size) ((s : List Int).map wV) 44 := Bx.new hw2; have := bx8.lt; clear g5 hw2
 refine At.seq f3 1 [[]] [(3, .pointer (some ⟨w1.heap.size, 0, none⟩))] (w1.alloc (.cells ((t : List Int).map wV).toArray 44 (0, 0))) [] (by kernel_rfl) trivial (fun bR w9 aM aT => ?_)
 clear f3; have aL := gr_alloc aM; have := aL.size; replace e0 := e0.gn aL; replace bx8 := bx8.gn aL; have aG : Bx w9 (w1.heap.size) ((t : List Int).map wV) 44 := Bx.new aM; have := aG.lt; clear aL aM
 refine At.seq aT 1 [[]] [(4, .pointer (some ⟨w9.heap.size, 0, none⟩))] (w9.alloc (.cells ((List.replicate 4 (0 : Int) : List Int).map wV).toArray 44 (0, 0))) [] (by kernel_rfl) trivial (fun bS bJ aN aU => ?_)
 clear aT; have aH := gr_alloc aN; have := aH.size; replace e0 := e0.gn aH; replace bx8 := bx8.gn aH; replace aG := aG.gn aH; have aO : Bx bJ (w9.heap.size) ((List.replicate 4 (0 : Int) : List Int).map wV) 44 := Bx.new aN; have := aO.lt; clear aH aN
 refine At.done rfl ?_
 refine t_n ?_
 refine wp_seq ?_
 refine wp_seq ?_
 refine At.start ?_
 refine At.rd aU 1 [[]] [(6, .int .i64 (0))] [] (by kernel_rfl) trivial (fun bT aV => ?_)
 clear aU
 refine At.done rfl ?_
 refine t_n ?_
 refine wp_block ?_
 have aW := aV.sub (r := [(6, .int .i64 (0)), (4, .pointer (some ⟨w9.heap.size, 0, none⟩)), (3, .pointer (some ⟨w1.heap.size, 0, none⟩)), (2, .pointer (some ⟨w.heap.size, 0, none⟩))]) ⟨rfl, rfl, rfl, rfl, trivial⟩
 refine loop_g (fun (m_ : Nat) a_ w_ => ∃ (k : Int) (xs : List Int), m_ = (4 - k).toNat ∧ (Frm 19 a_ [(6, .int .i64 (k)), (4, .pointer (some ⟨w9.heap.size, 0, none⟩)), (3, .pointer (some ⟨w1.heap.size, 0, none⟩)), (2, .pointer (some ⟨w.heap.size, 0, none⟩))]) ∧ (Ext w w_) ∧ (Bx w_ (w.heap.size) ((xs : List Int).map wV) 44) ∧ (Bx w_ (w1.heap.size) ((t : List Int).map wV) 44) ∧ (Bx w_ (w9.heap.size) ((List.replicate 4 (0 : Int) : List Int).map wV) 44) ∧ (0 ≤ k) ∧ (k ≤ 4) ∧ (xs.length = 4) ∧ (MixW s xs (fun j => notW (gI s j) (gI t j)) k)) _ ⟨0, s, rfl, aW, e0, bx8, aG, aO, (by omega), (by omega), (by omega), (mixW_0 hls)⟩ ?_
 clear aW aV; clear bx8; clear aG; clear aO; clear e0
 intro m_ bU aX ⟨k, xs, hm34, aY, aA, aB, aC, aD, i39, i40, i41, hmx⟩
 have := aA.size; have := aB.lt; have := aC.lt; have := aD.lt
 refine wp_seq ?_
 refine At.start ?_
 refine At.rd aY 1 [[]] [(7, .bool (decide ((k : Int) < 4)))] [] (by kernel_rfl) trivial (fun bV aI => ?_)
 clear aY
 refine At.done rfl ?_
 refine t_n ?_
 refine wp_seq ?_
 refine cond_S aI (t := decide ((k : Int) < 4)) rfl (fun aP => ?_) (fun aP => ?_)
 ·have bW := of_decide_eq_true aP
  refine wp_skip ?_
  refine t_n ?_
  refine wp_seq ?_
  refine wp_block ?_
  refine wp_seq ?_
  refine At.start ?_
  refine At.rd aI 2 [[], []] [(5, .int .i64 (k)), (8, .int .i64 (k))] [] (by kernel_rfl) trivial (fun bX aZ => ?_)
  clear aI
  refine At.done rfl ?_
  refine t_n ?_
  obtain ⟨aQ, aR⟩ : ∃ c : List (Addr × Value), c = [(((⟨w1.heap.size, 0, none⟩ : Addr).add ((k : Int).toNat * 1)), (.int .u64 (gI t k)))] := ⟨_, rfl⟩
  have bA : HoldsC aQ aX := by rw [aR]; exact ⟨(Bx.arrM (f := wV) (0 : Int) aC k (by omega) (by omega)), trivial⟩
  refine AtH.start aQ 9 #[false, false, false, false, false, false, false, false, false] (by kernel_rfl) rfl rfl (fun aS bB => ?_)
  have aE := gr_drew bB; have aJ := bA.gr aE; have := aE.size; replace aA := aA.gn aE; replace aB := aB.gn aE; replace aC := aC.gn aE; replace aD := aD.gn aE; clear aE bB bA
  refine AtH.rd (by kernel_rfl) (fun d v c a w h => by cases d <;> exact h) aJ [0, 1, 3, 4, 5] [[], [], [], [], [.ld (.int .u64 (gI t k))]] [(14, .int .u64 (gI t k)), (13, .pointer (some ((⟨w1.heap.size, 0, none⟩ : Addr).add ((k : Int).toNat * 1)))), (12, .int .i64 (k)), (10, .pointer (some ((⟨w.heap.size, 0, none⟩ : Addr).add ((k : Int).toNat * 1)))), (9, .int .i64 (k))] #[true, true, false, true, true, true, false, false, false] [(0 ≤ (k : Int)), ((k : Int) < (4 : Nat)), (0 ≤ (k : Int)), ((k : Int) < (4 : Nat)), (∃ j_ : Nat, aQ[j_]? = some (((⟨w1.heap.size, 0, none⟩ : Addr).add ((k : Int).toNat * 1)), (.int .u64 (gI t k))))] 4 aZ (by kernel_rfl) ⟨(by omega), (by omega), (by omega), (by omega), ⟨0, by rw [aR]; rfl⟩, trivial⟩ (fun bY bC => ?_)
  clear aZ
  refine AtH.all [2] 3 (by kernel_rfl) (by simp) ⟨?_, trivial⟩
  refine OneH.seq bC [[.ld (.int .u64 (gI xs k))]] [(11, .int .u64 (gI xs k))] aS [(aS.cell? ((⟨w.heap.size, 0, none⟩ : Addr).add ((k : Int).toNat * 1)) = some (.int .u64 (gI xs k)))] #[true, true, true, true, true, true, false, false, false] (by kernel_rfl) (by kernel_rfl) (by kernel_rfl) ⟨(Bx.arrM (f := wV) (0 : Int) aB k (by omega) (by omega)), trivial⟩ (fun bZ bK bL bD => ?_)
  obtain rfl : aS = bK := bL.symm
  clear bC
  refine ⟨aJ, ?_⟩
  refine AtH.rd (by kernel_rfl) (fun d v c a w h => by cases d <;> exact h) aJ [6] [[.as_ (.int .u64 (notW (gI xs k) (gI t k)))]] [(15, .int .u64 (notW (gI xs k) (gI t k)))] #[true, true, true, true, true, true, true, false, false] [((.int .u64 (IntKind.u64.wrap ((BitVec.ofInt 64 (gI xs k) &&& ~~~ (BitVec.ofInt 64 (gI t k))).toNat : Int)) : Value) = .int .u64 (notW (gI xs k) (gI t k)))] 2 bD (by kernel_rfl) ⟨(congrArg (Value.int .u64) (andNot64 (by first | exact hs.2 _ | exact ht.2 _ | exact oneW_W (by omega) (by omega) | exact mixW_W hmx (by omega) (by omega) hs) (by first | exact hs.2 _ | exact ht.2 _ | exact oneW_W (by omega) (by omega) | exact mixW_W hmx (by omega) (by omega) hs))), trivial⟩ (fun cA bE => ?_)
  clear bD
  refine AtH.rd (by kernel_rfl) (fun d v c a w h => by cases d <;> exact h) aJ [7] [[]] [(16, .pointer (some ((⟨w.heap.size, 0, none⟩ : Addr).add ((k : Int).toNat * 1))))] #[true, true, true, true, true, true, true, true, false] [(0 ≤ (k : Int)), ((k : Int) < (4 : Nat))] 1 bE (by kernel_rfl) ⟨(by omega), (by omega), trivial⟩ (fun cB bF => ?_)
  clear bE
  refine AtH.all [8] 0 (by kernel_rfl) (by simp) ⟨?_, trivial⟩
  refine OneH.act bF #[true, true, true, true, true, true, true, true, true] (by kernel_rfl) (storeArrM (f := wV) (t := 42) (b := w.heap.size) (i := k) (x := notW (gI xs k) (gI t k)) (v := .int .u64 (notW (gI xs k) (gI t k))) (by kernel_rfl) rfl rfl (by kernel_rfl) aB (by omega) (by omega)) ?_
  rintro d_ v_ cC ⟨rfl, aF, bM⟩
  have bG := aJ.gr' aF (by rw [aR]; exact ⟨(by simp only [add_block]; omega), trivial⟩)
  refine ⟨_, rfl, fun cD bH => ⟨bG, ?_⟩⟩
  clear bF; have cE : ((xs).set (k : Int).toNat (notW (gI xs k) (gI t k))).length = (xs : List Int).length := List.length_set; have := aF.size; replace aA := aA.gr aF (fun k h => by injection h; omega); replace aC := aC.gb aF (by omega); replace aD := aD.gb aF (by omega); clear aB aF
  refine AtH.done (by kernel_rfl) ?_
  clear bG
  refine b_n ?_
  refine t_n ?_
  refine At.start ?_
  refine At.rd bH 2 [[.as_ (.int .i64 (k + 1))], []] [(6, .int .i64 (k + 1)), (17, .int .i64 (k + 1))] [((.int .i64 (IntKind.i64.wrap (k + 1)) : Value) = .int .i64 (k + 1))] (by kernel_rfl) ⟨(w64 (by omega) (by omega)), trivial⟩ (fun cF bN => ?_)
  clear bH
  refine At.done rfl ?_
  refine t_n ?_
  have bO := bN.sub (r := [(6, .int .i64 (k + 1)), (4, .pointer (some ⟨w9.heap.size, 0, none⟩)), (3, .pointer (some ⟨w1.heap.size, 0, none⟩)), (2, .pointer (some ⟨w.heap.size, 0, none⟩))]) ⟨rfl, rfl, rfl, rfl, trivial⟩
  exact ⟨_, (by omega), (k + 1), (xs).set (k : Int).toNat (notW (gI xs k) (gI t k)), rfl, bO, aA, bM, aC, aD, (by omega), (by omega), (by omega), (mixW_next hmx (by omega) (by omega) (by rw [mixW_at hmx (by omega) (by omega)]))⟩
 have cG := of_decide_eq_false aP
 refine wp_exit ?_
 refine t_e ?_
 refine t_e ?_
 refine b_e ?_
 refine t_n ?_
 refine wp_seq ?_
 refine At.start ?_
 refine At.rd aI 1 [[.cs ((xs : List Int).map wV)]] [(18, .agg ((xs : List Int).map wV).toArray)] [(((xs : List Int).map wV).length = 4), (∀ (j : Nat) (v : Value), ((xs : List Int).map wV)[j]? = some v → aX.cell? ((⟨w.heap.size, 0, none⟩ : Addr).add j) = some v)] (by kernel_rfl) ⟨((List.length_map _).trans (by assumption)), aB.whole, trivial⟩ (fun cH bI => ?_)
 clear aI
 refine At.act bI (storeBlk (t := 44) (b := w9.heap.size) (n := 4) (cs' := ((xs : List Int).map wV)) (by kernel_rfl) (by kernel_rfl) ((List.length_map _).trans (by assumption)) oneW_ ((show ((xs : List Int).map wV).length = 4 from ((List.length_map _).trans (by assumption))).trans (show ((List.replicate 4 (0 : Int) : List Int).map wV).length = 4 from (by simp only [List.length_map, List.length_set, List.length_replicate, List.length_cons, List.length_nil]; first | done | assumption | exact from_len _ | exact of_len _ | exact ofZ_len _ | exact (ofW_ok _).1 | exact (fullW_W _).1 | exact (okW_with (by assumption)).1 | exact (okW_less (by assumption)).1 | exact put_len (from_len _) | exact orD_len _ _ | exact andD_len _ _ | exact minusD_len _ _ | exact fullD_len _ | (refine okLen ?_; (repeat (first | assumption | exact ofW_ok _ | exact fullW_W _ | apply okW_with | apply okW_less | refine okW_orS ?_ ?_ | refine okW_andS ?_ ?_ | refine okW_minusS ?_ ?_)); done) | omega | rfl)).symm) aD) ?_
 rintro d_ v_ cI ⟨rfl, aK, bP⟩
 refine ⟨_, rfl, fun cJ bQ => ?_⟩
 clear bI; have := aK.size; replace aA := aA.gr aK (fun k h => by injection h; omega); replace aB := aB.gb aK (by omega); replace aC := aC.gb aK (by omega); clear aD aK
 refine At.done rfl ?_
 refine t_n ?_
 refine wp_ret ?_
 refine retB_ bQ (sl := 4) (cs := ((xs : List Int).map wV)) (m := 4) rfl (by kernel_rfl) (by kernel_rfl) ((List.length_map _).trans (by assumption)) bP ?_
 exact ⟨ret_map (mixW_end hmx (by omega)), aA⟩

set_option maxHeartbeats 4000000 in
theorem has_any {s : List Int} {n : Int} {w : World} (hs : OkW s) :
    Calls Tryd.prog 23 #[.agg ((s : List Int).map wV).toArray, .int .i64 (n)] w fun e w' => e = .returned (.bool (hasW s n)) ∧ Ext w w' := by
 have hls := hs.1
 refine enter_ (args := [.agg ((s : List Int).map wV).toArray, .int .i64 (n)]) Tryd.func23 rfl Tryd.ntmps23 (Nat.le_of_ble_eq_true rfl) (fun act0 f0 => ?_)
 have e0 : Ext w w := Ext.refl w
 refine wp_seq ?_
 refine At.start ?_
 refine At.seq f0 1 [[]] [(2, .pointer (some ⟨w.heap.size, 0, none⟩))] (w.alloc (.cells ((s : List Int).map wV).toArray 44 (0, 0))) [] (by kernel_rfl) trivial (fun act4 w1 hw2 f3 => ?_)
 clear f0; have g5 := gr_alloc hw2; have := g5.size; replace e0 := e0.gn g5; have bx8 : Bx w1 (w.heap.size) ((s : List Int).map wV) 44 := Bx.new hw2; have := bx8.lt; clear g5 hw2
 refine At.rd f3 1 [[]] [(4, .bool false)] [] (by kernel_rfl) trivial (fun aI f9 => ?_)
 clear f3
 refine At.done rfl ?_
 refine t_n ?_
 refine wp_seq ?_
 refine At.start ?_
 rcases Bool.eq_false_or_eq_true (decide ((n : Int) ≥ 0)) with aA | aA
 ·have aJ := of_decide_eq_true aA
  rcases Bool.eq_false_or_eq_true (decide ((n : Int) < 256)) with aB | aB
  ·have aK := of_decide_eq_true aB
   refine At.rd f9 19 [[], [], [.as_ (.bool true)], [], [], [], [.as_ (.bool true)], [], [.as_ (.int .i64 ((n : Int) / 64))], [], [.ld (.int .u64 (gI s ((n : Int) / 64)))], [], [.as_ (.int .i64 ((n : Int) % 64))], [.as_ (.int .u64 ((n : Int) % 64))], [], [], [], [], []] [(4, .bool ((IntKind.u64.wrap ((BitVec.ofInt 64 ((gI s ((n : Int) / 64) : Int).fdiv (2 ^ (min ((n : Int) % 64 : Int).toNat IntKind.u64.bits))) &&& BitVec.ofInt 64 1).toNat : Int) : Int) == 1)), (22, .bool ((IntKind.u64.wrap ((BitVec.ofInt 64 ((gI s ((n : Int) / 64) : Int).fdiv (2 ^ (min ((n : Int) % 64 : Int).toNat IntKind.u64.bits))) &&& BitVec.ofInt 64 1).toNat : Int) : Int) == 1)), (21, .bool ((IntKind.u64.wrap ((BitVec.ofInt 64 ((gI s ((n : Int) / 64) : Int).fdiv (2 ^ (min ((n : Int) % 64 : Int).toNat IntKind.u64.bits))) &&& BitVec.ofInt 64 1).toNat : Int) : Int) == 1)), (20, .int .u64 (IntKind.u64.wrap ((BitVec.ofInt 64 ((gI s ((n : Int) / 64) : Int).fdiv (2 ^ (min ((n : Int) % 64 : Int).toNat IntKind.u64.bits))) &&& BitVec.ofInt 64 1).toNat : Int))), (19, .int .u64 ((gI s ((n : Int) / 64) : Int).fdiv (2 ^ (min ((n : Int) % 64 : Int).toNat IntKind.u64.bits)))), (18, .int .u64 ((n : Int) % 64)), (17, .int .i64 ((n : Int) % 64)), (16, .int .i64 (n)), (15, .int .u64 (gI s ((n : Int) / 64))), (14, .pointer (some ((⟨w.heap.size, 0, none⟩ : Addr).add (((n : Int) / 64 : Int).toNat * 1)))), (13, .int .i64 ((n : Int) / 64)), (12, .int .i64 (n)), (11, .bool true), (10, .bool (decide ((n : Int) < 256))), (9, .bool (decide ((n : Int) < 256))), (8, .int .i64 (n)), (7, .bool true), (6, .bool (decide ((n : Int) ≥ 0))), (5, .int .i64 (n))] [((.bool (decide ((n : Int) ≥ 0)) : Value) = .bool true), ((.bool (decide ((n : Int) < 256)) : Value) = .bool true), (0 ≤ (6 : Int)), ((.int .i64 ((n : Int).fdiv (2 ^ (min (6 : Int).toNat IntKind.i64.bits))) : Value) = .int .i64 ((n : Int) / 64)), (0 ≤ ((n : Int) / 64 : Int)), (((n : Int) / 64 : Int) < (4 : Nat)), (w1.cell? ((⟨w.heap.size, 0, none⟩ : Addr).add (((n : Int) / 64 : Int).toNat * 1)) = some (.int .u64 (gI s ((n : Int) / 64)))), ((.int .i64 (IntKind.i64.wrap ((BitVec.ofInt 64 n &&& BitVec.ofInt 64 63).toNat : Int)) : Value) = .int .i64 ((n : Int) % 64)), ((.int .u64 (IntKind.u64.wrap ((n : Int) % 64)) : Value) = .int .u64 ((n : Int) % 64)), (0 ≤ ((n : Int) % 64 : Int))] (by kernel_rfl) ⟨(congrArg Value.bool aA), (congrArg Value.bool aB), (by omega), (congrArg (Value.int .i64) (shr6 _)), (by omega), (by omega), (Bx.arrM (f := wV) (0 : Int) bx8 ((n : Int) / 64) (by omega) (by omega)), (congrArg (Value.int .i64) (and63 (by omega) (by omega))), (wu64 (by omega) (by omega)), (by omega), trivial⟩ (fun aL aC => ?_)
   clear f9
   refine At.done rfl ?_
   refine t_n ?_
   have aF := aC.sub (r := [(4, .bool ((IntKind.u64.wrap ((BitVec.ofInt 64 ((gI s ((n : Int) / 64) : Int).fdiv (2 ^ (min ((n : Int) % 64 : Int).toNat IntKind.u64.bits))) &&& BitVec.ofInt 64 1).toNat : Int) : Int) == 1))]) ⟨rfl, trivial⟩
   clear aC
   refine wp_ret ?_
   refine ret_ aF [] [.bool ((IntKind.u64.wrap ((BitVec.ofInt 64 ((gI s ((n : Int) / 64) : Int).fdiv (2 ^ (min ((n : Int) % 64 : Int).toNat IntKind.u64.bits))) &&& BitVec.ofInt 64 1).toNat : Int) : Int) == 1)] [] (by kernel_rfl) trivial ?_
   exact ⟨ret_eq (congrArg Value.bool (by first | exact hasW_yes hs (by omega) (by omega) | exact hasW_no (by omega))), e0⟩
  have aM := of_decide_eq_false aB
  refine At.rd f9 19 [[], [], [.as_ (.bool true)], [], [], [], [.as_ (.bool false)], [], [], [], [], [], [], [], [], [], [], [], []] [(4, .bool false), (22, .bool false), (21, undef), (20, undef), (19, undef), (18, undef), (17, undef), (16, undef), (15, undef), (14, undef), (13, undef), (12, undef), (11, .bool false), (10, .bool (decide ((n : Int) < 256))), (9, .bool (decide ((n : Int) < 256))), (8, .int .i64 (n)), (7, .bool true), (6, .bool (decide ((n : Int) ≥ 0))), (5, .int .i64 (n))] [((.bool (decide ((n : Int) ≥ 0)) : Value) = .bool true), ((.bool (decide ((n : Int) < 256)) : Value) = .bool false)] (by kernel_rfl) ⟨(congrArg Value.bool aA), (congrArg Value.bool aB), trivial⟩ (fun aN aD => ?_)
  clear f9
  refine At.done rfl ?_
  refine t_n ?_
  have aG := aD.sub (r := [(4, .bool false)]) ⟨rfl, trivial⟩; clear aD
  refine wp_ret ?_
  refine ret_ aG [] [.bool false] [] (by kernel_rfl) trivial ?_
  exact ⟨ret_eq (congrArg Value.bool (by first | exact hasW_yes hs (by omega) (by omega) | exact hasW_no (by omega))), e0⟩
 have aO := of_decide_eq_false aA
 refine At.rd f9 19 [[], [], [.as_ (.bool false)], [], [], [], [], [], [], [], [], [], [], [], [], [], [], [], []] [(4, .bool false), (22, .bool false), (21, undef), (20, undef), (19, undef), (18, undef), (17, undef), (16, undef), (15, undef), (14, undef), (13, undef), (12, undef), (11, .bool false), (10, .bool false), (9, undef), (8, undef), (7, .bool false), (6, .bool (decide ((n : Int) ≥ 0))), (5, .int .i64 (n))] [((.bool (decide ((n : Int) ≥ 0)) : Value) = .bool false)] (by kernel_rfl) ⟨(congrArg Value.bool aA), trivial⟩ (fun aP aE => ?_)
 clear f9
 refine At.done rfl ?_
 refine t_n ?_
 have aH := aE.sub (r := [(4, .bool false)]) ⟨rfl, trivial⟩; clear aE
 refine wp_ret ?_
 refine ret_ aH [] [.bool false] [] (by kernel_rfl) trivial ?_
 exact ⟨ret_eq (congrArg Value.bool (by first | exact hasW_yes hs (by omega) (by omega) | exact hasW_no (by omega))), e0⟩

end Go.Proofs.YtplpgfcjjnaigaaDoor
