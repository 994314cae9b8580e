/-
  A walk of a Go function, printed by a program of this repo. Conditions: what the theorems name.
-/
import Derived.Test.YtplpgfcjjnaigaaDoorPureSet3
set_option linter.unusedVariables false
set_option linter.unusedSimpArgs false
namespace Go.Proofs.YtplpgfcjjnaigaaDoor
open Go Go.RowKit

set_option maxHeartbeats 4000000 in
theorem full_any {n : Int} {w : World} (hn : -9223372036854775808 ≤ n ∧ n ≤ 9223372036854775807) :
    Calls Tryd.prog 44 #[.int .i64 (n)] w fun e w' => e = .returned (.agg (((fullW n : List Int)).map wV).toArray) ∧ Ext w w' := by
 refine enter_ (args := [.int .i64 (n)]) Tryd.func44 rfl Tryd.ntmps44 (Nat.le_of_ble_eq_true rfl) (fun act0 f0 => ?_)
 have e0 : Ext w w := Ext.refl w
 refine wp_seq ?_
 refine At.start ?_
 refine At.seq f0 1 [[]] [(2, .pointer (some ⟨w.heap.size, 0, none⟩))] (w.alloc (.cells ((List.replicate 4 (0 : Int) : List Int).map wV).toArray 44 (0, 0))) [] (by kernel_rfl) trivial (fun act4 w1 hw2 f3 => ?_)
 clear f0; have g5 := gr_alloc hw2; have := g5.size; replace e0 := e0.gn g5; have bx8 : Bx w1 (w.heap.size) ((List.replicate 4 (0 : Int) : List Int).map wV) 44 := Bx.new hw2; have := bx8.lt; clear g5 hw2
 refine At.done rfl ?_
 refine t_n ?_
 refine wp_seq ?_
 refine At.start ?_
 refine At.seq f3 1 [[]] [(3, .pointer (some ⟨w1.heap.size, 0, none⟩))] (w1.alloc (.cells ((List.replicate 4 (0 : Int) : List Int).map wV).toArray 44 (0, 0))) [] (by kernel_rfl) trivial (fun bL w9 aJ aN => ?_)
 clear f3; have aF := gr_alloc aJ; have := aF.size; replace e0 := e0.gn aF; replace bx8 := bx8.gn aF; have aK : Bx w9 (w1.heap.size) ((List.replicate 4 (0 : Int) : List Int).map wV) 44 := Bx.new aJ; have := aK.lt; clear aF aJ
 refine At.done rfl ?_
 refine t_n ?_
 refine wp_seq ?_
 refine At.start ?_
 refine At.rd aN 3 [[], [.as_ (.int .i64 (max n 0))], []] [(0, .int .i64 (max n 0)), (7, .int .i64 (max n 0)), (6, .int .i64 (n))] [((.int .i64 (if 0 > n then 0 else n) : Value) = .int .i64 (max n 0))] (by kernel_rfl) ⟨(congrArg (Value.int .i64) (max_if _ _)), trivial⟩ (fun bM aO => ?_)
 clear aN
 refine At.done rfl ?_
 refine t_n ?_
 refine wp_seq ?_
 refine wp_seq ?_
 refine At.start ?_
 refine At.rd aO 1 [[]] [(8, .int .i64 (0))] [] (by kernel_rfl) trivial (fun bN aP => ?_)
 clear aO
 refine At.done rfl ?_
 refine t_n ?_
 refine wp_block ?_
 have aQ := aP.sub (r := [(8, .int .i64 (0)), (0, .int .i64 (max n 0)), (3, .pointer (some ⟨w1.heap.size, 0, none⟩)), (2, .pointer (some ⟨w.heap.size, 0, none⟩))]) ⟨rfl, rfl, rfl, rfl, trivial⟩
 refine loop_g (fun (m_ : Nat) a_ w_ => ∃ (k : Int) (xs : List Int), m_ = (4 - k).toNat ∧ (Frm 27 a_ [(8, .int .i64 (k)), (0, .int .i64 (max n 0)), (3, .pointer (some ⟨w1.heap.size, 0, none⟩)), (2, .pointer (some ⟨w.heap.size, 0, none⟩))]) ∧ (Ext w w_) ∧ (Bx w_ (w.heap.size) ((List.replicate 4 (0 : Int) : List Int).map wV) 44) ∧ (Bx w_ (w1.heap.size) ((xs : List Int).map wV) 44) ∧ (0 ≤ k) ∧ (k ≤ 4) ∧ (xs.length = 4) ∧ (MixW (List.replicate 4 (0 : Int)) xs (fun j => lowW (if max n 0 > 256 then 64 else min (max (max n 0 - 64 * j) 0) 64)) k)) _ ⟨0, List.replicate 4 (0 : Int), rfl, aQ, e0, bx8, aK, (by omega), (by omega), rfl, (mixW_0 rfl)⟩ ?_
 clear aQ aP; clear bx8; clear aK; clear e0
 intro m_ bO bC ⟨k, xs, hm26, aR, aA, aB, aC, i30, i31, i32, hmx⟩
 have := aA.size; have := aB.lt; have := aC.lt
 refine wp_seq ?_
 refine At.start ?_
 refine At.rd aR 1 [[]] [(9, .bool (decide ((k : Int) < 4)))] [] (by kernel_rfl) trivial (fun bP aD => ?_)
 clear aR
 refine At.done rfl ?_
 refine t_n ?_
 refine wp_seq ?_
 refine cond_S aD (t := decide ((k : Int) < 4)) rfl (fun aL => ?_) (fun aL => ?_)
 ·have bQ := of_decide_eq_true aL
  refine wp_skip ?_
  refine t_n ?_
  refine wp_seq ?_
  refine wp_block ?_
  refine wp_seq ?_
  refine At.start ?_
  refine At.rd aD 2 [[], []] [(4, .int .i64 (k)), (10, .int .i64 (k))] [] (by kernel_rfl) trivial (fun bR aS => ?_)
  clear aD
  refine At.done rfl ?_
  refine t_n ?_
  refine wp_seq ?_
  refine At.start ?_
  refine At.rd aS 7 [[], [], [.as_ (.int .i64 (64 * k))], [.as_ (.int .i64 ((max n 0) - (64 * k)))], [.as_ (.int .i64 (max ((max n 0) - (64 * k)) 0))], [.as_ (.int .i64 (min (max ((max n 0) - (64 * k)) 0) 64))], []] [(5, .int .i64 (min (max ((max n 0) - (64 * k)) 0) 64)), (16, .int .i64 (min (max ((max n 0) - (64 * k)) 0) 64)), (15, .int .i64 (max ((max n 0) - (64 * k)) 0)), (14, .int .i64 ((max n 0) - (64 * k))), (13, .int .i64 (64 * k)), (12, .int .i64 (k)), (11, .int .i64 (max n 0))] [((.int .i64 (IntKind.i64.wrap (64 * k)) : Value) = .int .i64 (64 * k)), ((.int .i64 (IntKind.i64.wrap ((max n 0) - (64 * k))) : Value) = .int .i64 ((max n 0) - (64 * k))), ((.int .i64 (if 0 > ((max n 0) - (64 * k)) then 0 else ((max n 0) - (64 * k))) : Value) = .int .i64 (max ((max n 0) - (64 * k)) 0)), ((.int .i64 (if 64 < (max ((max n 0) - (64 * k)) 0) then 64 else (max ((max n 0) - (64 * k)) 0)) : Value) = .int .i64 (min (max ((max n 0) - (64 * k)) 0) 64))] (by kernel_rfl) ⟨(w64 (by omega) (by omega)), (w64 (by omega) (by omega)), (congrArg (Value.int .i64) (max_if _ _)), (congrArg (Value.int .i64) (min_if _ _)), trivial⟩ (fun bS aT => ?_)
  clear aS
  refine At.done rfl ?_
  refine t_n ?_
  refine wp_seq ?_
  refine wp_seq ?_
  refine At.start ?_
  refine At.rd aT 2 [[], []] [(18, .bool (decide ((max n 0 : Int) > 256))), (17, .int .i64 (max n 0))] [] (by kernel_rfl) trivial (fun bT aE => ?_)
  clear aT
  refine At.done rfl ?_
  refine t_n ?_
  refine cond_S aE (t := decide ((max n 0 : Int) > 256)) rfl (fun aM => ?_) (fun aM => ?_)
  ·have bU := of_decide_eq_true aM
   refine At.start ?_
   refine At.rd aE 1 [[]] [(5, .int .i64 (64))] [] (by kernel_rfl) trivial (fun bV aU => ?_)
   clear aE
   refine At.done rfl ?_
   refine t_n ?_
   refine At.start ?_
   refine At.rd aU 6 [[], [], [.as_ (.int .u64 (64))], [], [], []] [(24, .pointer (some ((⟨w1.heap.size, 0, none⟩ : Addr).add ((k : Int).toNat * 1)))), (23, .int .u64 (IntKind.u64.wrap ((IntKind.u64.wrap (1 * (2 ^ (min (64 : Int).toNat IntKind.u64.bits)))) - 1))), (22, .int .u64 (IntKind.u64.wrap (1 * (2 ^ (min (64 : Int).toNat IntKind.u64.bits))))), (21, .int .u64 (64)), (20, .int .i64 (64)), (19, .int .i64 (k))] [((.int .u64 (IntKind.u64.wrap (64)) : Value) = .int .u64 (64)), (0 ≤ (64 : Int)), (0 ≤ (k : Int)), ((k : Int) < (4 : Nat))] (by kernel_rfl) ⟨(wu64 (by omega) (by omega)), (by omega), (by omega), (by omega), trivial⟩ (fun bW aV => ?_)
   clear aU
   refine At.act aV (storeArrM (f := wV) (t := 42) (b := w1.heap.size) (i := k) (x := IntKind.u64.wrap ((IntKind.u64.wrap (1 * (2 ^ (min (64 : Int).toNat IntKind.u64.bits)))) - 1)) (v := .int .u64 (IntKind.u64.wrap ((IntKind.u64.wrap (1 * (2 ^ (min (64 : Int).toNat IntKind.u64.bits)))) - 1))) (by kernel_rfl) rfl rfl (by kernel_rfl) aC (by omega) (by omega)) ?_
   rintro d_ v_ bX ⟨rfl, aG, bD⟩
   refine ⟨_, rfl, fun bY aW => ?_⟩
   clear aV
   have bZ : ((xs).set (k : Int).toNat (IntKind.u64.wrap ((IntKind.u64.wrap (1 * (2 ^ (min (64 : Int).toNat IntKind.u64.bits)))) - 1))).length = (xs : List Int).length := List.length_set
   have := aG.size; replace aA := aA.gr aG (fun k h => by injection h; omega); replace aB := aB.gb aG (by omega); clear aC aG
   refine At.done rfl ?_
   refine b_n ?_
   refine t_n ?_
   have aX := aW.sub (r := [(8, .int .i64 (k)), (0, .int .i64 (max n 0)), (3, .pointer (some ⟨w1.heap.size, 0, none⟩)), (2, .pointer (some ⟨w.heap.size, 0, none⟩))]) ⟨rfl, rfl, rfl, rfl, trivial⟩
   clear aW
   refine At.start ?_
   refine At.rd aX 2 [[.as_ (.int .i64 (k + 1))], []] [(8, .int .i64 (k + 1)), (25, .int .i64 (k + 1))] [((.int .i64 (IntKind.i64.wrap (k + 1)) : Value) = .int .i64 (k + 1))] (by kernel_rfl) ⟨(w64 (by omega) (by omega)), trivial⟩ (fun cA bE => ?_)
   clear aX
   refine At.done rfl ?_
   refine t_n ?_
   have bF := bE.sub (r := [(8, .int .i64 (k + 1)), (0, .int .i64 (max n 0)), (3, .pointer (some ⟨w1.heap.size, 0, none⟩)), (2, .pointer (some ⟨w.heap.size, 0, none⟩))]) ⟨rfl, rfl, rfl, rfl, trivial⟩
   exact ⟨_, (by omega), (k + 1), (xs).set (k : Int).toNat (IntKind.u64.wrap ((IntKind.u64.wrap (1 * (2 ^ (min (64 : Int).toNat IntKind.u64.bits)))) - 1)), rfl, bF, aA, aB, bD, (by omega), (by omega), (by omega), (mixW_next hmx (by omega) (by omega) ((shl_low (by omega) (by omega)).trans (congrArg lowW (by first | rw [if_pos (by omega)] | rw [if_neg (by omega)]))))⟩
  have cB := of_decide_eq_false aM
  refine wp_skip ?_
  refine t_n ?_
  refine At.start ?_
  refine At.rd aE 6 [[], [], [.as_ (.int .u64 (min (max ((max n 0) - (64 * k)) 0) 64))], [], [], []] [(24, .pointer (some ((⟨w1.heap.size, 0, none⟩ : Addr).add ((k : Int).toNat * 1)))), (23, .int .u64 (IntKind.u64.wrap ((IntKind.u64.wrap (1 * (2 ^ (min (min (max ((max n 0) - (64 * k)) 0) 64 : Int).toNat IntKind.u64.bits)))) - 1))), (22, .int .u64 (IntKind.u64.wrap (1 * (2 ^ (min (min (max ((max n 0) - (64 * k)) 0) 64 : Int).toNat IntKind.u64.bits))))), (21, .int .u64 (min (max ((max n 0) - (64 * k)) 0) 64)), (20, .int .i64 (min (max ((max n 0) - (64 * k)) 0) 64)), (19, .int .i64 (k))] [((.int .u64 (IntKind.u64.wrap (min (max ((max n 0) - (64 * k)) 0) 64)) : Value) = .int .u64 (min (max ((max n 0) - (64 * k)) 0) 64)), (0 ≤ (min (max ((max n 0) - (64 * k)) 0) 64 : Int)), (0 ≤ (k : Int)), ((k : Int) < (4 : Nat))] (by kernel_rfl) ⟨(wu64 (by omega) (by omega)), (by omega), (by omega), (by omega), trivial⟩ (fun cC aY => ?_)
  clear aE
  refine At.act aY (storeArrM (f := wV) (t := 42) (b := w1.heap.size) (i := k) (x := IntKind.u64.wrap ((IntKind.u64.wrap (1 * (2 ^ (min (min (max ((max n 0) - (64 * k)) 0) 64 : Int).toNat IntKind.u64.bits)))) - 1)) (v := .int .u64 (IntKind.u64.wrap ((IntKind.u64.wrap (1 * (2 ^ (min (min (max ((max n 0) - (64 * k)) 0) 64 : Int).toNat IntKind.u64.bits)))) - 1))) (by kernel_rfl) rfl rfl (by kernel_rfl) aC (by omega) (by omega)) ?_
  rintro d_ v_ cD ⟨rfl, aH, bG⟩
  refine ⟨_, rfl, fun cE aZ => ?_⟩
  clear aY
  have cF : ((xs).set (k : Int).toNat (IntKind.u64.wrap ((IntKind.u64.wrap (1 * (2 ^ (min (min (max ((max n 0) - (64 * k)) 0) 64 : Int).toNat IntKind.u64.bits)))) - 1))).length = (xs : List Int).length := List.length_set
  have := aH.size; replace aA := aA.gr aH (fun k h => by injection h; omega); replace aB := aB.gb aH (by omega); clear aC aH
  refine At.done rfl ?_
  refine b_n ?_
  refine t_n ?_
  have bA := aZ.sub (r := [(8, .int .i64 (k)), (0, .int .i64 (max n 0)), (3, .pointer (some ⟨w1.heap.size, 0, none⟩)), (2, .pointer (some ⟨w.heap.size, 0, none⟩))]) ⟨rfl, rfl, rfl, rfl, trivial⟩
  clear aZ
  refine At.start ?_
  refine At.rd bA 2 [[.as_ (.int .i64 (k + 1))], []] [(8, .int .i64 (k + 1)), (25, .int .i64 (k + 1))] [((.int .i64 (IntKind.i64.wrap (k + 1)) : Value) = .int .i64 (k + 1))] (by kernel_rfl) ⟨(w64 (by omega) (by omega)), trivial⟩ (fun cG bH => ?_)
  clear bA
  refine At.done rfl ?_
  refine t_n ?_
  have bI := bH.sub (r := [(8, .int .i64 (k + 1)), (0, .int .i64 (max n 0)), (3, .pointer (some ⟨w1.heap.size, 0, none⟩)), (2, .pointer (some ⟨w.heap.size, 0, none⟩))]) ⟨rfl, rfl, rfl, rfl, trivial⟩
  exact ⟨_, (by omega), (k + 1), (xs).set (k : Int).toNat (IntKind.u64.wrap ((IntKind.u64.wrap (1 * (2 ^ (min (min (max ((max n 0) - (64 * k)) 0) 64 : Int).toNat IntKind.u64.bits)))) - 1)), rfl, bI, aA, aB, bG, (by omega), (by omega), (by omega), (mixW_next hmx (by omega) (by omega) ((shl_low (by omega) (by omega)).trans (congrArg lowW (by first | rw [if_pos (by omega)] | rw [if_neg (by omega)]))))⟩
 have cH := of_decide_eq_false aL
 refine wp_exit ?_
 refine t_e ?_
 refine t_e ?_
 refine b_e ?_
 refine t_n ?_
 refine wp_seq ?_
 refine At.start ?_
 refine At.rd aD 1 [[.cs ((xs : List Int).map wV)]] [(26, .agg ((xs : List Int).map wV).toArray)] [(((xs : List Int).map wV).length = 4), (∀ (j : Nat) (v : Value), ((xs : List Int).map wV)[j]? = some v → bC.cell? ((⟨w1.heap.size, 0, none⟩ : Addr).add j) = some v)] (by kernel_rfl) ⟨((List.length_map _).trans (by assumption)), aC.whole, trivial⟩ (fun cI bB => ?_)
 clear aD
 refine At.act bB (storeBlk (t := 44) (b := w.heap.size) (n := 4) (cs' := ((xs : List Int).map wV)) (by kernel_rfl) (by kernel_rfl) ((List.length_map _).trans (by assumption)) oneW_ ((show ((xs : List Int).map wV).length = 4 from ((List.length_map _).trans (by assumption))).trans (show ((List.replicate 4 (0 : Int) : List Int).map wV).length = 4 from (by simp only [List.length_map, List.length_set, List.length_replicate, List.length_cons, List.length_nil]; first | done | assumption | exact from_len _ | exact of_len _ | exact ofZ_len _ | exact (ofW_ok _).1 | exact (fullW_W _).1 | exact (okW_with (by assumption)).1 | exact (okW_less (by assumption)).1 | exact put_len (from_len _) | exact orD_len _ _ | exact andD_len _ _ | exact minusD_len _ _ | exact fullD_len _ | (refine okLen ?_; (repeat (first | assumption | exact ofW_ok _ | exact fullW_W _ | apply okW_with | apply okW_less | refine okW_orS ?_ ?_ | refine okW_andS ?_ ?_ | refine okW_minusS ?_ ?_)); done) | omega | rfl)).symm) aB) ?_
 rintro d_ v_ cJ ⟨rfl, aI, bJ⟩
 refine ⟨_, rfl, fun cK bK => ?_⟩
 clear bB; have := aI.size; replace aA := aA.gr aI (fun k h => by injection h; omega); replace aC := aC.gb aI (by omega); clear aB aI
 refine At.done rfl ?_
 refine t_n ?_
 refine wp_ret ?_
 refine retB_ bK (sl := 2) (cs := ((xs : List Int).map wV)) (m := 4) rfl (by kernel_rfl) (by kernel_rfl) ((List.length_map _).trans (by assumption)) bJ ?_
 exact ⟨ret_map (mixW_end hmx (by omega)), aA⟩

end Go.Proofs.YtplpgfcjjnaigaaDoor
