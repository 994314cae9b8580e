/-
  A walk of a Go function, printed by a program of this repo. Conditions: what the theorems name.
-/
import Derived.Test.YtkpljmalbmcdfaaDoorPureSet
import Derived.Test.YtkpljmalbmcdfaaDoorWSetW
set_option linter.unusedVariables false
set_option linter.unusedSimpArgs false
namespace Go.Proofs.YtkpljmalbmcdfaaDoor
open Go Go.RowKit

set_option maxHeartbeats 4000000 in
theorem in_any {s : List Int} {t : List Int} {w : World} (hs : OkW s) (ht : OkW t) :
    Calls Tryd.prog 21 #[.agg ((s : List Int).map wV).toArray, .agg ((t : List Int).map wV).toArray] w fun e w' => e = .returned (.bool (inW s t)) ∧ Ext w w' := by
 have hls := hs.1
 have hlt := ht.1
 refine enter_ (args := [.agg ((s : List Int).map wV).toArray, .agg ((t : List Int).map wV).toArray]) Tryd.func21 rfl Tryd.ntmps21 (Nat.le_of_ble_eq_true rfl) (fun act0 f0 => ?_)
 have e0 := Ext.refl w
 refine wp_seq ?_
 refine At.start ?_
 refine At.seq f0 1 [[]] [(2, .pointer (some ⟨w.heap.size, 0, none⟩))] (w.alloc (.cells ((s : List Int).map wV).toArray 28 (0, 0))) [] (by kernel_rfl) trivial (fun act4 w1 hw2 f3 => ?_)
 clear f0
 have g5 := gr_alloc hw2
 have szw1 := g5.size
 have e7 := e0.gr g5 no_row
 clear e0
 have bx8 : Bx w1 (w.heap.size) ((s : List Int).map wV) 28 := Bx.new hw2
 have := bx8.lt
 clear g5 hw2
 refine At.seq f3 1 [[]] [(3, .pointer (some ⟨w1.heap.size, 0, none⟩))] (w1.alloc (.cells ((t : List Int).map wV).toArray 28 (0, 0))) [] (by kernel_rfl) trivial (fun act12 w9 hw10 f11 => ?_)
 clear f3
 have g13 := gr_alloc hw10
 have szw9 := g13.size
 have e15 := e7.gr g13 no_row
 clear e7
 have bx16 := bx8.gr g13 (by simp)
 clear bx8
 have bx17 : Bx w9 (w1.heap.size) ((t : List Int).map wV) 28 := Bx.new hw10
 have := bx17.lt
 clear g13 hw10
 refine At.rd f11 1 [[]] [(4, .bool false)] [] (by kernel_rfl) trivial (fun act19 f18 => ?_)
 clear f11
 refine At.done rfl ?_
 refine t_n ?_
 refine wp_seq ?_
 refine At.start ?_
 refine At.rd f18 2 [[.cs ((s : List Int).map wV)], [.cs ((t : List Int).map wV)]] [(6, .agg ((t : List Int).map wV).toArray), (5, .agg ((s : List Int).map wV).toArray)] [(((s : List Int).map wV).length = 4), (∀ (j : Nat) (v : Value), ((s : List Int).map wV)[j]? = some v → w9.cell? ((⟨w.heap.size, 0, none⟩ : Addr).add j) = some v), (((t : List Int).map wV).length = 4), (∀ (j : Nat) (v : Value), ((t : List Int).map wV)[j]? = some v → w9.cell? ((⟨w1.heap.size, 0, none⟩ : Addr).add j) = some v)] (by kernel_rfl) ⟨((List.length_map _).trans (by assumption)), bx16.whole, ((List.length_map _).trans (by assumption)), bx17.whole, trivial⟩ (fun act21 f20 => ?_)
 clear f18
 refine At.call f20 22 #[.agg ((s : List Int).map wV).toArray, .agg ((t : List Int).map wV).toArray] (some 7) (by kernel_rfl) (minus_any (s := s) (t := t) (by repeat (first | assumption | exact ofW_ok _ | exact fullW_W _ | exact wordsD_W _ | exact okW_0 | exact okW_00 | apply okW_orS | apply okW_andS | apply okW_minusS | apply okW_with | apply okW_less | apply okW_or | apply okW_and | apply okW_minus | (apply okW_lit <;> exact ⟨by omega, by omega⟩))) (by repeat (first | assumption | exact ofW_ok _ | exact fullW_W _ | exact wordsD_W _ | exact okW_0 | exact okW_00 | apply okW_orS | apply okW_andS | apply okW_minusS | apply okW_with | apply okW_less | apply okW_or | apply okW_and | apply okW_minus | (apply okW_lit <;> exact ⟨by omega, by omega⟩)))) ?_
 rintro e_ w22 ⟨rfl, he⟩
 refine ⟨_, rfl, _, rfl, fun act23 f24 => ?_⟩
 clear f20
 have g25 := gr_ext he
 have szw22 := g25.size
 have e26 := e15.gr g25 no_row
 clear e15
 have bx27 := bx16.gr g25 (by simp)
 clear bx16
 have bx28 := bx17.gr g25 (by simp)
 clear bx17
 clear g25 he
 refine At.rd f24 3 [[], [.cs [wV (gI (ofZW (fun j => notW (gI s j) (gI t j))) 0), wV (gI (ofZW (fun j => notW (gI s j) (gI t j))) 1), wV (gI (ofZW (fun j => notW (gI s j) (gI t j))) 2), wV (gI (ofZW (fun j => notW (gI s j) (gI t j))) 3)], .cs [wV (gI ([0, 0, 0, 0]) 0), wV (gI ([0, 0, 0, 0]) 1), wV (gI ([0, 0, 0, 0]) 2), wV (gI ([0, 0, 0, 0]) 3)], .as_ (.bool (decide ((ofZW (fun j => notW (gI s j) (gI t j)) : List Int) = ([0, 0, 0, 0]))))], []] [(4, .bool (decide ((ofZW (fun j => notW (gI s j) (gI t j)) : List Int) = ([0, 0, 0, 0])))), (9, .bool (decide ((ofZW (fun j => notW (gI s j) (gI t j)) : List Int) = ([0, 0, 0, 0])))), (8, .agg (([0, 0, 0, 0] : List Int).map wV).toArray)] [(((ofZW (fun j => notW (gI s j) (gI t j)) : List Int).map wV).toArray = ([wV (gI (ofZW (fun j => notW (gI s j) (gI t j))) 0), wV (gI (ofZW (fun j => notW (gI s j) (gI t j))) 1), wV (gI (ofZW (fun j => notW (gI s j) (gI t j))) 2), wV (gI (ofZW (fun j => notW (gI s j) (gI t j))) 3)] : List Value).toArray), ((([0, 0, 0, 0] : List Int).map wV).toArray = ([wV (gI ([0, 0, 0, 0]) 0), wV (gI ([0, 0, 0, 0]) 1), wV (gI ([0, 0, 0, 0]) 2), wV (gI ([0, 0, 0, 0]) 3)] : List Value).toArray), ((.bool ((((gI (ofZW (fun j => notW (gI s j) (gI t j))) 0 : Int) == gI ([0, 0, 0, 0]) 0) && (((gI (ofZW (fun j => notW (gI s j) (gI t j))) 1 : Int) == gI ([0, 0, 0, 0]) 1) && (((gI (ofZW (fun j => notW (gI s j) (gI t j))) 2 : Int) == gI ([0, 0, 0, 0]) 2) && (((gI (ofZW (fun j => notW (gI s j) (gI t j))) 3 : Int) == gI ([0, 0, 0, 0]) 3) && true))))) : Value) = .bool (decide ((ofZW (fun j => notW (gI s j) (gI t j)) : List Int) = ([0, 0, 0, 0]))))] (by kernel_rfl) ⟨(map4 (by first | assumption | exact (okW_with (by assumption)).1 | exact (okW_less (by assumption)).1 | exact (ofW_ok _).1 | exact (fullW_W _).1 | (refine okLen ?_; (repeat (first | assumption | exact ofW_ok _ | exact fullW_W _ | apply okW_with | apply okW_less | refine okW_orS ?_ ?_ | refine okW_andS ?_ ?_ | refine okW_minusS ?_ ?_)); done) | rfl | omega | (simp only [List.length_set]; first | done | assumption | omega) | exact lenW4 _ (by assumption))), (map4 (okLen okW_00)), (congrArg (fun b => Value.bool b) (w4_eq (by first | assumption | exact (okW_with (by assumption)).1 | exact (okW_less (by assumption)).1 | exact (ofW_ok _).1 | exact (fullW_W _).1 | (refine okLen ?_; (repeat (first | assumption | exact ofW_ok _ | exact fullW_W _ | apply okW_with | apply okW_less | refine okW_orS ?_ ?_ | refine okW_andS ?_ ?_ | refine okW_minusS ?_ ?_)); done) | rfl | omega | (simp only [List.length_set]; first | done | assumption | omega) | exact lenW4 _ (by assumption)) (okLen okW_00))), trivial⟩ (fun act30 f29 => ?_)
 clear f24
 refine At.done rfl ?_
 refine t_n ?_
 refine wp_ret ?_
 refine ret_ f29 [] [.bool (decide ((ofZW (fun j => notW (gI s j) (gI t j)) : List Int) = ([0, 0, 0, 0])))] [] (by kernel_rfl) trivial ?_
 exact ⟨rfl, e26⟩

set_option maxHeartbeats 4000000 in
theorem of_any {Aa : Option Addr} {ca : Nat} {la : List Int} {w : World} (ra : RdI w 0 w.heap.size Aa la) :
    Calls Tryd.prog 24 #[.slice Aa la.length ca] w fun e w' => e = .returned (.agg (((ofW la : List Int)).map wV).toArray) ∧ Ext w w' := by
 have hla := ra.len
 refine enter_ (args := [.slice Aa la.length ca]) Tryd.func24 rfl Tryd.ntmps24 (Nat.le_of_ble_eq_true rfl) (fun act0 f0 => ?_)
 have e0 := Ext.refl w
 refine wp_seq ?_
 refine At.start ?_
 refine At.seq f0 1 [[]] [(2, .pointer (some ⟨w.heap.size, 0, none⟩))] (w.alloc (.cells ((List.replicate 4 (0 : Int) : List Int).map wV).toArray 28 (0, 0))) [] (by kernel_rfl) trivial (fun act4 w1 hw2 f3 => ?_)
 clear f0
 have g5 := gr_alloc hw2
 have szw1 := g5.size
 have e7 := e0.gr g5 no_row
 clear e0
 have r8 := ra.gr g5 (fun _ h => by cases h)
 clear ra
 have bx9 : Bx w1 (w.heap.size) ((List.replicate 4 (0 : Int) : List Int).map wV) 28 := Bx.new hw2
 have := bx9.lt
 clear g5 hw2
 refine At.done rfl ?_
 refine t_n ?_
 refine wp_seq ?_
 refine At.start ?_
 refine At.seq f3 1 [[]] [(3, .pointer (some ⟨w1.heap.size, 0, none⟩))] (w1.alloc (.cells ((List.replicate 4 (0 : Int) : List Int).map wV).toArray 28 (0, 0))) [] (by kernel_rfl) trivial (fun act13 w10 hw11 f12 => ?_)
 clear f3
 have g14 := gr_alloc hw11
 have szw10 := g14.size
 have e16 := e7.gr g14 no_row
 clear e7
 have r17 := r8.gr g14 (fun _ h => by cases h)
 clear r8
 have bx18 := bx9.gr g14 (by simp)
 clear bx9
 have bx19 : Bx w10 (w1.heap.size) ((List.replicate 4 (0 : Int) : List Int).map wV) 28 := Bx.new hw11
 have := bx19.lt
 clear g14 hw11
 refine At.done rfl ?_
 refine t_n ?_
 refine wp_seq ?_
 refine wp_seq ?_
 refine At.start ?_
 refine At.rd f12 3 [[], [], []] [(8, .int .i64 (0)), (7, .int .i64 (((la.length : Nat) : Int))), (6, .slice Aa la.length ca)] [] (by kernel_rfl) trivial (fun act21 f20 => ?_)
 clear f12
 refine At.done rfl ?_
 refine t_n ?_
 refine wp_block ?_
 have f22 := f20.sub (r := [(8, .int .i64 (0)), (7, .int .i64 (((la.length : Nat) : Int))), (6, .slice Aa la.length ca), (3, .pointer (some ⟨w1.heap.size, 0, none⟩)), (2, .pointer (some ⟨w.heap.size, 0, none⟩))]) ⟨rfl, rfl, rfl, rfl, rfl, trivial⟩
 refine loop_g (fun (m_ : Nat) a_ w_ => ∃ (k : Int) (xs : List Int), m_ = ((la.length : Int) - k).toNat ∧ (Frm 17 a_ [(8, .int .i64 (k)), (7, .int .i64 (((la.length : Nat) : Int))), (6, .slice Aa la.length ca), (3, .pointer (some ⟨w1.heap.size, 0, none⟩)), (2, .pointer (some ⟨w.heap.size, 0, none⟩))]) ∧ (Ext w w_) ∧ (RdI w_ 0 w.heap.size Aa la) ∧ (Bx w_ (w.heap.size) ((List.replicate 4 (0 : Int) : List Int).map wV) 28) ∧ (Bx w_ (w1.heap.size) ((xs : List Int).map wV) 28) ∧ (0 ≤ k) ∧ (k ≤ (la.length : Int)) ∧ (OkW xs) ∧ (xs = ofW (la.take k.toNat)) ∧ (xs.length = 4)) _ ⟨0, List.replicate 4 (0 : Int), rfl, f22, e16, r17, bx18, bx19, (by omega), (by omega), okW_0, rfl, rfl⟩ ?_
 clear f22 f20
 clear r17
 clear bx18
 clear bx19
 clear e16
 intro m_ act23 w24 ⟨k, xs, hm26, f27, e25, r28, bx29, bx30, i31, i32, hok, hxs, i33⟩
 have szw24 := e25.size
 have := bx29.lt
 have := bx30.lt
 refine wp_seq ?_
 refine At.start ?_
 refine At.rd f27 1 [[]] [(9, .bool (decide ((k : Int) < ((la.length : Nat) : Int))))] [] (by kernel_rfl) trivial (fun act35 f34 => ?_)
 clear f27
 refine At.done rfl ?_
 refine t_n ?_
 refine wp_seq ?_
 refine cond_S f34 (t := decide ((k : Int) < ((la.length : Nat) : Int))) rfl (fun h36 => ?_) (fun h36 => ?_)
 ·have q37 := of_decide_eq_true h36
  refine wp_skip ?_
  refine t_n ?_
  refine wp_seq ?_
  refine wp_block ?_
  refine wp_seq ?_
  refine At.start ?_
  obtain ⟨ad38, hA39, _, _, hc40⟩ := RdI.get r28 (k) (by omega) (by omega)
  refine At.rd f34 3 [[.ad ad38], [.ld (.int .i64 (gI la (k)))], []] [(5, .int .i64 (gI la (k))), (11, .int .i64 (gI la (k))), (10, .pointer (some (ad38.add ((k : Int).toNat * 1))))] [(Aa = some ad38), (0 ≤ (k : Int)), ((k : Int) < (la.length : Nat)), (w24.cell? (ad38.add ((k : Int).toNat * 1)) = some (.int .i64 (gI la (k))))] (by kernel_rfl) ⟨hA39, (by omega), (by omega), hc40, trivial⟩ (fun act42 f41 => ?_)
  clear f34
  refine At.done rfl ?_
  refine t_n ?_
  refine At.start ?_
  refine At.rd f41 2 [[.cs ((xs : List Int).map wV)], []] [(13, .int .i64 (gI la (k))), (12, .agg ((xs : List Int).map wV).toArray)] [(((xs : List Int).map wV).length = 4), (∀ (j : Nat) (v : Value), ((xs : List Int).map wV)[j]? = some v → w24.cell? ((⟨w1.heap.size, 0, none⟩ : Addr).add j) = some v)] (by kernel_rfl) ⟨((List.length_map _).trans (by assumption)), bx30.whole, trivial⟩ (fun act44 f43 => ?_)
  clear f41
  refine At.call f43 27 #[.agg ((xs : List Int).map wV).toArray, .int .i64 (gI la (k))] (some 14) (by kernel_rfl) (with_any (s := xs) (n := gI la (k)) (by assumption)) ?_
  rintro e_ w45 ⟨rfl, he⟩
  refine ⟨_, rfl, _, rfl, fun act46 f47 => ?_⟩
  clear f43
  have g48 := gr_ext he
  have szw45 := g48.size
  have e49 := e25.gr g48 no_row
  clear e25
  have r50 := r28.gr g48 (fun _ h => by cases h)
  clear r28
  have bx51 := bx29.gr g48 (by simp)
  clear bx29
  have bx52 := bx30.gr g48 (by simp)
  clear bx30
  clear g48 he
  refine At.act f47 (storeBlk (t := 28) (b := w1.heap.size) (n := 4) (cs' := ((withW xs (gI la (k)) : List Int).map wV)) (by kernel_rfl) (by kernel_rfl) ((List.length_map _).trans (okLen (okW_with (by assumption)))) oneW_ ((show ((withW xs (gI la (k)) : List Int).map wV).length = 4 from ((List.length_map _).trans (okLen (okW_with (by assumption))))).trans (show ((xs : List Int).map wV).length = 4 from ((List.length_map _).trans (by assumption))).symm) bx52) ?_
  rintro d_ v_ w53 ⟨rfl, g54, bx55⟩
  refine ⟨_, rfl, fun act57 f56 => ?_⟩
  clear f47
  have szw53 := g54.size
  have e58 := e49.gr g54 (fun k h => by injection h; omega)
  clear e49
  have r59 := r50.gr g54 (fun k h => by injection h; omega)
  clear r50
  have bx60 := bx51.gr g54 (fun h => by injection h; omega)
  clear bx51
  clear bx52 g54
  refine At.done rfl ?_
  refine b_n ?_
  refine t_n ?_
  refine At.start ?_
  refine At.rd f56 2 [[.as_ (.int .i64 (k + 1))], []] [(8, .int .i64 (k + 1)), (15, .int .i64 (k + 1))] [((.int .i64 (IntKind.i64.wrap (k + 1)) : Value) = .int .i64 (k + 1))] (by kernel_rfl) ⟨(w64 (by omega) (by omega)), trivial⟩ (fun act62 f61 => ?_)
  clear f56
  refine At.done rfl ?_
  refine t_n ?_
  have f63 := f61.sub (r := [(8, .int .i64 (k + 1)), (7, .int .i64 (((la.length : Nat) : Int))), (6, .slice Aa la.length ca), (3, .pointer (some ⟨w1.heap.size, 0, none⟩)), (2, .pointer (some ⟨w.heap.size, 0, none⟩))]) ⟨rfl, rfl, rfl, rfl, rfl, trivial⟩
  exact ⟨_, (by omega), (k + 1), withW xs (gI la (k)), rfl, f63, e58, r59, bx60, bx55, (by omega), (by omega), (okW_with hok), (ofW_next hxs (by omega) (by omega)), (okW_with hok).1⟩
 ·have q64 := of_decide_eq_false h36
  refine wp_exit ?_
  refine t_e ?_
  refine t_e ?_
  refine b_e ?_
  refine t_n ?_
  refine wp_seq ?_
  refine At.start ?_
  refine At.rd f34 1 [[.cs ((xs : List Int).map wV)]] [(16, .agg ((xs : List Int).map wV).toArray)] [(((xs : List Int).map wV).length = 4), (∀ (j : Nat) (v : Value), ((xs : List Int).map wV)[j]? = some v → w24.cell? ((⟨w1.heap.size, 0, none⟩ : Addr).add j) = some v)] (by kernel_rfl) ⟨((List.length_map _).trans (by assumption)), bx30.whole, trivial⟩ (fun act66 f65 => ?_)
  clear f34
  refine At.act f65 (storeBlk (t := 28) (b := w.heap.size) (n := 4) (cs' := ((xs : List Int).map wV)) (by kernel_rfl) (by kernel_rfl) ((List.length_map _).trans (by assumption)) oneW_ ((show ((xs : List Int).map wV).length = 4 from ((List.length_map _).trans (by assumption))).trans (show ((List.replicate 4 (0 : Int) : List Int).map wV).length = 4 from (by simp only [List.length_map, List.length_set, List.length_replicate, List.length_cons, List.length_nil]; first | done | assumption | exact from_len _ | exact of_len _ | exact ofZ_len _ | exact (ofW_ok _).1 | exact (fullW_W _).1 | exact (okW_with (by assumption)).1 | exact (okW_less (by assumption)).1 | exact put_len (from_len _) | exact orD_len _ _ | exact andD_len _ _ | exact minusD_len _ _ | exact fullD_len _ | (refine okLen ?_; (repeat (first | assumption | exact ofW_ok _ | exact fullW_W _ | apply okW_with | apply okW_less | refine okW_orS ?_ ?_ | refine okW_andS ?_ ?_ | refine okW_minusS ?_ ?_)); done) | omega | rfl)).symm) bx29) ?_
  rintro d_ v_ w67 ⟨rfl, g68, bx69⟩
  refine ⟨_, rfl, fun act71 f70 => ?_⟩
  clear f65
  have szw67 := g68.size
  have e72 := e25.gr g68 (fun k h => by injection h; omega)
  clear e25
  have r73 := r28.gr g68 (fun k h => by injection h; omega)
  clear r28
  have bx74 := bx30.gr g68 (fun h => by injection h; omega)
  clear bx30
  clear bx29 g68
  refine At.done rfl ?_
  refine t_n ?_
  refine wp_ret ?_
  refine retB_ f70 (sl := 2) (cs := ((xs : List Int).map wV)) (m := 4) rfl (by kernel_rfl) (by kernel_rfl) ((List.length_map _).trans (by assumption)) bx69 ?_
  exact ⟨ret_map (by rw [hxs, List.take_of_length_le (by omega)]), e72⟩

end Go.Proofs.YtkpljmalbmcdfaaDoor
