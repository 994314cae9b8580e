/-
  A walk of a Go function, printed by a program of this repo. Conditions: what the theorems name.
-/
import Derived.Test.YtepekncgknlcjaaDoorWSets
set_option linter.unusedVariables false
set_option linter.unusedSimpArgs false
namespace Go.Proofs.YtepekncgknlcjaaDoor
open Go Go.RowKit

attribute [local irreducible] ofZ fromW wordsD ofD ofW lsD lenW lenN fullW withW lessW hasW hasD inW inD leastD putD onI tzI orS andS minusS orD andD minusD fullD emptyD
set_option maxHeartbeats 4000000 in
theorem shown01_any {w : World} (rT : RdT w 0 w.heap.size) :
    Calls Tryd.prog 12 #[] w fun e w' => e = .returned (.bool true) ∧ Ext w w' := by
 have hl2_ : ([2, 64] : List Int).length = 2 := rfl
 refine enter_ (args := []) Tryd.func12 rfl Tryd.ntmps12 (Nat.le_of_ble_eq_true rfl) (fun act0 f0 => ?_)
 have e0 := Ext.refl w
 refine wp_seq ?_
 refine At.start ?_
 refine At.rd f0 1 [[]] [(0, .bool false)] [] (by kernel_rfl) trivial (fun act2 f1 => ?_)
 clear f0
 refine At.done rfl ?_
 refine t_n ?_
 have f3 := f1.sub (r := []) trivial
 clear f1
 refine wp_seq ?_
 refine At.start ?_
 refine At.seq f3 1 [[]] [(3, .slice (some ⟨w.heap.size, 0, none⟩) 5 5)] (w.alloc (.cells #[.int .i64 (64), .int .i64 (2), .int .i64 (64), .int .i64 (-1), .int .i64 (256)] 3 (0, 0))) [] (by kernel_rfl) trivial (fun act7 w4 hw5 f6 => ?_)
 clear f3
 have g8 := gr_alloc hw5
 have szw4 := g8.size
 have e11 := e0.gr g8 no_row
 clear e0
 have r12 := rT.gr g8 (fun _ h => by cases h)
 clear rT
 have bx10 : Bx w4 (w.heap.size) [.int .i64 (64), .int .i64 (2), .int .i64 (64), .int .i64 (-1), .int .i64 (256)] 3 := Bx.new hw5
 have := bx10.lt
 clear g8 hw5
 refine At.call f6 14 #[.slice (some ⟨w.heap.size, 0, none⟩) 5 5] (some 4) (by kernel_rfl) ((of_any (la := ([64, 2, 64, -1, 256] : List Int)) (Bx.rdI (l := ([64, 2, 64, -1, 256] : List Int)) bx10 rfl (by decide))).mono (R' := fun e w' => e = .returned (.agg ((([4, 1, 0, 0] : List Int) : List Int).map wV).toArray) ∧ Ext _ w') (fun e_ w_ h_ => by rw [show (ofW ([64, 2, 64, -1, 256] : List Int) : List Int) = ([4, 1, 0, 0] : List Int) from by decide +kernel] at h_; exact h_)) ?_
 rintro e_ w13 ⟨rfl, he⟩
 refine ⟨_, rfl, _, rfl, fun act14 f15 => ?_⟩
 clear f6
 have g16 := gr_ext he
 have szw13 := g16.size
 have e17 := e11.gr g16 no_row
 clear e11
 have r18 := r12.gr g16 (fun _ h => by cases h)
 clear r12
 have bx19 := bx10.gr g16 (by simp)
 clear bx10
 clear g16 he
 refine At.seq f15 1 [[]] [(1, .pointer (some ⟨w13.heap.size, 0, none⟩))] (w13.alloc (.cells ((List.replicate 4 (0 : Int) : List Int).map wV).toArray 26 (0, 0))) [] (by kernel_rfl) trivial (fun act23 w20 hw21 f22 => ?_)
 clear f15
 have g24 := gr_alloc hw21
 have szw20 := g24.size
 have e26 := e17.gr g24 no_row
 clear e17
 have r27 := r18.gr g24 (fun _ h => by cases h)
 clear r18
 have bx28 := bx19.gr g24 (by simp)
 clear bx19
 have bx29 : Bx w20 (w13.heap.size) ((List.replicate 4 (0 : Int) : List Int).map wV) 26 := Bx.new hw21
 have := bx29.lt
 clear g24 hw21
 refine At.act f22 (storeBlk (t := 26) (b := w13.heap.size) (n := 4) (cs' := ((([4, 1, 0, 0] : List Int) : List Int).map wV)) (by kernel_rfl) (by kernel_rfl) (by simp only [List.length_map, List.length_set, List.length_replicate, List.length_cons, List.length_nil]; first | done | assumption | exact from_len _ | exact of_len _ | exact ofZ_len _ | exact (ofW_ok _).1 | exact (fullW_W _).1 | exact (okW_with (by assumption)).1 | exact (okW_less (by assumption)).1 | exact put_len (from_len _) | exact orD_len _ _ | exact andD_len _ _ | exact minusD_len _ _ | exact fullD_len _ | (refine okLen ?_; (repeat (first | assumption | exact ofW_ok _ | exact fullW_W _ | apply okW_with | apply okW_less | refine okW_orS ?_ ?_ | refine okW_andS ?_ ?_ | refine okW_minusS ?_ ?_)); done) | omega | rfl) oneW_ ((show ((([4, 1, 0, 0] : List Int) : List Int).map wV).length = 4 from (by simp only [List.length_map, List.length_set, List.length_replicate, List.length_cons, List.length_nil]; first | done | assumption | exact from_len _ | exact of_len _ | exact ofZ_len _ | exact (ofW_ok _).1 | exact (fullW_W _).1 | exact (okW_with (by assumption)).1 | exact (okW_less (by assumption)).1 | exact put_len (from_len _) | exact orD_len _ _ | exact andD_len _ _ | exact minusD_len _ _ | exact fullD_len _ | (refine okLen ?_; (repeat (first | assumption | exact ofW_ok _ | exact fullW_W _ | apply okW_with | apply okW_less | refine okW_orS ?_ ?_ | refine okW_andS ?_ ?_ | refine okW_minusS ?_ ?_)); done) | omega | rfl)).trans (show ((List.replicate 4 (0 : Int) : List Int).map wV).length = 4 from (by simp only [List.length_map, List.length_set, List.length_replicate, List.length_cons, List.length_nil]; first | done | assumption | exact from_len _ | exact of_len _ | exact ofZ_len _ | exact (ofW_ok _).1 | exact (fullW_W _).1 | exact (okW_with (by assumption)).1 | exact (okW_less (by assumption)).1 | exact put_len (from_len _) | exact orD_len _ _ | exact andD_len _ _ | exact minusD_len _ _ | exact fullD_len _ | (refine okLen ?_; (repeat (first | assumption | exact ofW_ok _ | exact fullW_W _ | apply okW_with | apply okW_less | refine okW_orS ?_ ?_ | refine okW_andS ?_ ?_ | refine okW_minusS ?_ ?_)); done) | omega | rfl)).symm) bx29) ?_
 rintro d_ v_ w30 ⟨rfl, g31, bx32⟩
 refine ⟨_, rfl, fun act34 f33 => ?_⟩
 clear f22
 have szw30 := g31.size
 have e35 := e26.gr g31 (fun k h => by injection h; omega)
 clear e26
 have r36 := r27.gr g31 (fun k h => by injection h; omega)
 clear r27
 have bx37 := bx28.gr g31 (fun h => by injection h; omega)
 clear bx28
 clear bx29 g31
 refine At.done rfl ?_
 refine t_n ?_
 have f38 := f33.sub (r := [(1, .pointer (some ⟨w13.heap.size, 0, none⟩))]) ⟨rfl, trivial⟩
 clear f33
 refine wp_seq ?_
 refine At.start ?_
 refine At.rd f38 1 [[.cs ((([4, 1, 0, 0] : List Int) : List Int).map wV)]] [(5, .agg ((([4, 1, 0, 0] : List Int) : List Int).map wV).toArray)] [(((([4, 1, 0, 0] : List Int) : List Int).map wV).length = 4), (∀ (j : Nat) (v : Value), ((([4, 1, 0, 0] : List Int) : List Int).map wV)[j]? = some v → w30.cell? ((⟨w13.heap.size, 0, none⟩ : Addr).add j) = some v)] (by kernel_rfl) ⟨(by simp only [List.length_map, List.length_set, List.length_replicate, List.length_cons, List.length_nil]; first | done | assumption | exact from_len _ | exact of_len _ | exact ofZ_len _ | exact (ofW_ok _).1 | exact (fullW_W _).1 | exact (okW_with (by assumption)).1 | exact (okW_less (by assumption)).1 | exact put_len (from_len _) | exact orD_len _ _ | exact andD_len _ _ | exact minusD_len _ _ | exact fullD_len _ | (refine okLen ?_; (repeat (first | assumption | exact ofW_ok _ | exact fullW_W _ | apply okW_with | apply okW_less | refine okW_orS ?_ ?_ | refine okW_andS ?_ ?_ | refine okW_minusS ?_ ?_)); done) | omega | rfl), bx32.whole, trivial⟩ (fun act40 f39 => ?_)
 clear f38
 refine At.call f39 19 #[.agg ((([4, 1, 0, 0] : List Int) : List Int).map wV).toArray] (some 6) (by kernel_rfl) ((list_any (s := ([4, 1, 0, 0] : List Int)) (by repeat (first | assumption | exact ofW_ok _ | exact fullW_W _ | exact wordsD_W _ | exact okW_0 | exact okW_00 | apply okW_orS | apply okW_andS | apply okW_minusS | apply okW_with | apply okW_less | apply okW_or | apply okW_and | apply okW_minus | (apply okW_lit <;> exact ⟨by omega, by omega⟩))) (r36.wide (Nat.zero_le _) (by omega))).mono (fun e_ w_ h_ => by rw [show ((lsD (fromW ([4, 1, 0, 0] : List Int)) 256) : List Int) = ([2, 64] : List Int) from by decide +kernel] at h_; exact h_)) ?_
 rintro e_ w45 ⟨A41, c42, rfl, he, ow43⟩
 have := ls_len (fromW ([4, 1, 0, 0] : List Int)) 256
 refine ⟨_, rfl, _, rfl, fun act46 f47 => ?_⟩
 clear f39
 have g48 := gr_ext he
 have szw45 := g48.size
 have e49 := e35.gr g48 no_row
 clear e35
 have r50 := r36.gr g48 (fun _ h => by cases h)
 clear r36
 have bx51 := bx37.gr g48 (by simp)
 clear bx37
 have bx52 := bx32.gr g48 (by simp)
 clear bx32
 clear g48 he
 refine At.rd f47 1 [[]] [(2, .slice A41 (([2, 64] : List Int).length) c42)] [] (by kernel_rfl) trivial (fun act54 f53 => ?_)
 clear f47
 refine At.done rfl ?_
 refine t_n ?_
 have f55 := f53.sub (r := [(2, .slice A41 (([2, 64] : List Int).length) c42), (1, .pointer (some ⟨w13.heap.size, 0, none⟩))]) ⟨rfl, rfl, trivial⟩
 clear f53
 refine wp_seq ?_
 refine At.start ?_
 refine At.call f55 13 #[.int .i64 (3)] (some 7) (by kernel_rfl) ((full_any (n := 3) (by omega)).mono (R' := fun e w' => e = .returned (.agg ((([7, 0, 0, 0] : List Int) : List Int).map wV).toArray) ∧ Ext _ w') (fun e_ w_ h_ => by rw [show (fullW 3 : List Int) = ([7, 0, 0, 0] : List Int) from by decide +kernel] at h_; exact h_)) ?_
 rintro e_ w56 ⟨rfl, he⟩
 refine ⟨_, rfl, _, rfl, fun act57 f58 => ?_⟩
 clear f55
 have g59 := gr_ext he
 have szw56 := g59.size
 have e60 := e49.gr g59 no_row
 clear e49
 have r61 := r50.gr g59 (fun _ h => by cases h)
 clear r50
 have bx62 := bx51.gr g59 (by simp)
 clear bx51
 have bx63 := bx52.gr g59 (by simp)
 clear bx52
 have ow64 := ow43.gr g59 (fun _ _ h => by cases h)
 clear ow43
 clear g59 he
 obtain ⟨ad65, hA66, hb69, hc68, hc67⟩ := ow64.get (0) (by omega) (by omega) (sz := 1) rfl
 obtain ⟨ad70, hA71, hb74, hc73, hc72⟩ := ow64.get (1) (by omega) (by omega) (sz := 1) rfl
 refine At.rd f58 26 [[], [.cs [wV (gI ([7, 0, 0, 0] : List Int) 0), wV (gI ([7, 0, 0, 0] : List Int) 1), wV (gI ([7, 0, 0, 0] : List Int) 2), wV (gI ([7, 0, 0, 0] : List Int) 3)], .cs [wV (gI ([7, 0, 0, 0]) 0), wV (gI ([7, 0, 0, 0]) 1), wV (gI ([7, 0, 0, 0]) 2), wV (gI ([7, 0, 0, 0]) 3)], .as_ (.bool true)], [], [.cs ((([4, 1, 0, 0] : List Int) : List Int).map wV)], [], [.cs [wV (gI ([4, 1, 0, 0] : List Int) 0), wV (gI ([4, 1, 0, 0] : List Int) 1), wV (gI ([4, 1, 0, 0] : List Int) 2), wV (gI ([4, 1, 0, 0] : List Int) 3)], .cs [wV (gI ([4, 1, 0, 0]) 0), wV (gI ([4, 1, 0, 0]) 1), wV (gI ([4, 1, 0, 0]) 2), wV (gI ([4, 1, 0, 0]) 3)], .as_ (.bool true)], [], [], [], [], [.as_ (.bool true)], [], [], [], [.ad ad65], [.ld (.int .i64 (2))], [.as_ (.bool true)], [], [], [], [.ad ad70], [.ld (.int .i64 (64))], [.as_ (.bool true)], [], [], [.cs ((([4, 1, 0, 0] : List Int) : List Int).map wV)]] [(33, .agg ((([4, 1, 0, 0] : List Int) : List Int).map wV).toArray), (32, .bool true), (31, .bool true), (30, .bool true), (29, .int .i64 (64)), (28, .pointer (some (ad70.add ((1 : Int).toNat * 1)))), (27, .slice A41 (([2, 64] : List Int).length) c42), (26, .bool true), (25, .bool true), (24, .bool true), (23, .int .i64 (2)), (22, .pointer (some (ad65.add ((0 : Int).toNat * 1)))), (21, .slice A41 (([2, 64] : List Int).length) c42), (20, .bool true), (19, .bool true), (18, .bool true), (17, .int .i64 (((([2, 64] : List Int).length : Nat) : Int))), (16, .slice A41 (([2, 64] : List Int).length) c42), (15, .bool true), (14, .bool true), (13, .bool true), (12, .agg (([4, 1, 0, 0] : List Int).map wV).toArray), (11, .agg ((([4, 1, 0, 0] : List Int) : List Int).map wV).toArray), (10, .bool true), (9, .bool true), (8, .agg (([7, 0, 0, 0] : List Int).map wV).toArray)] [(((([7, 0, 0, 0] : List Int) : List Int).map wV).toArray = ([wV (gI ([7, 0, 0, 0] : List Int) 0), wV (gI ([7, 0, 0, 0] : List Int) 1), wV (gI ([7, 0, 0, 0] : List Int) 2), wV (gI ([7, 0, 0, 0] : List Int) 3)] : List Value).toArray), ((([7, 0, 0, 0] : List Int).map wV).toArray = ([wV (gI ([7, 0, 0, 0]) 0), wV (gI ([7, 0, 0, 0]) 1), wV (gI ([7, 0, 0, 0]) 2), wV (gI ([7, 0, 0, 0]) 3)] : List Value).toArray), ((.bool ((((gI ([7, 0, 0, 0] : List Int) 0 : Int) == gI ([7, 0, 0, 0]) 0) && (((gI ([7, 0, 0, 0] : List Int) 1 : Int) == gI ([7, 0, 0, 0]) 1) && (((gI ([7, 0, 0, 0] : List Int) 2 : Int) == gI ([7, 0, 0, 0]) 2) && (((gI ([7, 0, 0, 0] : List Int) 3 : Int) == gI ([7, 0, 0, 0]) 3) && true))))) : Value) = .bool true), (((([4, 1, 0, 0] : List Int) : List Int).map wV).length = 4), (∀ (j : Nat) (v : Value), ((([4, 1, 0, 0] : List Int) : List Int).map wV)[j]? = some v → w56.cell? ((⟨w13.heap.size, 0, none⟩ : Addr).add j) = some v), (((([4, 1, 0, 0] : List Int) : List Int).map wV).toArray = ([wV (gI ([4, 1, 0, 0] : List Int) 0), wV (gI ([4, 1, 0, 0] : List Int) 1), wV (gI ([4, 1, 0, 0] : List Int) 2), wV (gI ([4, 1, 0, 0] : List Int) 3)] : List Value).toArray), ((([4, 1, 0, 0] : List Int).map wV).toArray = ([wV (gI ([4, 1, 0, 0]) 0), wV (gI ([4, 1, 0, 0]) 1), wV (gI ([4, 1, 0, 0]) 2), wV (gI ([4, 1, 0, 0]) 3)] : List Value).toArray), ((.bool ((((gI ([4, 1, 0, 0] : List Int) 0 : Int) == gI ([4, 1, 0, 0]) 0) && (((gI ([4, 1, 0, 0] : List Int) 1 : Int) == gI ([4, 1, 0, 0]) 1) && (((gI ([4, 1, 0, 0] : List Int) 2 : Int) == gI ([4, 1, 0, 0]) 2) && (((gI ([4, 1, 0, 0] : List Int) 3 : Int) == gI ([4, 1, 0, 0]) 3) && true))))) : Value) = .bool true), ((.bool ((((([2, 64] : List Int).length : Nat) : Int) : Int) == 2) : Value) = .bool true), (A41 = some ad65), (0 ≤ (0 : Int)), ((0 : Int) < (([2, 64] : List Int).length : Nat)), (w56.cell? (ad65.add ((0 : Int).toNat * 1)) = some (.int .i64 (2))), ((.bool ((2 : Int) == 2) : Value) = .bool true), (A41 = some ad70), (0 ≤ (1 : Int)), ((1 : Int) < (([2, 64] : List Int).length : Nat)), (w56.cell? (ad70.add ((1 : Int).toNat * 1)) = some (.int .i64 (64))), ((.bool ((64 : Int) == 64) : Value) = .bool true), (((([4, 1, 0, 0] : List Int) : List Int).map wV).length = 4), (∀ (j : Nat) (v : Value), ((([4, 1, 0, 0] : List Int) : List Int).map wV)[j]? = some v → w56.cell? ((⟨w13.heap.size, 0, none⟩ : Addr).add j) = some v)] (by kernel_rfl) ⟨(map4 (by first | assumption | exact (okW_with (by assumption)).1 | exact (okW_less (by assumption)).1 | exact (ofW_ok _).1 | exact (fullW_W _).1 | (refine okLen ?_; (repeat (first | assumption | exact ofW_ok _ | exact fullW_W _ | apply okW_with | apply okW_less | refine okW_orS ?_ ?_ | refine okW_andS ?_ ?_ | refine okW_minusS ?_ ?_)); done) | rfl | omega | (simp only [List.length_set]; first | done | assumption | omega) | exact lenW4 _ (by assumption))), (map4 (by first | assumption | exact (okW_with (by assumption)).1 | exact (okW_less (by assumption)).1 | exact (ofW_ok _).1 | exact (fullW_W _).1 | (refine okLen ?_; (repeat (first | assumption | exact ofW_ok _ | exact fullW_W _ | apply okW_with | apply okW_less | refine okW_orS ?_ ?_ | refine okW_andS ?_ ?_ | refine okW_minusS ?_ ?_)); done) | rfl | omega | (simp only [List.length_set]; first | done | assumption | omega) | exact lenW4 _ (by assumption))), (Eq.trans (b := (.bool (decide ((([7, 0, 0, 0] : List Int) : List Int) = ([7, 0, 0, 0]))) : Value)) (congrArg (fun b => Value.bool b) (w4_eq (by first | assumption | exact (okW_with (by assumption)).1 | exact (okW_less (by assumption)).1 | exact (ofW_ok _).1 | exact (fullW_W _).1 | (refine okLen ?_; (repeat (first | assumption | exact ofW_ok _ | exact fullW_W _ | apply okW_with | apply okW_less | refine okW_orS ?_ ?_ | refine okW_andS ?_ ?_ | refine okW_minusS ?_ ?_)); done) | rfl | omega | (simp only [List.length_set]; first | done | assumption | omega) | exact lenW4 _ (by assumption)) (by first | assumption | exact (okW_with (by assumption)).1 | exact (okW_less (by assumption)).1 | exact (ofW_ok _).1 | exact (fullW_W _).1 | (refine okLen ?_; (repeat (first | assumption | exact ofW_ok _ | exact fullW_W _ | apply okW_with | apply okW_less | refine okW_orS ?_ ?_ | refine okW_andS ?_ ?_ | refine okW_minusS ?_ ?_)); done) | rfl | omega | (simp only [List.length_set]; first | done | assumption | omega) | exact lenW4 _ (by assumption)))) (congrArg Value.bool (by decide +kernel))), (by simp only [List.length_map, List.length_set, List.length_replicate, List.length_cons, List.length_nil]; first | done | assumption | exact from_len _ | exact of_len _ | exact ofZ_len _ | exact (ofW_ok _).1 | exact (fullW_W _).1 | exact (okW_with (by assumption)).1 | exact (okW_less (by assumption)).1 | exact put_len (from_len _) | exact orD_len _ _ | exact andD_len _ _ | exact minusD_len _ _ | exact fullD_len _ | (refine okLen ?_; (repeat (first | assumption | exact ofW_ok _ | exact fullW_W _ | apply okW_with | apply okW_less | refine okW_orS ?_ ?_ | refine okW_andS ?_ ?_ | refine okW_minusS ?_ ?_)); done) | omega | rfl), bx63.whole, (map4 (by first | assumption | exact (okW_with (by assumption)).1 | exact (okW_less (by assumption)).1 | exact (ofW_ok _).1 | exact (fullW_W _).1 | (refine okLen ?_; (repeat (first | assumption | exact ofW_ok _ | exact fullW_W _ | apply okW_with | apply okW_less | refine okW_orS ?_ ?_ | refine okW_andS ?_ ?_ | refine okW_minusS ?_ ?_)); done) | rfl | omega | (simp only [List.length_set]; first | done | assumption | omega) | exact lenW4 _ (by assumption))), (map4 (by first | assumption | exact (okW_with (by assumption)).1 | exact (okW_less (by assumption)).1 | exact (ofW_ok _).1 | exact (fullW_W _).1 | (refine okLen ?_; (repeat (first | assumption | exact ofW_ok _ | exact fullW_W _ | apply okW_with | apply okW_less | refine okW_orS ?_ ?_ | refine okW_andS ?_ ?_ | refine okW_minusS ?_ ?_)); done) | rfl | omega | (simp only [List.length_set]; first | done | assumption | omega) | exact lenW4 _ (by assumption))), (Eq.trans (b := (.bool (decide ((([4, 1, 0, 0] : List Int) : List Int) = ([4, 1, 0, 0]))) : Value)) (congrArg (fun b => Value.bool b) (w4_eq (by first | assumption | exact (okW_with (by assumption)).1 | exact (okW_less (by assumption)).1 | exact (ofW_ok _).1 | exact (fullW_W _).1 | (refine okLen ?_; (repeat (first | assumption | exact ofW_ok _ | exact fullW_W _ | apply okW_with | apply okW_less | refine okW_orS ?_ ?_ | refine okW_andS ?_ ?_ | refine okW_minusS ?_ ?_)); done) | rfl | omega | (simp only [List.length_set]; first | done | assumption | omega) | exact lenW4 _ (by assumption)) (by first | assumption | exact (okW_with (by assumption)).1 | exact (okW_less (by assumption)).1 | exact (ofW_ok _).1 | exact (fullW_W _).1 | (refine okLen ?_; (repeat (first | assumption | exact ofW_ok _ | exact fullW_W _ | apply okW_with | apply okW_less | refine okW_orS ?_ ?_ | refine okW_andS ?_ ?_ | refine okW_minusS ?_ ?_)); done) | rfl | omega | (simp only [List.length_set]; first | done | assumption | omega) | exact lenW4 _ (by assumption)))) (congrArg Value.bool (by decide +kernel))), (congrArg Value.bool (by decide +kernel)), hA66, (by omega), (by omega), hc68, (by kernel_rfl), hA71, (by omega), (by omega), hc73, (by kernel_rfl), (by simp only [List.length_map, List.length_set, List.length_replicate, List.length_cons, List.length_nil]; first | done | assumption | exact from_len _ | exact of_len _ | exact ofZ_len _ | exact (ofW_ok _).1 | exact (fullW_W _).1 | exact (okW_with (by assumption)).1 | exact (okW_less (by assumption)).1 | exact put_len (from_len _) | exact orD_len _ _ | exact andD_len _ _ | exact minusD_len _ _ | exact fullD_len _ | (refine okLen ?_; (repeat (first | assumption | exact ofW_ok _ | exact fullW_W _ | apply okW_with | apply okW_less | refine okW_orS ?_ ?_ | refine okW_andS ?_ ?_ | refine okW_minusS ?_ ?_)); done) | omega | rfl), bx63.whole, trivial⟩ (fun act76 f75 => ?_)
 clear f58
 refine At.call f75 20 #[.agg ((([4, 1, 0, 0] : List Int) : List Int).map wV).toArray] (some 34) (by kernel_rfl) ((len_any (s := ([4, 1, 0, 0] : List Int)) (by repeat (first | assumption | exact ofW_ok _ | exact fullW_W _ | exact wordsD_W _ | exact okW_0 | exact okW_00 | apply okW_orS | apply okW_andS | apply okW_minusS | apply okW_with | apply okW_less | apply okW_or | apply okW_and | apply okW_minus | (apply okW_lit <;> exact ⟨by omega, by omega⟩)))).mono (R' := fun e w' => e = .returned (.int .i64 (2)) ∧ Ext _ w') (fun e_ w_ h_ => by rw [show (lenW ([4, 1, 0, 0] : List Int) : Int) = 2 from by decide +kernel] at h_; exact h_)) ?_
 rintro e_ w77 ⟨rfl, he⟩
 have := lenW_le ([4, 1, 0, 0] : List Int)
 refine ⟨_, rfl, _, rfl, fun act78 f79 => ?_⟩
 clear f75
 have g80 := gr_ext he
 have szw77 := g80.size
 have e81 := e60.gr g80 no_row
 clear e60
 have r82 := r61.gr g80 (fun _ h => by cases h)
 clear r61
 have bx83 := bx62.gr g80 (by simp)
 clear bx62
 have bx84 := bx63.gr g80 (by simp)
 clear bx63
 have ow85 := ow64.gr g80 (fun _ _ h => by cases h)
 clear ow64
 clear g80 he
 refine At.rd f79 4 [[.as_ (.bool true)], [], [], [.cs ((([4, 1, 0, 0] : List Int) : List Int).map wV)]] [(38, .agg ((([4, 1, 0, 0] : List Int) : List Int).map wV).toArray), (37, .bool true), (36, .bool true), (35, .bool true)] [((.bool ((2 : Int) == 2) : Value) = .bool true), (((([4, 1, 0, 0] : List Int) : List Int).map wV).length = 4), (∀ (j : Nat) (v : Value), ((([4, 1, 0, 0] : List Int) : List Int).map wV)[j]? = some v → w77.cell? ((⟨w13.heap.size, 0, none⟩ : Addr).add j) = some v)] (by kernel_rfl) ⟨(by kernel_rfl), (by simp only [List.length_map, List.length_set, List.length_replicate, List.length_cons, List.length_nil]; first | done | assumption | exact from_len _ | exact of_len _ | exact ofZ_len _ | exact (ofW_ok _).1 | exact (fullW_W _).1 | exact (okW_with (by assumption)).1 | exact (okW_less (by assumption)).1 | exact put_len (from_len _) | exact orD_len _ _ | exact andD_len _ _ | exact minusD_len _ _ | exact fullD_len _ | (refine okLen ?_; (repeat (first | assumption | exact ofW_ok _ | exact fullW_W _ | apply okW_with | apply okW_less | refine okW_orS ?_ ?_ | refine okW_andS ?_ ?_ | refine okW_minusS ?_ ?_)); done) | omega | rfl), bx84.whole, trivial⟩ (fun act87 f86 => ?_)
 clear f79
 refine At.call f86 22 #[.agg ((([4, 1, 0, 0] : List Int) : List Int).map wV).toArray] (some 39) (by kernel_rfl) ((least_any (s := ([4, 1, 0, 0] : List Int)) (by repeat (first | assumption | exact ofW_ok _ | exact fullW_W _ | exact wordsD_W _ | exact okW_0 | exact okW_00 | apply okW_orS | apply okW_andS | apply okW_minusS | apply okW_with | apply okW_less | apply okW_or | apply okW_and | apply okW_minus | (apply okW_lit <;> exact ⟨by omega, by omega⟩))) (r82.wide (Nat.zero_le _) (by omega))).mono (R' := fun e w' => e = .returned (.int .i64 (2)) ∧ Ext _ w') (fun e_ w_ h_ => by rw [show (leastD (fromW ([4, 1, 0, 0] : List Int)) : Int) = 2 from by decide +kernel] at h_; exact h_)) ?_
 rintro e_ w88 ⟨rfl, he⟩
 have := leastD_b (fromW ([4, 1, 0, 0] : List Int))
 refine ⟨_, rfl, _, rfl, fun act89 f90 => ?_⟩
 clear f86
 have g91 := gr_ext he
 have szw88 := g91.size
 have e92 := e81.gr g91 no_row
 clear e81
 have r93 := r82.gr g91 (fun _ h => by cases h)
 clear r82
 have bx94 := bx83.gr g91 (by simp)
 clear bx83
 have bx95 := bx84.gr g91 (by simp)
 clear bx84
 have ow96 := ow85.gr g91 (fun _ _ h => by cases h)
 clear ow85
 clear g91 he
 refine At.rd f90 4 [[.as_ (.bool true)], [], [], [.cs ((([4, 1, 0, 0] : List Int) : List Int).map wV)]] [(43, .agg ((([4, 1, 0, 0] : List Int) : List Int).map wV).toArray), (42, .bool true), (41, .bool true), (40, .bool true)] [((.bool ((2 : Int) == 2) : Value) = .bool true), (((([4, 1, 0, 0] : List Int) : List Int).map wV).length = 4), (∀ (j : Nat) (v : Value), ((([4, 1, 0, 0] : List Int) : List Int).map wV)[j]? = some v → w88.cell? ((⟨w13.heap.size, 0, none⟩ : Addr).add j) = some v)] (by kernel_rfl) ⟨(by kernel_rfl), (by simp only [List.length_map, List.length_set, List.length_replicate, List.length_cons, List.length_nil]; first | done | assumption | exact from_len _ | exact of_len _ | exact ofZ_len _ | exact (ofW_ok _).1 | exact (fullW_W _).1 | exact (okW_with (by assumption)).1 | exact (okW_less (by assumption)).1 | exact put_len (from_len _) | exact orD_len _ _ | exact andD_len _ _ | exact minusD_len _ _ | exact fullD_len _ | (refine okLen ?_; (repeat (first | assumption | exact ofW_ok _ | exact fullW_W _ | apply okW_with | apply okW_less | refine okW_orS ?_ ?_ | refine okW_andS ?_ ?_ | refine okW_minusS ?_ ?_)); done) | omega | rfl), bx95.whole, trivial⟩ (fun act98 f97 => ?_)
 clear f90
 refine At.call f97 21 #[.agg ((([4, 1, 0, 0] : List Int) : List Int).map wV).toArray, .int .i64 (64)] (some 44) (by kernel_rfl) ((has_any (s := ([4, 1, 0, 0] : List Int)) (n := 64) (by repeat (first | assumption | exact ofW_ok _ | exact fullW_W _ | exact wordsD_W _ | exact okW_0 | exact okW_00 | apply okW_orS | apply okW_andS | apply okW_minusS | apply okW_with | apply okW_less | apply okW_or | apply okW_and | apply okW_minus | (apply okW_lit <;> exact ⟨by omega, by omega⟩)))).mono (R' := fun e w' => e = .returned (.bool true) ∧ Ext _ w') (fun e_ w_ h_ => by rw [show (hasW ([4, 1, 0, 0] : List Int) 64 : Bool) = true from by decide +kernel] at h_; exact h_)) ?_
 rintro e_ w99 ⟨rfl, he⟩
 refine ⟨_, rfl, _, rfl, fun act100 f101 => ?_⟩
 clear f97
 have g102 := gr_ext he
 have szw99 := g102.size
 have e103 := e92.gr g102 no_row
 clear e92
 have r104 := r93.gr g102 (fun _ h => by cases h)
 clear r93
 have bx105 := bx94.gr g102 (by simp)
 clear bx94
 have bx106 := bx95.gr g102 (by simp)
 clear bx95
 have ow107 := ow96.gr g102 (fun _ _ h => by cases h)
 clear ow96
 clear g102 he
 refine At.rd f101 3 [[], [], [.cs ((([4, 1, 0, 0] : List Int) : List Int).map wV)]] [(47, .agg ((([4, 1, 0, 0] : List Int) : List Int).map wV).toArray), (46, .bool true), (45, .bool true)] [(((([4, 1, 0, 0] : List Int) : List Int).map wV).length = 4), (∀ (j : Nat) (v : Value), ((([4, 1, 0, 0] : List Int) : List Int).map wV)[j]? = some v → w99.cell? ((⟨w13.heap.size, 0, none⟩ : Addr).add j) = some v)] (by kernel_rfl) ⟨(by simp only [List.length_map, List.length_set, List.length_replicate, List.length_cons, List.length_nil]; first | done | assumption | exact from_len _ | exact of_len _ | exact ofZ_len _ | exact (ofW_ok _).1 | exact (fullW_W _).1 | exact (okW_with (by assumption)).1 | exact (okW_less (by assumption)).1 | exact put_len (from_len _) | exact orD_len _ _ | exact andD_len _ _ | exact minusD_len _ _ | exact fullD_len _ | (refine okLen ?_; (repeat (first | assumption | exact ofW_ok _ | exact fullW_W _ | apply okW_with | apply okW_less | refine okW_orS ?_ ?_ | refine okW_andS ?_ ?_ | refine okW_minusS ?_ ?_)); done) | omega | rfl), bx106.whole, trivial⟩ (fun act109 f108 => ?_)
 clear f101
 refine At.call f108 21 #[.agg ((([4, 1, 0, 0] : List Int) : List Int).map wV).toArray, .int .i64 (3)] (some 48) (by kernel_rfl) ((has_any (s := ([4, 1, 0, 0] : List Int)) (n := 3) (by repeat (first | assumption | exact ofW_ok _ | exact fullW_W _ | exact wordsD_W _ | exact okW_0 | exact okW_00 | apply okW_orS | apply okW_andS | apply okW_minusS | apply okW_with | apply okW_less | apply okW_or | apply okW_and | apply okW_minus | (apply okW_lit <;> exact ⟨by omega, by omega⟩)))).mono (R' := fun e w' => e = .returned (.bool false) ∧ Ext _ w') (fun e_ w_ h_ => by rw [show (hasW ([4, 1, 0, 0] : List Int) 3 : Bool) = false from by decide +kernel] at h_; exact h_)) ?_
 rintro e_ w110 ⟨rfl, he⟩
 refine ⟨_, rfl, _, rfl, fun act111 f112 => ?_⟩
 clear f108
 have g113 := gr_ext he
 have szw110 := g113.size
 have e114 := e103.gr g113 no_row
 clear e103
 have r115 := r104.gr g113 (fun _ h => by cases h)
 clear r104
 have bx116 := bx105.gr g113 (by simp)
 clear bx105
 have bx117 := bx106.gr g113 (by simp)
 clear bx106
 have ow118 := ow107.gr g113 (fun _ _ h => by cases h)
 clear ow107
 clear g113 he
 refine At.rd f112 4 [[], [], [], [.cs ((([4, 1, 0, 0] : List Int) : List Int).map wV)]] [(52, .agg ((([4, 1, 0, 0] : List Int) : List Int).map wV).toArray), (51, .bool true), (50, .bool true), (49, .bool true)] [(((([4, 1, 0, 0] : List Int) : List Int).map wV).length = 4), (∀ (j : Nat) (v : Value), ((([4, 1, 0, 0] : List Int) : List Int).map wV)[j]? = some v → w110.cell? ((⟨w13.heap.size, 0, none⟩ : Addr).add j) = some v)] (by kernel_rfl) ⟨(by simp only [List.length_map, List.length_set, List.length_replicate, List.length_cons, List.length_nil]; first | done | assumption | exact from_len _ | exact of_len _ | exact ofZ_len _ | exact (ofW_ok _).1 | exact (fullW_W _).1 | exact (okW_with (by assumption)).1 | exact (okW_less (by assumption)).1 | exact put_len (from_len _) | exact orD_len _ _ | exact andD_len _ _ | exact minusD_len _ _ | exact fullD_len _ | (refine okLen ?_; (repeat (first | assumption | exact ofW_ok _ | exact fullW_W _ | apply okW_with | apply okW_less | refine okW_orS ?_ ?_ | refine okW_andS ?_ ?_ | refine okW_minusS ?_ ?_)); done) | omega | rfl), bx117.whole, trivial⟩ (fun act120 f119 => ?_)
 clear f112
 refine At.call f119 31 #[.agg ((([4, 1, 0, 0] : List Int) : List Int).map wV).toArray, .int .i64 (0)] (some 53) (by kernel_rfl) ((with_any (s := ([4, 1, 0, 0] : List Int)) (n := 0) (by repeat (first | assumption | exact ofW_ok _ | exact fullW_W _ | exact wordsD_W _ | exact okW_0 | exact okW_00 | apply okW_orS | apply okW_andS | apply okW_minusS | apply okW_with | apply okW_less | apply okW_or | apply okW_and | apply okW_minus | (apply okW_lit <;> exact ⟨by omega, by omega⟩)))).mono (R' := fun e w' => e = .returned (.agg ((([5, 1, 0, 0] : List Int) : List Int).map wV).toArray) ∧ Ext _ w') (fun e_ w_ h_ => by rw [show (withW ([4, 1, 0, 0] : List Int) 0 : List Int) = ([5, 1, 0, 0] : List Int) from by decide +kernel] at h_; exact h_)) ?_
 rintro e_ w121 ⟨rfl, he⟩
 refine ⟨_, rfl, _, rfl, fun act122 f123 => ?_⟩
 clear f119
 have g124 := gr_ext he
 have szw121 := g124.size
 have e125 := e114.gr g124 no_row
 clear e114
 have r126 := r115.gr g124 (fun _ h => by cases h)
 clear r115
 have bx127 := bx116.gr g124 (by simp)
 clear bx116
 have bx128 := bx117.gr g124 (by simp)
 clear bx117
 have ow129 := ow118.gr g124 (fun _ _ h => by cases h)
 clear ow118
 clear g124 he
 refine At.call f123 30 #[.agg ((([5, 1, 0, 0] : List Int) : List Int).map wV).toArray, .int .i64 (2)] (some 54) (by kernel_rfl) ((less_any (s := ([5, 1, 0, 0] : List Int)) (n := 2) (by repeat (first | assumption | exact ofW_ok _ | exact fullW_W _ | exact wordsD_W _ | exact okW_0 | exact okW_00 | apply okW_orS | apply okW_andS | apply okW_minusS | apply okW_with | apply okW_less | apply okW_or | apply okW_and | apply okW_minus | (apply okW_lit <;> exact ⟨by omega, by omega⟩)))).mono (R' := fun e w' => e = .returned (.agg ((([1, 1, 0, 0] : List Int) : List Int).map wV).toArray) ∧ Ext _ w') (fun e_ w_ h_ => by rw [show (lessW ([5, 1, 0, 0] : List Int) 2 : List Int) = ([1, 1, 0, 0] : List Int) from by decide +kernel] at h_; exact h_)) ?_
 rintro e_ w130 ⟨rfl, he⟩
 refine ⟨_, rfl, _, rfl, fun act131 f132 => ?_⟩
 clear f123
 have g133 := gr_ext he
 have szw130 := g133.size
 have e134 := e125.gr g133 no_row
 clear e125
 have r135 := r126.gr g133 (fun _ h => by cases h)
 clear r126
 have bx136 := bx127.gr g133 (by simp)
 clear bx127
 have bx137 := bx128.gr g133 (by simp)
 clear bx128
 have ow138 := ow129.gr g133 (fun _ _ h => by cases h)
 clear ow129
 clear g133 he
 refine At.rd f132 4 [[], [.cs [wV (gI ([1, 1, 0, 0] : List Int) 0), wV (gI ([1, 1, 0, 0] : List Int) 1), wV (gI ([1, 1, 0, 0] : List Int) 2), wV (gI ([1, 1, 0, 0] : List Int) 3)], .cs [wV (gI ([1, 1, 0, 0]) 0), wV (gI ([1, 1, 0, 0]) 1), wV (gI ([1, 1, 0, 0]) 2), wV (gI ([1, 1, 0, 0]) 3)], .as_ (.bool true)], [], []] [(58, .bool true), (57, .bool true), (56, .bool true), (55, .agg (([1, 1, 0, 0] : List Int).map wV).toArray)] [(((([1, 1, 0, 0] : List Int) : List Int).map wV).toArray = ([wV (gI ([1, 1, 0, 0] : List Int) 0), wV (gI ([1, 1, 0, 0] : List Int) 1), wV (gI ([1, 1, 0, 0] : List Int) 2), wV (gI ([1, 1, 0, 0] : List Int) 3)] : List Value).toArray), ((([1, 1, 0, 0] : List Int).map wV).toArray = ([wV (gI ([1, 1, 0, 0]) 0), wV (gI ([1, 1, 0, 0]) 1), wV (gI ([1, 1, 0, 0]) 2), wV (gI ([1, 1, 0, 0]) 3)] : List Value).toArray), ((.bool ((((gI ([1, 1, 0, 0] : List Int) 0 : Int) == gI ([1, 1, 0, 0]) 0) && (((gI ([1, 1, 0, 0] : List Int) 1 : Int) == gI ([1, 1, 0, 0]) 1) && (((gI ([1, 1, 0, 0] : List Int) 2 : Int) == gI ([1, 1, 0, 0]) 2) && (((gI ([1, 1, 0, 0] : List Int) 3 : Int) == gI ([1, 1, 0, 0]) 3) && true))))) : Value) = .bool true)] (by kernel_rfl) ⟨(map4 (by first | assumption | exact (okW_with (by assumption)).1 | exact (okW_less (by assumption)).1 | exact (ofW_ok _).1 | exact (fullW_W _).1 | (refine okLen ?_; (repeat (first | assumption | exact ofW_ok _ | exact fullW_W _ | apply okW_with | apply okW_less | refine okW_orS ?_ ?_ | refine okW_andS ?_ ?_ | refine okW_minusS ?_ ?_)); done) | rfl | omega | (simp only [List.length_set]; first | done | assumption | omega) | exact lenW4 _ (by assumption))), (map4 (by first | assumption | exact (okW_with (by assumption)).1 | exact (okW_less (by assumption)).1 | exact (ofW_ok _).1 | exact (fullW_W _).1 | (refine okLen ?_; (repeat (first | assumption | exact ofW_ok _ | exact fullW_W _ | apply okW_with | apply okW_less | refine okW_orS ?_ ?_ | refine okW_andS ?_ ?_ | refine okW_minusS ?_ ?_)); done) | rfl | omega | (simp only [List.length_set]; first | done | assumption | omega) | exact lenW4 _ (by assumption))), (Eq.trans (b := (.bool (decide ((([1, 1, 0, 0] : List Int) : List Int) = ([1, 1, 0, 0]))) : Value)) (congrArg (fun b => Value.bool b) (w4_eq (by first | assumption | exact (okW_with (by assumption)).1 | exact (okW_less (by assumption)).1 | exact (ofW_ok _).1 | exact (fullW_W _).1 | (refine okLen ?_; (repeat (first | assumption | exact ofW_ok _ | exact fullW_W _ | apply okW_with | apply okW_less | refine okW_orS ?_ ?_ | refine okW_andS ?_ ?_ | refine okW_minusS ?_ ?_)); done) | rfl | omega | (simp only [List.length_set]; first | done | assumption | omega) | exact lenW4 _ (by assumption)) (by first | assumption | exact (okW_with (by assumption)).1 | exact (okW_less (by assumption)).1 | exact (ofW_ok _).1 | exact (fullW_W _).1 | (refine okLen ?_; (repeat (first | assumption | exact ofW_ok _ | exact fullW_W _ | apply okW_with | apply okW_less | refine okW_orS ?_ ?_ | refine okW_andS ?_ ?_ | refine okW_minusS ?_ ?_)); done) | rfl | omega | (simp only [List.length_set]; first | done | assumption | omega) | exact lenW4 _ (by assumption)))) (congrArg Value.bool (by decide +kernel))), trivial⟩ (fun act140 f139 => ?_)
 clear f132
 refine At.seq f139 1 [[]] [(59, .slice (some ⟨w130.heap.size, 0, none⟩) 2 2)] (w130.alloc (.cells #[.int .i64 (1), .int .i64 (2)] 3 (0, 0))) [] (by kernel_rfl) trivial (fun act144 w141 hw142 f143 => ?_)
 clear f139
 have g145 := gr_alloc hw142
 have szw141 := g145.size
 have e148 := e134.gr g145 no_row
 clear e134
 have r149 := r135.gr g145 (fun _ h => by cases h)
 clear r135
 have bx150 := bx136.gr g145 (by simp)
 clear bx136
 have bx151 := bx137.gr g145 (by simp)
 clear bx137
 have ow152 : OwnR w141 (Sx (w30.heap.size) [some (w130.heap.size)]) A41 c42 3 (([2, 64] : List Int) : List Int) := ow138.grA g145 (fun _ _ h => by cases h) (fun k hk hs => ⟨(fun e => by injection e; omega), hs⟩)
 clear ow138
 have bx147 : Bx w141 (w130.heap.size) [.int .i64 (1), .int .i64 (2)] 3 := Bx.new hw142
 have := bx147.lt
 clear g145 hw142
 refine At.call f143 14 #[.slice (some ⟨w130.heap.size, 0, none⟩) 2 2] (some 60) (by kernel_rfl) ((of_any (la := ([1, 2] : List Int)) (Bx.rdI (l := ([1, 2] : List Int)) bx147 rfl (by decide))).mono (R' := fun e w' => e = .returned (.agg ((([6, 0, 0, 0] : List Int) : List Int).map wV).toArray) ∧ Ext _ w') (fun e_ w_ h_ => by rw [show (ofW ([1, 2] : List Int) : List Int) = ([6, 0, 0, 0] : List Int) from by decide +kernel] at h_; exact h_)) ?_
 rintro e_ w153 ⟨rfl, he⟩
 refine ⟨_, rfl, _, rfl, fun act154 f155 => ?_⟩
 clear f143
 have g156 := gr_ext he
 have szw153 := g156.size
 have e157 := e148.gr g156 no_row
 clear e148
 have r158 := r149.gr g156 (fun _ h => by cases h)
 clear r149
 have bx159 := bx150.gr g156 (by simp)
 clear bx150
 have bx160 := bx151.gr g156 (by simp)
 clear bx151
 have ow161 := ow152.gr g156 (fun _ _ h => by cases h)
 clear ow152
 have bx162 := bx147.gr g156 (by simp)
 clear bx147
 clear g156 he
 refine At.seq f155 1 [[]] [(61, .slice (some ⟨w153.heap.size, 0, none⟩) 2 2)] (w153.alloc (.cells #[.int .i64 (2), .int .i64 (3)] 3 (0, 0))) [] (by kernel_rfl) trivial (fun act166 w163 hw164 f165 => ?_)
 clear f155
 have g167 := gr_alloc hw164
 have szw163 := g167.size
 have e170 := e157.gr g167 no_row
 clear e157
 have r171 := r158.gr g167 (fun _ h => by cases h)
 clear r158
 have bx172 := bx159.gr g167 (by simp)
 clear bx159
 have bx173 := bx160.gr g167 (by simp)
 clear bx160
 have ow174 : OwnR w163 (Sx (w30.heap.size) [some (w153.heap.size), some (w130.heap.size)]) A41 c42 3 (([2, 64] : List Int) : List Int) := ow161.grA g167 (fun _ _ h => by cases h) (fun k hk hs => ⟨(fun e => by injection e; omega), hs.1, hs.2⟩)
 clear ow161
 have bx175 := bx162.gr g167 (by simp)
 clear bx162
 have bx169 : Bx w163 (w153.heap.size) [.int .i64 (2), .int .i64 (3)] 3 := Bx.new hw164
 have := bx169.lt
 clear g167 hw164
 refine At.call f165 14 #[.slice (some ⟨w153.heap.size, 0, none⟩) 2 2] (some 62) (by kernel_rfl) ((of_any (la := ([2, 3] : List Int)) (Bx.rdI (l := ([2, 3] : List Int)) bx169 rfl (by decide))).mono (R' := fun e w' => e = .returned (.agg ((([12, 0, 0, 0] : List Int) : List Int).map wV).toArray) ∧ Ext _ w') (fun e_ w_ h_ => by rw [show (ofW ([2, 3] : List Int) : List Int) = ([12, 0, 0, 0] : List Int) from by decide +kernel] at h_; exact h_)) ?_
 rintro e_ w176 ⟨rfl, he⟩
 refine ⟨_, rfl, _, rfl, fun act177 f178 => ?_⟩
 clear f165
 have g179 := gr_ext he
 have szw176 := g179.size
 have e180 := e170.gr g179 no_row
 clear e170
 have r181 := r171.gr g179 (fun _ h => by cases h)
 clear r171
 have bx182 := bx172.gr g179 (by simp)
 clear bx172
 have bx183 := bx173.gr g179 (by simp)
 clear bx173
 have ow184 := ow174.gr g179 (fun _ _ h => by cases h)
 clear ow174
 have bx185 := bx175.gr g179 (by simp)
 clear bx175
 have bx186 := bx169.gr g179 (by simp)
 clear bx169
 clear g179 he
 refine At.call f178 37 #[.agg ((([6, 0, 0, 0] : List Int) : List Int).map wV).toArray, .agg ((([12, 0, 0, 0] : List Int) : List Int).map wV).toArray] (some 63) (by kernel_rfl) ((minusS_any (s := ([6, 0, 0, 0] : List Int)) (t := ([12, 0, 0, 0] : List Int)) (by repeat (first | assumption | exact ofW_ok _ | exact fullW_W _ | exact wordsD_W _ | exact okW_0 | exact okW_00 | apply okW_orS | apply okW_andS | apply okW_minusS | apply okW_with | apply okW_less | apply okW_or | apply okW_and | apply okW_minus | (apply okW_lit <;> exact ⟨by omega, by omega⟩))) (by repeat (first | assumption | exact ofW_ok _ | exact fullW_W _ | exact wordsD_W _ | exact okW_0 | exact okW_00 | apply okW_orS | apply okW_andS | apply okW_minusS | apply okW_with | apply okW_less | apply okW_or | apply okW_and | apply okW_minus | (apply okW_lit <;> exact ⟨by omega, by omega⟩)))).mono (R' := fun e w' => e = .returned (.agg ((([2, 0, 0, 0] : List Int) : List Int).map wV).toArray) ∧ Ext _ w') (fun e_ w_ h_ => by rw [show (minusS ([6, 0, 0, 0] : List Int) ([12, 0, 0, 0] : List Int) : List Int) = ([2, 0, 0, 0] : List Int) from by decide +kernel] at h_; exact h_)) ?_
 rintro e_ w187 ⟨rfl, he⟩
 refine ⟨_, rfl, _, rfl, fun act188 f189 => ?_⟩
 clear f178
 have g190 := gr_ext he
 have szw187 := g190.size
 have e191 := e180.gr g190 no_row
 clear e180
 have r192 := r181.gr g190 (fun _ h => by cases h)
 clear r181
 have bx193 := bx182.gr g190 (by simp)
 clear bx182
 have bx194 := bx183.gr g190 (by simp)
 clear bx183
 have ow195 := ow184.gr g190 (fun _ _ h => by cases h)
 clear ow184
 have bx196 := bx185.gr g190 (by simp)
 clear bx185
 have bx197 := bx186.gr g190 (by simp)
 clear bx186
 clear g190 he
 refine At.rd f189 4 [[], [.cs [wV (gI ([2, 0, 0, 0] : List Int) 0), wV (gI ([2, 0, 0, 0] : List Int) 1), wV (gI ([2, 0, 0, 0] : List Int) 2), wV (gI ([2, 0, 0, 0] : List Int) 3)], .cs [wV (gI ([2, 0, 0, 0]) 0), wV (gI ([2, 0, 0, 0]) 1), wV (gI ([2, 0, 0, 0]) 2), wV (gI ([2, 0, 0, 0]) 3)], .as_ (.bool true)], [], []] [(0, .bool true), (66, .bool true), (65, .bool true), (64, .agg (([2, 0, 0, 0] : List Int).map wV).toArray)] [(((([2, 0, 0, 0] : List Int) : List Int).map wV).toArray = ([wV (gI ([2, 0, 0, 0] : List Int) 0), wV (gI ([2, 0, 0, 0] : List Int) 1), wV (gI ([2, 0, 0, 0] : List Int) 2), wV (gI ([2, 0, 0, 0] : List Int) 3)] : List Value).toArray), ((([2, 0, 0, 0] : List Int).map wV).toArray = ([wV (gI ([2, 0, 0, 0]) 0), wV (gI ([2, 0, 0, 0]) 1), wV (gI ([2, 0, 0, 0]) 2), wV (gI ([2, 0, 0, 0]) 3)] : List Value).toArray), ((.bool ((((gI ([2, 0, 0, 0] : List Int) 0 : Int) == gI ([2, 0, 0, 0]) 0) && (((gI ([2, 0, 0, 0] : List Int) 1 : Int) == gI ([2, 0, 0, 0]) 1) && (((gI ([2, 0, 0, 0] : List Int) 2 : Int) == gI ([2, 0, 0, 0]) 2) && (((gI ([2, 0, 0, 0] : List Int) 3 : Int) == gI ([2, 0, 0, 0]) 3) && true))))) : Value) = .bool true)] (by kernel_rfl) ⟨(map4 (by first | assumption | exact (okW_with (by assumption)).1 | exact (okW_less (by assumption)).1 | exact (ofW_ok _).1 | exact (fullW_W _).1 | (refine okLen ?_; (repeat (first | assumption | exact ofW_ok _ | exact fullW_W _ | apply okW_with | apply okW_less | refine okW_orS ?_ ?_ | refine okW_andS ?_ ?_ | refine okW_minusS ?_ ?_)); done) | rfl | omega | (simp only [List.length_set]; first | done | assumption | omega) | exact lenW4 _ (by assumption))), (map4 (by first | assumption | exact (okW_with (by assumption)).1 | exact (okW_less (by assumption)).1 | exact (ofW_ok _).1 | exact (fullW_W _).1 | (refine okLen ?_; (repeat (first | assumption | exact ofW_ok _ | exact fullW_W _ | apply okW_with | apply okW_less | refine okW_orS ?_ ?_ | refine okW_andS ?_ ?_ | refine okW_minusS ?_ ?_)); done) | rfl | omega | (simp only [List.length_set]; first | done | assumption | omega) | exact lenW4 _ (by assumption))), (Eq.trans (b := (.bool (decide ((([2, 0, 0, 0] : List Int) : List Int) = ([2, 0, 0, 0]))) : Value)) (congrArg (fun b => Value.bool b) (w4_eq (by first | assumption | exact (okW_with (by assumption)).1 | exact (okW_less (by assumption)).1 | exact (ofW_ok _).1 | exact (fullW_W _).1 | (refine okLen ?_; (repeat (first | assumption | exact ofW_ok _ | exact fullW_W _ | apply okW_with | apply okW_less | refine okW_orS ?_ ?_ | refine okW_andS ?_ ?_ | refine okW_minusS ?_ ?_)); done) | rfl | omega | (simp only [List.length_set]; first | done | assumption | omega) | exact lenW4 _ (by assumption)) (by first | assumption | exact (okW_with (by assumption)).1 | exact (okW_less (by assumption)).1 | exact (ofW_ok _).1 | exact (fullW_W _).1 | (refine okLen ?_; (repeat (first | assumption | exact ofW_ok _ | exact fullW_W _ | apply okW_with | apply okW_less | refine okW_orS ?_ ?_ | refine okW_andS ?_ ?_ | refine okW_minusS ?_ ?_)); done) | rfl | omega | (simp only [List.length_set]; first | done | assumption | omega) | exact lenW4 _ (by assumption)))) (congrArg Value.bool (by decide +kernel))), trivial⟩ (fun act199 f198 => ?_)
 clear f189
 refine At.done rfl ?_
 refine t_n ?_
 have f200 := f198.sub (r := [(0, .bool true)]) ⟨rfl, trivial⟩
 clear f198
 refine wp_ret ?_
 refine ret_ f200 [] [.bool true] [] (by kernel_rfl) trivial ?_
 exact ⟨rfl, e191⟩

end Go.Proofs.YtepekncgknlcjaaDoor
