/-
  A walk of a Go function, printed by a program of this repo. Conditions: what the theorems name.
-/
import Derived.Test.YtepekncgknlcjaaDoorWSetX
set_option linter.unusedVariables false
set_option linter.unusedSimpArgs false
namespace Go.Proofs.YtepekncgknlcjaaDoor
open Go Go.RowKit

set_option maxHeartbeats 4000000 in
theorem same01_any {s : List Int} {l : List Bool} {w : World} (hs : OkW s) (hl : l.length = 256) :
    Calls Tryd.prog 16 #[.agg ((s : List Int).map wV).toArray, .agg ((l : List Bool).map Value.bool).toArray] w fun e w' => e = .returned (.bool (decide (s = wordsD l))) ∧ Ext w w' := by
 have hls := hs.1
 refine enter_ (args := [.agg ((s : List Int).map wV).toArray, .agg ((l : List Bool).map Value.bool).toArray]) Tryd.func16 rfl Tryd.ntmps16 (Nat.le_of_ble_eq_true rfl) (fun act0 f0 => ?_)
 have e0 := Ext.refl w
 refine wp_seq ?_
 refine At.start ?_
 refine At.seq f0 1 [[]] [(2, .pointer (some ⟨w.heap.size, 0, none⟩))] (w.alloc (.cells ((s : List Int).map wV).toArray 26 (0, 0))) [] (by kernel_rfl) trivial (fun act4 w1 hw2 f3 => ?_)
 clear f0
 have g5 := gr_alloc hw2
 have szw1 := g5.size
 have e7 := e0.gr g5 no_row
 clear e0
 have bx8 : Bx w1 (w.heap.size) ((s : List Int).map wV) 26 := Bx.new hw2
 have := bx8.lt
 clear g5 hw2
 refine At.seq f3 1 [[]] [(3, .pointer (some ⟨w1.heap.size, 0, none⟩))] (w1.alloc (.cells ((l : List Bool).map Value.bool).toArray 32 (0, 0))) [] (by kernel_rfl) trivial (fun act12 w9 hw10 f11 => ?_)
 clear f3
 have g13 := gr_alloc hw10
 have szw9 := g13.size
 have e15 := e7.gr g13 no_row
 clear e7
 have bx16 := bx8.gr g13 (by simp)
 clear bx8
 have bx17 : Bx w9 (w1.heap.size) ((l : List Bool).map Value.bool) 32 := Bx.new hw10
 have := bx17.lt
 clear g13 hw10
 refine At.rd f11 1 [[]] [(4, .bool false)] [] (by kernel_rfl) trivial (fun act19 f18 => ?_)
 clear f11
 refine At.done rfl ?_
 refine t_n ?_
 have f20 := f18.sub (r := [(3, .pointer (some ⟨w1.heap.size, 0, none⟩)), (2, .pointer (some ⟨w.heap.size, 0, none⟩))]) ⟨rfl, rfl, trivial⟩
 clear f18
 refine wp_seq ?_
 obtain ⟨Cs21, hCs22⟩ : ∃ c : List (Addr × Value), c = ([] : List (Addr × Value)) ++ (blkC (w.heap.size) ((s : List Int).map wV) ++ blkC (w1.heap.size) ((l : List Bool).map Value.bool)) := ⟨_, rfl⟩
 have hS23 : HoldsC Cs21 w9 := by rw [hCs22]; exact (holdsA (show HoldsC [] w9 from trivial) (holdsA (holds_blk bx16) (holds_blk bx17)))
 refine AtH.start Cs21 5 #[false, false, false, false, false] (by kernel_rfl) rfl rfl (fun w25 hw26 => ?_)
 have g24 := gr_drew hw26
 have hS27 := hS23.gr g24
 have szw25 := g24.size
 have e28 := e15.gr g24 no_row
 clear e15
 have bx29 := bx16.gr g24 (by simp)
 clear bx16
 have bx30 := bx17.gr g24 (by simp)
 clear bx17
 clear g24 hw26 hS23
 refine AtH.rd (by kernel_rfl) (fun d v c a w h => by cases d <;> exact h) hS27 [0, 1] [[.cs ((s : List Int).map wV)], [.cs ((l : List Bool).map Value.bool)]] [(6, .agg ((l : List Bool).map Value.bool).toArray), (5, .agg ((s : List Int).map wV).toArray)] #[true, true, false, false, false] [(((s : List Int).map wV).length = 4), (∀ (j : Nat) (v : Value), ((s : List Int).map wV)[j]? = some v → ∃ j_ : Nat, Cs21[j_]? = some (((⟨w.heap.size, 0, none⟩ : Addr).add j), v)), (((l : List Bool).map Value.bool).length = 256), (∀ (j : Nat) (v : Value), ((l : List Bool).map Value.bool)[j]? = some v → ∃ j_ : Nat, Cs21[j_]? = some (((⟨w1.heap.size, 0, none⟩ : Addr).add j), v))] 3 f20 (by kernel_rfl) ⟨(by simp only [List.length_map, List.length_set, List.length_replicate, List.length_cons, List.length_nil]; first | done | assumption | exact from_len _ | exact of_len _ | exact ofZ_len _ | exact (ofW_ok _).1 | exact (fullW_W _).1 | exact (okW_with (by assumption)).1 | exact (okW_less (by assumption)).1 | exact put_len (from_len _) | exact orD_len _ _ | exact andD_len _ _ | exact minusD_len _ _ | exact fullD_len _ | (refine okLen ?_; (repeat (first | assumption | exact ofW_ok _ | exact fullW_W _ | apply okW_with | apply okW_less | refine okW_orS ?_ ?_ | refine okW_andS ?_ ?_ | refine okW_minusS ?_ ?_)); done) | omega | rfl), (fun j v hv => List.getElem?_of_mem (by rw [hCs22]; exact List.mem_append.2 (.inr (List.mem_append.2 (.inl (blkC_in hv)))))), (by simp only [List.length_map, List.length_set, List.length_replicate, List.length_cons, List.length_nil]; first | done | assumption | exact from_len _ | exact of_len _ | exact ofZ_len _ | exact (ofW_ok _).1 | exact (fullW_W _).1 | exact (okW_with (by assumption)).1 | exact (okW_less (by assumption)).1 | exact put_len (from_len _) | exact orD_len _ _ | exact andD_len _ _ | exact minusD_len _ _ | exact fullD_len _ | (refine okLen ?_; (repeat (first | assumption | exact ofW_ok _ | exact fullW_W _ | apply okW_with | apply okW_less | refine okW_orS ?_ ?_ | refine okW_andS ?_ ?_ | refine okW_minusS ?_ ?_)); done) | omega | rfl), (fun j v hv => List.getElem?_of_mem (by rw [hCs22]; exact List.mem_append.2 (.inr (List.mem_append.2 (.inr (blkC_in hv)))))), trivial⟩ (fun act32 f31 => ?_)
 clear f20
 refine AtH.all [2] 2 (by kernel_rfl) (by simp) ⟨?_, trivial⟩
 refine OneH.call f31 39 #[.agg ((l : List Bool).map Value.bool).toArray] (some 7) #[true, true, true, false, false] (by kernel_rfl) (by kernel_rfl) (words_any (l := l) (by first | assumption | exact ofZ_len _ | exact of_len _ | exact from_len _ | exact put_len (from_len _) | exact orD_len _ _ | exact andD_len _ _ | exact minusD_len _ _ | exact fullD_len _ | exact put_len (by assumption) | exact put_len (ofZ_len _) | rfl)) ?_
 rintro e_ w34 ⟨rfl, he⟩
 refine ⟨_, rfl, _, rfl, fun act35 f36 => ?_⟩
 clear f31
 have g37 := gr_ext he
 have hS33 := hS27.gr g37
 have szw34 := g37.size
 have e38 := e28.gr g37 no_row
 clear e28
 have bx39 := bx29.gr g37 (by simp)
 clear bx29
 have bx40 := bx30.gr g37 (by simp)
 clear bx30
 clear g37 he
 refine ⟨hS33, ?_⟩
 refine AtH.rd (by kernel_rfl) (fun d v c a w h => by cases d <;> exact h) hS33 [3] [[.cs [wV (gI s 0), wV (gI s 1), wV (gI s 2), wV (gI s 3)], .cs [wV (gI (wordsD l) 0), wV (gI (wordsD l) 1), wV (gI (wordsD l) 2), wV (gI (wordsD l) 3)], .as_ (.bool (decide ((s : List Int) = (wordsD l))))]] [(8, .bool (decide ((s : List Int) = (wordsD l))))] #[true, true, true, true, false] [(((s : List Int).map wV).toArray = ([wV (gI s 0), wV (gI s 1), wV (gI s 2), wV (gI s 3)] : List Value).toArray), (((wordsD l : List Int).map wV).toArray = ([wV (gI (wordsD l) 0), wV (gI (wordsD l) 1), wV (gI (wordsD l) 2), wV (gI (wordsD l) 3)] : List Value).toArray), ((.bool ((((gI s 0 : Int) == gI (wordsD l) 0) && (((gI s 1 : Int) == gI (wordsD l) 1) && (((gI s 2 : Int) == gI (wordsD l) 2) && (((gI s 3 : Int) == gI (wordsD l) 3) && true))))) : Value) = .bool (decide ((s : List Int) = (wordsD l))))] 1 f36 (by kernel_rfl) ⟨(map4 (by first | assumption | exact (okW_with (by assumption)).1 | exact (okW_less (by assumption)).1 | exact (ofW_ok _).1 | exact (fullW_W _).1 | (refine okLen ?_; (repeat (first | assumption | exact ofW_ok _ | exact fullW_W _ | apply okW_with | apply okW_less | refine okW_orS ?_ ?_ | refine okW_andS ?_ ?_ | refine okW_minusS ?_ ?_)); done) | rfl | omega | (simp only [List.length_set]; first | done | assumption | omega) | exact lenW4 _ (by assumption))), (map4 (by first | assumption | exact (okW_with (by assumption)).1 | exact (okW_less (by assumption)).1 | exact (ofW_ok _).1 | exact (fullW_W _).1 | (refine okLen ?_; (repeat (first | assumption | exact ofW_ok _ | exact fullW_W _ | apply okW_with | apply okW_less | refine okW_orS ?_ ?_ | refine okW_andS ?_ ?_ | refine okW_minusS ?_ ?_)); done) | rfl | omega | (simp only [List.length_set]; first | done | assumption | omega) | exact lenW4 _ (by assumption))), (congrArg (fun b => Value.bool b) (w4_eq (by first | assumption | exact (okW_with (by assumption)).1 | exact (okW_less (by assumption)).1 | exact (ofW_ok _).1 | exact (fullW_W _).1 | (refine okLen ?_; (repeat (first | assumption | exact ofW_ok _ | exact fullW_W _ | apply okW_with | apply okW_less | refine okW_orS ?_ ?_ | refine okW_andS ?_ ?_ | refine okW_minusS ?_ ?_)); done) | rfl | omega | (simp only [List.length_set]; first | done | assumption | omega) | exact lenW4 _ (by assumption)) (by first | assumption | exact (okW_with (by assumption)).1 | exact (okW_less (by assumption)).1 | exact (ofW_ok _).1 | exact (fullW_W _).1 | (refine okLen ?_; (repeat (first | assumption | exact ofW_ok _ | exact fullW_W _ | apply okW_with | apply okW_less | refine okW_orS ?_ ?_ | refine okW_andS ?_ ?_ | refine okW_minusS ?_ ?_)); done) | rfl | omega | (simp only [List.length_set]; first | done | assumption | omega) | exact lenW4 _ (by assumption)))), trivial⟩ (fun act42 f41 => ?_)
 clear f36
 refine AtH.rd (by kernel_rfl) (fun d v c a w h => by cases d <;> exact h) hS33 [4] [[]] [(4, .bool (decide ((s : List Int) = (wordsD l))))] #[true, true, true, true, true] [] 0 f41 (by kernel_rfl) trivial (fun act44 f43 => ?_)
 clear f41
 refine AtH.done (by kernel_rfl) ?_
 clear hS33
 refine t_n ?_
 have f45 := f43.sub (r := [(4, .bool (decide ((s : List Int) = (wordsD l))))]) ⟨rfl, trivial⟩
 clear f43
 refine wp_ret ?_
 refine ret_ f45 [] [.bool (decide ((s : List Int) = (wordsD l)))] [] (by kernel_rfl) trivial ?_
 exact ⟨rfl, e38⟩

end Go.Proofs.YtepekncgknlcjaaDoor
