/-
  A walk of a Go function, printed by a program of this repo. Conditions: what the theorems name.
-/
import Derived.Test.YtepekncgknlcjaaDoorWSetD2
set_option linter.unusedVariables false
set_option linter.unusedSimpArgs false
namespace Go.Proofs.YtepekncgknlcjaaDoor
open Go Go.RowKit

set_option maxHeartbeats 4000000 in
theorem lenR_any {l : List Bool} {w : World} (hl : l.length = 256) :
    Calls Tryd.prog 26 #[.agg ((l : List Bool).map Value.bool).toArray] w fun e w' => e = .returned (.int .i64 (((lsD l 256).length : Nat) : Int)) ∧ Ext w w' := by
 refine enter_ (args := [.agg ((l : List Bool).map Value.bool).toArray]) Tryd.func26 rfl Tryd.ntmps26 (Nat.le_of_ble_eq_true rfl) (fun act0 f0 => ?_)
 have e0 := Ext.refl w
 refine wp_seq ?_
 refine At.start ?_
 refine At.seq f0 1 [[]] [(1, .pointer (some ⟨w.heap.size, 0, none⟩))] (w.alloc (.cells ((l : List Bool).map Value.bool).toArray 32 (0, 0))) [] (by kernel_rfl) trivial (fun act4 w1 hw2 f3 => ?_)
 clear f0
 have g5 := gr_alloc hw2
 have szw1 := g5.size
 have e7 := e0.gr g5 no_row
 clear e0
 have bx8 : Bx w1 (w.heap.size) ((l : List Bool).map Value.bool) 32 := Bx.new hw2
 have := bx8.lt
 clear g5 hw2
 refine At.rd f3 1 [[]] [(2, .int .i64 (0))] [] (by kernel_rfl) trivial (fun act10 f9 => ?_)
 clear f3
 refine At.done rfl ?_
 refine t_n ?_
 have f11 := f9.sub (r := [(1, .pointer (some ⟨w.heap.size, 0, none⟩))]) ⟨rfl, trivial⟩
 clear f9
 refine wp_seq ?_
 refine At.start ?_
 refine At.rd f11 1 [[.cs ((l : List Bool).map Value.bool)]] [(3, .agg ((l : List Bool).map Value.bool).toArray)] [(((l : List Bool).map Value.bool).length = 256), (∀ (j : Nat) (v : Value), ((l : List Bool).map Value.bool)[j]? = some v → w1.cell? ((⟨w.heap.size, 0, none⟩ : Addr).add j) = some v)] (by kernel_rfl) ⟨(by simp only [List.length_map, List.length_set, List.length_replicate, List.length_cons, List.length_nil]; first | done | assumption | exact from_len _ | exact of_len _ | exact ofZ_len _ | exact (ofW_ok _).1 | exact (fullW_W _).1 | exact (okW_with (by assumption)).1 | exact (okW_less (by assumption)).1 | exact put_len (from_len _) | exact orD_len _ _ | exact andD_len _ _ | exact minusD_len _ _ | exact fullD_len _ | (refine okLen ?_; (repeat (first | assumption | exact ofW_ok _ | exact fullW_W _ | apply okW_with | apply okW_less | refine okW_orS ?_ ?_ | refine okW_andS ?_ ?_ | refine okW_minusS ?_ ?_)); done) | omega | rfl), bx8.whole, trivial⟩ (fun act13 f12 => ?_)
 clear f11
 refine At.call f12 24 #[.agg ((l : List Bool).map Value.bool).toArray] (some 4) (by kernel_rfl) (listR_any (l := l) (by first | assumption | exact ofZ_len _ | exact of_len _ | exact from_len _ | exact put_len (from_len _) | exact orD_len _ _ | exact andD_len _ _ | exact minusD_len _ _ | exact fullD_len _ | exact put_len (by assumption) | exact put_len (ofZ_len _) | rfl)) ?_
 rintro e_ w18 ⟨A14, c15, rfl, he, ow16⟩
 have := ls_len l 256
 refine ⟨_, rfl, _, rfl, fun act19 f20 => ?_⟩
 clear f12
 have g21 := gr_ext he
 have szw18 := g21.size
 have e22 := e7.gr g21 no_row
 clear e7
 have bx23 := bx8.gr g21 (by simp)
 clear bx8
 clear g21 he
 refine At.rd f20 2 [[], []] [(2, .int .i64 ((((lsD l 256).length : Nat) : Int))), (5, .int .i64 ((((lsD l 256).length : Nat) : Int)))] [] (by kernel_rfl) trivial (fun act25 f24 => ?_)
 clear f20
 refine At.done rfl ?_
 refine t_n ?_
 have f26 := f24.sub (r := [(2, .int .i64 ((((lsD l 256).length : Nat) : Int)))]) ⟨rfl, trivial⟩
 clear f24
 refine wp_ret ?_
 refine ret_ f26 [] [.int .i64 ((((lsD l 256).length : Nat) : Int))] [] (by kernel_rfl) trivial ?_
 exact ⟨rfl, e22⟩

end Go.Proofs.YtepekncgknlcjaaDoor
