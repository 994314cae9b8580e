/-
  A walk of a Go function, printed by a program of this repo. Conditions: what the theorems name.
-/
import Derived.Test.YtplpgfcjjnaigaaDoorWSame
set_option linter.unusedVariables false
set_option linter.unusedSimpArgs false
namespace Go.Proofs.YtplpgfcjjnaigaaDoor
open Go Go.RowKit

set_option maxHeartbeats 4000000 in
theorem alike_any {Aa : Option Addr} {ca : Nat} {la : List Int} {Ab : Option Addr} {cb : Nat} {lb : List Int} {Ac : Option Addr} {cc : Nat} {lc : List Int} {Ad : Option Addr} {cd : Nat} {ld : List Int} {w : World} (ra : RdI w 0 w.heap.size Aa la) (rb : RdI w 0 w.heap.size Ab lb) (rc : RdI w 0 w.heap.size Ac lc) (rd : RdI w 0 w.heap.size Ad ld) :
    Calls Tryd.prog 17 #[.agg #[.slice Aa la.length ca, .slice Ab lb.length cb], .agg #[.slice Ac lc.length cc, .slice Ad ld.length cd]] w fun e w' => e = .returned (.bool (decide (la = lc) && decide (lb = ld))) ∧ Ext w w' := by
 have hla := ra.len; have hlb := rb.len; have hlc := rc.len; have hld := rd.len
 refine enter_ (args := [.agg #[.slice Aa la.length ca, .slice Ab lb.length cb], .agg #[.slice Ac lc.length cc, .slice Ad ld.length cd]]) Tryd.func17 rfl Tryd.ntmps17 (Nat.le_of_ble_eq_true rfl) (fun act0 f0 => ?_)
 have e0 : Ext w w := Ext.refl w
 refine wp_seq ?_
 refine At.start ?_
 refine At.seq f0 1 [[]] [(2, .pointer (some ⟨w.heap.size, 0, none⟩))] (w.alloc (.cells #[.slice Aa la.length ca, .slice Ab lb.length cb] 29 (0, 0))) [] (by kernel_rfl) trivial (fun act4 w1 hw2 f3 => ?_)
 clear f0; have g5 := gr_alloc hw2; have := g5.size; replace e0 := e0.gn g5; have r8 := ra.gn g5; clear ra; have r9 := rb.gn g5; clear rb; have aE := rc.gn g5; clear rc; have aF := rd.gn g5; clear rd; have aA : Bx w1 (w.heap.size) [.slice Aa la.length ca, .slice Ab lb.length cb] 29 := Bx.new hw2; have := aA.lt; clear g5 hw2
 refine At.seq f3 1 [[]] [(3, .pointer (some ⟨w1.heap.size, 0, none⟩))] (w1.alloc (.cells #[.slice Ac lc.length cc, .slice Ad ld.length cd] 29 (0, 0))) [] (by kernel_rfl) trivial (fun aV aJ aK aL => ?_)
 clear f3; have aD := gr_alloc aK; have := aD.size; replace e0 := e0.gn aD; replace r8 := r8.gn aD; replace r9 := r9.gn aD; replace aE := aE.gn aD; replace aF := aF.gn aD; replace aA := aA.gn aD; have aG : Bx aJ (w1.heap.size) [.slice Ac lc.length cc, .slice Ad ld.length cd] 29 := Bx.new aK; have := aG.lt; clear aD aK
 refine At.rd aL 1 [[]] [(4, .bool false)] [] (by kernel_rfl) trivial (fun aW aM => ?_)
 clear aL
 refine At.done rfl ?_
 refine t_n ?_
 refine wp_seq ?_
 refine At.start ?_
 refine At.rd aM 4 [[], [.ld (.slice Aa la.length ca)], [], [.ld (.slice Ac lc.length cc)]] [(8, .slice Ac lc.length cc), (7, .pointer (some ⟨w1.heap.size, 0, none⟩)), (6, .slice Aa la.length ca), (5, .pointer (some ⟨w.heap.size, 0, none⟩))] [(0 ≤ (0 : Int)), ((0 : Int) < (2 : Nat)), (aJ.cell? ⟨w.heap.size, 0, none⟩ = some (.slice Aa la.length ca)), (0 ≤ (0 : Int)), ((0 : Int) < (2 : Nat)), (aJ.cell? ⟨w1.heap.size, 0, none⟩ = some (.slice Ac lc.length cc))] (by kernel_rfl) ⟨(by decide), (by decide), (aA.cell (i := 0) rfl), (by decide), (by decide), (aG.cell (i := 0) rfl), trivial⟩ (fun aX aN => ?_)
 clear aM
 refine At.call aN 27 #[.slice Aa la.length ca, .slice Ac lc.length cc] (some 9) (by kernel_rfl) (sameInts_any (la := la) (lb := lc) (r8.wide (Nat.zero_le _) (by omega)) (aE.wide (Nat.zero_le _) (by omega))) ?_
 rintro e_ aO ⟨rfl, he⟩
 refine ⟨_, rfl, _, rfl, fun aY aI => ?_⟩
 clear aN; have aB := gr_ext he; have := aB.size; replace e0 := e0.gn aB; replace r8 := r8.gn aB; replace r9 := r9.gn aB; replace aE := aE.gn aB; replace aF := aF.gn aB; replace aA := aA.gn aB; replace aG := aG.gn aB; clear aB he
 rcases Bool.eq_false_or_eq_true (decide (la = lc)) with aH | aH
 ·have aZ := of_decide_eq_true aH
  refine At.rd aI 5 [[.as_ (.bool true)], [], [.ld (.slice Ab lb.length cb)], [], [.ld (.slice Ad ld.length cd)]] [(14, .slice Ad ld.length cd), (13, .pointer (some ⟨w1.heap.size, 1, none⟩)), (12, .slice Ab lb.length cb), (11, .pointer (some ⟨w.heap.size, 1, none⟩)), (10, .bool true)] [((.bool (decide (la = lc)) : Value) = .bool true), (0 ≤ (1 : Int)), ((1 : Int) < (2 : Nat)), (aO.cell? ⟨w.heap.size, 1, none⟩ = some (.slice Ab lb.length cb)), (0 ≤ (1 : Int)), ((1 : Int) < (2 : Nat)), (aO.cell? ⟨w1.heap.size, 1, none⟩ = some (.slice Ad ld.length cd))] (by kernel_rfl) ⟨(congrArg Value.bool aH), (by decide), (by decide), (aA.cell (i := 1) rfl), (by decide), (by decide), (aG.cell (i := 1) rfl), trivial⟩ (fun bA aP => ?_)
  clear aI
  refine At.call aP 27 #[.slice Ab lb.length cb, .slice Ad ld.length cd] (some 15) (by kernel_rfl) (sameInts_any (la := lb) (lb := ld) (r9.wide (Nat.zero_le _) (by omega)) (aF.wide (Nat.zero_le _) (by omega))) ?_
  rintro e_ bB ⟨rfl, he⟩
  refine ⟨_, rfl, _, rfl, fun bC aQ => ?_⟩
  clear aP; have aC := gr_ext he; have := aC.size; replace e0 := e0.gn aC; replace r8 := r8.gn aC; replace r9 := r9.gn aC; replace aE := aE.gn aC; replace aF := aF.gn aC; replace aA := aA.gn aC; replace aG := aG.gn aC; clear aC he
  refine At.rd aQ 2 [[], []] [(4, .bool (decide (lb = ld))), (16, .bool (decide (lb = ld)))] [] (by kernel_rfl) trivial (fun bD aR => ?_)
  clear aQ
  refine At.done rfl ?_
  refine t_n ?_
  have aT := aR.sub (r := [(4, .bool (decide (lb = ld)))]) ⟨rfl, trivial⟩; clear aR
  refine wp_ret ?_
  refine ret_ aT [] [.bool (decide (lb = ld))] [] (by kernel_rfl) trivial ?_
  exact ⟨ret_eq (congrArg Value.bool (by first | (rw [show decide (la = lc) = false from by assumption]; rfl) | (rw [show decide (la = lc) = true from by assumption]; rfl))), e0⟩
 have bE := of_decide_eq_false aH
 refine At.rd aI 8 [[.as_ (.bool false)], [], [], [], [], [], [], []] [(4, .bool false), (16, .bool false), (15, undef), (14, undef), (13, undef), (12, undef), (11, undef), (10, .bool false)] [((.bool (decide (la = lc)) : Value) = .bool false)] (by kernel_rfl) ⟨(congrArg Value.bool aH), trivial⟩ (fun bF aS => ?_)
 clear aI
 refine At.done rfl ?_
 refine t_n ?_
 have aU := aS.sub (r := [(4, .bool false)]) ⟨rfl, trivial⟩; clear aS
 refine wp_ret ?_
 refine ret_ aU [] [.bool false] [] (by kernel_rfl) trivial ?_
 exact ⟨ret_eq (congrArg Value.bool (by first | (rw [show decide (la = lc) = false from by assumption]; rfl) | (rw [show decide (la = lc) = true from by assumption]; rfl))), e0⟩

end Go.Proofs.YtplpgfcjjnaigaaDoor
