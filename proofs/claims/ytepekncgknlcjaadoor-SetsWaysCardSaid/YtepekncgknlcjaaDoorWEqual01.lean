/-
  A walk of a Go function, printed by a program of this repo. Conditions: what the theorems name.
-/
import Derived.Test.YtepekncgknlcjaaDoorFs
import Derived.Test.YtepekncgknlcjaaDoorLem
set_option linter.unusedVariables false
set_option linter.unusedSimpArgs false
namespace Go.Proofs.YtepekncgknlcjaaDoor
open Go Go.RowKit

set_option maxHeartbeats 4000000 in
theorem equal01_any {Aa : Option Addr} {ca : Nat} {la : List Int} {Ab : Option Addr} {cb : Nat} {lb : List Int} {w : World} (ra : RdI w 0 w.heap.size Aa la) (rb : RdI w 0 w.heap.size Ab lb) :
    Calls Tryd.prog 15 #[.slice Aa la.length ca, .slice Ab lb.length cb] w fun e w' => e = .returned (.bool (decide (la = lb))) ∧ Ext w w' := by
 have hla := ra.len
 have hlb := rb.len
 refine enter_ (args := [.slice Aa la.length ca, .slice Ab lb.length cb]) Tryd.func15 rfl Tryd.ntmps15 (Nat.le_of_ble_eq_true rfl) (fun act0 f0 => ?_)
 have e0 := Ext.refl w
 refine wp_seq ?_
 refine At.start ?_
 refine At.rd f0 1 [[]] [(4, .bool false)] [] (by kernel_rfl) trivial (fun act2 f1 => ?_)
 clear f0
 refine At.done rfl ?_
 refine t_n ?_
 refine wp_seq ?_
 refine wp_seq ?_
 refine At.start ?_
 refine At.rd f1 5 [[], [], [], [], []] [(10, .bool ((((la.length : Nat) : Int) : Int) != ((lb.length : Nat) : Int))), (9, .int .i64 (((lb.length : Nat) : Int))), (8, .slice Ab lb.length cb), (7, .int .i64 (((la.length : Nat) : Int))), (6, .slice Aa la.length ca)] [] (by kernel_rfl) trivial (fun act4 f3 => ?_)
 clear f1
 refine At.done rfl ?_
 refine t_n ?_
 have f5 := f3.sub (r := [(10, .bool ((((la.length : Nat) : Int) : Int) != ((lb.length : Nat) : Int))), (4, .bool false), (0, .slice Aa la.length ca), (1, .slice Ab lb.length cb)]) ⟨rfl, rfl, rfl, rfl, trivial⟩
 clear f3
 refine cond_S f5 (t := (((la.length : Nat) : Int) : Int) != ((lb.length : Nat) : Int)) rfl (fun h6 => ?_) (fun h6 => ?_)
 ·have q7 := bne_iff_ne.1 h6
  refine wp_seq ?_
  refine At.start ?_
  refine At.rd f5 1 [[]] [(4, .bool false)] [] (by kernel_rfl) trivial (fun act9 f8 => ?_)
  clear f5
  refine At.done rfl ?_
  refine t_n ?_
  have f10 := f8.sub (r := [(4, .bool false)]) ⟨rfl, trivial⟩
  clear f8
  refine wp_ret ?_
  refine t_r ?_
  refine ret_ f10 [] [.bool false] [] (by kernel_rfl) trivial ?_
  exact ⟨ret_eq (congrArg Value.bool (decide_eq_false (fun h => by subst h; omega)).symm), e0⟩
 ·have q11 := bne_eq_false_iff_eq.1 h6
  refine wp_skip ?_
  refine t_n ?_
  have f12 := f5.sub (r := [(4, .bool false), (0, .slice Aa la.length ca), (1, .slice Ab lb.length cb)]) ⟨rfl, rfl, rfl, trivial⟩
  clear f5
  refine wp_seq ?_
  refine wp_seq ?_
  refine At.start ?_
  refine At.rd f12 1 [[]] [(5, .int .i64 (0))] [] (by kernel_rfl) trivial (fun act14 f13 => ?_)
  clear f12
  refine At.done rfl ?_
  refine t_n ?_
  refine wp_block ?_
  have f15 := f13.sub (r := [(5, .int .i64 (0)), (0, .slice Aa la.length ca), (1, .slice Ab lb.length cb)]) ⟨rfl, rfl, rfl, trivial⟩
  refine loop_g (fun (m_ : Nat) a_ w_ => ∃ (k : Int), m_ = ((la.length : Int) - k).toNat ∧ (Frm 26 a_ [(5, .int .i64 (k)), (0, .slice Aa la.length ca), (1, .slice Ab lb.length cb)]) ∧ (Ext w w_) ∧ (RdI w_ 0 w.heap.size Aa la) ∧ (RdI w_ 0 w.heap.size Ab lb) ∧ (0 ≤ k) ∧ (k ≤ (la.length : Int)) ∧ (la.take k.toNat = lb.take k.toNat)) _ ⟨0, rfl, f15, e0, ra, rb, (by omega), (by omega), rfl⟩ ?_
  clear f15 f13
  clear ra
  clear rb
  clear e0
  intro m_ act16 w17 ⟨k, hm19, f20, e18, r21, r22, i23, i24, htk⟩
  have szw17 := e18.size
  refine wp_seq ?_
  refine wp_seq ?_
  refine At.start ?_
  refine At.rd f20 4 [[], [], [], []] [(14, .bool (decide ((k : Int) < ((la.length : Nat) : Int)))), (13, .int .i64 (((la.length : Nat) : Int))), (12, .slice Aa la.length ca), (11, .int .i64 (k))] [] (by kernel_rfl) trivial (fun act26 f25 => ?_)
  clear f20
  refine At.done rfl ?_
  refine t_n ?_
  have f27 := f25.sub (r := [(14, .bool (decide ((k : Int) < ((la.length : Nat) : Int)))), (5, .int .i64 (k)), (0, .slice Aa la.length ca), (1, .slice Ab lb.length cb)]) ⟨rfl, rfl, rfl, rfl, trivial⟩
  clear f25
  refine cond_S f27 (t := decide ((k : Int) < ((la.length : Nat) : Int))) rfl (fun h28 => ?_) (fun h28 => ?_)
  ·have q29 := of_decide_eq_true h28
   refine wp_skip ?_
   refine t_n ?_
   have f30 := f27.sub (r := [(5, .int .i64 (k)), (0, .slice Aa la.length ca), (1, .slice Ab lb.length cb)]) ⟨rfl, rfl, rfl, trivial⟩
   clear f27
   refine wp_seq ?_
   refine wp_block ?_
   refine wp_seq ?_
   obtain ⟨ad31, hA32, _, _, hc33⟩ := RdI.get r21 (k) (by omega) (by omega)
   obtain ⟨ad34, hA35, _, _, hc36⟩ := RdI.get r22 (k) (by omega) (by omega)
   refine drawn_ro f30 (by kernel_rfl) (by kernel_rfl) [[], [], [.ad ad31], [.ld (.int .i64 (gI la (k)))], [], [], [.ad ad34], [.ld (.int .i64 (gI lb (k)))], []] [(25, .bool ((gI la (k) : Int) != (gI lb (k)))), (24, .int .i64 (gI lb (k))), (23, .pointer (some (ad34.add ((k : Int).toNat * 1)))), (22, .int .i64 (k)), (21, .slice Ab lb.length cb), (20, .int .i64 (gI la (k))), (19, .pointer (some (ad31.add ((k : Int).toNat * 1)))), (18, .int .i64 (k)), (17, .slice Aa la.length ca)] [(Aa = some ad31), (0 ≤ (k : Int)), ((k : Int) < (la.length : Nat)), (w17.cell? (ad31.add ((k : Int).toNat * 1)) = some (.int .i64 (gI la (k)))), (Ab = some ad34), (0 ≤ (k : Int)), ((k : Int) < (lb.length : Nat)), (w17.cell? (ad34.add ((k : Int).toNat * 1)) = some (.int .i64 (gI lb (k))))] (by kernel_rfl) ⟨hA32, (by omega), (by omega), hc33, hA35, (by omega), (by omega), hc36, trivial⟩ (fun act38 w39 hw40 f37 => ?_)
   clear f30
   have g41 := gr_drew hw40
   have szw39 := g41.size
   have e42 := e18.gr g41 no_row
   clear e18
   have r43 := r21.gr g41 (fun _ h => by cases h)
   clear r21
   have r44 := r22.gr g41 (fun _ h => by cases h)
   clear r22
   clear g41 hw40
   refine t_n ?_
   have f45 := f37.sub (r := [(25, .bool ((gI la (k) : Int) != (gI lb (k)))), (5, .int .i64 (k)), (0, .slice Aa la.length ca), (1, .slice Ab lb.length cb)]) ⟨rfl, rfl, rfl, rfl, trivial⟩
   clear f37
   refine cond_S f45 (t := (gI la (k) : Int) != (gI lb (k))) rfl (fun h46 => ?_) (fun h46 => ?_)
   ·have q47 := bne_iff_ne.1 h46
    refine wp_seq ?_
    refine At.start ?_
    refine At.rd f45 1 [[]] [(4, .bool false)] [] (by kernel_rfl) trivial (fun act49 f48 => ?_)
    clear f45
    refine At.done rfl ?_
    refine t_n ?_
    have f50 := f48.sub (r := [(4, .bool false)]) ⟨rfl, trivial⟩
    clear f48
    refine wp_ret ?_
    refine b_r ?_
    refine t_r ?_
    refine t_r ?_
    refine b_r ?_
    refine t_r ?_
    refine ret_ f50 [] [.bool false] [] (by kernel_rfl) trivial ?_
    exact ⟨ret_eq (congrArg Value.bool (decide_eq_false (fun h => by subst h; contradiction)).symm), e42⟩
   ·have q51 := bne_eq_false_iff_eq.1 h46
    refine wp_skip ?_
    refine b_n ?_
    refine t_n ?_
    have f52 := f45.sub (r := [(5, .int .i64 (k)), (0, .slice Aa la.length ca), (1, .slice Ab lb.length cb)]) ⟨rfl, rfl, rfl, trivial⟩
    clear f45
    refine At.start ?_
    refine At.rd f52 3 [[], [.as_ (.int .i64 (k + 1))], []] [(5, .int .i64 (k + 1)), (16, .int .i64 (k + 1)), (15, .int .i64 (k))] [((.int .i64 (IntKind.i64.wrap (k + 1)) : Value) = .int .i64 (k + 1))] (by kernel_rfl) ⟨(w64 (by omega) (by omega)), trivial⟩ (fun act54 f53 => ?_)
    clear f52
    refine At.done rfl ?_
    refine t_n ?_
    have f55 := f53.sub (r := [(5, .int .i64 (k + 1)), (0, .slice Aa la.length ca), (1, .slice Ab lb.length cb)]) ⟨rfl, rfl, rfl, trivial⟩
    exact ⟨_, (by omega), (k + 1), rfl, f55, e42, r43, r44, (by omega), (by omega), (take_next htk (by omega) (by omega) (by omega) (by assumption))⟩
  ·have q56 := of_decide_eq_false h28
   refine wp_exit ?_
   refine t_e ?_
   refine t_e ?_
   refine b_e ?_
   refine t_n ?_
   have f57 := f27.sub (r := []) trivial
   clear f27
   refine wp_seq ?_
   refine At.start ?_
   refine At.rd f57 1 [[]] [(4, .bool true)] [] (by kernel_rfl) trivial (fun act59 f58 => ?_)
   clear f57
   refine At.done rfl ?_
   refine t_n ?_
   refine wp_ret ?_
   refine ret_ f58 [] [.bool true] [] (by kernel_rfl) trivial ?_
   exact ⟨ret_eq (congrArg Value.bool (decide_eq_true (take_all htk (by omega) (by omega))).symm), e18⟩

end Go.Proofs.YtepekncgknlcjaaDoor
