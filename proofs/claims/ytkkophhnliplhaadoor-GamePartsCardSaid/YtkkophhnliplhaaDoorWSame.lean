/-
  A walk of a Go function, printed by a program of this repo. Conditions: what the theorems name.
-/
import Derived.Test.YtkkophhnliplhaaDoorLem
set_option linter.unusedVariables false
set_option linter.unusedSimpArgs false
namespace Go.Proofs.YtkkophhnliplhaaDoor
open Go Go.RowKit

set_option maxHeartbeats 4000000 in
theorem sameInts_any {Aa : Option Addr} {ca : Nat} {la : List Int} {Ab : Option Addr} {cb : Nat} {lb : List Int} {w : World} (ra : RdI w 0 w.heap.size Aa la) (rb : RdI w 0 w.heap.size Ab lb) :
    Calls Tryd.prog 24 #[.slice Aa la.length ca, .slice Ab lb.length cb] w fun e w' => e = .returned (.bool (decide (la = lb))) ∧ Ext w w' := by
 have hla := ra.len
 have hlb := rb.len
 refine enter_ (args := [.slice Aa la.length ca, .slice Ab lb.length cb]) Tryd.func24 rfl Tryd.ntmps24 (Nat.le_of_ble_eq_true rfl) (fun act0 f0 => ?_)
 have e0 : Ext w w := Ext.refl w
 refine wp_seq ?_
 refine At.start ?_
 refine At.rd f0 1 [[]] [(4, .bool false)] [] (by kernel_rfl) trivial (fun act2 f1 => ?_)
 clear f0
 refine At.done rfl ?_
 refine t_n ?_
 refine wp_seq ?_
 refine wp_seq ?_
 refine At.start ?_
 refine At.rd f1 5 [[], [], [], [], []] [(10, .bool ((((la.length : Nat) : Int) : Int) != ((lb.length : Nat) : Int))), (9, .int .i64 (((lb.length : Nat) : Int))), (8, .slice Ab lb.length cb), (7, .int .i64 (((la.length : Nat) : Int))), (6, .slice Aa la.length ca)] [] (by kernel_rfl) trivial (fun act4 f3 => ?_)
 clear f1
 refine At.done rfl ?_
 refine t_n ?_
 refine cond_S f3 (t := (((la.length : Nat) : Int) : Int) != ((lb.length : Nat) : Int)) rfl (fun h5 => ?_) (fun h5 => ?_)
 ·have q6 := bne_iff_ne.1 h5
  refine wp_seq ?_
  refine At.start ?_
  refine At.rd f3 1 [[]] [(4, .bool false)] [] (by kernel_rfl) trivial (fun act8 f7 => ?_)
  clear f3
  refine At.done rfl ?_
  refine t_n ?_
  refine wp_ret ?_
  refine t_r ?_
  refine ret_ f7 [] [.bool false] [] (by kernel_rfl) trivial ?_
  exact ⟨ret_eq (congrArg Value.bool (decide_eq_false (fun h => by subst h; omega)).symm), e0⟩
 ·have q9 := bne_eq_false_iff_eq.1 h5
  refine wp_skip ?_
  refine t_n ?_
  refine wp_seq ?_
  refine wp_seq ?_
  refine At.start ?_
  refine At.rd f3 1 [[]] [(5, .int .i64 (0))] [] (by kernel_rfl) trivial (fun act11 f10 => ?_)
  clear f3
  refine At.done rfl ?_
  refine t_n ?_
  refine wp_block ?_
  have f12 := f10.sub (r := [(5, .int .i64 (0)), (0, .slice Aa la.length ca), (1, .slice Ab lb.length cb)]) ⟨rfl, rfl, rfl, trivial⟩
  refine loop_g (fun (m_ : Nat) a_ w_ => ∃ (k : Int), m_ = ((la.length : Int) - k).toNat ∧ (Frm 26 a_ [(5, .int .i64 (k)), (0, .slice Aa la.length ca), (1, .slice Ab lb.length cb)]) ∧ (Ext w w_) ∧ (RdI w_ 0 w.heap.size Aa la) ∧ (RdI w_ 0 w.heap.size Ab lb) ∧ (0 ≤ k) ∧ (k ≤ (la.length : Int)) ∧ (la.take k.toNat = lb.take k.toNat)) _ ⟨0, rfl, f12, e0, ra, rb, (by omega), (by omega), rfl⟩ ?_
  clear f12 f10
  clear ra
  clear rb
  clear e0
  intro m_ act13 w14 ⟨k, hm16, f17, e15, r18, r19, i20, i21, i22⟩
  have szw14 := e15.size
  refine wp_seq ?_
  refine wp_seq ?_
  refine At.start ?_
  refine At.rd f17 4 [[], [], [], []] [(14, .bool (decide ((k : Int) < ((la.length : Nat) : Int)))), (13, .int .i64 (((la.length : Nat) : Int))), (12, .slice Aa la.length ca), (11, .int .i64 (k))] [] (by kernel_rfl) trivial (fun act24 f23 => ?_)
  clear f17
  refine At.done rfl ?_
  refine t_n ?_
  refine cond_S f23 (t := decide ((k : Int) < ((la.length : Nat) : Int))) rfl (fun h25 => ?_) (fun h25 => ?_)
  ·have q26 := of_decide_eq_true h25
   refine wp_skip ?_
   refine t_n ?_
   refine wp_seq ?_
   refine wp_block ?_
   refine wp_seq ?_
   obtain ⟨ad27, hA28, _, _, hc29⟩ := RdI.get r18 (k) (by omega) (by omega)
   obtain ⟨ad30, hA31, _, _, hc32⟩ := RdI.get r19 (k) (by omega) (by omega)
   refine drawn_ro f23 (by kernel_rfl) (by kernel_rfl) [[], [], [.ad ad27], [.ld (.int .i64 (gI la (k)))], [], [], [.ad ad30], [.ld (.int .i64 (gI lb (k)))], []] [(25, .bool ((gI la (k) : Int) != (gI lb (k)))), (24, .int .i64 (gI lb (k))), (23, .pointer (some (ad30.add ((k : Int).toNat * 1)))), (22, .int .i64 (k)), (21, .slice Ab lb.length cb), (20, .int .i64 (gI la (k))), (19, .pointer (some (ad27.add ((k : Int).toNat * 1)))), (18, .int .i64 (k)), (17, .slice Aa la.length ca)] [(Aa = some ad27), (0 ≤ (k : Int)), ((k : Int) < (la.length : Nat)), (w14.cell? (ad27.add ((k : Int).toNat * 1)) = some (.int .i64 (gI la (k)))), (Ab = some ad30), (0 ≤ (k : Int)), ((k : Int) < (lb.length : Nat)), (w14.cell? (ad30.add ((k : Int).toNat * 1)) = some (.int .i64 (gI lb (k))))] (by kernel_rfl) ⟨hA28, (by omega), (by omega), hc29, hA31, (by omega), (by omega), hc32, trivial⟩ (fun act34 w35 hw36 f33 => ?_)
   clear f23
   have g37 := gr_drew hw36
   have szw35 := g37.size
   replace e15 := e15.gr g37 no_row
   replace r18 := r18.gr g37 (fun _ h => by cases h)
   replace r19 := r19.gr g37 (fun _ h => by cases h)
   clear g37 hw36
   refine t_n ?_
   refine cond_S f33 (t := (gI la (k) : Int) != (gI lb (k))) rfl (fun h41 => ?_) (fun h41 => ?_)
   ·have q42 := bne_iff_ne.1 h41
    refine wp_seq ?_
    refine At.start ?_
    refine At.rd f33 1 [[]] [(4, .bool false)] [] (by kernel_rfl) trivial (fun act44 f43 => ?_)
    clear f33
    refine At.done rfl ?_
    refine t_n ?_
    have f45 := f43.sub (r := [(4, .bool false)]) ⟨rfl, trivial⟩
    clear f43
    refine wp_ret ?_
    refine b_r ?_
    refine t_r ?_
    refine t_r ?_
    refine b_r ?_
    refine t_r ?_
    refine ret_ f45 [] [.bool false] [] (by kernel_rfl) trivial ?_
    exact ⟨ret_eq (congrArg Value.bool (decide_eq_false (fun h => by subst h; contradiction)).symm), e15⟩
   ·have q46 := bne_eq_false_iff_eq.1 h41
    refine wp_skip ?_
    refine b_n ?_
    refine t_n ?_
    refine At.start ?_
    refine At.rd f33 3 [[], [.as_ (.int .i64 (k + 1))], []] [(5, .int .i64 (k + 1)), (16, .int .i64 (k + 1)), (15, .int .i64 (k))] [((.int .i64 (IntKind.i64.wrap (k + 1)) : Value) = .int .i64 (k + 1))] (by kernel_rfl) ⟨(w64 (by omega) (by omega)), trivial⟩ (fun act48 f47 => ?_)
    clear f33
    refine At.done rfl ?_
    refine t_n ?_
    have f49 := f47.sub (r := [(5, .int .i64 (k + 1)), (0, .slice Aa la.length ca), (1, .slice Ab lb.length cb)]) ⟨rfl, rfl, rfl, trivial⟩
    exact ⟨_, (by omega), (k + 1), rfl, f49, e15, r18, r19, (by omega), (by omega), (take_next (by assumption) (by omega) (by omega) (by omega) (by assumption))⟩
  ·have q50 := of_decide_eq_false h25
   refine wp_exit ?_
   refine t_e ?_
   refine t_e ?_
   refine b_e ?_
   refine t_n ?_
   refine wp_seq ?_
   refine At.start ?_
   refine At.rd f23 1 [[]] [(4, .bool true)] [] (by kernel_rfl) trivial (fun act52 f51 => ?_)
   clear f23
   refine At.done rfl ?_
   refine t_n ?_
   refine wp_ret ?_
   refine ret_ f51 [] [.bool true] [] (by kernel_rfl) trivial ?_
   exact ⟨ret_eq (congrArg Value.bool (decide_eq_true (take_all (by assumption) (by omega) (by omega))).symm), e15⟩

end Go.Proofs.YtkkophhnliplhaaDoor
