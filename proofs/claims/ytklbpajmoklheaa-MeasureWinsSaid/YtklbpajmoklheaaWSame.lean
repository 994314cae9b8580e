/-
  A walk of a Go function, printed by a program of this repo. Conditions: what the theorems name.
-/
import Derived.Test.YtklbpajmoklheaaLem
set_option linter.unusedVariables false
set_option linter.unusedSimpArgs false
namespace Go.Proofs.Ytklbpajmoklheaa
open Go Go.RowKit

set_option maxHeartbeats 4000000 in
theorem sameInts_any {Aa : Option Addr} {ca : Nat} {la : List Int} {Ab : Option Addr} {cb : Nat} {lb : List Int} {w : World} (ra : RdI w 0 w.heap.size Aa la) (rb : RdI w 0 w.heap.size Ab lb) :
    Calls Try.prog 20 #[.slice Aa la.length ca, .slice Ab lb.length cb] w fun e w' => e = .returned (.bool (decide (la = lb))) ∧ Ext w w' := by
 have hla := ra.len; have hlb := rb.len
 refine enter_ (args := [.slice Aa la.length ca, .slice Ab lb.length cb]) Try.func20 rfl Try.ntmps20 (Nat.le_of_ble_eq_true rfl) (fun act0 f0 => ?_)
 have e0 : Ext w w := Ext.refl w
 refine wp_seq ?_
 refine At.start ?_
 refine At.rd f0 1 [[]] [(4, .bool false)] [] (by kernel_rfl) trivial (fun act2 f1 => ?_)
 clear f0
 refine At.done rfl ?_
 refine t_n ?_
 refine wp_seq ?_
 refine wp_seq ?_
 refine At.start ?_
 refine At.rd f1 5 [[], [], [], [], []] [(10, .bool ((((la.length : Nat) : Int) : Int) != ((lb.length : Nat) : Int))), (9, .int .i64 (((lb.length : Nat) : Int))), (8, .slice Ab lb.length cb), (7, .int .i64 (((la.length : Nat) : Int))), (6, .slice Aa la.length ca)] [] (by kernel_rfl) trivial (fun act4 f3 => ?_)
 clear f1
 refine At.done rfl ?_
 refine t_n ?_
 refine cond_S f3 (t := (((la.length : Nat) : Int) : Int) != ((lb.length : Nat) : Int)) rfl (fun h5 => ?_) (fun h5 => ?_)
 ·have q6 := bne_iff_ne.1 h5
  refine wp_seq ?_
  refine At.start ?_
  refine At.rd f3 1 [[]] [(4, .bool false)] [] (by kernel_rfl) trivial (fun act8 f7 => ?_)
  clear f3
  refine At.done rfl ?_
  refine t_n ?_
  refine wp_ret ?_
  refine t_r ?_
  refine ret_ f7 [] [.bool false] [] (by kernel_rfl) trivial ?_
  exact ⟨ret_eq (congrArg Value.bool (decide_eq_false (fun h => by subst h; omega)).symm), e0⟩
 have q9 := bne_eq_false_iff_eq.1 h5
 refine wp_skip ?_
 refine t_n ?_
 refine wp_seq ?_
 refine wp_seq ?_
 refine At.start ?_
 refine At.rd f3 1 [[]] [(5, .int .i64 (0))] [] (by kernel_rfl) trivial (fun aY aK => ?_)
 clear f3
 refine At.done rfl ?_
 refine t_n ?_
 refine wp_block ?_
 have aL := aK.sub (r := [(5, .int .i64 (0)), (0, .slice Aa la.length ca), (1, .slice Ab lb.length cb)]) ⟨rfl, rfl, rfl, trivial⟩
 refine loop_g (fun (m_ : Nat) a_ w_ => ∃ (k : Int), m_ = ((la.length : Int) - k).toNat ∧ (Frm 26 a_ [(5, .int .i64 (k)), (0, .slice Aa la.length ca), (1, .slice Ab lb.length cb)]) ∧ (Ext w w_) ∧ (RdI w_ 0 w.heap.size Aa la) ∧ (RdI w_ 0 w.heap.size Ab lb) ∧ (0 ≤ k) ∧ (k ≤ (la.length : Int)) ∧ (la.take k.toNat = lb.take k.toNat)) _ ⟨0, rfl, aL, e0, ra, rb, (by omega), (by omega), rfl⟩ ?_
 clear aL aK; clear ra; clear rb; clear e0
 intro m_ aZ aM ⟨k, hm16, aN, aA, aE, aF, i20, i21, i22⟩
 have := aA.size
 refine wp_seq ?_
 refine wp_seq ?_
 refine At.start ?_
 refine At.rd aN 4 [[], [], [], []] [(14, .bool (decide ((k : Int) < ((la.length : Nat) : Int)))), (13, .int .i64 (((la.length : Nat) : Int))), (12, .slice Aa la.length ca), (11, .int .i64 (k))] [] (by kernel_rfl) trivial (fun bA aB => ?_)
 clear aN
 refine At.done rfl ?_
 refine t_n ?_
 refine cond_S aB (t := decide ((k : Int) < ((la.length : Nat) : Int))) rfl (fun aI => ?_) (fun aI => ?_)
 ·have bB := of_decide_eq_true aI
  refine wp_skip ?_
  refine t_n ?_
  refine wp_seq ?_
  refine wp_block ?_
  refine wp_seq ?_
  obtain ⟨aG, aQ, _, _, aR⟩ := RdI.get aE (k) (by omega) (by omega)
  obtain ⟨aH, aS, _, _, aT⟩ := RdI.get aF (k) (by omega) (by omega)
  refine drawn_ro aB (by kernel_rfl) (by kernel_rfl) [[], [], [.ad aG], [.ld (.int .i64 (gI la (k)))], [], [], [.ad aH], [.ld (.int .i64 (gI lb (k)))], []] [(25, .bool ((gI la (k) : Int) != (gI lb (k)))), (24, .int .i64 (gI lb (k))), (23, .pointer (some (aH.add ((k : Int).toNat * 1)))), (22, .int .i64 (k)), (21, .slice Ab lb.length cb), (20, .int .i64 (gI la (k))), (19, .pointer (some (aG.add ((k : Int).toNat * 1)))), (18, .int .i64 (k)), (17, .slice Aa la.length ca)] [(Aa = some aG), (0 ≤ (k : Int)), ((k : Int) < (la.length : Nat)), (aM.cell? (aG.add ((k : Int).toNat * 1)) = some (.int .i64 (gI la (k)))), (Ab = some aH), (0 ≤ (k : Int)), ((k : Int) < (lb.length : Nat)), (aM.cell? (aH.add ((k : Int).toNat * 1)) = some (.int .i64 (gI lb (k))))] (by kernel_rfl) ⟨aQ, (by omega), (by omega), aR, aS, (by omega), (by omega), aT, trivial⟩ (fun bC bD aO aC => ?_)
  clear aB; have aD := gr_drew aO; have := aD.size; replace aA := aA.gn aD; replace aE := aE.gn aD; replace aF := aF.gn aD; clear aD aO
  refine t_n ?_
  refine cond_S aC (t := (gI la (k) : Int) != (gI lb (k))) rfl (fun aJ => ?_) (fun aJ => ?_)
  ·have bE := bne_iff_ne.1 aJ
   refine wp_seq ?_
   refine At.start ?_
   refine At.rd aC 1 [[]] [(4, .bool false)] [] (by kernel_rfl) trivial (fun bF aP => ?_)
   clear aC
   refine At.done rfl ?_
   refine t_n ?_
   have aU := aP.sub (r := [(4, .bool false)]) ⟨rfl, trivial⟩; clear aP
   refine wp_ret ?_
   refine b_r ?_
   refine t_r ?_
   refine t_r ?_
   refine b_r ?_
   refine t_r ?_
   refine ret_ aU [] [.bool false] [] (by kernel_rfl) trivial ?_
   exact ⟨ret_eq (congrArg Value.bool (decide_eq_false (fun h => by subst h; contradiction)).symm), aA⟩
  have bG := bne_eq_false_iff_eq.1 aJ
  refine wp_skip ?_
  refine b_n ?_
  refine t_n ?_
  refine At.start ?_
  refine At.rd aC 3 [[], [.as_ (.int .i64 (k + 1))], []] [(5, .int .i64 (k + 1)), (16, .int .i64 (k + 1)), (15, .int .i64 (k))] [((.int .i64 (IntKind.i64.wrap (k + 1)) : Value) = .int .i64 (k + 1))] (by kernel_rfl) ⟨(w64 (by omega) (by omega)), trivial⟩ (fun bH aV => ?_)
  clear aC
  refine At.done rfl ?_
  refine t_n ?_
  have aW := aV.sub (r := [(5, .int .i64 (k + 1)), (0, .slice Aa la.length ca), (1, .slice Ab lb.length cb)]) ⟨rfl, rfl, rfl, trivial⟩
  exact ⟨_, (by omega), (k + 1), rfl, aW, aA, aE, aF, (by omega), (by omega), (take_next (by assumption) (by omega) (by omega) (by omega) (by assumption))⟩
 have bI := of_decide_eq_false aI
 refine wp_exit ?_
 refine t_e ?_
 refine t_e ?_
 refine b_e ?_
 refine t_n ?_
 refine wp_seq ?_
 refine At.start ?_
 refine At.rd aB 1 [[]] [(4, .bool true)] [] (by kernel_rfl) trivial (fun bJ aX => ?_)
 clear aB
 refine At.done rfl ?_
 refine t_n ?_
 refine wp_ret ?_
 refine ret_ aX [] [.bool true] [] (by kernel_rfl) trivial ?_
 exact ⟨ret_eq (congrArg Value.bool (decide_eq_true (take_all (by assumption) (by omega) (by omega))).symm), aA⟩

end Go.Proofs.Ytklbpajmoklheaa
