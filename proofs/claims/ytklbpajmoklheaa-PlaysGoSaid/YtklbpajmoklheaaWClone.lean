/-
  A walk of a Go function, printed by a program of this repo. Conditions: what the theorems name.
-/
import Derived.Test.YtklbpajmoklheaaFs
import Derived.Test.YtklbpajmoklheaaPureGame
set_option linter.unusedVariables false
set_option linter.unusedSimpArgs false
namespace Go.Proofs.Ytklbpajmoklheaa
open Go Go.RowKit

set_option maxHeartbeats 4000000 in
theorem clone_nil {ca : Nat} {w : World} :
    Calls Try.prog 53 #[.slice none 0 ca] w fun e w' => e = .returned (.slice none 0 0) ∧ Ext w w' := by
 refine enter_ (args := [.slice none 0 ca]) Try.func53 rfl Try.ntmps53 (Nat.le_of_ble_eq_true rfl) (fun act0 f0 => ?_)
 have e0 : Ext w w := Ext.refl w
 refine wp_seq ?_
 refine At.start ?_
 refine At.rd f0 1 [[]] [(2, .slice none 0 0)] [] (by kernel_rfl) trivial (fun act2 f1 => ?_)
 clear f0
 refine At.done rfl ?_
 refine t_n ?_
 have f3 := f1.sub (r := [(0, .slice none 0 ca)]) ⟨rfl, trivial⟩; clear f1
 refine wp_seq ?_
 refine wp_seq ?_
 refine At.start ?_
 refine At.rd f3 2 [[], []] [(4, .bool true), (3, .slice none 0 ca)] [] (by kernel_rfl) trivial (fun act5 f4 => ?_)
 clear f3
 refine At.done rfl ?_
 refine t_n ?_
 have f6 := f4.sub (r := [(4, .bool true), (0, .slice none 0 ca)]) ⟨rfl, rfl, trivial⟩; clear f4
 refine cond_T f6 rfl ?_
 refine wp_seq ?_
 refine At.start ?_
 refine At.rd f6 1 [[]] [(2, .slice none 0 0)] [] (by kernel_rfl) trivial (fun act8 f7 => ?_)
 clear f6
 refine At.done rfl ?_
 refine t_n ?_
 have f9 := f7.sub (r := [(2, .slice none 0 0)]) ⟨rfl, trivial⟩; clear f7
 refine wp_ret ?_
 refine t_r ?_
 refine ret_ f9 [] [.slice none 0 0] [] (by kernel_rfl) trivial ?_
 exact ⟨rfl, e0⟩

set_option maxHeartbeats 4000000 in
theorem clone_some {aa : Addr} {ca : Nat} {la : List Int} {w : World} (ra : RdI w 0 w.heap.size (some aa) la) :
    Calls Try.prog 53 #[.slice (some aa) la.length ca] w fun e w' => ∃ A c, e = .returned (.slice A (la).length c) ∧ Ext w w' ∧ OwnR w' (Sx w.heap.size []) A c 3 (la : List Int) := by
 have hla := ra.len
 refine enter_ (args := [.slice (some aa) la.length ca]) Try.func53 rfl Try.ntmps53 (Nat.le_of_ble_eq_true rfl) (fun act0 f0 => ?_)
 have e0 : Ext w w := Ext.refl w
 refine wp_seq ?_
 refine At.start ?_
 refine At.rd f0 1 [[]] [(2, .slice none 0 0)] [] (by kernel_rfl) trivial (fun act2 f1 => ?_)
 clear f0
 refine At.done rfl ?_
 refine t_n ?_
 have f3 := f1.sub (r := [(0, .slice (some aa) la.length ca)]) ⟨rfl, trivial⟩; clear f1
 refine wp_seq ?_
 refine wp_seq ?_
 refine At.start ?_
 refine At.rd f3 2 [[], []] [(4, .bool false), (3, .slice (some aa) la.length ca)] [] (by kernel_rfl) trivial (fun act5 f4 => ?_)
 clear f3
 refine At.done rfl ?_
 refine t_n ?_
 have f6 := f4.sub (r := [(4, .bool false), (0, .slice (some aa) la.length ca)]) ⟨rfl, rfl, trivial⟩; clear f4
 refine cond_F f6 rfl ?_
 refine wp_skip ?_
 refine t_n ?_
 have f7 := f6.sub (r := [(0, .slice (some aa) la.length ca)]) ⟨rfl, trivial⟩; clear f6
 refine wp_seq ?_
 refine At.start ?_
 refine At.seq f7 1 [[]] [(5, .slice (some ⟨w.heap.size, 0, none⟩) 0 0)] (w.alloc (.cells #[] 3 (0, 0))) [] (by kernel_rfl) trivial (fun aQ w8 hw9 aJ => ?_)
 clear f7; have aC := gr_alloc hw9; have := aC.size; replace e0 := e0.gn aC; have aG := ra.gn aC; clear ra; have aH : Bx w8 (w.heap.size) [] 3 := Bx.new hw9; have := aH.lt; clear aC hw9
 refine At.rd aJ 1 [[]] [(6, .slice (some aa) la.length ca)] [] (by kernel_rfl) trivial (fun aR aK => ?_)
 clear aJ; have aD : OwnR w8 (Sx (w.heap.size) []) (some ⟨w.heap.size, 0, none⟩) 0 3 ([] : List Int) := Bx.own0 aH (Nat.le_refl _); clear aH; have aN : (([] : List Int) ++ la).length = (([] : List Int)).length + (la : List Int).length := List.length_append
 simp only [List.length_cons, List.length_nil] at aN
 refine At.act aK (appendR (α := Int) (t := 22) (d := 7) (n := 0) (m := la.length) (cc := ca) (xs := []) (ys := la) (bytes := 8) (by first | rfl | omega | (simp; done) | (simp; omega)) (by first | rfl | omega | (simp; done) | (simp; omega)) (by kernel_rfl) rfl (by kernel_rfl) aD aG.srcR (by simp only [List.length_cons, List.length_nil]; omega) (by simp only [List.length_cons, List.length_nil]; omega)) ?_
 rintro d_ v_ aO ⟨rfl, aA, aB, aE⟩
 obtain rfl := aE.val
 have aF := aE.gr
 refine ⟨_, rfl, fun aS aL => ?_⟩
 clear aK; have aI := aE.own (Sx (w.heap.size) []) (fun g _ hs => hs) (show w.heap.size ≤ w8.heap.size by omega); have := aF.size; replace e0 := e0.gr aF (fun k hk => by have := aD.ge k hk; omega); replace aG := aG.gr aF (fun k hk => by have := aD.ge k hk; omega); clear aD aF aE; replace aI : OwnR aO (Sx (w.heap.size) []) aA aB 3 (la : List Int) := aI
 refine At.rd aL 1 [[]] [(2, .slice aA ((([] : List Int) ++ la).length) aB)] [] (by kernel_rfl) trivial (fun aT aM => ?_)
 clear aL
 refine At.done rfl ?_
 refine t_n ?_
 have aP := aM.sub (r := [(2, .slice aA ((([] : List Int) ++ la).length) aB)]) ⟨rfl, trivial⟩; clear aM
 refine wp_ret ?_
 refine ret_ aP [] [.slice aA ((([] : List Int) ++ la).length) aB] [] (by kernel_rfl) trivial ?_
 exact ⟨aA, aB, rfl, e0, (aI.imp (fun g _ hs => by have := Sx_base hs; show w.heap.size ≤ g; omega))⟩

theorem clone_any {Aa : Option Addr} {ca : Nat} {la : List Int} {w : World} (ra : RdI w 0 w.heap.size Aa la) :
    Calls Try.prog 53 #[.slice Aa la.length ca] w fun e w' => ∃ A c, e = .returned (.slice A la.length c) ∧ Ext w w' ∧ OwnR w' (Sx w.heap.size []) A c 3 (la : List Int) := by
  cases Aa with
  | none =>
    obtain rfl := rdI_isNone ra rfl
    exact clone_nil.mono fun e w' h => ⟨none, 0, h.1, h.2, OwnR.nil⟩
  | some aa => exact clone_some ra
end Go.Proofs.Ytklbpajmoklheaa
