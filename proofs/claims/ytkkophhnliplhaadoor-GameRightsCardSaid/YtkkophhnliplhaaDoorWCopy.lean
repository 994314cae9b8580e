/-
  A walk of a Go function, printed by a program of this repo. Conditions: what the theorems name.
-/
import Derived.Test.YtkkophhnliplhaaDoorFs
import Derived.Test.YtkkophhnliplhaaDoorPureGame
set_option linter.unusedVariables false
set_option linter.unusedSimpArgs false
namespace Go.Proofs.YtkkophhnliplhaaDoor
open Go Go.RowKit

set_option maxHeartbeats 4000000 in
theorem copyR_any {Ag0 Ag1 Ag2 : Option Addr} {cg0 cg1 cg2 : Nat} {g : GameL} {w : World} (rg : RdG w 0 w.heap.size Ag0 Ag1 Ag2 cg0 cg1 cg2 g) :
    Calls Tryd.prog 13 #[.agg #[.slice Ag0 g.ow.length cg0, .slice Ag1 g.pr.length cg1, .slice Ag2 g.mv.length cg2]] w fun e w' => ∃ A0 c0 A1 c1 A2 c2, e = .returned (.agg #[.slice A0 g.ow.length c0, .slice A1 g.pr.length c1, .slice A2 g.mv.length c2]) ∧ Ext w w' ∧ OwnR w' (Sx w.heap.size [obk A1, obk A2]) A0 c0 3 g.ow ∧ OwnR w' (Sx w.heap.size [obk A0, obk A2]) A1 c1 3 g.pr ∧ OwnLL w' w.heap.size [obk A0, obk A1] A2 c2 22 3 g.mv := by
 have hlg0 := rg.ow.len
 have hlg1 := rg.pr.len
 have hlg2 := rg.mv.len
 have hkg0 := rg.k0
 have hkg1 := rg.k1
 have hkg2 := rg.k2
 refine enter_ (args := [.agg #[.slice Ag0 g.ow.length cg0, .slice Ag1 g.pr.length cg1, .slice Ag2 g.mv.length cg2]]) Tryd.func13 rfl Tryd.ntmps13 (Nat.le_of_ble_eq_true rfl) (fun act0 f0 => ?_)
 have e0 := Ext.refl w
 refine wp_seq ?_
 refine At.start ?_
 refine At.seq f0 1 [[]] [(1, .pointer (some ⟨w.heap.size, 0, none⟩))] (w.alloc (.cells #[.slice Ag0 g.ow.length cg0, .slice Ag1 g.pr.length cg1, .slice Ag2 g.mv.length cg2] 25 (0, 0))) [] (by kernel_rfl) trivial (fun act4 w1 hw2 f3 => ?_)
 clear f0
 have g5 := gr_alloc hw2
 have szw1 := g5.size
 replace e0 := e0.gr g5 no_row
 have r8 := rg.gr g5 (fun _ h => by cases h)
 clear rg
 have bx9 : Bx w1 (w.heap.size) [.slice Ag0 g.ow.length cg0, .slice Ag1 g.pr.length cg1, .slice Ag2 g.mv.length cg2] 25 := Bx.new hw2
 have := bx9.lt
 clear g5 hw2
 refine At.seq f3 1 [[]] [(2, .pointer (some ⟨w1.heap.size, 0, none⟩))] (w1.alloc (.cells #[.slice none 0 0, .slice none 0 0, .slice none 0 0] 25 (0, 0))) [] (by kernel_rfl) trivial (fun act13 w10 hw11 f12 => ?_)
 clear f3
 have g14 := gr_alloc hw11
 have szw10 := g14.size
 replace e0 := e0.gr g14 no_row
 replace r8 := r8.gr g14 (fun _ h => by cases h)
 replace bx9 := bx9.gr g14 (by simp)
 have bx19 : Bx w10 (w1.heap.size) [.slice none 0 0, .slice none 0 0, .slice none 0 0] 25 := Bx.new hw11
 have := bx19.lt
 clear g14 hw11
 refine At.done rfl ?_
 refine t_n ?_
 refine wp_seq (cut (fun a_ w_ => ∃ (b_24 : Nat) (A_20 : Option Addr) (A_21 : Option Addr) (c_22 : Nat) (c_23 : Nat), (Frm 34 a_ [(3, .pointer (some ⟨b_24, 0, none⟩)), (2, .pointer (some ⟨w1.heap.size, 0, none⟩)), (1, .pointer (some ⟨w.heap.size, 0, none⟩))]) ∧ (Ext w w_) ∧ (RdG w_ 0 w.heap.size Ag0 Ag1 Ag2 cg0 cg1 cg2 g) ∧ (Bx w_ (w.heap.size) [.slice Ag0 g.ow.length cg0, .slice Ag1 g.pr.length cg1, .slice Ag2 g.mv.length cg2] 25) ∧ (Bx w_ (w1.heap.size) [.slice none 0 0, .slice none 0 0, .slice none 0 0] 25) ∧ (OwnR w_ (Sx (w10.heap.size) [obk (A_21), some (b_24)]) (A_20) (c_22) 3 (g.ow : List Int)) ∧ (OwnR w_ (Sx (w10.heap.size) [obk (A_20), some (b_24)]) (A_21) (c_23) 3 (g.pr : List Int)) ∧ (Bx w_ (b_24) [.slice (A_20) ((([] : List Int) ++ g.ow).length) (c_22), .slice (A_21) ((([] : List Int) ++ g.pr).length) (c_23), .slice none 0 0] 25) ∧ (w10.heap.size ≤ b_24) ∧ (w10.heap.size ≤ w_.heap.size)) ?_ ?_)
 ·obtain ⟨Cs25, hCs26⟩ : ∃ c : List (Addr × Value), c = [(⟨w.heap.size, 0, none⟩, (.slice Ag0 g.ow.length cg0)), (⟨w.heap.size, 1, none⟩, (.slice Ag1 g.pr.length cg1))] := ⟨_, rfl⟩
  have hS27 : HoldsC Cs25 w10 := by rw [hCs26]; exact ⟨(bx9.cell (i := 0) rfl), (bx9.cell (i := 1) rfl), trivial⟩
  refine AtH.start Cs25 11 #[false, false, false, false, false, false, false, false, false, false, false] (by kernel_rfl) rfl rfl (fun w29 hw30 => ?_)
  have g28 := gr_drew hw30
  have hS31 := hS27.gr g28
  have szw29 := g28.size
  replace e0 := e0.gr g28 no_row
  replace r8 := r8.gr g28 (fun _ h => by cases h)
  replace bx9 := bx9.gr g28 (by simp)
  replace bx19 := bx19.gr g28 (by simp)
  clear g28 hw30 hS27
  refine AtH.rd (by kernel_rfl) (fun d v c a w h => by cases d <;> exact h) hS31 [1, 2, 5, 6] [[], [.ld (.slice Ag0 g.ow.length cg0)], [], [.ld (.slice Ag1 g.pr.length cg1)]] [(11, .slice Ag1 g.pr.length cg1), (10, .pointer (some ⟨w.heap.size, 1, none⟩)), (7, .slice Ag0 g.ow.length cg0), (6, .pointer (some ⟨w.heap.size, 0, none⟩))] #[false, true, true, false, false, true, true, false, false, false, false] [(∃ j_ : Nat, Cs25[j_]? = some (⟨w.heap.size, 0, none⟩, (.slice Ag0 g.ow.length cg0))), (∃ j_ : Nat, Cs25[j_]? = some (⟨w.heap.size, 1, none⟩, (.slice Ag1 g.pr.length cg1)))] 7 f12 (by kernel_rfl) ⟨⟨0, by rw [hCs26]; rfl⟩, ⟨1, by rw [hCs26]; rfl⟩, trivial⟩ (fun act37 f36 => ?_)
  clear f12
  refine AtH.all [0, 4, 9] 6 (by kernel_rfl) (by simp) ⟨?_, ?_, ?_, trivial⟩
  ·refine OneH.seq f36 [[]] [(5, .slice (some ⟨w29.heap.size, 0, none⟩) 0 0)] (w29.alloc (.cells #[] 3 (0, 0))) [] #[true, true, true, false, false, true, true, false, false, false, false] (by kernel_rfl) (by kernel_rfl) (by kernel_rfl) trivial (fun act42 w39 hw40 f41 => ?_)
   clear f36
   have g43 := gr_alloc hw40
   have hS46 := hS31.gr g43
   refine ⟨hS46, ?_⟩
   have szw39 := g43.size
   replace e0 := e0.gr g43 no_row
   replace r8 := r8.gr g43 (fun _ h => by cases h)
   replace bx9 := bx9.gr g43 (by simp)
   replace bx19 := bx19.gr g43 (by simp)
   have bx45 : Bx w39 (w29.heap.size) [] 3 := Bx.new hw40
   have := bx45.lt
   clear g43 hw40
   refine AtH.all [3, 4, 9] 5 (by kernel_rfl) (by simp) ⟨?_, ?_, ?_, trivial⟩
   ·have ow52 : OwnR w39 (Sx (w29.heap.size) []) (some ⟨w29.heap.size, 0, none⟩) 0 3 ([] : List Int) := Bx.own0 bx45 (Nat.le_refl _)
    clear bx45
    have hl57 : (([] : List Int) ++ g.ow).length = (([] : List Int)).length + (g.ow : List Int).length := List.length_append
    simp only [List.length_cons, List.length_nil] at hl57
    refine OneH.act f41 #[true, true, true, true, false, true, true, false, false, false, false] (by kernel_rfl) (appendR (α := Int) (t := 22) (d := 8) (n := 0) (m := g.ow.length) (cc := cg0) (xs := []) (ys := g.ow) (bytes := 8) (by first | rfl | omega | (simp; done) | (simp; omega)) (by first | rfl | omega | (simp; done) | (simp; omega)) (by kernel_rfl) rfl (by kernel_rfl) ow52 r8.ow.srcR (by simp only [List.length_cons, List.length_nil]; omega) (by simp only [List.length_cons, List.length_nil]; omega)) ?_
    rintro d_ v_ w56 ⟨rfl, A53, c54, ha55⟩
    obtain rfl := ha55.val
    have g58 := ha55.gr
    have hS61 := hS46.grO g58 (by rw [hCs26]; exact ⟨(fun e => by have := ow52.ge _ e; simp only [add_block] at this; omega), (fun e => by have := ow52.ge _ e; simp only [add_block] at this; omega), trivial⟩)
    refine ⟨_, rfl, fun act60 f59 => ⟨hS61, ?_⟩⟩
    clear f41
    have ow62 := ha55.own (Sx (w29.heap.size) []) (fun g _ hs => hs) (show w29.heap.size ≤ w39.heap.size by omega)
    have szw56 := g58.size
    replace e0 := e0.gr g58 (fun k hk => by have := ow52.ge k hk; omega)
    replace r8 := r8.gr g58 (fun k hk => by have := ow52.ge k hk; omega)
    replace bx9 := bx9.gr g58 (fun e => by have := ow52.ge _ e; omega)
    replace bx19 := bx19.gr g58 (fun e => by have := ow52.ge _ e; omega)
    clear ow52 g58 ha55
    replace ow62 : OwnR w56 (Sx (w29.heap.size) []) A53 c54 3 (g.ow : List Int) := ow62
    refine AtH.all [4, 9] 4 (by kernel_rfl) (by simp) ⟨?_, ?_, trivial⟩
    ·refine OneH.seq f59 [[]] [(9, .slice (some ⟨w56.heap.size, 0, none⟩) 0 0)] (w56.alloc (.cells #[] 3 (0, 0))) [] #[true, true, true, true, true, true, true, false, false, false, false] (by kernel_rfl) (by kernel_rfl) (by kernel_rfl) trivial (fun act72 w69 hw70 f71 => ?_)
     clear f59
     have g73 := gr_alloc hw70
     have hS76 := hS61.gr g73
     refine ⟨hS76, ?_⟩
     have szw69 := g73.size
     replace e0 := e0.gr g73 no_row
     replace r8 := r8.gr g73 (fun _ h => by cases h)
     replace bx9 := bx9.gr g73 (by simp)
     replace bx19 := bx19.gr g73 (by simp)
     replace ow62 : OwnR w69 (Sx (w29.heap.size) [some (w56.heap.size)]) A53 c54 3 (g.ow : List Int) := ow62.grA g73 (fun _ _ h => by cases h) (fun k hk hs => ⟨(fun e => by injection e; omega), hs⟩)
     have bx75 : Bx w69 (w56.heap.size) [] 3 := Bx.new hw70
     have := bx75.lt
     clear g73 hw70
     refine AtH.all [7, 9] 3 (by kernel_rfl) (by simp) ⟨?_, ?_, trivial⟩
     ·have ow83 : OwnR w69 (Sx (w56.heap.size) [obk (A53)]) (some ⟨w56.heap.size, 0, none⟩) 0 3 ([] : List Int) := Bx.own0 bx75 ⟨(ow62.neb (fun g hs => hs.1)), (Nat.le_refl _)⟩
      clear bx75
      have hl88 : (([] : List Int) ++ g.pr).length = (([] : List Int)).length + (g.pr : List Int).length := List.length_append
      simp only [List.length_cons, List.length_nil] at hl88
      refine OneH.act f71 #[true, true, true, true, true, true, true, true, false, false, false] (by kernel_rfl) (appendR (α := Int) (t := 22) (d := 12) (n := 0) (m := g.pr.length) (cc := cg1) (xs := []) (ys := g.pr) (bytes := 8) (by first | rfl | omega | (simp; done) | (simp; omega)) (by first | rfl | omega | (simp; done) | (simp; omega)) (by kernel_rfl) rfl (by kernel_rfl) ow83 r8.pr.srcR (by simp only [List.length_cons, List.length_nil]; omega) (by simp only [List.length_cons, List.length_nil]; omega)) ?_
      rintro d_ v_ w87 ⟨rfl, A84, c85, ha86⟩
      obtain rfl := ha86.val
      have g89 := ha86.gr
      have hS92 := hS76.grO g89 (by rw [hCs26]; exact ⟨(fun e => by have := ow83.ge _ e; simp only [add_block] at this; omega), (fun e => by have := ow83.ge _ e; simp only [add_block] at this; omega), trivial⟩)
      refine ⟨_, rfl, fun act91 f90 => ⟨hS92, ?_⟩⟩
      clear f71
      have ow93 := ha86.own (Sx (w56.heap.size) [obk (A53)]) (fun g _ hs => ⟨hs.1, hs.2⟩) ⟨ow62.ne_new, (show w56.heap.size ≤ w69.heap.size by omega)⟩
      have szw87 := g89.size
      replace e0 := e0.gr g89 (fun k hk => by have := ow83.ge k hk; omega)
      replace r8 := r8.gr g89 (fun k hk => by have := ow83.ge k hk; omega)
      replace bx9 := bx9.gr g89 (fun e => by have := ow83.ge _ e; omega)
      replace bx19 := bx19.gr g89 (fun e => by have := ow83.ge _ e; omega)
      replace ow62 : OwnR w87 (Sx (w29.heap.size) [obk (A84)]) A53 c54 3 (g.ow : List Int) := ow62.grA g89 (fun k hk => hk.1) (fun k hk hs => ⟨own_repl ha86.at_ hs.1 hk, hs.2⟩)
      clear ow83 g89 ha86
      replace ow93 : OwnR w87 (Sx (w56.heap.size) [obk (A53)]) A84 c85 3 (g.pr : List Int) := ow93
      refine AtH.rd (by kernel_rfl) (fun d v c a w h => by cases d <;> exact h) hS92 [8] [[]] [(13, .agg #[.slice A53 ((([] : List Int) ++ g.ow).length) c54, .slice A84 ((([] : List Int) ++ g.pr).length) c85, .slice none 0 0])] #[true, true, true, true, true, true, true, true, true, false, false] [] 2 f90 (by kernel_rfl) trivial (fun act101 f100 => ?_)
      clear f90
      refine AtH.all [9] 1 (by kernel_rfl) (by simp) ⟨?_, trivial⟩
      refine OneH.seq f100 [[]] [(3, .pointer (some ⟨w87.heap.size, 0, none⟩))] (w87.alloc (.cells #[.slice none 0 0, .slice none 0 0, .slice none 0 0] 25 (0, 0))) [] #[true, true, true, true, true, true, true, true, true, true, false] (by kernel_rfl) (by kernel_rfl) (by kernel_rfl) trivial (fun act106 w103 hw104 f105 => ?_)
      clear f100
      have g107 := gr_alloc hw104
      have hS102 := hS92.gr g107
      have szw103 := g107.size
      replace e0 := e0.gr g107 no_row
      replace r8 := r8.gr g107 (fun _ h => by cases h)
      replace bx9 := bx9.gr g107 (by simp)
      replace bx19 := bx19.gr g107 (by simp)
      replace ow62 : OwnR w103 (Sx (w29.heap.size) [some (w87.heap.size), obk (A84)]) A53 c54 3 (g.ow : List Int) := ow62.grA g107 (fun _ _ h => by cases h) (fun k hk hs => ⟨(fun e => by injection e; omega), hs.1, hs.2⟩)
      replace ow93 : OwnR w103 (Sx (w56.heap.size) [some (w87.heap.size), obk (A53)]) A84 c85 3 (g.pr : List Int) := ow93.grA g107 (fun _ _ h => by cases h) (fun k hk hs => ⟨(fun e => by injection e; omega), hs.1, hs.2⟩)
      have bx115 : Bx w103 (w87.heap.size) [.slice none 0 0, .slice none 0 0, .slice none 0 0] 25 := Bx.new hw104
      have := bx115.lt
      clear g107 hw104
      refine ⟨hS102, ?_⟩
      refine AtH.all [10] 0 (by kernel_rfl) (by simp) ⟨?_, trivial⟩
      refine OneH.store f105 (t := 25) (b := w87.heap.size) (off := 0) (v := .agg #[.slice A53 ((([] : List Int) ++ g.ow).length) c54, .slice A84 ((([] : List Int) ++ g.pr).length) c85, .slice none 0 0]) #[true, true, true, true, true, true, true, true, true, true, true] (by kernel_rfl) (by kernel_rfl) bx115 (by kernel_rfl) (fun act121 w117 g118 bx119 f120 => ?_)
      clear f105
      replace bx119 : Bx w117 (w87.heap.size) [.slice A53 ((([] : List Int) ++ g.ow).length) c54, .slice A84 ((([] : List Int) ++ g.pr).length) c85, .slice none 0 0] 25 := bx119
      have hS116 := hS102.gr' g118 (by rw [hCs26]; exact ⟨(by simp only [add_block]; omega), (by simp only [add_block]; omega), trivial⟩)
      have szw117 := g118.size
      replace e0 := e0.gr g118 (fun k h => by injection h; omega)
      replace r8 := r8.gr g118 (fun k h => by injection h; omega)
      replace bx9 := bx9.gr g118 (fun h => by injection h; omega)
      replace bx19 := bx19.gr g118 (fun h => by injection h; omega)
      replace ow62 := ow62.gr g118 (fun k hk => hk.1)
      replace ow93 := ow93.gr g118 (fun k hk => hk.1)
      clear bx115 g118
      refine ⟨hS116, ?_⟩
      refine AtH.done (by kernel_rfl) ?_
      clear hS116
      refine t_n ?_
      have f128 := f120.sub (r := [(3, .pointer (some ⟨w87.heap.size, 0, none⟩)), (2, .pointer (some ⟨w1.heap.size, 0, none⟩)), (1, .pointer (some ⟨w.heap.size, 0, none⟩))]) ⟨rfl, rfl, rfl, trivial⟩
      exact ⟨w87.heap.size, A53, A84, c54, c85, f128, e0, r8, bx9, bx19, (ow62.imp (fun g _ hs => ⟨hs.2.1, hs.1, (by have := Sx_base hs; show w10.heap.size ≤ g; omega)⟩)), (ow93.imp (fun g _ hs => ⟨hs.2.1, hs.1, (by have := Sx_base hs; show w10.heap.size ≤ g; omega)⟩)), bx119, (by omega), (by omega)⟩
     ·refine OneH.seq f71 [[]] [(3, .pointer (some ⟨w69.heap.size, 0, none⟩))] (w69.alloc (.cells #[.slice none 0 0, .slice none 0 0, .slice none 0 0] 25 (0, 0))) [] #[true, true, true, true, true, true, true, false, false, true, false] (by kernel_rfl) (by kernel_rfl) (by kernel_rfl) trivial (fun act133 w130 hw131 f132 => ?_)
      clear f71
      have g134 := gr_alloc hw131
      have hS129 := hS76.gr g134
      have szw130 := g134.size
      replace e0 := e0.gr g134 no_row
      replace r8 := r8.gr g134 (fun _ h => by cases h)
      replace bx9 := bx9.gr g134 (by simp)
      replace bx19 := bx19.gr g134 (by simp)
      replace ow62 : OwnR w130 (Sx (w29.heap.size) [some (w69.heap.size), some (w56.heap.size)]) A53 c54 3 (g.ow : List Int) := ow62.grA g134 (fun _ _ h => by cases h) (fun k hk hs => ⟨(fun e => by injection e; omega), hs.1, hs.2⟩)
      replace bx75 := bx75.gr g134 (by simp)
      have bx142 : Bx w130 (w69.heap.size) [.slice none 0 0, .slice none 0 0, .slice none 0 0] 25 := Bx.new hw131
      have := bx142.lt
      clear g134 hw131
      refine ⟨hS129, ?_⟩
      refine AtH.all [7] 2 (by kernel_rfl) (by simp) ⟨?_, trivial⟩
      have ow144 : OwnR w130 (Sx (w56.heap.size) [obk (A53), some (w69.heap.size)]) (some ⟨w56.heap.size, 0, none⟩) 0 3 ([] : List Int) := Bx.own0 bx75 ⟨(ow62.neb (fun g hs => hs.2.1)), (fun e => by injection e; omega), (Nat.le_refl _)⟩
      clear bx75
      have hl149 : (([] : List Int) ++ g.pr).length = (([] : List Int)).length + (g.pr : List Int).length := List.length_append
      simp only [List.length_cons, List.length_nil] at hl149
      refine OneH.act f132 #[true, true, true, true, true, true, true, true, false, true, false] (by kernel_rfl) (appendR (α := Int) (t := 22) (d := 12) (n := 0) (m := g.pr.length) (cc := cg1) (xs := []) (ys := g.pr) (bytes := 8) (by first | rfl | omega | (simp; done) | (simp; omega)) (by first | rfl | omega | (simp; done) | (simp; omega)) (by kernel_rfl) rfl (by kernel_rfl) ow144 r8.pr.srcR (by simp only [List.length_cons, List.length_nil]; omega) (by simp only [List.length_cons, List.length_nil]; omega)) ?_
      rintro d_ v_ w148 ⟨rfl, A145, c146, ha147⟩
      obtain rfl := ha147.val
      have g150 := ha147.gr
      have hS153 := hS129.grO g150 (by rw [hCs26]; exact ⟨(fun e => by have := ow144.ge _ e; simp only [add_block] at this; omega), (fun e => by have := ow144.ge _ e; simp only [add_block] at this; omega), trivial⟩)
      refine ⟨_, rfl, fun act152 f151 => ⟨hS153, ?_⟩⟩
      clear f132
      have ow154 := ha147.own (Sx (w56.heap.size) [obk (A53), some (w69.heap.size)]) (fun g _ hs => ⟨hs.1, hs.2.1, hs.2.2⟩) ⟨ow62.ne_new, (fun e => by injection e; omega), (show w56.heap.size ≤ w130.heap.size by omega)⟩
      have szw148 := g150.size
      replace e0 := e0.gr g150 (fun k hk => by have := ow144.ge k hk; omega)
      replace r8 := r8.gr g150 (fun k hk => by have := ow144.ge k hk; omega)
      replace bx9 := bx9.gr g150 (fun e => by have := ow144.ge _ e; omega)
      replace bx19 := bx19.gr g150 (fun e => by have := ow144.ge _ e; omega)
      replace ow62 : OwnR w148 (Sx (w29.heap.size) [some (w69.heap.size), obk (A145)]) A53 c54 3 (g.ow : List Int) := ow62.grA g150 (fun k hk => hk.2.1) (fun k hk hs => ⟨hs.1, own_repl ha147.at_ hs.2.1 hk, hs.2.2⟩)
      replace bx142 := bx142.gr g150 (ow144.neb (fun g hs => hs.2.1))
      clear ow144 g150 ha147
      replace ow154 : OwnR w148 (Sx (w56.heap.size) [obk (A53), some (w69.heap.size)]) A145 c146 3 (g.pr : List Int) := ow154
      refine AtH.rd (by kernel_rfl) (fun d v c a w h => by cases d <;> exact h) hS153 [8] [[]] [(13, .agg #[.slice A53 ((([] : List Int) ++ g.ow).length) c54, .slice A145 ((([] : List Int) ++ g.pr).length) c146, .slice none 0 0])] #[true, true, true, true, true, true, true, true, true, true, false] [] 1 f151 (by kernel_rfl) trivial (fun act163 f162 => ?_)
      clear f151
      refine AtH.all [10] 0 (by kernel_rfl) (by simp) ⟨?_, trivial⟩
      refine OneH.store f162 (t := 25) (b := w69.heap.size) (off := 0) (v := .agg #[.slice A53 ((([] : List Int) ++ g.ow).length) c54, .slice A145 ((([] : List Int) ++ g.pr).length) c146, .slice none 0 0]) #[true, true, true, true, true, true, true, true, true, true, true] (by kernel_rfl) (by kernel_rfl) bx142 (by kernel_rfl) (fun act169 w165 g166 bx167 f168 => ?_)
      clear f162
      replace bx167 : Bx w165 (w69.heap.size) [.slice A53 ((([] : List Int) ++ g.ow).length) c54, .slice A145 ((([] : List Int) ++ g.pr).length) c146, .slice none 0 0] 25 := bx167
      have hS164 := hS153.gr' g166 (by rw [hCs26]; exact ⟨(by simp only [add_block]; omega), (by simp only [add_block]; omega), trivial⟩)
      have szw165 := g166.size
      replace e0 := e0.gr g166 (fun k h => by injection h; omega)
      replace r8 := r8.gr g166 (fun k h => by injection h; omega)
      replace bx9 := bx9.gr g166 (fun h => by injection h; omega)
      replace bx19 := bx19.gr g166 (fun h => by injection h; omega)
      replace ow62 := ow62.gr g166 (fun k hk => hk.1)
      replace ow154 := ow154.gr g166 (fun k hk => hk.2.1)
      clear bx142 g166
      refine ⟨hS164, ?_⟩
      refine AtH.done (by kernel_rfl) ?_
      clear hS164
      refine t_n ?_
      have f176 := f168.sub (r := [(3, .pointer (some ⟨w69.heap.size, 0, none⟩)), (2, .pointer (some ⟨w1.heap.size, 0, none⟩)), (1, .pointer (some ⟨w.heap.size, 0, none⟩))]) ⟨rfl, rfl, rfl, trivial⟩
      exact ⟨w69.heap.size, A53, A145, c54, c146, f176, e0, r8, bx9, bx19, (ow62.imp (fun g _ hs => ⟨hs.2.1, hs.1, (by have := Sx_base hs; show w10.heap.size ≤ g; omega)⟩)), (ow154.imp (fun g _ hs => ⟨hs.1, hs.2.1, (by have := Sx_base hs; show w10.heap.size ≤ g; omega)⟩)), bx167, (by omega), (by omega)⟩
    ·refine OneH.seq f59 [[]] [(3, .pointer (some ⟨w56.heap.size, 0, none⟩))] (w56.alloc (.cells #[.slice none 0 0, .slice none 0 0, .slice none 0 0] 25 (0, 0))) [] #[true, true, true, true, false, true, true, false, false, true, false] (by kernel_rfl) (by kernel_rfl) (by kernel_rfl) trivial (fun act181 w178 hw179 f180 => ?_)
     clear f59
     have g182 := gr_alloc hw179
     have hS177 := hS61.gr g182
     have szw178 := g182.size
     replace e0 := e0.gr g182 no_row
     replace r8 := r8.gr g182 (fun _ h => by cases h)
     replace bx9 := bx9.gr g182 (by simp)
     replace bx19 := bx19.gr g182 (by simp)
     replace ow62 : OwnR w178 (Sx (w29.heap.size) [some (w56.heap.size)]) A53 c54 3 (g.ow : List Int) := ow62.grA g182 (fun _ _ h => by cases h) (fun k hk hs => ⟨(fun e => by injection e; omega), hs⟩)
     have bx189 : Bx w178 (w56.heap.size) [.slice none 0 0, .slice none 0 0, .slice none 0 0] 25 := Bx.new hw179
     have := bx189.lt
     clear g182 hw179
     refine ⟨hS177, ?_⟩
     refine AtH.all [4] 3 (by kernel_rfl) (by simp) ⟨?_, trivial⟩
     refine OneH.seq f180 [[]] [(9, .slice (some ⟨w178.heap.size, 0, none⟩) 0 0)] (w178.alloc (.cells #[] 3 (0, 0))) [] #[true, true, true, true, true, true, true, false, false, true, false] (by kernel_rfl) (by kernel_rfl) (by kernel_rfl) trivial (fun act194 w191 hw192 f193 => ?_)
     clear f180
     have g195 := gr_alloc hw192
     have hS198 := hS177.gr g195
     refine ⟨hS198, ?_⟩
     have szw191 := g195.size
     replace e0 := e0.gr g195 no_row
     replace r8 := r8.gr g195 (fun _ h => by cases h)
     replace bx9 := bx9.gr g195 (by simp)
     replace bx19 := bx19.gr g195 (by simp)
     replace ow62 : OwnR w191 (Sx (w29.heap.size) [some (w178.heap.size), some (w56.heap.size)]) A53 c54 3 (g.ow : List Int) := ow62.grA g195 (fun _ _ h => by cases h) (fun k hk hs => ⟨(fun e => by injection e; omega), hs.1, hs.2⟩)
     replace bx189 := bx189.gr g195 (by simp)
     have bx197 : Bx w191 (w178.heap.size) [] 3 := Bx.new hw192
     have := bx197.lt
     clear g195 hw192
     refine AtH.all [7] 2 (by kernel_rfl) (by simp) ⟨?_, trivial⟩
     have ow206 : OwnR w191 (Sx (w178.heap.size) [obk (A53)]) (some ⟨w178.heap.size, 0, none⟩) 0 3 ([] : List Int) := Bx.own0 bx197 ⟨(ow62.neb (fun g hs => hs.1)), (Nat.le_refl _)⟩
     clear bx197
     have hl211 : (([] : List Int) ++ g.pr).length = (([] : List Int)).length + (g.pr : List Int).length := List.length_append
     simp only [List.length_cons, List.length_nil] at hl211
     refine OneH.act f193 #[true, true, true, true, true, true, true, true, false, true, false] (by kernel_rfl) (appendR (α := Int) (t := 22) (d := 12) (n := 0) (m := g.pr.length) (cc := cg1) (xs := []) (ys := g.pr) (bytes := 8) (by first | rfl | omega | (simp; done) | (simp; omega)) (by first | rfl | omega | (simp; done) | (simp; omega)) (by kernel_rfl) rfl (by kernel_rfl) ow206 r8.pr.srcR (by simp only [List.length_cons, List.length_nil]; omega) (by simp only [List.length_cons, List.length_nil]; omega)) ?_
     rintro d_ v_ w210 ⟨rfl, A207, c208, ha209⟩
     obtain rfl := ha209.val
     have g212 := ha209.gr
     have hS215 := hS198.grO g212 (by rw [hCs26]; exact ⟨(fun e => by have := ow206.ge _ e; simp only [add_block] at this; omega), (fun e => by have := ow206.ge _ e; simp only [add_block] at this; omega), trivial⟩)
     refine ⟨_, rfl, fun act214 f213 => ⟨hS215, ?_⟩⟩
     clear f193
     have ow216 := ha209.own (Sx (w178.heap.size) [obk (A53)]) (fun g _ hs => ⟨hs.1, hs.2⟩) ⟨ow62.ne_new, (show w178.heap.size ≤ w191.heap.size by omega)⟩
     have szw210 := g212.size
     replace e0 := e0.gr g212 (fun k hk => by have := ow206.ge k hk; omega)
     replace r8 := r8.gr g212 (fun k hk => by have := ow206.ge k hk; omega)
     replace bx9 := bx9.gr g212 (fun e => by have := ow206.ge _ e; omega)
     replace bx19 := bx19.gr g212 (fun e => by have := ow206.ge _ e; omega)
     replace ow62 : OwnR w210 (Sx (w29.heap.size) [obk (A207), some (w56.heap.size)]) A53 c54 3 (g.ow : List Int) := ow62.grA g212 (fun k hk => hk.1) (fun k hk hs => ⟨own_repl ha209.at_ hs.1 hk, hs.2.1, hs.2.2⟩)
     replace bx189 := bx189.gr g212 (fun e => by have := ow206.ge _ e; omega)
     clear ow206 g212 ha209
     replace ow216 : OwnR w210 (Sx (w178.heap.size) [obk (A53)]) A207 c208 3 (g.pr : List Int) := ow216
     refine AtH.rd (by kernel_rfl) (fun d v c a w h => by cases d <;> exact h) hS215 [8] [[]] [(13, .agg #[.slice A53 ((([] : List Int) ++ g.ow).length) c54, .slice A207 ((([] : List Int) ++ g.pr).length) c208, .slice none 0 0])] #[true, true, true, true, true, true, true, true, true, true, false] [] 1 f213 (by kernel_rfl) trivial (fun act225 f224 => ?_)
     clear f213
     refine AtH.all [10] 0 (by kernel_rfl) (by simp) ⟨?_, trivial⟩
     refine OneH.store f224 (t := 25) (b := w56.heap.size) (off := 0) (v := .agg #[.slice A53 ((([] : List Int) ++ g.ow).length) c54, .slice A207 ((([] : List Int) ++ g.pr).length) c208, .slice none 0 0]) #[true, true, true, true, true, true, true, true, true, true, true] (by kernel_rfl) (by kernel_rfl) bx189 (by kernel_rfl) (fun act231 w227 g228 bx229 f230 => ?_)
     clear f224
     replace bx229 : Bx w227 (w56.heap.size) [.slice A53 ((([] : List Int) ++ g.ow).length) c54, .slice A207 ((([] : List Int) ++ g.pr).length) c208, .slice none 0 0] 25 := bx229
     have hS226 := hS215.gr' g228 (by rw [hCs26]; exact ⟨(by simp only [add_block]; omega), (by simp only [add_block]; omega), trivial⟩)
     have szw227 := g228.size
     replace e0 := e0.gr g228 (fun k h => by injection h; omega)
     replace r8 := r8.gr g228 (fun k h => by injection h; omega)
     replace bx9 := bx9.gr g228 (fun h => by injection h; omega)
     replace bx19 := bx19.gr g228 (fun h => by injection h; omega)
     replace ow62 := ow62.gr g228 (fun k hk => hk.2.1)
     replace ow216 := ow216.gr g228 (fun k hk e => by have := Sx_base hk; injection e; omega)
     clear bx189 g228
     refine ⟨hS226, ?_⟩
     refine AtH.done (by kernel_rfl) ?_
     clear hS226
     refine t_n ?_
     have f238 := f230.sub (r := [(3, .pointer (some ⟨w56.heap.size, 0, none⟩)), (2, .pointer (some ⟨w1.heap.size, 0, none⟩)), (1, .pointer (some ⟨w.heap.size, 0, none⟩))]) ⟨rfl, rfl, rfl, trivial⟩
     exact ⟨w56.heap.size, A53, A207, c54, c208, f238, e0, r8, bx9, bx19, (ow62.imp (fun g _ hs => ⟨hs.1, hs.2.1, (by have := Sx_base hs; show w10.heap.size ≤ g; omega)⟩)), (ow216.imp (fun g _ hs => ⟨hs.1, (fun e => by have := Sx_base hs; injection e; omega), (by have := Sx_base hs; show w10.heap.size ≤ g; omega)⟩)), bx229, (by omega), (by omega)⟩
   ·refine OneH.seq f41 [[]] [(9, .slice (some ⟨w39.heap.size, 0, none⟩) 0 0)] (w39.alloc (.cells #[] 3 (0, 0))) [] #[true, true, true, false, true, true, true, false, false, false, false] (by kernel_rfl) (by kernel_rfl) (by kernel_rfl) trivial (fun act243 w240 hw241 f242 => ?_)
    clear f41
    have g244 := gr_alloc hw241
    have hS247 := hS46.gr g244
    refine ⟨hS247, ?_⟩
    have szw240 := g244.size
    replace e0 := e0.gr g244 no_row
    replace r8 := r8.gr g244 (fun _ h => by cases h)
    replace bx9 := bx9.gr g244 (by simp)
    replace bx19 := bx19.gr g244 (by simp)
    replace bx45 := bx45.gr g244 (by simp)
    have bx246 : Bx w240 (w39.heap.size) [] 3 := Bx.new hw241
    have := bx246.lt
    clear g244 hw241
    refine AtH.all [3, 9] 4 (by kernel_rfl) (by simp) ⟨?_, ?_, trivial⟩
    ·have ow254 : OwnR w240 (Sx (w29.heap.size) [some (w39.heap.size)]) (some ⟨w29.heap.size, 0, none⟩) 0 3 ([] : List Int) := Bx.own0 bx45 ⟨(fun e => by injection e; omega), (Nat.le_refl _)⟩
     clear bx45
     have hl259 : (([] : List Int) ++ g.ow).length = (([] : List Int)).length + (g.ow : List Int).length := List.length_append
     simp only [List.length_cons, List.length_nil] at hl259
     refine OneH.act f242 #[true, true, true, true, true, true, true, false, false, false, false] (by kernel_rfl) (appendR (α := Int) (t := 22) (d := 8) (n := 0) (m := g.ow.length) (cc := cg0) (xs := []) (ys := g.ow) (bytes := 8) (by first | rfl | omega | (simp; done) | (simp; omega)) (by first | rfl | omega | (simp; done) | (simp; omega)) (by kernel_rfl) rfl (by kernel_rfl) ow254 r8.ow.srcR (by simp only [List.length_cons, List.length_nil]; omega) (by simp only [List.length_cons, List.length_nil]; omega)) ?_
     rintro d_ v_ w258 ⟨rfl, A255, c256, ha257⟩
     obtain rfl := ha257.val
     have g260 := ha257.gr
     have hS263 := hS247.grO g260 (by rw [hCs26]; exact ⟨(fun e => by have := ow254.ge _ e; simp only [add_block] at this; omega), (fun e => by have := ow254.ge _ e; simp only [add_block] at this; omega), trivial⟩)
     refine ⟨_, rfl, fun act262 f261 => ⟨hS263, ?_⟩⟩
     clear f242
     have ow264 := ha257.own (Sx (w29.heap.size) [some (w39.heap.size)]) (fun g _ hs => ⟨hs.1, hs.2⟩) ⟨(fun e => by injection e; omega), (show w29.heap.size ≤ w240.heap.size by omega)⟩
     have szw258 := g260.size
     replace e0 := e0.gr g260 (fun k hk => by have := ow254.ge k hk; omega)
     replace r8 := r8.gr g260 (fun k hk => by have := ow254.ge k hk; omega)
     replace bx9 := bx9.gr g260 (fun e => by have := ow254.ge _ e; omega)
     replace bx19 := bx19.gr g260 (fun e => by have := ow254.ge _ e; omega)
     replace bx246 := bx246.gr g260 (ow254.neb (fun g hs => hs.1))
     clear ow254 g260 ha257
     replace ow264 : OwnR w258 (Sx (w29.heap.size) [some (w39.heap.size)]) A255 c256 3 (g.ow : List Int) := ow264
     refine AtH.all [7, 9] 3 (by kernel_rfl) (by simp) ⟨?_, ?_, trivial⟩
     ·have ow272 : OwnR w258 (Sx (w39.heap.size) [obk (A255)]) (some ⟨w39.heap.size, 0, none⟩) 0 3 ([] : List Int) := Bx.own0 bx246 ⟨(ow264.neb (fun g hs => hs.1)), (Nat.le_refl _)⟩
      clear bx246
      have hl277 : (([] : List Int) ++ g.pr).length = (([] : List Int)).length + (g.pr : List Int).length := List.length_append
      simp only [List.length_cons, List.length_nil] at hl277
      refine OneH.act f261 #[true, true, true, true, true, true, true, true, false, false, false] (by kernel_rfl) (appendR (α := Int) (t := 22) (d := 12) (n := 0) (m := g.pr.length) (cc := cg1) (xs := []) (ys := g.pr) (bytes := 8) (by first | rfl | omega | (simp; done) | (simp; omega)) (by first | rfl | omega | (simp; done) | (simp; omega)) (by kernel_rfl) rfl (by kernel_rfl) ow272 r8.pr.srcR (by simp only [List.length_cons, List.length_nil]; omega) (by simp only [List.length_cons, List.length_nil]; omega)) ?_
      rintro d_ v_ w276 ⟨rfl, A273, c274, ha275⟩
      obtain rfl := ha275.val
      have g278 := ha275.gr
      have hS281 := hS263.grO g278 (by rw [hCs26]; exact ⟨(fun e => by have := ow272.ge _ e; simp only [add_block] at this; omega), (fun e => by have := ow272.ge _ e; simp only [add_block] at this; omega), trivial⟩)
      refine ⟨_, rfl, fun act280 f279 => ⟨hS281, ?_⟩⟩
      clear f261
      have ow282 := ha275.own (Sx (w39.heap.size) [obk (A255)]) (fun g _ hs => ⟨hs.1, hs.2⟩) ⟨ow264.ne_new, (show w39.heap.size ≤ w258.heap.size by omega)⟩
      have szw276 := g278.size
      replace e0 := e0.gr g278 (fun k hk => by have := ow272.ge k hk; omega)
      replace r8 := r8.gr g278 (fun k hk => by have := ow272.ge k hk; omega)
      replace bx9 := bx9.gr g278 (fun e => by have := ow272.ge _ e; omega)
      replace bx19 := bx19.gr g278 (fun e => by have := ow272.ge _ e; omega)
      replace ow264 : OwnR w276 (Sx (w29.heap.size) [obk (A273)]) A255 c256 3 (g.ow : List Int) := ow264.grA g278 (fun k hk => hk.1) (fun k hk hs => ⟨own_repl ha275.at_ hs.1 hk, hs.2⟩)
      clear ow272 g278 ha275
      replace ow282 : OwnR w276 (Sx (w39.heap.size) [obk (A255)]) A273 c274 3 (g.pr : List Int) := ow282
      refine AtH.rd (by kernel_rfl) (fun d v c a w h => by cases d <;> exact h) hS281 [8] [[]] [(13, .agg #[.slice A255 ((([] : List Int) ++ g.ow).length) c256, .slice A273 ((([] : List Int) ++ g.pr).length) c274, .slice none 0 0])] #[true, true, true, true, true, true, true, true, true, false, false] [] 2 f279 (by kernel_rfl) trivial (fun act290 f289 => ?_)
      clear f279
      refine AtH.all [9] 1 (by kernel_rfl) (by simp) ⟨?_, trivial⟩
      refine OneH.seq f289 [[]] [(3, .pointer (some ⟨w276.heap.size, 0, none⟩))] (w276.alloc (.cells #[.slice none 0 0, .slice none 0 0, .slice none 0 0] 25 (0, 0))) [] #[true, true, true, true, true, true, true, true, true, true, false] (by kernel_rfl) (by kernel_rfl) (by kernel_rfl) trivial (fun act295 w292 hw293 f294 => ?_)
      clear f289
      have g296 := gr_alloc hw293
      have hS291 := hS281.gr g296
      have szw292 := g296.size
      replace e0 := e0.gr g296 no_row
      replace r8 := r8.gr g296 (fun _ h => by cases h)
      replace bx9 := bx9.gr g296 (by simp)
      replace bx19 := bx19.gr g296 (by simp)
      replace ow264 : OwnR w292 (Sx (w29.heap.size) [some (w276.heap.size), obk (A273)]) A255 c256 3 (g.ow : List Int) := ow264.grA g296 (fun _ _ h => by cases h) (fun k hk hs => ⟨(fun e => by injection e; omega), hs.1, hs.2⟩)
      replace ow282 : OwnR w292 (Sx (w39.heap.size) [some (w276.heap.size), obk (A255)]) A273 c274 3 (g.pr : List Int) := ow282.grA g296 (fun _ _ h => by cases h) (fun k hk hs => ⟨(fun e => by injection e; omega), hs.1, hs.2⟩)
      have bx304 : Bx w292 (w276.heap.size) [.slice none 0 0, .slice none 0 0, .slice none 0 0] 25 := Bx.new hw293
      have := bx304.lt
      clear g296 hw293
      refine ⟨hS291, ?_⟩
      refine AtH.all [10] 0 (by kernel_rfl) (by simp) ⟨?_, trivial⟩
      refine OneH.store f294 (t := 25) (b := w276.heap.size) (off := 0) (v := .agg #[.slice A255 ((([] : List Int) ++ g.ow).length) c256, .slice A273 ((([] : List Int) ++ g.pr).length) c274, .slice none 0 0]) #[true, true, true, true, true, true, true, true, true, true, true] (by kernel_rfl) (by kernel_rfl) bx304 (by kernel_rfl) (fun act310 w306 g307 bx308 f309 => ?_)
      clear f294
      replace bx308 : Bx w306 (w276.heap.size) [.slice A255 ((([] : List Int) ++ g.ow).length) c256, .slice A273 ((([] : List Int) ++ g.pr).length) c274, .slice none 0 0] 25 := bx308
      have hS305 := hS291.gr' g307 (by rw [hCs26]; exact ⟨(by simp only [add_block]; omega), (by simp only [add_block]; omega), trivial⟩)
      have szw306 := g307.size
      replace e0 := e0.gr g307 (fun k h => by injection h; omega)
      replace r8 := r8.gr g307 (fun k h => by injection h; omega)
      replace bx9 := bx9.gr g307 (fun h => by injection h; omega)
      replace bx19 := bx19.gr g307 (fun h => by injection h; omega)
      replace ow264 := ow264.gr g307 (fun k hk => hk.1)
      replace ow282 := ow282.gr g307 (fun k hk => hk.1)
      clear bx304 g307
      refine ⟨hS305, ?_⟩
      refine AtH.done (by kernel_rfl) ?_
      clear hS305
      refine t_n ?_
      have f317 := f309.sub (r := [(3, .pointer (some ⟨w276.heap.size, 0, none⟩)), (2, .pointer (some ⟨w1.heap.size, 0, none⟩)), (1, .pointer (some ⟨w.heap.size, 0, none⟩))]) ⟨rfl, rfl, rfl, trivial⟩
      exact ⟨w276.heap.size, A255, A273, c256, c274, f317, e0, r8, bx9, bx19, (ow264.imp (fun g _ hs => ⟨hs.2.1, hs.1, (by have := Sx_base hs; show w10.heap.size ≤ g; omega)⟩)), (ow282.imp (fun g _ hs => ⟨hs.2.1, hs.1, (by have := Sx_base hs; show w10.heap.size ≤ g; omega)⟩)), bx308, (by omega), (by omega)⟩
     ·refine OneH.seq f261 [[]] [(3, .pointer (some ⟨w258.heap.size, 0, none⟩))] (w258.alloc (.cells #[.slice none 0 0, .slice none 0 0, .slice none 0 0] 25 (0, 0))) [] #[true, true, true, true, true, true, true, false, false, true, false] (by kernel_rfl) (by kernel_rfl) (by kernel_rfl) trivial (fun act322 w319 hw320 f321 => ?_)
      clear f261
      have g323 := gr_alloc hw320
      have hS318 := hS263.gr g323
      have szw319 := g323.size
      replace e0 := e0.gr g323 no_row
      replace r8 := r8.gr g323 (fun _ h => by cases h)
      replace bx9 := bx9.gr g323 (by simp)
      replace bx19 := bx19.gr g323 (by simp)
      replace ow264 : OwnR w319 (Sx (w29.heap.size) [some (w258.heap.size), some (w39.heap.size)]) A255 c256 3 (g.ow : List Int) := ow264.grA g323 (fun _ _ h => by cases h) (fun k hk hs => ⟨(fun e => by injection e; omega), hs.1, hs.2⟩)
      replace bx246 := bx246.gr g323 (by simp)
      have bx331 : Bx w319 (w258.heap.size) [.slice none 0 0, .slice none 0 0, .slice none 0 0] 25 := Bx.new hw320
      have := bx331.lt
      clear g323 hw320
      refine ⟨hS318, ?_⟩
      refine AtH.all [7] 2 (by kernel_rfl) (by simp) ⟨?_, trivial⟩
      have ow333 : OwnR w319 (Sx (w39.heap.size) [obk (A255), some (w258.heap.size)]) (some ⟨w39.heap.size, 0, none⟩) 0 3 ([] : List Int) := Bx.own0 bx246 ⟨(ow264.neb (fun g hs => hs.2.1)), (fun e => by injection e; omega), (Nat.le_refl _)⟩
      clear bx246
      have hl338 : (([] : List Int) ++ g.pr).length = (([] : List Int)).length + (g.pr : List Int).length := List.length_append
      simp only [List.length_cons, List.length_nil] at hl338
      refine OneH.act f321 #[true, true, true, true, true, true, true, true, false, true, false] (by kernel_rfl) (appendR (α := Int) (t := 22) (d := 12) (n := 0) (m := g.pr.length) (cc := cg1) (xs := []) (ys := g.pr) (bytes := 8) (by first | rfl | omega | (simp; done) | (simp; omega)) (by first | rfl | omega | (simp; done) | (simp; omega)) (by kernel_rfl) rfl (by kernel_rfl) ow333 r8.pr.srcR (by simp only [List.length_cons, List.length_nil]; omega) (by simp only [List.length_cons, List.length_nil]; omega)) ?_
      rintro d_ v_ w337 ⟨rfl, A334, c335, ha336⟩
      obtain rfl := ha336.val
      have g339 := ha336.gr
      have hS342 := hS318.grO g339 (by rw [hCs26]; exact ⟨(fun e => by have := ow333.ge _ e; simp only [add_block] at this; omega), (fun e => by have := ow333.ge _ e; simp only [add_block] at this; omega), trivial⟩)
      refine ⟨_, rfl, fun act341 f340 => ⟨hS342, ?_⟩⟩
      clear f321
      have ow343 := ha336.own (Sx (w39.heap.size) [obk (A255), some (w258.heap.size)]) (fun g _ hs => ⟨hs.1, hs.2.1, hs.2.2⟩) ⟨ow264.ne_new, (fun e => by injection e; omega), (show w39.heap.size ≤ w319.heap.size by omega)⟩
      have szw337 := g339.size
      replace e0 := e0.gr g339 (fun k hk => by have := ow333.ge k hk; omega)
      replace r8 := r8.gr g339 (fun k hk => by have := ow333.ge k hk; omega)
      replace bx9 := bx9.gr g339 (fun e => by have := ow333.ge _ e; omega)
      replace bx19 := bx19.gr g339 (fun e => by have := ow333.ge _ e; omega)
      replace ow264 : OwnR w337 (Sx (w29.heap.size) [some (w258.heap.size), obk (A334)]) A255 c256 3 (g.ow : List Int) := ow264.grA g339 (fun k hk => hk.2.1) (fun k hk hs => ⟨hs.1, own_repl ha336.at_ hs.2.1 hk, hs.2.2⟩)
      replace bx331 := bx331.gr g339 (ow333.neb (fun g hs => hs.2.1))
      clear ow333 g339 ha336
      replace ow343 : OwnR w337 (Sx (w39.heap.size) [obk (A255), some (w258.heap.size)]) A334 c335 3 (g.pr : List Int) := ow343
      refine AtH.rd (by kernel_rfl) (fun d v c a w h => by cases d <;> exact h) hS342 [8] [[]] [(13, .agg #[.slice A255 ((([] : List Int) ++ g.ow).length) c256, .slice A334 ((([] : List Int) ++ g.pr).length) c335, .slice none 0 0])] #[true, true, true, true, true, true, true, true, true, true, false] [] 1 f340 (by kernel_rfl) trivial (fun act352 f351 => ?_)
      clear f340
      refine AtH.all [10] 0 (by kernel_rfl) (by simp) ⟨?_, trivial⟩
      refine OneH.store f351 (t := 25) (b := w258.heap.size) (off := 0) (v := .agg #[.slice A255 ((([] : List Int) ++ g.ow).length) c256, .slice A334 ((([] : List Int) ++ g.pr).length) c335, .slice none 0 0]) #[true, true, true, true, true, true, true, true, true, true, true] (by kernel_rfl) (by kernel_rfl) bx331 (by kernel_rfl) (fun act358 w354 g355 bx356 f357 => ?_)
      clear f351
      replace bx356 : Bx w354 (w258.heap.size) [.slice A255 ((([] : List Int) ++ g.ow).length) c256, .slice A334 ((([] : List Int) ++ g.pr).length) c335, .slice none 0 0] 25 := bx356
      have hS353 := hS342.gr' g355 (by rw [hCs26]; exact ⟨(by simp only [add_block]; omega), (by simp only [add_block]; omega), trivial⟩)
      have szw354 := g355.size
      replace e0 := e0.gr g355 (fun k h => by injection h; omega)
      replace r8 := r8.gr g355 (fun k h => by injection h; omega)
      replace bx9 := bx9.gr g355 (fun h => by injection h; omega)
      replace bx19 := bx19.gr g355 (fun h => by injection h; omega)
      replace ow264 := ow264.gr g355 (fun k hk => hk.1)
      replace ow343 := ow343.gr g355 (fun k hk => hk.2.1)
      clear bx331 g355
      refine ⟨hS353, ?_⟩
      refine AtH.done (by kernel_rfl) ?_
      clear hS353
      refine t_n ?_
      have f365 := f357.sub (r := [(3, .pointer (some ⟨w258.heap.size, 0, none⟩)), (2, .pointer (some ⟨w1.heap.size, 0, none⟩)), (1, .pointer (some ⟨w.heap.size, 0, none⟩))]) ⟨rfl, rfl, rfl, trivial⟩
      exact ⟨w258.heap.size, A255, A334, c256, c335, f365, e0, r8, bx9, bx19, (ow264.imp (fun g _ hs => ⟨hs.2.1, hs.1, (by have := Sx_base hs; show w10.heap.size ≤ g; omega)⟩)), (ow343.imp (fun g _ hs => ⟨hs.1, hs.2.1, (by have := Sx_base hs; show w10.heap.size ≤ g; omega)⟩)), bx356, (by omega), (by omega)⟩
    ·refine OneH.seq f242 [[]] [(3, .pointer (some ⟨w240.heap.size, 0, none⟩))] (w240.alloc (.cells #[.slice none 0 0, .slice none 0 0, .slice none 0 0] 25 (0, 0))) [] #[true, true, true, false, true, true, true, false, false, true, false] (by kernel_rfl) (by kernel_rfl) (by kernel_rfl) trivial (fun act370 w367 hw368 f369 => ?_)
     clear f242
     have g371 := gr_alloc hw368
     have hS366 := hS247.gr g371
     have szw367 := g371.size
     replace e0 := e0.gr g371 no_row
     replace r8 := r8.gr g371 (fun _ h => by cases h)
     replace bx9 := bx9.gr g371 (by simp)
     replace bx19 := bx19.gr g371 (by simp)
     replace bx45 := bx45.gr g371 (by simp)
     replace bx246 := bx246.gr g371 (by simp)
     have bx379 : Bx w367 (w240.heap.size) [.slice none 0 0, .slice none 0 0, .slice none 0 0] 25 := Bx.new hw368
     have := bx379.lt
     clear g371 hw368
     refine ⟨hS366, ?_⟩
     refine AtH.all [3] 3 (by kernel_rfl) (by simp) ⟨?_, trivial⟩
     have ow381 : OwnR w367 (Sx (w29.heap.size) [some (w39.heap.size), some (w240.heap.size)]) (some ⟨w29.heap.size, 0, none⟩) 0 3 ([] : List Int) := Bx.own0 bx45 ⟨(fun e => by injection e; omega), (fun e => by injection e; omega), (Nat.le_refl _)⟩
     clear bx45
     have hl386 : (([] : List Int) ++ g.ow).length = (([] : List Int)).length + (g.ow : List Int).length := List.length_append
     simp only [List.length_cons, List.length_nil] at hl386
     refine OneH.act f369 #[true, true, true, true, true, true, true, false, false, true, false] (by kernel_rfl) (appendR (α := Int) (t := 22) (d := 8) (n := 0) (m := g.ow.length) (cc := cg0) (xs := []) (ys := g.ow) (bytes := 8) (by first | rfl | omega | (simp; done) | (simp; omega)) (by first | rfl | omega | (simp; done) | (simp; omega)) (by kernel_rfl) rfl (by kernel_rfl) ow381 r8.ow.srcR (by simp only [List.length_cons, List.length_nil]; omega) (by simp only [List.length_cons, List.length_nil]; omega)) ?_
     rintro d_ v_ w385 ⟨rfl, A382, c383, ha384⟩
     obtain rfl := ha384.val
     have g387 := ha384.gr
     have hS390 := hS366.grO g387 (by rw [hCs26]; exact ⟨(fun e => by have := ow381.ge _ e; simp only [add_block] at this; omega), (fun e => by have := ow381.ge _ e; simp only [add_block] at this; omega), trivial⟩)
     refine ⟨_, rfl, fun act389 f388 => ⟨hS390, ?_⟩⟩
     clear f369
     have ow391 := ha384.own (Sx (w29.heap.size) [some (w39.heap.size), some (w240.heap.size)]) (fun g _ hs => ⟨hs.1, hs.2.1, hs.2.2⟩) ⟨(fun e => by injection e; omega), (fun e => by injection e; omega), (show w29.heap.size ≤ w367.heap.size by omega)⟩
     have szw385 := g387.size
     replace e0 := e0.gr g387 (fun k hk => by have := ow381.ge k hk; omega)
     replace r8 := r8.gr g387 (fun k hk => by have := ow381.ge k hk; omega)
     replace bx9 := bx9.gr g387 (fun e => by have := ow381.ge _ e; omega)
     replace bx19 := bx19.gr g387 (fun e => by have := ow381.ge _ e; omega)
     replace bx246 := bx246.gr g387 (ow381.neb (fun g hs => hs.1))
     replace bx379 := bx379.gr g387 (ow381.neb (fun g hs => hs.2.1))
     clear ow381 g387 ha384
     replace ow391 : OwnR w385 (Sx (w29.heap.size) [some (w39.heap.size), some (w240.heap.size)]) A382 c383 3 (g.ow : List Int) := ow391
     refine AtH.all [7] 2 (by kernel_rfl) (by simp) ⟨?_, trivial⟩
     have ow400 : OwnR w385 (Sx (w39.heap.size) [obk (A382), some (w240.heap.size)]) (some ⟨w39.heap.size, 0, none⟩) 0 3 ([] : List Int) := Bx.own0 bx246 ⟨(ow391.neb (fun g hs => hs.1)), (fun e => by injection e; omega), (Nat.le_refl _)⟩
     clear bx246
     have hl405 : (([] : List Int) ++ g.pr).length = (([] : List Int)).length + (g.pr : List Int).length := List.length_append
     simp only [List.length_cons, List.length_nil] at hl405
     refine OneH.act f388 #[true, true, true, true, true, true, true, true, false, true, false] (by kernel_rfl) (appendR (α := Int) (t := 22) (d := 12) (n := 0) (m := g.pr.length) (cc := cg1) (xs := []) (ys := g.pr) (bytes := 8) (by first | rfl | omega | (simp; done) | (simp; omega)) (by first | rfl | omega | (simp; done) | (simp; omega)) (by kernel_rfl) rfl (by kernel_rfl) ow400 r8.pr.srcR (by simp only [List.length_cons, List.length_nil]; omega) (by simp only [List.length_cons, List.length_nil]; omega)) ?_
     rintro d_ v_ w404 ⟨rfl, A401, c402, ha403⟩
     obtain rfl := ha403.val
     have g406 := ha403.gr
     have hS409 := hS390.grO g406 (by rw [hCs26]; exact ⟨(fun e => by have := ow400.ge _ e; simp only [add_block] at this; omega), (fun e => by have := ow400.ge _ e; simp only [add_block] at this; omega), trivial⟩)
     refine ⟨_, rfl, fun act408 f407 => ⟨hS409, ?_⟩⟩
     clear f388
     have ow410 := ha403.own (Sx (w39.heap.size) [obk (A382), some (w240.heap.size)]) (fun g _ hs => ⟨hs.1, hs.2.1, hs.2.2⟩) ⟨ow391.ne_new, (fun e => by injection e; omega), (show w39.heap.size ≤ w385.heap.size by omega)⟩
     have szw404 := g406.size
     replace e0 := e0.gr g406 (fun k hk => by have := ow400.ge k hk; omega)
     replace r8 := r8.gr g406 (fun k hk => by have := ow400.ge k hk; omega)
     replace bx9 := bx9.gr g406 (fun e => by have := ow400.ge _ e; omega)
     replace bx19 := bx19.gr g406 (fun e => by have := ow400.ge _ e; omega)
     replace ow391 : OwnR w404 (Sx (w29.heap.size) [obk (A401), some (w240.heap.size)]) A382 c383 3 (g.ow : List Int) := ow391.grA g406 (fun k hk => hk.1) (fun k hk hs => ⟨own_repl ha403.at_ hs.1 hk, hs.2.1, hs.2.2⟩)
     replace bx379 := bx379.gr g406 (ow400.neb (fun g hs => hs.2.1))
     clear ow400 g406 ha403
     replace ow410 : OwnR w404 (Sx (w39.heap.size) [obk (A382), some (w240.heap.size)]) A401 c402 3 (g.pr : List Int) := ow410
     refine AtH.rd (by kernel_rfl) (fun d v c a w h => by cases d <;> exact h) hS409 [8] [[]] [(13, .agg #[.slice A382 ((([] : List Int) ++ g.ow).length) c383, .slice A401 ((([] : List Int) ++ g.pr).length) c402, .slice none 0 0])] #[true, true, true, true, true, true, true, true, true, true, false] [] 1 f407 (by kernel_rfl) trivial (fun act419 f418 => ?_)
     clear f407
     refine AtH.all [10] 0 (by kernel_rfl) (by simp) ⟨?_, trivial⟩
     refine OneH.store f418 (t := 25) (b := w240.heap.size) (off := 0) (v := .agg #[.slice A382 ((([] : List Int) ++ g.ow).length) c383, .slice A401 ((([] : List Int) ++ g.pr).length) c402, .slice none 0 0]) #[true, true, true, true, true, true, true, true, true, true, true] (by kernel_rfl) (by kernel_rfl) bx379 (by kernel_rfl) (fun act425 w421 g422 bx423 f424 => ?_)
     clear f418
     replace bx423 : Bx w421 (w240.heap.size) [.slice A382 ((([] : List Int) ++ g.ow).length) c383, .slice A401 ((([] : List Int) ++ g.pr).length) c402, .slice none 0 0] 25 := bx423
     have hS420 := hS409.gr' g422 (by rw [hCs26]; exact ⟨(by simp only [add_block]; omega), (by simp only [add_block]; omega), trivial⟩)
     have szw421 := g422.size
     replace e0 := e0.gr g422 (fun k h => by injection h; omega)
     replace r8 := r8.gr g422 (fun k h => by injection h; omega)
     replace bx9 := bx9.gr g422 (fun h => by injection h; omega)
     replace bx19 := bx19.gr g422 (fun h => by injection h; omega)
     replace ow391 := ow391.gr g422 (fun k hk => hk.2.1)
     replace ow410 := ow410.gr g422 (fun k hk => hk.2.1)
     clear bx379 g422
     refine ⟨hS420, ?_⟩
     refine AtH.done (by kernel_rfl) ?_
     clear hS420
     refine t_n ?_
     have f432 := f424.sub (r := [(3, .pointer (some ⟨w240.heap.size, 0, none⟩)), (2, .pointer (some ⟨w1.heap.size, 0, none⟩)), (1, .pointer (some ⟨w.heap.size, 0, none⟩))]) ⟨rfl, rfl, rfl, trivial⟩
     exact ⟨w240.heap.size, A382, A401, c383, c402, f432, e0, r8, bx9, bx19, (ow391.imp (fun g _ hs => ⟨hs.1, hs.2.1, (by have := Sx_base hs; show w10.heap.size ≤ g; omega)⟩)), (ow410.imp (fun g _ hs => ⟨hs.1, hs.2.1, (by have := Sx_base hs; show w10.heap.size ≤ g; omega)⟩)), bx423, (by omega), (by omega)⟩
   ·refine OneH.seq f41 [[]] [(3, .pointer (some ⟨w39.heap.size, 0, none⟩))] (w39.alloc (.cells #[.slice none 0 0, .slice none 0 0, .slice none 0 0] 25 (0, 0))) [] #[true, true, true, false, false, true, true, false, false, true, false] (by kernel_rfl) (by kernel_rfl) (by kernel_rfl) trivial (fun act437 w434 hw435 f436 => ?_)
    clear f41
    have g438 := gr_alloc hw435
    have hS433 := hS46.gr g438
    have szw434 := g438.size
    replace e0 := e0.gr g438 no_row
    replace r8 := r8.gr g438 (fun _ h => by cases h)
    replace bx9 := bx9.gr g438 (by simp)
    replace bx19 := bx19.gr g438 (by simp)
    replace bx45 := bx45.gr g438 (by simp)
    have bx445 : Bx w434 (w39.heap.size) [.slice none 0 0, .slice none 0 0, .slice none 0 0] 25 := Bx.new hw435
    have := bx445.lt
    clear g438 hw435
    refine ⟨hS433, ?_⟩
    refine AtH.all [3, 4] 4 (by kernel_rfl) (by simp) ⟨?_, ?_, trivial⟩
    ·have ow447 : OwnR w434 (Sx (w29.heap.size) [some (w39.heap.size)]) (some ⟨w29.heap.size, 0, none⟩) 0 3 ([] : List Int) := Bx.own0 bx45 ⟨(fun e => by injection e; omega), (Nat.le_refl _)⟩
     clear bx45
     have hl452 : (([] : List Int) ++ g.ow).length = (([] : List Int)).length + (g.ow : List Int).length := List.length_append
     simp only [List.length_cons, List.length_nil] at hl452
     refine OneH.act f436 #[true, true, true, true, false, true, true, false, false, true, false] (by kernel_rfl) (appendR (α := Int) (t := 22) (d := 8) (n := 0) (m := g.ow.length) (cc := cg0) (xs := []) (ys := g.ow) (bytes := 8) (by first | rfl | omega | (simp; done) | (simp; omega)) (by first | rfl | omega | (simp; done) | (simp; omega)) (by kernel_rfl) rfl (by kernel_rfl) ow447 r8.ow.srcR (by simp only [List.length_cons, List.length_nil]; omega) (by simp only [List.length_cons, List.length_nil]; omega)) ?_
     rintro d_ v_ w451 ⟨rfl, A448, c449, ha450⟩
     obtain rfl := ha450.val
     have g453 := ha450.gr
     have hS456 := hS433.grO g453 (by rw [hCs26]; exact ⟨(fun e => by have := ow447.ge _ e; simp only [add_block] at this; omega), (fun e => by have := ow447.ge _ e; simp only [add_block] at this; omega), trivial⟩)
     refine ⟨_, rfl, fun act455 f454 => ⟨hS456, ?_⟩⟩
     clear f436
     have ow457 := ha450.own (Sx (w29.heap.size) [some (w39.heap.size)]) (fun g _ hs => ⟨hs.1, hs.2⟩) ⟨(fun e => by injection e; omega), (show w29.heap.size ≤ w434.heap.size by omega)⟩
     have szw451 := g453.size
     replace e0 := e0.gr g453 (fun k hk => by have := ow447.ge k hk; omega)
     replace r8 := r8.gr g453 (fun k hk => by have := ow447.ge k hk; omega)
     replace bx9 := bx9.gr g453 (fun e => by have := ow447.ge _ e; omega)
     replace bx19 := bx19.gr g453 (fun e => by have := ow447.ge _ e; omega)
     replace bx445 := bx445.gr g453 (ow447.neb (fun g hs => hs.1))
     clear ow447 g453 ha450
     replace ow457 : OwnR w451 (Sx (w29.heap.size) [some (w39.heap.size)]) A448 c449 3 (g.ow : List Int) := ow457
     refine AtH.all [4] 3 (by kernel_rfl) (by simp) ⟨?_, trivial⟩
     refine OneH.seq f454 [[]] [(9, .slice (some ⟨w451.heap.size, 0, none⟩) 0 0)] (w451.alloc (.cells #[] 3 (0, 0))) [] #[true, true, true, true, true, true, true, false, false, true, false] (by kernel_rfl) (by kernel_rfl) (by kernel_rfl) trivial (fun act468 w465 hw466 f467 => ?_)
     clear f454
     have g469 := gr_alloc hw466
     have hS472 := hS456.gr g469
     refine ⟨hS472, ?_⟩
     have szw465 := g469.size
     replace e0 := e0.gr g469 no_row
     replace r8 := r8.gr g469 (fun _ h => by cases h)
     replace bx9 := bx9.gr g469 (by simp)
     replace bx19 := bx19.gr g469 (by simp)
     replace ow457 : OwnR w465 (Sx (w29.heap.size) [some (w451.heap.size), some (w39.heap.size)]) A448 c449 3 (g.ow : List Int) := ow457.grA g469 (fun _ _ h => by cases h) (fun k hk hs => ⟨(fun e => by injection e; omega), hs.1, hs.2⟩)
     replace bx445 := bx445.gr g469 (by simp)
     have bx471 : Bx w465 (w451.heap.size) [] 3 := Bx.new hw466
     have := bx471.lt
     clear g469 hw466
     refine AtH.all [7] 2 (by kernel_rfl) (by simp) ⟨?_, trivial⟩
     have ow480 : OwnR w465 (Sx (w451.heap.size) [obk (A448)]) (some ⟨w451.heap.size, 0, none⟩) 0 3 ([] : List Int) := Bx.own0 bx471 ⟨(ow457.neb (fun g hs => hs.1)), (Nat.le_refl _)⟩
     clear bx471
     have hl485 : (([] : List Int) ++ g.pr).length = (([] : List Int)).length + (g.pr : List Int).length := List.length_append
     simp only [List.length_cons, List.length_nil] at hl485
     refine OneH.act f467 #[true, true, true, true, true, true, true, true, false, true, false] (by kernel_rfl) (appendR (α := Int) (t := 22) (d := 12) (n := 0) (m := g.pr.length) (cc := cg1) (xs := []) (ys := g.pr) (bytes := 8) (by first | rfl | omega | (simp; done) | (simp; omega)) (by first | rfl | omega | (simp; done) | (simp; omega)) (by kernel_rfl) rfl (by kernel_rfl) ow480 r8.pr.srcR (by simp only [List.length_cons, List.length_nil]; omega) (by simp only [List.length_cons, List.length_nil]; omega)) ?_
     rintro d_ v_ w484 ⟨rfl, A481, c482, ha483⟩
     obtain rfl := ha483.val
     have g486 := ha483.gr
     have hS489 := hS472.grO g486 (by rw [hCs26]; exact ⟨(fun e => by have := ow480.ge _ e; simp only [add_block] at this; omega), (fun e => by have := ow480.ge _ e; simp only [add_block] at this; omega), trivial⟩)
     refine ⟨_, rfl, fun act488 f487 => ⟨hS489, ?_⟩⟩
     clear f467
     have ow490 := ha483.own (Sx (w451.heap.size) [obk (A448)]) (fun g _ hs => ⟨hs.1, hs.2⟩) ⟨ow457.ne_new, (show w451.heap.size ≤ w465.heap.size by omega)⟩
     have szw484 := g486.size
     replace e0 := e0.gr g486 (fun k hk => by have := ow480.ge k hk; omega)
     replace r8 := r8.gr g486 (fun k hk => by have := ow480.ge k hk; omega)
     replace bx9 := bx9.gr g486 (fun e => by have := ow480.ge _ e; omega)
     replace bx19 := bx19.gr g486 (fun e => by have := ow480.ge _ e; omega)
     replace ow457 : OwnR w484 (Sx (w29.heap.size) [obk (A481), some (w39.heap.size)]) A448 c449 3 (g.ow : List Int) := ow457.grA g486 (fun k hk => hk.1) (fun k hk hs => ⟨own_repl ha483.at_ hs.1 hk, hs.2.1, hs.2.2⟩)
     replace bx445 := bx445.gr g486 (fun e => by have := ow480.ge _ e; omega)
     clear ow480 g486 ha483
     replace ow490 : OwnR w484 (Sx (w451.heap.size) [obk (A448)]) A481 c482 3 (g.pr : List Int) := ow490
     refine AtH.rd (by kernel_rfl) (fun d v c a w h => by cases d <;> exact h) hS489 [8] [[]] [(13, .agg #[.slice A448 ((([] : List Int) ++ g.ow).length) c449, .slice A481 ((([] : List Int) ++ g.pr).length) c482, .slice none 0 0])] #[true, true, true, true, true, true, true, true, true, true, false] [] 1 f487 (by kernel_rfl) trivial (fun act499 f498 => ?_)
     clear f487
     refine AtH.all [10] 0 (by kernel_rfl) (by simp) ⟨?_, trivial⟩
     refine OneH.store f498 (t := 25) (b := w39.heap.size) (off := 0) (v := .agg #[.slice A448 ((([] : List Int) ++ g.ow).length) c449, .slice A481 ((([] : List Int) ++ g.pr).length) c482, .slice none 0 0]) #[true, true, true, true, true, true, true, true, true, true, true] (by kernel_rfl) (by kernel_rfl) bx445 (by kernel_rfl) (fun act505 w501 g502 bx503 f504 => ?_)
     clear f498
     replace bx503 : Bx w501 (w39.heap.size) [.slice A448 ((([] : List Int) ++ g.ow).length) c449, .slice A481 ((([] : List Int) ++ g.pr).length) c482, .slice none 0 0] 25 := bx503
     have hS500 := hS489.gr' g502 (by rw [hCs26]; exact ⟨(by simp only [add_block]; omega), (by simp only [add_block]; omega), trivial⟩)
     have szw501 := g502.size
     replace e0 := e0.gr g502 (fun k h => by injection h; omega)
     replace r8 := r8.gr g502 (fun k h => by injection h; omega)
     replace bx9 := bx9.gr g502 (fun h => by injection h; omega)
     replace bx19 := bx19.gr g502 (fun h => by injection h; omega)
     replace ow457 := ow457.gr g502 (fun k hk => hk.2.1)
     replace ow490 := ow490.gr g502 (fun k hk e => by have := Sx_base hk; injection e; omega)
     clear bx445 g502
     refine ⟨hS500, ?_⟩
     refine AtH.done (by kernel_rfl) ?_
     clear hS500
     refine t_n ?_
     have f512 := f504.sub (r := [(3, .pointer (some ⟨w39.heap.size, 0, none⟩)), (2, .pointer (some ⟨w1.heap.size, 0, none⟩)), (1, .pointer (some ⟨w.heap.size, 0, none⟩))]) ⟨rfl, rfl, rfl, trivial⟩
     exact ⟨w39.heap.size, A448, A481, c449, c482, f512, e0, r8, bx9, bx19, (ow457.imp (fun g _ hs => ⟨hs.1, hs.2.1, (by have := Sx_base hs; show w10.heap.size ≤ g; omega)⟩)), (ow490.imp (fun g _ hs => ⟨hs.1, (fun e => by have := Sx_base hs; injection e; omega), (by have := Sx_base hs; show w10.heap.size ≤ g; omega)⟩)), bx503, (by omega), (by omega)⟩
    ·refine OneH.seq f436 [[]] [(9, .slice (some ⟨w434.heap.size, 0, none⟩) 0 0)] (w434.alloc (.cells #[] 3 (0, 0))) [] #[true, true, true, false, true, true, true, false, false, true, false] (by kernel_rfl) (by kernel_rfl) (by kernel_rfl) trivial (fun act517 w514 hw515 f516 => ?_)
     clear f436
     have g518 := gr_alloc hw515
     have hS521 := hS433.gr g518
     refine ⟨hS521, ?_⟩
     have szw514 := g518.size
     replace e0 := e0.gr g518 no_row
     replace r8 := r8.gr g518 (fun _ h => by cases h)
     replace bx9 := bx9.gr g518 (by simp)
     replace bx19 := bx19.gr g518 (by simp)
     replace bx45 := bx45.gr g518 (by simp)
     replace bx445 := bx445.gr g518 (by simp)
     have bx520 : Bx w514 (w434.heap.size) [] 3 := Bx.new hw515
     have := bx520.lt
     clear g518 hw515
     refine AtH.all [3] 3 (by kernel_rfl) (by simp) ⟨?_, trivial⟩
     have ow529 : OwnR w514 (Sx (w29.heap.size) [some (w39.heap.size), some (w434.heap.size)]) (some ⟨w29.heap.size, 0, none⟩) 0 3 ([] : List Int) := Bx.own0 bx45 ⟨(fun e => by injection e; omega), (fun e => by injection e; omega), (Nat.le_refl _)⟩
     clear bx45
     have hl534 : (([] : List Int) ++ g.ow).length = (([] : List Int)).length + (g.ow : List Int).length := List.length_append
     simp only [List.length_cons, List.length_nil] at hl534
     refine OneH.act f516 #[true, true, true, true, true, true, true, false, false, true, false] (by kernel_rfl) (appendR (α := Int) (t := 22) (d := 8) (n := 0) (m := g.ow.length) (cc := cg0) (xs := []) (ys := g.ow) (bytes := 8) (by first | rfl | omega | (simp; done) | (simp; omega)) (by first | rfl | omega | (simp; done) | (simp; omega)) (by kernel_rfl) rfl (by kernel_rfl) ow529 r8.ow.srcR (by simp only [List.length_cons, List.length_nil]; omega) (by simp only [List.length_cons, List.length_nil]; omega)) ?_
     rintro d_ v_ w533 ⟨rfl, A530, c531, ha532⟩
     obtain rfl := ha532.val
     have g535 := ha532.gr
     have hS538 := hS521.grO g535 (by rw [hCs26]; exact ⟨(fun e => by have := ow529.ge _ e; simp only [add_block] at this; omega), (fun e => by have := ow529.ge _ e; simp only [add_block] at this; omega), trivial⟩)
     refine ⟨_, rfl, fun act537 f536 => ⟨hS538, ?_⟩⟩
     clear f516
     have ow539 := ha532.own (Sx (w29.heap.size) [some (w39.heap.size), some (w434.heap.size)]) (fun g _ hs => ⟨hs.1, hs.2.1, hs.2.2⟩) ⟨(fun e => by injection e; omega), (fun e => by injection e; omega), (show w29.heap.size ≤ w514.heap.size by omega)⟩
     have szw533 := g535.size
     replace e0 := e0.gr g535 (fun k hk => by have := ow529.ge k hk; omega)
     replace r8 := r8.gr g535 (fun k hk => by have := ow529.ge k hk; omega)
     replace bx9 := bx9.gr g535 (fun e => by have := ow529.ge _ e; omega)
     replace bx19 := bx19.gr g535 (fun e => by have := ow529.ge _ e; omega)
     replace bx445 := bx445.gr g535 (ow529.neb (fun g hs => hs.1))
     replace bx520 := bx520.gr g535 (ow529.neb (fun g hs => hs.2.1))
     clear ow529 g535 ha532
     replace ow539 : OwnR w533 (Sx (w29.heap.size) [some (w39.heap.size), some (w434.heap.size)]) A530 c531 3 (g.ow : List Int) := ow539
     refine AtH.all [7] 2 (by kernel_rfl) (by simp) ⟨?_, trivial⟩
     have ow548 : OwnR w533 (Sx (w434.heap.size) [obk (A530)]) (some ⟨w434.heap.size, 0, none⟩) 0 3 ([] : List Int) := Bx.own0 bx520 ⟨(ow539.neb (fun g hs => hs.2.1)), (Nat.le_refl _)⟩
     clear bx520
     have hl553 : (([] : List Int) ++ g.pr).length = (([] : List Int)).length + (g.pr : List Int).length := List.length_append
     simp only [List.length_cons, List.length_nil] at hl553
     refine OneH.act f536 #[true, true, true, true, true, true, true, true, false, true, false] (by kernel_rfl) (appendR (α := Int) (t := 22) (d := 12) (n := 0) (m := g.pr.length) (cc := cg1) (xs := []) (ys := g.pr) (bytes := 8) (by first | rfl | omega | (simp; done) | (simp; omega)) (by first | rfl | omega | (simp; done) | (simp; omega)) (by kernel_rfl) rfl (by kernel_rfl) ow548 r8.pr.srcR (by simp only [List.length_cons, List.length_nil]; omega) (by simp only [List.length_cons, List.length_nil]; omega)) ?_
     rintro d_ v_ w552 ⟨rfl, A549, c550, ha551⟩
     obtain rfl := ha551.val
     have g554 := ha551.gr
     have hS557 := hS538.grO g554 (by rw [hCs26]; exact ⟨(fun e => by have := ow548.ge _ e; simp only [add_block] at this; omega), (fun e => by have := ow548.ge _ e; simp only [add_block] at this; omega), trivial⟩)
     refine ⟨_, rfl, fun act556 f555 => ⟨hS557, ?_⟩⟩
     clear f536
     have ow558 := ha551.own (Sx (w434.heap.size) [obk (A530)]) (fun g _ hs => ⟨hs.1, hs.2⟩) ⟨ow539.ne_new, (show w434.heap.size ≤ w533.heap.size by omega)⟩
     have szw552 := g554.size
     replace e0 := e0.gr g554 (fun k hk => by have := ow548.ge k hk; omega)
     replace r8 := r8.gr g554 (fun k hk => by have := ow548.ge k hk; omega)
     replace bx9 := bx9.gr g554 (fun e => by have := ow548.ge _ e; omega)
     replace bx19 := bx19.gr g554 (fun e => by have := ow548.ge _ e; omega)
     replace ow539 : OwnR w552 (Sx (w29.heap.size) [some (w39.heap.size), obk (A549)]) A530 c531 3 (g.ow : List Int) := ow539.grA g554 (fun k hk => hk.2.1) (fun k hk hs => ⟨hs.1, own_repl ha551.at_ hs.2.1 hk, hs.2.2⟩)
     replace bx445 := bx445.gr g554 (fun e => by have := ow548.ge _ e; omega)
     clear ow548 g554 ha551
     replace ow558 : OwnR w552 (Sx (w434.heap.size) [obk (A530)]) A549 c550 3 (g.pr : List Int) := ow558
     refine AtH.rd (by kernel_rfl) (fun d v c a w h => by cases d <;> exact h) hS557 [8] [[]] [(13, .agg #[.slice A530 ((([] : List Int) ++ g.ow).length) c531, .slice A549 ((([] : List Int) ++ g.pr).length) c550, .slice none 0 0])] #[true, true, true, true, true, true, true, true, true, true, false] [] 1 f555 (by kernel_rfl) trivial (fun act567 f566 => ?_)
     clear f555
     refine AtH.all [10] 0 (by kernel_rfl) (by simp) ⟨?_, trivial⟩
     refine OneH.store f566 (t := 25) (b := w39.heap.size) (off := 0) (v := .agg #[.slice A530 ((([] : List Int) ++ g.ow).length) c531, .slice A549 ((([] : List Int) ++ g.pr).length) c550, .slice none 0 0]) #[true, true, true, true, true, true, true, true, true, true, true] (by kernel_rfl) (by kernel_rfl) bx445 (by kernel_rfl) (fun act573 w569 g570 bx571 f572 => ?_)
     clear f566
     replace bx571 : Bx w569 (w39.heap.size) [.slice A530 ((([] : List Int) ++ g.ow).length) c531, .slice A549 ((([] : List Int) ++ g.pr).length) c550, .slice none 0 0] 25 := bx571
     have hS568 := hS557.gr' g570 (by rw [hCs26]; exact ⟨(by simp only [add_block]; omega), (by simp only [add_block]; omega), trivial⟩)
     have szw569 := g570.size
     replace e0 := e0.gr g570 (fun k h => by injection h; omega)
     replace r8 := r8.gr g570 (fun k h => by injection h; omega)
     replace bx9 := bx9.gr g570 (fun h => by injection h; omega)
     replace bx19 := bx19.gr g570 (fun h => by injection h; omega)
     replace ow539 := ow539.gr g570 (fun k hk => hk.1)
     replace ow558 := ow558.gr g570 (fun k hk e => by have := Sx_base hk; injection e; omega)
     clear bx445 g570
     refine ⟨hS568, ?_⟩
     refine AtH.done (by kernel_rfl) ?_
     clear hS568
     refine t_n ?_
     have f580 := f572.sub (r := [(3, .pointer (some ⟨w39.heap.size, 0, none⟩)), (2, .pointer (some ⟨w1.heap.size, 0, none⟩)), (1, .pointer (some ⟨w.heap.size, 0, none⟩))]) ⟨rfl, rfl, rfl, trivial⟩
     exact ⟨w39.heap.size, A530, A549, c531, c550, f580, e0, r8, bx9, bx19, (ow539.imp (fun g _ hs => ⟨hs.2.1, hs.1, (by have := Sx_base hs; show w10.heap.size ≤ g; omega)⟩)), (ow558.imp (fun g _ hs => ⟨hs.1, (fun e => by have := Sx_base hs; injection e; omega), (by have := Sx_base hs; show w10.heap.size ≤ g; omega)⟩)), bx571, (by omega), (by omega)⟩
  ·refine OneH.seq f36 [[]] [(9, .slice (some ⟨w29.heap.size, 0, none⟩) 0 0)] (w29.alloc (.cells #[] 3 (0, 0))) [] #[false, true, true, false, true, true, true, false, false, false, false] (by kernel_rfl) (by kernel_rfl) (by kernel_rfl) trivial (fun act585 w582 hw583 f584 => ?_)
   clear f36
   have g586 := gr_alloc hw583
   have hS589 := hS31.gr g586
   refine ⟨hS589, ?_⟩
   have szw582 := g586.size
   replace e0 := e0.gr g586 no_row
   replace r8 := r8.gr g586 (fun _ h => by cases h)
   replace bx9 := bx9.gr g586 (by simp)
   replace bx19 := bx19.gr g586 (by simp)
   have bx588 : Bx w582 (w29.heap.size) [] 3 := Bx.new hw583
   have := bx588.lt
   clear g586 hw583
   refine AtH.all [0, 9] 5 (by kernel_rfl) (by simp) ⟨?_, ?_, trivial⟩
   ·refine OneH.seq f584 [[]] [(5, .slice (some ⟨w582.heap.size, 0, none⟩) 0 0)] (w582.alloc (.cells #[] 3 (0, 0))) [] #[true, true, true, false, true, true, true, false, false, false, false] (by kernel_rfl) (by kernel_rfl) (by kernel_rfl) trivial (fun act598 w595 hw596 f597 => ?_)
    clear f584
    have g599 := gr_alloc hw596
    have hS602 := hS589.gr g599
    refine ⟨hS602, ?_⟩
    have szw595 := g599.size
    replace e0 := e0.gr g599 no_row
    replace r8 := r8.gr g599 (fun _ h => by cases h)
    replace bx9 := bx9.gr g599 (by simp)
    replace bx19 := bx19.gr g599 (by simp)
    replace bx588 := bx588.gr g599 (by simp)
    have bx601 : Bx w595 (w582.heap.size) [] 3 := Bx.new hw596
    have := bx601.lt
    clear g599 hw596
    refine AtH.all [3, 9] 4 (by kernel_rfl) (by simp) ⟨?_, ?_, trivial⟩
    ·have ow609 : OwnR w595 (Sx (w582.heap.size) []) (some ⟨w582.heap.size, 0, none⟩) 0 3 ([] : List Int) := Bx.own0 bx601 (Nat.le_refl _)
     clear bx601
     have hl614 : (([] : List Int) ++ g.ow).length = (([] : List Int)).length + (g.ow : List Int).length := List.length_append
     simp only [List.length_cons, List.length_nil] at hl614
     refine OneH.act f597 #[true, true, true, true, true, true, true, false, false, false, false] (by kernel_rfl) (appendR (α := Int) (t := 22) (d := 8) (n := 0) (m := g.ow.length) (cc := cg0) (xs := []) (ys := g.ow) (bytes := 8) (by first | rfl | omega | (simp; done) | (simp; omega)) (by first | rfl | omega | (simp; done) | (simp; omega)) (by kernel_rfl) rfl (by kernel_rfl) ow609 r8.ow.srcR (by simp only [List.length_cons, List.length_nil]; omega) (by simp only [List.length_cons, List.length_nil]; omega)) ?_
     rintro d_ v_ w613 ⟨rfl, A610, c611, ha612⟩
     obtain rfl := ha612.val
     have g615 := ha612.gr
     have hS618 := hS602.grO g615 (by rw [hCs26]; exact ⟨(fun e => by have := ow609.ge _ e; simp only [add_block] at this; omega), (fun e => by have := ow609.ge _ e; simp only [add_block] at this; omega), trivial⟩)
     refine ⟨_, rfl, fun act617 f616 => ⟨hS618, ?_⟩⟩
     clear f597
     have ow619 := ha612.own (Sx (w582.heap.size) []) (fun g _ hs => hs) (show w582.heap.size ≤ w595.heap.size by omega)
     have szw613 := g615.size
     replace e0 := e0.gr g615 (fun k hk => by have := ow609.ge k hk; omega)
     replace r8 := r8.gr g615 (fun k hk => by have := ow609.ge k hk; omega)
     replace bx9 := bx9.gr g615 (fun e => by have := ow609.ge _ e; omega)
     replace bx19 := bx19.gr g615 (fun e => by have := ow609.ge _ e; omega)
     replace bx588 := bx588.gr g615 (fun e => by have := ow609.ge _ e; omega)
     clear ow609 g615 ha612
     replace ow619 : OwnR w613 (Sx (w582.heap.size) []) A610 c611 3 (g.ow : List Int) := ow619
     refine AtH.all [7, 9] 3 (by kernel_rfl) (by simp) ⟨?_, ?_, trivial⟩
     ·replace ow619 : OwnR w613 (Sx (w582.heap.size) [some (w29.heap.size)]) A610 c611 3 (g.ow : List Int) := ow619.imp (fun g _ hs => ⟨(fun e => by have := Sx_base hs; injection e; omega), hs⟩)
      have ow627 : OwnR w613 (Sx (w29.heap.size) [obk (A610)]) (some ⟨w29.heap.size, 0, none⟩) 0 3 ([] : List Int) := Bx.own0 bx588 ⟨(ow619.neb (fun g hs => hs.1)), (Nat.le_refl _)⟩
      clear bx588
      have hl633 : (([] : List Int) ++ g.pr).length = (([] : List Int)).length + (g.pr : List Int).length := List.length_append
      simp only [List.length_cons, List.length_nil] at hl633
      refine OneH.act f616 #[true, true, true, true, true, true, true, true, false, false, false] (by kernel_rfl) (appendR (α := Int) (t := 22) (d := 12) (n := 0) (m := g.pr.length) (cc := cg1) (xs := []) (ys := g.pr) (bytes := 8) (by first | rfl | omega | (simp; done) | (simp; omega)) (by first | rfl | omega | (simp; done) | (simp; omega)) (by kernel_rfl) rfl (by kernel_rfl) ow627 r8.pr.srcR (by simp only [List.length_cons, List.length_nil]; omega) (by simp only [List.length_cons, List.length_nil]; omega)) ?_
      rintro d_ v_ w632 ⟨rfl, A629, c630, ha631⟩
      obtain rfl := ha631.val
      have g634 := ha631.gr
      have hS637 := hS618.grO g634 (by rw [hCs26]; exact ⟨(fun e => by have := ow627.ge _ e; simp only [add_block] at this; omega), (fun e => by have := ow627.ge _ e; simp only [add_block] at this; omega), trivial⟩)
      refine ⟨_, rfl, fun act636 f635 => ⟨hS637, ?_⟩⟩
      clear f616
      have ow638 := ha631.own (Sx (w29.heap.size) [obk (A610)]) (fun g _ hs => ⟨hs.1, hs.2⟩) ⟨ow619.ne_new, (show w29.heap.size ≤ w613.heap.size by omega)⟩
      have szw632 := g634.size
      replace e0 := e0.gr g634 (fun k hk => by have := ow627.ge k hk; omega)
      replace r8 := r8.gr g634 (fun k hk => by have := ow627.ge k hk; omega)
      replace bx9 := bx9.gr g634 (fun e => by have := ow627.ge _ e; omega)
      replace bx19 := bx19.gr g634 (fun e => by have := ow627.ge _ e; omega)
      replace ow619 : OwnR w632 (Sx (w582.heap.size) [obk (A629)]) A610 c611 3 (g.ow : List Int) := ow619.grA g634 (fun k hk => hk.1) (fun k hk hs => ⟨own_repl ha631.at_ hs.1 hk, hs.2⟩)
      clear ow627 g634 ha631
      replace ow638 : OwnR w632 (Sx (w29.heap.size) [obk (A610)]) A629 c630 3 (g.pr : List Int) := ow638
      refine AtH.rd (by kernel_rfl) (fun d v c a w h => by cases d <;> exact h) hS637 [8] [[]] [(13, .agg #[.slice A610 ((([] : List Int) ++ g.ow).length) c611, .slice A629 ((([] : List Int) ++ g.pr).length) c630, .slice none 0 0])] #[true, true, true, true, true, true, true, true, true, false, false] [] 2 f635 (by kernel_rfl) trivial (fun act646 f645 => ?_)
      clear f635
      refine AtH.all [9] 1 (by kernel_rfl) (by simp) ⟨?_, trivial⟩
      refine OneH.seq f645 [[]] [(3, .pointer (some ⟨w632.heap.size, 0, none⟩))] (w632.alloc (.cells #[.slice none 0 0, .slice none 0 0, .slice none 0 0] 25 (0, 0))) [] #[true, true, true, true, true, true, true, true, true, true, false] (by kernel_rfl) (by kernel_rfl) (by kernel_rfl) trivial (fun act651 w648 hw649 f650 => ?_)
      clear f645
      have g652 := gr_alloc hw649
      have hS647 := hS637.gr g652
      have szw648 := g652.size
      replace e0 := e0.gr g652 no_row
      replace r8 := r8.gr g652 (fun _ h => by cases h)
      replace bx9 := bx9.gr g652 (by simp)
      replace bx19 := bx19.gr g652 (by simp)
      replace ow638 : OwnR w648 (Sx (w29.heap.size) [some (w632.heap.size), obk (A610)]) A629 c630 3 (g.pr : List Int) := ow638.grA g652 (fun _ _ h => by cases h) (fun k hk hs => ⟨(fun e => by injection e; omega), hs.1, hs.2⟩)
      replace ow619 : OwnR w648 (Sx (w582.heap.size) [some (w632.heap.size), obk (A629)]) A610 c611 3 (g.ow : List Int) := ow619.grA g652 (fun _ _ h => by cases h) (fun k hk hs => ⟨(fun e => by injection e; omega), hs.1, hs.2⟩)
      have bx660 : Bx w648 (w632.heap.size) [.slice none 0 0, .slice none 0 0, .slice none 0 0] 25 := Bx.new hw649
      have := bx660.lt
      clear g652 hw649
      refine ⟨hS647, ?_⟩
      refine AtH.all [10] 0 (by kernel_rfl) (by simp) ⟨?_, trivial⟩
      refine OneH.store f650 (t := 25) (b := w632.heap.size) (off := 0) (v := .agg #[.slice A610 ((([] : List Int) ++ g.ow).length) c611, .slice A629 ((([] : List Int) ++ g.pr).length) c630, .slice none 0 0]) #[true, true, true, true, true, true, true, true, true, true, true] (by kernel_rfl) (by kernel_rfl) bx660 (by kernel_rfl) (fun act666 w662 g663 bx664 f665 => ?_)
      clear f650
      replace bx664 : Bx w662 (w632.heap.size) [.slice A610 ((([] : List Int) ++ g.ow).length) c611, .slice A629 ((([] : List Int) ++ g.pr).length) c630, .slice none 0 0] 25 := bx664
      have hS661 := hS647.gr' g663 (by rw [hCs26]; exact ⟨(by simp only [add_block]; omega), (by simp only [add_block]; omega), trivial⟩)
      have szw662 := g663.size
      replace e0 := e0.gr g663 (fun k h => by injection h; omega)
      replace r8 := r8.gr g663 (fun k h => by injection h; omega)
      replace bx9 := bx9.gr g663 (fun h => by injection h; omega)
      replace bx19 := bx19.gr g663 (fun h => by injection h; omega)
      replace ow638 := ow638.gr g663 (fun k hk => hk.1)
      replace ow619 := ow619.gr g663 (fun k hk => hk.1)
      clear bx660 g663
      refine ⟨hS661, ?_⟩
      refine AtH.done (by kernel_rfl) ?_
      clear hS661
      refine t_n ?_
      have f673 := f665.sub (r := [(3, .pointer (some ⟨w632.heap.size, 0, none⟩)), (2, .pointer (some ⟨w1.heap.size, 0, none⟩)), (1, .pointer (some ⟨w.heap.size, 0, none⟩))]) ⟨rfl, rfl, rfl, trivial⟩
      exact ⟨w632.heap.size, A610, A629, c611, c630, f673, e0, r8, bx9, bx19, (ow619.imp (fun g _ hs => ⟨hs.2.1, hs.1, (by have := Sx_base hs; show w10.heap.size ≤ g; omega)⟩)), (ow638.imp (fun g _ hs => ⟨hs.2.1, hs.1, (by have := Sx_base hs; show w10.heap.size ≤ g; omega)⟩)), bx664, (by omega), (by omega)⟩
     ·refine OneH.seq f616 [[]] [(3, .pointer (some ⟨w613.heap.size, 0, none⟩))] (w613.alloc (.cells #[.slice none 0 0, .slice none 0 0, .slice none 0 0] 25 (0, 0))) [] #[true, true, true, true, true, true, true, false, false, true, false] (by kernel_rfl) (by kernel_rfl) (by kernel_rfl) trivial (fun act678 w675 hw676 f677 => ?_)
      clear f616
      have g679 := gr_alloc hw676
      have hS674 := hS618.gr g679
      have szw675 := g679.size
      replace e0 := e0.gr g679 no_row
      replace r8 := r8.gr g679 (fun _ h => by cases h)
      replace bx9 := bx9.gr g679 (by simp)
      replace bx19 := bx19.gr g679 (by simp)
      replace bx588 := bx588.gr g679 (by simp)
      replace ow619 : OwnR w675 (Sx (w582.heap.size) [some (w613.heap.size)]) A610 c611 3 (g.ow : List Int) := ow619.grA g679 (fun _ _ h => by cases h) (fun k hk hs => ⟨(fun e => by injection e; omega), hs⟩)
      have bx687 : Bx w675 (w613.heap.size) [.slice none 0 0, .slice none 0 0, .slice none 0 0] 25 := Bx.new hw676
      have := bx687.lt
      clear g679 hw676
      refine ⟨hS674, ?_⟩
      refine AtH.all [7] 2 (by kernel_rfl) (by simp) ⟨?_, trivial⟩
      replace ow619 : OwnR w675 (Sx (w582.heap.size) [some (w29.heap.size), some (w613.heap.size)]) A610 c611 3 (g.ow : List Int) := ow619.imp (fun g _ hs => ⟨(fun e => by have := Sx_base hs; injection e; omega), hs⟩)
      have ow689 : OwnR w675 (Sx (w29.heap.size) [obk (A610), some (w613.heap.size)]) (some ⟨w29.heap.size, 0, none⟩) 0 3 ([] : List Int) := Bx.own0 bx588 ⟨(ow619.neb (fun g hs => hs.1)), (fun e => by injection e; omega), (Nat.le_refl _)⟩
      clear bx588
      have hl695 : (([] : List Int) ++ g.pr).length = (([] : List Int)).length + (g.pr : List Int).length := List.length_append
      simp only [List.length_cons, List.length_nil] at hl695
      refine OneH.act f677 #[true, true, true, true, true, true, true, true, false, true, false] (by kernel_rfl) (appendR (α := Int) (t := 22) (d := 12) (n := 0) (m := g.pr.length) (cc := cg1) (xs := []) (ys := g.pr) (bytes := 8) (by first | rfl | omega | (simp; done) | (simp; omega)) (by first | rfl | omega | (simp; done) | (simp; omega)) (by kernel_rfl) rfl (by kernel_rfl) ow689 r8.pr.srcR (by simp only [List.length_cons, List.length_nil]; omega) (by simp only [List.length_cons, List.length_nil]; omega)) ?_
      rintro d_ v_ w694 ⟨rfl, A691, c692, ha693⟩
      obtain rfl := ha693.val
      have g696 := ha693.gr
      have hS699 := hS674.grO g696 (by rw [hCs26]; exact ⟨(fun e => by have := ow689.ge _ e; simp only [add_block] at this; omega), (fun e => by have := ow689.ge _ e; simp only [add_block] at this; omega), trivial⟩)
      refine ⟨_, rfl, fun act698 f697 => ⟨hS699, ?_⟩⟩
      clear f677
      have ow700 := ha693.own (Sx (w29.heap.size) [obk (A610), some (w613.heap.size)]) (fun g _ hs => ⟨hs.1, hs.2.1, hs.2.2⟩) ⟨ow619.ne_new, (fun e => by injection e; omega), (show w29.heap.size ≤ w675.heap.size by omega)⟩
      have szw694 := g696.size
      replace e0 := e0.gr g696 (fun k hk => by have := ow689.ge k hk; omega)
      replace r8 := r8.gr g696 (fun k hk => by have := ow689.ge k hk; omega)
      replace bx9 := bx9.gr g696 (fun e => by have := ow689.ge _ e; omega)
      replace bx19 := bx19.gr g696 (fun e => by have := ow689.ge _ e; omega)
      replace ow619 : OwnR w694 (Sx (w582.heap.size) [obk (A691), some (w613.heap.size)]) A610 c611 3 (g.ow : List Int) := ow619.grA g696 (fun k hk => hk.1) (fun k hk hs => ⟨own_repl ha693.at_ hs.1 hk, hs.2.1, hs.2.2⟩)
      replace bx687 := bx687.gr g696 (ow689.neb (fun g hs => hs.2.1))
      clear ow689 g696 ha693
      replace ow700 : OwnR w694 (Sx (w29.heap.size) [obk (A610), some (w613.heap.size)]) A691 c692 3 (g.pr : List Int) := ow700
      refine AtH.rd (by kernel_rfl) (fun d v c a w h => by cases d <;> exact h) hS699 [8] [[]] [(13, .agg #[.slice A610 ((([] : List Int) ++ g.ow).length) c611, .slice A691 ((([] : List Int) ++ g.pr).length) c692, .slice none 0 0])] #[true, true, true, true, true, true, true, true, true, true, false] [] 1 f697 (by kernel_rfl) trivial (fun act709 f708 => ?_)
      clear f697
      refine AtH.all [10] 0 (by kernel_rfl) (by simp) ⟨?_, trivial⟩
      refine OneH.store f708 (t := 25) (b := w613.heap.size) (off := 0) (v := .agg #[.slice A610 ((([] : List Int) ++ g.ow).length) c611, .slice A691 ((([] : List Int) ++ g.pr).length) c692, .slice none 0 0]) #[true, true, true, true, true, true, true, true, true, true, true] (by kernel_rfl) (by kernel_rfl) bx687 (by kernel_rfl) (fun act715 w711 g712 bx713 f714 => ?_)
      clear f708
      replace bx713 : Bx w711 (w613.heap.size) [.slice A610 ((([] : List Int) ++ g.ow).length) c611, .slice A691 ((([] : List Int) ++ g.pr).length) c692, .slice none 0 0] 25 := bx713
      have hS710 := hS699.gr' g712 (by rw [hCs26]; exact ⟨(by simp only [add_block]; omega), (by simp only [add_block]; omega), trivial⟩)
      have szw711 := g712.size
      replace e0 := e0.gr g712 (fun k h => by injection h; omega)
      replace r8 := r8.gr g712 (fun k h => by injection h; omega)
      replace bx9 := bx9.gr g712 (fun h => by injection h; omega)
      replace bx19 := bx19.gr g712 (fun h => by injection h; omega)
      replace ow700 := ow700.gr g712 (fun k hk => hk.2.1)
      replace ow619 := ow619.gr g712 (fun k hk => hk.2.1)
      clear bx687 g712
      refine ⟨hS710, ?_⟩
      refine AtH.done (by kernel_rfl) ?_
      clear hS710
      refine t_n ?_
      have f722 := f714.sub (r := [(3, .pointer (some ⟨w613.heap.size, 0, none⟩)), (2, .pointer (some ⟨w1.heap.size, 0, none⟩)), (1, .pointer (some ⟨w.heap.size, 0, none⟩))]) ⟨rfl, rfl, rfl, trivial⟩
      exact ⟨w613.heap.size, A610, A691, c611, c692, f722, e0, r8, bx9, bx19, (ow619.imp (fun g _ hs => ⟨hs.1, hs.2.1, (by have := Sx_base hs; show w10.heap.size ≤ g; omega)⟩)), (ow700.imp (fun g _ hs => ⟨hs.1, hs.2.1, (by have := Sx_base hs; show w10.heap.size ≤ g; omega)⟩)), bx713, (by omega), (by omega)⟩
    ·refine OneH.seq f597 [[]] [(3, .pointer (some ⟨w595.heap.size, 0, none⟩))] (w595.alloc (.cells #[.slice none 0 0, .slice none 0 0, .slice none 0 0] 25 (0, 0))) [] #[true, true, true, false, true, true, true, false, false, true, false] (by kernel_rfl) (by kernel_rfl) (by kernel_rfl) trivial (fun act727 w724 hw725 f726 => ?_)
     clear f597
     have g728 := gr_alloc hw725
     have hS723 := hS602.gr g728
     have szw724 := g728.size
     replace e0 := e0.gr g728 no_row
     replace r8 := r8.gr g728 (fun _ h => by cases h)
     replace bx9 := bx9.gr g728 (by simp)
     replace bx19 := bx19.gr g728 (by simp)
     replace bx588 := bx588.gr g728 (by simp)
     replace bx601 := bx601.gr g728 (by simp)
     have bx736 : Bx w724 (w595.heap.size) [.slice none 0 0, .slice none 0 0, .slice none 0 0] 25 := Bx.new hw725
     have := bx736.lt
     clear g728 hw725
     refine ⟨hS723, ?_⟩
     refine AtH.all [3] 3 (by kernel_rfl) (by simp) ⟨?_, trivial⟩
     have ow738 : OwnR w724 (Sx (w582.heap.size) [some (w595.heap.size)]) (some ⟨w582.heap.size, 0, none⟩) 0 3 ([] : List Int) := Bx.own0 bx601 ⟨(fun e => by injection e; omega), (Nat.le_refl _)⟩
     clear bx601
     have hl743 : (([] : List Int) ++ g.ow).length = (([] : List Int)).length + (g.ow : List Int).length := List.length_append
     simp only [List.length_cons, List.length_nil] at hl743
     refine OneH.act f726 #[true, true, true, true, true, true, true, false, false, true, false] (by kernel_rfl) (appendR (α := Int) (t := 22) (d := 8) (n := 0) (m := g.ow.length) (cc := cg0) (xs := []) (ys := g.ow) (bytes := 8) (by first | rfl | omega | (simp; done) | (simp; omega)) (by first | rfl | omega | (simp; done) | (simp; omega)) (by kernel_rfl) rfl (by kernel_rfl) ow738 r8.ow.srcR (by simp only [List.length_cons, List.length_nil]; omega) (by simp only [List.length_cons, List.length_nil]; omega)) ?_
     rintro d_ v_ w742 ⟨rfl, A739, c740, ha741⟩
     obtain rfl := ha741.val
     have g744 := ha741.gr
     have hS747 := hS723.grO g744 (by rw [hCs26]; exact ⟨(fun e => by have := ow738.ge _ e; simp only [add_block] at this; omega), (fun e => by have := ow738.ge _ e; simp only [add_block] at this; omega), trivial⟩)
     refine ⟨_, rfl, fun act746 f745 => ⟨hS747, ?_⟩⟩
     clear f726
     have ow748 := ha741.own (Sx (w582.heap.size) [some (w595.heap.size)]) (fun g _ hs => ⟨hs.1, hs.2⟩) ⟨(fun e => by injection e; omega), (show w582.heap.size ≤ w724.heap.size by omega)⟩
     have szw742 := g744.size
     replace e0 := e0.gr g744 (fun k hk => by have := ow738.ge k hk; omega)
     replace r8 := r8.gr g744 (fun k hk => by have := ow738.ge k hk; omega)
     replace bx9 := bx9.gr g744 (fun e => by have := ow738.ge _ e; omega)
     replace bx19 := bx19.gr g744 (fun e => by have := ow738.ge _ e; omega)
     replace bx588 := bx588.gr g744 (fun e => by have := ow738.ge _ e; omega)
     replace bx736 := bx736.gr g744 (ow738.neb (fun g hs => hs.1))
     clear ow738 g744 ha741
     replace ow748 : OwnR w742 (Sx (w582.heap.size) [some (w595.heap.size)]) A739 c740 3 (g.ow : List Int) := ow748
     refine AtH.all [7] 2 (by kernel_rfl) (by simp) ⟨?_, trivial⟩
     replace ow748 : OwnR w742 (Sx (w582.heap.size) [some (w29.heap.size), some (w595.heap.size)]) A739 c740 3 (g.ow : List Int) := ow748.imp (fun g _ hs => ⟨(fun e => by have := Sx_base hs; injection e; omega), hs⟩)
     have ow757 : OwnR w742 (Sx (w29.heap.size) [obk (A739), some (w595.heap.size)]) (some ⟨w29.heap.size, 0, none⟩) 0 3 ([] : List Int) := Bx.own0 bx588 ⟨(ow748.neb (fun g hs => hs.1)), (fun e => by injection e; omega), (Nat.le_refl _)⟩
     clear bx588
     have hl763 : (([] : List Int) ++ g.pr).length = (([] : List Int)).length + (g.pr : List Int).length := List.length_append
     simp only [List.length_cons, List.length_nil] at hl763
     refine OneH.act f745 #[true, true, true, true, true, true, true, true, false, true, false] (by kernel_rfl) (appendR (α := Int) (t := 22) (d := 12) (n := 0) (m := g.pr.length) (cc := cg1) (xs := []) (ys := g.pr) (bytes := 8) (by first | rfl | omega | (simp; done) | (simp; omega)) (by first | rfl | omega | (simp; done) | (simp; omega)) (by kernel_rfl) rfl (by kernel_rfl) ow757 r8.pr.srcR (by simp only [List.length_cons, List.length_nil]; omega) (by simp only [List.length_cons, List.length_nil]; omega)) ?_
     rintro d_ v_ w762 ⟨rfl, A759, c760, ha761⟩
     obtain rfl := ha761.val
     have g764 := ha761.gr
     have hS767 := hS747.grO g764 (by rw [hCs26]; exact ⟨(fun e => by have := ow757.ge _ e; simp only [add_block] at this; omega), (fun e => by have := ow757.ge _ e; simp only [add_block] at this; omega), trivial⟩)
     refine ⟨_, rfl, fun act766 f765 => ⟨hS767, ?_⟩⟩
     clear f745
     have ow768 := ha761.own (Sx (w29.heap.size) [obk (A739), some (w595.heap.size)]) (fun g _ hs => ⟨hs.1, hs.2.1, hs.2.2⟩) ⟨ow748.ne_new, (fun e => by injection e; omega), (show w29.heap.size ≤ w742.heap.size by omega)⟩
     have szw762 := g764.size
     replace e0 := e0.gr g764 (fun k hk => by have := ow757.ge k hk; omega)
     replace r8 := r8.gr g764 (fun k hk => by have := ow757.ge k hk; omega)
     replace bx9 := bx9.gr g764 (fun e => by have := ow757.ge _ e; omega)
     replace bx19 := bx19.gr g764 (fun e => by have := ow757.ge _ e; omega)
     replace ow748 : OwnR w762 (Sx (w582.heap.size) [obk (A759), some (w595.heap.size)]) A739 c740 3 (g.ow : List Int) := ow748.grA g764 (fun k hk => hk.1) (fun k hk hs => ⟨own_repl ha761.at_ hs.1 hk, hs.2.1, hs.2.2⟩)
     replace bx736 := bx736.gr g764 (ow757.neb (fun g hs => hs.2.1))
     clear ow757 g764 ha761
     replace ow768 : OwnR w762 (Sx (w29.heap.size) [obk (A739), some (w595.heap.size)]) A759 c760 3 (g.pr : List Int) := ow768
     refine AtH.rd (by kernel_rfl) (fun d v c a w h => by cases d <;> exact h) hS767 [8] [[]] [(13, .agg #[.slice A739 ((([] : List Int) ++ g.ow).length) c740, .slice A759 ((([] : List Int) ++ g.pr).length) c760, .slice none 0 0])] #[true, true, true, true, true, true, true, true, true, true, false] [] 1 f765 (by kernel_rfl) trivial (fun act777 f776 => ?_)
     clear f765
     refine AtH.all [10] 0 (by kernel_rfl) (by simp) ⟨?_, trivial⟩
     refine OneH.store f776 (t := 25) (b := w595.heap.size) (off := 0) (v := .agg #[.slice A739 ((([] : List Int) ++ g.ow).length) c740, .slice A759 ((([] : List Int) ++ g.pr).length) c760, .slice none 0 0]) #[true, true, true, true, true, true, true, true, true, true, true] (by kernel_rfl) (by kernel_rfl) bx736 (by kernel_rfl) (fun act783 w779 g780 bx781 f782 => ?_)
     clear f776
     replace bx781 : Bx w779 (w595.heap.size) [.slice A739 ((([] : List Int) ++ g.ow).length) c740, .slice A759 ((([] : List Int) ++ g.pr).length) c760, .slice none 0 0] 25 := bx781
     have hS778 := hS767.gr' g780 (by rw [hCs26]; exact ⟨(by simp only [add_block]; omega), (by simp only [add_block]; omega), trivial⟩)
     have szw779 := g780.size
     replace e0 := e0.gr g780 (fun k h => by injection h; omega)
     replace r8 := r8.gr g780 (fun k h => by injection h; omega)
     replace bx9 := bx9.gr g780 (fun h => by injection h; omega)
     replace bx19 := bx19.gr g780 (fun h => by injection h; omega)
     replace ow768 := ow768.gr g780 (fun k hk => hk.2.1)
     replace ow748 := ow748.gr g780 (fun k hk => hk.2.1)
     clear bx736 g780
     refine ⟨hS778, ?_⟩
     refine AtH.done (by kernel_rfl) ?_
     clear hS778
     refine t_n ?_
     have f790 := f782.sub (r := [(3, .pointer (some ⟨w595.heap.size, 0, none⟩)), (2, .pointer (some ⟨w1.heap.size, 0, none⟩)), (1, .pointer (some ⟨w.heap.size, 0, none⟩))]) ⟨rfl, rfl, rfl, trivial⟩
     exact ⟨w595.heap.size, A739, A759, c740, c760, f790, e0, r8, bx9, bx19, (ow748.imp (fun g _ hs => ⟨hs.1, hs.2.1, (by have := Sx_base hs; show w10.heap.size ≤ g; omega)⟩)), (ow768.imp (fun g _ hs => ⟨hs.1, hs.2.1, (by have := Sx_base hs; show w10.heap.size ≤ g; omega)⟩)), bx781, (by omega), (by omega)⟩
   ·refine OneH.seq f584 [[]] [(3, .pointer (some ⟨w582.heap.size, 0, none⟩))] (w582.alloc (.cells #[.slice none 0 0, .slice none 0 0, .slice none 0 0] 25 (0, 0))) [] #[false, true, true, false, true, true, true, false, false, true, false] (by kernel_rfl) (by kernel_rfl) (by kernel_rfl) trivial (fun act795 w792 hw793 f794 => ?_)
    clear f584
    have g796 := gr_alloc hw793
    have hS791 := hS589.gr g796
    have szw792 := g796.size
    replace e0 := e0.gr g796 no_row
    replace r8 := r8.gr g796 (fun _ h => by cases h)
    replace bx9 := bx9.gr g796 (by simp)
    replace bx19 := bx19.gr g796 (by simp)
    replace bx588 := bx588.gr g796 (by simp)
    have bx803 : Bx w792 (w582.heap.size) [.slice none 0 0, .slice none 0 0, .slice none 0 0] 25 := Bx.new hw793
    have := bx803.lt
    clear g796 hw793
    refine ⟨hS791, ?_⟩
    refine AtH.all [0] 4 (by kernel_rfl) (by simp) ⟨?_, trivial⟩
    refine OneH.seq f794 [[]] [(5, .slice (some ⟨w792.heap.size, 0, none⟩) 0 0)] (w792.alloc (.cells #[] 3 (0, 0))) [] #[true, true, true, false, true, true, true, false, false, true, false] (by kernel_rfl) (by kernel_rfl) (by kernel_rfl) trivial (fun act808 w805 hw806 f807 => ?_)
    clear f794
    have g809 := gr_alloc hw806
    have hS812 := hS791.gr g809
    refine ⟨hS812, ?_⟩
    have szw805 := g809.size
    replace e0 := e0.gr g809 no_row
    replace r8 := r8.gr g809 (fun _ h => by cases h)
    replace bx9 := bx9.gr g809 (by simp)
    replace bx19 := bx19.gr g809 (by simp)
    replace bx588 := bx588.gr g809 (by simp)
    replace bx803 := bx803.gr g809 (by simp)
    have bx811 : Bx w805 (w792.heap.size) [] 3 := Bx.new hw806
    have := bx811.lt
    clear g809 hw806
    refine AtH.all [3] 3 (by kernel_rfl) (by simp) ⟨?_, trivial⟩
    have ow820 : OwnR w805 (Sx (w792.heap.size) []) (some ⟨w792.heap.size, 0, none⟩) 0 3 ([] : List Int) := Bx.own0 bx811 (Nat.le_refl _)
    clear bx811
    have hl825 : (([] : List Int) ++ g.ow).length = (([] : List Int)).length + (g.ow : List Int).length := List.length_append
    simp only [List.length_cons, List.length_nil] at hl825
    refine OneH.act f807 #[true, true, true, true, true, true, true, false, false, true, false] (by kernel_rfl) (appendR (α := Int) (t := 22) (d := 8) (n := 0) (m := g.ow.length) (cc := cg0) (xs := []) (ys := g.ow) (bytes := 8) (by first | rfl | omega | (simp; done) | (simp; omega)) (by first | rfl | omega | (simp; done) | (simp; omega)) (by kernel_rfl) rfl (by kernel_rfl) ow820 r8.ow.srcR (by simp only [List.length_cons, List.length_nil]; omega) (by simp only [List.length_cons, List.length_nil]; omega)) ?_
    rintro d_ v_ w824 ⟨rfl, A821, c822, ha823⟩
    obtain rfl := ha823.val
    have g826 := ha823.gr
    have hS829 := hS812.grO g826 (by rw [hCs26]; exact ⟨(fun e => by have := ow820.ge _ e; simp only [add_block] at this; omega), (fun e => by have := ow820.ge _ e; simp only [add_block] at this; omega), trivial⟩)
    refine ⟨_, rfl, fun act828 f827 => ⟨hS829, ?_⟩⟩
    clear f807
    have ow830 := ha823.own (Sx (w792.heap.size) []) (fun g _ hs => hs) (show w792.heap.size ≤ w805.heap.size by omega)
    have szw824 := g826.size
    replace e0 := e0.gr g826 (fun k hk => by have := ow820.ge k hk; omega)
    replace r8 := r8.gr g826 (fun k hk => by have := ow820.ge k hk; omega)
    replace bx9 := bx9.gr g826 (fun e => by have := ow820.ge _ e; omega)
    replace bx19 := bx19.gr g826 (fun e => by have := ow820.ge _ e; omega)
    replace bx588 := bx588.gr g826 (fun e => by have := ow820.ge _ e; omega)
    replace bx803 := bx803.gr g826 (fun e => by have := ow820.ge _ e; omega)
    clear ow820 g826 ha823
    replace ow830 : OwnR w824 (Sx (w792.heap.size) []) A821 c822 3 (g.ow : List Int) := ow830
    refine AtH.all [7] 2 (by kernel_rfl) (by simp) ⟨?_, trivial⟩
    replace ow830 : OwnR w824 (Sx (w792.heap.size) [some (w29.heap.size)]) A821 c822 3 (g.ow : List Int) := ow830.imp (fun g _ hs => ⟨(fun e => by have := Sx_base hs; injection e; omega), hs⟩)
    have ow839 : OwnR w824 (Sx (w29.heap.size) [some (w582.heap.size), obk (A821)]) (some ⟨w29.heap.size, 0, none⟩) 0 3 ([] : List Int) := Bx.own0 bx588 ⟨(fun e => by injection e; omega), (ow830.neb (fun g hs => hs.1)), (Nat.le_refl _)⟩
    clear bx588
    have hl845 : (([] : List Int) ++ g.pr).length = (([] : List Int)).length + (g.pr : List Int).length := List.length_append
    simp only [List.length_cons, List.length_nil] at hl845
    refine OneH.act f827 #[true, true, true, true, true, true, true, true, false, true, false] (by kernel_rfl) (appendR (α := Int) (t := 22) (d := 12) (n := 0) (m := g.pr.length) (cc := cg1) (xs := []) (ys := g.pr) (bytes := 8) (by first | rfl | omega | (simp; done) | (simp; omega)) (by first | rfl | omega | (simp; done) | (simp; omega)) (by kernel_rfl) rfl (by kernel_rfl) ow839 r8.pr.srcR (by simp only [List.length_cons, List.length_nil]; omega) (by simp only [List.length_cons, List.length_nil]; omega)) ?_
    rintro d_ v_ w844 ⟨rfl, A841, c842, ha843⟩
    obtain rfl := ha843.val
    have g846 := ha843.gr
    have hS849 := hS829.grO g846 (by rw [hCs26]; exact ⟨(fun e => by have := ow839.ge _ e; simp only [add_block] at this; omega), (fun e => by have := ow839.ge _ e; simp only [add_block] at this; omega), trivial⟩)
    refine ⟨_, rfl, fun act848 f847 => ⟨hS849, ?_⟩⟩
    clear f827
    have ow850 := ha843.own (Sx (w29.heap.size) [some (w582.heap.size), obk (A821)]) (fun g _ hs => ⟨hs.1, hs.2.1, hs.2.2⟩) ⟨(fun e => by injection e; omega), ow830.ne_new, (show w29.heap.size ≤ w824.heap.size by omega)⟩
    have szw844 := g846.size
    replace e0 := e0.gr g846 (fun k hk => by have := ow839.ge k hk; omega)
    replace r8 := r8.gr g846 (fun k hk => by have := ow839.ge k hk; omega)
    replace bx9 := bx9.gr g846 (fun e => by have := ow839.ge _ e; omega)
    replace bx19 := bx19.gr g846 (fun e => by have := ow839.ge _ e; omega)
    replace bx803 := bx803.gr g846 (ow839.neb (fun g hs => hs.1))
    replace ow830 : OwnR w844 (Sx (w792.heap.size) [obk (A841)]) A821 c822 3 (g.ow : List Int) := ow830.grA g846 (fun k hk => hk.1) (fun k hk hs => ⟨own_repl ha843.at_ hs.1 hk, hs.2⟩)
    clear ow839 g846 ha843
    replace ow850 : OwnR w844 (Sx (w29.heap.size) [some (w582.heap.size), obk (A821)]) A841 c842 3 (g.pr : List Int) := ow850
    refine AtH.rd (by kernel_rfl) (fun d v c a w h => by cases d <;> exact h) hS849 [8] [[]] [(13, .agg #[.slice A821 ((([] : List Int) ++ g.ow).length) c822, .slice A841 ((([] : List Int) ++ g.pr).length) c842, .slice none 0 0])] #[true, true, true, true, true, true, true, true, true, true, false] [] 1 f847 (by kernel_rfl) trivial (fun act859 f858 => ?_)
    clear f847
    refine AtH.all [10] 0 (by kernel_rfl) (by simp) ⟨?_, trivial⟩
    refine OneH.store f858 (t := 25) (b := w582.heap.size) (off := 0) (v := .agg #[.slice A821 ((([] : List Int) ++ g.ow).length) c822, .slice A841 ((([] : List Int) ++ g.pr).length) c842, .slice none 0 0]) #[true, true, true, true, true, true, true, true, true, true, true] (by kernel_rfl) (by kernel_rfl) bx803 (by kernel_rfl) (fun act865 w861 g862 bx863 f864 => ?_)
    clear f858
    replace bx863 : Bx w861 (w582.heap.size) [.slice A821 ((([] : List Int) ++ g.ow).length) c822, .slice A841 ((([] : List Int) ++ g.pr).length) c842, .slice none 0 0] 25 := bx863
    have hS860 := hS849.gr' g862 (by rw [hCs26]; exact ⟨(by simp only [add_block]; omega), (by simp only [add_block]; omega), trivial⟩)
    have szw861 := g862.size
    replace e0 := e0.gr g862 (fun k h => by injection h; omega)
    replace r8 := r8.gr g862 (fun k h => by injection h; omega)
    replace bx9 := bx9.gr g862 (fun h => by injection h; omega)
    replace bx19 := bx19.gr g862 (fun h => by injection h; omega)
    replace ow850 := ow850.gr g862 (fun k hk => hk.1)
    replace ow830 := ow830.gr g862 (fun k hk e => by have := Sx_base hk; injection e; omega)
    clear bx803 g862
    refine ⟨hS860, ?_⟩
    refine AtH.done (by kernel_rfl) ?_
    clear hS860
    refine t_n ?_
    have f872 := f864.sub (r := [(3, .pointer (some ⟨w582.heap.size, 0, none⟩)), (2, .pointer (some ⟨w1.heap.size, 0, none⟩)), (1, .pointer (some ⟨w.heap.size, 0, none⟩))]) ⟨rfl, rfl, rfl, trivial⟩
    exact ⟨w582.heap.size, A821, A841, c822, c842, f872, e0, r8, bx9, bx19, (ow830.imp (fun g _ hs => ⟨hs.1, (fun e => by have := Sx_base hs; injection e; omega), (by have := Sx_base hs; show w10.heap.size ≤ g; omega)⟩)), (ow850.imp (fun g _ hs => ⟨hs.2.1, hs.1, (by have := Sx_base hs; show w10.heap.size ≤ g; omega)⟩)), bx863, (by omega), (by omega)⟩
  ·refine OneH.seq f36 [[]] [(3, .pointer (some ⟨w29.heap.size, 0, none⟩))] (w29.alloc (.cells #[.slice none 0 0, .slice none 0 0, .slice none 0 0] 25 (0, 0))) [] #[false, true, true, false, false, true, true, false, false, true, false] (by kernel_rfl) (by kernel_rfl) (by kernel_rfl) trivial (fun act877 w874 hw875 f876 => ?_)
   clear f36
   have g878 := gr_alloc hw875
   have hS873 := hS31.gr g878
   have szw874 := g878.size
   replace e0 := e0.gr g878 no_row
   replace r8 := r8.gr g878 (fun _ h => by cases h)
   replace bx9 := bx9.gr g878 (by simp)
   replace bx19 := bx19.gr g878 (by simp)
   have bx884 : Bx w874 (w29.heap.size) [.slice none 0 0, .slice none 0 0, .slice none 0 0] 25 := Bx.new hw875
   have := bx884.lt
   clear g878 hw875
   refine ⟨hS873, ?_⟩
   refine AtH.all [0, 4] 5 (by kernel_rfl) (by simp) ⟨?_, ?_, trivial⟩
   ·refine OneH.seq f876 [[]] [(5, .slice (some ⟨w874.heap.size, 0, none⟩) 0 0)] (w874.alloc (.cells #[] 3 (0, 0))) [] #[true, true, true, false, false, true, true, false, false, true, false] (by kernel_rfl) (by kernel_rfl) (by kernel_rfl) trivial (fun act889 w886 hw887 f888 => ?_)
    clear f876
    have g890 := gr_alloc hw887
    have hS893 := hS873.gr g890
    refine ⟨hS893, ?_⟩
    have szw886 := g890.size
    replace e0 := e0.gr g890 no_row
    replace r8 := r8.gr g890 (fun _ h => by cases h)
    replace bx9 := bx9.gr g890 (by simp)
    replace bx19 := bx19.gr g890 (by simp)
    replace bx884 := bx884.gr g890 (by simp)
    have bx892 : Bx w886 (w874.heap.size) [] 3 := Bx.new hw887
    have := bx892.lt
    clear g890 hw887
    refine AtH.all [3, 4] 4 (by kernel_rfl) (by simp) ⟨?_, ?_, trivial⟩
    ·have ow900 : OwnR w886 (Sx (w874.heap.size) []) (some ⟨w874.heap.size, 0, none⟩) 0 3 ([] : List Int) := Bx.own0 bx892 (Nat.le_refl _)
     clear bx892
     have hl905 : (([] : List Int) ++ g.ow).length = (([] : List Int)).length + (g.ow : List Int).length := List.length_append
     simp only [List.length_cons, List.length_nil] at hl905
     refine OneH.act f888 #[true, true, true, true, false, true, true, false, false, true, false] (by kernel_rfl) (appendR (α := Int) (t := 22) (d := 8) (n := 0) (m := g.ow.length) (cc := cg0) (xs := []) (ys := g.ow) (bytes := 8) (by first | rfl | omega | (simp; done) | (simp; omega)) (by first | rfl | omega | (simp; done) | (simp; omega)) (by kernel_rfl) rfl (by kernel_rfl) ow900 r8.ow.srcR (by simp only [List.length_cons, List.length_nil]; omega) (by simp only [List.length_cons, List.length_nil]; omega)) ?_
     rintro d_ v_ w904 ⟨rfl, A901, c902, ha903⟩
     obtain rfl := ha903.val
     have g906 := ha903.gr
     have hS909 := hS893.grO g906 (by rw [hCs26]; exact ⟨(fun e => by have := ow900.ge _ e; simp only [add_block] at this; omega), (fun e => by have := ow900.ge _ e; simp only [add_block] at this; omega), trivial⟩)
     refine ⟨_, rfl, fun act908 f907 => ⟨hS909, ?_⟩⟩
     clear f888
     have ow910 := ha903.own (Sx (w874.heap.size) []) (fun g _ hs => hs) (show w874.heap.size ≤ w886.heap.size by omega)
     have szw904 := g906.size
     replace e0 := e0.gr g906 (fun k hk => by have := ow900.ge k hk; omega)
     replace r8 := r8.gr g906 (fun k hk => by have := ow900.ge k hk; omega)
     replace bx9 := bx9.gr g906 (fun e => by have := ow900.ge _ e; omega)
     replace bx19 := bx19.gr g906 (fun e => by have := ow900.ge _ e; omega)
     replace bx884 := bx884.gr g906 (fun e => by have := ow900.ge _ e; omega)
     clear ow900 g906 ha903
     replace ow910 : OwnR w904 (Sx (w874.heap.size) []) A901 c902 3 (g.ow : List Int) := ow910
     refine AtH.all [4] 3 (by kernel_rfl) (by simp) ⟨?_, trivial⟩
     refine OneH.seq f907 [[]] [(9, .slice (some ⟨w904.heap.size, 0, none⟩) 0 0)] (w904.alloc (.cells #[] 3 (0, 0))) [] #[true, true, true, true, true, true, true, false, false, true, false] (by kernel_rfl) (by kernel_rfl) (by kernel_rfl) trivial (fun act921 w918 hw919 f920 => ?_)
     clear f907
     have g922 := gr_alloc hw919
     have hS925 := hS909.gr g922
     refine ⟨hS925, ?_⟩
     have szw918 := g922.size
     replace e0 := e0.gr g922 no_row
     replace r8 := r8.gr g922 (fun _ h => by cases h)
     replace bx9 := bx9.gr g922 (by simp)
     replace bx19 := bx19.gr g922 (by simp)
     replace bx884 := bx884.gr g922 (by simp)
     replace ow910 : OwnR w918 (Sx (w874.heap.size) [some (w904.heap.size)]) A901 c902 3 (g.ow : List Int) := ow910.grA g922 (fun _ _ h => by cases h) (fun k hk hs => ⟨(fun e => by injection e; omega), hs⟩)
     have bx924 : Bx w918 (w904.heap.size) [] 3 := Bx.new hw919
     have := bx924.lt
     clear g922 hw919
     refine AtH.all [7] 2 (by kernel_rfl) (by simp) ⟨?_, trivial⟩
     have ow933 : OwnR w918 (Sx (w904.heap.size) [obk (A901)]) (some ⟨w904.heap.size, 0, none⟩) 0 3 ([] : List Int) := Bx.own0 bx924 ⟨(ow910.neb (fun g hs => hs.1)), (Nat.le_refl _)⟩
     clear bx924
     have hl938 : (([] : List Int) ++ g.pr).length = (([] : List Int)).length + (g.pr : List Int).length := List.length_append
     simp only [List.length_cons, List.length_nil] at hl938
     refine OneH.act f920 #[true, true, true, true, true, true, true, true, false, true, false] (by kernel_rfl) (appendR (α := Int) (t := 22) (d := 12) (n := 0) (m := g.pr.length) (cc := cg1) (xs := []) (ys := g.pr) (bytes := 8) (by first | rfl | omega | (simp; done) | (simp; omega)) (by first | rfl | omega | (simp; done) | (simp; omega)) (by kernel_rfl) rfl (by kernel_rfl) ow933 r8.pr.srcR (by simp only [List.length_cons, List.length_nil]; omega) (by simp only [List.length_cons, List.length_nil]; omega)) ?_
     rintro d_ v_ w937 ⟨rfl, A934, c935, ha936⟩
     obtain rfl := ha936.val
     have g939 := ha936.gr
     have hS942 := hS925.grO g939 (by rw [hCs26]; exact ⟨(fun e => by have := ow933.ge _ e; simp only [add_block] at this; omega), (fun e => by have := ow933.ge _ e; simp only [add_block] at this; omega), trivial⟩)
     refine ⟨_, rfl, fun act941 f940 => ⟨hS942, ?_⟩⟩
     clear f920
     have ow943 := ha936.own (Sx (w904.heap.size) [obk (A901)]) (fun g _ hs => ⟨hs.1, hs.2⟩) ⟨ow910.ne_new, (show w904.heap.size ≤ w918.heap.size by omega)⟩
     have szw937 := g939.size
     replace e0 := e0.gr g939 (fun k hk => by have := ow933.ge k hk; omega)
     replace r8 := r8.gr g939 (fun k hk => by have := ow933.ge k hk; omega)
     replace bx9 := bx9.gr g939 (fun e => by have := ow933.ge _ e; omega)
     replace bx19 := bx19.gr g939 (fun e => by have := ow933.ge _ e; omega)
     replace bx884 := bx884.gr g939 (fun e => by have := ow933.ge _ e; omega)
     replace ow910 : OwnR w937 (Sx (w874.heap.size) [obk (A934)]) A901 c902 3 (g.ow : List Int) := ow910.grA g939 (fun k hk => hk.1) (fun k hk hs => ⟨own_repl ha936.at_ hs.1 hk, hs.2⟩)
     clear ow933 g939 ha936
     replace ow943 : OwnR w937 (Sx (w904.heap.size) [obk (A901)]) A934 c935 3 (g.pr : List Int) := ow943
     refine AtH.rd (by kernel_rfl) (fun d v c a w h => by cases d <;> exact h) hS942 [8] [[]] [(13, .agg #[.slice A901 ((([] : List Int) ++ g.ow).length) c902, .slice A934 ((([] : List Int) ++ g.pr).length) c935, .slice none 0 0])] #[true, true, true, true, true, true, true, true, true, true, false] [] 1 f940 (by kernel_rfl) trivial (fun act952 f951 => ?_)
     clear f940
     refine AtH.all [10] 0 (by kernel_rfl) (by simp) ⟨?_, trivial⟩
     refine OneH.store f951 (t := 25) (b := w29.heap.size) (off := 0) (v := .agg #[.slice A901 ((([] : List Int) ++ g.ow).length) c902, .slice A934 ((([] : List Int) ++ g.pr).length) c935, .slice none 0 0]) #[true, true, true, true, true, true, true, true, true, true, true] (by kernel_rfl) (by kernel_rfl) bx884 (by kernel_rfl) (fun act958 w954 g955 bx956 f957 => ?_)
     clear f951
     replace bx956 : Bx w954 (w29.heap.size) [.slice A901 ((([] : List Int) ++ g.ow).length) c902, .slice A934 ((([] : List Int) ++ g.pr).length) c935, .slice none 0 0] 25 := bx956
     have hS953 := hS942.gr' g955 (by rw [hCs26]; exact ⟨(by simp only [add_block]; omega), (by simp only [add_block]; omega), trivial⟩)
     have szw954 := g955.size
     replace e0 := e0.gr g955 (fun k h => by injection h; omega)
     replace r8 := r8.gr g955 (fun k h => by injection h; omega)
     replace bx9 := bx9.gr g955 (fun h => by injection h; omega)
     replace bx19 := bx19.gr g955 (fun h => by injection h; omega)
     replace ow910 := ow910.gr g955 (fun k hk e => by have := Sx_base hk; injection e; omega)
     replace ow943 := ow943.gr g955 (fun k hk e => by have := Sx_base hk; injection e; omega)
     clear bx884 g955
     refine ⟨hS953, ?_⟩
     refine AtH.done (by kernel_rfl) ?_
     clear hS953
     refine t_n ?_
     have f965 := f957.sub (r := [(3, .pointer (some ⟨w29.heap.size, 0, none⟩)), (2, .pointer (some ⟨w1.heap.size, 0, none⟩)), (1, .pointer (some ⟨w.heap.size, 0, none⟩))]) ⟨rfl, rfl, rfl, trivial⟩
     exact ⟨w29.heap.size, A901, A934, c902, c935, f965, e0, r8, bx9, bx19, (ow910.imp (fun g _ hs => ⟨hs.1, (fun e => by have := Sx_base hs; injection e; omega), (by have := Sx_base hs; show w10.heap.size ≤ g; omega)⟩)), (ow943.imp (fun g _ hs => ⟨hs.1, (fun e => by have := Sx_base hs; injection e; omega), (by have := Sx_base hs; show w10.heap.size ≤ g; omega)⟩)), bx956, (by omega), (by omega)⟩
    ·refine OneH.seq f888 [[]] [(9, .slice (some ⟨w886.heap.size, 0, none⟩) 0 0)] (w886.alloc (.cells #[] 3 (0, 0))) [] #[true, true, true, false, true, true, true, false, false, true, false] (by kernel_rfl) (by kernel_rfl) (by kernel_rfl) trivial (fun act970 w967 hw968 f969 => ?_)
     clear f888
     have g971 := gr_alloc hw968
     have hS974 := hS893.gr g971
     refine ⟨hS974, ?_⟩
     have szw967 := g971.size
     replace e0 := e0.gr g971 no_row
     replace r8 := r8.gr g971 (fun _ h => by cases h)
     replace bx9 := bx9.gr g971 (by simp)
     replace bx19 := bx19.gr g971 (by simp)
     replace bx884 := bx884.gr g971 (by simp)
     replace bx892 := bx892.gr g971 (by simp)
     have bx973 : Bx w967 (w886.heap.size) [] 3 := Bx.new hw968
     have := bx973.lt
     clear g971 hw968
     refine AtH.all [3] 3 (by kernel_rfl) (by simp) ⟨?_, trivial⟩
     have ow982 : OwnR w967 (Sx (w874.heap.size) [some (w886.heap.size)]) (some ⟨w874.heap.size, 0, none⟩) 0 3 ([] : List Int) := Bx.own0 bx892 ⟨(fun e => by injection e; omega), (Nat.le_refl _)⟩
     clear bx892
     have hl987 : (([] : List Int) ++ g.ow).length = (([] : List Int)).length + (g.ow : List Int).length := List.length_append
     simp only [List.length_cons, List.length_nil] at hl987
     refine OneH.act f969 #[true, true, true, true, true, true, true, false, false, true, false] (by kernel_rfl) (appendR (α := Int) (t := 22) (d := 8) (n := 0) (m := g.ow.length) (cc := cg0) (xs := []) (ys := g.ow) (bytes := 8) (by first | rfl | omega | (simp; done) | (simp; omega)) (by first | rfl | omega | (simp; done) | (simp; omega)) (by kernel_rfl) rfl (by kernel_rfl) ow982 r8.ow.srcR (by simp only [List.length_cons, List.length_nil]; omega) (by simp only [List.length_cons, List.length_nil]; omega)) ?_
     rintro d_ v_ w986 ⟨rfl, A983, c984, ha985⟩
     obtain rfl := ha985.val
     have g988 := ha985.gr
     have hS991 := hS974.grO g988 (by rw [hCs26]; exact ⟨(fun e => by have := ow982.ge _ e; simp only [add_block] at this; omega), (fun e => by have := ow982.ge _ e; simp only [add_block] at this; omega), trivial⟩)
     refine ⟨_, rfl, fun act990 f989 => ⟨hS991, ?_⟩⟩
     clear f969
     have ow992 := ha985.own (Sx (w874.heap.size) [some (w886.heap.size)]) (fun g _ hs => ⟨hs.1, hs.2⟩) ⟨(fun e => by injection e; omega), (show w874.heap.size ≤ w967.heap.size by omega)⟩
     have szw986 := g988.size
     replace e0 := e0.gr g988 (fun k hk => by have := ow982.ge k hk; omega)
     replace r8 := r8.gr g988 (fun k hk => by have := ow982.ge k hk; omega)
     replace bx9 := bx9.gr g988 (fun e => by have := ow982.ge _ e; omega)
     replace bx19 := bx19.gr g988 (fun e => by have := ow982.ge _ e; omega)
     replace bx884 := bx884.gr g988 (fun e => by have := ow982.ge _ e; omega)
     replace bx973 := bx973.gr g988 (ow982.neb (fun g hs => hs.1))
     clear ow982 g988 ha985
     replace ow992 : OwnR w986 (Sx (w874.heap.size) [some (w886.heap.size)]) A983 c984 3 (g.ow : List Int) := ow992
     refine AtH.all [7] 2 (by kernel_rfl) (by simp) ⟨?_, trivial⟩
     have ow1001 : OwnR w986 (Sx (w886.heap.size) [obk (A983)]) (some ⟨w886.heap.size, 0, none⟩) 0 3 ([] : List Int) := Bx.own0 bx973 ⟨(ow992.neb (fun g hs => hs.1)), (Nat.le_refl _)⟩
     clear bx973
     have hl1006 : (([] : List Int) ++ g.pr).length = (([] : List Int)).length + (g.pr : List Int).length := List.length_append
     simp only [List.length_cons, List.length_nil] at hl1006
     refine OneH.act f989 #[true, true, true, true, true, true, true, true, false, true, false] (by kernel_rfl) (appendR (α := Int) (t := 22) (d := 12) (n := 0) (m := g.pr.length) (cc := cg1) (xs := []) (ys := g.pr) (bytes := 8) (by first | rfl | omega | (simp; done) | (simp; omega)) (by first | rfl | omega | (simp; done) | (simp; omega)) (by kernel_rfl) rfl (by kernel_rfl) ow1001 r8.pr.srcR (by simp only [List.length_cons, List.length_nil]; omega) (by simp only [List.length_cons, List.length_nil]; omega)) ?_
     rintro d_ v_ w1005 ⟨rfl, A1002, c1003, ha1004⟩
     obtain rfl := ha1004.val
     have g1007 := ha1004.gr
     have hS1010 := hS991.grO g1007 (by rw [hCs26]; exact ⟨(fun e => by have := ow1001.ge _ e; simp only [add_block] at this; omega), (fun e => by have := ow1001.ge _ e; simp only [add_block] at this; omega), trivial⟩)
     refine ⟨_, rfl, fun act1009 f1008 => ⟨hS1010, ?_⟩⟩
     clear f989
     have ow1011 := ha1004.own (Sx (w886.heap.size) [obk (A983)]) (fun g _ hs => ⟨hs.1, hs.2⟩) ⟨ow992.ne_new, (show w886.heap.size ≤ w986.heap.size by omega)⟩
     have szw1005 := g1007.size
     replace e0 := e0.gr g1007 (fun k hk => by have := ow1001.ge k hk; omega)
     replace r8 := r8.gr g1007 (fun k hk => by have := ow1001.ge k hk; omega)
     replace bx9 := bx9.gr g1007 (fun e => by have := ow1001.ge _ e; omega)
     replace bx19 := bx19.gr g1007 (fun e => by have := ow1001.ge _ e; omega)
     replace bx884 := bx884.gr g1007 (fun e => by have := ow1001.ge _ e; omega)
     replace ow992 : OwnR w1005 (Sx (w874.heap.size) [obk (A1002)]) A983 c984 3 (g.ow : List Int) := ow992.grA g1007 (fun k hk => hk.1) (fun k hk hs => ⟨own_repl ha1004.at_ hs.1 hk, hs.2⟩)
     clear ow1001 g1007 ha1004
     replace ow1011 : OwnR w1005 (Sx (w886.heap.size) [obk (A983)]) A1002 c1003 3 (g.pr : List Int) := ow1011
     refine AtH.rd (by kernel_rfl) (fun d v c a w h => by cases d <;> exact h) hS1010 [8] [[]] [(13, .agg #[.slice A983 ((([] : List Int) ++ g.ow).length) c984, .slice A1002 ((([] : List Int) ++ g.pr).length) c1003, .slice none 0 0])] #[true, true, true, true, true, true, true, true, true, true, false] [] 1 f1008 (by kernel_rfl) trivial (fun act1020 f1019 => ?_)
     clear f1008
     refine AtH.all [10] 0 (by kernel_rfl) (by simp) ⟨?_, trivial⟩
     refine OneH.store f1019 (t := 25) (b := w29.heap.size) (off := 0) (v := .agg #[.slice A983 ((([] : List Int) ++ g.ow).length) c984, .slice A1002 ((([] : List Int) ++ g.pr).length) c1003, .slice none 0 0]) #[true, true, true, true, true, true, true, true, true, true, true] (by kernel_rfl) (by kernel_rfl) bx884 (by kernel_rfl) (fun act1026 w1022 g1023 bx1024 f1025 => ?_)
     clear f1019
     replace bx1024 : Bx w1022 (w29.heap.size) [.slice A983 ((([] : List Int) ++ g.ow).length) c984, .slice A1002 ((([] : List Int) ++ g.pr).length) c1003, .slice none 0 0] 25 := bx1024
     have hS1021 := hS1010.gr' g1023 (by rw [hCs26]; exact ⟨(by simp only [add_block]; omega), (by simp only [add_block]; omega), trivial⟩)
     have szw1022 := g1023.size
     replace e0 := e0.gr g1023 (fun k h => by injection h; omega)
     replace r8 := r8.gr g1023 (fun k h => by injection h; omega)
     replace bx9 := bx9.gr g1023 (fun h => by injection h; omega)
     replace bx19 := bx19.gr g1023 (fun h => by injection h; omega)
     replace ow992 := ow992.gr g1023 (fun k hk e => by have := Sx_base hk; injection e; omega)
     replace ow1011 := ow1011.gr g1023 (fun k hk e => by have := Sx_base hk; injection e; omega)
     clear bx884 g1023
     refine ⟨hS1021, ?_⟩
     refine AtH.done (by kernel_rfl) ?_
     clear hS1021
     refine t_n ?_
     have f1033 := f1025.sub (r := [(3, .pointer (some ⟨w29.heap.size, 0, none⟩)), (2, .pointer (some ⟨w1.heap.size, 0, none⟩)), (1, .pointer (some ⟨w.heap.size, 0, none⟩))]) ⟨rfl, rfl, rfl, trivial⟩
     exact ⟨w29.heap.size, A983, A1002, c984, c1003, f1033, e0, r8, bx9, bx19, (ow992.imp (fun g _ hs => ⟨hs.1, (fun e => by have := Sx_base hs; injection e; omega), (by have := Sx_base hs; show w10.heap.size ≤ g; omega)⟩)), (ow1011.imp (fun g _ hs => ⟨hs.1, (fun e => by have := Sx_base hs; injection e; omega), (by have := Sx_base hs; show w10.heap.size ≤ g; omega)⟩)), bx1024, (by omega), (by omega)⟩
   ·refine OneH.seq f876 [[]] [(9, .slice (some ⟨w874.heap.size, 0, none⟩) 0 0)] (w874.alloc (.cells #[] 3 (0, 0))) [] #[false, true, true, false, true, true, true, false, false, true, false] (by kernel_rfl) (by kernel_rfl) (by kernel_rfl) trivial (fun act1038 w1035 hw1036 f1037 => ?_)
    clear f876
    have g1039 := gr_alloc hw1036
    have hS1042 := hS873.gr g1039
    refine ⟨hS1042, ?_⟩
    have szw1035 := g1039.size
    replace e0 := e0.gr g1039 no_row
    replace r8 := r8.gr g1039 (fun _ h => by cases h)
    replace bx9 := bx9.gr g1039 (by simp)
    replace bx19 := bx19.gr g1039 (by simp)
    replace bx884 := bx884.gr g1039 (by simp)
    have bx1041 : Bx w1035 (w874.heap.size) [] 3 := Bx.new hw1036
    have := bx1041.lt
    clear g1039 hw1036
    refine AtH.all [0] 4 (by kernel_rfl) (by simp) ⟨?_, trivial⟩
    refine OneH.seq f1037 [[]] [(5, .slice (some ⟨w1035.heap.size, 0, none⟩) 0 0)] (w1035.alloc (.cells #[] 3 (0, 0))) [] #[true, true, true, false, true, true, true, false, false, true, false] (by kernel_rfl) (by kernel_rfl) (by kernel_rfl) trivial (fun act1052 w1049 hw1050 f1051 => ?_)
    clear f1037
    have g1053 := gr_alloc hw1050
    have hS1056 := hS1042.gr g1053
    refine ⟨hS1056, ?_⟩
    have szw1049 := g1053.size
    replace e0 := e0.gr g1053 no_row
    replace r8 := r8.gr g1053 (fun _ h => by cases h)
    replace bx9 := bx9.gr g1053 (by simp)
    replace bx19 := bx19.gr g1053 (by simp)
    replace bx884 := bx884.gr g1053 (by simp)
    replace bx1041 := bx1041.gr g1053 (by simp)
    have bx1055 : Bx w1049 (w1035.heap.size) [] 3 := Bx.new hw1050
    have := bx1055.lt
    clear g1053 hw1050
    refine AtH.all [3] 3 (by kernel_rfl) (by simp) ⟨?_, trivial⟩
    have ow1064 : OwnR w1049 (Sx (w1035.heap.size) []) (some ⟨w1035.heap.size, 0, none⟩) 0 3 ([] : List Int) := Bx.own0 bx1055 (Nat.le_refl _)
    clear bx1055
    have hl1069 : (([] : List Int) ++ g.ow).length = (([] : List Int)).length + (g.ow : List Int).length := List.length_append
    simp only [List.length_cons, List.length_nil] at hl1069
    refine OneH.act f1051 #[true, true, true, true, true, true, true, false, false, true, false] (by kernel_rfl) (appendR (α := Int) (t := 22) (d := 8) (n := 0) (m := g.ow.length) (cc := cg0) (xs := []) (ys := g.ow) (bytes := 8) (by first | rfl | omega | (simp; done) | (simp; omega)) (by first | rfl | omega | (simp; done) | (simp; omega)) (by kernel_rfl) rfl (by kernel_rfl) ow1064 r8.ow.srcR (by simp only [List.length_cons, List.length_nil]; omega) (by simp only [List.length_cons, List.length_nil]; omega)) ?_
    rintro d_ v_ w1068 ⟨rfl, A1065, c1066, ha1067⟩
    obtain rfl := ha1067.val
    have g1070 := ha1067.gr
    have hS1073 := hS1056.grO g1070 (by rw [hCs26]; exact ⟨(fun e => by have := ow1064.ge _ e; simp only [add_block] at this; omega), (fun e => by have := ow1064.ge _ e; simp only [add_block] at this; omega), trivial⟩)
    refine ⟨_, rfl, fun act1072 f1071 => ⟨hS1073, ?_⟩⟩
    clear f1051
    have ow1074 := ha1067.own (Sx (w1035.heap.size) []) (fun g _ hs => hs) (show w1035.heap.size ≤ w1049.heap.size by omega)
    have szw1068 := g1070.size
    replace e0 := e0.gr g1070 (fun k hk => by have := ow1064.ge k hk; omega)
    replace r8 := r8.gr g1070 (fun k hk => by have := ow1064.ge k hk; omega)
    replace bx9 := bx9.gr g1070 (fun e => by have := ow1064.ge _ e; omega)
    replace bx19 := bx19.gr g1070 (fun e => by have := ow1064.ge _ e; omega)
    replace bx884 := bx884.gr g1070 (fun e => by have := ow1064.ge _ e; omega)
    replace bx1041 := bx1041.gr g1070 (fun e => by have := ow1064.ge _ e; omega)
    clear ow1064 g1070 ha1067
    replace ow1074 : OwnR w1068 (Sx (w1035.heap.size) []) A1065 c1066 3 (g.ow : List Int) := ow1074
    refine AtH.all [7] 2 (by kernel_rfl) (by simp) ⟨?_, trivial⟩
    replace ow1074 : OwnR w1068 (Sx (w1035.heap.size) [some (w874.heap.size)]) A1065 c1066 3 (g.ow : List Int) := ow1074.imp (fun g _ hs => ⟨(fun e => by have := Sx_base hs; injection e; omega), hs⟩)
    have ow1083 : OwnR w1068 (Sx (w874.heap.size) [obk (A1065)]) (some ⟨w874.heap.size, 0, none⟩) 0 3 ([] : List Int) := Bx.own0 bx1041 ⟨(ow1074.neb (fun g hs => hs.1)), (Nat.le_refl _)⟩
    clear bx1041
    have hl1089 : (([] : List Int) ++ g.pr).length = (([] : List Int)).length + (g.pr : List Int).length := List.length_append
    simp only [List.length_cons, List.length_nil] at hl1089
    refine OneH.act f1071 #[true, true, true, true, true, true, true, true, false, true, false] (by kernel_rfl) (appendR (α := Int) (t := 22) (d := 12) (n := 0) (m := g.pr.length) (cc := cg1) (xs := []) (ys := g.pr) (bytes := 8) (by first | rfl | omega | (simp; done) | (simp; omega)) (by first | rfl | omega | (simp; done) | (simp; omega)) (by kernel_rfl) rfl (by kernel_rfl) ow1083 r8.pr.srcR (by simp only [List.length_cons, List.length_nil]; omega) (by simp only [List.length_cons, List.length_nil]; omega)) ?_
    rintro d_ v_ w1088 ⟨rfl, A1085, c1086, ha1087⟩
    obtain rfl := ha1087.val
    have g1090 := ha1087.gr
    have hS1093 := hS1073.grO g1090 (by rw [hCs26]; exact ⟨(fun e => by have := ow1083.ge _ e; simp only [add_block] at this; omega), (fun e => by have := ow1083.ge _ e; simp only [add_block] at this; omega), trivial⟩)
    refine ⟨_, rfl, fun act1092 f1091 => ⟨hS1093, ?_⟩⟩
    clear f1071
    have ow1094 := ha1087.own (Sx (w874.heap.size) [obk (A1065)]) (fun g _ hs => ⟨hs.1, hs.2⟩) ⟨ow1074.ne_new, (show w874.heap.size ≤ w1068.heap.size by omega)⟩
    have szw1088 := g1090.size
    replace e0 := e0.gr g1090 (fun k hk => by have := ow1083.ge k hk; omega)
    replace r8 := r8.gr g1090 (fun k hk => by have := ow1083.ge k hk; omega)
    replace bx9 := bx9.gr g1090 (fun e => by have := ow1083.ge _ e; omega)
    replace bx19 := bx19.gr g1090 (fun e => by have := ow1083.ge _ e; omega)
    replace bx884 := bx884.gr g1090 (fun e => by have := ow1083.ge _ e; omega)
    replace ow1074 : OwnR w1088 (Sx (w1035.heap.size) [obk (A1085)]) A1065 c1066 3 (g.ow : List Int) := ow1074.grA g1090 (fun k hk => hk.1) (fun k hk hs => ⟨own_repl ha1087.at_ hs.1 hk, hs.2⟩)
    clear ow1083 g1090 ha1087
    replace ow1094 : OwnR w1088 (Sx (w874.heap.size) [obk (A1065)]) A1085 c1086 3 (g.pr : List Int) := ow1094
    refine AtH.rd (by kernel_rfl) (fun d v c a w h => by cases d <;> exact h) hS1093 [8] [[]] [(13, .agg #[.slice A1065 ((([] : List Int) ++ g.ow).length) c1066, .slice A1085 ((([] : List Int) ++ g.pr).length) c1086, .slice none 0 0])] #[true, true, true, true, true, true, true, true, true, true, false] [] 1 f1091 (by kernel_rfl) trivial (fun act1103 f1102 => ?_)
    clear f1091
    refine AtH.all [10] 0 (by kernel_rfl) (by simp) ⟨?_, trivial⟩
    refine OneH.store f1102 (t := 25) (b := w29.heap.size) (off := 0) (v := .agg #[.slice A1065 ((([] : List Int) ++ g.ow).length) c1066, .slice A1085 ((([] : List Int) ++ g.pr).length) c1086, .slice none 0 0]) #[true, true, true, true, true, true, true, true, true, true, true] (by kernel_rfl) (by kernel_rfl) bx884 (by kernel_rfl) (fun act1109 w1105 g1106 bx1107 f1108 => ?_)
    clear f1102
    replace bx1107 : Bx w1105 (w29.heap.size) [.slice A1065 ((([] : List Int) ++ g.ow).length) c1066, .slice A1085 ((([] : List Int) ++ g.pr).length) c1086, .slice none 0 0] 25 := bx1107
    have hS1104 := hS1093.gr' g1106 (by rw [hCs26]; exact ⟨(by simp only [add_block]; omega), (by simp only [add_block]; omega), trivial⟩)
    have szw1105 := g1106.size
    replace e0 := e0.gr g1106 (fun k h => by injection h; omega)
    replace r8 := r8.gr g1106 (fun k h => by injection h; omega)
    replace bx9 := bx9.gr g1106 (fun h => by injection h; omega)
    replace bx19 := bx19.gr g1106 (fun h => by injection h; omega)
    replace ow1094 := ow1094.gr g1106 (fun k hk e => by have := Sx_base hk; injection e; omega)
    replace ow1074 := ow1074.gr g1106 (fun k hk e => by have := Sx_base hk; injection e; omega)
    clear bx884 g1106
    refine ⟨hS1104, ?_⟩
    refine AtH.done (by kernel_rfl) ?_
    clear hS1104
    refine t_n ?_
    have f1116 := f1108.sub (r := [(3, .pointer (some ⟨w29.heap.size, 0, none⟩)), (2, .pointer (some ⟨w1.heap.size, 0, none⟩)), (1, .pointer (some ⟨w.heap.size, 0, none⟩))]) ⟨rfl, rfl, rfl, trivial⟩
    exact ⟨w29.heap.size, A1065, A1085, c1066, c1086, f1116, e0, r8, bx9, bx19, (ow1074.imp (fun g _ hs => ⟨hs.1, (fun e => by have := Sx_base hs; injection e; omega), (by have := Sx_base hs; show w10.heap.size ≤ g; omega)⟩)), (ow1094.imp (fun g _ hs => ⟨hs.1, (fun e => by have := Sx_base hs; injection e; omega), (by have := Sx_base hs; show w10.heap.size ≤ g; omega)⟩)), bx1107, (by omega), (by omega)⟩
 ·clear r8
  clear bx9
  clear bx19
  clear f12 e0
  intro act1117 w1118 ⟨b_24, A_20, A_21, c_22, c_23, f1119, e1120, r1121, bx1122, bx1123, ow1124, ow1125, bx1126, hb1127, szz1128⟩
  have szw1118 := e1120.size
  have := bx1122.lt
  have := bx1123.lt
  have := bx1126.lt
  refine wp_seq ?_
  refine wp_seq ?_
  refine At.start ?_
  refine At.rd f1119 1 [[]] [(4, .int .i64 (0))] [] (by kernel_rfl) trivial (fun act1133 f1132 => ?_)
  clear f1119
  refine At.done rfl ?_
  refine t_n ?_
  refine wp_block ?_
  have ow1135 : OwnLL w1118 (w1118.heap.size) [obk (A_20), obk (A_21)] none 0 22 3 ([] : List (List Int)) := OwnLL.nil
  replace ow1124 : OwnR w1118 (Sx (w10.heap.size) [obk none, obk (A_21), some (b_24)]) A_20 c_22 3 (g.ow : List Int) := ow1124.imp (fun g _ hs => ⟨by simp [obk], hs⟩)
  replace ow1125 : OwnR w1118 (Sx (w10.heap.size) [obk none, obk (A_20), some (b_24)]) A_21 c_23 3 (g.pr : List Int) := ow1125.imp (fun g _ hs => ⟨by simp [obk], hs⟩)
  have f1140 := f1132.sub (r := [(4, .int .i64 (0)), (3, .pointer (some ⟨b_24, 0, none⟩)), (2, .pointer (some ⟨w1.heap.size, 0, none⟩)), (1, .pointer (some ⟨w.heap.size, 0, none⟩))]) ⟨rfl, rfl, rfl, rfl, trivial⟩
  refine loop_g (fun (m_ : Nat) a_ w_ => ∃ (k : Int) (xs : List (List Int)) (A_1138 : Option Addr) (c_1139 : Nat), m_ = ((g.mv.length : Int) - k).toNat ∧ (Frm 34 a_ [(4, .int .i64 (k)), (3, .pointer (some ⟨b_24, 0, none⟩)), (2, .pointer (some ⟨w1.heap.size, 0, none⟩)), (1, .pointer (some ⟨w.heap.size, 0, none⟩))]) ∧ (Ext w w_) ∧ (RdG w_ 0 w.heap.size Ag0 Ag1 Ag2 cg0 cg1 cg2 g) ∧ (Bx w_ (w.heap.size) [.slice Ag0 g.ow.length cg0, .slice Ag1 g.pr.length cg1, .slice Ag2 g.mv.length cg2] 25) ∧ (Bx w_ (w1.heap.size) [.slice none 0 0, .slice none 0 0, .slice none 0 0] 25) ∧ (OwnR w_ (Sx (w10.heap.size) [obk (A_1138), obk (A_21), some (b_24)]) A_20 c_22 3 (g.ow : List Int)) ∧ (OwnR w_ (Sx (w10.heap.size) [obk (A_1138), obk (A_20), some (b_24)]) A_21 c_23 3 (g.pr : List Int)) ∧ (Bx w_ (b_24) [.slice A_20 ((([] : List Int) ++ g.ow).length) c_22, .slice A_21 ((([] : List Int) ++ g.pr).length) c_23, .slice A_1138 xs.length c_1139] 25) ∧ (OwnLL w_ (w1118.heap.size) [obk (A_20), obk (A_21)] A_1138 c_1139 22 3 (xs : List (List Int))) ∧ (0 ≤ k) ∧ (k ≤ (g.mv.length : Int)) ∧ (xs = g.mv.take k.toNat) ∧ (w10.heap.size ≤ w_.heap.size) ∧ (w1118.heap.size ≤ w_.heap.size)) _ ⟨0, ([] : List (List Int)), none, 0, rfl, f1140, e1120, r1121, bx1122, bx1123, ow1124, ow1125, bx1126, ow1135, (by omega), (by omega), rfl, (by omega), (by omega)⟩ ?_
  clear f1140 f1132
  clear r1121
  clear bx1122
  clear bx1123
  clear ow1124
  clear ow1125
  clear bx1126
  clear ow1135
  clear e1120
  intro m_ act1141 w1142 ⟨k, xs, A_1138, c_1139, hm1144, f1145, e1143, r1146, bx1147, bx1148, ow1149, ow1150, bx1151, r1152, i1153, i1154, hxs, i1155, i1156⟩
  have szw1142 := e1143.size
  have := bx1147.lt
  have := bx1148.lt
  have := bx1151.lt
  have hxl : xs.length = k.toNat := by rw [hxs, List.length_take]; omega
  refine wp_seq ?_
  refine wp_seq ?_
  refine At.start ?_
  refine At.rd f1145 5 [[], [], [.ld (.slice Ag2 g.mv.length cg2)], [], []] [(18, .bool (decide ((k : Int) < ((g.mv.length : Nat) : Int)))), (17, .int .i64 (((g.mv.length : Nat) : Int))), (16, .slice Ag2 g.mv.length cg2), (15, .pointer (some ⟨w.heap.size, 2, none⟩)), (14, .int .i64 (k))] [(w1142.cell? ⟨w.heap.size, 2, none⟩ = some (.slice Ag2 g.mv.length cg2))] (by kernel_rfl) ⟨(bx1147.cell (i := 2) rfl), trivial⟩ (fun act1158 f1157 => ?_)
  clear f1145
  refine At.done rfl ?_
  refine t_n ?_
  refine cond_S f1157 (t := decide ((k : Int) < ((g.mv.length : Nat) : Int))) rfl (fun h1159 => ?_) (fun h1159 => ?_)
  ·have q1160 := of_decide_eq_true h1159
   refine wp_skip ?_
   refine t_n ?_
   refine wp_seq ?_
   refine wp_block ?_
   obtain ⟨ad1161, R1164, C1165, hA1162, _, _, hc1163, hC1166, r1167⟩ := RdII.get r1146.mv (k) (by omega) (by omega)
   have hl1168 := r1167.len
   obtain ⟨Cs1170, hCs1171⟩ : ∃ c : List (Addr × Value), c = [(⟨w.heap.size, 2, none⟩, (.slice Ag2 g.mv.length cg2)), ((ad1161.add ((k : Int).toNat * 1)), (.slice R1164 ((gL g.mv (k)).length) C1165))] := ⟨_, rfl⟩
   have hS1172 : HoldsC Cs1170 w1142 := by rw [hCs1171]; exact ⟨(bx1147.cell (i := 2) rfl), hc1163, trivial⟩
   refine AtH.start Cs1170 13 #[false, false, false, false, false, false, false, false, false, false, false, false, false] (by kernel_rfl) rfl rfl (fun w1174 hw1175 => ?_)
   have g1173 := gr_drew hw1175
   have hS1176 := hS1172.gr g1173
   have szw1174 := g1173.size
   replace e1143 := e1143.gr g1173 no_row
   replace r1146 := r1146.gr g1173 (fun _ h => by cases h)
   replace bx1147 := bx1147.gr g1173 (by simp)
   replace bx1148 := bx1148.gr g1173 (by simp)
   replace ow1149 := ow1149.gr g1173 (fun _ _ h => by cases h)
   replace ow1150 := ow1150.gr g1173 (fun _ _ h => by cases h)
   replace bx1151 := bx1151.gr g1173 (by simp)
   have ow1184 := r1152.gr g1173 (fun _ _ h => by cases h)
   clear r1152
   replace r1167 := r1167.gr g1173 (fun _ h => by cases h)
   clear g1173 hw1175 hS1172
   refine AtH.rd (by kernel_rfl) (fun d v c a w h => by cases d <;> exact h) hS1176 [0, 3, 4, 5, 6, 7] [[], [], [.ld (.slice Ag2 g.mv.length cg2)], [], [.ad ad1161], [.ld (.slice R1164 ((gL g.mv (k)).length) C1165)]] [(28, .slice R1164 ((gL g.mv (k)).length) C1165), (27, .pointer (some (ad1161.add ((k : Int).toNat * 1)))), (26, .int .i64 (k)), (25, .slice Ag2 g.mv.length cg2), (24, .pointer (some ⟨w.heap.size, 2, none⟩)), (21, .pointer (some ⟨b_24, 2, none⟩))] #[true, false, false, true, true, true, true, true, false, false, false, false, false] [(∃ j_ : Nat, Cs1170[j_]? = some (⟨w.heap.size, 2, none⟩, (.slice Ag2 g.mv.length cg2))), (Ag2 = some ad1161), (0 ≤ (k : Int)), ((k : Int) < (g.mv.length : Nat)), (∃ j_ : Nat, Cs1170[j_]? = some ((ad1161.add ((k : Int).toNat * 1)), (.slice R1164 ((gL g.mv (k)).length) C1165)))] 7 f1157 (by kernel_rfl) ⟨⟨0, by rw [hCs1171]; rfl⟩, hA1162, (by omega), (by omega), ⟨1, by rw [hCs1171]; rfl⟩, trivial⟩ (fun act1187 f1186 => ?_)
   clear f1157
   refine AtH.all [1, 2] 6 (by kernel_rfl) (by simp) ⟨?_, ?_, trivial⟩
   ·refine OneH.seq f1186 [[.ld (.slice A_1138 xs.length c_1139)]] [(22, .slice A_1138 xs.length c_1139)] w1174 [(w1174.cell? ⟨b_24, 2, none⟩ = some (.slice A_1138 xs.length c_1139))] #[true, true, false, true, true, true, true, true, false, false, false, false, false] (by kernel_rfl) (by kernel_rfl) (by kernel_rfl) ⟨(bx1151.cell (i := 2) rfl), trivial⟩ (fun act1189 w1190 hw1191 f1188 => ?_)
    obtain rfl : w1174 = w1190 := hw1191.symm
    clear f1186
    refine ⟨hS1176, ?_⟩
    refine AtH.all [2] 5 (by kernel_rfl) (by simp) ⟨?_, trivial⟩
    refine OneH.seq f1188 [[]] [(23, .slice (some ⟨w1174.heap.size, 0, none⟩) 0 0)] (w1174.alloc (.cells #[] 3 (0, 0))) [] #[true, true, true, true, true, true, true, true, false, false, false, false, false] (by kernel_rfl) (by kernel_rfl) (by kernel_rfl) trivial (fun act1196 w1193 hw1194 f1195 => ?_)
    clear f1188
    have g1197 := gr_alloc hw1194
    have hS1200 := hS1176.gr g1197
    refine ⟨hS1200, ?_⟩
    have szw1193 := g1197.size
    replace e1143 := e1143.gr g1197 no_row
    replace r1146 := r1146.gr g1197 (fun _ h => by cases h)
    replace bx1147 := bx1147.gr g1197 (by simp)
    replace bx1148 := bx1148.gr g1197 (by simp)
    replace ow1149 : OwnR w1193 (Sx (w10.heap.size) [some (w1174.heap.size), obk (A_1138), obk (A_21), some (b_24)]) A_20 c_22 3 (g.ow : List Int) := ow1149.grA g1197 (fun _ _ h => by cases h) (fun k hk hs => ⟨(fun e => by injection e; omega), hs.1, hs.2.1, hs.2.2.1, hs.2.2.2⟩)
    replace ow1150 : OwnR w1193 (Sx (w10.heap.size) [some (w1174.heap.size), obk (A_1138), obk (A_20), some (b_24)]) A_21 c_23 3 (g.pr : List Int) := ow1150.grA g1197 (fun _ _ h => by cases h) (fun k hk hs => ⟨(fun e => by injection e; omega), hs.1, hs.2.1, hs.2.2.1, hs.2.2.2⟩)
    replace bx1151 := bx1151.gr g1197 (by simp)
    replace ow1184 : OwnLL w1193 (w1118.heap.size) [some (w1174.heap.size), obk (A_20), obk (A_21)] A_1138 c_1139 22 3 (xs : List (List Int)) := ow1184.grA g1197 (fun _ _ h => by cases h) (fun k hk hs => ⟨(fun e => by injection e; omega), hs.1, hs.2.1, hs.2.2⟩)
    replace r1167 := r1167.gr g1197 (fun _ h => by cases h)
    have bx1199 : Bx w1193 (w1174.heap.size) [] 3 := Bx.new hw1194
    have := bx1199.lt
    clear g1197 hw1194
    refine AtH.all [8] 4 (by kernel_rfl) (by simp) ⟨?_, trivial⟩
    have ow1211 : OwnR w1193 (Sx (w1174.heap.size) [obk (A_20), obk (A_21), obk (A_1138)]) (some ⟨w1174.heap.size, 0, none⟩) 0 3 ([] : List Int) := Bx.own0 bx1199 ⟨(ow1149.neb (fun g hs => hs.1)), (ow1150.neb (fun g hs => hs.1)), (ow1184.neb (fun g hs => hs.1)), (Nat.le_refl _)⟩
    clear bx1199
    have hl1216 : (([] : List Int) ++ (gL g.mv (k))).length = (([] : List Int)).length + (gL g.mv (k) : List Int).length := List.length_append
    simp only [List.length_cons, List.length_nil] at hl1216
    refine OneH.act f1195 #[true, true, true, true, true, true, true, true, true, false, false, false, false] (by kernel_rfl) (appendR (α := Int) (t := 22) (d := 29) (n := 0) (m := (gL g.mv (k)).length) (cc := C1165) (xs := []) (ys := gL g.mv (k)) (bytes := 8) (by first | rfl | omega | (simp; done) | (simp; omega)) (by first | rfl | omega | (simp; done) | (simp; omega)) (by kernel_rfl) rfl (by kernel_rfl) ow1211 r1167.srcR (by simp only [List.length_cons, List.length_nil]; omega) (by simp only [List.length_cons, List.length_nil]; omega)) ?_
    rintro d_ v_ w1215 ⟨rfl, A1212, c1213, ha1214⟩
    obtain rfl := ha1214.val
    have g1217 := ha1214.gr
    have hS1220 := hS1200.grO g1217 (by rw [hCs1171]; exact ⟨(fun e => by have := ow1211.ge _ e; simp only [add_block] at this; omega), (fun e => by have := ow1211.ge _ e; simp only [add_block] at this; omega), trivial⟩)
    refine ⟨_, rfl, fun act1219 f1218 => ⟨hS1220, ?_⟩⟩
    clear f1195
    have ow1221 := ha1214.own (Sx (w1174.heap.size) [obk (A_20), obk (A_21), obk (A_1138)]) (fun g _ hs => ⟨hs.1, hs.2.1, hs.2.2.1, hs.2.2.2⟩) ⟨ow1149.ne_new, ow1150.ne_new, ow1184.ne_new, (show w1174.heap.size ≤ w1193.heap.size by omega)⟩
    have szw1215 := g1217.size
    replace e1143 := e1143.gr g1217 (fun k hk => by have := ow1211.ge k hk; omega)
    replace r1146 := r1146.gr g1217 (fun k hk => by have := ow1211.ge k hk; omega)
    replace bx1147 := bx1147.gr g1217 (fun e => by have := ow1211.ge _ e; omega)
    replace bx1148 := bx1148.gr g1217 (fun e => by have := ow1211.ge _ e; omega)
    replace ow1149 : OwnR w1215 (Sx (w10.heap.size) [obk (A1212), obk (A_1138), obk (A_21), some (b_24)]) A_20 c_22 3 (g.ow : List Int) := ow1149.grA g1217 (fun k hk => hk.1) (fun k hk hs => ⟨own_repl ha1214.at_ hs.1 hk, hs.2.1, hs.2.2.1, hs.2.2.2.1, hs.2.2.2.2⟩)
    replace ow1150 : OwnR w1215 (Sx (w10.heap.size) [obk (A1212), obk (A_1138), obk (A_20), some (b_24)]) A_21 c_23 3 (g.pr : List Int) := ow1150.grA g1217 (fun k hk => hk.1) (fun k hk hs => ⟨own_repl ha1214.at_ hs.1 hk, hs.2.1, hs.2.2.1, hs.2.2.2.1, hs.2.2.2.2⟩)
    replace bx1151 := bx1151.gr g1217 (fun e => by have := ow1211.ge _ e; omega)
    replace ow1184 : OwnLL w1215 (w1118.heap.size) [obk (A1212), obk (A_20), obk (A_21)] A_1138 c_1139 22 3 (xs : List (List Int)) := ow1184.grA g1217 (fun k hk => hk.1) (fun k hk hs => ⟨own_repl ha1214.at_ hs.1 hk, hs.2.1, hs.2.2.1, hs.2.2.2⟩)
    replace r1167 := r1167.gr g1217 (fun k hk => by have := ow1211.ge k hk; omega)
    clear ow1211 g1217 ha1214
    replace ow1221 : OwnR w1215 (Sx (w1174.heap.size) [obk (A_20), obk (A_21), obk (A_1138)]) A1212 c1213 3 (gL g.mv (k) : List Int) := ow1221
    refine AtH.all [9] 3 (by kernel_rfl) (by simp) ⟨?_, trivial⟩
    refine OneH.seq f1218 [[]] [(30, .slice (some ⟨w1215.heap.size, 0, none⟩) 1 1)] (w1215.alloc (.cells #[.slice A1212 ((([] : List Int) ++ (gL g.mv (k))).length) c1213] 22 (0, 0))) [] #[true, true, true, true, true, true, true, true, true, true, false, false, false] (by kernel_rfl) (by kernel_rfl) (by kernel_rfl) trivial (fun act1236 w1233 hw1234 f1235 => ?_)
    clear f1218
    have g1237 := gr_alloc hw1234
    have hS1240 := hS1220.gr g1237
    refine ⟨hS1240, ?_⟩
    have szw1233 := g1237.size
    replace e1143 := e1143.gr g1237 no_row
    replace r1146 := r1146.gr g1237 (fun _ h => by cases h)
    replace bx1147 := bx1147.gr g1237 (by simp)
    replace bx1148 := bx1148.gr g1237 (by simp)
    replace ow1149 : OwnR w1233 (Sx (w10.heap.size) [some (w1215.heap.size), obk (A1212), obk (A_1138), obk (A_21), some (b_24)]) A_20 c_22 3 (g.ow : List Int) := ow1149.grA g1237 (fun _ _ h => by cases h) (fun k hk hs => ⟨(fun e => by injection e; omega), hs.1, hs.2.1, hs.2.2.1, hs.2.2.2.1, hs.2.2.2.2⟩)
    replace ow1150 : OwnR w1233 (Sx (w10.heap.size) [some (w1215.heap.size), obk (A1212), obk (A_1138), obk (A_20), some (b_24)]) A_21 c_23 3 (g.pr : List Int) := ow1150.grA g1237 (fun _ _ h => by cases h) (fun k hk hs => ⟨(fun e => by injection e; omega), hs.1, hs.2.1, hs.2.2.1, hs.2.2.2.1, hs.2.2.2.2⟩)
    replace bx1151 := bx1151.gr g1237 (by simp)
    replace ow1184 : OwnLL w1233 (w1118.heap.size) [some (w1215.heap.size), obk (A1212), obk (A_20), obk (A_21)] A_1138 c_1139 22 3 (xs : List (List Int)) := ow1184.grA g1237 (fun _ _ h => by cases h) (fun k hk hs => ⟨(fun e => by injection e; omega), hs.1, hs.2.1, hs.2.2.1, hs.2.2.2⟩)
    replace r1167 := r1167.gr g1237 (fun _ h => by cases h)
    replace ow1221 : OwnR w1233 (Sx (w1174.heap.size) [some (w1215.heap.size), obk (A_20), obk (A_21), obk (A_1138)]) A1212 c1213 3 (gL g.mv (k) : List Int) := ow1221.grA g1237 (fun _ _ h => by cases h) (fun k hk hs => ⟨(fun e => by injection e; omega), hs.1, hs.2.1, hs.2.2.1, hs.2.2.2⟩)
    have bx1239 : Bx w1233 (w1215.heap.size) [.slice A1212 ((([] : List Int) ++ (gL g.mv (k))).length) c1213] 22 := Bx.new hw1234
    have := bx1239.lt
    clear g1237 hw1234
    refine AtH.all [10] 2 (by kernel_rfl) (by simp) ⟨?_, trivial⟩
    have ow1252 : OwnR w1233 (Sx (w1118.heap.size) [obk (A_20), obk (A_21)]) A1212 c1213 3 (gL g.mv (k) : List Int) := ow1221.imp (fun g _ hs => ⟨hs.2.1, hs.2.2.1, (by have := Sx_base hs; show w1118.heap.size ≤ g; omega)⟩)
    have ow1253 : OwnLL w1233 (w1118.heap.size) [obk (A1212), obk (A_20), obk (A_21)] A_1138 c_1139 22 3 (xs : List (List Int)) := (ow1184.imp (fun g _ hs => ⟨hs.2.1, hs.2.2.1, hs.2.2.2.1, hs.2.2.2.2⟩))
    have hl1254 : (xs ++ [gL g.mv (k)]).length = (xs).length + 1 := by simp
    refine OneH.act f1235 #[true, true, true, true, true, true, true, true, true, true, true, false, false] (by kernel_rfl) (appendLL (t := 23) (d := 31) (n := xs.length) (m := 1) (cc := 1) (ls := xs) (xs := gL g.mv (k)) (bytes := 24) (by first | rfl | omega | (simp; done) | (simp; omega)) (by kernel_rfl) (by kernel_rfl) (bx1239.as (by first | rfl | (simp; done))) ow1253 ow1252 ⟨ow1149.ne_new, ow1150.ne_new, (show w1118.heap.size ≤ w1233.heap.size by omega)⟩ (by omega) (by omega)) ?_
    rintro d_ v_ w1255 ⟨rfl, A1256, c1257, rfl, g1258, ha1259, ow1260⟩
    have hS1263 := hS1240.grO g1258 (by rw [hCs1171]; exact ⟨(fun e => by have := ow1184.ge _ e; simp only [add_block] at this; omega), (fun e => by have := ow1184.ge _ e; simp only [add_block] at this; omega), trivial⟩)
    refine ⟨_, rfl, fun act1262 f1261 => ⟨hS1263, ?_⟩⟩
    clear f1235
    clear bx1239 ow1221 ow1252 ow1253
    have szw1255 := g1258.size
    replace e1143 := e1143.gr g1258 (fun k hk => by have := ow1184.ge k hk; omega)
    replace r1146 := r1146.gr g1258 (fun k hk => by have := ow1184.ge k hk; omega)
    replace bx1147 := bx1147.gr g1258 (fun e => by have := ow1184.ge _ e; omega)
    replace bx1148 := bx1148.gr g1258 (fun e => by have := ow1184.ge _ e; omega)
    replace ow1149 : OwnR w1255 (Sx (w10.heap.size) [some (w1215.heap.size), obk (A1212), obk (A1256), obk (A_21), some (b_24)]) A_20 c_22 3 (g.ow : List Int) := ow1149.grA g1258 (fun k hk => hk.2.2.1) (fun k hk hs => ⟨hs.1, hs.2.1, own_repl ha1259 hs.2.2.1 hk, hs.2.2.2.1, hs.2.2.2.2.1, hs.2.2.2.2.2⟩)
    replace ow1150 : OwnR w1255 (Sx (w10.heap.size) [some (w1215.heap.size), obk (A1212), obk (A1256), obk (A_20), some (b_24)]) A_21 c_23 3 (g.pr : List Int) := ow1150.grA g1258 (fun k hk => hk.2.2.1) (fun k hk hs => ⟨hs.1, hs.2.1, own_repl ha1259 hs.2.2.1 hk, hs.2.2.2.1, hs.2.2.2.2.1, hs.2.2.2.2.2⟩)
    replace bx1151 := bx1151.gr g1258 (fun e => by have := ow1184.ge _ e; omega)
    replace r1167 := r1167.gr g1258 (fun k hk => by have := ow1184.ge k hk; omega)
    clear ow1184 g1258 ha1259
    refine AtH.rd (by kernel_rfl) (fun d v c a w h => by cases d <;> exact h) hS1263 [11] [[]] [(32, .pointer (some ⟨b_24, 2, none⟩))] #[true, true, true, true, true, true, true, true, true, true, true, true, false] [] 1 f1261 (by kernel_rfl) trivial (fun act1273 f1272 => ?_)
    clear f1261
    refine AtH.all [12] 0 (by kernel_rfl) (by simp) ⟨?_, trivial⟩
    refine OneH.store f1272 (t := 23) (b := b_24) (off := 2) (v := .slice A1256 ((xs ++ [gL g.mv (k)]).length) c1257) #[true, true, true, true, true, true, true, true, true, true, true, true, true] (by kernel_rfl) (by kernel_rfl) bx1151 (by kernel_rfl) (fun act1279 w1275 g1276 bx1277 f1278 => ?_)
    clear f1272
    replace bx1277 : Bx w1275 (b_24) [.slice A_20 ((([] : List Int) ++ g.ow).length) c_22, .slice A_21 ((([] : List Int) ++ g.pr).length) c_23, .slice A1256 ((xs ++ [gL g.mv (k)]).length) c1257] 25 := bx1277
    have hS1274 := hS1263.gr' g1276 (by rw [hCs1171]; exact ⟨(by simp only [add_block]; omega), (by simp only [add_block]; omega), trivial⟩)
    have szw1275 := g1276.size
    replace e1143 := e1143.gr g1276 (fun k h => by injection h; omega)
    replace r1146 := r1146.gr g1276 (fun k h => by injection h; omega)
    replace bx1147 := bx1147.gr g1276 (fun h => by injection h; omega)
    replace bx1148 := bx1148.gr g1276 (fun h => by injection h; omega)
    replace ow1149 := ow1149.gr g1276 (fun k hk => hk.2.2.2.2.1)
    replace ow1150 := ow1150.gr g1276 (fun k hk => hk.2.2.2.2.1)
    replace r1167 := r1167.gr g1276 (fun k h => by injection h; omega)
    replace ow1260 := ow1260.gr g1276 (fun k hk e => by have := Sx_base hk; injection e; omega)
    clear bx1151 g1276
    refine ⟨hS1274, ?_⟩
    refine AtH.done (by kernel_rfl) ?_
    clear hS1274
    refine b_n ?_
    refine t_n ?_
    refine At.start ?_
    refine At.rd f1278 3 [[], [.as_ (.int .i64 (k + 1))], []] [(4, .int .i64 (k + 1)), (20, .int .i64 (k + 1)), (19, .int .i64 (k))] [((.int .i64 (IntKind.i64.wrap (k + 1)) : Value) = .int .i64 (k + 1))] (by kernel_rfl) ⟨(w64 (by omega) (by omega)), trivial⟩ (fun act1289 f1288 => ?_)
    clear f1278
    refine At.done rfl ?_
    refine t_n ?_
    have f1290 := f1288.sub (r := [(4, .int .i64 (k + 1)), (3, .pointer (some ⟨b_24, 0, none⟩)), (2, .pointer (some ⟨w1.heap.size, 0, none⟩)), (1, .pointer (some ⟨w.heap.size, 0, none⟩))]) ⟨rfl, rfl, rfl, rfl, trivial⟩
    exact ⟨_, (by omega), (k + 1), (xs ++ [gL g.mv (k)] : List (List Int)), A1256, c1257, rfl, f1290, e1143, r1146, bx1147, bx1148, (ow1149.imp (fun g _ hs => ⟨hs.2.2.1, hs.2.2.2.1, hs.2.2.2.2.1, hs.2.2.2.2.2⟩)), (ow1150.imp (fun g _ hs => ⟨hs.2.2.1, hs.2.2.2.1, hs.2.2.2.2.1, hs.2.2.2.2.2⟩)), bx1277, ow1260, (by omega), (by omega), (takeLL_push hxs (by omega) (by omega)), (by omega), (by omega)⟩
   ·refine OneH.seq f1186 [[]] [(23, .slice (some ⟨w1174.heap.size, 0, none⟩) 0 0)] (w1174.alloc (.cells #[] 3 (0, 0))) [] #[true, false, true, true, true, true, true, true, false, false, false, false, false] (by kernel_rfl) (by kernel_rfl) (by kernel_rfl) trivial (fun act1295 w1292 hw1293 f1294 => ?_)
    clear f1186
    have g1296 := gr_alloc hw1293
    have hS1299 := hS1176.gr g1296
    refine ⟨hS1299, ?_⟩
    have szw1292 := g1296.size
    replace e1143 := e1143.gr g1296 no_row
    replace r1146 := r1146.gr g1296 (fun _ h => by cases h)
    replace bx1147 := bx1147.gr g1296 (by simp)
    replace bx1148 := bx1148.gr g1296 (by simp)
    replace ow1149 : OwnR w1292 (Sx (w10.heap.size) [some (w1174.heap.size), obk (A_1138), obk (A_21), some (b_24)]) A_20 c_22 3 (g.ow : List Int) := ow1149.grA g1296 (fun _ _ h => by cases h) (fun k hk hs => ⟨(fun e => by injection e; omega), hs.1, hs.2.1, hs.2.2.1, hs.2.2.2⟩)
    replace ow1150 : OwnR w1292 (Sx (w10.heap.size) [some (w1174.heap.size), obk (A_1138), obk (A_20), some (b_24)]) A_21 c_23 3 (g.pr : List Int) := ow1150.grA g1296 (fun _ _ h => by cases h) (fun k hk hs => ⟨(fun e => by injection e; omega), hs.1, hs.2.1, hs.2.2.1, hs.2.2.2⟩)
    replace bx1151 := bx1151.gr g1296 (by simp)
    replace ow1184 : OwnLL w1292 (w1118.heap.size) [some (w1174.heap.size), obk (A_20), obk (A_21)] A_1138 c_1139 22 3 (xs : List (List Int)) := ow1184.grA g1296 (fun _ _ h => by cases h) (fun k hk hs => ⟨(fun e => by injection e; omega), hs.1, hs.2.1, hs.2.2⟩)
    replace r1167 := r1167.gr g1296 (fun _ h => by cases h)
    have bx1298 : Bx w1292 (w1174.heap.size) [] 3 := Bx.new hw1293
    have := bx1298.lt
    clear g1296 hw1293
    refine AtH.all [1, 8] 5 (by kernel_rfl) (by simp) ⟨?_, ?_, trivial⟩
    ·refine OneH.seq f1294 [[.ld (.slice A_1138 xs.length c_1139)]] [(22, .slice A_1138 xs.length c_1139)] w1292 [(w1292.cell? ⟨b_24, 2, none⟩ = some (.slice A_1138 xs.length c_1139))] #[true, true, true, true, true, true, true, true, false, false, false, false, false] (by kernel_rfl) (by kernel_rfl) (by kernel_rfl) ⟨(bx1151.cell (i := 2) rfl), trivial⟩ (fun act1310 w1311 hw1312 f1309 => ?_)
     obtain rfl : w1292 = w1311 := hw1312.symm
     clear f1294
     refine ⟨hS1299, ?_⟩
     refine AtH.all [8] 4 (by kernel_rfl) (by simp) ⟨?_, trivial⟩
     have ow1314 : OwnR w1292 (Sx (w1174.heap.size) [obk (A_20), obk (A_21), obk (A_1138)]) (some ⟨w1174.heap.size, 0, none⟩) 0 3 ([] : List Int) := Bx.own0 bx1298 ⟨(ow1149.neb (fun g hs => hs.1)), (ow1150.neb (fun g hs => hs.1)), (ow1184.neb (fun g hs => hs.1)), (Nat.le_refl _)⟩
     clear bx1298
     have hl1319 : (([] : List Int) ++ (gL g.mv (k))).length = (([] : List Int)).length + (gL g.mv (k) : List Int).length := List.length_append
     simp only [List.length_cons, List.length_nil] at hl1319
     refine OneH.act f1309 #[true, true, true, true, true, true, true, true, true, false, false, false, false] (by kernel_rfl) (appendR (α := Int) (t := 22) (d := 29) (n := 0) (m := (gL g.mv (k)).length) (cc := C1165) (xs := []) (ys := gL g.mv (k)) (bytes := 8) (by first | rfl | omega | (simp; done) | (simp; omega)) (by first | rfl | omega | (simp; done) | (simp; omega)) (by kernel_rfl) rfl (by kernel_rfl) ow1314 r1167.srcR (by simp only [List.length_cons, List.length_nil]; omega) (by simp only [List.length_cons, List.length_nil]; omega)) ?_
     rintro d_ v_ w1318 ⟨rfl, A1315, c1316, ha1317⟩
     obtain rfl := ha1317.val
     have g1320 := ha1317.gr
     have hS1323 := hS1299.grO g1320 (by rw [hCs1171]; exact ⟨(fun e => by have := ow1314.ge _ e; simp only [add_block] at this; omega), (fun e => by have := ow1314.ge _ e; simp only [add_block] at this; omega), trivial⟩)
     refine ⟨_, rfl, fun act1322 f1321 => ⟨hS1323, ?_⟩⟩
     clear f1309
     have ow1324 := ha1317.own (Sx (w1174.heap.size) [obk (A_20), obk (A_21), obk (A_1138)]) (fun g _ hs => ⟨hs.1, hs.2.1, hs.2.2.1, hs.2.2.2⟩) ⟨ow1149.ne_new, ow1150.ne_new, ow1184.ne_new, (show w1174.heap.size ≤ w1292.heap.size by omega)⟩
     have szw1318 := g1320.size
     replace e1143 := e1143.gr g1320 (fun k hk => by have := ow1314.ge k hk; omega)
     replace r1146 := r1146.gr g1320 (fun k hk => by have := ow1314.ge k hk; omega)
     replace bx1147 := bx1147.gr g1320 (fun e => by have := ow1314.ge _ e; omega)
     replace bx1148 := bx1148.gr g1320 (fun e => by have := ow1314.ge _ e; omega)
     replace ow1149 : OwnR w1318 (Sx (w10.heap.size) [obk (A1315), obk (A_1138), obk (A_21), some (b_24)]) A_20 c_22 3 (g.ow : List Int) := ow1149.grA g1320 (fun k hk => hk.1) (fun k hk hs => ⟨own_repl ha1317.at_ hs.1 hk, hs.2.1, hs.2.2.1, hs.2.2.2.1, hs.2.2.2.2⟩)
     replace ow1150 : OwnR w1318 (Sx (w10.heap.size) [obk (A1315), obk (A_1138), obk (A_20), some (b_24)]) A_21 c_23 3 (g.pr : List Int) := ow1150.grA g1320 (fun k hk => hk.1) (fun k hk hs => ⟨own_repl ha1317.at_ hs.1 hk, hs.2.1, hs.2.2.1, hs.2.2.2.1, hs.2.2.2.2⟩)
     replace bx1151 := bx1151.gr g1320 (fun e => by have := ow1314.ge _ e; omega)
     replace ow1184 : OwnLL w1318 (w1118.heap.size) [obk (A1315), obk (A_20), obk (A_21)] A_1138 c_1139 22 3 (xs : List (List Int)) := ow1184.grA g1320 (fun k hk => hk.1) (fun k hk hs => ⟨own_repl ha1317.at_ hs.1 hk, hs.2.1, hs.2.2.1, hs.2.2.2⟩)
     replace r1167 := r1167.gr g1320 (fun k hk => by have := ow1314.ge k hk; omega)
     clear ow1314 g1320 ha1317
     replace ow1324 : OwnR w1318 (Sx (w1174.heap.size) [obk (A_20), obk (A_21), obk (A_1138)]) A1315 c1316 3 (gL g.mv (k) : List Int) := ow1324
     refine AtH.all [9] 3 (by kernel_rfl) (by simp) ⟨?_, trivial⟩
     refine OneH.seq f1321 [[]] [(30, .slice (some ⟨w1318.heap.size, 0, none⟩) 1 1)] (w1318.alloc (.cells #[.slice A1315 ((([] : List Int) ++ (gL g.mv (k))).length) c1316] 22 (0, 0))) [] #[true, true, true, true, true, true, true, true, true, true, false, false, false] (by kernel_rfl) (by kernel_rfl) (by kernel_rfl) trivial (fun act1339 w1336 hw1337 f1338 => ?_)
     clear f1321
     have g1340 := gr_alloc hw1337
     have hS1343 := hS1323.gr g1340
     refine ⟨hS1343, ?_⟩
     have szw1336 := g1340.size
     replace e1143 := e1143.gr g1340 no_row
     replace r1146 := r1146.gr g1340 (fun _ h => by cases h)
     replace bx1147 := bx1147.gr g1340 (by simp)
     replace bx1148 := bx1148.gr g1340 (by simp)
     replace ow1149 : OwnR w1336 (Sx (w10.heap.size) [some (w1318.heap.size), obk (A1315), obk (A_1138), obk (A_21), some (b_24)]) A_20 c_22 3 (g.ow : List Int) := ow1149.grA g1340 (fun _ _ h => by cases h) (fun k hk hs => ⟨(fun e => by injection e; omega), hs.1, hs.2.1, hs.2.2.1, hs.2.2.2.1, hs.2.2.2.2⟩)
     replace ow1150 : OwnR w1336 (Sx (w10.heap.size) [some (w1318.heap.size), obk (A1315), obk (A_1138), obk (A_20), some (b_24)]) A_21 c_23 3 (g.pr : List Int) := ow1150.grA g1340 (fun _ _ h => by cases h) (fun k hk hs => ⟨(fun e => by injection e; omega), hs.1, hs.2.1, hs.2.2.1, hs.2.2.2.1, hs.2.2.2.2⟩)
     replace bx1151 := bx1151.gr g1340 (by simp)
     replace ow1184 : OwnLL w1336 (w1118.heap.size) [some (w1318.heap.size), obk (A1315), obk (A_20), obk (A_21)] A_1138 c_1139 22 3 (xs : List (List Int)) := ow1184.grA g1340 (fun _ _ h => by cases h) (fun k hk hs => ⟨(fun e => by injection e; omega), hs.1, hs.2.1, hs.2.2.1, hs.2.2.2⟩)
     replace r1167 := r1167.gr g1340 (fun _ h => by cases h)
     replace ow1324 : OwnR w1336 (Sx (w1174.heap.size) [some (w1318.heap.size), obk (A_20), obk (A_21), obk (A_1138)]) A1315 c1316 3 (gL g.mv (k) : List Int) := ow1324.grA g1340 (fun _ _ h => by cases h) (fun k hk hs => ⟨(fun e => by injection e; omega), hs.1, hs.2.1, hs.2.2.1, hs.2.2.2⟩)
     have bx1342 : Bx w1336 (w1318.heap.size) [.slice A1315 ((([] : List Int) ++ (gL g.mv (k))).length) c1316] 22 := Bx.new hw1337
     have := bx1342.lt
     clear g1340 hw1337
     refine AtH.all [10] 2 (by kernel_rfl) (by simp) ⟨?_, trivial⟩
     have ow1355 : OwnR w1336 (Sx (w1118.heap.size) [obk (A_20), obk (A_21)]) A1315 c1316 3 (gL g.mv (k) : List Int) := ow1324.imp (fun g _ hs => ⟨hs.2.1, hs.2.2.1, (by have := Sx_base hs; show w1118.heap.size ≤ g; omega)⟩)
     have ow1356 : OwnLL w1336 (w1118.heap.size) [obk (A1315), obk (A_20), obk (A_21)] A_1138 c_1139 22 3 (xs : List (List Int)) := (ow1184.imp (fun g _ hs => ⟨hs.2.1, hs.2.2.1, hs.2.2.2.1, hs.2.2.2.2⟩))
     have hl1357 : (xs ++ [gL g.mv (k)]).length = (xs).length + 1 := by simp
     refine OneH.act f1338 #[true, true, true, true, true, true, true, true, true, true, true, false, false] (by kernel_rfl) (appendLL (t := 23) (d := 31) (n := xs.length) (m := 1) (cc := 1) (ls := xs) (xs := gL g.mv (k)) (bytes := 24) (by first | rfl | omega | (simp; done) | (simp; omega)) (by kernel_rfl) (by kernel_rfl) (bx1342.as (by first | rfl | (simp; done))) ow1356 ow1355 ⟨ow1149.ne_new, ow1150.ne_new, (show w1118.heap.size ≤ w1336.heap.size by omega)⟩ (by omega) (by omega)) ?_
     rintro d_ v_ w1358 ⟨rfl, A1359, c1360, rfl, g1361, ha1362, ow1363⟩
     have hS1366 := hS1343.grO g1361 (by rw [hCs1171]; exact ⟨(fun e => by have := ow1184.ge _ e; simp only [add_block] at this; omega), (fun e => by have := ow1184.ge _ e; simp only [add_block] at this; omega), trivial⟩)
     refine ⟨_, rfl, fun act1365 f1364 => ⟨hS1366, ?_⟩⟩
     clear f1338
     clear bx1342 ow1324 ow1355 ow1356
     have szw1358 := g1361.size
     replace e1143 := e1143.gr g1361 (fun k hk => by have := ow1184.ge k hk; omega)
     replace r1146 := r1146.gr g1361 (fun k hk => by have := ow1184.ge k hk; omega)
     replace bx1147 := bx1147.gr g1361 (fun e => by have := ow1184.ge _ e; omega)
     replace bx1148 := bx1148.gr g1361 (fun e => by have := ow1184.ge _ e; omega)
     replace ow1149 : OwnR w1358 (Sx (w10.heap.size) [some (w1318.heap.size), obk (A1315), obk (A1359), obk (A_21), some (b_24)]) A_20 c_22 3 (g.ow : List Int) := ow1149.grA g1361 (fun k hk => hk.2.2.1) (fun k hk hs => ⟨hs.1, hs.2.1, own_repl ha1362 hs.2.2.1 hk, hs.2.2.2.1, hs.2.2.2.2.1, hs.2.2.2.2.2⟩)
     replace ow1150 : OwnR w1358 (Sx (w10.heap.size) [some (w1318.heap.size), obk (A1315), obk (A1359), obk (A_20), some (b_24)]) A_21 c_23 3 (g.pr : List Int) := ow1150.grA g1361 (fun k hk => hk.2.2.1) (fun k hk hs => ⟨hs.1, hs.2.1, own_repl ha1362 hs.2.2.1 hk, hs.2.2.2.1, hs.2.2.2.2.1, hs.2.2.2.2.2⟩)
     replace bx1151 := bx1151.gr g1361 (fun e => by have := ow1184.ge _ e; omega)
     replace r1167 := r1167.gr g1361 (fun k hk => by have := ow1184.ge k hk; omega)
     clear ow1184 g1361 ha1362
     refine AtH.rd (by kernel_rfl) (fun d v c a w h => by cases d <;> exact h) hS1366 [11] [[]] [(32, .pointer (some ⟨b_24, 2, none⟩))] #[true, true, true, true, true, true, true, true, true, true, true, true, false] [] 1 f1364 (by kernel_rfl) trivial (fun act1376 f1375 => ?_)
     clear f1364
     refine AtH.all [12] 0 (by kernel_rfl) (by simp) ⟨?_, trivial⟩
     refine OneH.store f1375 (t := 23) (b := b_24) (off := 2) (v := .slice A1359 ((xs ++ [gL g.mv (k)]).length) c1360) #[true, true, true, true, true, true, true, true, true, true, true, true, true] (by kernel_rfl) (by kernel_rfl) bx1151 (by kernel_rfl) (fun act1382 w1378 g1379 bx1380 f1381 => ?_)
     clear f1375
     replace bx1380 : Bx w1378 (b_24) [.slice A_20 ((([] : List Int) ++ g.ow).length) c_22, .slice A_21 ((([] : List Int) ++ g.pr).length) c_23, .slice A1359 ((xs ++ [gL g.mv (k)]).length) c1360] 25 := bx1380
     have hS1377 := hS1366.gr' g1379 (by rw [hCs1171]; exact ⟨(by simp only [add_block]; omega), (by simp only [add_block]; omega), trivial⟩)
     have szw1378 := g1379.size
     replace e1143 := e1143.gr g1379 (fun k h => by injection h; omega)
     replace r1146 := r1146.gr g1379 (fun k h => by injection h; omega)
     replace bx1147 := bx1147.gr g1379 (fun h => by injection h; omega)
     replace bx1148 := bx1148.gr g1379 (fun h => by injection h; omega)
     replace ow1149 := ow1149.gr g1379 (fun k hk => hk.2.2.2.2.1)
     replace ow1150 := ow1150.gr g1379 (fun k hk => hk.2.2.2.2.1)
     replace r1167 := r1167.gr g1379 (fun k h => by injection h; omega)
     replace ow1363 := ow1363.gr g1379 (fun k hk e => by have := Sx_base hk; injection e; omega)
     clear bx1151 g1379
     refine ⟨hS1377, ?_⟩
     refine AtH.done (by kernel_rfl) ?_
     clear hS1377
     refine b_n ?_
     refine t_n ?_
     refine At.start ?_
     refine At.rd f1381 3 [[], [.as_ (.int .i64 (k + 1))], []] [(4, .int .i64 (k + 1)), (20, .int .i64 (k + 1)), (19, .int .i64 (k))] [((.int .i64 (IntKind.i64.wrap (k + 1)) : Value) = .int .i64 (k + 1))] (by kernel_rfl) ⟨(w64 (by omega) (by omega)), trivial⟩ (fun act1392 f1391 => ?_)
     clear f1381
     refine At.done rfl ?_
     refine t_n ?_
     have f1393 := f1391.sub (r := [(4, .int .i64 (k + 1)), (3, .pointer (some ⟨b_24, 0, none⟩)), (2, .pointer (some ⟨w1.heap.size, 0, none⟩)), (1, .pointer (some ⟨w.heap.size, 0, none⟩))]) ⟨rfl, rfl, rfl, rfl, trivial⟩
     exact ⟨_, (by omega), (k + 1), (xs ++ [gL g.mv (k)] : List (List Int)), A1359, c1360, rfl, f1393, e1143, r1146, bx1147, bx1148, (ow1149.imp (fun g _ hs => ⟨hs.2.2.1, hs.2.2.2.1, hs.2.2.2.2.1, hs.2.2.2.2.2⟩)), (ow1150.imp (fun g _ hs => ⟨hs.2.2.1, hs.2.2.2.1, hs.2.2.2.2.1, hs.2.2.2.2.2⟩)), bx1380, ow1363, (by omega), (by omega), (takeLL_push hxs (by omega) (by omega)), (by omega), (by omega)⟩
    ·have ow1395 : OwnR w1292 (Sx (w1174.heap.size) [obk (A_20), obk (A_21), obk (A_1138)]) (some ⟨w1174.heap.size, 0, none⟩) 0 3 ([] : List Int) := Bx.own0 bx1298 ⟨(ow1149.neb (fun g hs => hs.1)), (ow1150.neb (fun g hs => hs.1)), (ow1184.neb (fun g hs => hs.1)), (Nat.le_refl _)⟩
     clear bx1298
     have hl1400 : (([] : List Int) ++ (gL g.mv (k))).length = (([] : List Int)).length + (gL g.mv (k) : List Int).length := List.length_append
     simp only [List.length_cons, List.length_nil] at hl1400
     refine OneH.act f1294 #[true, false, true, true, true, true, true, true, true, false, false, false, false] (by kernel_rfl) (appendR (α := Int) (t := 22) (d := 29) (n := 0) (m := (gL g.mv (k)).length) (cc := C1165) (xs := []) (ys := gL g.mv (k)) (bytes := 8) (by first | rfl | omega | (simp; done) | (simp; omega)) (by first | rfl | omega | (simp; done) | (simp; omega)) (by kernel_rfl) rfl (by kernel_rfl) ow1395 r1167.srcR (by simp only [List.length_cons, List.length_nil]; omega) (by simp only [List.length_cons, List.length_nil]; omega)) ?_
     rintro d_ v_ w1399 ⟨rfl, A1396, c1397, ha1398⟩
     obtain rfl := ha1398.val
     have g1401 := ha1398.gr
     have hS1404 := hS1299.grO g1401 (by rw [hCs1171]; exact ⟨(fun e => by have := ow1395.ge _ e; simp only [add_block] at this; omega), (fun e => by have := ow1395.ge _ e; simp only [add_block] at this; omega), trivial⟩)
     refine ⟨_, rfl, fun act1403 f1402 => ⟨hS1404, ?_⟩⟩
     clear f1294
     have ow1405 := ha1398.own (Sx (w1174.heap.size) [obk (A_20), obk (A_21), obk (A_1138)]) (fun g _ hs => ⟨hs.1, hs.2.1, hs.2.2.1, hs.2.2.2⟩) ⟨ow1149.ne_new, ow1150.ne_new, ow1184.ne_new, (show w1174.heap.size ≤ w1292.heap.size by omega)⟩
     have szw1399 := g1401.size
     replace e1143 := e1143.gr g1401 (fun k hk => by have := ow1395.ge k hk; omega)
     replace r1146 := r1146.gr g1401 (fun k hk => by have := ow1395.ge k hk; omega)
     replace bx1147 := bx1147.gr g1401 (fun e => by have := ow1395.ge _ e; omega)
     replace bx1148 := bx1148.gr g1401 (fun e => by have := ow1395.ge _ e; omega)
     replace ow1149 : OwnR w1399 (Sx (w10.heap.size) [obk (A1396), obk (A_1138), obk (A_21), some (b_24)]) A_20 c_22 3 (g.ow : List Int) := ow1149.grA g1401 (fun k hk => hk.1) (fun k hk hs => ⟨own_repl ha1398.at_ hs.1 hk, hs.2.1, hs.2.2.1, hs.2.2.2.1, hs.2.2.2.2⟩)
     replace ow1150 : OwnR w1399 (Sx (w10.heap.size) [obk (A1396), obk (A_1138), obk (A_20), some (b_24)]) A_21 c_23 3 (g.pr : List Int) := ow1150.grA g1401 (fun k hk => hk.1) (fun k hk hs => ⟨own_repl ha1398.at_ hs.1 hk, hs.2.1, hs.2.2.1, hs.2.2.2.1, hs.2.2.2.2⟩)
     replace bx1151 := bx1151.gr g1401 (fun e => by have := ow1395.ge _ e; omega)
     replace ow1184 : OwnLL w1399 (w1118.heap.size) [obk (A1396), obk (A_20), obk (A_21)] A_1138 c_1139 22 3 (xs : List (List Int)) := ow1184.grA g1401 (fun k hk => hk.1) (fun k hk hs => ⟨own_repl ha1398.at_ hs.1 hk, hs.2.1, hs.2.2.1, hs.2.2.2⟩)
     replace r1167 := r1167.gr g1401 (fun k hk => by have := ow1395.ge k hk; omega)
     clear ow1395 g1401 ha1398
     replace ow1405 : OwnR w1399 (Sx (w1174.heap.size) [obk (A_20), obk (A_21), obk (A_1138)]) A1396 c1397 3 (gL g.mv (k) : List Int) := ow1405
     refine AtH.all [1, 9] 4 (by kernel_rfl) (by simp) ⟨?_, ?_, trivial⟩
     ·refine OneH.seq f1402 [[.ld (.slice A_1138 xs.length c_1139)]] [(22, .slice A_1138 xs.length c_1139)] w1399 [(w1399.cell? ⟨b_24, 2, none⟩ = some (.slice A_1138 xs.length c_1139))] #[true, true, true, true, true, true, true, true, true, false, false, false, false] (by kernel_rfl) (by kernel_rfl) (by kernel_rfl) ⟨(bx1151.cell (i := 2) rfl), trivial⟩ (fun act1417 w1418 hw1419 f1416 => ?_)
      obtain rfl : w1399 = w1418 := hw1419.symm
      clear f1402
      refine ⟨hS1404, ?_⟩
      refine AtH.all [9] 3 (by kernel_rfl) (by simp) ⟨?_, trivial⟩
      refine OneH.seq f1416 [[]] [(30, .slice (some ⟨w1399.heap.size, 0, none⟩) 1 1)] (w1399.alloc (.cells #[.slice A1396 ((([] : List Int) ++ (gL g.mv (k))).length) c1397] 22 (0, 0))) [] #[true, true, true, true, true, true, true, true, true, true, false, false, false] (by kernel_rfl) (by kernel_rfl) (by kernel_rfl) trivial (fun act1424 w1421 hw1422 f1423 => ?_)
      clear f1416
      have g1425 := gr_alloc hw1422
      have hS1428 := hS1404.gr g1425
      refine ⟨hS1428, ?_⟩
      have szw1421 := g1425.size
      replace e1143 := e1143.gr g1425 no_row
      replace r1146 := r1146.gr g1425 (fun _ h => by cases h)
      replace bx1147 := bx1147.gr g1425 (by simp)
      replace bx1148 := bx1148.gr g1425 (by simp)
      replace ow1149 : OwnR w1421 (Sx (w10.heap.size) [some (w1399.heap.size), obk (A1396), obk (A_1138), obk (A_21), some (b_24)]) A_20 c_22 3 (g.ow : List Int) := ow1149.grA g1425 (fun _ _ h => by cases h) (fun k hk hs => ⟨(fun e => by injection e; omega), hs.1, hs.2.1, hs.2.2.1, hs.2.2.2.1, hs.2.2.2.2⟩)
      replace ow1150 : OwnR w1421 (Sx (w10.heap.size) [some (w1399.heap.size), obk (A1396), obk (A_1138), obk (A_20), some (b_24)]) A_21 c_23 3 (g.pr : List Int) := ow1150.grA g1425 (fun _ _ h => by cases h) (fun k hk hs => ⟨(fun e => by injection e; omega), hs.1, hs.2.1, hs.2.2.1, hs.2.2.2.1, hs.2.2.2.2⟩)
      replace bx1151 := bx1151.gr g1425 (by simp)
      replace ow1184 : OwnLL w1421 (w1118.heap.size) [some (w1399.heap.size), obk (A1396), obk (A_20), obk (A_21)] A_1138 c_1139 22 3 (xs : List (List Int)) := ow1184.grA g1425 (fun _ _ h => by cases h) (fun k hk hs => ⟨(fun e => by injection e; omega), hs.1, hs.2.1, hs.2.2.1, hs.2.2.2⟩)
      replace r1167 := r1167.gr g1425 (fun _ h => by cases h)
      replace ow1405 : OwnR w1421 (Sx (w1174.heap.size) [some (w1399.heap.size), obk (A_20), obk (A_21), obk (A_1138)]) A1396 c1397 3 (gL g.mv (k) : List Int) := ow1405.grA g1425 (fun _ _ h => by cases h) (fun k hk hs => ⟨(fun e => by injection e; omega), hs.1, hs.2.1, hs.2.2.1, hs.2.2.2⟩)
      have bx1427 : Bx w1421 (w1399.heap.size) [.slice A1396 ((([] : List Int) ++ (gL g.mv (k))).length) c1397] 22 := Bx.new hw1422
      have := bx1427.lt
      clear g1425 hw1422
      refine AtH.all [10] 2 (by kernel_rfl) (by simp) ⟨?_, trivial⟩
      have ow1440 : OwnR w1421 (Sx (w1118.heap.size) [obk (A_20), obk (A_21)]) A1396 c1397 3 (gL g.mv (k) : List Int) := ow1405.imp (fun g _ hs => ⟨hs.2.1, hs.2.2.1, (by have := Sx_base hs; show w1118.heap.size ≤ g; omega)⟩)
      have ow1441 : OwnLL w1421 (w1118.heap.size) [obk (A1396), obk (A_20), obk (A_21)] A_1138 c_1139 22 3 (xs : List (List Int)) := (ow1184.imp (fun g _ hs => ⟨hs.2.1, hs.2.2.1, hs.2.2.2.1, hs.2.2.2.2⟩))
      have hl1442 : (xs ++ [gL g.mv (k)]).length = (xs).length + 1 := by simp
      refine OneH.act f1423 #[true, true, true, true, true, true, true, true, true, true, true, false, false] (by kernel_rfl) (appendLL (t := 23) (d := 31) (n := xs.length) (m := 1) (cc := 1) (ls := xs) (xs := gL g.mv (k)) (bytes := 24) (by first | rfl | omega | (simp; done) | (simp; omega)) (by kernel_rfl) (by kernel_rfl) (bx1427.as (by first | rfl | (simp; done))) ow1441 ow1440 ⟨ow1149.ne_new, ow1150.ne_new, (show w1118.heap.size ≤ w1421.heap.size by omega)⟩ (by omega) (by omega)) ?_
      rintro d_ v_ w1443 ⟨rfl, A1444, c1445, rfl, g1446, ha1447, ow1448⟩
      have hS1451 := hS1428.grO g1446 (by rw [hCs1171]; exact ⟨(fun e => by have := ow1184.ge _ e; simp only [add_block] at this; omega), (fun e => by have := ow1184.ge _ e; simp only [add_block] at this; omega), trivial⟩)
      refine ⟨_, rfl, fun act1450 f1449 => ⟨hS1451, ?_⟩⟩
      clear f1423
      clear bx1427 ow1405 ow1440 ow1441
      have szw1443 := g1446.size
      replace e1143 := e1143.gr g1446 (fun k hk => by have := ow1184.ge k hk; omega)
      replace r1146 := r1146.gr g1446 (fun k hk => by have := ow1184.ge k hk; omega)
      replace bx1147 := bx1147.gr g1446 (fun e => by have := ow1184.ge _ e; omega)
      replace bx1148 := bx1148.gr g1446 (fun e => by have := ow1184.ge _ e; omega)
      replace ow1149 : OwnR w1443 (Sx (w10.heap.size) [some (w1399.heap.size), obk (A1396), obk (A1444), obk (A_21), some (b_24)]) A_20 c_22 3 (g.ow : List Int) := ow1149.grA g1446 (fun k hk => hk.2.2.1) (fun k hk hs => ⟨hs.1, hs.2.1, own_repl ha1447 hs.2.2.1 hk, hs.2.2.2.1, hs.2.2.2.2.1, hs.2.2.2.2.2⟩)
      replace ow1150 : OwnR w1443 (Sx (w10.heap.size) [some (w1399.heap.size), obk (A1396), obk (A1444), obk (A_20), some (b_24)]) A_21 c_23 3 (g.pr : List Int) := ow1150.grA g1446 (fun k hk => hk.2.2.1) (fun k hk hs => ⟨hs.1, hs.2.1, own_repl ha1447 hs.2.2.1 hk, hs.2.2.2.1, hs.2.2.2.2.1, hs.2.2.2.2.2⟩)
      replace bx1151 := bx1151.gr g1446 (fun e => by have := ow1184.ge _ e; omega)
      replace r1167 := r1167.gr g1446 (fun k hk => by have := ow1184.ge k hk; omega)
      clear ow1184 g1446 ha1447
      refine AtH.rd (by kernel_rfl) (fun d v c a w h => by cases d <;> exact h) hS1451 [11] [[]] [(32, .pointer (some ⟨b_24, 2, none⟩))] #[true, true, true, true, true, true, true, true, true, true, true, true, false] [] 1 f1449 (by kernel_rfl) trivial (fun act1461 f1460 => ?_)
      clear f1449
      refine AtH.all [12] 0 (by kernel_rfl) (by simp) ⟨?_, trivial⟩
      refine OneH.store f1460 (t := 23) (b := b_24) (off := 2) (v := .slice A1444 ((xs ++ [gL g.mv (k)]).length) c1445) #[true, true, true, true, true, true, true, true, true, true, true, true, true] (by kernel_rfl) (by kernel_rfl) bx1151 (by kernel_rfl) (fun act1467 w1463 g1464 bx1465 f1466 => ?_)
      clear f1460
      replace bx1465 : Bx w1463 (b_24) [.slice A_20 ((([] : List Int) ++ g.ow).length) c_22, .slice A_21 ((([] : List Int) ++ g.pr).length) c_23, .slice A1444 ((xs ++ [gL g.mv (k)]).length) c1445] 25 := bx1465
      have hS1462 := hS1451.gr' g1464 (by rw [hCs1171]; exact ⟨(by simp only [add_block]; omega), (by simp only [add_block]; omega), trivial⟩)
      have szw1463 := g1464.size
      replace e1143 := e1143.gr g1464 (fun k h => by injection h; omega)
      replace r1146 := r1146.gr g1464 (fun k h => by injection h; omega)
      replace bx1147 := bx1147.gr g1464 (fun h => by injection h; omega)
      replace bx1148 := bx1148.gr g1464 (fun h => by injection h; omega)
      replace ow1149 := ow1149.gr g1464 (fun k hk => hk.2.2.2.2.1)
      replace ow1150 := ow1150.gr g1464 (fun k hk => hk.2.2.2.2.1)
      replace r1167 := r1167.gr g1464 (fun k h => by injection h; omega)
      replace ow1448 := ow1448.gr g1464 (fun k hk e => by have := Sx_base hk; injection e; omega)
      clear bx1151 g1464
      refine ⟨hS1462, ?_⟩
      refine AtH.done (by kernel_rfl) ?_
      clear hS1462
      refine b_n ?_
      refine t_n ?_
      refine At.start ?_
      refine At.rd f1466 3 [[], [.as_ (.int .i64 (k + 1))], []] [(4, .int .i64 (k + 1)), (20, .int .i64 (k + 1)), (19, .int .i64 (k))] [((.int .i64 (IntKind.i64.wrap (k + 1)) : Value) = .int .i64 (k + 1))] (by kernel_rfl) ⟨(w64 (by omega) (by omega)), trivial⟩ (fun act1477 f1476 => ?_)
      clear f1466
      refine At.done rfl ?_
      refine t_n ?_
      have f1478 := f1476.sub (r := [(4, .int .i64 (k + 1)), (3, .pointer (some ⟨b_24, 0, none⟩)), (2, .pointer (some ⟨w1.heap.size, 0, none⟩)), (1, .pointer (some ⟨w.heap.size, 0, none⟩))]) ⟨rfl, rfl, rfl, rfl, trivial⟩
      exact ⟨_, (by omega), (k + 1), (xs ++ [gL g.mv (k)] : List (List Int)), A1444, c1445, rfl, f1478, e1143, r1146, bx1147, bx1148, (ow1149.imp (fun g _ hs => ⟨hs.2.2.1, hs.2.2.2.1, hs.2.2.2.2.1, hs.2.2.2.2.2⟩)), (ow1150.imp (fun g _ hs => ⟨hs.2.2.1, hs.2.2.2.1, hs.2.2.2.2.1, hs.2.2.2.2.2⟩)), bx1465, ow1448, (by omega), (by omega), (takeLL_push hxs (by omega) (by omega)), (by omega), (by omega)⟩
     ·refine OneH.seq f1402 [[]] [(30, .slice (some ⟨w1399.heap.size, 0, none⟩) 1 1)] (w1399.alloc (.cells #[.slice A1396 ((([] : List Int) ++ (gL g.mv (k))).length) c1397] 22 (0, 0))) [] #[true, false, true, true, true, true, true, true, true, true, false, false, false] (by kernel_rfl) (by kernel_rfl) (by kernel_rfl) trivial (fun act1483 w1480 hw1481 f1482 => ?_)
      clear f1402
      have g1484 := gr_alloc hw1481
      have hS1487 := hS1404.gr g1484
      refine ⟨hS1487, ?_⟩
      have szw1480 := g1484.size
      replace e1143 := e1143.gr g1484 no_row
      replace r1146 := r1146.gr g1484 (fun _ h => by cases h)
      replace bx1147 := bx1147.gr g1484 (by simp)
      replace bx1148 := bx1148.gr g1484 (by simp)
      replace ow1149 : OwnR w1480 (Sx (w10.heap.size) [some (w1399.heap.size), obk (A1396), obk (A_1138), obk (A_21), some (b_24)]) A_20 c_22 3 (g.ow : List Int) := ow1149.grA g1484 (fun _ _ h => by cases h) (fun k hk hs => ⟨(fun e => by injection e; omega), hs.1, hs.2.1, hs.2.2.1, hs.2.2.2.1, hs.2.2.2.2⟩)
      replace ow1150 : OwnR w1480 (Sx (w10.heap.size) [some (w1399.heap.size), obk (A1396), obk (A_1138), obk (A_20), some (b_24)]) A_21 c_23 3 (g.pr : List Int) := ow1150.grA g1484 (fun _ _ h => by cases h) (fun k hk hs => ⟨(fun e => by injection e; omega), hs.1, hs.2.1, hs.2.2.1, hs.2.2.2.1, hs.2.2.2.2⟩)
      replace bx1151 := bx1151.gr g1484 (by simp)
      replace ow1184 : OwnLL w1480 (w1118.heap.size) [some (w1399.heap.size), obk (A1396), obk (A_20), obk (A_21)] A_1138 c_1139 22 3 (xs : List (List Int)) := ow1184.grA g1484 (fun _ _ h => by cases h) (fun k hk hs => ⟨(fun e => by injection e; omega), hs.1, hs.2.1, hs.2.2.1, hs.2.2.2⟩)
      replace r1167 := r1167.gr g1484 (fun _ h => by cases h)
      replace ow1405 : OwnR w1480 (Sx (w1174.heap.size) [some (w1399.heap.size), obk (A_20), obk (A_21), obk (A_1138)]) A1396 c1397 3 (gL g.mv (k) : List Int) := ow1405.grA g1484 (fun _ _ h => by cases h) (fun k hk hs => ⟨(fun e => by injection e; omega), hs.1, hs.2.1, hs.2.2.1, hs.2.2.2⟩)
      have bx1486 : Bx w1480 (w1399.heap.size) [.slice A1396 ((([] : List Int) ++ (gL g.mv (k))).length) c1397] 22 := Bx.new hw1481
      have := bx1486.lt
      clear g1484 hw1481
      refine AtH.all [1] 3 (by kernel_rfl) (by simp) ⟨?_, trivial⟩
      refine OneH.seq f1482 [[.ld (.slice A_1138 xs.length c_1139)]] [(22, .slice A_1138 xs.length c_1139)] w1480 [(w1480.cell? ⟨b_24, 2, none⟩ = some (.slice A_1138 xs.length c_1139))] #[true, true, true, true, true, true, true, true, true, true, false, false, false] (by kernel_rfl) (by kernel_rfl) (by kernel_rfl) ⟨(bx1151.cell (i := 2) rfl), trivial⟩ (fun act1499 w1500 hw1501 f1498 => ?_)
      obtain rfl : w1480 = w1500 := hw1501.symm
      clear f1482
      refine ⟨hS1487, ?_⟩
      refine AtH.all [10] 2 (by kernel_rfl) (by simp) ⟨?_, trivial⟩
      have ow1503 : OwnR w1480 (Sx (w1118.heap.size) [obk (A_20), obk (A_21)]) A1396 c1397 3 (gL g.mv (k) : List Int) := ow1405.imp (fun g _ hs => ⟨hs.2.1, hs.2.2.1, (by have := Sx_base hs; show w1118.heap.size ≤ g; omega)⟩)
      have ow1504 : OwnLL w1480 (w1118.heap.size) [obk (A1396), obk (A_20), obk (A_21)] A_1138 c_1139 22 3 (xs : List (List Int)) := (ow1184.imp (fun g _ hs => ⟨hs.2.1, hs.2.2.1, hs.2.2.2.1, hs.2.2.2.2⟩))
      have hl1505 : (xs ++ [gL g.mv (k)]).length = (xs).length + 1 := by simp
      refine OneH.act f1498 #[true, true, true, true, true, true, true, true, true, true, true, false, false] (by kernel_rfl) (appendLL (t := 23) (d := 31) (n := xs.length) (m := 1) (cc := 1) (ls := xs) (xs := gL g.mv (k)) (bytes := 24) (by first | rfl | omega | (simp; done) | (simp; omega)) (by kernel_rfl) (by kernel_rfl) (bx1486.as (by first | rfl | (simp; done))) ow1504 ow1503 ⟨ow1149.ne_new, ow1150.ne_new, (show w1118.heap.size ≤ w1480.heap.size by omega)⟩ (by omega) (by omega)) ?_
      rintro d_ v_ w1506 ⟨rfl, A1507, c1508, rfl, g1509, ha1510, ow1511⟩
      have hS1514 := hS1487.grO g1509 (by rw [hCs1171]; exact ⟨(fun e => by have := ow1184.ge _ e; simp only [add_block] at this; omega), (fun e => by have := ow1184.ge _ e; simp only [add_block] at this; omega), trivial⟩)
      refine ⟨_, rfl, fun act1513 f1512 => ⟨hS1514, ?_⟩⟩
      clear f1498
      clear bx1486 ow1405 ow1503 ow1504
      have szw1506 := g1509.size
      replace e1143 := e1143.gr g1509 (fun k hk => by have := ow1184.ge k hk; omega)
      replace r1146 := r1146.gr g1509 (fun k hk => by have := ow1184.ge k hk; omega)
      replace bx1147 := bx1147.gr g1509 (fun e => by have := ow1184.ge _ e; omega)
      replace bx1148 := bx1148.gr g1509 (fun e => by have := ow1184.ge _ e; omega)
      replace ow1149 : OwnR w1506 (Sx (w10.heap.size) [some (w1399.heap.size), obk (A1396), obk (A1507), obk (A_21), some (b_24)]) A_20 c_22 3 (g.ow : List Int) := ow1149.grA g1509 (fun k hk => hk.2.2.1) (fun k hk hs => ⟨hs.1, hs.2.1, own_repl ha1510 hs.2.2.1 hk, hs.2.2.2.1, hs.2.2.2.2.1, hs.2.2.2.2.2⟩)
      replace ow1150 : OwnR w1506 (Sx (w10.heap.size) [some (w1399.heap.size), obk (A1396), obk (A1507), obk (A_20), some (b_24)]) A_21 c_23 3 (g.pr : List Int) := ow1150.grA g1509 (fun k hk => hk.2.2.1) (fun k hk hs => ⟨hs.1, hs.2.1, own_repl ha1510 hs.2.2.1 hk, hs.2.2.2.1, hs.2.2.2.2.1, hs.2.2.2.2.2⟩)
      replace bx1151 := bx1151.gr g1509 (fun e => by have := ow1184.ge _ e; omega)
      replace r1167 := r1167.gr g1509 (fun k hk => by have := ow1184.ge k hk; omega)
      clear ow1184 g1509 ha1510
      refine AtH.rd (by kernel_rfl) (fun d v c a w h => by cases d <;> exact h) hS1514 [11] [[]] [(32, .pointer (some ⟨b_24, 2, none⟩))] #[true, true, true, true, true, true, true, true, true, true, true, true, false] [] 1 f1512 (by kernel_rfl) trivial (fun act1524 f1523 => ?_)
      clear f1512
      refine AtH.all [12] 0 (by kernel_rfl) (by simp) ⟨?_, trivial⟩
      refine OneH.store f1523 (t := 23) (b := b_24) (off := 2) (v := .slice A1507 ((xs ++ [gL g.mv (k)]).length) c1508) #[true, true, true, true, true, true, true, true, true, true, true, true, true] (by kernel_rfl) (by kernel_rfl) bx1151 (by kernel_rfl) (fun act1530 w1526 g1527 bx1528 f1529 => ?_)
      clear f1523
      replace bx1528 : Bx w1526 (b_24) [.slice A_20 ((([] : List Int) ++ g.ow).length) c_22, .slice A_21 ((([] : List Int) ++ g.pr).length) c_23, .slice A1507 ((xs ++ [gL g.mv (k)]).length) c1508] 25 := bx1528
      have hS1525 := hS1514.gr' g1527 (by rw [hCs1171]; exact ⟨(by simp only [add_block]; omega), (by simp only [add_block]; omega), trivial⟩)
      have szw1526 := g1527.size
      replace e1143 := e1143.gr g1527 (fun k h => by injection h; omega)
      replace r1146 := r1146.gr g1527 (fun k h => by injection h; omega)
      replace bx1147 := bx1147.gr g1527 (fun h => by injection h; omega)
      replace bx1148 := bx1148.gr g1527 (fun h => by injection h; omega)
      replace ow1149 := ow1149.gr g1527 (fun k hk => hk.2.2.2.2.1)
      replace ow1150 := ow1150.gr g1527 (fun k hk => hk.2.2.2.2.1)
      replace r1167 := r1167.gr g1527 (fun k h => by injection h; omega)
      replace ow1511 := ow1511.gr g1527 (fun k hk e => by have := Sx_base hk; injection e; omega)
      clear bx1151 g1527
      refine ⟨hS1525, ?_⟩
      refine AtH.done (by kernel_rfl) ?_
      clear hS1525
      refine b_n ?_
      refine t_n ?_
      refine At.start ?_
      refine At.rd f1529 3 [[], [.as_ (.int .i64 (k + 1))], []] [(4, .int .i64 (k + 1)), (20, .int .i64 (k + 1)), (19, .int .i64 (k))] [((.int .i64 (IntKind.i64.wrap (k + 1)) : Value) = .int .i64 (k + 1))] (by kernel_rfl) ⟨(w64 (by omega) (by omega)), trivial⟩ (fun act1540 f1539 => ?_)
      clear f1529
      refine At.done rfl ?_
      refine t_n ?_
      have f1541 := f1539.sub (r := [(4, .int .i64 (k + 1)), (3, .pointer (some ⟨b_24, 0, none⟩)), (2, .pointer (some ⟨w1.heap.size, 0, none⟩)), (1, .pointer (some ⟨w.heap.size, 0, none⟩))]) ⟨rfl, rfl, rfl, rfl, trivial⟩
      exact ⟨_, (by omega), (k + 1), (xs ++ [gL g.mv (k)] : List (List Int)), A1507, c1508, rfl, f1541, e1143, r1146, bx1147, bx1148, (ow1149.imp (fun g _ hs => ⟨hs.2.2.1, hs.2.2.2.1, hs.2.2.2.2.1, hs.2.2.2.2.2⟩)), (ow1150.imp (fun g _ hs => ⟨hs.2.2.1, hs.2.2.2.1, hs.2.2.2.2.1, hs.2.2.2.2.2⟩)), bx1528, ow1511, (by omega), (by omega), (takeLL_push hxs (by omega) (by omega)), (by omega), (by omega)⟩
  ·have q1542 := of_decide_eq_false h1159
   refine wp_exit ?_
   refine t_e ?_
   refine t_e ?_
   refine b_e ?_
   refine t_n ?_
   clear bx1147
   refine wp_seq ?_
   refine At.start ?_
   refine At.rd f1157 1 [[.ld (.slice A_20 ((([] : List Int) ++ g.ow).length) c_22), .ld (.slice A_21 ((([] : List Int) ++ g.pr).length) c_23), .ld (.slice A_1138 xs.length c_1139)]] [(33, .agg #[.slice A_20 ((([] : List Int) ++ g.ow).length) c_22, .slice A_21 ((([] : List Int) ++ g.pr).length) c_23, .slice A_1138 xs.length c_1139])] [(w1142.cell? ⟨b_24, 0, none⟩ = some (.slice A_20 ((([] : List Int) ++ g.ow).length) c_22)), (w1142.cell? ⟨b_24, 1, none⟩ = some (.slice A_21 ((([] : List Int) ++ g.pr).length) c_23)), (w1142.cell? ⟨b_24, 2, none⟩ = some (.slice A_1138 xs.length c_1139))] (by kernel_rfl) ⟨(bx1151.cell (i := 0) rfl), (bx1151.cell (i := 1) rfl), (bx1151.cell (i := 2) rfl), trivial⟩ (fun act1544 f1543 => ?_)
   clear f1157
   refine At.store f1543 (t := 25) (b := w1.heap.size) (off := 0) (v := .agg #[.slice A_20 ((([] : List Int) ++ g.ow).length) c_22, .slice A_21 ((([] : List Int) ++ g.pr).length) c_23, .slice A_1138 xs.length c_1139]) (by kernel_rfl) bx1148 (by kernel_rfl) (fun act1549 w1545 g1546 bx1547 f1548 => ?_)
   clear f1543
   replace bx1547 : Bx w1545 (w1.heap.size) [.slice A_20 ((([] : List Int) ++ g.ow).length) c_22, .slice A_21 ((([] : List Int) ++ g.pr).length) c_23, .slice A_1138 xs.length c_1139] 25 := bx1547
   have szw1545 := g1546.size
   replace e1143 := e1143.gr g1546 (fun k h => by injection h; omega)
   replace r1146 := r1146.gr g1546 (fun k h => by injection h; omega)
   replace ow1149 := ow1149.gr g1546 (fun k hk e => by have := Sx_base hk; injection e; omega)
   replace ow1150 := ow1150.gr g1546 (fun k hk e => by have := Sx_base hk; injection e; omega)
   replace bx1151 := bx1151.gr g1546 (fun h => by injection h; omega)
   have ow1555 := r1152.gr g1546 (fun k hk e => by have := Sx_base hk; injection e; omega)
   clear r1152
   clear bx1148 g1546
   refine At.done rfl ?_
   refine t_n ?_
   clear bx1151
   refine wp_ret ?_
   refine ret_ f1548 [[.slice A_20 ((([] : List Int) ++ g.ow).length) c_22, .slice A_21 ((([] : List Int) ++ g.pr).length) c_23, .slice A_1138 xs.length c_1139]] [.agg #[.slice A_20 ((([] : List Int) ++ g.ow).length) c_22, .slice A_21 ((([] : List Int) ++ g.pr).length) c_23, .slice A_1138 xs.length c_1139]] [(w1545.cell? ⟨w1.heap.size, 0, none⟩ = some (.slice A_20 ((([] : List Int) ++ g.ow).length) c_22)), (w1545.cell? ⟨w1.heap.size, 1, none⟩ = some (.slice A_21 ((([] : List Int) ++ g.pr).length) c_23)), (w1545.cell? ⟨w1.heap.size, 2, none⟩ = some (.slice A_1138 xs.length c_1139))] (by kernel_rfl) ⟨(bx1547.cell (i := 0) rfl), (bx1547.cell (i := 1) rfl), (bx1547.cell (i := 2) rfl), trivial⟩ ?_
   have hL_ : OwnLL w1545 w.heap.size [obk A_20, obk A_21] A_1138 c_1139 22 3 xs := (ow1555.imp (fun g _ hs => ⟨hs.1, hs.2.1, (by have := Sx_base hs; show w.heap.size ≤ g; omega)⟩))
   have hq_ : xs = g.mv := takeLL_end hxs (by omega)
   rw [hq_] at hL_
   exact ⟨A_20, c_22, A_21, c_23, A_1138, c_1139, ret_eq (by rw [← hq_]; rfl), e1143, (ow1149.imp (fun g _ hs => ⟨hs.2.1, hs.1, (by have := Sx_base hs; show w.heap.size ≤ g; omega)⟩)), (ow1150.imp (fun g _ hs => ⟨hs.2.1, hs.1, (by have := Sx_base hs; show w.heap.size ≤ g; omega)⟩)), hL_⟩

end Go.Proofs.YtkkophhnliplhaaDoor
