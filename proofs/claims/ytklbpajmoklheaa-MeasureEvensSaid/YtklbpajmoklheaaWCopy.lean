/-
  A walk of a Go function, printed by a program of this repo. Conditions: what the theorems name.
-/
import Derived.Test.YtklbpajmoklheaaFs
import Derived.Test.YtklbpajmoklheaaPureGame
set_option linter.unusedVariables false
set_option linter.unusedSimpArgs false
namespace Go.Proofs.Ytklbpajmoklheaa
open Go Go.RowKit

set_option maxHeartbeats 4000000 in
theorem copyR_any {Ag0 Ag1 Ag2 : Option Addr} {cg0 cg1 cg2 : Nat} {g : GameL} {w : World} (rg : RdG w 0 w.heap.size Ag0 Ag1 Ag2 cg0 cg1 cg2 g) :
    Calls Try.prog 15 #[.agg #[.slice Ag0 g.ow.length cg0, .slice Ag1 g.pr.length cg1, .slice Ag2 g.mv.length cg2]] w fun e w' => ∃ A0 c0 A1 c1 A2 c2, e = .returned (.agg #[.slice A0 g.ow.length c0, .slice A1 g.pr.length c1, .slice A2 g.mv.length c2]) ∧ Ext w w' ∧ OwnR w' (Sx w.heap.size [obk A1, obk A2]) A0 c0 3 g.ow ∧ OwnR w' (Sx w.heap.size [obk A0, obk A2]) A1 c1 3 g.pr ∧ OwnLL w' w.heap.size [obk A0, obk A1] A2 c2 22 3 g.mv := by
 have hlg0 := rg.ow.len
 have hlg1 := rg.pr.len
 have hlg2 := rg.mv.len
 have hkg0 := rg.k0
 have hkg1 := rg.k1
 have hkg2 := rg.k2
 refine enter_ (args := [.agg #[.slice Ag0 g.ow.length cg0, .slice Ag1 g.pr.length cg1, .slice Ag2 g.mv.length cg2]]) Try.func15 rfl Try.ntmps15 (Nat.le_of_ble_eq_true rfl) (fun act0 f0 => ?_)
 have e0 := Ext.refl w
 refine wp_seq ?_
 refine At.start ?_
 refine At.seq f0 1 [[]] [(1, .pointer (some ⟨w.heap.size, 0, none⟩))] (w.alloc (.cells #[.slice Ag0 g.ow.length cg0, .slice Ag1 g.pr.length cg1, .slice Ag2 g.mv.length cg2] 25 (0, 0))) [] (by kernel_rfl) trivial (fun act4 w1 hw2 f3 => ?_)
 clear f0
 have g5 := gr_alloc hw2
 have szw1 := g5.size
 have e7 := e0.gr g5 no_row
 clear e0
 have r8 := rg.gr g5 (fun _ h => by cases h)
 clear rg
 have bx9 : Bx w1 (w.heap.size) [.slice Ag0 g.ow.length cg0, .slice Ag1 g.pr.length cg1, .slice Ag2 g.mv.length cg2] 25 := Bx.new hw2
 have := bx9.lt
 clear g5 hw2
 refine At.seq f3 1 [[]] [(2, .pointer (some ⟨w1.heap.size, 0, none⟩))] (w1.alloc (.cells #[.slice none 0 0, .slice none 0 0, .slice none 0 0] 25 (0, 0))) [] (by kernel_rfl) trivial (fun act13 w10 hw11 f12 => ?_)
 clear f3
 have g14 := gr_alloc hw11
 have szw10 := g14.size
 have e16 := e7.gr g14 no_row
 clear e7
 have r17 := r8.gr g14 (fun _ h => by cases h)
 clear r8
 have bx18 := bx9.gr g14 (by simp)
 clear bx9
 have bx19 : Bx w10 (w1.heap.size) [.slice none 0 0, .slice none 0 0, .slice none 0 0] 25 := Bx.new hw11
 have := bx19.lt
 clear g14 hw11
 refine At.done rfl ?_
 refine t_n ?_
 have f20 := f12.sub (r := [(2, .pointer (some ⟨w1.heap.size, 0, none⟩)), (1, .pointer (some ⟨w.heap.size, 0, none⟩))]) ⟨rfl, rfl, trivial⟩
 clear f12
 refine wp_seq (cut (fun a_ w_ => ∃ (b_25 : Nat) (A_21 : Option Addr) (A_22 : Option Addr) (c_23 : Nat) (c_24 : Nat), (Frm 34 a_ [(3, .pointer (some ⟨b_25, 0, none⟩)), (2, .pointer (some ⟨w1.heap.size, 0, none⟩)), (1, .pointer (some ⟨w.heap.size, 0, none⟩))]) ∧ (Ext w w_) ∧ (RdG w_ 0 w.heap.size Ag0 Ag1 Ag2 cg0 cg1 cg2 g) ∧ (Bx w_ (w.heap.size) [.slice Ag0 g.ow.length cg0, .slice Ag1 g.pr.length cg1, .slice Ag2 g.mv.length cg2] 25) ∧ (Bx w_ (w1.heap.size) [.slice none 0 0, .slice none 0 0, .slice none 0 0] 25) ∧ (OwnR w_ (Sx (w10.heap.size) [obk (A_22), some (b_25)]) (A_21) (c_23) 3 (g.ow : List Int)) ∧ (OwnR w_ (Sx (w10.heap.size) [obk (A_21), some (b_25)]) (A_22) (c_24) 3 (g.pr : List Int)) ∧ (Bx w_ (b_25) [.slice (A_21) ((([] : List Int) ++ g.ow).length) (c_23), .slice (A_22) ((([] : List Int) ++ g.pr).length) (c_24), .slice none 0 0] 25) ∧ (w10.heap.size ≤ b_25) ∧ (w10.heap.size ≤ w_.heap.size)) ?_ ?_)
 ·obtain ⟨Cs26, hCs27⟩ : ∃ c : List (Addr × Value), c = [(⟨w.heap.size, 0, none⟩, (.slice Ag0 g.ow.length cg0)), (⟨w.heap.size, 1, none⟩, (.slice Ag1 g.pr.length cg1))] := ⟨_, rfl⟩
  have hS28 : HoldsC Cs26 w10 := by rw [hCs27]; exact ⟨(bx18.cell (i := 0) rfl), (bx18.cell (i := 1) rfl), trivial⟩
  refine AtH.start Cs26 11 #[false, false, false, false, false, false, false, false, false, false, false] (by kernel_rfl) rfl rfl (fun w30 hw31 => ?_)
  have g29 := gr_drew hw31
  have hS32 := hS28.gr g29
  have szw30 := g29.size
  have e33 := e16.gr g29 no_row
  clear e16
  have r34 := r17.gr g29 (fun _ h => by cases h)
  clear r17
  have bx35 := bx18.gr g29 (by simp)
  clear bx18
  have bx36 := bx19.gr g29 (by simp)
  clear bx19
  clear g29 hw31 hS28
  refine AtH.rd (by kernel_rfl) (fun d v c a w h => by cases d <;> exact h) hS32 [1, 2, 5, 6] [[], [.ld (.slice Ag0 g.ow.length cg0)], [], [.ld (.slice Ag1 g.pr.length cg1)]] [(11, .slice Ag1 g.pr.length cg1), (10, .pointer (some ⟨w.heap.size, 1, none⟩)), (7, .slice Ag0 g.ow.length cg0), (6, .pointer (some ⟨w.heap.size, 0, none⟩))] #[false, true, true, false, false, true, true, false, false, false, false] [(∃ j_ : Nat, Cs26[j_]? = some (⟨w.heap.size, 0, none⟩, (.slice Ag0 g.ow.length cg0))), (∃ j_ : Nat, Cs26[j_]? = some (⟨w.heap.size, 1, none⟩, (.slice Ag1 g.pr.length cg1)))] 7 f20 (by kernel_rfl) ⟨⟨0, by rw [hCs27]; rfl⟩, ⟨1, by rw [hCs27]; rfl⟩, trivial⟩ (fun act38 f37 => ?_)
  clear f20
  refine AtH.all [0, 4, 9] 6 (by kernel_rfl) (by simp) ⟨?_, ?_, ?_, trivial⟩
  ·refine OneH.seq f37 [[]] [(5, .slice (some ⟨w30.heap.size, 0, none⟩) 0 0)] (w30.alloc (.cells #[] 3 (0, 0))) [] #[true, true, true, false, false, true, true, false, false, false, false] (by kernel_rfl) (by kernel_rfl) (by kernel_rfl) trivial (fun act43 w40 hw41 f42 => ?_)
   clear f37
   have g44 := gr_alloc hw41
   have hS47 := hS32.gr g44
   refine ⟨hS47, ?_⟩
   have szw40 := g44.size
   have e48 := e33.gr g44 no_row
   clear e33
   have r49 := r34.gr g44 (fun _ h => by cases h)
   clear r34
   have bx50 := bx35.gr g44 (by simp)
   clear bx35
   have bx51 := bx36.gr g44 (by simp)
   clear bx36
   have bx46 : Bx w40 (w30.heap.size) [] 3 := Bx.new hw41
   have := bx46.lt
   clear g44 hw41
   refine AtH.all [3, 4, 9] 5 (by kernel_rfl) (by simp) ⟨?_, ?_, ?_, trivial⟩
   ·have ow53 : OwnR w40 (Sx (w30.heap.size) []) (some ⟨w30.heap.size, 0, none⟩) 0 3 ([] : List Int) := Bx.own0 bx46 (Nat.le_refl _)
    clear bx46
    have hl58 : (([] : List Int) ++ g.ow).length = (([] : List Int)).length + (g.ow : List Int).length := List.length_append
    simp only [List.length_cons, List.length_nil] at hl58
    refine OneH.act f42 #[true, true, true, true, false, true, true, false, false, false, false] (by kernel_rfl) (appendR (α := Int) (t := 22) (d := 8) (n := 0) (m := g.ow.length) (cc := cg0) (xs := []) (ys := g.ow) (bytes := 8) (by first | rfl | omega | (simp; done) | (simp; omega)) (by first | rfl | omega | (simp; done) | (simp; omega)) (by kernel_rfl) rfl (by kernel_rfl) ow53 r49.ow.srcR (by simp only [List.length_cons, List.length_nil]; omega) (by simp only [List.length_cons, List.length_nil]; omega)) ?_
    rintro d_ v_ w57 ⟨rfl, A54, c55, ha56⟩
    obtain rfl := ha56.val
    have g59 := ha56.gr
    have hS62 := hS47.grO g59 (by rw [hCs27]; exact ⟨(fun e => by have := ow53.ge _ e; simp only [add_block] at this; omega), (fun e => by have := ow53.ge _ e; simp only [add_block] at this; omega), trivial⟩)
    refine ⟨_, rfl, fun act61 f60 => ⟨hS62, ?_⟩⟩
    clear f42
    have ow63 := ha56.own (Sx (w30.heap.size) []) (fun g _ hs => hs) (show w30.heap.size ≤ w40.heap.size by omega)
    have szw57 := g59.size
    have e64 := e48.gr g59 (fun k hk => by have := ow53.ge k hk; omega)
    clear e48
    have r65 := r49.gr g59 (fun k hk => by have := ow53.ge k hk; omega)
    clear r49
    have bx66 := bx50.gr g59 (fun e => by have := ow53.ge _ e; omega)
    clear bx50
    have bx67 := bx51.gr g59 (fun e => by have := ow53.ge _ e; omega)
    clear bx51
    clear ow53 g59 ha56
    replace ow63 : OwnR w57 (Sx (w30.heap.size) []) A54 c55 3 (g.ow : List Int) := ow63
    refine AtH.all [4, 9] 4 (by kernel_rfl) (by simp) ⟨?_, ?_, trivial⟩
    ·refine OneH.seq f60 [[]] [(9, .slice (some ⟨w57.heap.size, 0, none⟩) 0 0)] (w57.alloc (.cells #[] 3 (0, 0))) [] #[true, true, true, true, true, true, true, false, false, false, false] (by kernel_rfl) (by kernel_rfl) (by kernel_rfl) trivial (fun act73 w70 hw71 f72 => ?_)
     clear f60
     have g74 := gr_alloc hw71
     have hS77 := hS62.gr g74
     refine ⟨hS77, ?_⟩
     have szw70 := g74.size
     have e78 := e64.gr g74 no_row
     clear e64
     have r79 := r65.gr g74 (fun _ h => by cases h)
     clear r65
     have bx80 := bx66.gr g74 (by simp)
     clear bx66
     have bx81 := bx67.gr g74 (by simp)
     clear bx67
     have ow82 : OwnR w70 (Sx (w30.heap.size) [some (w57.heap.size)]) A54 c55 3 (g.ow : List Int) := ow63.grA g74 (fun _ _ h => by cases h) (fun k hk hs => ⟨(fun e => by injection e; omega), hs⟩)
     clear ow63
     have bx76 : Bx w70 (w57.heap.size) [] 3 := Bx.new hw71
     have := bx76.lt
     clear g74 hw71
     refine AtH.all [7, 9] 3 (by kernel_rfl) (by simp) ⟨?_, ?_, trivial⟩
     ·have ow84 : OwnR w70 (Sx (w57.heap.size) [obk (A54)]) (some ⟨w57.heap.size, 0, none⟩) 0 3 ([] : List Int) := Bx.own0 bx76 ⟨(ow82.neb (fun g hs => hs.1)), (Nat.le_refl _)⟩
      clear bx76
      have hl89 : (([] : List Int) ++ g.pr).length = (([] : List Int)).length + (g.pr : List Int).length := List.length_append
      simp only [List.length_cons, List.length_nil] at hl89
      refine OneH.act f72 #[true, true, true, true, true, true, true, true, false, false, false] (by kernel_rfl) (appendR (α := Int) (t := 22) (d := 12) (n := 0) (m := g.pr.length) (cc := cg1) (xs := []) (ys := g.pr) (bytes := 8) (by first | rfl | omega | (simp; done) | (simp; omega)) (by first | rfl | omega | (simp; done) | (simp; omega)) (by kernel_rfl) rfl (by kernel_rfl) ow84 r79.pr.srcR (by simp only [List.length_cons, List.length_nil]; omega) (by simp only [List.length_cons, List.length_nil]; omega)) ?_
      rintro d_ v_ w88 ⟨rfl, A85, c86, ha87⟩
      obtain rfl := ha87.val
      have g90 := ha87.gr
      have hS93 := hS77.grO g90 (by rw [hCs27]; exact ⟨(fun e => by have := ow84.ge _ e; simp only [add_block] at this; omega), (fun e => by have := ow84.ge _ e; simp only [add_block] at this; omega), trivial⟩)
      refine ⟨_, rfl, fun act92 f91 => ⟨hS93, ?_⟩⟩
      clear f72
      have ow94 := ha87.own (Sx (w57.heap.size) [obk (A54)]) (fun g _ hs => ⟨hs.1, hs.2⟩) ⟨ow82.ne_new, (show w57.heap.size ≤ w70.heap.size by omega)⟩
      have szw88 := g90.size
      have e95 := e78.gr g90 (fun k hk => by have := ow84.ge k hk; omega)
      clear e78
      have r96 := r79.gr g90 (fun k hk => by have := ow84.ge k hk; omega)
      clear r79
      have bx97 := bx80.gr g90 (fun e => by have := ow84.ge _ e; omega)
      clear bx80
      have bx98 := bx81.gr g90 (fun e => by have := ow84.ge _ e; omega)
      clear bx81
      have ow99 : OwnR w88 (Sx (w30.heap.size) [obk (A85)]) A54 c55 3 (g.ow : List Int) := ow82.grA g90 (fun k hk => hk.1) (fun k hk hs => ⟨own_repl ha87.at_ hs.1 hk, hs.2⟩)
      clear ow82
      clear ow84 g90 ha87
      replace ow94 : OwnR w88 (Sx (w57.heap.size) [obk (A54)]) A85 c86 3 (g.pr : List Int) := ow94
      refine AtH.rd (by kernel_rfl) (fun d v c a w h => by cases d <;> exact h) hS93 [8] [[]] [(13, .agg #[.slice A54 ((([] : List Int) ++ g.ow).length) c55, .slice A85 ((([] : List Int) ++ g.pr).length) c86, .slice none 0 0])] #[true, true, true, true, true, true, true, true, true, false, false] [] 2 f91 (by kernel_rfl) trivial (fun act102 f101 => ?_)
      clear f91
      refine AtH.all [9] 1 (by kernel_rfl) (by simp) ⟨?_, trivial⟩
      refine OneH.seq f101 [[]] [(3, .pointer (some ⟨w88.heap.size, 0, none⟩))] (w88.alloc (.cells #[.slice none 0 0, .slice none 0 0, .slice none 0 0] 25 (0, 0))) [] #[true, true, true, true, true, true, true, true, true, true, false] (by kernel_rfl) (by kernel_rfl) (by kernel_rfl) trivial (fun act107 w104 hw105 f106 => ?_)
      clear f101
      have g108 := gr_alloc hw105
      have hS103 := hS93.gr g108
      have szw104 := g108.size
      have e110 := e95.gr g108 no_row
      clear e95
      have r111 := r96.gr g108 (fun _ h => by cases h)
      clear r96
      have bx112 := bx97.gr g108 (by simp)
      clear bx97
      have bx113 := bx98.gr g108 (by simp)
      clear bx98
      have ow114 : OwnR w104 (Sx (w30.heap.size) [some (w88.heap.size), obk (A85)]) A54 c55 3 (g.ow : List Int) := ow99.grA g108 (fun _ _ h => by cases h) (fun k hk hs => ⟨(fun e => by injection e; omega), hs.1, hs.2⟩)
      clear ow99
      have ow115 : OwnR w104 (Sx (w57.heap.size) [some (w88.heap.size), obk (A54)]) A85 c86 3 (g.pr : List Int) := ow94.grA g108 (fun _ _ h => by cases h) (fun k hk hs => ⟨(fun e => by injection e; omega), hs.1, hs.2⟩)
      clear ow94
      have bx116 : Bx w104 (w88.heap.size) [.slice none 0 0, .slice none 0 0, .slice none 0 0] 25 := Bx.new hw105
      have := bx116.lt
      clear g108 hw105
      refine ⟨hS103, ?_⟩
      refine AtH.all [10] 0 (by kernel_rfl) (by simp) ⟨?_, trivial⟩
      refine OneH.store f106 (t := 25) (b := w88.heap.size) (off := 0) (v := .agg #[.slice A54 ((([] : List Int) ++ g.ow).length) c55, .slice A85 ((([] : List Int) ++ g.pr).length) c86, .slice none 0 0]) #[true, true, true, true, true, true, true, true, true, true, true] (by kernel_rfl) (by kernel_rfl) bx116 (by kernel_rfl) (fun act122 w118 g119 bx120 f121 => ?_)
      clear f106
      replace bx120 : Bx w118 (w88.heap.size) [.slice A54 ((([] : List Int) ++ g.ow).length) c55, .slice A85 ((([] : List Int) ++ g.pr).length) c86, .slice none 0 0] 25 := bx120
      have hS117 := hS103.gr' g119 (by rw [hCs27]; exact ⟨(by simp only [add_block]; omega), (by simp only [add_block]; omega), trivial⟩)
      have szw118 := g119.size
      have e123 := e110.gr g119 (fun k h => by injection h; omega)
      clear e110
      have r124 := r111.gr g119 (fun k h => by injection h; omega)
      clear r111
      have bx125 := bx112.gr g119 (fun h => by injection h; omega)
      clear bx112
      have bx126 := bx113.gr g119 (fun h => by injection h; omega)
      clear bx113
      have ow127 := ow114.gr g119 (fun k hk => hk.1)
      clear ow114
      have ow128 := ow115.gr g119 (fun k hk => hk.1)
      clear ow115
      clear bx116 g119
      refine ⟨hS117, ?_⟩
      refine AtH.done (by kernel_rfl) ?_
      clear hS117
      refine t_n ?_
      have f129 := f121.sub (r := [(3, .pointer (some ⟨w88.heap.size, 0, none⟩)), (2, .pointer (some ⟨w1.heap.size, 0, none⟩)), (1, .pointer (some ⟨w.heap.size, 0, none⟩))]) ⟨rfl, rfl, rfl, trivial⟩
      exact ⟨w88.heap.size, A54, A85, c55, c86, f129, e123, r124, bx125, bx126, (ow127.imp (fun g _ hs => ⟨hs.2.1, hs.1, (by have := Sx_base hs; show w10.heap.size ≤ g; omega)⟩)), (ow128.imp (fun g _ hs => ⟨hs.2.1, hs.1, (by have := Sx_base hs; show w10.heap.size ≤ g; omega)⟩)), bx120, (by omega), (by omega)⟩
     ·refine OneH.seq f72 [[]] [(3, .pointer (some ⟨w70.heap.size, 0, none⟩))] (w70.alloc (.cells #[.slice none 0 0, .slice none 0 0, .slice none 0 0] 25 (0, 0))) [] #[true, true, true, true, true, true, true, false, false, true, false] (by kernel_rfl) (by kernel_rfl) (by kernel_rfl) trivial (fun act134 w131 hw132 f133 => ?_)
      clear f72
      have g135 := gr_alloc hw132
      have hS130 := hS77.gr g135
      have szw131 := g135.size
      have e137 := e78.gr g135 no_row
      clear e78
      have r138 := r79.gr g135 (fun _ h => by cases h)
      clear r79
      have bx139 := bx80.gr g135 (by simp)
      clear bx80
      have bx140 := bx81.gr g135 (by simp)
      clear bx81
      have ow141 : OwnR w131 (Sx (w30.heap.size) [some (w70.heap.size), some (w57.heap.size)]) A54 c55 3 (g.ow : List Int) := ow82.grA g135 (fun _ _ h => by cases h) (fun k hk hs => ⟨(fun e => by injection e; omega), hs.1, hs.2⟩)
      clear ow82
      have bx142 := bx76.gr g135 (by simp)
      clear bx76
      have bx143 : Bx w131 (w70.heap.size) [.slice none 0 0, .slice none 0 0, .slice none 0 0] 25 := Bx.new hw132
      have := bx143.lt
      clear g135 hw132
      refine ⟨hS130, ?_⟩
      refine AtH.all [7] 2 (by kernel_rfl) (by simp) ⟨?_, trivial⟩
      have ow145 : OwnR w131 (Sx (w57.heap.size) [obk (A54), some (w70.heap.size)]) (some ⟨w57.heap.size, 0, none⟩) 0 3 ([] : List Int) := Bx.own0 bx142 ⟨(ow141.neb (fun g hs => hs.2.1)), (fun e => by injection e; omega), (Nat.le_refl _)⟩
      clear bx142
      have hl150 : (([] : List Int) ++ g.pr).length = (([] : List Int)).length + (g.pr : List Int).length := List.length_append
      simp only [List.length_cons, List.length_nil] at hl150
      refine OneH.act f133 #[true, true, true, true, true, true, true, true, false, true, false] (by kernel_rfl) (appendR (α := Int) (t := 22) (d := 12) (n := 0) (m := g.pr.length) (cc := cg1) (xs := []) (ys := g.pr) (bytes := 8) (by first | rfl | omega | (simp; done) | (simp; omega)) (by first | rfl | omega | (simp; done) | (simp; omega)) (by kernel_rfl) rfl (by kernel_rfl) ow145 r138.pr.srcR (by simp only [List.length_cons, List.length_nil]; omega) (by simp only [List.length_cons, List.length_nil]; omega)) ?_
      rintro d_ v_ w149 ⟨rfl, A146, c147, ha148⟩
      obtain rfl := ha148.val
      have g151 := ha148.gr
      have hS154 := hS130.grO g151 (by rw [hCs27]; exact ⟨(fun e => by have := ow145.ge _ e; simp only [add_block] at this; omega), (fun e => by have := ow145.ge _ e; simp only [add_block] at this; omega), trivial⟩)
      refine ⟨_, rfl, fun act153 f152 => ⟨hS154, ?_⟩⟩
      clear f133
      have ow155 := ha148.own (Sx (w57.heap.size) [obk (A54), some (w70.heap.size)]) (fun g _ hs => ⟨hs.1, hs.2.1, hs.2.2⟩) ⟨ow141.ne_new, (fun e => by injection e; omega), (show w57.heap.size ≤ w131.heap.size by omega)⟩
      have szw149 := g151.size
      have e156 := e137.gr g151 (fun k hk => by have := ow145.ge k hk; omega)
      clear e137
      have r157 := r138.gr g151 (fun k hk => by have := ow145.ge k hk; omega)
      clear r138
      have bx158 := bx139.gr g151 (fun e => by have := ow145.ge _ e; omega)
      clear bx139
      have bx159 := bx140.gr g151 (fun e => by have := ow145.ge _ e; omega)
      clear bx140
      have ow160 : OwnR w149 (Sx (w30.heap.size) [some (w70.heap.size), obk (A146)]) A54 c55 3 (g.ow : List Int) := ow141.grA g151 (fun k hk => hk.2.1) (fun k hk hs => ⟨hs.1, own_repl ha148.at_ hs.2.1 hk, hs.2.2⟩)
      clear ow141
      have bx161 := bx143.gr g151 (ow145.neb (fun g hs => hs.2.1))
      clear bx143
      clear ow145 g151 ha148
      replace ow155 : OwnR w149 (Sx (w57.heap.size) [obk (A54), some (w70.heap.size)]) A146 c147 3 (g.pr : List Int) := ow155
      refine AtH.rd (by kernel_rfl) (fun d v c a w h => by cases d <;> exact h) hS154 [8] [[]] [(13, .agg #[.slice A54 ((([] : List Int) ++ g.ow).length) c55, .slice A146 ((([] : List Int) ++ g.pr).length) c147, .slice none 0 0])] #[true, true, true, true, true, true, true, true, true, true, false] [] 1 f152 (by kernel_rfl) trivial (fun act164 f163 => ?_)
      clear f152
      refine AtH.all [10] 0 (by kernel_rfl) (by simp) ⟨?_, trivial⟩
      refine OneH.store f163 (t := 25) (b := w70.heap.size) (off := 0) (v := .agg #[.slice A54 ((([] : List Int) ++ g.ow).length) c55, .slice A146 ((([] : List Int) ++ g.pr).length) c147, .slice none 0 0]) #[true, true, true, true, true, true, true, true, true, true, true] (by kernel_rfl) (by kernel_rfl) bx161 (by kernel_rfl) (fun act170 w166 g167 bx168 f169 => ?_)
      clear f163
      replace bx168 : Bx w166 (w70.heap.size) [.slice A54 ((([] : List Int) ++ g.ow).length) c55, .slice A146 ((([] : List Int) ++ g.pr).length) c147, .slice none 0 0] 25 := bx168
      have hS165 := hS154.gr' g167 (by rw [hCs27]; exact ⟨(by simp only [add_block]; omega), (by simp only [add_block]; omega), trivial⟩)
      have szw166 := g167.size
      have e171 := e156.gr g167 (fun k h => by injection h; omega)
      clear e156
      have r172 := r157.gr g167 (fun k h => by injection h; omega)
      clear r157
      have bx173 := bx158.gr g167 (fun h => by injection h; omega)
      clear bx158
      have bx174 := bx159.gr g167 (fun h => by injection h; omega)
      clear bx159
      have ow175 := ow160.gr g167 (fun k hk => hk.1)
      clear ow160
      have ow176 := ow155.gr g167 (fun k hk => hk.2.1)
      clear ow155
      clear bx161 g167
      refine ⟨hS165, ?_⟩
      refine AtH.done (by kernel_rfl) ?_
      clear hS165
      refine t_n ?_
      have f177 := f169.sub (r := [(3, .pointer (some ⟨w70.heap.size, 0, none⟩)), (2, .pointer (some ⟨w1.heap.size, 0, none⟩)), (1, .pointer (some ⟨w.heap.size, 0, none⟩))]) ⟨rfl, rfl, rfl, trivial⟩
      exact ⟨w70.heap.size, A54, A146, c55, c147, f177, e171, r172, bx173, bx174, (ow175.imp (fun g _ hs => ⟨hs.2.1, hs.1, (by have := Sx_base hs; show w10.heap.size ≤ g; omega)⟩)), (ow176.imp (fun g _ hs => ⟨hs.1, hs.2.1, (by have := Sx_base hs; show w10.heap.size ≤ g; omega)⟩)), bx168, (by omega), (by omega)⟩
    ·refine OneH.seq f60 [[]] [(3, .pointer (some ⟨w57.heap.size, 0, none⟩))] (w57.alloc (.cells #[.slice none 0 0, .slice none 0 0, .slice none 0 0] 25 (0, 0))) [] #[true, true, true, true, false, true, true, false, false, true, false] (by kernel_rfl) (by kernel_rfl) (by kernel_rfl) trivial (fun act182 w179 hw180 f181 => ?_)
     clear f60
     have g183 := gr_alloc hw180
     have hS178 := hS62.gr g183
     have szw179 := g183.size
     have e185 := e64.gr g183 no_row
     clear e64
     have r186 := r65.gr g183 (fun _ h => by cases h)
     clear r65
     have bx187 := bx66.gr g183 (by simp)
     clear bx66
     have bx188 := bx67.gr g183 (by simp)
     clear bx67
     have ow189 : OwnR w179 (Sx (w30.heap.size) [some (w57.heap.size)]) A54 c55 3 (g.ow : List Int) := ow63.grA g183 (fun _ _ h => by cases h) (fun k hk hs => ⟨(fun e => by injection e; omega), hs⟩)
     clear ow63
     have bx190 : Bx w179 (w57.heap.size) [.slice none 0 0, .slice none 0 0, .slice none 0 0] 25 := Bx.new hw180
     have := bx190.lt
     clear g183 hw180
     refine ⟨hS178, ?_⟩
     refine AtH.all [4] 3 (by kernel_rfl) (by simp) ⟨?_, trivial⟩
     refine OneH.seq f181 [[]] [(9, .slice (some ⟨w179.heap.size, 0, none⟩) 0 0)] (w179.alloc (.cells #[] 3 (0, 0))) [] #[true, true, true, true, true, true, true, false, false, true, false] (by kernel_rfl) (by kernel_rfl) (by kernel_rfl) trivial (fun act195 w192 hw193 f194 => ?_)
     clear f181
     have g196 := gr_alloc hw193
     have hS199 := hS178.gr g196
     refine ⟨hS199, ?_⟩
     have szw192 := g196.size
     have e200 := e185.gr g196 no_row
     clear e185
     have r201 := r186.gr g196 (fun _ h => by cases h)
     clear r186
     have bx202 := bx187.gr g196 (by simp)
     clear bx187
     have bx203 := bx188.gr g196 (by simp)
     clear bx188
     have ow204 : OwnR w192 (Sx (w30.heap.size) [some (w179.heap.size), some (w57.heap.size)]) A54 c55 3 (g.ow : List Int) := ow189.grA g196 (fun _ _ h => by cases h) (fun k hk hs => ⟨(fun e => by injection e; omega), hs.1, hs.2⟩)
     clear ow189
     have bx205 := bx190.gr g196 (by simp)
     clear bx190
     have bx198 : Bx w192 (w179.heap.size) [] 3 := Bx.new hw193
     have := bx198.lt
     clear g196 hw193
     refine AtH.all [7] 2 (by kernel_rfl) (by simp) ⟨?_, trivial⟩
     have ow207 : OwnR w192 (Sx (w179.heap.size) [obk (A54)]) (some ⟨w179.heap.size, 0, none⟩) 0 3 ([] : List Int) := Bx.own0 bx198 ⟨(ow204.neb (fun g hs => hs.1)), (Nat.le_refl _)⟩
     clear bx198
     have hl212 : (([] : List Int) ++ g.pr).length = (([] : List Int)).length + (g.pr : List Int).length := List.length_append
     simp only [List.length_cons, List.length_nil] at hl212
     refine OneH.act f194 #[true, true, true, true, true, true, true, true, false, true, false] (by kernel_rfl) (appendR (α := Int) (t := 22) (d := 12) (n := 0) (m := g.pr.length) (cc := cg1) (xs := []) (ys := g.pr) (bytes := 8) (by first | rfl | omega | (simp; done) | (simp; omega)) (by first | rfl | omega | (simp; done) | (simp; omega)) (by kernel_rfl) rfl (by kernel_rfl) ow207 r201.pr.srcR (by simp only [List.length_cons, List.length_nil]; omega) (by simp only [List.length_cons, List.length_nil]; omega)) ?_
     rintro d_ v_ w211 ⟨rfl, A208, c209, ha210⟩
     obtain rfl := ha210.val
     have g213 := ha210.gr
     have hS216 := hS199.grO g213 (by rw [hCs27]; exact ⟨(fun e => by have := ow207.ge _ e; simp only [add_block] at this; omega), (fun e => by have := ow207.ge _ e; simp only [add_block] at this; omega), trivial⟩)
     refine ⟨_, rfl, fun act215 f214 => ⟨hS216, ?_⟩⟩
     clear f194
     have ow217 := ha210.own (Sx (w179.heap.size) [obk (A54)]) (fun g _ hs => ⟨hs.1, hs.2⟩) ⟨ow204.ne_new, (show w179.heap.size ≤ w192.heap.size by omega)⟩
     have szw211 := g213.size
     have e218 := e200.gr g213 (fun k hk => by have := ow207.ge k hk; omega)
     clear e200
     have r219 := r201.gr g213 (fun k hk => by have := ow207.ge k hk; omega)
     clear r201
     have bx220 := bx202.gr g213 (fun e => by have := ow207.ge _ e; omega)
     clear bx202
     have bx221 := bx203.gr g213 (fun e => by have := ow207.ge _ e; omega)
     clear bx203
     have ow222 : OwnR w211 (Sx (w30.heap.size) [obk (A208), some (w57.heap.size)]) A54 c55 3 (g.ow : List Int) := ow204.grA g213 (fun k hk => hk.1) (fun k hk hs => ⟨own_repl ha210.at_ hs.1 hk, hs.2.1, hs.2.2⟩)
     clear ow204
     have bx223 := bx205.gr g213 (fun e => by have := ow207.ge _ e; omega)
     clear bx205
     clear ow207 g213 ha210
     replace ow217 : OwnR w211 (Sx (w179.heap.size) [obk (A54)]) A208 c209 3 (g.pr : List Int) := ow217
     refine AtH.rd (by kernel_rfl) (fun d v c a w h => by cases d <;> exact h) hS216 [8] [[]] [(13, .agg #[.slice A54 ((([] : List Int) ++ g.ow).length) c55, .slice A208 ((([] : List Int) ++ g.pr).length) c209, .slice none 0 0])] #[true, true, true, true, true, true, true, true, true, true, false] [] 1 f214 (by kernel_rfl) trivial (fun act226 f225 => ?_)
     clear f214
     refine AtH.all [10] 0 (by kernel_rfl) (by simp) ⟨?_, trivial⟩
     refine OneH.store f225 (t := 25) (b := w57.heap.size) (off := 0) (v := .agg #[.slice A54 ((([] : List Int) ++ g.ow).length) c55, .slice A208 ((([] : List Int) ++ g.pr).length) c209, .slice none 0 0]) #[true, true, true, true, true, true, true, true, true, true, true] (by kernel_rfl) (by kernel_rfl) bx223 (by kernel_rfl) (fun act232 w228 g229 bx230 f231 => ?_)
     clear f225
     replace bx230 : Bx w228 (w57.heap.size) [.slice A54 ((([] : List Int) ++ g.ow).length) c55, .slice A208 ((([] : List Int) ++ g.pr).length) c209, .slice none 0 0] 25 := bx230
     have hS227 := hS216.gr' g229 (by rw [hCs27]; exact ⟨(by simp only [add_block]; omega), (by simp only [add_block]; omega), trivial⟩)
     have szw228 := g229.size
     have e233 := e218.gr g229 (fun k h => by injection h; omega)
     clear e218
     have r234 := r219.gr g229 (fun k h => by injection h; omega)
     clear r219
     have bx235 := bx220.gr g229 (fun h => by injection h; omega)
     clear bx220
     have bx236 := bx221.gr g229 (fun h => by injection h; omega)
     clear bx221
     have ow237 := ow222.gr g229 (fun k hk => hk.2.1)
     clear ow222
     have ow238 := ow217.gr g229 (fun k hk e => by have := Sx_base hk; injection e; omega)
     clear ow217
     clear bx223 g229
     refine ⟨hS227, ?_⟩
     refine AtH.done (by kernel_rfl) ?_
     clear hS227
     refine t_n ?_
     have f239 := f231.sub (r := [(3, .pointer (some ⟨w57.heap.size, 0, none⟩)), (2, .pointer (some ⟨w1.heap.size, 0, none⟩)), (1, .pointer (some ⟨w.heap.size, 0, none⟩))]) ⟨rfl, rfl, rfl, trivial⟩
     exact ⟨w57.heap.size, A54, A208, c55, c209, f239, e233, r234, bx235, bx236, (ow237.imp (fun g _ hs => ⟨hs.1, hs.2.1, (by have := Sx_base hs; show w10.heap.size ≤ g; omega)⟩)), (ow238.imp (fun g _ hs => ⟨hs.1, (fun e => by have := Sx_base hs; injection e; omega), (by have := Sx_base hs; show w10.heap.size ≤ g; omega)⟩)), bx230, (by omega), (by omega)⟩
   ·refine OneH.seq f42 [[]] [(9, .slice (some ⟨w40.heap.size, 0, none⟩) 0 0)] (w40.alloc (.cells #[] 3 (0, 0))) [] #[true, true, true, false, true, true, true, false, false, false, false] (by kernel_rfl) (by kernel_rfl) (by kernel_rfl) trivial (fun act244 w241 hw242 f243 => ?_)
    clear f42
    have g245 := gr_alloc hw242
    have hS248 := hS47.gr g245
    refine ⟨hS248, ?_⟩
    have szw241 := g245.size
    have e249 := e48.gr g245 no_row
    clear e48
    have r250 := r49.gr g245 (fun _ h => by cases h)
    clear r49
    have bx251 := bx50.gr g245 (by simp)
    clear bx50
    have bx252 := bx51.gr g245 (by simp)
    clear bx51
    have bx253 := bx46.gr g245 (by simp)
    clear bx46
    have bx247 : Bx w241 (w40.heap.size) [] 3 := Bx.new hw242
    have := bx247.lt
    clear g245 hw242
    refine AtH.all [3, 9] 4 (by kernel_rfl) (by simp) ⟨?_, ?_, trivial⟩
    ·have ow255 : OwnR w241 (Sx (w30.heap.size) [some (w40.heap.size)]) (some ⟨w30.heap.size, 0, none⟩) 0 3 ([] : List Int) := Bx.own0 bx253 ⟨(fun e => by injection e; omega), (Nat.le_refl _)⟩
     clear bx253
     have hl260 : (([] : List Int) ++ g.ow).length = (([] : List Int)).length + (g.ow : List Int).length := List.length_append
     simp only [List.length_cons, List.length_nil] at hl260
     refine OneH.act f243 #[true, true, true, true, true, true, true, false, false, false, false] (by kernel_rfl) (appendR (α := Int) (t := 22) (d := 8) (n := 0) (m := g.ow.length) (cc := cg0) (xs := []) (ys := g.ow) (bytes := 8) (by first | rfl | omega | (simp; done) | (simp; omega)) (by first | rfl | omega | (simp; done) | (simp; omega)) (by kernel_rfl) rfl (by kernel_rfl) ow255 r250.ow.srcR (by simp only [List.length_cons, List.length_nil]; omega) (by simp only [List.length_cons, List.length_nil]; omega)) ?_
     rintro d_ v_ w259 ⟨rfl, A256, c257, ha258⟩
     obtain rfl := ha258.val
     have g261 := ha258.gr
     have hS264 := hS248.grO g261 (by rw [hCs27]; exact ⟨(fun e => by have := ow255.ge _ e; simp only [add_block] at this; omega), (fun e => by have := ow255.ge _ e; simp only [add_block] at this; omega), trivial⟩)
     refine ⟨_, rfl, fun act263 f262 => ⟨hS264, ?_⟩⟩
     clear f243
     have ow265 := ha258.own (Sx (w30.heap.size) [some (w40.heap.size)]) (fun g _ hs => ⟨hs.1, hs.2⟩) ⟨(fun e => by injection e; omega), (show w30.heap.size ≤ w241.heap.size by omega)⟩
     have szw259 := g261.size
     have e266 := e249.gr g261 (fun k hk => by have := ow255.ge k hk; omega)
     clear e249
     have r267 := r250.gr g261 (fun k hk => by have := ow255.ge k hk; omega)
     clear r250
     have bx268 := bx251.gr g261 (fun e => by have := ow255.ge _ e; omega)
     clear bx251
     have bx269 := bx252.gr g261 (fun e => by have := ow255.ge _ e; omega)
     clear bx252
     have bx270 := bx247.gr g261 (ow255.neb (fun g hs => hs.1))
     clear bx247
     clear ow255 g261 ha258
     replace ow265 : OwnR w259 (Sx (w30.heap.size) [some (w40.heap.size)]) A256 c257 3 (g.ow : List Int) := ow265
     refine AtH.all [7, 9] 3 (by kernel_rfl) (by simp) ⟨?_, ?_, trivial⟩
     ·have ow273 : OwnR w259 (Sx (w40.heap.size) [obk (A256)]) (some ⟨w40.heap.size, 0, none⟩) 0 3 ([] : List Int) := Bx.own0 bx270 ⟨(ow265.neb (fun g hs => hs.1)), (Nat.le_refl _)⟩
      clear bx270
      have hl278 : (([] : List Int) ++ g.pr).length = (([] : List Int)).length + (g.pr : List Int).length := List.length_append
      simp only [List.length_cons, List.length_nil] at hl278
      refine OneH.act f262 #[true, true, true, true, true, true, true, true, false, false, false] (by kernel_rfl) (appendR (α := Int) (t := 22) (d := 12) (n := 0) (m := g.pr.length) (cc := cg1) (xs := []) (ys := g.pr) (bytes := 8) (by first | rfl | omega | (simp; done) | (simp; omega)) (by first | rfl | omega | (simp; done) | (simp; omega)) (by kernel_rfl) rfl (by kernel_rfl) ow273 r267.pr.srcR (by simp only [List.length_cons, List.length_nil]; omega) (by simp only [List.length_cons, List.length_nil]; omega)) ?_
      rintro d_ v_ w277 ⟨rfl, A274, c275, ha276⟩
      obtain rfl := ha276.val
      have g279 := ha276.gr
      have hS282 := hS264.grO g279 (by rw [hCs27]; exact ⟨(fun e => by have := ow273.ge _ e; simp only [add_block] at this; omega), (fun e => by have := ow273.ge _ e; simp only [add_block] at this; omega), trivial⟩)
      refine ⟨_, rfl, fun act281 f280 => ⟨hS282, ?_⟩⟩
      clear f262
      have ow283 := ha276.own (Sx (w40.heap.size) [obk (A256)]) (fun g _ hs => ⟨hs.1, hs.2⟩) ⟨ow265.ne_new, (show w40.heap.size ≤ w259.heap.size by omega)⟩
      have szw277 := g279.size
      have e284 := e266.gr g279 (fun k hk => by have := ow273.ge k hk; omega)
      clear e266
      have r285 := r267.gr g279 (fun k hk => by have := ow273.ge k hk; omega)
      clear r267
      have bx286 := bx268.gr g279 (fun e => by have := ow273.ge _ e; omega)
      clear bx268
      have bx287 := bx269.gr g279 (fun e => by have := ow273.ge _ e; omega)
      clear bx269
      have ow288 : OwnR w277 (Sx (w30.heap.size) [obk (A274)]) A256 c257 3 (g.ow : List Int) := ow265.grA g279 (fun k hk => hk.1) (fun k hk hs => ⟨own_repl ha276.at_ hs.1 hk, hs.2⟩)
      clear ow265
      clear ow273 g279 ha276
      replace ow283 : OwnR w277 (Sx (w40.heap.size) [obk (A256)]) A274 c275 3 (g.pr : List Int) := ow283
      refine AtH.rd (by kernel_rfl) (fun d v c a w h => by cases d <;> exact h) hS282 [8] [[]] [(13, .agg #[.slice A256 ((([] : List Int) ++ g.ow).length) c257, .slice A274 ((([] : List Int) ++ g.pr).length) c275, .slice none 0 0])] #[true, true, true, true, true, true, true, true, true, false, false] [] 2 f280 (by kernel_rfl) trivial (fun act291 f290 => ?_)
      clear f280
      refine AtH.all [9] 1 (by kernel_rfl) (by simp) ⟨?_, trivial⟩
      refine OneH.seq f290 [[]] [(3, .pointer (some ⟨w277.heap.size, 0, none⟩))] (w277.alloc (.cells #[.slice none 0 0, .slice none 0 0, .slice none 0 0] 25 (0, 0))) [] #[true, true, true, true, true, true, true, true, true, true, false] (by kernel_rfl) (by kernel_rfl) (by kernel_rfl) trivial (fun act296 w293 hw294 f295 => ?_)
      clear f290
      have g297 := gr_alloc hw294
      have hS292 := hS282.gr g297
      have szw293 := g297.size
      have e299 := e284.gr g297 no_row
      clear e284
      have r300 := r285.gr g297 (fun _ h => by cases h)
      clear r285
      have bx301 := bx286.gr g297 (by simp)
      clear bx286
      have bx302 := bx287.gr g297 (by simp)
      clear bx287
      have ow303 : OwnR w293 (Sx (w30.heap.size) [some (w277.heap.size), obk (A274)]) A256 c257 3 (g.ow : List Int) := ow288.grA g297 (fun _ _ h => by cases h) (fun k hk hs => ⟨(fun e => by injection e; omega), hs.1, hs.2⟩)
      clear ow288
      have ow304 : OwnR w293 (Sx (w40.heap.size) [some (w277.heap.size), obk (A256)]) A274 c275 3 (g.pr : List Int) := ow283.grA g297 (fun _ _ h => by cases h) (fun k hk hs => ⟨(fun e => by injection e; omega), hs.1, hs.2⟩)
      clear ow283
      have bx305 : Bx w293 (w277.heap.size) [.slice none 0 0, .slice none 0 0, .slice none 0 0] 25 := Bx.new hw294
      have := bx305.lt
      clear g297 hw294
      refine ⟨hS292, ?_⟩
      refine AtH.all [10] 0 (by kernel_rfl) (by simp) ⟨?_, trivial⟩
      refine OneH.store f295 (t := 25) (b := w277.heap.size) (off := 0) (v := .agg #[.slice A256 ((([] : List Int) ++ g.ow).length) c257, .slice A274 ((([] : List Int) ++ g.pr).length) c275, .slice none 0 0]) #[true, true, true, true, true, true, true, true, true, true, true] (by kernel_rfl) (by kernel_rfl) bx305 (by kernel_rfl) (fun act311 w307 g308 bx309 f310 => ?_)
      clear f295
      replace bx309 : Bx w307 (w277.heap.size) [.slice A256 ((([] : List Int) ++ g.ow).length) c257, .slice A274 ((([] : List Int) ++ g.pr).length) c275, .slice none 0 0] 25 := bx309
      have hS306 := hS292.gr' g308 (by rw [hCs27]; exact ⟨(by simp only [add_block]; omega), (by simp only [add_block]; omega), trivial⟩)
      have szw307 := g308.size
      have e312 := e299.gr g308 (fun k h => by injection h; omega)
      clear e299
      have r313 := r300.gr g308 (fun k h => by injection h; omega)
      clear r300
      have bx314 := bx301.gr g308 (fun h => by injection h; omega)
      clear bx301
      have bx315 := bx302.gr g308 (fun h => by injection h; omega)
      clear bx302
      have ow316 := ow303.gr g308 (fun k hk => hk.1)
      clear ow303
      have ow317 := ow304.gr g308 (fun k hk => hk.1)
      clear ow304
      clear bx305 g308
      refine ⟨hS306, ?_⟩
      refine AtH.done (by kernel_rfl) ?_
      clear hS306
      refine t_n ?_
      have f318 := f310.sub (r := [(3, .pointer (some ⟨w277.heap.size, 0, none⟩)), (2, .pointer (some ⟨w1.heap.size, 0, none⟩)), (1, .pointer (some ⟨w.heap.size, 0, none⟩))]) ⟨rfl, rfl, rfl, trivial⟩
      exact ⟨w277.heap.size, A256, A274, c257, c275, f318, e312, r313, bx314, bx315, (ow316.imp (fun g _ hs => ⟨hs.2.1, hs.1, (by have := Sx_base hs; show w10.heap.size ≤ g; omega)⟩)), (ow317.imp (fun g _ hs => ⟨hs.2.1, hs.1, (by have := Sx_base hs; show w10.heap.size ≤ g; omega)⟩)), bx309, (by omega), (by omega)⟩
     ·refine OneH.seq f262 [[]] [(3, .pointer (some ⟨w259.heap.size, 0, none⟩))] (w259.alloc (.cells #[.slice none 0 0, .slice none 0 0, .slice none 0 0] 25 (0, 0))) [] #[true, true, true, true, true, true, true, false, false, true, false] (by kernel_rfl) (by kernel_rfl) (by kernel_rfl) trivial (fun act323 w320 hw321 f322 => ?_)
      clear f262
      have g324 := gr_alloc hw321
      have hS319 := hS264.gr g324
      have szw320 := g324.size
      have e326 := e266.gr g324 no_row
      clear e266
      have r327 := r267.gr g324 (fun _ h => by cases h)
      clear r267
      have bx328 := bx268.gr g324 (by simp)
      clear bx268
      have bx329 := bx269.gr g324 (by simp)
      clear bx269
      have ow330 : OwnR w320 (Sx (w30.heap.size) [some (w259.heap.size), some (w40.heap.size)]) A256 c257 3 (g.ow : List Int) := ow265.grA g324 (fun _ _ h => by cases h) (fun k hk hs => ⟨(fun e => by injection e; omega), hs.1, hs.2⟩)
      clear ow265
      have bx331 := bx270.gr g324 (by simp)
      clear bx270
      have bx332 : Bx w320 (w259.heap.size) [.slice none 0 0, .slice none 0 0, .slice none 0 0] 25 := Bx.new hw321
      have := bx332.lt
      clear g324 hw321
      refine ⟨hS319, ?_⟩
      refine AtH.all [7] 2 (by kernel_rfl) (by simp) ⟨?_, trivial⟩
      have ow334 : OwnR w320 (Sx (w40.heap.size) [obk (A256), some (w259.heap.size)]) (some ⟨w40.heap.size, 0, none⟩) 0 3 ([] : List Int) := Bx.own0 bx331 ⟨(ow330.neb (fun g hs => hs.2.1)), (fun e => by injection e; omega), (Nat.le_refl _)⟩
      clear bx331
      have hl339 : (([] : List Int) ++ g.pr).length = (([] : List Int)).length + (g.pr : List Int).length := List.length_append
      simp only [List.length_cons, List.length_nil] at hl339
      refine OneH.act f322 #[true, true, true, true, true, true, true, true, false, true, false] (by kernel_rfl) (appendR (α := Int) (t := 22) (d := 12) (n := 0) (m := g.pr.length) (cc := cg1) (xs := []) (ys := g.pr) (bytes := 8) (by first | rfl | omega | (simp; done) | (simp; omega)) (by first | rfl | omega | (simp; done) | (simp; omega)) (by kernel_rfl) rfl (by kernel_rfl) ow334 r327.pr.srcR (by simp only [List.length_cons, List.length_nil]; omega) (by simp only [List.length_cons, List.length_nil]; omega)) ?_
      rintro d_ v_ w338 ⟨rfl, A335, c336, ha337⟩
      obtain rfl := ha337.val
      have g340 := ha337.gr
      have hS343 := hS319.grO g340 (by rw [hCs27]; exact ⟨(fun e => by have := ow334.ge _ e; simp only [add_block] at this; omega), (fun e => by have := ow334.ge _ e; simp only [add_block] at this; omega), trivial⟩)
      refine ⟨_, rfl, fun act342 f341 => ⟨hS343, ?_⟩⟩
      clear f322
      have ow344 := ha337.own (Sx (w40.heap.size) [obk (A256), some (w259.heap.size)]) (fun g _ hs => ⟨hs.1, hs.2.1, hs.2.2⟩) ⟨ow330.ne_new, (fun e => by injection e; omega), (show w40.heap.size ≤ w320.heap.size by omega)⟩
      have szw338 := g340.size
      have e345 := e326.gr g340 (fun k hk => by have := ow334.ge k hk; omega)
      clear e326
      have r346 := r327.gr g340 (fun k hk => by have := ow334.ge k hk; omega)
      clear r327
      have bx347 := bx328.gr g340 (fun e => by have := ow334.ge _ e; omega)
      clear bx328
      have bx348 := bx329.gr g340 (fun e => by have := ow334.ge _ e; omega)
      clear bx329
      have ow349 : OwnR w338 (Sx (w30.heap.size) [some (w259.heap.size), obk (A335)]) A256 c257 3 (g.ow : List Int) := ow330.grA g340 (fun k hk => hk.2.1) (fun k hk hs => ⟨hs.1, own_repl ha337.at_ hs.2.1 hk, hs.2.2⟩)
      clear ow330
      have bx350 := bx332.gr g340 (ow334.neb (fun g hs => hs.2.1))
      clear bx332
      clear ow334 g340 ha337
      replace ow344 : OwnR w338 (Sx (w40.heap.size) [obk (A256), some (w259.heap.size)]) A335 c336 3 (g.pr : List Int) := ow344
      refine AtH.rd (by kernel_rfl) (fun d v c a w h => by cases d <;> exact h) hS343 [8] [[]] [(13, .agg #[.slice A256 ((([] : List Int) ++ g.ow).length) c257, .slice A335 ((([] : List Int) ++ g.pr).length) c336, .slice none 0 0])] #[true, true, true, true, true, true, true, true, true, true, false] [] 1 f341 (by kernel_rfl) trivial (fun act353 f352 => ?_)
      clear f341
      refine AtH.all [10] 0 (by kernel_rfl) (by simp) ⟨?_, trivial⟩
      refine OneH.store f352 (t := 25) (b := w259.heap.size) (off := 0) (v := .agg #[.slice A256 ((([] : List Int) ++ g.ow).length) c257, .slice A335 ((([] : List Int) ++ g.pr).length) c336, .slice none 0 0]) #[true, true, true, true, true, true, true, true, true, true, true] (by kernel_rfl) (by kernel_rfl) bx350 (by kernel_rfl) (fun act359 w355 g356 bx357 f358 => ?_)
      clear f352
      replace bx357 : Bx w355 (w259.heap.size) [.slice A256 ((([] : List Int) ++ g.ow).length) c257, .slice A335 ((([] : List Int) ++ g.pr).length) c336, .slice none 0 0] 25 := bx357
      have hS354 := hS343.gr' g356 (by rw [hCs27]; exact ⟨(by simp only [add_block]; omega), (by simp only [add_block]; omega), trivial⟩)
      have szw355 := g356.size
      have e360 := e345.gr g356 (fun k h => by injection h; omega)
      clear e345
      have r361 := r346.gr g356 (fun k h => by injection h; omega)
      clear r346
      have bx362 := bx347.gr g356 (fun h => by injection h; omega)
      clear bx347
      have bx363 := bx348.gr g356 (fun h => by injection h; omega)
      clear bx348
      have ow364 := ow349.gr g356 (fun k hk => hk.1)
      clear ow349
      have ow365 := ow344.gr g356 (fun k hk => hk.2.1)
      clear ow344
      clear bx350 g356
      refine ⟨hS354, ?_⟩
      refine AtH.done (by kernel_rfl) ?_
      clear hS354
      refine t_n ?_
      have f366 := f358.sub (r := [(3, .pointer (some ⟨w259.heap.size, 0, none⟩)), (2, .pointer (some ⟨w1.heap.size, 0, none⟩)), (1, .pointer (some ⟨w.heap.size, 0, none⟩))]) ⟨rfl, rfl, rfl, trivial⟩
      exact ⟨w259.heap.size, A256, A335, c257, c336, f366, e360, r361, bx362, bx363, (ow364.imp (fun g _ hs => ⟨hs.2.1, hs.1, (by have := Sx_base hs; show w10.heap.size ≤ g; omega)⟩)), (ow365.imp (fun g _ hs => ⟨hs.1, hs.2.1, (by have := Sx_base hs; show w10.heap.size ≤ g; omega)⟩)), bx357, (by omega), (by omega)⟩
    ·refine OneH.seq f243 [[]] [(3, .pointer (some ⟨w241.heap.size, 0, none⟩))] (w241.alloc (.cells #[.slice none 0 0, .slice none 0 0, .slice none 0 0] 25 (0, 0))) [] #[true, true, true, false, true, true, true, false, false, true, false] (by kernel_rfl) (by kernel_rfl) (by kernel_rfl) trivial (fun act371 w368 hw369 f370 => ?_)
     clear f243
     have g372 := gr_alloc hw369
     have hS367 := hS248.gr g372
     have szw368 := g372.size
     have e374 := e249.gr g372 no_row
     clear e249
     have r375 := r250.gr g372 (fun _ h => by cases h)
     clear r250
     have bx376 := bx251.gr g372 (by simp)
     clear bx251
     have bx377 := bx252.gr g372 (by simp)
     clear bx252
     have bx378 := bx253.gr g372 (by simp)
     clear bx253
     have bx379 := bx247.gr g372 (by simp)
     clear bx247
     have bx380 : Bx w368 (w241.heap.size) [.slice none 0 0, .slice none 0 0, .slice none 0 0] 25 := Bx.new hw369
     have := bx380.lt
     clear g372 hw369
     refine ⟨hS367, ?_⟩
     refine AtH.all [3] 3 (by kernel_rfl) (by simp) ⟨?_, trivial⟩
     have ow382 : OwnR w368 (Sx (w30.heap.size) [some (w40.heap.size), some (w241.heap.size)]) (some ⟨w30.heap.size, 0, none⟩) 0 3 ([] : List Int) := Bx.own0 bx378 ⟨(fun e => by injection e; omega), (fun e => by injection e; omega), (Nat.le_refl _)⟩
     clear bx378
     have hl387 : (([] : List Int) ++ g.ow).length = (([] : List Int)).length + (g.ow : List Int).length := List.length_append
     simp only [List.length_cons, List.length_nil] at hl387
     refine OneH.act f370 #[true, true, true, true, true, true, true, false, false, true, false] (by kernel_rfl) (appendR (α := Int) (t := 22) (d := 8) (n := 0) (m := g.ow.length) (cc := cg0) (xs := []) (ys := g.ow) (bytes := 8) (by first | rfl | omega | (simp; done) | (simp; omega)) (by first | rfl | omega | (simp; done) | (simp; omega)) (by kernel_rfl) rfl (by kernel_rfl) ow382 r375.ow.srcR (by simp only [List.length_cons, List.length_nil]; omega) (by simp only [List.length_cons, List.length_nil]; omega)) ?_
     rintro d_ v_ w386 ⟨rfl, A383, c384, ha385⟩
     obtain rfl := ha385.val
     have g388 := ha385.gr
     have hS391 := hS367.grO g388 (by rw [hCs27]; exact ⟨(fun e => by have := ow382.ge _ e; simp only [add_block] at this; omega), (fun e => by have := ow382.ge _ e; simp only [add_block] at this; omega), trivial⟩)
     refine ⟨_, rfl, fun act390 f389 => ⟨hS391, ?_⟩⟩
     clear f370
     have ow392 := ha385.own (Sx (w30.heap.size) [some (w40.heap.size), some (w241.heap.size)]) (fun g _ hs => ⟨hs.1, hs.2.1, hs.2.2⟩) ⟨(fun e => by injection e; omega), (fun e => by injection e; omega), (show w30.heap.size ≤ w368.heap.size by omega)⟩
     have szw386 := g388.size
     have e393 := e374.gr g388 (fun k hk => by have := ow382.ge k hk; omega)
     clear e374
     have r394 := r375.gr g388 (fun k hk => by have := ow382.ge k hk; omega)
     clear r375
     have bx395 := bx376.gr g388 (fun e => by have := ow382.ge _ e; omega)
     clear bx376
     have bx396 := bx377.gr g388 (fun e => by have := ow382.ge _ e; omega)
     clear bx377
     have bx397 := bx379.gr g388 (ow382.neb (fun g hs => hs.1))
     clear bx379
     have bx398 := bx380.gr g388 (ow382.neb (fun g hs => hs.2.1))
     clear bx380
     clear ow382 g388 ha385
     replace ow392 : OwnR w386 (Sx (w30.heap.size) [some (w40.heap.size), some (w241.heap.size)]) A383 c384 3 (g.ow : List Int) := ow392
     refine AtH.all [7] 2 (by kernel_rfl) (by simp) ⟨?_, trivial⟩
     have ow401 : OwnR w386 (Sx (w40.heap.size) [obk (A383), some (w241.heap.size)]) (some ⟨w40.heap.size, 0, none⟩) 0 3 ([] : List Int) := Bx.own0 bx397 ⟨(ow392.neb (fun g hs => hs.1)), (fun e => by injection e; omega), (Nat.le_refl _)⟩
     clear bx397
     have hl406 : (([] : List Int) ++ g.pr).length = (([] : List Int)).length + (g.pr : List Int).length := List.length_append
     simp only [List.length_cons, List.length_nil] at hl406
     refine OneH.act f389 #[true, true, true, true, true, true, true, true, false, true, false] (by kernel_rfl) (appendR (α := Int) (t := 22) (d := 12) (n := 0) (m := g.pr.length) (cc := cg1) (xs := []) (ys := g.pr) (bytes := 8) (by first | rfl | omega | (simp; done) | (simp; omega)) (by first | rfl | omega | (simp; done) | (simp; omega)) (by kernel_rfl) rfl (by kernel_rfl) ow401 r394.pr.srcR (by simp only [List.length_cons, List.length_nil]; omega) (by simp only [List.length_cons, List.length_nil]; omega)) ?_
     rintro d_ v_ w405 ⟨rfl, A402, c403, ha404⟩
     obtain rfl := ha404.val
     have g407 := ha404.gr
     have hS410 := hS391.grO g407 (by rw [hCs27]; exact ⟨(fun e => by have := ow401.ge _ e; simp only [add_block] at this; omega), (fun e => by have := ow401.ge _ e; simp only [add_block] at this; omega), trivial⟩)
     refine ⟨_, rfl, fun act409 f408 => ⟨hS410, ?_⟩⟩
     clear f389
     have ow411 := ha404.own (Sx (w40.heap.size) [obk (A383), some (w241.heap.size)]) (fun g _ hs => ⟨hs.1, hs.2.1, hs.2.2⟩) ⟨ow392.ne_new, (fun e => by injection e; omega), (show w40.heap.size ≤ w386.heap.size by omega)⟩
     have szw405 := g407.size
     have e412 := e393.gr g407 (fun k hk => by have := ow401.ge k hk; omega)
     clear e393
     have r413 := r394.gr g407 (fun k hk => by have := ow401.ge k hk; omega)
     clear r394
     have bx414 := bx395.gr g407 (fun e => by have := ow401.ge _ e; omega)
     clear bx395
     have bx415 := bx396.gr g407 (fun e => by have := ow401.ge _ e; omega)
     clear bx396
     have ow416 : OwnR w405 (Sx (w30.heap.size) [obk (A402), some (w241.heap.size)]) A383 c384 3 (g.ow : List Int) := ow392.grA g407 (fun k hk => hk.1) (fun k hk hs => ⟨own_repl ha404.at_ hs.1 hk, hs.2.1, hs.2.2⟩)
     clear ow392
     have bx417 := bx398.gr g407 (ow401.neb (fun g hs => hs.2.1))
     clear bx398
     clear ow401 g407 ha404
     replace ow411 : OwnR w405 (Sx (w40.heap.size) [obk (A383), some (w241.heap.size)]) A402 c403 3 (g.pr : List Int) := ow411
     refine AtH.rd (by kernel_rfl) (fun d v c a w h => by cases d <;> exact h) hS410 [8] [[]] [(13, .agg #[.slice A383 ((([] : List Int) ++ g.ow).length) c384, .slice A402 ((([] : List Int) ++ g.pr).length) c403, .slice none 0 0])] #[true, true, true, true, true, true, true, true, true, true, false] [] 1 f408 (by kernel_rfl) trivial (fun act420 f419 => ?_)
     clear f408
     refine AtH.all [10] 0 (by kernel_rfl) (by simp) ⟨?_, trivial⟩
     refine OneH.store f419 (t := 25) (b := w241.heap.size) (off := 0) (v := .agg #[.slice A383 ((([] : List Int) ++ g.ow).length) c384, .slice A402 ((([] : List Int) ++ g.pr).length) c403, .slice none 0 0]) #[true, true, true, true, true, true, true, true, true, true, true] (by kernel_rfl) (by kernel_rfl) bx417 (by kernel_rfl) (fun act426 w422 g423 bx424 f425 => ?_)
     clear f419
     replace bx424 : Bx w422 (w241.heap.size) [.slice A383 ((([] : List Int) ++ g.ow).length) c384, .slice A402 ((([] : List Int) ++ g.pr).length) c403, .slice none 0 0] 25 := bx424
     have hS421 := hS410.gr' g423 (by rw [hCs27]; exact ⟨(by simp only [add_block]; omega), (by simp only [add_block]; omega), trivial⟩)
     have szw422 := g423.size
     have e427 := e412.gr g423 (fun k h => by injection h; omega)
     clear e412
     have r428 := r413.gr g423 (fun k h => by injection h; omega)
     clear r413
     have bx429 := bx414.gr g423 (fun h => by injection h; omega)
     clear bx414
     have bx430 := bx415.gr g423 (fun h => by injection h; omega)
     clear bx415
     have ow431 := ow416.gr g423 (fun k hk => hk.2.1)
     clear ow416
     have ow432 := ow411.gr g423 (fun k hk => hk.2.1)
     clear ow411
     clear bx417 g423
     refine ⟨hS421, ?_⟩
     refine AtH.done (by kernel_rfl) ?_
     clear hS421
     refine t_n ?_
     have f433 := f425.sub (r := [(3, .pointer (some ⟨w241.heap.size, 0, none⟩)), (2, .pointer (some ⟨w1.heap.size, 0, none⟩)), (1, .pointer (some ⟨w.heap.size, 0, none⟩))]) ⟨rfl, rfl, rfl, trivial⟩
     exact ⟨w241.heap.size, A383, A402, c384, c403, f433, e427, r428, bx429, bx430, (ow431.imp (fun g _ hs => ⟨hs.1, hs.2.1, (by have := Sx_base hs; show w10.heap.size ≤ g; omega)⟩)), (ow432.imp (fun g _ hs => ⟨hs.1, hs.2.1, (by have := Sx_base hs; show w10.heap.size ≤ g; omega)⟩)), bx424, (by omega), (by omega)⟩
   ·refine OneH.seq f42 [[]] [(3, .pointer (some ⟨w40.heap.size, 0, none⟩))] (w40.alloc (.cells #[.slice none 0 0, .slice none 0 0, .slice none 0 0] 25 (0, 0))) [] #[true, true, true, false, false, true, true, false, false, true, false] (by kernel_rfl) (by kernel_rfl) (by kernel_rfl) trivial (fun act438 w435 hw436 f437 => ?_)
    clear f42
    have g439 := gr_alloc hw436
    have hS434 := hS47.gr g439
    have szw435 := g439.size
    have e441 := e48.gr g439 no_row
    clear e48
    have r442 := r49.gr g439 (fun _ h => by cases h)
    clear r49
    have bx443 := bx50.gr g439 (by simp)
    clear bx50
    have bx444 := bx51.gr g439 (by simp)
    clear bx51
    have bx445 := bx46.gr g439 (by simp)
    clear bx46
    have bx446 : Bx w435 (w40.heap.size) [.slice none 0 0, .slice none 0 0, .slice none 0 0] 25 := Bx.new hw436
    have := bx446.lt
    clear g439 hw436
    refine ⟨hS434, ?_⟩
    refine AtH.all [3, 4] 4 (by kernel_rfl) (by simp) ⟨?_, ?_, trivial⟩
    ·have ow448 : OwnR w435 (Sx (w30.heap.size) [some (w40.heap.size)]) (some ⟨w30.heap.size, 0, none⟩) 0 3 ([] : List Int) := Bx.own0 bx445 ⟨(fun e => by injection e; omega), (Nat.le_refl _)⟩
     clear bx445
     have hl453 : (([] : List Int) ++ g.ow).length = (([] : List Int)).length + (g.ow : List Int).length := List.length_append
     simp only [List.length_cons, List.length_nil] at hl453
     refine OneH.act f437 #[true, true, true, true, false, true, true, false, false, true, false] (by kernel_rfl) (appendR (α := Int) (t := 22) (d := 8) (n := 0) (m := g.ow.length) (cc := cg0) (xs := []) (ys := g.ow) (bytes := 8) (by first | rfl | omega | (simp; done) | (simp; omega)) (by first | rfl | omega | (simp; done) | (simp; omega)) (by kernel_rfl) rfl (by kernel_rfl) ow448 r442.ow.srcR (by simp only [List.length_cons, List.length_nil]; omega) (by simp only [List.length_cons, List.length_nil]; omega)) ?_
     rintro d_ v_ w452 ⟨rfl, A449, c450, ha451⟩
     obtain rfl := ha451.val
     have g454 := ha451.gr
     have hS457 := hS434.grO g454 (by rw [hCs27]; exact ⟨(fun e => by have := ow448.ge _ e; simp only [add_block] at this; omega), (fun e => by have := ow448.ge _ e; simp only [add_block] at this; omega), trivial⟩)
     refine ⟨_, rfl, fun act456 f455 => ⟨hS457, ?_⟩⟩
     clear f437
     have ow458 := ha451.own (Sx (w30.heap.size) [some (w40.heap.size)]) (fun g _ hs => ⟨hs.1, hs.2⟩) ⟨(fun e => by injection e; omega), (show w30.heap.size ≤ w435.heap.size by omega)⟩
     have szw452 := g454.size
     have e459 := e441.gr g454 (fun k hk => by have := ow448.ge k hk; omega)
     clear e441
     have r460 := r442.gr g454 (fun k hk => by have := ow448.ge k hk; omega)
     clear r442
     have bx461 := bx443.gr g454 (fun e => by have := ow448.ge _ e; omega)
     clear bx443
     have bx462 := bx444.gr g454 (fun e => by have := ow448.ge _ e; omega)
     clear bx444
     have bx463 := bx446.gr g454 (ow448.neb (fun g hs => hs.1))
     clear bx446
     clear ow448 g454 ha451
     replace ow458 : OwnR w452 (Sx (w30.heap.size) [some (w40.heap.size)]) A449 c450 3 (g.ow : List Int) := ow458
     refine AtH.all [4] 3 (by kernel_rfl) (by simp) ⟨?_, trivial⟩
     refine OneH.seq f455 [[]] [(9, .slice (some ⟨w452.heap.size, 0, none⟩) 0 0)] (w452.alloc (.cells #[] 3 (0, 0))) [] #[true, true, true, true, true, true, true, false, false, true, false] (by kernel_rfl) (by kernel_rfl) (by kernel_rfl) trivial (fun act469 w466 hw467 f468 => ?_)
     clear f455
     have g470 := gr_alloc hw467
     have hS473 := hS457.gr g470
     refine ⟨hS473, ?_⟩
     have szw466 := g470.size
     have e474 := e459.gr g470 no_row
     clear e459
     have r475 := r460.gr g470 (fun _ h => by cases h)
     clear r460
     have bx476 := bx461.gr g470 (by simp)
     clear bx461
     have bx477 := bx462.gr g470 (by simp)
     clear bx462
     have ow478 : OwnR w466 (Sx (w30.heap.size) [some (w452.heap.size), some (w40.heap.size)]) A449 c450 3 (g.ow : List Int) := ow458.grA g470 (fun _ _ h => by cases h) (fun k hk hs => ⟨(fun e => by injection e; omega), hs.1, hs.2⟩)
     clear ow458
     have bx479 := bx463.gr g470 (by simp)
     clear bx463
     have bx472 : Bx w466 (w452.heap.size) [] 3 := Bx.new hw467
     have := bx472.lt
     clear g470 hw467
     refine AtH.all [7] 2 (by kernel_rfl) (by simp) ⟨?_, trivial⟩
     have ow481 : OwnR w466 (Sx (w452.heap.size) [obk (A449)]) (some ⟨w452.heap.size, 0, none⟩) 0 3 ([] : List Int) := Bx.own0 bx472 ⟨(ow478.neb (fun g hs => hs.1)), (Nat.le_refl _)⟩
     clear bx472
     have hl486 : (([] : List Int) ++ g.pr).length = (([] : List Int)).length + (g.pr : List Int).length := List.length_append
     simp only [List.length_cons, List.length_nil] at hl486
     refine OneH.act f468 #[true, true, true, true, true, true, true, true, false, true, false] (by kernel_rfl) (appendR (α := Int) (t := 22) (d := 12) (n := 0) (m := g.pr.length) (cc := cg1) (xs := []) (ys := g.pr) (bytes := 8) (by first | rfl | omega | (simp; done) | (simp; omega)) (by first | rfl | omega | (simp; done) | (simp; omega)) (by kernel_rfl) rfl (by kernel_rfl) ow481 r475.pr.srcR (by simp only [List.length_cons, List.length_nil]; omega) (by simp only [List.length_cons, List.length_nil]; omega)) ?_
     rintro d_ v_ w485 ⟨rfl, A482, c483, ha484⟩
     obtain rfl := ha484.val
     have g487 := ha484.gr
     have hS490 := hS473.grO g487 (by rw [hCs27]; exact ⟨(fun e => by have := ow481.ge _ e; simp only [add_block] at this; omega), (fun e => by have := ow481.ge _ e; simp only [add_block] at this; omega), trivial⟩)
     refine ⟨_, rfl, fun act489 f488 => ⟨hS490, ?_⟩⟩
     clear f468
     have ow491 := ha484.own (Sx (w452.heap.size) [obk (A449)]) (fun g _ hs => ⟨hs.1, hs.2⟩) ⟨ow478.ne_new, (show w452.heap.size ≤ w466.heap.size by omega)⟩
     have szw485 := g487.size
     have e492 := e474.gr g487 (fun k hk => by have := ow481.ge k hk; omega)
     clear e474
     have r493 := r475.gr g487 (fun k hk => by have := ow481.ge k hk; omega)
     clear r475
     have bx494 := bx476.gr g487 (fun e => by have := ow481.ge _ e; omega)
     clear bx476
     have bx495 := bx477.gr g487 (fun e => by have := ow481.ge _ e; omega)
     clear bx477
     have ow496 : OwnR w485 (Sx (w30.heap.size) [obk (A482), some (w40.heap.size)]) A449 c450 3 (g.ow : List Int) := ow478.grA g487 (fun k hk => hk.1) (fun k hk hs => ⟨own_repl ha484.at_ hs.1 hk, hs.2.1, hs.2.2⟩)
     clear ow478
     have bx497 := bx479.gr g487 (fun e => by have := ow481.ge _ e; omega)
     clear bx479
     clear ow481 g487 ha484
     replace ow491 : OwnR w485 (Sx (w452.heap.size) [obk (A449)]) A482 c483 3 (g.pr : List Int) := ow491
     refine AtH.rd (by kernel_rfl) (fun d v c a w h => by cases d <;> exact h) hS490 [8] [[]] [(13, .agg #[.slice A449 ((([] : List Int) ++ g.ow).length) c450, .slice A482 ((([] : List Int) ++ g.pr).length) c483, .slice none 0 0])] #[true, true, true, true, true, true, true, true, true, true, false] [] 1 f488 (by kernel_rfl) trivial (fun act500 f499 => ?_)
     clear f488
     refine AtH.all [10] 0 (by kernel_rfl) (by simp) ⟨?_, trivial⟩
     refine OneH.store f499 (t := 25) (b := w40.heap.size) (off := 0) (v := .agg #[.slice A449 ((([] : List Int) ++ g.ow).length) c450, .slice A482 ((([] : List Int) ++ g.pr).length) c483, .slice none 0 0]) #[true, true, true, true, true, true, true, true, true, true, true] (by kernel_rfl) (by kernel_rfl) bx497 (by kernel_rfl) (fun act506 w502 g503 bx504 f505 => ?_)
     clear f499
     replace bx504 : Bx w502 (w40.heap.size) [.slice A449 ((([] : List Int) ++ g.ow).length) c450, .slice A482 ((([] : List Int) ++ g.pr).length) c483, .slice none 0 0] 25 := bx504
     have hS501 := hS490.gr' g503 (by rw [hCs27]; exact ⟨(by simp only [add_block]; omega), (by simp only [add_block]; omega), trivial⟩)
     have szw502 := g503.size
     have e507 := e492.gr g503 (fun k h => by injection h; omega)
     clear e492
     have r508 := r493.gr g503 (fun k h => by injection h; omega)
     clear r493
     have bx509 := bx494.gr g503 (fun h => by injection h; omega)
     clear bx494
     have bx510 := bx495.gr g503 (fun h => by injection h; omega)
     clear bx495
     have ow511 := ow496.gr g503 (fun k hk => hk.2.1)
     clear ow496
     have ow512 := ow491.gr g503 (fun k hk e => by have := Sx_base hk; injection e; omega)
     clear ow491
     clear bx497 g503
     refine ⟨hS501, ?_⟩
     refine AtH.done (by kernel_rfl) ?_
     clear hS501
     refine t_n ?_
     have f513 := f505.sub (r := [(3, .pointer (some ⟨w40.heap.size, 0, none⟩)), (2, .pointer (some ⟨w1.heap.size, 0, none⟩)), (1, .pointer (some ⟨w.heap.size, 0, none⟩))]) ⟨rfl, rfl, rfl, trivial⟩
     exact ⟨w40.heap.size, A449, A482, c450, c483, f513, e507, r508, bx509, bx510, (ow511.imp (fun g _ hs => ⟨hs.1, hs.2.1, (by have := Sx_base hs; show w10.heap.size ≤ g; omega)⟩)), (ow512.imp (fun g _ hs => ⟨hs.1, (fun e => by have := Sx_base hs; injection e; omega), (by have := Sx_base hs; show w10.heap.size ≤ g; omega)⟩)), bx504, (by omega), (by omega)⟩
    ·refine OneH.seq f437 [[]] [(9, .slice (some ⟨w435.heap.size, 0, none⟩) 0 0)] (w435.alloc (.cells #[] 3 (0, 0))) [] #[true, true, true, false, true, true, true, false, false, true, false] (by kernel_rfl) (by kernel_rfl) (by kernel_rfl) trivial (fun act518 w515 hw516 f517 => ?_)
     clear f437
     have g519 := gr_alloc hw516
     have hS522 := hS434.gr g519
     refine ⟨hS522, ?_⟩
     have szw515 := g519.size
     have e523 := e441.gr g519 no_row
     clear e441
     have r524 := r442.gr g519 (fun _ h => by cases h)
     clear r442
     have bx525 := bx443.gr g519 (by simp)
     clear bx443
     have bx526 := bx444.gr g519 (by simp)
     clear bx444
     have bx527 := bx445.gr g519 (by simp)
     clear bx445
     have bx528 := bx446.gr g519 (by simp)
     clear bx446
     have bx521 : Bx w515 (w435.heap.size) [] 3 := Bx.new hw516
     have := bx521.lt
     clear g519 hw516
     refine AtH.all [3] 3 (by kernel_rfl) (by simp) ⟨?_, trivial⟩
     have ow530 : OwnR w515 (Sx (w30.heap.size) [some (w40.heap.size), some (w435.heap.size)]) (some ⟨w30.heap.size, 0, none⟩) 0 3 ([] : List Int) := Bx.own0 bx527 ⟨(fun e => by injection e; omega), (fun e => by injection e; omega), (Nat.le_refl _)⟩
     clear bx527
     have hl535 : (([] : List Int) ++ g.ow).length = (([] : List Int)).length + (g.ow : List Int).length := List.length_append
     simp only [List.length_cons, List.length_nil] at hl535
     refine OneH.act f517 #[true, true, true, true, true, true, true, false, false, true, false] (by kernel_rfl) (appendR (α := Int) (t := 22) (d := 8) (n := 0) (m := g.ow.length) (cc := cg0) (xs := []) (ys := g.ow) (bytes := 8) (by first | rfl | omega | (simp; done) | (simp; omega)) (by first | rfl | omega | (simp; done) | (simp; omega)) (by kernel_rfl) rfl (by kernel_rfl) ow530 r524.ow.srcR (by simp only [List.length_cons, List.length_nil]; omega) (by simp only [List.length_cons, List.length_nil]; omega)) ?_
     rintro d_ v_ w534 ⟨rfl, A531, c532, ha533⟩
     obtain rfl := ha533.val
     have g536 := ha533.gr
     have hS539 := hS522.grO g536 (by rw [hCs27]; exact ⟨(fun e => by have := ow530.ge _ e; simp only [add_block] at this; omega), (fun e => by have := ow530.ge _ e; simp only [add_block] at this; omega), trivial⟩)
     refine ⟨_, rfl, fun act538 f537 => ⟨hS539, ?_⟩⟩
     clear f517
     have ow540 := ha533.own (Sx (w30.heap.size) [some (w40.heap.size), some (w435.heap.size)]) (fun g _ hs => ⟨hs.1, hs.2.1, hs.2.2⟩) ⟨(fun e => by injection e; omega), (fun e => by injection e; omega), (show w30.heap.size ≤ w515.heap.size by omega)⟩
     have szw534 := g536.size
     have e541 := e523.gr g536 (fun k hk => by have := ow530.ge k hk; omega)
     clear e523
     have r542 := r524.gr g536 (fun k hk => by have := ow530.ge k hk; omega)
     clear r524
     have bx543 := bx525.gr g536 (fun e => by have := ow530.ge _ e; omega)
     clear bx525
     have bx544 := bx526.gr g536 (fun e => by have := ow530.ge _ e; omega)
     clear bx526
     have bx545 := bx528.gr g536 (ow530.neb (fun g hs => hs.1))
     clear bx528
     have bx546 := bx521.gr g536 (ow530.neb (fun g hs => hs.2.1))
     clear bx521
     clear ow530 g536 ha533
     replace ow540 : OwnR w534 (Sx (w30.heap.size) [some (w40.heap.size), some (w435.heap.size)]) A531 c532 3 (g.ow : List Int) := ow540
     refine AtH.all [7] 2 (by kernel_rfl) (by simp) ⟨?_, trivial⟩
     have ow549 : OwnR w534 (Sx (w435.heap.size) [obk (A531)]) (some ⟨w435.heap.size, 0, none⟩) 0 3 ([] : List Int) := Bx.own0 bx546 ⟨(ow540.neb (fun g hs => hs.2.1)), (Nat.le_refl _)⟩
     clear bx546
     have hl554 : (([] : List Int) ++ g.pr).length = (([] : List Int)).length + (g.pr : List Int).length := List.length_append
     simp only [List.length_cons, List.length_nil] at hl554
     refine OneH.act f537 #[true, true, true, true, true, true, true, true, false, true, false] (by kernel_rfl) (appendR (α := Int) (t := 22) (d := 12) (n := 0) (m := g.pr.length) (cc := cg1) (xs := []) (ys := g.pr) (bytes := 8) (by first | rfl | omega | (simp; done) | (simp; omega)) (by first | rfl | omega | (simp; done) | (simp; omega)) (by kernel_rfl) rfl (by kernel_rfl) ow549 r542.pr.srcR (by simp only [List.length_cons, List.length_nil]; omega) (by simp only [List.length_cons, List.length_nil]; omega)) ?_
     rintro d_ v_ w553 ⟨rfl, A550, c551, ha552⟩
     obtain rfl := ha552.val
     have g555 := ha552.gr
     have hS558 := hS539.grO g555 (by rw [hCs27]; exact ⟨(fun e => by have := ow549.ge _ e; simp only [add_block] at this; omega), (fun e => by have := ow549.ge _ e; simp only [add_block] at this; omega), trivial⟩)
     refine ⟨_, rfl, fun act557 f556 => ⟨hS558, ?_⟩⟩
     clear f537
     have ow559 := ha552.own (Sx (w435.heap.size) [obk (A531)]) (fun g _ hs => ⟨hs.1, hs.2⟩) ⟨ow540.ne_new, (show w435.heap.size ≤ w534.heap.size by omega)⟩
     have szw553 := g555.size
     have e560 := e541.gr g555 (fun k hk => by have := ow549.ge k hk; omega)
     clear e541
     have r561 := r542.gr g555 (fun k hk => by have := ow549.ge k hk; omega)
     clear r542
     have bx562 := bx543.gr g555 (fun e => by have := ow549.ge _ e; omega)
     clear bx543
     have bx563 := bx544.gr g555 (fun e => by have := ow549.ge _ e; omega)
     clear bx544
     have ow564 : OwnR w553 (Sx (w30.heap.size) [some (w40.heap.size), obk (A550)]) A531 c532 3 (g.ow : List Int) := ow540.grA g555 (fun k hk => hk.2.1) (fun k hk hs => ⟨hs.1, own_repl ha552.at_ hs.2.1 hk, hs.2.2⟩)
     clear ow540
     have bx565 := bx545.gr g555 (fun e => by have := ow549.ge _ e; omega)
     clear bx545
     clear ow549 g555 ha552
     replace ow559 : OwnR w553 (Sx (w435.heap.size) [obk (A531)]) A550 c551 3 (g.pr : List Int) := ow559
     refine AtH.rd (by kernel_rfl) (fun d v c a w h => by cases d <;> exact h) hS558 [8] [[]] [(13, .agg #[.slice A531 ((([] : List Int) ++ g.ow).length) c532, .slice A550 ((([] : List Int) ++ g.pr).length) c551, .slice none 0 0])] #[true, true, true, true, true, true, true, true, true, true, false] [] 1 f556 (by kernel_rfl) trivial (fun act568 f567 => ?_)
     clear f556
     refine AtH.all [10] 0 (by kernel_rfl) (by simp) ⟨?_, trivial⟩
     refine OneH.store f567 (t := 25) (b := w40.heap.size) (off := 0) (v := .agg #[.slice A531 ((([] : List Int) ++ g.ow).length) c532, .slice A550 ((([] : List Int) ++ g.pr).length) c551, .slice none 0 0]) #[true, true, true, true, true, true, true, true, true, true, true] (by kernel_rfl) (by kernel_rfl) bx565 (by kernel_rfl) (fun act574 w570 g571 bx572 f573 => ?_)
     clear f567
     replace bx572 : Bx w570 (w40.heap.size) [.slice A531 ((([] : List Int) ++ g.ow).length) c532, .slice A550 ((([] : List Int) ++ g.pr).length) c551, .slice none 0 0] 25 := bx572
     have hS569 := hS558.gr' g571 (by rw [hCs27]; exact ⟨(by simp only [add_block]; omega), (by simp only [add_block]; omega), trivial⟩)
     have szw570 := g571.size
     have e575 := e560.gr g571 (fun k h => by injection h; omega)
     clear e560
     have r576 := r561.gr g571 (fun k h => by injection h; omega)
     clear r561
     have bx577 := bx562.gr g571 (fun h => by injection h; omega)
     clear bx562
     have bx578 := bx563.gr g571 (fun h => by injection h; omega)
     clear bx563
     have ow579 := ow564.gr g571 (fun k hk => hk.1)
     clear ow564
     have ow580 := ow559.gr g571 (fun k hk e => by have := Sx_base hk; injection e; omega)
     clear ow559
     clear bx565 g571
     refine ⟨hS569, ?_⟩
     refine AtH.done (by kernel_rfl) ?_
     clear hS569
     refine t_n ?_
     have f581 := f573.sub (r := [(3, .pointer (some ⟨w40.heap.size, 0, none⟩)), (2, .pointer (some ⟨w1.heap.size, 0, none⟩)), (1, .pointer (some ⟨w.heap.size, 0, none⟩))]) ⟨rfl, rfl, rfl, trivial⟩
     exact ⟨w40.heap.size, A531, A550, c532, c551, f581, e575, r576, bx577, bx578, (ow579.imp (fun g _ hs => ⟨hs.2.1, hs.1, (by have := Sx_base hs; show w10.heap.size ≤ g; omega)⟩)), (ow580.imp (fun g _ hs => ⟨hs.1, (fun e => by have := Sx_base hs; injection e; omega), (by have := Sx_base hs; show w10.heap.size ≤ g; omega)⟩)), bx572, (by omega), (by omega)⟩
  ·refine OneH.seq f37 [[]] [(9, .slice (some ⟨w30.heap.size, 0, none⟩) 0 0)] (w30.alloc (.cells #[] 3 (0, 0))) [] #[false, true, true, false, true, true, true, false, false, false, false] (by kernel_rfl) (by kernel_rfl) (by kernel_rfl) trivial (fun act586 w583 hw584 f585 => ?_)
   clear f37
   have g587 := gr_alloc hw584
   have hS590 := hS32.gr g587
   refine ⟨hS590, ?_⟩
   have szw583 := g587.size
   have e591 := e33.gr g587 no_row
   clear e33
   have r592 := r34.gr g587 (fun _ h => by cases h)
   clear r34
   have bx593 := bx35.gr g587 (by simp)
   clear bx35
   have bx594 := bx36.gr g587 (by simp)
   clear bx36
   have bx589 : Bx w583 (w30.heap.size) [] 3 := Bx.new hw584
   have := bx589.lt
   clear g587 hw584
   refine AtH.all [0, 9] 5 (by kernel_rfl) (by simp) ⟨?_, ?_, trivial⟩
   ·refine OneH.seq f585 [[]] [(5, .slice (some ⟨w583.heap.size, 0, none⟩) 0 0)] (w583.alloc (.cells #[] 3 (0, 0))) [] #[true, true, true, false, true, true, true, false, false, false, false] (by kernel_rfl) (by kernel_rfl) (by kernel_rfl) trivial (fun act599 w596 hw597 f598 => ?_)
    clear f585
    have g600 := gr_alloc hw597
    have hS603 := hS590.gr g600
    refine ⟨hS603, ?_⟩
    have szw596 := g600.size
    have e604 := e591.gr g600 no_row
    clear e591
    have r605 := r592.gr g600 (fun _ h => by cases h)
    clear r592
    have bx606 := bx593.gr g600 (by simp)
    clear bx593
    have bx607 := bx594.gr g600 (by simp)
    clear bx594
    have bx608 := bx589.gr g600 (by simp)
    clear bx589
    have bx602 : Bx w596 (w583.heap.size) [] 3 := Bx.new hw597
    have := bx602.lt
    clear g600 hw597
    refine AtH.all [3, 9] 4 (by kernel_rfl) (by simp) ⟨?_, ?_, trivial⟩
    ·have ow610 : OwnR w596 (Sx (w583.heap.size) []) (some ⟨w583.heap.size, 0, none⟩) 0 3 ([] : List Int) := Bx.own0 bx602 (Nat.le_refl _)
     clear bx602
     have hl615 : (([] : List Int) ++ g.ow).length = (([] : List Int)).length + (g.ow : List Int).length := List.length_append
     simp only [List.length_cons, List.length_nil] at hl615
     refine OneH.act f598 #[true, true, true, true, true, true, true, false, false, false, false] (by kernel_rfl) (appendR (α := Int) (t := 22) (d := 8) (n := 0) (m := g.ow.length) (cc := cg0) (xs := []) (ys := g.ow) (bytes := 8) (by first | rfl | omega | (simp; done) | (simp; omega)) (by first | rfl | omega | (simp; done) | (simp; omega)) (by kernel_rfl) rfl (by kernel_rfl) ow610 r605.ow.srcR (by simp only [List.length_cons, List.length_nil]; omega) (by simp only [List.length_cons, List.length_nil]; omega)) ?_
     rintro d_ v_ w614 ⟨rfl, A611, c612, ha613⟩
     obtain rfl := ha613.val
     have g616 := ha613.gr
     have hS619 := hS603.grO g616 (by rw [hCs27]; exact ⟨(fun e => by have := ow610.ge _ e; simp only [add_block] at this; omega), (fun e => by have := ow610.ge _ e; simp only [add_block] at this; omega), trivial⟩)
     refine ⟨_, rfl, fun act618 f617 => ⟨hS619, ?_⟩⟩
     clear f598
     have ow620 := ha613.own (Sx (w583.heap.size) []) (fun g _ hs => hs) (show w583.heap.size ≤ w596.heap.size by omega)
     have szw614 := g616.size
     have e621 := e604.gr g616 (fun k hk => by have := ow610.ge k hk; omega)
     clear e604
     have r622 := r605.gr g616 (fun k hk => by have := ow610.ge k hk; omega)
     clear r605
     have bx623 := bx606.gr g616 (fun e => by have := ow610.ge _ e; omega)
     clear bx606
     have bx624 := bx607.gr g616 (fun e => by have := ow610.ge _ e; omega)
     clear bx607
     have bx625 := bx608.gr g616 (fun e => by have := ow610.ge _ e; omega)
     clear bx608
     clear ow610 g616 ha613
     replace ow620 : OwnR w614 (Sx (w583.heap.size) []) A611 c612 3 (g.ow : List Int) := ow620
     refine AtH.all [7, 9] 3 (by kernel_rfl) (by simp) ⟨?_, ?_, trivial⟩
     ·have ow629 : OwnR w614 (Sx (w583.heap.size) [some (w30.heap.size)]) A611 c612 3 (g.ow : List Int) := ow620.imp (fun g _ hs => ⟨(fun e => by have := Sx_base hs; injection e; omega), hs⟩)
      clear ow620
      have ow628 : OwnR w614 (Sx (w30.heap.size) [obk (A611)]) (some ⟨w30.heap.size, 0, none⟩) 0 3 ([] : List Int) := Bx.own0 bx625 ⟨(ow629.neb (fun g hs => hs.1)), (Nat.le_refl _)⟩
      clear bx625
      have hl634 : (([] : List Int) ++ g.pr).length = (([] : List Int)).length + (g.pr : List Int).length := List.length_append
      simp only [List.length_cons, List.length_nil] at hl634
      refine OneH.act f617 #[true, true, true, true, true, true, true, true, false, false, false] (by kernel_rfl) (appendR (α := Int) (t := 22) (d := 12) (n := 0) (m := g.pr.length) (cc := cg1) (xs := []) (ys := g.pr) (bytes := 8) (by first | rfl | omega | (simp; done) | (simp; omega)) (by first | rfl | omega | (simp; done) | (simp; omega)) (by kernel_rfl) rfl (by kernel_rfl) ow628 r622.pr.srcR (by simp only [List.length_cons, List.length_nil]; omega) (by simp only [List.length_cons, List.length_nil]; omega)) ?_
      rintro d_ v_ w633 ⟨rfl, A630, c631, ha632⟩
      obtain rfl := ha632.val
      have g635 := ha632.gr
      have hS638 := hS619.grO g635 (by rw [hCs27]; exact ⟨(fun e => by have := ow628.ge _ e; simp only [add_block] at this; omega), (fun e => by have := ow628.ge _ e; simp only [add_block] at this; omega), trivial⟩)
      refine ⟨_, rfl, fun act637 f636 => ⟨hS638, ?_⟩⟩
      clear f617
      have ow639 := ha632.own (Sx (w30.heap.size) [obk (A611)]) (fun g _ hs => ⟨hs.1, hs.2⟩) ⟨ow629.ne_new, (show w30.heap.size ≤ w614.heap.size by omega)⟩
      have szw633 := g635.size
      have e640 := e621.gr g635 (fun k hk => by have := ow628.ge k hk; omega)
      clear e621
      have r641 := r622.gr g635 (fun k hk => by have := ow628.ge k hk; omega)
      clear r622
      have bx642 := bx623.gr g635 (fun e => by have := ow628.ge _ e; omega)
      clear bx623
      have bx643 := bx624.gr g635 (fun e => by have := ow628.ge _ e; omega)
      clear bx624
      have ow644 : OwnR w633 (Sx (w583.heap.size) [obk (A630)]) A611 c612 3 (g.ow : List Int) := ow629.grA g635 (fun k hk => hk.1) (fun k hk hs => ⟨own_repl ha632.at_ hs.1 hk, hs.2⟩)
      clear ow629
      clear ow628 g635 ha632
      replace ow639 : OwnR w633 (Sx (w30.heap.size) [obk (A611)]) A630 c631 3 (g.pr : List Int) := ow639
      refine AtH.rd (by kernel_rfl) (fun d v c a w h => by cases d <;> exact h) hS638 [8] [[]] [(13, .agg #[.slice A611 ((([] : List Int) ++ g.ow).length) c612, .slice A630 ((([] : List Int) ++ g.pr).length) c631, .slice none 0 0])] #[true, true, true, true, true, true, true, true, true, false, false] [] 2 f636 (by kernel_rfl) trivial (fun act647 f646 => ?_)
      clear f636
      refine AtH.all [9] 1 (by kernel_rfl) (by simp) ⟨?_, trivial⟩
      refine OneH.seq f646 [[]] [(3, .pointer (some ⟨w633.heap.size, 0, none⟩))] (w633.alloc (.cells #[.slice none 0 0, .slice none 0 0, .slice none 0 0] 25 (0, 0))) [] #[true, true, true, true, true, true, true, true, true, true, false] (by kernel_rfl) (by kernel_rfl) (by kernel_rfl) trivial (fun act652 w649 hw650 f651 => ?_)
      clear f646
      have g653 := gr_alloc hw650
      have hS648 := hS638.gr g653
      have szw649 := g653.size
      have e655 := e640.gr g653 no_row
      clear e640
      have r656 := r641.gr g653 (fun _ h => by cases h)
      clear r641
      have bx657 := bx642.gr g653 (by simp)
      clear bx642
      have bx658 := bx643.gr g653 (by simp)
      clear bx643
      have ow659 : OwnR w649 (Sx (w30.heap.size) [some (w633.heap.size), obk (A611)]) A630 c631 3 (g.pr : List Int) := ow639.grA g653 (fun _ _ h => by cases h) (fun k hk hs => ⟨(fun e => by injection e; omega), hs.1, hs.2⟩)
      clear ow639
      have ow660 : OwnR w649 (Sx (w583.heap.size) [some (w633.heap.size), obk (A630)]) A611 c612 3 (g.ow : List Int) := ow644.grA g653 (fun _ _ h => by cases h) (fun k hk hs => ⟨(fun e => by injection e; omega), hs.1, hs.2⟩)
      clear ow644
      have bx661 : Bx w649 (w633.heap.size) [.slice none 0 0, .slice none 0 0, .slice none 0 0] 25 := Bx.new hw650
      have := bx661.lt
      clear g653 hw650
      refine ⟨hS648, ?_⟩
      refine AtH.all [10] 0 (by kernel_rfl) (by simp) ⟨?_, trivial⟩
      refine OneH.store f651 (t := 25) (b := w633.heap.size) (off := 0) (v := .agg #[.slice A611 ((([] : List Int) ++ g.ow).length) c612, .slice A630 ((([] : List Int) ++ g.pr).length) c631, .slice none 0 0]) #[true, true, true, true, true, true, true, true, true, true, true] (by kernel_rfl) (by kernel_rfl) bx661 (by kernel_rfl) (fun act667 w663 g664 bx665 f666 => ?_)
      clear f651
      replace bx665 : Bx w663 (w633.heap.size) [.slice A611 ((([] : List Int) ++ g.ow).length) c612, .slice A630 ((([] : List Int) ++ g.pr).length) c631, .slice none 0 0] 25 := bx665
      have hS662 := hS648.gr' g664 (by rw [hCs27]; exact ⟨(by simp only [add_block]; omega), (by simp only [add_block]; omega), trivial⟩)
      have szw663 := g664.size
      have e668 := e655.gr g664 (fun k h => by injection h; omega)
      clear e655
      have r669 := r656.gr g664 (fun k h => by injection h; omega)
      clear r656
      have bx670 := bx657.gr g664 (fun h => by injection h; omega)
      clear bx657
      have bx671 := bx658.gr g664 (fun h => by injection h; omega)
      clear bx658
      have ow672 := ow659.gr g664 (fun k hk => hk.1)
      clear ow659
      have ow673 := ow660.gr g664 (fun k hk => hk.1)
      clear ow660
      clear bx661 g664
      refine ⟨hS662, ?_⟩
      refine AtH.done (by kernel_rfl) ?_
      clear hS662
      refine t_n ?_
      have f674 := f666.sub (r := [(3, .pointer (some ⟨w633.heap.size, 0, none⟩)), (2, .pointer (some ⟨w1.heap.size, 0, none⟩)), (1, .pointer (some ⟨w.heap.size, 0, none⟩))]) ⟨rfl, rfl, rfl, trivial⟩
      exact ⟨w633.heap.size, A611, A630, c612, c631, f674, e668, r669, bx670, bx671, (ow673.imp (fun g _ hs => ⟨hs.2.1, hs.1, (by have := Sx_base hs; show w10.heap.size ≤ g; omega)⟩)), (ow672.imp (fun g _ hs => ⟨hs.2.1, hs.1, (by have := Sx_base hs; show w10.heap.size ≤ g; omega)⟩)), bx665, (by omega), (by omega)⟩
     ·refine OneH.seq f617 [[]] [(3, .pointer (some ⟨w614.heap.size, 0, none⟩))] (w614.alloc (.cells #[.slice none 0 0, .slice none 0 0, .slice none 0 0] 25 (0, 0))) [] #[true, true, true, true, true, true, true, false, false, true, false] (by kernel_rfl) (by kernel_rfl) (by kernel_rfl) trivial (fun act679 w676 hw677 f678 => ?_)
      clear f617
      have g680 := gr_alloc hw677
      have hS675 := hS619.gr g680
      have szw676 := g680.size
      have e682 := e621.gr g680 no_row
      clear e621
      have r683 := r622.gr g680 (fun _ h => by cases h)
      clear r622
      have bx684 := bx623.gr g680 (by simp)
      clear bx623
      have bx685 := bx624.gr g680 (by simp)
      clear bx624
      have bx686 := bx625.gr g680 (by simp)
      clear bx625
      have ow687 : OwnR w676 (Sx (w583.heap.size) [some (w614.heap.size)]) A611 c612 3 (g.ow : List Int) := ow620.grA g680 (fun _ _ h => by cases h) (fun k hk hs => ⟨(fun e => by injection e; omega), hs⟩)
      clear ow620
      have bx688 : Bx w676 (w614.heap.size) [.slice none 0 0, .slice none 0 0, .slice none 0 0] 25 := Bx.new hw677
      have := bx688.lt
      clear g680 hw677
      refine ⟨hS675, ?_⟩
      refine AtH.all [7] 2 (by kernel_rfl) (by simp) ⟨?_, trivial⟩
      have ow691 : OwnR w676 (Sx (w583.heap.size) [some (w30.heap.size), some (w614.heap.size)]) A611 c612 3 (g.ow : List Int) := ow687.imp (fun g _ hs => ⟨(fun e => by have := Sx_base hs; injection e; omega), hs⟩)
      clear ow687
      have ow690 : OwnR w676 (Sx (w30.heap.size) [obk (A611), some (w614.heap.size)]) (some ⟨w30.heap.size, 0, none⟩) 0 3 ([] : List Int) := Bx.own0 bx686 ⟨(ow691.neb (fun g hs => hs.1)), (fun e => by injection e; omega), (Nat.le_refl _)⟩
      clear bx686
      have hl696 : (([] : List Int) ++ g.pr).length = (([] : List Int)).length + (g.pr : List Int).length := List.length_append
      simp only [List.length_cons, List.length_nil] at hl696
      refine OneH.act f678 #[true, true, true, true, true, true, true, true, false, true, false] (by kernel_rfl) (appendR (α := Int) (t := 22) (d := 12) (n := 0) (m := g.pr.length) (cc := cg1) (xs := []) (ys := g.pr) (bytes := 8) (by first | rfl | omega | (simp; done) | (simp; omega)) (by first | rfl | omega | (simp; done) | (simp; omega)) (by kernel_rfl) rfl (by kernel_rfl) ow690 r683.pr.srcR (by simp only [List.length_cons, List.length_nil]; omega) (by simp only [List.length_cons, List.length_nil]; omega)) ?_
      rintro d_ v_ w695 ⟨rfl, A692, c693, ha694⟩
      obtain rfl := ha694.val
      have g697 := ha694.gr
      have hS700 := hS675.grO g697 (by rw [hCs27]; exact ⟨(fun e => by have := ow690.ge _ e; simp only [add_block] at this; omega), (fun e => by have := ow690.ge _ e; simp only [add_block] at this; omega), trivial⟩)
      refine ⟨_, rfl, fun act699 f698 => ⟨hS700, ?_⟩⟩
      clear f678
      have ow701 := ha694.own (Sx (w30.heap.size) [obk (A611), some (w614.heap.size)]) (fun g _ hs => ⟨hs.1, hs.2.1, hs.2.2⟩) ⟨ow691.ne_new, (fun e => by injection e; omega), (show w30.heap.size ≤ w676.heap.size by omega)⟩
      have szw695 := g697.size
      have e702 := e682.gr g697 (fun k hk => by have := ow690.ge k hk; omega)
      clear e682
      have r703 := r683.gr g697 (fun k hk => by have := ow690.ge k hk; omega)
      clear r683
      have bx704 := bx684.gr g697 (fun e => by have := ow690.ge _ e; omega)
      clear bx684
      have bx705 := bx685.gr g697 (fun e => by have := ow690.ge _ e; omega)
      clear bx685
      have ow706 : OwnR w695 (Sx (w583.heap.size) [obk (A692), some (w614.heap.size)]) A611 c612 3 (g.ow : List Int) := ow691.grA g697 (fun k hk => hk.1) (fun k hk hs => ⟨own_repl ha694.at_ hs.1 hk, hs.2.1, hs.2.2⟩)
      clear ow691
      have bx707 := bx688.gr g697 (ow690.neb (fun g hs => hs.2.1))
      clear bx688
      clear ow690 g697 ha694
      replace ow701 : OwnR w695 (Sx (w30.heap.size) [obk (A611), some (w614.heap.size)]) A692 c693 3 (g.pr : List Int) := ow701
      refine AtH.rd (by kernel_rfl) (fun d v c a w h => by cases d <;> exact h) hS700 [8] [[]] [(13, .agg #[.slice A611 ((([] : List Int) ++ g.ow).length) c612, .slice A692 ((([] : List Int) ++ g.pr).length) c693, .slice none 0 0])] #[true, true, true, true, true, true, true, true, true, true, false] [] 1 f698 (by kernel_rfl) trivial (fun act710 f709 => ?_)
      clear f698
      refine AtH.all [10] 0 (by kernel_rfl) (by simp) ⟨?_, trivial⟩
      refine OneH.store f709 (t := 25) (b := w614.heap.size) (off := 0) (v := .agg #[.slice A611 ((([] : List Int) ++ g.ow).length) c612, .slice A692 ((([] : List Int) ++ g.pr).length) c693, .slice none 0 0]) #[true, true, true, true, true, true, true, true, true, true, true] (by kernel_rfl) (by kernel_rfl) bx707 (by kernel_rfl) (fun act716 w712 g713 bx714 f715 => ?_)
      clear f709
      replace bx714 : Bx w712 (w614.heap.size) [.slice A611 ((([] : List Int) ++ g.ow).length) c612, .slice A692 ((([] : List Int) ++ g.pr).length) c693, .slice none 0 0] 25 := bx714
      have hS711 := hS700.gr' g713 (by rw [hCs27]; exact ⟨(by simp only [add_block]; omega), (by simp only [add_block]; omega), trivial⟩)
      have szw712 := g713.size
      have e717 := e702.gr g713 (fun k h => by injection h; omega)
      clear e702
      have r718 := r703.gr g713 (fun k h => by injection h; omega)
      clear r703
      have bx719 := bx704.gr g713 (fun h => by injection h; omega)
      clear bx704
      have bx720 := bx705.gr g713 (fun h => by injection h; omega)
      clear bx705
      have ow721 := ow701.gr g713 (fun k hk => hk.2.1)
      clear ow701
      have ow722 := ow706.gr g713 (fun k hk => hk.2.1)
      clear ow706
      clear bx707 g713
      refine ⟨hS711, ?_⟩
      refine AtH.done (by kernel_rfl) ?_
      clear hS711
      refine t_n ?_
      have f723 := f715.sub (r := [(3, .pointer (some ⟨w614.heap.size, 0, none⟩)), (2, .pointer (some ⟨w1.heap.size, 0, none⟩)), (1, .pointer (some ⟨w.heap.size, 0, none⟩))]) ⟨rfl, rfl, rfl, trivial⟩
      exact ⟨w614.heap.size, A611, A692, c612, c693, f723, e717, r718, bx719, bx720, (ow722.imp (fun g _ hs => ⟨hs.1, hs.2.1, (by have := Sx_base hs; show w10.heap.size ≤ g; omega)⟩)), (ow721.imp (fun g _ hs => ⟨hs.1, hs.2.1, (by have := Sx_base hs; show w10.heap.size ≤ g; omega)⟩)), bx714, (by omega), (by omega)⟩
    ·refine OneH.seq f598 [[]] [(3, .pointer (some ⟨w596.heap.size, 0, none⟩))] (w596.alloc (.cells #[.slice none 0 0, .slice none 0 0, .slice none 0 0] 25 (0, 0))) [] #[true, true, true, false, true, true, true, false, false, true, false] (by kernel_rfl) (by kernel_rfl) (by kernel_rfl) trivial (fun act728 w725 hw726 f727 => ?_)
     clear f598
     have g729 := gr_alloc hw726
     have hS724 := hS603.gr g729
     have szw725 := g729.size
     have e731 := e604.gr g729 no_row
     clear e604
     have r732 := r605.gr g729 (fun _ h => by cases h)
     clear r605
     have bx733 := bx606.gr g729 (by simp)
     clear bx606
     have bx734 := bx607.gr g729 (by simp)
     clear bx607
     have bx735 := bx608.gr g729 (by simp)
     clear bx608
     have bx736 := bx602.gr g729 (by simp)
     clear bx602
     have bx737 : Bx w725 (w596.heap.size) [.slice none 0 0, .slice none 0 0, .slice none 0 0] 25 := Bx.new hw726
     have := bx737.lt
     clear g729 hw726
     refine ⟨hS724, ?_⟩
     refine AtH.all [3] 3 (by kernel_rfl) (by simp) ⟨?_, trivial⟩
     have ow739 : OwnR w725 (Sx (w583.heap.size) [some (w596.heap.size)]) (some ⟨w583.heap.size, 0, none⟩) 0 3 ([] : List Int) := Bx.own0 bx736 ⟨(fun e => by injection e; omega), (Nat.le_refl _)⟩
     clear bx736
     have hl744 : (([] : List Int) ++ g.ow).length = (([] : List Int)).length + (g.ow : List Int).length := List.length_append
     simp only [List.length_cons, List.length_nil] at hl744
     refine OneH.act f727 #[true, true, true, true, true, true, true, false, false, true, false] (by kernel_rfl) (appendR (α := Int) (t := 22) (d := 8) (n := 0) (m := g.ow.length) (cc := cg0) (xs := []) (ys := g.ow) (bytes := 8) (by first | rfl | omega | (simp; done) | (simp; omega)) (by first | rfl | omega | (simp; done) | (simp; omega)) (by kernel_rfl) rfl (by kernel_rfl) ow739 r732.ow.srcR (by simp only [List.length_cons, List.length_nil]; omega) (by simp only [List.length_cons, List.length_nil]; omega)) ?_
     rintro d_ v_ w743 ⟨rfl, A740, c741, ha742⟩
     obtain rfl := ha742.val
     have g745 := ha742.gr
     have hS748 := hS724.grO g745 (by rw [hCs27]; exact ⟨(fun e => by have := ow739.ge _ e; simp only [add_block] at this; omega), (fun e => by have := ow739.ge _ e; simp only [add_block] at this; omega), trivial⟩)
     refine ⟨_, rfl, fun act747 f746 => ⟨hS748, ?_⟩⟩
     clear f727
     have ow749 := ha742.own (Sx (w583.heap.size) [some (w596.heap.size)]) (fun g _ hs => ⟨hs.1, hs.2⟩) ⟨(fun e => by injection e; omega), (show w583.heap.size ≤ w725.heap.size by omega)⟩
     have szw743 := g745.size
     have e750 := e731.gr g745 (fun k hk => by have := ow739.ge k hk; omega)
     clear e731
     have r751 := r732.gr g745 (fun k hk => by have := ow739.ge k hk; omega)
     clear r732
     have bx752 := bx733.gr g745 (fun e => by have := ow739.ge _ e; omega)
     clear bx733
     have bx753 := bx734.gr g745 (fun e => by have := ow739.ge _ e; omega)
     clear bx734
     have bx754 := bx735.gr g745 (fun e => by have := ow739.ge _ e; omega)
     clear bx735
     have bx755 := bx737.gr g745 (ow739.neb (fun g hs => hs.1))
     clear bx737
     clear ow739 g745 ha742
     replace ow749 : OwnR w743 (Sx (w583.heap.size) [some (w596.heap.size)]) A740 c741 3 (g.ow : List Int) := ow749
     refine AtH.all [7] 2 (by kernel_rfl) (by simp) ⟨?_, trivial⟩
     have ow759 : OwnR w743 (Sx (w583.heap.size) [some (w30.heap.size), some (w596.heap.size)]) A740 c741 3 (g.ow : List Int) := ow749.imp (fun g _ hs => ⟨(fun e => by have := Sx_base hs; injection e; omega), hs⟩)
     clear ow749
     have ow758 : OwnR w743 (Sx (w30.heap.size) [obk (A740), some (w596.heap.size)]) (some ⟨w30.heap.size, 0, none⟩) 0 3 ([] : List Int) := Bx.own0 bx754 ⟨(ow759.neb (fun g hs => hs.1)), (fun e => by injection e; omega), (Nat.le_refl _)⟩
     clear bx754
     have hl764 : (([] : List Int) ++ g.pr).length = (([] : List Int)).length + (g.pr : List Int).length := List.length_append
     simp only [List.length_cons, List.length_nil] at hl764
     refine OneH.act f746 #[true, true, true, true, true, true, true, true, false, true, false] (by kernel_rfl) (appendR (α := Int) (t := 22) (d := 12) (n := 0) (m := g.pr.length) (cc := cg1) (xs := []) (ys := g.pr) (bytes := 8) (by first | rfl | omega | (simp; done) | (simp; omega)) (by first | rfl | omega | (simp; done) | (simp; omega)) (by kernel_rfl) rfl (by kernel_rfl) ow758 r751.pr.srcR (by simp only [List.length_cons, List.length_nil]; omega) (by simp only [List.length_cons, List.length_nil]; omega)) ?_
     rintro d_ v_ w763 ⟨rfl, A760, c761, ha762⟩
     obtain rfl := ha762.val
     have g765 := ha762.gr
     have hS768 := hS748.grO g765 (by rw [hCs27]; exact ⟨(fun e => by have := ow758.ge _ e; simp only [add_block] at this; omega), (fun e => by have := ow758.ge _ e; simp only [add_block] at this; omega), trivial⟩)
     refine ⟨_, rfl, fun act767 f766 => ⟨hS768, ?_⟩⟩
     clear f746
     have ow769 := ha762.own (Sx (w30.heap.size) [obk (A740), some (w596.heap.size)]) (fun g _ hs => ⟨hs.1, hs.2.1, hs.2.2⟩) ⟨ow759.ne_new, (fun e => by injection e; omega), (show w30.heap.size ≤ w743.heap.size by omega)⟩
     have szw763 := g765.size
     have e770 := e750.gr g765 (fun k hk => by have := ow758.ge k hk; omega)
     clear e750
     have r771 := r751.gr g765 (fun k hk => by have := ow758.ge k hk; omega)
     clear r751
     have bx772 := bx752.gr g765 (fun e => by have := ow758.ge _ e; omega)
     clear bx752
     have bx773 := bx753.gr g765 (fun e => by have := ow758.ge _ e; omega)
     clear bx753
     have ow774 : OwnR w763 (Sx (w583.heap.size) [obk (A760), some (w596.heap.size)]) A740 c741 3 (g.ow : List Int) := ow759.grA g765 (fun k hk => hk.1) (fun k hk hs => ⟨own_repl ha762.at_ hs.1 hk, hs.2.1, hs.2.2⟩)
     clear ow759
     have bx775 := bx755.gr g765 (ow758.neb (fun g hs => hs.2.1))
     clear bx755
     clear ow758 g765 ha762
     replace ow769 : OwnR w763 (Sx (w30.heap.size) [obk (A740), some (w596.heap.size)]) A760 c761 3 (g.pr : List Int) := ow769
     refine AtH.rd (by kernel_rfl) (fun d v c a w h => by cases d <;> exact h) hS768 [8] [[]] [(13, .agg #[.slice A740 ((([] : List Int) ++ g.ow).length) c741, .slice A760 ((([] : List Int) ++ g.pr).length) c761, .slice none 0 0])] #[true, true, true, true, true, true, true, true, true, true, false] [] 1 f766 (by kernel_rfl) trivial (fun act778 f777 => ?_)
     clear f766
     refine AtH.all [10] 0 (by kernel_rfl) (by simp) ⟨?_, trivial⟩
     refine OneH.store f777 (t := 25) (b := w596.heap.size) (off := 0) (v := .agg #[.slice A740 ((([] : List Int) ++ g.ow).length) c741, .slice A760 ((([] : List Int) ++ g.pr).length) c761, .slice none 0 0]) #[true, true, true, true, true, true, true, true, true, true, true] (by kernel_rfl) (by kernel_rfl) bx775 (by kernel_rfl) (fun act784 w780 g781 bx782 f783 => ?_)
     clear f777
     replace bx782 : Bx w780 (w596.heap.size) [.slice A740 ((([] : List Int) ++ g.ow).length) c741, .slice A760 ((([] : List Int) ++ g.pr).length) c761, .slice none 0 0] 25 := bx782
     have hS779 := hS768.gr' g781 (by rw [hCs27]; exact ⟨(by simp only [add_block]; omega), (by simp only [add_block]; omega), trivial⟩)
     have szw780 := g781.size
     have e785 := e770.gr g781 (fun k h => by injection h; omega)
     clear e770
     have r786 := r771.gr g781 (fun k h => by injection h; omega)
     clear r771
     have bx787 := bx772.gr g781 (fun h => by injection h; omega)
     clear bx772
     have bx788 := bx773.gr g781 (fun h => by injection h; omega)
     clear bx773
     have ow789 := ow769.gr g781 (fun k hk => hk.2.1)
     clear ow769
     have ow790 := ow774.gr g781 (fun k hk => hk.2.1)
     clear ow774
     clear bx775 g781
     refine ⟨hS779, ?_⟩
     refine AtH.done (by kernel_rfl) ?_
     clear hS779
     refine t_n ?_
     have f791 := f783.sub (r := [(3, .pointer (some ⟨w596.heap.size, 0, none⟩)), (2, .pointer (some ⟨w1.heap.size, 0, none⟩)), (1, .pointer (some ⟨w.heap.size, 0, none⟩))]) ⟨rfl, rfl, rfl, trivial⟩
     exact ⟨w596.heap.size, A740, A760, c741, c761, f791, e785, r786, bx787, bx788, (ow790.imp (fun g _ hs => ⟨hs.1, hs.2.1, (by have := Sx_base hs; show w10.heap.size ≤ g; omega)⟩)), (ow789.imp (fun g _ hs => ⟨hs.1, hs.2.1, (by have := Sx_base hs; show w10.heap.size ≤ g; omega)⟩)), bx782, (by omega), (by omega)⟩
   ·refine OneH.seq f585 [[]] [(3, .pointer (some ⟨w583.heap.size, 0, none⟩))] (w583.alloc (.cells #[.slice none 0 0, .slice none 0 0, .slice none 0 0] 25 (0, 0))) [] #[false, true, true, false, true, true, true, false, false, true, false] (by kernel_rfl) (by kernel_rfl) (by kernel_rfl) trivial (fun act796 w793 hw794 f795 => ?_)
    clear f585
    have g797 := gr_alloc hw794
    have hS792 := hS590.gr g797
    have szw793 := g797.size
    have e799 := e591.gr g797 no_row
    clear e591
    have r800 := r592.gr g797 (fun _ h => by cases h)
    clear r592
    have bx801 := bx593.gr g797 (by simp)
    clear bx593
    have bx802 := bx594.gr g797 (by simp)
    clear bx594
    have bx803 := bx589.gr g797 (by simp)
    clear bx589
    have bx804 : Bx w793 (w583.heap.size) [.slice none 0 0, .slice none 0 0, .slice none 0 0] 25 := Bx.new hw794
    have := bx804.lt
    clear g797 hw794
    refine ⟨hS792, ?_⟩
    refine AtH.all [0] 4 (by kernel_rfl) (by simp) ⟨?_, trivial⟩
    refine OneH.seq f795 [[]] [(5, .slice (some ⟨w793.heap.size, 0, none⟩) 0 0)] (w793.alloc (.cells #[] 3 (0, 0))) [] #[true, true, true, false, true, true, true, false, false, true, false] (by kernel_rfl) (by kernel_rfl) (by kernel_rfl) trivial (fun act809 w806 hw807 f808 => ?_)
    clear f795
    have g810 := gr_alloc hw807
    have hS813 := hS792.gr g810
    refine ⟨hS813, ?_⟩
    have szw806 := g810.size
    have e814 := e799.gr g810 no_row
    clear e799
    have r815 := r800.gr g810 (fun _ h => by cases h)
    clear r800
    have bx816 := bx801.gr g810 (by simp)
    clear bx801
    have bx817 := bx802.gr g810 (by simp)
    clear bx802
    have bx818 := bx803.gr g810 (by simp)
    clear bx803
    have bx819 := bx804.gr g810 (by simp)
    clear bx804
    have bx812 : Bx w806 (w793.heap.size) [] 3 := Bx.new hw807
    have := bx812.lt
    clear g810 hw807
    refine AtH.all [3] 3 (by kernel_rfl) (by simp) ⟨?_, trivial⟩
    have ow821 : OwnR w806 (Sx (w793.heap.size) []) (some ⟨w793.heap.size, 0, none⟩) 0 3 ([] : List Int) := Bx.own0 bx812 (Nat.le_refl _)
    clear bx812
    have hl826 : (([] : List Int) ++ g.ow).length = (([] : List Int)).length + (g.ow : List Int).length := List.length_append
    simp only [List.length_cons, List.length_nil] at hl826
    refine OneH.act f808 #[true, true, true, true, true, true, true, false, false, true, false] (by kernel_rfl) (appendR (α := Int) (t := 22) (d := 8) (n := 0) (m := g.ow.length) (cc := cg0) (xs := []) (ys := g.ow) (bytes := 8) (by first | rfl | omega | (simp; done) | (simp; omega)) (by first | rfl | omega | (simp; done) | (simp; omega)) (by kernel_rfl) rfl (by kernel_rfl) ow821 r815.ow.srcR (by simp only [List.length_cons, List.length_nil]; omega) (by simp only [List.length_cons, List.length_nil]; omega)) ?_
    rintro d_ v_ w825 ⟨rfl, A822, c823, ha824⟩
    obtain rfl := ha824.val
    have g827 := ha824.gr
    have hS830 := hS813.grO g827 (by rw [hCs27]; exact ⟨(fun e => by have := ow821.ge _ e; simp only [add_block] at this; omega), (fun e => by have := ow821.ge _ e; simp only [add_block] at this; omega), trivial⟩)
    refine ⟨_, rfl, fun act829 f828 => ⟨hS830, ?_⟩⟩
    clear f808
    have ow831 := ha824.own (Sx (w793.heap.size) []) (fun g _ hs => hs) (show w793.heap.size ≤ w806.heap.size by omega)
    have szw825 := g827.size
    have e832 := e814.gr g827 (fun k hk => by have := ow821.ge k hk; omega)
    clear e814
    have r833 := r815.gr g827 (fun k hk => by have := ow821.ge k hk; omega)
    clear r815
    have bx834 := bx816.gr g827 (fun e => by have := ow821.ge _ e; omega)
    clear bx816
    have bx835 := bx817.gr g827 (fun e => by have := ow821.ge _ e; omega)
    clear bx817
    have bx836 := bx818.gr g827 (fun e => by have := ow821.ge _ e; omega)
    clear bx818
    have bx837 := bx819.gr g827 (fun e => by have := ow821.ge _ e; omega)
    clear bx819
    clear ow821 g827 ha824
    replace ow831 : OwnR w825 (Sx (w793.heap.size) []) A822 c823 3 (g.ow : List Int) := ow831
    refine AtH.all [7] 2 (by kernel_rfl) (by simp) ⟨?_, trivial⟩
    have ow841 : OwnR w825 (Sx (w793.heap.size) [some (w30.heap.size)]) A822 c823 3 (g.ow : List Int) := ow831.imp (fun g _ hs => ⟨(fun e => by have := Sx_base hs; injection e; omega), hs⟩)
    clear ow831
    have ow840 : OwnR w825 (Sx (w30.heap.size) [some (w583.heap.size), obk (A822)]) (some ⟨w30.heap.size, 0, none⟩) 0 3 ([] : List Int) := Bx.own0 bx836 ⟨(fun e => by injection e; omega), (ow841.neb (fun g hs => hs.1)), (Nat.le_refl _)⟩
    clear bx836
    have hl846 : (([] : List Int) ++ g.pr).length = (([] : List Int)).length + (g.pr : List Int).length := List.length_append
    simp only [List.length_cons, List.length_nil] at hl846
    refine OneH.act f828 #[true, true, true, true, true, true, true, true, false, true, false] (by kernel_rfl) (appendR (α := Int) (t := 22) (d := 12) (n := 0) (m := g.pr.length) (cc := cg1) (xs := []) (ys := g.pr) (bytes := 8) (by first | rfl | omega | (simp; done) | (simp; omega)) (by first | rfl | omega | (simp; done) | (simp; omega)) (by kernel_rfl) rfl (by kernel_rfl) ow840 r833.pr.srcR (by simp only [List.length_cons, List.length_nil]; omega) (by simp only [List.length_cons, List.length_nil]; omega)) ?_
    rintro d_ v_ w845 ⟨rfl, A842, c843, ha844⟩
    obtain rfl := ha844.val
    have g847 := ha844.gr
    have hS850 := hS830.grO g847 (by rw [hCs27]; exact ⟨(fun e => by have := ow840.ge _ e; simp only [add_block] at this; omega), (fun e => by have := ow840.ge _ e; simp only [add_block] at this; omega), trivial⟩)
    refine ⟨_, rfl, fun act849 f848 => ⟨hS850, ?_⟩⟩
    clear f828
    have ow851 := ha844.own (Sx (w30.heap.size) [some (w583.heap.size), obk (A822)]) (fun g _ hs => ⟨hs.1, hs.2.1, hs.2.2⟩) ⟨(fun e => by injection e; omega), ow841.ne_new, (show w30.heap.size ≤ w825.heap.size by omega)⟩
    have szw845 := g847.size
    have e852 := e832.gr g847 (fun k hk => by have := ow840.ge k hk; omega)
    clear e832
    have r853 := r833.gr g847 (fun k hk => by have := ow840.ge k hk; omega)
    clear r833
    have bx854 := bx834.gr g847 (fun e => by have := ow840.ge _ e; omega)
    clear bx834
    have bx855 := bx835.gr g847 (fun e => by have := ow840.ge _ e; omega)
    clear bx835
    have bx856 := bx837.gr g847 (ow840.neb (fun g hs => hs.1))
    clear bx837
    have ow857 : OwnR w845 (Sx (w793.heap.size) [obk (A842)]) A822 c823 3 (g.ow : List Int) := ow841.grA g847 (fun k hk => hk.1) (fun k hk hs => ⟨own_repl ha844.at_ hs.1 hk, hs.2⟩)
    clear ow841
    clear ow840 g847 ha844
    replace ow851 : OwnR w845 (Sx (w30.heap.size) [some (w583.heap.size), obk (A822)]) A842 c843 3 (g.pr : List Int) := ow851
    refine AtH.rd (by kernel_rfl) (fun d v c a w h => by cases d <;> exact h) hS850 [8] [[]] [(13, .agg #[.slice A822 ((([] : List Int) ++ g.ow).length) c823, .slice A842 ((([] : List Int) ++ g.pr).length) c843, .slice none 0 0])] #[true, true, true, true, true, true, true, true, true, true, false] [] 1 f848 (by kernel_rfl) trivial (fun act860 f859 => ?_)
    clear f848
    refine AtH.all [10] 0 (by kernel_rfl) (by simp) ⟨?_, trivial⟩
    refine OneH.store f859 (t := 25) (b := w583.heap.size) (off := 0) (v := .agg #[.slice A822 ((([] : List Int) ++ g.ow).length) c823, .slice A842 ((([] : List Int) ++ g.pr).length) c843, .slice none 0 0]) #[true, true, true, true, true, true, true, true, true, true, true] (by kernel_rfl) (by kernel_rfl) bx856 (by kernel_rfl) (fun act866 w862 g863 bx864 f865 => ?_)
    clear f859
    replace bx864 : Bx w862 (w583.heap.size) [.slice A822 ((([] : List Int) ++ g.ow).length) c823, .slice A842 ((([] : List Int) ++ g.pr).length) c843, .slice none 0 0] 25 := bx864
    have hS861 := hS850.gr' g863 (by rw [hCs27]; exact ⟨(by simp only [add_block]; omega), (by simp only [add_block]; omega), trivial⟩)
    have szw862 := g863.size
    have e867 := e852.gr g863 (fun k h => by injection h; omega)
    clear e852
    have r868 := r853.gr g863 (fun k h => by injection h; omega)
    clear r853
    have bx869 := bx854.gr g863 (fun h => by injection h; omega)
    clear bx854
    have bx870 := bx855.gr g863 (fun h => by injection h; omega)
    clear bx855
    have ow871 := ow851.gr g863 (fun k hk => hk.1)
    clear ow851
    have ow872 := ow857.gr g863 (fun k hk e => by have := Sx_base hk; injection e; omega)
    clear ow857
    clear bx856 g863
    refine ⟨hS861, ?_⟩
    refine AtH.done (by kernel_rfl) ?_
    clear hS861
    refine t_n ?_
    have f873 := f865.sub (r := [(3, .pointer (some ⟨w583.heap.size, 0, none⟩)), (2, .pointer (some ⟨w1.heap.size, 0, none⟩)), (1, .pointer (some ⟨w.heap.size, 0, none⟩))]) ⟨rfl, rfl, rfl, trivial⟩
    exact ⟨w583.heap.size, A822, A842, c823, c843, f873, e867, r868, bx869, bx870, (ow872.imp (fun g _ hs => ⟨hs.1, (fun e => by have := Sx_base hs; injection e; omega), (by have := Sx_base hs; show w10.heap.size ≤ g; omega)⟩)), (ow871.imp (fun g _ hs => ⟨hs.2.1, hs.1, (by have := Sx_base hs; show w10.heap.size ≤ g; omega)⟩)), bx864, (by omega), (by omega)⟩
  ·refine OneH.seq f37 [[]] [(3, .pointer (some ⟨w30.heap.size, 0, none⟩))] (w30.alloc (.cells #[.slice none 0 0, .slice none 0 0, .slice none 0 0] 25 (0, 0))) [] #[false, true, true, false, false, true, true, false, false, true, false] (by kernel_rfl) (by kernel_rfl) (by kernel_rfl) trivial (fun act878 w875 hw876 f877 => ?_)
   clear f37
   have g879 := gr_alloc hw876
   have hS874 := hS32.gr g879
   have szw875 := g879.size
   have e881 := e33.gr g879 no_row
   clear e33
   have r882 := r34.gr g879 (fun _ h => by cases h)
   clear r34
   have bx883 := bx35.gr g879 (by simp)
   clear bx35
   have bx884 := bx36.gr g879 (by simp)
   clear bx36
   have bx885 : Bx w875 (w30.heap.size) [.slice none 0 0, .slice none 0 0, .slice none 0 0] 25 := Bx.new hw876
   have := bx885.lt
   clear g879 hw876
   refine ⟨hS874, ?_⟩
   refine AtH.all [0, 4] 5 (by kernel_rfl) (by simp) ⟨?_, ?_, trivial⟩
   ·refine OneH.seq f877 [[]] [(5, .slice (some ⟨w875.heap.size, 0, none⟩) 0 0)] (w875.alloc (.cells #[] 3 (0, 0))) [] #[true, true, true, false, false, true, true, false, false, true, false] (by kernel_rfl) (by kernel_rfl) (by kernel_rfl) trivial (fun act890 w887 hw888 f889 => ?_)
    clear f877
    have g891 := gr_alloc hw888
    have hS894 := hS874.gr g891
    refine ⟨hS894, ?_⟩
    have szw887 := g891.size
    have e895 := e881.gr g891 no_row
    clear e881
    have r896 := r882.gr g891 (fun _ h => by cases h)
    clear r882
    have bx897 := bx883.gr g891 (by simp)
    clear bx883
    have bx898 := bx884.gr g891 (by simp)
    clear bx884
    have bx899 := bx885.gr g891 (by simp)
    clear bx885
    have bx893 : Bx w887 (w875.heap.size) [] 3 := Bx.new hw888
    have := bx893.lt
    clear g891 hw888
    refine AtH.all [3, 4] 4 (by kernel_rfl) (by simp) ⟨?_, ?_, trivial⟩
    ·have ow901 : OwnR w887 (Sx (w875.heap.size) []) (some ⟨w875.heap.size, 0, none⟩) 0 3 ([] : List Int) := Bx.own0 bx893 (Nat.le_refl _)
     clear bx893
     have hl906 : (([] : List Int) ++ g.ow).length = (([] : List Int)).length + (g.ow : List Int).length := List.length_append
     simp only [List.length_cons, List.length_nil] at hl906
     refine OneH.act f889 #[true, true, true, true, false, true, true, false, false, true, false] (by kernel_rfl) (appendR (α := Int) (t := 22) (d := 8) (n := 0) (m := g.ow.length) (cc := cg0) (xs := []) (ys := g.ow) (bytes := 8) (by first | rfl | omega | (simp; done) | (simp; omega)) (by first | rfl | omega | (simp; done) | (simp; omega)) (by kernel_rfl) rfl (by kernel_rfl) ow901 r896.ow.srcR (by simp only [List.length_cons, List.length_nil]; omega) (by simp only [List.length_cons, List.length_nil]; omega)) ?_
     rintro d_ v_ w905 ⟨rfl, A902, c903, ha904⟩
     obtain rfl := ha904.val
     have g907 := ha904.gr
     have hS910 := hS894.grO g907 (by rw [hCs27]; exact ⟨(fun e => by have := ow901.ge _ e; simp only [add_block] at this; omega), (fun e => by have := ow901.ge _ e; simp only [add_block] at this; omega), trivial⟩)
     refine ⟨_, rfl, fun act909 f908 => ⟨hS910, ?_⟩⟩
     clear f889
     have ow911 := ha904.own (Sx (w875.heap.size) []) (fun g _ hs => hs) (show w875.heap.size ≤ w887.heap.size by omega)
     have szw905 := g907.size
     have e912 := e895.gr g907 (fun k hk => by have := ow901.ge k hk; omega)
     clear e895
     have r913 := r896.gr g907 (fun k hk => by have := ow901.ge k hk; omega)
     clear r896
     have bx914 := bx897.gr g907 (fun e => by have := ow901.ge _ e; omega)
     clear bx897
     have bx915 := bx898.gr g907 (fun e => by have := ow901.ge _ e; omega)
     clear bx898
     have bx916 := bx899.gr g907 (fun e => by have := ow901.ge _ e; omega)
     clear bx899
     clear ow901 g907 ha904
     replace ow911 : OwnR w905 (Sx (w875.heap.size) []) A902 c903 3 (g.ow : List Int) := ow911
     refine AtH.all [4] 3 (by kernel_rfl) (by simp) ⟨?_, trivial⟩
     refine OneH.seq f908 [[]] [(9, .slice (some ⟨w905.heap.size, 0, none⟩) 0 0)] (w905.alloc (.cells #[] 3 (0, 0))) [] #[true, true, true, true, true, true, true, false, false, true, false] (by kernel_rfl) (by kernel_rfl) (by kernel_rfl) trivial (fun act922 w919 hw920 f921 => ?_)
     clear f908
     have g923 := gr_alloc hw920
     have hS926 := hS910.gr g923
     refine ⟨hS926, ?_⟩
     have szw919 := g923.size
     have e927 := e912.gr g923 no_row
     clear e912
     have r928 := r913.gr g923 (fun _ h => by cases h)
     clear r913
     have bx929 := bx914.gr g923 (by simp)
     clear bx914
     have bx930 := bx915.gr g923 (by simp)
     clear bx915
     have bx931 := bx916.gr g923 (by simp)
     clear bx916
     have ow932 : OwnR w919 (Sx (w875.heap.size) [some (w905.heap.size)]) A902 c903 3 (g.ow : List Int) := ow911.grA g923 (fun _ _ h => by cases h) (fun k hk hs => ⟨(fun e => by injection e; omega), hs⟩)
     clear ow911
     have bx925 : Bx w919 (w905.heap.size) [] 3 := Bx.new hw920
     have := bx925.lt
     clear g923 hw920
     refine AtH.all [7] 2 (by kernel_rfl) (by simp) ⟨?_, trivial⟩
     have ow934 : OwnR w919 (Sx (w905.heap.size) [obk (A902)]) (some ⟨w905.heap.size, 0, none⟩) 0 3 ([] : List Int) := Bx.own0 bx925 ⟨(ow932.neb (fun g hs => hs.1)), (Nat.le_refl _)⟩
     clear bx925
     have hl939 : (([] : List Int) ++ g.pr).length = (([] : List Int)).length + (g.pr : List Int).length := List.length_append
     simp only [List.length_cons, List.length_nil] at hl939
     refine OneH.act f921 #[true, true, true, true, true, true, true, true, false, true, false] (by kernel_rfl) (appendR (α := Int) (t := 22) (d := 12) (n := 0) (m := g.pr.length) (cc := cg1) (xs := []) (ys := g.pr) (bytes := 8) (by first | rfl | omega | (simp; done) | (simp; omega)) (by first | rfl | omega | (simp; done) | (simp; omega)) (by kernel_rfl) rfl (by kernel_rfl) ow934 r928.pr.srcR (by simp only [List.length_cons, List.length_nil]; omega) (by simp only [List.length_cons, List.length_nil]; omega)) ?_
     rintro d_ v_ w938 ⟨rfl, A935, c936, ha937⟩
     obtain rfl := ha937.val
     have g940 := ha937.gr
     have hS943 := hS926.grO g940 (by rw [hCs27]; exact ⟨(fun e => by have := ow934.ge _ e; simp only [add_block] at this; omega), (fun e => by have := ow934.ge _ e; simp only [add_block] at this; omega), trivial⟩)
     refine ⟨_, rfl, fun act942 f941 => ⟨hS943, ?_⟩⟩
     clear f921
     have ow944 := ha937.own (Sx (w905.heap.size) [obk (A902)]) (fun g _ hs => ⟨hs.1, hs.2⟩) ⟨ow932.ne_new, (show w905.heap.size ≤ w919.heap.size by omega)⟩
     have szw938 := g940.size
     have e945 := e927.gr g940 (fun k hk => by have := ow934.ge k hk; omega)
     clear e927
     have r946 := r928.gr g940 (fun k hk => by have := ow934.ge k hk; omega)
     clear r928
     have bx947 := bx929.gr g940 (fun e => by have := ow934.ge _ e; omega)
     clear bx929
     have bx948 := bx930.gr g940 (fun e => by have := ow934.ge _ e; omega)
     clear bx930
     have bx949 := bx931.gr g940 (fun e => by have := ow934.ge _ e; omega)
     clear bx931
     have ow950 : OwnR w938 (Sx (w875.heap.size) [obk (A935)]) A902 c903 3 (g.ow : List Int) := ow932.grA g940 (fun k hk => hk.1) (fun k hk hs => ⟨own_repl ha937.at_ hs.1 hk, hs.2⟩)
     clear ow932
     clear ow934 g940 ha937
     replace ow944 : OwnR w938 (Sx (w905.heap.size) [obk (A902)]) A935 c936 3 (g.pr : List Int) := ow944
     refine AtH.rd (by kernel_rfl) (fun d v c a w h => by cases d <;> exact h) hS943 [8] [[]] [(13, .agg #[.slice A902 ((([] : List Int) ++ g.ow).length) c903, .slice A935 ((([] : List Int) ++ g.pr).length) c936, .slice none 0 0])] #[true, true, true, true, true, true, true, true, true, true, false] [] 1 f941 (by kernel_rfl) trivial (fun act953 f952 => ?_)
     clear f941
     refine AtH.all [10] 0 (by kernel_rfl) (by simp) ⟨?_, trivial⟩
     refine OneH.store f952 (t := 25) (b := w30.heap.size) (off := 0) (v := .agg #[.slice A902 ((([] : List Int) ++ g.ow).length) c903, .slice A935 ((([] : List Int) ++ g.pr).length) c936, .slice none 0 0]) #[true, true, true, true, true, true, true, true, true, true, true] (by kernel_rfl) (by kernel_rfl) bx949 (by kernel_rfl) (fun act959 w955 g956 bx957 f958 => ?_)
     clear f952
     replace bx957 : Bx w955 (w30.heap.size) [.slice A902 ((([] : List Int) ++ g.ow).length) c903, .slice A935 ((([] : List Int) ++ g.pr).length) c936, .slice none 0 0] 25 := bx957
     have hS954 := hS943.gr' g956 (by rw [hCs27]; exact ⟨(by simp only [add_block]; omega), (by simp only [add_block]; omega), trivial⟩)
     have szw955 := g956.size
     have e960 := e945.gr g956 (fun k h => by injection h; omega)
     clear e945
     have r961 := r946.gr g956 (fun k h => by injection h; omega)
     clear r946
     have bx962 := bx947.gr g956 (fun h => by injection h; omega)
     clear bx947
     have bx963 := bx948.gr g956 (fun h => by injection h; omega)
     clear bx948
     have ow964 := ow950.gr g956 (fun k hk e => by have := Sx_base hk; injection e; omega)
     clear ow950
     have ow965 := ow944.gr g956 (fun k hk e => by have := Sx_base hk; injection e; omega)
     clear ow944
     clear bx949 g956
     refine ⟨hS954, ?_⟩
     refine AtH.done (by kernel_rfl) ?_
     clear hS954
     refine t_n ?_
     have f966 := f958.sub (r := [(3, .pointer (some ⟨w30.heap.size, 0, none⟩)), (2, .pointer (some ⟨w1.heap.size, 0, none⟩)), (1, .pointer (some ⟨w.heap.size, 0, none⟩))]) ⟨rfl, rfl, rfl, trivial⟩
     exact ⟨w30.heap.size, A902, A935, c903, c936, f966, e960, r961, bx962, bx963, (ow964.imp (fun g _ hs => ⟨hs.1, (fun e => by have := Sx_base hs; injection e; omega), (by have := Sx_base hs; show w10.heap.size ≤ g; omega)⟩)), (ow965.imp (fun g _ hs => ⟨hs.1, (fun e => by have := Sx_base hs; injection e; omega), (by have := Sx_base hs; show w10.heap.size ≤ g; omega)⟩)), bx957, (by omega), (by omega)⟩
    ·refine OneH.seq f889 [[]] [(9, .slice (some ⟨w887.heap.size, 0, none⟩) 0 0)] (w887.alloc (.cells #[] 3 (0, 0))) [] #[true, true, true, false, true, true, true, false, false, true, false] (by kernel_rfl) (by kernel_rfl) (by kernel_rfl) trivial (fun act971 w968 hw969 f970 => ?_)
     clear f889
     have g972 := gr_alloc hw969
     have hS975 := hS894.gr g972
     refine ⟨hS975, ?_⟩
     have szw968 := g972.size
     have e976 := e895.gr g972 no_row
     clear e895
     have r977 := r896.gr g972 (fun _ h => by cases h)
     clear r896
     have bx978 := bx897.gr g972 (by simp)
     clear bx897
     have bx979 := bx898.gr g972 (by simp)
     clear bx898
     have bx980 := bx899.gr g972 (by simp)
     clear bx899
     have bx981 := bx893.gr g972 (by simp)
     clear bx893
     have bx974 : Bx w968 (w887.heap.size) [] 3 := Bx.new hw969
     have := bx974.lt
     clear g972 hw969
     refine AtH.all [3] 3 (by kernel_rfl) (by simp) ⟨?_, trivial⟩
     have ow983 : OwnR w968 (Sx (w875.heap.size) [some (w887.heap.size)]) (some ⟨w875.heap.size, 0, none⟩) 0 3 ([] : List Int) := Bx.own0 bx981 ⟨(fun e => by injection e; omega), (Nat.le_refl _)⟩
     clear bx981
     have hl988 : (([] : List Int) ++ g.ow).length = (([] : List Int)).length + (g.ow : List Int).length := List.length_append
     simp only [List.length_cons, List.length_nil] at hl988
     refine OneH.act f970 #[true, true, true, true, true, true, true, false, false, true, false] (by kernel_rfl) (appendR (α := Int) (t := 22) (d := 8) (n := 0) (m := g.ow.length) (cc := cg0) (xs := []) (ys := g.ow) (bytes := 8) (by first | rfl | omega | (simp; done) | (simp; omega)) (by first | rfl | omega | (simp; done) | (simp; omega)) (by kernel_rfl) rfl (by kernel_rfl) ow983 r977.ow.srcR (by simp only [List.length_cons, List.length_nil]; omega) (by simp only [List.length_cons, List.length_nil]; omega)) ?_
     rintro d_ v_ w987 ⟨rfl, A984, c985, ha986⟩
     obtain rfl := ha986.val
     have g989 := ha986.gr
     have hS992 := hS975.grO g989 (by rw [hCs27]; exact ⟨(fun e => by have := ow983.ge _ e; simp only [add_block] at this; omega), (fun e => by have := ow983.ge _ e; simp only [add_block] at this; omega), trivial⟩)
     refine ⟨_, rfl, fun act991 f990 => ⟨hS992, ?_⟩⟩
     clear f970
     have ow993 := ha986.own (Sx (w875.heap.size) [some (w887.heap.size)]) (fun g _ hs => ⟨hs.1, hs.2⟩) ⟨(fun e => by injection e; omega), (show w875.heap.size ≤ w968.heap.size by omega)⟩
     have szw987 := g989.size
     have e994 := e976.gr g989 (fun k hk => by have := ow983.ge k hk; omega)
     clear e976
     have r995 := r977.gr g989 (fun k hk => by have := ow983.ge k hk; omega)
     clear r977
     have bx996 := bx978.gr g989 (fun e => by have := ow983.ge _ e; omega)
     clear bx978
     have bx997 := bx979.gr g989 (fun e => by have := ow983.ge _ e; omega)
     clear bx979
     have bx998 := bx980.gr g989 (fun e => by have := ow983.ge _ e; omega)
     clear bx980
     have bx999 := bx974.gr g989 (ow983.neb (fun g hs => hs.1))
     clear bx974
     clear ow983 g989 ha986
     replace ow993 : OwnR w987 (Sx (w875.heap.size) [some (w887.heap.size)]) A984 c985 3 (g.ow : List Int) := ow993
     refine AtH.all [7] 2 (by kernel_rfl) (by simp) ⟨?_, trivial⟩
     have ow1002 : OwnR w987 (Sx (w887.heap.size) [obk (A984)]) (some ⟨w887.heap.size, 0, none⟩) 0 3 ([] : List Int) := Bx.own0 bx999 ⟨(ow993.neb (fun g hs => hs.1)), (Nat.le_refl _)⟩
     clear bx999
     have hl1007 : (([] : List Int) ++ g.pr).length = (([] : List Int)).length + (g.pr : List Int).length := List.length_append
     simp only [List.length_cons, List.length_nil] at hl1007
     refine OneH.act f990 #[true, true, true, true, true, true, true, true, false, true, false] (by kernel_rfl) (appendR (α := Int) (t := 22) (d := 12) (n := 0) (m := g.pr.length) (cc := cg1) (xs := []) (ys := g.pr) (bytes := 8) (by first | rfl | omega | (simp; done) | (simp; omega)) (by first | rfl | omega | (simp; done) | (simp; omega)) (by kernel_rfl) rfl (by kernel_rfl) ow1002 r995.pr.srcR (by simp only [List.length_cons, List.length_nil]; omega) (by simp only [List.length_cons, List.length_nil]; omega)) ?_
     rintro d_ v_ w1006 ⟨rfl, A1003, c1004, ha1005⟩
     obtain rfl := ha1005.val
     have g1008 := ha1005.gr
     have hS1011 := hS992.grO g1008 (by rw [hCs27]; exact ⟨(fun e => by have := ow1002.ge _ e; simp only [add_block] at this; omega), (fun e => by have := ow1002.ge _ e; simp only [add_block] at this; omega), trivial⟩)
     refine ⟨_, rfl, fun act1010 f1009 => ⟨hS1011, ?_⟩⟩
     clear f990
     have ow1012 := ha1005.own (Sx (w887.heap.size) [obk (A984)]) (fun g _ hs => ⟨hs.1, hs.2⟩) ⟨ow993.ne_new, (show w887.heap.size ≤ w987.heap.size by omega)⟩
     have szw1006 := g1008.size
     have e1013 := e994.gr g1008 (fun k hk => by have := ow1002.ge k hk; omega)
     clear e994
     have r1014 := r995.gr g1008 (fun k hk => by have := ow1002.ge k hk; omega)
     clear r995
     have bx1015 := bx996.gr g1008 (fun e => by have := ow1002.ge _ e; omega)
     clear bx996
     have bx1016 := bx997.gr g1008 (fun e => by have := ow1002.ge _ e; omega)
     clear bx997
     have bx1017 := bx998.gr g1008 (fun e => by have := ow1002.ge _ e; omega)
     clear bx998
     have ow1018 : OwnR w1006 (Sx (w875.heap.size) [obk (A1003)]) A984 c985 3 (g.ow : List Int) := ow993.grA g1008 (fun k hk => hk.1) (fun k hk hs => ⟨own_repl ha1005.at_ hs.1 hk, hs.2⟩)
     clear ow993
     clear ow1002 g1008 ha1005
     replace ow1012 : OwnR w1006 (Sx (w887.heap.size) [obk (A984)]) A1003 c1004 3 (g.pr : List Int) := ow1012
     refine AtH.rd (by kernel_rfl) (fun d v c a w h => by cases d <;> exact h) hS1011 [8] [[]] [(13, .agg #[.slice A984 ((([] : List Int) ++ g.ow).length) c985, .slice A1003 ((([] : List Int) ++ g.pr).length) c1004, .slice none 0 0])] #[true, true, true, true, true, true, true, true, true, true, false] [] 1 f1009 (by kernel_rfl) trivial (fun act1021 f1020 => ?_)
     clear f1009
     refine AtH.all [10] 0 (by kernel_rfl) (by simp) ⟨?_, trivial⟩
     refine OneH.store f1020 (t := 25) (b := w30.heap.size) (off := 0) (v := .agg #[.slice A984 ((([] : List Int) ++ g.ow).length) c985, .slice A1003 ((([] : List Int) ++ g.pr).length) c1004, .slice none 0 0]) #[true, true, true, true, true, true, true, true, true, true, true] (by kernel_rfl) (by kernel_rfl) bx1017 (by kernel_rfl) (fun act1027 w1023 g1024 bx1025 f1026 => ?_)
     clear f1020
     replace bx1025 : Bx w1023 (w30.heap.size) [.slice A984 ((([] : List Int) ++ g.ow).length) c985, .slice A1003 ((([] : List Int) ++ g.pr).length) c1004, .slice none 0 0] 25 := bx1025
     have hS1022 := hS1011.gr' g1024 (by rw [hCs27]; exact ⟨(by simp only [add_block]; omega), (by simp only [add_block]; omega), trivial⟩)
     have szw1023 := g1024.size
     have e1028 := e1013.gr g1024 (fun k h => by injection h; omega)
     clear e1013
     have r1029 := r1014.gr g1024 (fun k h => by injection h; omega)
     clear r1014
     have bx1030 := bx1015.gr g1024 (fun h => by injection h; omega)
     clear bx1015
     have bx1031 := bx1016.gr g1024 (fun h => by injection h; omega)
     clear bx1016
     have ow1032 := ow1018.gr g1024 (fun k hk e => by have := Sx_base hk; injection e; omega)
     clear ow1018
     have ow1033 := ow1012.gr g1024 (fun k hk e => by have := Sx_base hk; injection e; omega)
     clear ow1012
     clear bx1017 g1024
     refine ⟨hS1022, ?_⟩
     refine AtH.done (by kernel_rfl) ?_
     clear hS1022
     refine t_n ?_
     have f1034 := f1026.sub (r := [(3, .pointer (some ⟨w30.heap.size, 0, none⟩)), (2, .pointer (some ⟨w1.heap.size, 0, none⟩)), (1, .pointer (some ⟨w.heap.size, 0, none⟩))]) ⟨rfl, rfl, rfl, trivial⟩
     exact ⟨w30.heap.size, A984, A1003, c985, c1004, f1034, e1028, r1029, bx1030, bx1031, (ow1032.imp (fun g _ hs => ⟨hs.1, (fun e => by have := Sx_base hs; injection e; omega), (by have := Sx_base hs; show w10.heap.size ≤ g; omega)⟩)), (ow1033.imp (fun g _ hs => ⟨hs.1, (fun e => by have := Sx_base hs; injection e; omega), (by have := Sx_base hs; show w10.heap.size ≤ g; omega)⟩)), bx1025, (by omega), (by omega)⟩
   ·refine OneH.seq f877 [[]] [(9, .slice (some ⟨w875.heap.size, 0, none⟩) 0 0)] (w875.alloc (.cells #[] 3 (0, 0))) [] #[false, true, true, false, true, true, true, false, false, true, false] (by kernel_rfl) (by kernel_rfl) (by kernel_rfl) trivial (fun act1039 w1036 hw1037 f1038 => ?_)
    clear f877
    have g1040 := gr_alloc hw1037
    have hS1043 := hS874.gr g1040
    refine ⟨hS1043, ?_⟩
    have szw1036 := g1040.size
    have e1044 := e881.gr g1040 no_row
    clear e881
    have r1045 := r882.gr g1040 (fun _ h => by cases h)
    clear r882
    have bx1046 := bx883.gr g1040 (by simp)
    clear bx883
    have bx1047 := bx884.gr g1040 (by simp)
    clear bx884
    have bx1048 := bx885.gr g1040 (by simp)
    clear bx885
    have bx1042 : Bx w1036 (w875.heap.size) [] 3 := Bx.new hw1037
    have := bx1042.lt
    clear g1040 hw1037
    refine AtH.all [0] 4 (by kernel_rfl) (by simp) ⟨?_, trivial⟩
    refine OneH.seq f1038 [[]] [(5, .slice (some ⟨w1036.heap.size, 0, none⟩) 0 0)] (w1036.alloc (.cells #[] 3 (0, 0))) [] #[true, true, true, false, true, true, true, false, false, true, false] (by kernel_rfl) (by kernel_rfl) (by kernel_rfl) trivial (fun act1053 w1050 hw1051 f1052 => ?_)
    clear f1038
    have g1054 := gr_alloc hw1051
    have hS1057 := hS1043.gr g1054
    refine ⟨hS1057, ?_⟩
    have szw1050 := g1054.size
    have e1058 := e1044.gr g1054 no_row
    clear e1044
    have r1059 := r1045.gr g1054 (fun _ h => by cases h)
    clear r1045
    have bx1060 := bx1046.gr g1054 (by simp)
    clear bx1046
    have bx1061 := bx1047.gr g1054 (by simp)
    clear bx1047
    have bx1062 := bx1048.gr g1054 (by simp)
    clear bx1048
    have bx1063 := bx1042.gr g1054 (by simp)
    clear bx1042
    have bx1056 : Bx w1050 (w1036.heap.size) [] 3 := Bx.new hw1051
    have := bx1056.lt
    clear g1054 hw1051
    refine AtH.all [3] 3 (by kernel_rfl) (by simp) ⟨?_, trivial⟩
    have ow1065 : OwnR w1050 (Sx (w1036.heap.size) []) (some ⟨w1036.heap.size, 0, none⟩) 0 3 ([] : List Int) := Bx.own0 bx1056 (Nat.le_refl _)
    clear bx1056
    have hl1070 : (([] : List Int) ++ g.ow).length = (([] : List Int)).length + (g.ow : List Int).length := List.length_append
    simp only [List.length_cons, List.length_nil] at hl1070
    refine OneH.act f1052 #[true, true, true, true, true, true, true, false, false, true, false] (by kernel_rfl) (appendR (α := Int) (t := 22) (d := 8) (n := 0) (m := g.ow.length) (cc := cg0) (xs := []) (ys := g.ow) (bytes := 8) (by first | rfl | omega | (simp; done) | (simp; omega)) (by first | rfl | omega | (simp; done) | (simp; omega)) (by kernel_rfl) rfl (by kernel_rfl) ow1065 r1059.ow.srcR (by simp only [List.length_cons, List.length_nil]; omega) (by simp only [List.length_cons, List.length_nil]; omega)) ?_
    rintro d_ v_ w1069 ⟨rfl, A1066, c1067, ha1068⟩
    obtain rfl := ha1068.val
    have g1071 := ha1068.gr
    have hS1074 := hS1057.grO g1071 (by rw [hCs27]; exact ⟨(fun e => by have := ow1065.ge _ e; simp only [add_block] at this; omega), (fun e => by have := ow1065.ge _ e; simp only [add_block] at this; omega), trivial⟩)
    refine ⟨_, rfl, fun act1073 f1072 => ⟨hS1074, ?_⟩⟩
    clear f1052
    have ow1075 := ha1068.own (Sx (w1036.heap.size) []) (fun g _ hs => hs) (show w1036.heap.size ≤ w1050.heap.size by omega)
    have szw1069 := g1071.size
    have e1076 := e1058.gr g1071 (fun k hk => by have := ow1065.ge k hk; omega)
    clear e1058
    have r1077 := r1059.gr g1071 (fun k hk => by have := ow1065.ge k hk; omega)
    clear r1059
    have bx1078 := bx1060.gr g1071 (fun e => by have := ow1065.ge _ e; omega)
    clear bx1060
    have bx1079 := bx1061.gr g1071 (fun e => by have := ow1065.ge _ e; omega)
    clear bx1061
    have bx1080 := bx1062.gr g1071 (fun e => by have := ow1065.ge _ e; omega)
    clear bx1062
    have bx1081 := bx1063.gr g1071 (fun e => by have := ow1065.ge _ e; omega)
    clear bx1063
    clear ow1065 g1071 ha1068
    replace ow1075 : OwnR w1069 (Sx (w1036.heap.size) []) A1066 c1067 3 (g.ow : List Int) := ow1075
    refine AtH.all [7] 2 (by kernel_rfl) (by simp) ⟨?_, trivial⟩
    have ow1085 : OwnR w1069 (Sx (w1036.heap.size) [some (w875.heap.size)]) A1066 c1067 3 (g.ow : List Int) := ow1075.imp (fun g _ hs => ⟨(fun e => by have := Sx_base hs; injection e; omega), hs⟩)
    clear ow1075
    have ow1084 : OwnR w1069 (Sx (w875.heap.size) [obk (A1066)]) (some ⟨w875.heap.size, 0, none⟩) 0 3 ([] : List Int) := Bx.own0 bx1081 ⟨(ow1085.neb (fun g hs => hs.1)), (Nat.le_refl _)⟩
    clear bx1081
    have hl1090 : (([] : List Int) ++ g.pr).length = (([] : List Int)).length + (g.pr : List Int).length := List.length_append
    simp only [List.length_cons, List.length_nil] at hl1090
    refine OneH.act f1072 #[true, true, true, true, true, true, true, true, false, true, false] (by kernel_rfl) (appendR (α := Int) (t := 22) (d := 12) (n := 0) (m := g.pr.length) (cc := cg1) (xs := []) (ys := g.pr) (bytes := 8) (by first | rfl | omega | (simp; done) | (simp; omega)) (by first | rfl | omega | (simp; done) | (simp; omega)) (by kernel_rfl) rfl (by kernel_rfl) ow1084 r1077.pr.srcR (by simp only [List.length_cons, List.length_nil]; omega) (by simp only [List.length_cons, List.length_nil]; omega)) ?_
    rintro d_ v_ w1089 ⟨rfl, A1086, c1087, ha1088⟩
    obtain rfl := ha1088.val
    have g1091 := ha1088.gr
    have hS1094 := hS1074.grO g1091 (by rw [hCs27]; exact ⟨(fun e => by have := ow1084.ge _ e; simp only [add_block] at this; omega), (fun e => by have := ow1084.ge _ e; simp only [add_block] at this; omega), trivial⟩)
    refine ⟨_, rfl, fun act1093 f1092 => ⟨hS1094, ?_⟩⟩
    clear f1072
    have ow1095 := ha1088.own (Sx (w875.heap.size) [obk (A1066)]) (fun g _ hs => ⟨hs.1, hs.2⟩) ⟨ow1085.ne_new, (show w875.heap.size ≤ w1069.heap.size by omega)⟩
    have szw1089 := g1091.size
    have e1096 := e1076.gr g1091 (fun k hk => by have := ow1084.ge k hk; omega)
    clear e1076
    have r1097 := r1077.gr g1091 (fun k hk => by have := ow1084.ge k hk; omega)
    clear r1077
    have bx1098 := bx1078.gr g1091 (fun e => by have := ow1084.ge _ e; omega)
    clear bx1078
    have bx1099 := bx1079.gr g1091 (fun e => by have := ow1084.ge _ e; omega)
    clear bx1079
    have bx1100 := bx1080.gr g1091 (fun e => by have := ow1084.ge _ e; omega)
    clear bx1080
    have ow1101 : OwnR w1089 (Sx (w1036.heap.size) [obk (A1086)]) A1066 c1067 3 (g.ow : List Int) := ow1085.grA g1091 (fun k hk => hk.1) (fun k hk hs => ⟨own_repl ha1088.at_ hs.1 hk, hs.2⟩)
    clear ow1085
    clear ow1084 g1091 ha1088
    replace ow1095 : OwnR w1089 (Sx (w875.heap.size) [obk (A1066)]) A1086 c1087 3 (g.pr : List Int) := ow1095
    refine AtH.rd (by kernel_rfl) (fun d v c a w h => by cases d <;> exact h) hS1094 [8] [[]] [(13, .agg #[.slice A1066 ((([] : List Int) ++ g.ow).length) c1067, .slice A1086 ((([] : List Int) ++ g.pr).length) c1087, .slice none 0 0])] #[true, true, true, true, true, true, true, true, true, true, false] [] 1 f1092 (by kernel_rfl) trivial (fun act1104 f1103 => ?_)
    clear f1092
    refine AtH.all [10] 0 (by kernel_rfl) (by simp) ⟨?_, trivial⟩
    refine OneH.store f1103 (t := 25) (b := w30.heap.size) (off := 0) (v := .agg #[.slice A1066 ((([] : List Int) ++ g.ow).length) c1067, .slice A1086 ((([] : List Int) ++ g.pr).length) c1087, .slice none 0 0]) #[true, true, true, true, true, true, true, true, true, true, true] (by kernel_rfl) (by kernel_rfl) bx1100 (by kernel_rfl) (fun act1110 w1106 g1107 bx1108 f1109 => ?_)
    clear f1103
    replace bx1108 : Bx w1106 (w30.heap.size) [.slice A1066 ((([] : List Int) ++ g.ow).length) c1067, .slice A1086 ((([] : List Int) ++ g.pr).length) c1087, .slice none 0 0] 25 := bx1108
    have hS1105 := hS1094.gr' g1107 (by rw [hCs27]; exact ⟨(by simp only [add_block]; omega), (by simp only [add_block]; omega), trivial⟩)
    have szw1106 := g1107.size
    have e1111 := e1096.gr g1107 (fun k h => by injection h; omega)
    clear e1096
    have r1112 := r1097.gr g1107 (fun k h => by injection h; omega)
    clear r1097
    have bx1113 := bx1098.gr g1107 (fun h => by injection h; omega)
    clear bx1098
    have bx1114 := bx1099.gr g1107 (fun h => by injection h; omega)
    clear bx1099
    have ow1115 := ow1095.gr g1107 (fun k hk e => by have := Sx_base hk; injection e; omega)
    clear ow1095
    have ow1116 := ow1101.gr g1107 (fun k hk e => by have := Sx_base hk; injection e; omega)
    clear ow1101
    clear bx1100 g1107
    refine ⟨hS1105, ?_⟩
    refine AtH.done (by kernel_rfl) ?_
    clear hS1105
    refine t_n ?_
    have f1117 := f1109.sub (r := [(3, .pointer (some ⟨w30.heap.size, 0, none⟩)), (2, .pointer (some ⟨w1.heap.size, 0, none⟩)), (1, .pointer (some ⟨w.heap.size, 0, none⟩))]) ⟨rfl, rfl, rfl, trivial⟩
    exact ⟨w30.heap.size, A1066, A1086, c1067, c1087, f1117, e1111, r1112, bx1113, bx1114, (ow1116.imp (fun g _ hs => ⟨hs.1, (fun e => by have := Sx_base hs; injection e; omega), (by have := Sx_base hs; show w10.heap.size ≤ g; omega)⟩)), (ow1115.imp (fun g _ hs => ⟨hs.1, (fun e => by have := Sx_base hs; injection e; omega), (by have := Sx_base hs; show w10.heap.size ≤ g; omega)⟩)), bx1108, (by omega), (by omega)⟩
 ·clear r17
  clear bx18
  clear bx19
  clear f20 e16
  intro act1118 w1119 ⟨b_25, A_21, A_22, c_23, c_24, f1120, e1121, r1122, bx1123, bx1124, ow1125, ow1126, bx1127, hb1128, szz1129⟩
  have szw1119 := e1121.size
  have := bx1123.lt
  have := bx1124.lt
  have := bx1127.lt
  refine wp_seq ?_
  refine wp_seq ?_
  refine At.start ?_
  refine At.rd f1120 1 [[]] [(4, .int .i64 (0))] [] (by kernel_rfl) trivial (fun act1134 f1133 => ?_)
  clear f1120
  refine At.done rfl ?_
  refine t_n ?_
  refine wp_block ?_
  have ow1136 : OwnLL w1119 (w1119.heap.size) [obk (A_21), obk (A_22)] none 0 22 3 ([] : List (List Int)) := OwnLL.nil
  have ow1137 : OwnR w1119 (Sx (w10.heap.size) [obk none, obk (A_22), some (b_25)]) A_21 c_23 3 (g.ow : List Int) := ow1125.imp (fun g _ hs => ⟨by simp [obk], hs⟩)
  clear ow1125
  have ow1138 : OwnR w1119 (Sx (w10.heap.size) [obk none, obk (A_21), some (b_25)]) A_22 c_24 3 (g.pr : List Int) := ow1126.imp (fun g _ hs => ⟨by simp [obk], hs⟩)
  clear ow1126
  have f1141 := f1133.sub (r := [(4, .int .i64 (0)), (3, .pointer (some ⟨b_25, 0, none⟩)), (2, .pointer (some ⟨w1.heap.size, 0, none⟩)), (1, .pointer (some ⟨w.heap.size, 0, none⟩))]) ⟨rfl, rfl, rfl, rfl, trivial⟩
  refine loop_g (fun (m_ : Nat) a_ w_ => ∃ (k : Int) (xs : List (List Int)) (A_1139 : Option Addr) (c_1140 : Nat), m_ = ((g.mv.length : Int) - k).toNat ∧ (Frm 34 a_ [(4, .int .i64 (k)), (3, .pointer (some ⟨b_25, 0, none⟩)), (2, .pointer (some ⟨w1.heap.size, 0, none⟩)), (1, .pointer (some ⟨w.heap.size, 0, none⟩))]) ∧ (Ext w w_) ∧ (RdG w_ 0 w.heap.size Ag0 Ag1 Ag2 cg0 cg1 cg2 g) ∧ (Bx w_ (w.heap.size) [.slice Ag0 g.ow.length cg0, .slice Ag1 g.pr.length cg1, .slice Ag2 g.mv.length cg2] 25) ∧ (Bx w_ (w1.heap.size) [.slice none 0 0, .slice none 0 0, .slice none 0 0] 25) ∧ (OwnR w_ (Sx (w10.heap.size) [obk (A_1139), obk (A_22), some (b_25)]) A_21 c_23 3 (g.ow : List Int)) ∧ (OwnR w_ (Sx (w10.heap.size) [obk (A_1139), obk (A_21), some (b_25)]) A_22 c_24 3 (g.pr : List Int)) ∧ (Bx w_ (b_25) [.slice A_21 ((([] : List Int) ++ g.ow).length) c_23, .slice A_22 ((([] : List Int) ++ g.pr).length) c_24, .slice A_1139 xs.length c_1140] 25) ∧ (OwnLL w_ (w1119.heap.size) [obk (A_21), obk (A_22)] A_1139 c_1140 22 3 (xs : List (List Int))) ∧ (0 ≤ k) ∧ (k ≤ (g.mv.length : Int)) ∧ (xs = g.mv.take k.toNat) ∧ (w10.heap.size ≤ w_.heap.size) ∧ (w1119.heap.size ≤ w_.heap.size)) _ ⟨0, ([] : List (List Int)), none, 0, rfl, f1141, e1121, r1122, bx1123, bx1124, ow1137, ow1138, bx1127, ow1136, (by omega), (by omega), rfl, (by omega), (by omega)⟩ ?_
  clear f1141 f1133
  clear r1122
  clear bx1123
  clear bx1124
  clear ow1137
  clear ow1138
  clear bx1127
  clear ow1136
  clear e1121
  intro m_ act1142 w1143 ⟨k, xs, A_1139, c_1140, hm1145, f1146, e1144, r1147, bx1148, bx1149, ow1150, ow1151, bx1152, r1153, i1154, i1155, hxs, i1156, i1157⟩
  have szw1143 := e1144.size
  have := bx1148.lt
  have := bx1149.lt
  have := bx1152.lt
  have hxl : xs.length = k.toNat := by rw [hxs, List.length_take]; omega
  refine wp_seq ?_
  refine wp_seq ?_
  refine At.start ?_
  refine At.rd f1146 5 [[], [], [.ld (.slice Ag2 g.mv.length cg2)], [], []] [(18, .bool (decide ((k : Int) < ((g.mv.length : Nat) : Int)))), (17, .int .i64 (((g.mv.length : Nat) : Int))), (16, .slice Ag2 g.mv.length cg2), (15, .pointer (some ⟨w.heap.size, 2, none⟩)), (14, .int .i64 (k))] [(w1143.cell? ⟨w.heap.size, 2, none⟩ = some (.slice Ag2 g.mv.length cg2))] (by kernel_rfl) ⟨(bx1148.cell (i := 2) rfl), trivial⟩ (fun act1159 f1158 => ?_)
  clear f1146
  refine At.done rfl ?_
  refine t_n ?_
  have f1160 := f1158.sub (r := [(18, .bool (decide ((k : Int) < ((g.mv.length : Nat) : Int)))), (4, .int .i64 (k)), (3, .pointer (some ⟨b_25, 0, none⟩)), (2, .pointer (some ⟨w1.heap.size, 0, none⟩)), (1, .pointer (some ⟨w.heap.size, 0, none⟩))]) ⟨rfl, rfl, rfl, rfl, rfl, trivial⟩
  clear f1158
  refine cond_S f1160 (t := decide ((k : Int) < ((g.mv.length : Nat) : Int))) rfl (fun h1161 => ?_) (fun h1161 => ?_)
  ·have q1162 := of_decide_eq_true h1161
   refine wp_skip ?_
   refine t_n ?_
   have f1163 := f1160.sub (r := [(4, .int .i64 (k)), (3, .pointer (some ⟨b_25, 0, none⟩)), (2, .pointer (some ⟨w1.heap.size, 0, none⟩)), (1, .pointer (some ⟨w.heap.size, 0, none⟩))]) ⟨rfl, rfl, rfl, rfl, trivial⟩
   clear f1160
   refine wp_seq ?_
   refine wp_block ?_
   obtain ⟨ad1164, R1167, C1168, hA1165, _, _, hc1166, hC1169, r1170⟩ := RdII.get r1147.mv (k) (by omega) (by omega)
   have hl1171 := r1170.len
   obtain ⟨Cs1173, hCs1174⟩ : ∃ c : List (Addr × Value), c = [(⟨w.heap.size, 2, none⟩, (.slice Ag2 g.mv.length cg2)), ((ad1164.add ((k : Int).toNat * 1)), (.slice R1167 ((gL g.mv (k)).length) C1168))] := ⟨_, rfl⟩
   have hS1175 : HoldsC Cs1173 w1143 := by rw [hCs1174]; exact ⟨(bx1148.cell (i := 2) rfl), hc1166, trivial⟩
   refine AtH.start Cs1173 13 #[false, false, false, false, false, false, false, false, false, false, false, false, false] (by kernel_rfl) rfl rfl (fun w1177 hw1178 => ?_)
   have g1176 := gr_drew hw1178
   have hS1179 := hS1175.gr g1176
   have szw1177 := g1176.size
   have e1180 := e1144.gr g1176 no_row
   clear e1144
   have r1181 := r1147.gr g1176 (fun _ h => by cases h)
   clear r1147
   have bx1182 := bx1148.gr g1176 (by simp)
   clear bx1148
   have bx1183 := bx1149.gr g1176 (by simp)
   clear bx1149
   have ow1184 := ow1150.gr g1176 (fun _ _ h => by cases h)
   clear ow1150
   have ow1185 := ow1151.gr g1176 (fun _ _ h => by cases h)
   clear ow1151
   have bx1186 := bx1152.gr g1176 (by simp)
   clear bx1152
   have ow1187 := r1153.gr g1176 (fun _ _ h => by cases h)
   clear r1153
   have r1188 := r1170.gr g1176 (fun _ h => by cases h)
   clear r1170
   clear g1176 hw1178 hS1175
   refine AtH.rd (by kernel_rfl) (fun d v c a w h => by cases d <;> exact h) hS1179 [0, 3, 4, 5, 6, 7] [[], [], [.ld (.slice Ag2 g.mv.length cg2)], [], [.ad ad1164], [.ld (.slice R1167 ((gL g.mv (k)).length) C1168)]] [(28, .slice R1167 ((gL g.mv (k)).length) C1168), (27, .pointer (some (ad1164.add ((k : Int).toNat * 1)))), (26, .int .i64 (k)), (25, .slice Ag2 g.mv.length cg2), (24, .pointer (some ⟨w.heap.size, 2, none⟩)), (21, .pointer (some ⟨b_25, 2, none⟩))] #[true, false, false, true, true, true, true, true, false, false, false, false, false] [(∃ j_ : Nat, Cs1173[j_]? = some (⟨w.heap.size, 2, none⟩, (.slice Ag2 g.mv.length cg2))), (Ag2 = some ad1164), (0 ≤ (k : Int)), ((k : Int) < (g.mv.length : Nat)), (∃ j_ : Nat, Cs1173[j_]? = some ((ad1164.add ((k : Int).toNat * 1)), (.slice R1167 ((gL g.mv (k)).length) C1168)))] 7 f1163 (by kernel_rfl) ⟨⟨0, by rw [hCs1174]; rfl⟩, hA1165, (by omega), (by omega), ⟨1, by rw [hCs1174]; rfl⟩, trivial⟩ (fun act1190 f1189 => ?_)
   clear f1163
   refine AtH.all [1, 2] 6 (by kernel_rfl) (by simp) ⟨?_, ?_, trivial⟩
   ·refine OneH.seq f1189 [[.ld (.slice A_1139 xs.length c_1140)]] [(22, .slice A_1139 xs.length c_1140)] w1177 [(w1177.cell? ⟨b_25, 2, none⟩ = some (.slice A_1139 xs.length c_1140))] #[true, true, false, true, true, true, true, true, false, false, false, false, false] (by kernel_rfl) (by kernel_rfl) (by kernel_rfl) ⟨(bx1186.cell (i := 2) rfl), trivial⟩ (fun act1192 w1193 hw1194 f1191 => ?_)
    obtain rfl : w1177 = w1193 := hw1194.symm
    clear f1189
    refine ⟨hS1179, ?_⟩
    refine AtH.all [2] 5 (by kernel_rfl) (by simp) ⟨?_, trivial⟩
    refine OneH.seq f1191 [[]] [(23, .slice (some ⟨w1177.heap.size, 0, none⟩) 0 0)] (w1177.alloc (.cells #[] 3 (0, 0))) [] #[true, true, true, true, true, true, true, true, false, false, false, false, false] (by kernel_rfl) (by kernel_rfl) (by kernel_rfl) trivial (fun act1199 w1196 hw1197 f1198 => ?_)
    clear f1191
    have g1200 := gr_alloc hw1197
    have hS1203 := hS1179.gr g1200
    refine ⟨hS1203, ?_⟩
    have szw1196 := g1200.size
    have e1204 := e1180.gr g1200 no_row
    clear e1180
    have r1205 := r1181.gr g1200 (fun _ h => by cases h)
    clear r1181
    have bx1206 := bx1182.gr g1200 (by simp)
    clear bx1182
    have bx1207 := bx1183.gr g1200 (by simp)
    clear bx1183
    have ow1208 : OwnR w1196 (Sx (w10.heap.size) [some (w1177.heap.size), obk (A_1139), obk (A_22), some (b_25)]) A_21 c_23 3 (g.ow : List Int) := ow1184.grA g1200 (fun _ _ h => by cases h) (fun k hk hs => ⟨(fun e => by injection e; omega), hs.1, hs.2.1, hs.2.2.1, hs.2.2.2⟩)
    clear ow1184
    have ow1209 : OwnR w1196 (Sx (w10.heap.size) [some (w1177.heap.size), obk (A_1139), obk (A_21), some (b_25)]) A_22 c_24 3 (g.pr : List Int) := ow1185.grA g1200 (fun _ _ h => by cases h) (fun k hk hs => ⟨(fun e => by injection e; omega), hs.1, hs.2.1, hs.2.2.1, hs.2.2.2⟩)
    clear ow1185
    have bx1210 := bx1186.gr g1200 (by simp)
    clear bx1186
    have ow1211 : OwnLL w1196 (w1119.heap.size) [some (w1177.heap.size), obk (A_21), obk (A_22)] A_1139 c_1140 22 3 (xs : List (List Int)) := ow1187.grA g1200 (fun _ _ h => by cases h) (fun k hk hs => ⟨(fun e => by injection e; omega), hs.1, hs.2.1, hs.2.2⟩)
    clear ow1187
    have r1212 := r1188.gr g1200 (fun _ h => by cases h)
    clear r1188
    have bx1202 : Bx w1196 (w1177.heap.size) [] 3 := Bx.new hw1197
    have := bx1202.lt
    clear g1200 hw1197
    refine AtH.all [8] 4 (by kernel_rfl) (by simp) ⟨?_, trivial⟩
    have ow1214 : OwnR w1196 (Sx (w1177.heap.size) [obk (A_21), obk (A_22), obk (A_1139)]) (some ⟨w1177.heap.size, 0, none⟩) 0 3 ([] : List Int) := Bx.own0 bx1202 ⟨(ow1208.neb (fun g hs => hs.1)), (ow1209.neb (fun g hs => hs.1)), (ow1211.neb (fun g hs => hs.1)), (Nat.le_refl _)⟩
    clear bx1202
    have hl1219 : (([] : List Int) ++ (gL g.mv (k))).length = (([] : List Int)).length + (gL g.mv (k) : List Int).length := List.length_append
    simp only [List.length_cons, List.length_nil] at hl1219
    refine OneH.act f1198 #[true, true, true, true, true, true, true, true, true, false, false, false, false] (by kernel_rfl) (appendR (α := Int) (t := 22) (d := 29) (n := 0) (m := (gL g.mv (k)).length) (cc := C1168) (xs := []) (ys := gL g.mv (k)) (bytes := 8) (by first | rfl | omega | (simp; done) | (simp; omega)) (by first | rfl | omega | (simp; done) | (simp; omega)) (by kernel_rfl) rfl (by kernel_rfl) ow1214 r1212.srcR (by simp only [List.length_cons, List.length_nil]; omega) (by simp only [List.length_cons, List.length_nil]; omega)) ?_
    rintro d_ v_ w1218 ⟨rfl, A1215, c1216, ha1217⟩
    obtain rfl := ha1217.val
    have g1220 := ha1217.gr
    have hS1223 := hS1203.grO g1220 (by rw [hCs1174]; exact ⟨(fun e => by have := ow1214.ge _ e; simp only [add_block] at this; omega), (fun e => by have := ow1214.ge _ e; simp only [add_block] at this; omega), trivial⟩)
    refine ⟨_, rfl, fun act1222 f1221 => ⟨hS1223, ?_⟩⟩
    clear f1198
    have ow1224 := ha1217.own (Sx (w1177.heap.size) [obk (A_21), obk (A_22), obk (A_1139)]) (fun g _ hs => ⟨hs.1, hs.2.1, hs.2.2.1, hs.2.2.2⟩) ⟨ow1208.ne_new, ow1209.ne_new, ow1211.ne_new, (show w1177.heap.size ≤ w1196.heap.size by omega)⟩
    have szw1218 := g1220.size
    have e1225 := e1204.gr g1220 (fun k hk => by have := ow1214.ge k hk; omega)
    clear e1204
    have r1226 := r1205.gr g1220 (fun k hk => by have := ow1214.ge k hk; omega)
    clear r1205
    have bx1227 := bx1206.gr g1220 (fun e => by have := ow1214.ge _ e; omega)
    clear bx1206
    have bx1228 := bx1207.gr g1220 (fun e => by have := ow1214.ge _ e; omega)
    clear bx1207
    have ow1229 : OwnR w1218 (Sx (w10.heap.size) [obk (A1215), obk (A_1139), obk (A_22), some (b_25)]) A_21 c_23 3 (g.ow : List Int) := ow1208.grA g1220 (fun k hk => hk.1) (fun k hk hs => ⟨own_repl ha1217.at_ hs.1 hk, hs.2.1, hs.2.2.1, hs.2.2.2.1, hs.2.2.2.2⟩)
    clear ow1208
    have ow1230 : OwnR w1218 (Sx (w10.heap.size) [obk (A1215), obk (A_1139), obk (A_21), some (b_25)]) A_22 c_24 3 (g.pr : List Int) := ow1209.grA g1220 (fun k hk => hk.1) (fun k hk hs => ⟨own_repl ha1217.at_ hs.1 hk, hs.2.1, hs.2.2.1, hs.2.2.2.1, hs.2.2.2.2⟩)
    clear ow1209
    have bx1231 := bx1210.gr g1220 (fun e => by have := ow1214.ge _ e; omega)
    clear bx1210
    have ow1232 : OwnLL w1218 (w1119.heap.size) [obk (A1215), obk (A_21), obk (A_22)] A_1139 c_1140 22 3 (xs : List (List Int)) := ow1211.grA g1220 (fun k hk => hk.1) (fun k hk hs => ⟨own_repl ha1217.at_ hs.1 hk, hs.2.1, hs.2.2.1, hs.2.2.2⟩)
    clear ow1211
    have r1233 := r1212.gr g1220 (fun k hk => by have := ow1214.ge k hk; omega)
    clear r1212
    clear ow1214 g1220 ha1217
    replace ow1224 : OwnR w1218 (Sx (w1177.heap.size) [obk (A_21), obk (A_22), obk (A_1139)]) A1215 c1216 3 (gL g.mv (k) : List Int) := ow1224
    refine AtH.all [9] 3 (by kernel_rfl) (by simp) ⟨?_, trivial⟩
    refine OneH.seq f1221 [[]] [(30, .slice (some ⟨w1218.heap.size, 0, none⟩) 1 1)] (w1218.alloc (.cells #[.slice A1215 ((([] : List Int) ++ (gL g.mv (k))).length) c1216] 22 (0, 0))) [] #[true, true, true, true, true, true, true, true, true, true, false, false, false] (by kernel_rfl) (by kernel_rfl) (by kernel_rfl) trivial (fun act1239 w1236 hw1237 f1238 => ?_)
    clear f1221
    have g1240 := gr_alloc hw1237
    have hS1243 := hS1223.gr g1240
    refine ⟨hS1243, ?_⟩
    have szw1236 := g1240.size
    have e1244 := e1225.gr g1240 no_row
    clear e1225
    have r1245 := r1226.gr g1240 (fun _ h => by cases h)
    clear r1226
    have bx1246 := bx1227.gr g1240 (by simp)
    clear bx1227
    have bx1247 := bx1228.gr g1240 (by simp)
    clear bx1228
    have ow1248 : OwnR w1236 (Sx (w10.heap.size) [some (w1218.heap.size), obk (A1215), obk (A_1139), obk (A_22), some (b_25)]) A_21 c_23 3 (g.ow : List Int) := ow1229.grA g1240 (fun _ _ h => by cases h) (fun k hk hs => ⟨(fun e => by injection e; omega), hs.1, hs.2.1, hs.2.2.1, hs.2.2.2.1, hs.2.2.2.2⟩)
    clear ow1229
    have ow1249 : OwnR w1236 (Sx (w10.heap.size) [some (w1218.heap.size), obk (A1215), obk (A_1139), obk (A_21), some (b_25)]) A_22 c_24 3 (g.pr : List Int) := ow1230.grA g1240 (fun _ _ h => by cases h) (fun k hk hs => ⟨(fun e => by injection e; omega), hs.1, hs.2.1, hs.2.2.1, hs.2.2.2.1, hs.2.2.2.2⟩)
    clear ow1230
    have bx1250 := bx1231.gr g1240 (by simp)
    clear bx1231
    have ow1251 : OwnLL w1236 (w1119.heap.size) [some (w1218.heap.size), obk (A1215), obk (A_21), obk (A_22)] A_1139 c_1140 22 3 (xs : List (List Int)) := ow1232.grA g1240 (fun _ _ h => by cases h) (fun k hk hs => ⟨(fun e => by injection e; omega), hs.1, hs.2.1, hs.2.2.1, hs.2.2.2⟩)
    clear ow1232
    have r1252 := r1233.gr g1240 (fun _ h => by cases h)
    clear r1233
    have ow1253 : OwnR w1236 (Sx (w1177.heap.size) [some (w1218.heap.size), obk (A_21), obk (A_22), obk (A_1139)]) A1215 c1216 3 (gL g.mv (k) : List Int) := ow1224.grA g1240 (fun _ _ h => by cases h) (fun k hk hs => ⟨(fun e => by injection e; omega), hs.1, hs.2.1, hs.2.2.1, hs.2.2.2⟩)
    clear ow1224
    have bx1242 : Bx w1236 (w1218.heap.size) [.slice A1215 ((([] : List Int) ++ (gL g.mv (k))).length) c1216] 22 := Bx.new hw1237
    have := bx1242.lt
    clear g1240 hw1237
    refine AtH.all [10] 2 (by kernel_rfl) (by simp) ⟨?_, trivial⟩
    have ow1255 : OwnR w1236 (Sx (w1119.heap.size) [obk (A_21), obk (A_22)]) A1215 c1216 3 (gL g.mv (k) : List Int) := ow1253.imp (fun g _ hs => ⟨hs.2.1, hs.2.2.1, (by have := Sx_base hs; show w1119.heap.size ≤ g; omega)⟩)
    have ow1256 : OwnLL w1236 (w1119.heap.size) [obk (A1215), obk (A_21), obk (A_22)] A_1139 c_1140 22 3 (xs : List (List Int)) := (ow1251.imp (fun g _ hs => ⟨hs.2.1, hs.2.2.1, hs.2.2.2.1, hs.2.2.2.2⟩))
    have hl1257 : (xs ++ [gL g.mv (k)]).length = (xs).length + 1 := by simp
    refine OneH.act f1238 #[true, true, true, true, true, true, true, true, true, true, true, false, false] (by kernel_rfl) (appendLL (t := 23) (d := 31) (n := xs.length) (m := 1) (cc := 1) (ls := xs) (xs := gL g.mv (k)) (bytes := 24) (by first | rfl | omega | (simp; done) | (simp; omega)) (by kernel_rfl) (by kernel_rfl) (bx1242.as (by first | rfl | (simp; done))) ow1256 ow1255 ⟨ow1248.ne_new, ow1249.ne_new, (show w1119.heap.size ≤ w1236.heap.size by omega)⟩ (by omega) (by omega)) ?_
    rintro d_ v_ w1258 ⟨rfl, A1259, c1260, rfl, g1261, ha1262, ow1263⟩
    have hS1266 := hS1243.grO g1261 (by rw [hCs1174]; exact ⟨(fun e => by have := ow1251.ge _ e; simp only [add_block] at this; omega), (fun e => by have := ow1251.ge _ e; simp only [add_block] at this; omega), trivial⟩)
    refine ⟨_, rfl, fun act1265 f1264 => ⟨hS1266, ?_⟩⟩
    clear f1238
    clear bx1242 ow1253 ow1255 ow1256
    have szw1258 := g1261.size
    have e1267 := e1244.gr g1261 (fun k hk => by have := ow1251.ge k hk; omega)
    clear e1244
    have r1268 := r1245.gr g1261 (fun k hk => by have := ow1251.ge k hk; omega)
    clear r1245
    have bx1269 := bx1246.gr g1261 (fun e => by have := ow1251.ge _ e; omega)
    clear bx1246
    have bx1270 := bx1247.gr g1261 (fun e => by have := ow1251.ge _ e; omega)
    clear bx1247
    have ow1271 : OwnR w1258 (Sx (w10.heap.size) [some (w1218.heap.size), obk (A1215), obk (A1259), obk (A_22), some (b_25)]) A_21 c_23 3 (g.ow : List Int) := ow1248.grA g1261 (fun k hk => hk.2.2.1) (fun k hk hs => ⟨hs.1, hs.2.1, own_repl ha1262 hs.2.2.1 hk, hs.2.2.2.1, hs.2.2.2.2.1, hs.2.2.2.2.2⟩)
    clear ow1248
    have ow1272 : OwnR w1258 (Sx (w10.heap.size) [some (w1218.heap.size), obk (A1215), obk (A1259), obk (A_21), some (b_25)]) A_22 c_24 3 (g.pr : List Int) := ow1249.grA g1261 (fun k hk => hk.2.2.1) (fun k hk hs => ⟨hs.1, hs.2.1, own_repl ha1262 hs.2.2.1 hk, hs.2.2.2.1, hs.2.2.2.2.1, hs.2.2.2.2.2⟩)
    clear ow1249
    have bx1273 := bx1250.gr g1261 (fun e => by have := ow1251.ge _ e; omega)
    clear bx1250
    have r1274 := r1252.gr g1261 (fun k hk => by have := ow1251.ge k hk; omega)
    clear r1252
    clear ow1251 g1261 ha1262
    refine AtH.rd (by kernel_rfl) (fun d v c a w h => by cases d <;> exact h) hS1266 [11] [[]] [(32, .pointer (some ⟨b_25, 2, none⟩))] #[true, true, true, true, true, true, true, true, true, true, true, true, false] [] 1 f1264 (by kernel_rfl) trivial (fun act1276 f1275 => ?_)
    clear f1264
    refine AtH.all [12] 0 (by kernel_rfl) (by simp) ⟨?_, trivial⟩
    refine OneH.store f1275 (t := 23) (b := b_25) (off := 2) (v := .slice A1259 ((xs ++ [gL g.mv (k)]).length) c1260) #[true, true, true, true, true, true, true, true, true, true, true, true, true] (by kernel_rfl) (by kernel_rfl) bx1273 (by kernel_rfl) (fun act1282 w1278 g1279 bx1280 f1281 => ?_)
    clear f1275
    replace bx1280 : Bx w1278 (b_25) [.slice A_21 ((([] : List Int) ++ g.ow).length) c_23, .slice A_22 ((([] : List Int) ++ g.pr).length) c_24, .slice A1259 ((xs ++ [gL g.mv (k)]).length) c1260] 25 := bx1280
    have hS1277 := hS1266.gr' g1279 (by rw [hCs1174]; exact ⟨(by simp only [add_block]; omega), (by simp only [add_block]; omega), trivial⟩)
    have szw1278 := g1279.size
    have e1283 := e1267.gr g1279 (fun k h => by injection h; omega)
    clear e1267
    have r1284 := r1268.gr g1279 (fun k h => by injection h; omega)
    clear r1268
    have bx1285 := bx1269.gr g1279 (fun h => by injection h; omega)
    clear bx1269
    have bx1286 := bx1270.gr g1279 (fun h => by injection h; omega)
    clear bx1270
    have ow1287 := ow1271.gr g1279 (fun k hk => hk.2.2.2.2.1)
    clear ow1271
    have ow1288 := ow1272.gr g1279 (fun k hk => hk.2.2.2.2.1)
    clear ow1272
    have r1289 := r1274.gr g1279 (fun k h => by injection h; omega)
    clear r1274
    have ow1290 := ow1263.gr g1279 (fun k hk e => by have := Sx_base hk; injection e; omega)
    clear ow1263
    clear bx1273 g1279
    refine ⟨hS1277, ?_⟩
    refine AtH.done (by kernel_rfl) ?_
    clear hS1277
    refine b_n ?_
    refine t_n ?_
    have f1291 := f1281.sub (r := [(4, .int .i64 (k)), (3, .pointer (some ⟨b_25, 0, none⟩)), (2, .pointer (some ⟨w1.heap.size, 0, none⟩)), (1, .pointer (some ⟨w.heap.size, 0, none⟩))]) ⟨rfl, rfl, rfl, rfl, trivial⟩
    clear f1281
    refine At.start ?_
    refine At.rd f1291 3 [[], [.as_ (.int .i64 (k + 1))], []] [(4, .int .i64 (k + 1)), (20, .int .i64 (k + 1)), (19, .int .i64 (k))] [((.int .i64 (IntKind.i64.wrap (k + 1)) : Value) = .int .i64 (k + 1))] (by kernel_rfl) ⟨(w64 (by omega) (by omega)), trivial⟩ (fun act1293 f1292 => ?_)
    clear f1291
    refine At.done rfl ?_
    refine t_n ?_
    have f1294 := f1292.sub (r := [(4, .int .i64 (k + 1)), (3, .pointer (some ⟨b_25, 0, none⟩)), (2, .pointer (some ⟨w1.heap.size, 0, none⟩)), (1, .pointer (some ⟨w.heap.size, 0, none⟩))]) ⟨rfl, rfl, rfl, rfl, trivial⟩
    exact ⟨_, (by omega), (k + 1), (xs ++ [gL g.mv (k)] : List (List Int)), A1259, c1260, rfl, f1294, e1283, r1284, bx1285, bx1286, (ow1287.imp (fun g _ hs => ⟨hs.2.2.1, hs.2.2.2.1, hs.2.2.2.2.1, hs.2.2.2.2.2⟩)), (ow1288.imp (fun g _ hs => ⟨hs.2.2.1, hs.2.2.2.1, hs.2.2.2.2.1, hs.2.2.2.2.2⟩)), bx1280, ow1290, (by omega), (by omega), (takeLL_push hxs (by omega) (by omega)), (by omega), (by omega)⟩
   ·refine OneH.seq f1189 [[]] [(23, .slice (some ⟨w1177.heap.size, 0, none⟩) 0 0)] (w1177.alloc (.cells #[] 3 (0, 0))) [] #[true, false, true, true, true, true, true, true, false, false, false, false, false] (by kernel_rfl) (by kernel_rfl) (by kernel_rfl) trivial (fun act1299 w1296 hw1297 f1298 => ?_)
    clear f1189
    have g1300 := gr_alloc hw1297
    have hS1303 := hS1179.gr g1300
    refine ⟨hS1303, ?_⟩
    have szw1296 := g1300.size
    have e1304 := e1180.gr g1300 no_row
    clear e1180
    have r1305 := r1181.gr g1300 (fun _ h => by cases h)
    clear r1181
    have bx1306 := bx1182.gr g1300 (by simp)
    clear bx1182
    have bx1307 := bx1183.gr g1300 (by simp)
    clear bx1183
    have ow1308 : OwnR w1296 (Sx (w10.heap.size) [some (w1177.heap.size), obk (A_1139), obk (A_22), some (b_25)]) A_21 c_23 3 (g.ow : List Int) := ow1184.grA g1300 (fun _ _ h => by cases h) (fun k hk hs => ⟨(fun e => by injection e; omega), hs.1, hs.2.1, hs.2.2.1, hs.2.2.2⟩)
    clear ow1184
    have ow1309 : OwnR w1296 (Sx (w10.heap.size) [some (w1177.heap.size), obk (A_1139), obk (A_21), some (b_25)]) A_22 c_24 3 (g.pr : List Int) := ow1185.grA g1300 (fun _ _ h => by cases h) (fun k hk hs => ⟨(fun e => by injection e; omega), hs.1, hs.2.1, hs.2.2.1, hs.2.2.2⟩)
    clear ow1185
    have bx1310 := bx1186.gr g1300 (by simp)
    clear bx1186
    have ow1311 : OwnLL w1296 (w1119.heap.size) [some (w1177.heap.size), obk (A_21), obk (A_22)] A_1139 c_1140 22 3 (xs : List (List Int)) := ow1187.grA g1300 (fun _ _ h => by cases h) (fun k hk hs => ⟨(fun e => by injection e; omega), hs.1, hs.2.1, hs.2.2⟩)
    clear ow1187
    have r1312 := r1188.gr g1300 (fun _ h => by cases h)
    clear r1188
    have bx1302 : Bx w1296 (w1177.heap.size) [] 3 := Bx.new hw1297
    have := bx1302.lt
    clear g1300 hw1297
    refine AtH.all [1, 8] 5 (by kernel_rfl) (by simp) ⟨?_, ?_, trivial⟩
    ·refine OneH.seq f1298 [[.ld (.slice A_1139 xs.length c_1140)]] [(22, .slice A_1139 xs.length c_1140)] w1296 [(w1296.cell? ⟨b_25, 2, none⟩ = some (.slice A_1139 xs.length c_1140))] #[true, true, true, true, true, true, true, true, false, false, false, false, false] (by kernel_rfl) (by kernel_rfl) (by kernel_rfl) ⟨(bx1310.cell (i := 2) rfl), trivial⟩ (fun act1314 w1315 hw1316 f1313 => ?_)
     obtain rfl : w1296 = w1315 := hw1316.symm
     clear f1298
     refine ⟨hS1303, ?_⟩
     refine AtH.all [8] 4 (by kernel_rfl) (by simp) ⟨?_, trivial⟩
     have ow1318 : OwnR w1296 (Sx (w1177.heap.size) [obk (A_21), obk (A_22), obk (A_1139)]) (some ⟨w1177.heap.size, 0, none⟩) 0 3 ([] : List Int) := Bx.own0 bx1302 ⟨(ow1308.neb (fun g hs => hs.1)), (ow1309.neb (fun g hs => hs.1)), (ow1311.neb (fun g hs => hs.1)), (Nat.le_refl _)⟩
     clear bx1302
     have hl1323 : (([] : List Int) ++ (gL g.mv (k))).length = (([] : List Int)).length + (gL g.mv (k) : List Int).length := List.length_append
     simp only [List.length_cons, List.length_nil] at hl1323
     refine OneH.act f1313 #[true, true, true, true, true, true, true, true, true, false, false, false, false] (by kernel_rfl) (appendR (α := Int) (t := 22) (d := 29) (n := 0) (m := (gL g.mv (k)).length) (cc := C1168) (xs := []) (ys := gL g.mv (k)) (bytes := 8) (by first | rfl | omega | (simp; done) | (simp; omega)) (by first | rfl | omega | (simp; done) | (simp; omega)) (by kernel_rfl) rfl (by kernel_rfl) ow1318 r1312.srcR (by simp only [List.length_cons, List.length_nil]; omega) (by simp only [List.length_cons, List.length_nil]; omega)) ?_
     rintro d_ v_ w1322 ⟨rfl, A1319, c1320, ha1321⟩
     obtain rfl := ha1321.val
     have g1324 := ha1321.gr
     have hS1327 := hS1303.grO g1324 (by rw [hCs1174]; exact ⟨(fun e => by have := ow1318.ge _ e; simp only [add_block] at this; omega), (fun e => by have := ow1318.ge _ e; simp only [add_block] at this; omega), trivial⟩)
     refine ⟨_, rfl, fun act1326 f1325 => ⟨hS1327, ?_⟩⟩
     clear f1313
     have ow1328 := ha1321.own (Sx (w1177.heap.size) [obk (A_21), obk (A_22), obk (A_1139)]) (fun g _ hs => ⟨hs.1, hs.2.1, hs.2.2.1, hs.2.2.2⟩) ⟨ow1308.ne_new, ow1309.ne_new, ow1311.ne_new, (show w1177.heap.size ≤ w1296.heap.size by omega)⟩
     have szw1322 := g1324.size
     have e1329 := e1304.gr g1324 (fun k hk => by have := ow1318.ge k hk; omega)
     clear e1304
     have r1330 := r1305.gr g1324 (fun k hk => by have := ow1318.ge k hk; omega)
     clear r1305
     have bx1331 := bx1306.gr g1324 (fun e => by have := ow1318.ge _ e; omega)
     clear bx1306
     have bx1332 := bx1307.gr g1324 (fun e => by have := ow1318.ge _ e; omega)
     clear bx1307
     have ow1333 : OwnR w1322 (Sx (w10.heap.size) [obk (A1319), obk (A_1139), obk (A_22), some (b_25)]) A_21 c_23 3 (g.ow : List Int) := ow1308.grA g1324 (fun k hk => hk.1) (fun k hk hs => ⟨own_repl ha1321.at_ hs.1 hk, hs.2.1, hs.2.2.1, hs.2.2.2.1, hs.2.2.2.2⟩)
     clear ow1308
     have ow1334 : OwnR w1322 (Sx (w10.heap.size) [obk (A1319), obk (A_1139), obk (A_21), some (b_25)]) A_22 c_24 3 (g.pr : List Int) := ow1309.grA g1324 (fun k hk => hk.1) (fun k hk hs => ⟨own_repl ha1321.at_ hs.1 hk, hs.2.1, hs.2.2.1, hs.2.2.2.1, hs.2.2.2.2⟩)
     clear ow1309
     have bx1335 := bx1310.gr g1324 (fun e => by have := ow1318.ge _ e; omega)
     clear bx1310
     have ow1336 : OwnLL w1322 (w1119.heap.size) [obk (A1319), obk (A_21), obk (A_22)] A_1139 c_1140 22 3 (xs : List (List Int)) := ow1311.grA g1324 (fun k hk => hk.1) (fun k hk hs => ⟨own_repl ha1321.at_ hs.1 hk, hs.2.1, hs.2.2.1, hs.2.2.2⟩)
     clear ow1311
     have r1337 := r1312.gr g1324 (fun k hk => by have := ow1318.ge k hk; omega)
     clear r1312
     clear ow1318 g1324 ha1321
     replace ow1328 : OwnR w1322 (Sx (w1177.heap.size) [obk (A_21), obk (A_22), obk (A_1139)]) A1319 c1320 3 (gL g.mv (k) : List Int) := ow1328
     refine AtH.all [9] 3 (by kernel_rfl) (by simp) ⟨?_, trivial⟩
     refine OneH.seq f1325 [[]] [(30, .slice (some ⟨w1322.heap.size, 0, none⟩) 1 1)] (w1322.alloc (.cells #[.slice A1319 ((([] : List Int) ++ (gL g.mv (k))).length) c1320] 22 (0, 0))) [] #[true, true, true, true, true, true, true, true, true, true, false, false, false] (by kernel_rfl) (by kernel_rfl) (by kernel_rfl) trivial (fun act1343 w1340 hw1341 f1342 => ?_)
     clear f1325
     have g1344 := gr_alloc hw1341
     have hS1347 := hS1327.gr g1344
     refine ⟨hS1347, ?_⟩
     have szw1340 := g1344.size
     have e1348 := e1329.gr g1344 no_row
     clear e1329
     have r1349 := r1330.gr g1344 (fun _ h => by cases h)
     clear r1330
     have bx1350 := bx1331.gr g1344 (by simp)
     clear bx1331
     have bx1351 := bx1332.gr g1344 (by simp)
     clear bx1332
     have ow1352 : OwnR w1340 (Sx (w10.heap.size) [some (w1322.heap.size), obk (A1319), obk (A_1139), obk (A_22), some (b_25)]) A_21 c_23 3 (g.ow : List Int) := ow1333.grA g1344 (fun _ _ h => by cases h) (fun k hk hs => ⟨(fun e => by injection e; omega), hs.1, hs.2.1, hs.2.2.1, hs.2.2.2.1, hs.2.2.2.2⟩)
     clear ow1333
     have ow1353 : OwnR w1340 (Sx (w10.heap.size) [some (w1322.heap.size), obk (A1319), obk (A_1139), obk (A_21), some (b_25)]) A_22 c_24 3 (g.pr : List Int) := ow1334.grA g1344 (fun _ _ h => by cases h) (fun k hk hs => ⟨(fun e => by injection e; omega), hs.1, hs.2.1, hs.2.2.1, hs.2.2.2.1, hs.2.2.2.2⟩)
     clear ow1334
     have bx1354 := bx1335.gr g1344 (by simp)
     clear bx1335
     have ow1355 : OwnLL w1340 (w1119.heap.size) [some (w1322.heap.size), obk (A1319), obk (A_21), obk (A_22)] A_1139 c_1140 22 3 (xs : List (List Int)) := ow1336.grA g1344 (fun _ _ h => by cases h) (fun k hk hs => ⟨(fun e => by injection e; omega), hs.1, hs.2.1, hs.2.2.1, hs.2.2.2⟩)
     clear ow1336
     have r1356 := r1337.gr g1344 (fun _ h => by cases h)
     clear r1337
     have ow1357 : OwnR w1340 (Sx (w1177.heap.size) [some (w1322.heap.size), obk (A_21), obk (A_22), obk (A_1139)]) A1319 c1320 3 (gL g.mv (k) : List Int) := ow1328.grA g1344 (fun _ _ h => by cases h) (fun k hk hs => ⟨(fun e => by injection e; omega), hs.1, hs.2.1, hs.2.2.1, hs.2.2.2⟩)
     clear ow1328
     have bx1346 : Bx w1340 (w1322.heap.size) [.slice A1319 ((([] : List Int) ++ (gL g.mv (k))).length) c1320] 22 := Bx.new hw1341
     have := bx1346.lt
     clear g1344 hw1341
     refine AtH.all [10] 2 (by kernel_rfl) (by simp) ⟨?_, trivial⟩
     have ow1359 : OwnR w1340 (Sx (w1119.heap.size) [obk (A_21), obk (A_22)]) A1319 c1320 3 (gL g.mv (k) : List Int) := ow1357.imp (fun g _ hs => ⟨hs.2.1, hs.2.2.1, (by have := Sx_base hs; show w1119.heap.size ≤ g; omega)⟩)
     have ow1360 : OwnLL w1340 (w1119.heap.size) [obk (A1319), obk (A_21), obk (A_22)] A_1139 c_1140 22 3 (xs : List (List Int)) := (ow1355.imp (fun g _ hs => ⟨hs.2.1, hs.2.2.1, hs.2.2.2.1, hs.2.2.2.2⟩))
     have hl1361 : (xs ++ [gL g.mv (k)]).length = (xs).length + 1 := by simp
     refine OneH.act f1342 #[true, true, true, true, true, true, true, true, true, true, true, false, false] (by kernel_rfl) (appendLL (t := 23) (d := 31) (n := xs.length) (m := 1) (cc := 1) (ls := xs) (xs := gL g.mv (k)) (bytes := 24) (by first | rfl | omega | (simp; done) | (simp; omega)) (by kernel_rfl) (by kernel_rfl) (bx1346.as (by first | rfl | (simp; done))) ow1360 ow1359 ⟨ow1352.ne_new, ow1353.ne_new, (show w1119.heap.size ≤ w1340.heap.size by omega)⟩ (by omega) (by omega)) ?_
     rintro d_ v_ w1362 ⟨rfl, A1363, c1364, rfl, g1365, ha1366, ow1367⟩
     have hS1370 := hS1347.grO g1365 (by rw [hCs1174]; exact ⟨(fun e => by have := ow1355.ge _ e; simp only [add_block] at this; omega), (fun e => by have := ow1355.ge _ e; simp only [add_block] at this; omega), trivial⟩)
     refine ⟨_, rfl, fun act1369 f1368 => ⟨hS1370, ?_⟩⟩
     clear f1342
     clear bx1346 ow1357 ow1359 ow1360
     have szw1362 := g1365.size
     have e1371 := e1348.gr g1365 (fun k hk => by have := ow1355.ge k hk; omega)
     clear e1348
     have r1372 := r1349.gr g1365 (fun k hk => by have := ow1355.ge k hk; omega)
     clear r1349
     have bx1373 := bx1350.gr g1365 (fun e => by have := ow1355.ge _ e; omega)
     clear bx1350
     have bx1374 := bx1351.gr g1365 (fun e => by have := ow1355.ge _ e; omega)
     clear bx1351
     have ow1375 : OwnR w1362 (Sx (w10.heap.size) [some (w1322.heap.size), obk (A1319), obk (A1363), obk (A_22), some (b_25)]) A_21 c_23 3 (g.ow : List Int) := ow1352.grA g1365 (fun k hk => hk.2.2.1) (fun k hk hs => ⟨hs.1, hs.2.1, own_repl ha1366 hs.2.2.1 hk, hs.2.2.2.1, hs.2.2.2.2.1, hs.2.2.2.2.2⟩)
     clear ow1352
     have ow1376 : OwnR w1362 (Sx (w10.heap.size) [some (w1322.heap.size), obk (A1319), obk (A1363), obk (A_21), some (b_25)]) A_22 c_24 3 (g.pr : List Int) := ow1353.grA g1365 (fun k hk => hk.2.2.1) (fun k hk hs => ⟨hs.1, hs.2.1, own_repl ha1366 hs.2.2.1 hk, hs.2.2.2.1, hs.2.2.2.2.1, hs.2.2.2.2.2⟩)
     clear ow1353
     have bx1377 := bx1354.gr g1365 (fun e => by have := ow1355.ge _ e; omega)
     clear bx1354
     have r1378 := r1356.gr g1365 (fun k hk => by have := ow1355.ge k hk; omega)
     clear r1356
     clear ow1355 g1365 ha1366
     refine AtH.rd (by kernel_rfl) (fun d v c a w h => by cases d <;> exact h) hS1370 [11] [[]] [(32, .pointer (some ⟨b_25, 2, none⟩))] #[true, true, true, true, true, true, true, true, true, true, true, true, false] [] 1 f1368 (by kernel_rfl) trivial (fun act1380 f1379 => ?_)
     clear f1368
     refine AtH.all [12] 0 (by kernel_rfl) (by simp) ⟨?_, trivial⟩
     refine OneH.store f1379 (t := 23) (b := b_25) (off := 2) (v := .slice A1363 ((xs ++ [gL g.mv (k)]).length) c1364) #[true, true, true, true, true, true, true, true, true, true, true, true, true] (by kernel_rfl) (by kernel_rfl) bx1377 (by kernel_rfl) (fun act1386 w1382 g1383 bx1384 f1385 => ?_)
     clear f1379
     replace bx1384 : Bx w1382 (b_25) [.slice A_21 ((([] : List Int) ++ g.ow).length) c_23, .slice A_22 ((([] : List Int) ++ g.pr).length) c_24, .slice A1363 ((xs ++ [gL g.mv (k)]).length) c1364] 25 := bx1384
     have hS1381 := hS1370.gr' g1383 (by rw [hCs1174]; exact ⟨(by simp only [add_block]; omega), (by simp only [add_block]; omega), trivial⟩)
     have szw1382 := g1383.size
     have e1387 := e1371.gr g1383 (fun k h => by injection h; omega)
     clear e1371
     have r1388 := r1372.gr g1383 (fun k h => by injection h; omega)
     clear r1372
     have bx1389 := bx1373.gr g1383 (fun h => by injection h; omega)
     clear bx1373
     have bx1390 := bx1374.gr g1383 (fun h => by injection h; omega)
     clear bx1374
     have ow1391 := ow1375.gr g1383 (fun k hk => hk.2.2.2.2.1)
     clear ow1375
     have ow1392 := ow1376.gr g1383 (fun k hk => hk.2.2.2.2.1)
     clear ow1376
     have r1393 := r1378.gr g1383 (fun k h => by injection h; omega)
     clear r1378
     have ow1394 := ow1367.gr g1383 (fun k hk e => by have := Sx_base hk; injection e; omega)
     clear ow1367
     clear bx1377 g1383
     refine ⟨hS1381, ?_⟩
     refine AtH.done (by kernel_rfl) ?_
     clear hS1381
     refine b_n ?_
     refine t_n ?_
     have f1395 := f1385.sub (r := [(4, .int .i64 (k)), (3, .pointer (some ⟨b_25, 0, none⟩)), (2, .pointer (some ⟨w1.heap.size, 0, none⟩)), (1, .pointer (some ⟨w.heap.size, 0, none⟩))]) ⟨rfl, rfl, rfl, rfl, trivial⟩
     clear f1385
     refine At.start ?_
     refine At.rd f1395 3 [[], [.as_ (.int .i64 (k + 1))], []] [(4, .int .i64 (k + 1)), (20, .int .i64 (k + 1)), (19, .int .i64 (k))] [((.int .i64 (IntKind.i64.wrap (k + 1)) : Value) = .int .i64 (k + 1))] (by kernel_rfl) ⟨(w64 (by omega) (by omega)), trivial⟩ (fun act1397 f1396 => ?_)
     clear f1395
     refine At.done rfl ?_
     refine t_n ?_
     have f1398 := f1396.sub (r := [(4, .int .i64 (k + 1)), (3, .pointer (some ⟨b_25, 0, none⟩)), (2, .pointer (some ⟨w1.heap.size, 0, none⟩)), (1, .pointer (some ⟨w.heap.size, 0, none⟩))]) ⟨rfl, rfl, rfl, rfl, trivial⟩
     exact ⟨_, (by omega), (k + 1), (xs ++ [gL g.mv (k)] : List (List Int)), A1363, c1364, rfl, f1398, e1387, r1388, bx1389, bx1390, (ow1391.imp (fun g _ hs => ⟨hs.2.2.1, hs.2.2.2.1, hs.2.2.2.2.1, hs.2.2.2.2.2⟩)), (ow1392.imp (fun g _ hs => ⟨hs.2.2.1, hs.2.2.2.1, hs.2.2.2.2.1, hs.2.2.2.2.2⟩)), bx1384, ow1394, (by omega), (by omega), (takeLL_push hxs (by omega) (by omega)), (by omega), (by omega)⟩
    ·have ow1400 : OwnR w1296 (Sx (w1177.heap.size) [obk (A_21), obk (A_22), obk (A_1139)]) (some ⟨w1177.heap.size, 0, none⟩) 0 3 ([] : List Int) := Bx.own0 bx1302 ⟨(ow1308.neb (fun g hs => hs.1)), (ow1309.neb (fun g hs => hs.1)), (ow1311.neb (fun g hs => hs.1)), (Nat.le_refl _)⟩
     clear bx1302
     have hl1405 : (([] : List Int) ++ (gL g.mv (k))).length = (([] : List Int)).length + (gL g.mv (k) : List Int).length := List.length_append
     simp only [List.length_cons, List.length_nil] at hl1405
     refine OneH.act f1298 #[true, false, true, true, true, true, true, true, true, false, false, false, false] (by kernel_rfl) (appendR (α := Int) (t := 22) (d := 29) (n := 0) (m := (gL g.mv (k)).length) (cc := C1168) (xs := []) (ys := gL g.mv (k)) (bytes := 8) (by first | rfl | omega | (simp; done) | (simp; omega)) (by first | rfl | omega | (simp; done) | (simp; omega)) (by kernel_rfl) rfl (by kernel_rfl) ow1400 r1312.srcR (by simp only [List.length_cons, List.length_nil]; omega) (by simp only [List.length_cons, List.length_nil]; omega)) ?_
     rintro d_ v_ w1404 ⟨rfl, A1401, c1402, ha1403⟩
     obtain rfl := ha1403.val
     have g1406 := ha1403.gr
     have hS1409 := hS1303.grO g1406 (by rw [hCs1174]; exact ⟨(fun e => by have := ow1400.ge _ e; simp only [add_block] at this; omega), (fun e => by have := ow1400.ge _ e; simp only [add_block] at this; omega), trivial⟩)
     refine ⟨_, rfl, fun act1408 f1407 => ⟨hS1409, ?_⟩⟩
     clear f1298
     have ow1410 := ha1403.own (Sx (w1177.heap.size) [obk (A_21), obk (A_22), obk (A_1139)]) (fun g _ hs => ⟨hs.1, hs.2.1, hs.2.2.1, hs.2.2.2⟩) ⟨ow1308.ne_new, ow1309.ne_new, ow1311.ne_new, (show w1177.heap.size ≤ w1296.heap.size by omega)⟩
     have szw1404 := g1406.size
     have e1411 := e1304.gr g1406 (fun k hk => by have := ow1400.ge k hk; omega)
     clear e1304
     have r1412 := r1305.gr g1406 (fun k hk => by have := ow1400.ge k hk; omega)
     clear r1305
     have bx1413 := bx1306.gr g1406 (fun e => by have := ow1400.ge _ e; omega)
     clear bx1306
     have bx1414 := bx1307.gr g1406 (fun e => by have := ow1400.ge _ e; omega)
     clear bx1307
     have ow1415 : OwnR w1404 (Sx (w10.heap.size) [obk (A1401), obk (A_1139), obk (A_22), some (b_25)]) A_21 c_23 3 (g.ow : List Int) := ow1308.grA g1406 (fun k hk => hk.1) (fun k hk hs => ⟨own_repl ha1403.at_ hs.1 hk, hs.2.1, hs.2.2.1, hs.2.2.2.1, hs.2.2.2.2⟩)
     clear ow1308
     have ow1416 : OwnR w1404 (Sx (w10.heap.size) [obk (A1401), obk (A_1139), obk (A_21), some (b_25)]) A_22 c_24 3 (g.pr : List Int) := ow1309.grA g1406 (fun k hk => hk.1) (fun k hk hs => ⟨own_repl ha1403.at_ hs.1 hk, hs.2.1, hs.2.2.1, hs.2.2.2.1, hs.2.2.2.2⟩)
     clear ow1309
     have bx1417 := bx1310.gr g1406 (fun e => by have := ow1400.ge _ e; omega)
     clear bx1310
     have ow1418 : OwnLL w1404 (w1119.heap.size) [obk (A1401), obk (A_21), obk (A_22)] A_1139 c_1140 22 3 (xs : List (List Int)) := ow1311.grA g1406 (fun k hk => hk.1) (fun k hk hs => ⟨own_repl ha1403.at_ hs.1 hk, hs.2.1, hs.2.2.1, hs.2.2.2⟩)
     clear ow1311
     have r1419 := r1312.gr g1406 (fun k hk => by have := ow1400.ge k hk; omega)
     clear r1312
     clear ow1400 g1406 ha1403
     replace ow1410 : OwnR w1404 (Sx (w1177.heap.size) [obk (A_21), obk (A_22), obk (A_1139)]) A1401 c1402 3 (gL g.mv (k) : List Int) := ow1410
     refine AtH.all [1, 9] 4 (by kernel_rfl) (by simp) ⟨?_, ?_, trivial⟩
     ·refine OneH.seq f1407 [[.ld (.slice A_1139 xs.length c_1140)]] [(22, .slice A_1139 xs.length c_1140)] w1404 [(w1404.cell? ⟨b_25, 2, none⟩ = some (.slice A_1139 xs.length c_1140))] #[true, true, true, true, true, true, true, true, true, false, false, false, false] (by kernel_rfl) (by kernel_rfl) (by kernel_rfl) ⟨(bx1417.cell (i := 2) rfl), trivial⟩ (fun act1422 w1423 hw1424 f1421 => ?_)
      obtain rfl : w1404 = w1423 := hw1424.symm
      clear f1407
      refine ⟨hS1409, ?_⟩
      refine AtH.all [9] 3 (by kernel_rfl) (by simp) ⟨?_, trivial⟩
      refine OneH.seq f1421 [[]] [(30, .slice (some ⟨w1404.heap.size, 0, none⟩) 1 1)] (w1404.alloc (.cells #[.slice A1401 ((([] : List Int) ++ (gL g.mv (k))).length) c1402] 22 (0, 0))) [] #[true, true, true, true, true, true, true, true, true, true, false, false, false] (by kernel_rfl) (by kernel_rfl) (by kernel_rfl) trivial (fun act1429 w1426 hw1427 f1428 => ?_)
      clear f1421
      have g1430 := gr_alloc hw1427
      have hS1433 := hS1409.gr g1430
      refine ⟨hS1433, ?_⟩
      have szw1426 := g1430.size
      have e1434 := e1411.gr g1430 no_row
      clear e1411
      have r1435 := r1412.gr g1430 (fun _ h => by cases h)
      clear r1412
      have bx1436 := bx1413.gr g1430 (by simp)
      clear bx1413
      have bx1437 := bx1414.gr g1430 (by simp)
      clear bx1414
      have ow1438 : OwnR w1426 (Sx (w10.heap.size) [some (w1404.heap.size), obk (A1401), obk (A_1139), obk (A_22), some (b_25)]) A_21 c_23 3 (g.ow : List Int) := ow1415.grA g1430 (fun _ _ h => by cases h) (fun k hk hs => ⟨(fun e => by injection e; omega), hs.1, hs.2.1, hs.2.2.1, hs.2.2.2.1, hs.2.2.2.2⟩)
      clear ow1415
      have ow1439 : OwnR w1426 (Sx (w10.heap.size) [some (w1404.heap.size), obk (A1401), obk (A_1139), obk (A_21), some (b_25)]) A_22 c_24 3 (g.pr : List Int) := ow1416.grA g1430 (fun _ _ h => by cases h) (fun k hk hs => ⟨(fun e => by injection e; omega), hs.1, hs.2.1, hs.2.2.1, hs.2.2.2.1, hs.2.2.2.2⟩)
      clear ow1416
      have bx1440 := bx1417.gr g1430 (by simp)
      clear bx1417
      have ow1441 : OwnLL w1426 (w1119.heap.size) [some (w1404.heap.size), obk (A1401), obk (A_21), obk (A_22)] A_1139 c_1140 22 3 (xs : List (List Int)) := ow1418.grA g1430 (fun _ _ h => by cases h) (fun k hk hs => ⟨(fun e => by injection e; omega), hs.1, hs.2.1, hs.2.2.1, hs.2.2.2⟩)
      clear ow1418
      have r1442 := r1419.gr g1430 (fun _ h => by cases h)
      clear r1419
      have ow1443 : OwnR w1426 (Sx (w1177.heap.size) [some (w1404.heap.size), obk (A_21), obk (A_22), obk (A_1139)]) A1401 c1402 3 (gL g.mv (k) : List Int) := ow1410.grA g1430 (fun _ _ h => by cases h) (fun k hk hs => ⟨(fun e => by injection e; omega), hs.1, hs.2.1, hs.2.2.1, hs.2.2.2⟩)
      clear ow1410
      have bx1432 : Bx w1426 (w1404.heap.size) [.slice A1401 ((([] : List Int) ++ (gL g.mv (k))).length) c1402] 22 := Bx.new hw1427
      have := bx1432.lt
      clear g1430 hw1427
      refine AtH.all [10] 2 (by kernel_rfl) (by simp) ⟨?_, trivial⟩
      have ow1445 : OwnR w1426 (Sx (w1119.heap.size) [obk (A_21), obk (A_22)]) A1401 c1402 3 (gL g.mv (k) : List Int) := ow1443.imp (fun g _ hs => ⟨hs.2.1, hs.2.2.1, (by have := Sx_base hs; show w1119.heap.size ≤ g; omega)⟩)
      have ow1446 : OwnLL w1426 (w1119.heap.size) [obk (A1401), obk (A_21), obk (A_22)] A_1139 c_1140 22 3 (xs : List (List Int)) := (ow1441.imp (fun g _ hs => ⟨hs.2.1, hs.2.2.1, hs.2.2.2.1, hs.2.2.2.2⟩))
      have hl1447 : (xs ++ [gL g.mv (k)]).length = (xs).length + 1 := by simp
      refine OneH.act f1428 #[true, true, true, true, true, true, true, true, true, true, true, false, false] (by kernel_rfl) (appendLL (t := 23) (d := 31) (n := xs.length) (m := 1) (cc := 1) (ls := xs) (xs := gL g.mv (k)) (bytes := 24) (by first | rfl | omega | (simp; done) | (simp; omega)) (by kernel_rfl) (by kernel_rfl) (bx1432.as (by first | rfl | (simp; done))) ow1446 ow1445 ⟨ow1438.ne_new, ow1439.ne_new, (show w1119.heap.size ≤ w1426.heap.size by omega)⟩ (by omega) (by omega)) ?_
      rintro d_ v_ w1448 ⟨rfl, A1449, c1450, rfl, g1451, ha1452, ow1453⟩
      have hS1456 := hS1433.grO g1451 (by rw [hCs1174]; exact ⟨(fun e => by have := ow1441.ge _ e; simp only [add_block] at this; omega), (fun e => by have := ow1441.ge _ e; simp only [add_block] at this; omega), trivial⟩)
      refine ⟨_, rfl, fun act1455 f1454 => ⟨hS1456, ?_⟩⟩
      clear f1428
      clear bx1432 ow1443 ow1445 ow1446
      have szw1448 := g1451.size
      have e1457 := e1434.gr g1451 (fun k hk => by have := ow1441.ge k hk; omega)
      clear e1434
      have r1458 := r1435.gr g1451 (fun k hk => by have := ow1441.ge k hk; omega)
      clear r1435
      have bx1459 := bx1436.gr g1451 (fun e => by have := ow1441.ge _ e; omega)
      clear bx1436
      have bx1460 := bx1437.gr g1451 (fun e => by have := ow1441.ge _ e; omega)
      clear bx1437
      have ow1461 : OwnR w1448 (Sx (w10.heap.size) [some (w1404.heap.size), obk (A1401), obk (A1449), obk (A_22), some (b_25)]) A_21 c_23 3 (g.ow : List Int) := ow1438.grA g1451 (fun k hk => hk.2.2.1) (fun k hk hs => ⟨hs.1, hs.2.1, own_repl ha1452 hs.2.2.1 hk, hs.2.2.2.1, hs.2.2.2.2.1, hs.2.2.2.2.2⟩)
      clear ow1438
      have ow1462 : OwnR w1448 (Sx (w10.heap.size) [some (w1404.heap.size), obk (A1401), obk (A1449), obk (A_21), some (b_25)]) A_22 c_24 3 (g.pr : List Int) := ow1439.grA g1451 (fun k hk => hk.2.2.1) (fun k hk hs => ⟨hs.1, hs.2.1, own_repl ha1452 hs.2.2.1 hk, hs.2.2.2.1, hs.2.2.2.2.1, hs.2.2.2.2.2⟩)
      clear ow1439
      have bx1463 := bx1440.gr g1451 (fun e => by have := ow1441.ge _ e; omega)
      clear bx1440
      have r1464 := r1442.gr g1451 (fun k hk => by have := ow1441.ge k hk; omega)
      clear r1442
      clear ow1441 g1451 ha1452
      refine AtH.rd (by kernel_rfl) (fun d v c a w h => by cases d <;> exact h) hS1456 [11] [[]] [(32, .pointer (some ⟨b_25, 2, none⟩))] #[true, true, true, true, true, true, true, true, true, true, true, true, false] [] 1 f1454 (by kernel_rfl) trivial (fun act1466 f1465 => ?_)
      clear f1454
      refine AtH.all [12] 0 (by kernel_rfl) (by simp) ⟨?_, trivial⟩
      refine OneH.store f1465 (t := 23) (b := b_25) (off := 2) (v := .slice A1449 ((xs ++ [gL g.mv (k)]).length) c1450) #[true, true, true, true, true, true, true, true, true, true, true, true, true] (by kernel_rfl) (by kernel_rfl) bx1463 (by kernel_rfl) (fun act1472 w1468 g1469 bx1470 f1471 => ?_)
      clear f1465
      replace bx1470 : Bx w1468 (b_25) [.slice A_21 ((([] : List Int) ++ g.ow).length) c_23, .slice A_22 ((([] : List Int) ++ g.pr).length) c_24, .slice A1449 ((xs ++ [gL g.mv (k)]).length) c1450] 25 := bx1470
      have hS1467 := hS1456.gr' g1469 (by rw [hCs1174]; exact ⟨(by simp only [add_block]; omega), (by simp only [add_block]; omega), trivial⟩)
      have szw1468 := g1469.size
      have e1473 := e1457.gr g1469 (fun k h => by injection h; omega)
      clear e1457
      have r1474 := r1458.gr g1469 (fun k h => by injection h; omega)
      clear r1458
      have bx1475 := bx1459.gr g1469 (fun h => by injection h; omega)
      clear bx1459
      have bx1476 := bx1460.gr g1469 (fun h => by injection h; omega)
      clear bx1460
      have ow1477 := ow1461.gr g1469 (fun k hk => hk.2.2.2.2.1)
      clear ow1461
      have ow1478 := ow1462.gr g1469 (fun k hk => hk.2.2.2.2.1)
      clear ow1462
      have r1479 := r1464.gr g1469 (fun k h => by injection h; omega)
      clear r1464
      have ow1480 := ow1453.gr g1469 (fun k hk e => by have := Sx_base hk; injection e; omega)
      clear ow1453
      clear bx1463 g1469
      refine ⟨hS1467, ?_⟩
      refine AtH.done (by kernel_rfl) ?_
      clear hS1467
      refine b_n ?_
      refine t_n ?_
      have f1481 := f1471.sub (r := [(4, .int .i64 (k)), (3, .pointer (some ⟨b_25, 0, none⟩)), (2, .pointer (some ⟨w1.heap.size, 0, none⟩)), (1, .pointer (some ⟨w.heap.size, 0, none⟩))]) ⟨rfl, rfl, rfl, rfl, trivial⟩
      clear f1471
      refine At.start ?_
      refine At.rd f1481 3 [[], [.as_ (.int .i64 (k + 1))], []] [(4, .int .i64 (k + 1)), (20, .int .i64 (k + 1)), (19, .int .i64 (k))] [((.int .i64 (IntKind.i64.wrap (k + 1)) : Value) = .int .i64 (k + 1))] (by kernel_rfl) ⟨(w64 (by omega) (by omega)), trivial⟩ (fun act1483 f1482 => ?_)
      clear f1481
      refine At.done rfl ?_
      refine t_n ?_
      have f1484 := f1482.sub (r := [(4, .int .i64 (k + 1)), (3, .pointer (some ⟨b_25, 0, none⟩)), (2, .pointer (some ⟨w1.heap.size, 0, none⟩)), (1, .pointer (some ⟨w.heap.size, 0, none⟩))]) ⟨rfl, rfl, rfl, rfl, trivial⟩
      exact ⟨_, (by omega), (k + 1), (xs ++ [gL g.mv (k)] : List (List Int)), A1449, c1450, rfl, f1484, e1473, r1474, bx1475, bx1476, (ow1477.imp (fun g _ hs => ⟨hs.2.2.1, hs.2.2.2.1, hs.2.2.2.2.1, hs.2.2.2.2.2⟩)), (ow1478.imp (fun g _ hs => ⟨hs.2.2.1, hs.2.2.2.1, hs.2.2.2.2.1, hs.2.2.2.2.2⟩)), bx1470, ow1480, (by omega), (by omega), (takeLL_push hxs (by omega) (by omega)), (by omega), (by omega)⟩
     ·refine OneH.seq f1407 [[]] [(30, .slice (some ⟨w1404.heap.size, 0, none⟩) 1 1)] (w1404.alloc (.cells #[.slice A1401 ((([] : List Int) ++ (gL g.mv (k))).length) c1402] 22 (0, 0))) [] #[true, false, true, true, true, true, true, true, true, true, false, false, false] (by kernel_rfl) (by kernel_rfl) (by kernel_rfl) trivial (fun act1489 w1486 hw1487 f1488 => ?_)
      clear f1407
      have g1490 := gr_alloc hw1487
      have hS1493 := hS1409.gr g1490
      refine ⟨hS1493, ?_⟩
      have szw1486 := g1490.size
      have e1494 := e1411.gr g1490 no_row
      clear e1411
      have r1495 := r1412.gr g1490 (fun _ h => by cases h)
      clear r1412
      have bx1496 := bx1413.gr g1490 (by simp)
      clear bx1413
      have bx1497 := bx1414.gr g1490 (by simp)
      clear bx1414
      have ow1498 : OwnR w1486 (Sx (w10.heap.size) [some (w1404.heap.size), obk (A1401), obk (A_1139), obk (A_22), some (b_25)]) A_21 c_23 3 (g.ow : List Int) := ow1415.grA g1490 (fun _ _ h => by cases h) (fun k hk hs => ⟨(fun e => by injection e; omega), hs.1, hs.2.1, hs.2.2.1, hs.2.2.2.1, hs.2.2.2.2⟩)
      clear ow1415
      have ow1499 : OwnR w1486 (Sx (w10.heap.size) [some (w1404.heap.size), obk (A1401), obk (A_1139), obk (A_21), some (b_25)]) A_22 c_24 3 (g.pr : List Int) := ow1416.grA g1490 (fun _ _ h => by cases h) (fun k hk hs => ⟨(fun e => by injection e; omega), hs.1, hs.2.1, hs.2.2.1, hs.2.2.2.1, hs.2.2.2.2⟩)
      clear ow1416
      have bx1500 := bx1417.gr g1490 (by simp)
      clear bx1417
      have ow1501 : OwnLL w1486 (w1119.heap.size) [some (w1404.heap.size), obk (A1401), obk (A_21), obk (A_22)] A_1139 c_1140 22 3 (xs : List (List Int)) := ow1418.grA g1490 (fun _ _ h => by cases h) (fun k hk hs => ⟨(fun e => by injection e; omega), hs.1, hs.2.1, hs.2.2.1, hs.2.2.2⟩)
      clear ow1418
      have r1502 := r1419.gr g1490 (fun _ h => by cases h)
      clear r1419
      have ow1503 : OwnR w1486 (Sx (w1177.heap.size) [some (w1404.heap.size), obk (A_21), obk (A_22), obk (A_1139)]) A1401 c1402 3 (gL g.mv (k) : List Int) := ow1410.grA g1490 (fun _ _ h => by cases h) (fun k hk hs => ⟨(fun e => by injection e; omega), hs.1, hs.2.1, hs.2.2.1, hs.2.2.2⟩)
      clear ow1410
      have bx1492 : Bx w1486 (w1404.heap.size) [.slice A1401 ((([] : List Int) ++ (gL g.mv (k))).length) c1402] 22 := Bx.new hw1487
      have := bx1492.lt
      clear g1490 hw1487
      refine AtH.all [1] 3 (by kernel_rfl) (by simp) ⟨?_, trivial⟩
      refine OneH.seq f1488 [[.ld (.slice A_1139 xs.length c_1140)]] [(22, .slice A_1139 xs.length c_1140)] w1486 [(w1486.cell? ⟨b_25, 2, none⟩ = some (.slice A_1139 xs.length c_1140))] #[true, true, true, true, true, true, true, true, true, true, false, false, false] (by kernel_rfl) (by kernel_rfl) (by kernel_rfl) ⟨(bx1500.cell (i := 2) rfl), trivial⟩ (fun act1505 w1506 hw1507 f1504 => ?_)
      obtain rfl : w1486 = w1506 := hw1507.symm
      clear f1488
      refine ⟨hS1493, ?_⟩
      refine AtH.all [10] 2 (by kernel_rfl) (by simp) ⟨?_, trivial⟩
      have ow1509 : OwnR w1486 (Sx (w1119.heap.size) [obk (A_21), obk (A_22)]) A1401 c1402 3 (gL g.mv (k) : List Int) := ow1503.imp (fun g _ hs => ⟨hs.2.1, hs.2.2.1, (by have := Sx_base hs; show w1119.heap.size ≤ g; omega)⟩)
      have ow1510 : OwnLL w1486 (w1119.heap.size) [obk (A1401), obk (A_21), obk (A_22)] A_1139 c_1140 22 3 (xs : List (List Int)) := (ow1501.imp (fun g _ hs => ⟨hs.2.1, hs.2.2.1, hs.2.2.2.1, hs.2.2.2.2⟩))
      have hl1511 : (xs ++ [gL g.mv (k)]).length = (xs).length + 1 := by simp
      refine OneH.act f1504 #[true, true, true, true, true, true, true, true, true, true, true, false, false] (by kernel_rfl) (appendLL (t := 23) (d := 31) (n := xs.length) (m := 1) (cc := 1) (ls := xs) (xs := gL g.mv (k)) (bytes := 24) (by first | rfl | omega | (simp; done) | (simp; omega)) (by kernel_rfl) (by kernel_rfl) (bx1492.as (by first | rfl | (simp; done))) ow1510 ow1509 ⟨ow1498.ne_new, ow1499.ne_new, (show w1119.heap.size ≤ w1486.heap.size by omega)⟩ (by omega) (by omega)) ?_
      rintro d_ v_ w1512 ⟨rfl, A1513, c1514, rfl, g1515, ha1516, ow1517⟩
      have hS1520 := hS1493.grO g1515 (by rw [hCs1174]; exact ⟨(fun e => by have := ow1501.ge _ e; simp only [add_block] at this; omega), (fun e => by have := ow1501.ge _ e; simp only [add_block] at this; omega), trivial⟩)
      refine ⟨_, rfl, fun act1519 f1518 => ⟨hS1520, ?_⟩⟩
      clear f1504
      clear bx1492 ow1503 ow1509 ow1510
      have szw1512 := g1515.size
      have e1521 := e1494.gr g1515 (fun k hk => by have := ow1501.ge k hk; omega)
      clear e1494
      have r1522 := r1495.gr g1515 (fun k hk => by have := ow1501.ge k hk; omega)
      clear r1495
      have bx1523 := bx1496.gr g1515 (fun e => by have := ow1501.ge _ e; omega)
      clear bx1496
      have bx1524 := bx1497.gr g1515 (fun e => by have := ow1501.ge _ e; omega)
      clear bx1497
      have ow1525 : OwnR w1512 (Sx (w10.heap.size) [some (w1404.heap.size), obk (A1401), obk (A1513), obk (A_22), some (b_25)]) A_21 c_23 3 (g.ow : List Int) := ow1498.grA g1515 (fun k hk => hk.2.2.1) (fun k hk hs => ⟨hs.1, hs.2.1, own_repl ha1516 hs.2.2.1 hk, hs.2.2.2.1, hs.2.2.2.2.1, hs.2.2.2.2.2⟩)
      clear ow1498
      have ow1526 : OwnR w1512 (Sx (w10.heap.size) [some (w1404.heap.size), obk (A1401), obk (A1513), obk (A_21), some (b_25)]) A_22 c_24 3 (g.pr : List Int) := ow1499.grA g1515 (fun k hk => hk.2.2.1) (fun k hk hs => ⟨hs.1, hs.2.1, own_repl ha1516 hs.2.2.1 hk, hs.2.2.2.1, hs.2.2.2.2.1, hs.2.2.2.2.2⟩)
      clear ow1499
      have bx1527 := bx1500.gr g1515 (fun e => by have := ow1501.ge _ e; omega)
      clear bx1500
      have r1528 := r1502.gr g1515 (fun k hk => by have := ow1501.ge k hk; omega)
      clear r1502
      clear ow1501 g1515 ha1516
      refine AtH.rd (by kernel_rfl) (fun d v c a w h => by cases d <;> exact h) hS1520 [11] [[]] [(32, .pointer (some ⟨b_25, 2, none⟩))] #[true, true, true, true, true, true, true, true, true, true, true, true, false] [] 1 f1518 (by kernel_rfl) trivial (fun act1530 f1529 => ?_)
      clear f1518
      refine AtH.all [12] 0 (by kernel_rfl) (by simp) ⟨?_, trivial⟩
      refine OneH.store f1529 (t := 23) (b := b_25) (off := 2) (v := .slice A1513 ((xs ++ [gL g.mv (k)]).length) c1514) #[true, true, true, true, true, true, true, true, true, true, true, true, true] (by kernel_rfl) (by kernel_rfl) bx1527 (by kernel_rfl) (fun act1536 w1532 g1533 bx1534 f1535 => ?_)
      clear f1529
      replace bx1534 : Bx w1532 (b_25) [.slice A_21 ((([] : List Int) ++ g.ow).length) c_23, .slice A_22 ((([] : List Int) ++ g.pr).length) c_24, .slice A1513 ((xs ++ [gL g.mv (k)]).length) c1514] 25 := bx1534
      have hS1531 := hS1520.gr' g1533 (by rw [hCs1174]; exact ⟨(by simp only [add_block]; omega), (by simp only [add_block]; omega), trivial⟩)
      have szw1532 := g1533.size
      have e1537 := e1521.gr g1533 (fun k h => by injection h; omega)
      clear e1521
      have r1538 := r1522.gr g1533 (fun k h => by injection h; omega)
      clear r1522
      have bx1539 := bx1523.gr g1533 (fun h => by injection h; omega)
      clear bx1523
      have bx1540 := bx1524.gr g1533 (fun h => by injection h; omega)
      clear bx1524
      have ow1541 := ow1525.gr g1533 (fun k hk => hk.2.2.2.2.1)
      clear ow1525
      have ow1542 := ow1526.gr g1533 (fun k hk => hk.2.2.2.2.1)
      clear ow1526
      have r1543 := r1528.gr g1533 (fun k h => by injection h; omega)
      clear r1528
      have ow1544 := ow1517.gr g1533 (fun k hk e => by have := Sx_base hk; injection e; omega)
      clear ow1517
      clear bx1527 g1533
      refine ⟨hS1531, ?_⟩
      refine AtH.done (by kernel_rfl) ?_
      clear hS1531
      refine b_n ?_
      refine t_n ?_
      have f1545 := f1535.sub (r := [(4, .int .i64 (k)), (3, .pointer (some ⟨b_25, 0, none⟩)), (2, .pointer (some ⟨w1.heap.size, 0, none⟩)), (1, .pointer (some ⟨w.heap.size, 0, none⟩))]) ⟨rfl, rfl, rfl, rfl, trivial⟩
      clear f1535
      refine At.start ?_
      refine At.rd f1545 3 [[], [.as_ (.int .i64 (k + 1))], []] [(4, .int .i64 (k + 1)), (20, .int .i64 (k + 1)), (19, .int .i64 (k))] [((.int .i64 (IntKind.i64.wrap (k + 1)) : Value) = .int .i64 (k + 1))] (by kernel_rfl) ⟨(w64 (by omega) (by omega)), trivial⟩ (fun act1547 f1546 => ?_)
      clear f1545
      refine At.done rfl ?_
      refine t_n ?_
      have f1548 := f1546.sub (r := [(4, .int .i64 (k + 1)), (3, .pointer (some ⟨b_25, 0, none⟩)), (2, .pointer (some ⟨w1.heap.size, 0, none⟩)), (1, .pointer (some ⟨w.heap.size, 0, none⟩))]) ⟨rfl, rfl, rfl, rfl, trivial⟩
      exact ⟨_, (by omega), (k + 1), (xs ++ [gL g.mv (k)] : List (List Int)), A1513, c1514, rfl, f1548, e1537, r1538, bx1539, bx1540, (ow1541.imp (fun g _ hs => ⟨hs.2.2.1, hs.2.2.2.1, hs.2.2.2.2.1, hs.2.2.2.2.2⟩)), (ow1542.imp (fun g _ hs => ⟨hs.2.2.1, hs.2.2.2.1, hs.2.2.2.2.1, hs.2.2.2.2.2⟩)), bx1534, ow1544, (by omega), (by omega), (takeLL_push hxs (by omega) (by omega)), (by omega), (by omega)⟩
  ·have q1549 := of_decide_eq_false h1161
   refine wp_exit ?_
   refine t_e ?_
   refine t_e ?_
   refine b_e ?_
   refine t_n ?_
   have f1550 := f1160.sub (r := [(3, .pointer (some ⟨b_25, 0, none⟩)), (2, .pointer (some ⟨w1.heap.size, 0, none⟩))]) ⟨rfl, rfl, trivial⟩
   clear f1160
   refine wp_seq ?_
   refine At.start ?_
   refine At.rd f1550 1 [[.ld (.slice A_21 ((([] : List Int) ++ g.ow).length) c_23), .ld (.slice A_22 ((([] : List Int) ++ g.pr).length) c_24), .ld (.slice A_1139 xs.length c_1140)]] [(33, .agg #[.slice A_21 ((([] : List Int) ++ g.ow).length) c_23, .slice A_22 ((([] : List Int) ++ g.pr).length) c_24, .slice A_1139 xs.length c_1140])] [(w1143.cell? ⟨b_25, 0, none⟩ = some (.slice A_21 ((([] : List Int) ++ g.ow).length) c_23)), (w1143.cell? ⟨b_25, 1, none⟩ = some (.slice A_22 ((([] : List Int) ++ g.pr).length) c_24)), (w1143.cell? ⟨b_25, 2, none⟩ = some (.slice A_1139 xs.length c_1140))] (by kernel_rfl) ⟨(bx1152.cell (i := 0) rfl), (bx1152.cell (i := 1) rfl), (bx1152.cell (i := 2) rfl), trivial⟩ (fun act1552 f1551 => ?_)
   clear f1550
   refine At.store f1551 (t := 25) (b := w1.heap.size) (off := 0) (v := .agg #[.slice A_21 ((([] : List Int) ++ g.ow).length) c_23, .slice A_22 ((([] : List Int) ++ g.pr).length) c_24, .slice A_1139 xs.length c_1140]) (by kernel_rfl) bx1149 (by kernel_rfl) (fun act1557 w1553 g1554 bx1555 f1556 => ?_)
   clear f1551
   replace bx1555 : Bx w1553 (w1.heap.size) [.slice A_21 ((([] : List Int) ++ g.ow).length) c_23, .slice A_22 ((([] : List Int) ++ g.pr).length) c_24, .slice A_1139 xs.length c_1140] 25 := bx1555
   have szw1553 := g1554.size
   have e1558 := e1144.gr g1554 (fun k h => by injection h; omega)
   clear e1144
   have r1559 := r1147.gr g1554 (fun k h => by injection h; omega)
   clear r1147
   have bx1560 := bx1148.gr g1554 (fun h => by injection h; omega)
   clear bx1148
   have ow1561 := ow1150.gr g1554 (fun k hk e => by have := Sx_base hk; injection e; omega)
   clear ow1150
   have ow1562 := ow1151.gr g1554 (fun k hk e => by have := Sx_base hk; injection e; omega)
   clear ow1151
   have bx1563 := bx1152.gr g1554 (fun h => by injection h; omega)
   clear bx1152
   have ow1564 := r1153.gr g1554 (fun k hk e => by have := Sx_base hk; injection e; omega)
   clear r1153
   clear bx1149 g1554
   refine At.done rfl ?_
   refine t_n ?_
   have f1565 := f1556.sub (r := [(2, .pointer (some ⟨w1.heap.size, 0, none⟩))]) ⟨rfl, trivial⟩
   clear f1556
   refine wp_ret ?_
   refine ret_ f1565 [[.slice A_21 ((([] : List Int) ++ g.ow).length) c_23, .slice A_22 ((([] : List Int) ++ g.pr).length) c_24, .slice A_1139 xs.length c_1140]] [.agg #[.slice A_21 ((([] : List Int) ++ g.ow).length) c_23, .slice A_22 ((([] : List Int) ++ g.pr).length) c_24, .slice A_1139 xs.length c_1140]] [(w1553.cell? ⟨w1.heap.size, 0, none⟩ = some (.slice A_21 ((([] : List Int) ++ g.ow).length) c_23)), (w1553.cell? ⟨w1.heap.size, 1, none⟩ = some (.slice A_22 ((([] : List Int) ++ g.pr).length) c_24)), (w1553.cell? ⟨w1.heap.size, 2, none⟩ = some (.slice A_1139 xs.length c_1140))] (by kernel_rfl) ⟨(bx1555.cell (i := 0) rfl), (bx1555.cell (i := 1) rfl), (bx1555.cell (i := 2) rfl), trivial⟩ ?_
   have hL_ : OwnLL w1553 w.heap.size [obk A_21, obk A_22] A_1139 c_1140 22 3 xs := (ow1564.imp (fun g _ hs => ⟨hs.1, hs.2.1, (by have := Sx_base hs; show w.heap.size ≤ g; omega)⟩))
   have hq_ : xs = g.mv := takeLL_end hxs (by omega)
   rw [hq_] at hL_
   exact ⟨A_21, c_23, A_22, c_24, A_1139, c_1140, ret_eq (by rw [← hq_]; rfl), e1558, (ow1561.imp (fun g _ hs => ⟨hs.2.1, hs.1, (by have := Sx_base hs; show w.heap.size ≤ g; omega)⟩)), (ow1562.imp (fun g _ hs => ⟨hs.2.1, hs.1, (by have := Sx_base hs; show w.heap.size ≤ g; omega)⟩)), hL_⟩

end Go.Proofs.Ytklbpajmoklheaa
