/-
  A walk of a Go function, printed by a program of this repo. Conditions: what the theorems name.
-/
import Derived.Test.YtkkophhnliplhaaDoorWClone
set_option linter.unusedVariables false
set_option linter.unusedSimpArgs false
namespace Go.Proofs.YtkkophhnliplhaaDoor
open Go Go.RowKit

set_option maxHeartbeats 4000000 in
theorem copyM_any {Ag0 Ag1 Ag2 : Option Addr} {cg0 cg1 cg2 : Nat} {g : GameL} {w : World} (rg : RdG w 0 w.heap.size Ag0 Ag1 Ag2 cg0 cg1 cg2 g) :
    Calls Tryd.prog 17 #[.agg #[.slice Ag0 g.ow.length cg0, .slice Ag1 g.pr.length cg1, .slice Ag2 g.mv.length cg2]] w fun e w' => ∃ A0 c0 A1 c1 A2 c2, e = .returned (.agg #[.slice A0 g.ow.length c0, .slice A1 g.pr.length c1, .slice A2 g.mv.length c2]) ∧ Ext w w' ∧ OwnR w' (Sx w.heap.size [obk A1, obk A2]) A0 c0 3 g.ow ∧ OwnR w' (Sx w.heap.size [obk A0, obk A2]) A1 c1 3 g.pr ∧ OwnLL w' w.heap.size [obk A0, obk A1] A2 c2 22 3 g.mv := by
 have hlg0 := rg.ow.len
 have hlg1 := rg.pr.len
 have hlg2 := rg.mv.len
 have hkg0 := rg.k0
 have hkg1 := rg.k1
 have hkg2 := rg.k2
 refine enter_ (args := [.agg #[.slice Ag0 g.ow.length cg0, .slice Ag1 g.pr.length cg1, .slice Ag2 g.mv.length cg2]]) Tryd.func17 rfl Tryd.ntmps17 (Nat.le_of_ble_eq_true rfl) (fun act0 f0 => ?_)
 have e0 : Ext w w := Ext.refl w
 refine wp_seq ?_
 refine At.start ?_
 refine At.seq f0 1 [[]] [(1, .pointer (some ⟨w.heap.size, 0, none⟩))] (w.alloc (.cells #[.slice Ag0 g.ow.length cg0, .slice Ag1 g.pr.length cg1, .slice Ag2 g.mv.length cg2] 25 (0, 0))) [] (by kernel_rfl) trivial (fun act4 w1 hw2 f3 => ?_)
 clear f0
 have g5 := gr_alloc hw2
 have szw1 := g5.size
 replace e0 := e0.gr g5 no_row
 have r8 := rg.gr g5 (fun _ h => by cases h)
 clear rg
 have bx9 : Bx w1 (w.heap.size) [.slice Ag0 g.ow.length cg0, .slice Ag1 g.pr.length cg1, .slice Ag2 g.mv.length cg2] 25 := Bx.new hw2
 have := bx9.lt
 clear g5 hw2
 refine At.seq f3 1 [[]] [(2, .pointer (some ⟨w1.heap.size, 0, none⟩))] (w1.alloc (.cells #[.slice none 0 0, .slice none 0 0, .slice none 0 0] 25 (0, 0))) [] (by kernel_rfl) trivial (fun act13 w10 hw11 f12 => ?_)
 clear f3
 have g14 := gr_alloc hw11
 have szw10 := g14.size
 replace e0 := e0.gr g14 no_row
 replace r8 := r8.gr g14 (fun _ h => by cases h)
 replace bx9 := bx9.gr g14 (by simp)
 have bx19 : Bx w10 (w1.heap.size) [.slice none 0 0, .slice none 0 0, .slice none 0 0] 25 := Bx.new hw11
 have := bx19.lt
 clear g14 hw11
 refine At.done rfl ?_
 refine t_n ?_
 have f20 := f12.sub (r := [(2, .pointer (some ⟨w1.heap.size, 0, none⟩)), (1, .pointer (some ⟨w.heap.size, 0, none⟩))]) ⟨rfl, rfl, trivial⟩
 clear f12
 refine wp_seq (cut (fun a_ w_ => ∃ (b_25 : Nat) (A_21 : Option Addr) (A_22 : Option Addr) (c_23 : Nat) (c_24 : Nat), (Frm 29 a_ [(3, .pointer (some ⟨b_25, 0, none⟩)), (2, .pointer (some ⟨w1.heap.size, 0, none⟩)), (1, .pointer (some ⟨w.heap.size, 0, none⟩))]) ∧ (Ext w w_) ∧ (RdG w_ 0 w.heap.size Ag0 Ag1 Ag2 cg0 cg1 cg2 g) ∧ (Bx w_ (w.heap.size) [.slice Ag0 g.ow.length cg0, .slice Ag1 g.pr.length cg1, .slice Ag2 g.mv.length cg2] 25) ∧ (Bx w_ (w1.heap.size) [.slice none 0 0, .slice none 0 0, .slice none 0 0] 25) ∧ (OwnR w_ (Sx (w10.heap.size) [obk (A_22), some (b_25)]) (A_21) (c_23) 3 (g.ow : List Int)) ∧ (OwnR w_ (Sx (w10.heap.size) [obk (A_21), some (b_25)]) (A_22) (c_24) 3 (g.pr : List Int)) ∧ (Bx w_ (b_25) [.slice (A_21) ((g.ow).length) (c_23), .slice (A_22) ((g.pr).length) (c_24), .slice none 0 0] 25) ∧ (w10.heap.size ≤ b_25) ∧ (w10.heap.size ≤ w_.heap.size)) ?_ ?_)
 ·obtain ⟨Cs26, hCs27⟩ : ∃ c : List (Addr × Value), c = [(⟨w.heap.size, 0, none⟩, (.slice Ag0 g.ow.length cg0)), (⟨w.heap.size, 1, none⟩, (.slice Ag1 g.pr.length cg1))] := ⟨_, rfl⟩
  have hS28 : HoldsC Cs26 w10 := by rw [hCs27]; exact ⟨(bx9.cell (i := 0) rfl), (bx9.cell (i := 1) rfl), trivial⟩
  refine AtH.start Cs26 9 #[false, false, false, false, false, false, false, false, false] (by kernel_rfl) rfl rfl (fun w30 hw31 => ?_)
  have g29 := gr_drew hw31
  have hS32 := hS28.gr g29
  have szw30 := g29.size
  replace e0 := e0.gr g29 no_row
  replace r8 := r8.gr g29 (fun _ h => by cases h)
  replace bx9 := bx9.gr g29 (by simp)
  replace bx19 := bx19.gr g29 (by simp)
  clear g29 hw31 hS28
  refine AtH.rd (by kernel_rfl) (fun d v c a w h => by cases d <;> exact h) hS32 [0, 1, 3, 4] [[], [.ld (.slice Ag0 g.ow.length cg0)], [], [.ld (.slice Ag1 g.pr.length cg1)]] [(10, .slice Ag1 g.pr.length cg1), (9, .pointer (some ⟨w.heap.size, 1, none⟩)), (7, .slice Ag0 g.ow.length cg0), (6, .pointer (some ⟨w.heap.size, 0, none⟩))] #[true, true, false, true, true, false, false, false, false] [(∃ j_ : Nat, Cs26[j_]? = some (⟨w.heap.size, 0, none⟩, (.slice Ag0 g.ow.length cg0))), (∃ j_ : Nat, Cs26[j_]? = some (⟨w.heap.size, 1, none⟩, (.slice Ag1 g.pr.length cg1)))] 5 f20 (by kernel_rfl) ⟨⟨0, by rw [hCs27]; rfl⟩, ⟨1, by rw [hCs27]; rfl⟩, trivial⟩ (fun act38 f37 => ?_)
  clear f20
  refine AtH.all [2, 7] 4 (by kernel_rfl) (by simp) ⟨?_, ?_, trivial⟩
  ·refine OneH.call f37 37 #[.slice Ag0 g.ow.length cg0] (some 8) #[true, true, true, true, true, false, false, false, false] (by kernel_rfl) (by kernel_rfl) (clone_any (la := g.ow) (r8.ow.wide (Nat.zero_le _) (by omega))) ?_
   rintro e_ w44 ⟨A40, c41, rfl, he, ow42⟩
   refine ⟨_, rfl, _, rfl, fun act45 f46 => ?_⟩
   clear f37
   have g47 := gr_ext he
   have hS39 := hS32.gr g47
   have szw44 := g47.size
   replace e0 := e0.gr g47 no_row
   replace r8 := r8.gr g47 (fun _ h => by cases h)
   replace bx9 := bx9.gr g47 (by simp)
   replace bx19 := bx19.gr g47 (by simp)
   clear g47 he
   refine ⟨hS39, ?_⟩
   refine AtH.all [5, 7] 3 (by kernel_rfl) (by simp) ⟨?_, ?_, trivial⟩
   ·refine OneH.call f46 37 #[.slice Ag1 g.pr.length cg1] (some 11) #[true, true, true, true, true, true, false, false, false] (by kernel_rfl) (by kernel_rfl) (clone_any (la := g.pr) (r8.pr.wide (Nat.zero_le _) (by omega))) ?_
    rintro e_ w57 ⟨A53, c54, rfl, he, ow55⟩
    refine ⟨_, rfl, _, rfl, fun act58 f59 => ?_⟩
    clear f46
    have g60 := gr_ext he
    have hS52 := hS39.gr g60
    have lt61 := ow42.lt
    have szw57 := g60.size
    replace e0 := e0.gr g60 no_row
    replace r8 := r8.gr g60 (fun _ h => by cases h)
    replace bx9 := bx9.gr g60 (by simp)
    replace bx19 := bx19.gr g60 (by simp)
    replace ow42 : OwnR w57 (Sx (w30.heap.size) [obk (A53)]) A40 c41 3 (g.ow : List Int) := ow42.grA g60 (fun _ _ h => by cases h) (fun k hk hs => ⟨(fun e => by have := ow55.ge _ e; omega), hs⟩)
    replace ow55 : OwnR w57 (Sx (w44.heap.size) [obk (A40)]) A53 c54 3 (g.pr : List Int) := ow55.imp (fun g _ hs => ⟨(fun e => by have := lt61 _ e; have := Sx_base hs; omega), hs⟩)
    clear lt61
    clear g60 he
    refine ⟨hS52, ?_⟩
    refine AtH.rd (by kernel_rfl) (fun d v c a w h => by cases d <;> exact h) hS52 [6] [[]] [(12, .agg #[.slice A40 ((g.ow).length) c41, .slice A53 ((g.pr).length) c54, .slice none 0 0])] #[true, true, true, true, true, true, true, false, false] [] 2 f59 (by kernel_rfl) trivial (fun act69 f68 => ?_)
    clear f59
    refine AtH.all [7] 1 (by kernel_rfl) (by simp) ⟨?_, trivial⟩
    refine OneH.seq f68 [[]] [(3, .pointer (some ⟨w57.heap.size, 0, none⟩))] (w57.alloc (.cells #[.slice none 0 0, .slice none 0 0, .slice none 0 0] 25 (0, 0))) [] #[true, true, true, true, true, true, true, true, false] (by kernel_rfl) (by kernel_rfl) (by kernel_rfl) trivial (fun act74 w71 hw72 f73 => ?_)
    clear f68
    have g75 := gr_alloc hw72
    have hS70 := hS52.gr g75
    have szw71 := g75.size
    replace e0 := e0.gr g75 no_row
    replace r8 := r8.gr g75 (fun _ h => by cases h)
    replace bx9 := bx9.gr g75 (by simp)
    replace bx19 := bx19.gr g75 (by simp)
    replace ow42 : OwnR w71 (Sx (w30.heap.size) [some (w57.heap.size), obk (A53)]) A40 c41 3 (g.ow : List Int) := ow42.grA g75 (fun _ _ h => by cases h) (fun k hk hs => ⟨(fun e => by injection e; omega), hs.1, hs.2⟩)
    replace ow55 : OwnR w71 (Sx (w44.heap.size) [some (w57.heap.size), obk (A40)]) A53 c54 3 (g.pr : List Int) := ow55.grA g75 (fun _ _ h => by cases h) (fun k hk hs => ⟨(fun e => by injection e; omega), hs.1, hs.2⟩)
    have bx83 : Bx w71 (w57.heap.size) [.slice none 0 0, .slice none 0 0, .slice none 0 0] 25 := Bx.new hw72
    have := bx83.lt
    clear g75 hw72
    refine ⟨hS70, ?_⟩
    refine AtH.all [8] 0 (by kernel_rfl) (by simp) ⟨?_, trivial⟩
    refine OneH.store f73 (t := 25) (b := w57.heap.size) (off := 0) (v := .agg #[.slice A40 ((g.ow).length) c41, .slice A53 ((g.pr).length) c54, .slice none 0 0]) #[true, true, true, true, true, true, true, true, true] (by kernel_rfl) (by kernel_rfl) bx83 (by kernel_rfl) (fun act89 w85 g86 bx87 f88 => ?_)
    clear f73
    replace bx87 : Bx w85 (w57.heap.size) [.slice A40 ((g.ow).length) c41, .slice A53 ((g.pr).length) c54, .slice none 0 0] 25 := bx87
    have hS84 := hS70.gr' g86 (by rw [hCs27]; exact ⟨(by simp only [add_block]; omega), (by simp only [add_block]; omega), trivial⟩)
    have szw85 := g86.size
    replace e0 := e0.gr g86 (fun k h => by injection h; omega)
    replace r8 := r8.gr g86 (fun k h => by injection h; omega)
    replace bx9 := bx9.gr g86 (fun h => by injection h; omega)
    replace bx19 := bx19.gr g86 (fun h => by injection h; omega)
    replace ow42 := ow42.gr g86 (fun k hk => hk.1)
    replace ow55 := ow55.gr g86 (fun k hk => hk.1)
    clear bx83 g86
    refine ⟨hS84, ?_⟩
    refine AtH.done (by kernel_rfl) ?_
    clear hS84
    refine t_n ?_
    have f96 := f88.sub (r := [(3, .pointer (some ⟨w57.heap.size, 0, none⟩)), (2, .pointer (some ⟨w1.heap.size, 0, none⟩)), (1, .pointer (some ⟨w.heap.size, 0, none⟩))]) ⟨rfl, rfl, rfl, trivial⟩
    exact ⟨w57.heap.size, A40, A53, c41, c54, f96, e0, r8, bx9, bx19, (ow42.imp (fun g _ hs => ⟨hs.2.1, hs.1, (by have := Sx_base hs; show w10.heap.size ≤ g; omega)⟩)), (ow55.imp (fun g _ hs => ⟨hs.2.1, hs.1, (by have := Sx_base hs; show w10.heap.size ≤ g; omega)⟩)), bx87, (by omega), (by omega)⟩
   ·refine OneH.seq f46 [[]] [(3, .pointer (some ⟨w44.heap.size, 0, none⟩))] (w44.alloc (.cells #[.slice none 0 0, .slice none 0 0, .slice none 0 0] 25 (0, 0))) [] #[true, true, true, true, true, false, false, true, false] (by kernel_rfl) (by kernel_rfl) (by kernel_rfl) trivial (fun act101 w98 hw99 f100 => ?_)
    clear f46
    have g102 := gr_alloc hw99
    have hS97 := hS39.gr g102
    have szw98 := g102.size
    replace e0 := e0.gr g102 no_row
    replace r8 := r8.gr g102 (fun _ h => by cases h)
    replace bx9 := bx9.gr g102 (by simp)
    replace bx19 := bx19.gr g102 (by simp)
    replace ow42 : OwnR w98 (Sx (w30.heap.size) [some (w44.heap.size)]) A40 c41 3 (g.ow : List Int) := ow42.grA g102 (fun _ _ h => by cases h) (fun k hk hs => ⟨(fun e => by injection e; omega), hs⟩)
    have bx109 : Bx w98 (w44.heap.size) [.slice none 0 0, .slice none 0 0, .slice none 0 0] 25 := Bx.new hw99
    have := bx109.lt
    clear g102 hw99
    refine ⟨hS97, ?_⟩
    refine AtH.all [5] 2 (by kernel_rfl) (by simp) ⟨?_, trivial⟩
    refine OneH.call f100 37 #[.slice Ag1 g.pr.length cg1] (some 11) #[true, true, true, true, true, true, false, true, false] (by kernel_rfl) (by kernel_rfl) (clone_any (la := g.pr) (r8.pr.wide (Nat.zero_le _) (by omega))) ?_
    rintro e_ w115 ⟨A111, c112, rfl, he, ow113⟩
    refine ⟨_, rfl, _, rfl, fun act116 f117 => ?_⟩
    clear f100
    have g118 := gr_ext he
    have hS110 := hS97.gr g118
    have lt119 := ow42.lt
    have szw115 := g118.size
    replace e0 := e0.gr g118 no_row
    replace r8 := r8.gr g118 (fun _ h => by cases h)
    replace bx9 := bx9.gr g118 (by simp)
    replace bx19 := bx19.gr g118 (by simp)
    replace ow42 : OwnR w115 (Sx (w30.heap.size) [obk (A111), some (w44.heap.size)]) A40 c41 3 (g.ow : List Int) := ow42.grA g118 (fun _ _ h => by cases h) (fun k hk hs => ⟨(fun e => by have := ow113.ge _ e; omega), hs.1, hs.2⟩)
    replace bx109 := bx109.gr g118 (by simp)
    replace ow113 : OwnR w115 (Sx (w98.heap.size) [obk (A40)]) A111 c112 3 (g.pr : List Int) := ow113.imp (fun g _ hs => ⟨(fun e => by have := lt119 _ e; have := Sx_base hs; omega), hs⟩)
    clear lt119
    clear g118 he
    refine ⟨hS110, ?_⟩
    refine AtH.rd (by kernel_rfl) (fun d v c a w h => by cases d <;> exact h) hS110 [6] [[]] [(12, .agg #[.slice A40 ((g.ow).length) c41, .slice A111 ((g.pr).length) c112, .slice none 0 0])] #[true, true, true, true, true, true, true, true, false] [] 1 f117 (by kernel_rfl) trivial (fun act128 f127 => ?_)
    clear f117
    refine AtH.all [8] 0 (by kernel_rfl) (by simp) ⟨?_, trivial⟩
    refine OneH.store f127 (t := 25) (b := w44.heap.size) (off := 0) (v := .agg #[.slice A40 ((g.ow).length) c41, .slice A111 ((g.pr).length) c112, .slice none 0 0]) #[true, true, true, true, true, true, true, true, true] (by kernel_rfl) (by kernel_rfl) bx109 (by kernel_rfl) (fun act134 w130 g131 bx132 f133 => ?_)
    clear f127
    replace bx132 : Bx w130 (w44.heap.size) [.slice A40 ((g.ow).length) c41, .slice A111 ((g.pr).length) c112, .slice none 0 0] 25 := bx132
    have hS129 := hS110.gr' g131 (by rw [hCs27]; exact ⟨(by simp only [add_block]; omega), (by simp only [add_block]; omega), trivial⟩)
    have szw130 := g131.size
    replace e0 := e0.gr g131 (fun k h => by injection h; omega)
    replace r8 := r8.gr g131 (fun k h => by injection h; omega)
    replace bx9 := bx9.gr g131 (fun h => by injection h; omega)
    replace bx19 := bx19.gr g131 (fun h => by injection h; omega)
    replace ow42 := ow42.gr g131 (fun k hk => hk.2.1)
    replace ow113 := ow113.gr g131 (fun k hk e => by have := Sx_base hk; injection e; omega)
    clear bx109 g131
    refine ⟨hS129, ?_⟩
    refine AtH.done (by kernel_rfl) ?_
    clear hS129
    refine t_n ?_
    have f141 := f133.sub (r := [(3, .pointer (some ⟨w44.heap.size, 0, none⟩)), (2, .pointer (some ⟨w1.heap.size, 0, none⟩)), (1, .pointer (some ⟨w.heap.size, 0, none⟩))]) ⟨rfl, rfl, rfl, trivial⟩
    exact ⟨w44.heap.size, A40, A111, c41, c112, f141, e0, r8, bx9, bx19, (ow42.imp (fun g _ hs => ⟨hs.1, hs.2.1, (by have := Sx_base hs; show w10.heap.size ≤ g; omega)⟩)), (ow113.imp (fun g _ hs => ⟨hs.1, (fun e => by have := Sx_base hs; injection e; omega), (by have := Sx_base hs; show w10.heap.size ≤ g; omega)⟩)), bx132, (by omega), (by omega)⟩
  ·refine OneH.seq f37 [[]] [(3, .pointer (some ⟨w30.heap.size, 0, none⟩))] (w30.alloc (.cells #[.slice none 0 0, .slice none 0 0, .slice none 0 0] 25 (0, 0))) [] #[true, true, false, true, true, false, false, true, false] (by kernel_rfl) (by kernel_rfl) (by kernel_rfl) trivial (fun act146 w143 hw144 f145 => ?_)
   clear f37
   have g147 := gr_alloc hw144
   have hS142 := hS32.gr g147
   have szw143 := g147.size
   replace e0 := e0.gr g147 no_row
   replace r8 := r8.gr g147 (fun _ h => by cases h)
   replace bx9 := bx9.gr g147 (by simp)
   replace bx19 := bx19.gr g147 (by simp)
   have bx153 : Bx w143 (w30.heap.size) [.slice none 0 0, .slice none 0 0, .slice none 0 0] 25 := Bx.new hw144
   have := bx153.lt
   clear g147 hw144
   refine ⟨hS142, ?_⟩
   refine AtH.all [2] 3 (by kernel_rfl) (by simp) ⟨?_, trivial⟩
   refine OneH.call f145 37 #[.slice Ag0 g.ow.length cg0] (some 8) #[true, true, true, true, true, false, false, true, false] (by kernel_rfl) (by kernel_rfl) (clone_any (la := g.ow) (r8.ow.wide (Nat.zero_le _) (by omega))) ?_
   rintro e_ w159 ⟨A155, c156, rfl, he, ow157⟩
   refine ⟨_, rfl, _, rfl, fun act160 f161 => ?_⟩
   clear f145
   have g162 := gr_ext he
   have hS154 := hS142.gr g162
   have szw159 := g162.size
   replace e0 := e0.gr g162 no_row
   replace r8 := r8.gr g162 (fun _ h => by cases h)
   replace bx9 := bx9.gr g162 (by simp)
   replace bx19 := bx19.gr g162 (by simp)
   replace bx153 := bx153.gr g162 (by simp)
   clear g162 he
   refine ⟨hS154, ?_⟩
   refine AtH.all [5] 2 (by kernel_rfl) (by simp) ⟨?_, trivial⟩
   refine OneH.call f161 37 #[.slice Ag1 g.pr.length cg1] (some 11) #[true, true, true, true, true, true, false, true, false] (by kernel_rfl) (by kernel_rfl) (clone_any (la := g.pr) (r8.pr.wide (Nat.zero_le _) (by omega))) ?_
   rintro e_ w173 ⟨A169, c170, rfl, he, ow171⟩
   refine ⟨_, rfl, _, rfl, fun act174 f175 => ?_⟩
   clear f161
   have g176 := gr_ext he
   have hS168 := hS154.gr g176
   have lt177 := ow157.lt
   have szw173 := g176.size
   replace e0 := e0.gr g176 no_row
   replace r8 := r8.gr g176 (fun _ h => by cases h)
   replace bx9 := bx9.gr g176 (by simp)
   replace bx19 := bx19.gr g176 (by simp)
   replace bx153 := bx153.gr g176 (by simp)
   replace ow157 : OwnR w173 (Sx (w143.heap.size) [obk (A169)]) A155 c156 3 (g.ow : List Int) := ow157.grA g176 (fun _ _ h => by cases h) (fun k hk hs => ⟨(fun e => by have := ow171.ge _ e; omega), hs⟩)
   replace ow171 : OwnR w173 (Sx (w159.heap.size) [obk (A155)]) A169 c170 3 (g.pr : List Int) := ow171.imp (fun g _ hs => ⟨(fun e => by have := lt177 _ e; have := Sx_base hs; omega), hs⟩)
   clear lt177
   clear g176 he
   refine ⟨hS168, ?_⟩
   refine AtH.rd (by kernel_rfl) (fun d v c a w h => by cases d <;> exact h) hS168 [6] [[]] [(12, .agg #[.slice A155 ((g.ow).length) c156, .slice A169 ((g.pr).length) c170, .slice none 0 0])] #[true, true, true, true, true, true, true, true, false] [] 1 f175 (by kernel_rfl) trivial (fun act186 f185 => ?_)
   clear f175
   refine AtH.all [8] 0 (by kernel_rfl) (by simp) ⟨?_, trivial⟩
   refine OneH.store f185 (t := 25) (b := w30.heap.size) (off := 0) (v := .agg #[.slice A155 ((g.ow).length) c156, .slice A169 ((g.pr).length) c170, .slice none 0 0]) #[true, true, true, true, true, true, true, true, true] (by kernel_rfl) (by kernel_rfl) bx153 (by kernel_rfl) (fun act192 w188 g189 bx190 f191 => ?_)
   clear f185
   replace bx190 : Bx w188 (w30.heap.size) [.slice A155 ((g.ow).length) c156, .slice A169 ((g.pr).length) c170, .slice none 0 0] 25 := bx190
   have hS187 := hS168.gr' g189 (by rw [hCs27]; exact ⟨(by simp only [add_block]; omega), (by simp only [add_block]; omega), trivial⟩)
   have szw188 := g189.size
   replace e0 := e0.gr g189 (fun k h => by injection h; omega)
   replace r8 := r8.gr g189 (fun k h => by injection h; omega)
   replace bx9 := bx9.gr g189 (fun h => by injection h; omega)
   replace bx19 := bx19.gr g189 (fun h => by injection h; omega)
   replace ow157 := ow157.gr g189 (fun k hk e => by have := Sx_base hk; injection e; omega)
   replace ow171 := ow171.gr g189 (fun k hk e => by have := Sx_base hk; injection e; omega)
   clear bx153 g189
   refine ⟨hS187, ?_⟩
   refine AtH.done (by kernel_rfl) ?_
   clear hS187
   refine t_n ?_
   have f199 := f191.sub (r := [(3, .pointer (some ⟨w30.heap.size, 0, none⟩)), (2, .pointer (some ⟨w1.heap.size, 0, none⟩)), (1, .pointer (some ⟨w.heap.size, 0, none⟩))]) ⟨rfl, rfl, rfl, trivial⟩
   exact ⟨w30.heap.size, A155, A169, c156, c170, f199, e0, r8, bx9, bx19, (ow157.imp (fun g _ hs => ⟨hs.1, (fun e => by have := Sx_base hs; injection e; omega), (by have := Sx_base hs; show w10.heap.size ≤ g; omega)⟩)), (ow171.imp (fun g _ hs => ⟨hs.1, (fun e => by have := Sx_base hs; injection e; omega), (by have := Sx_base hs; show w10.heap.size ≤ g; omega)⟩)), bx190, (by omega), (by omega)⟩
 ·clear r8
  clear bx9
  clear bx19
  clear f20 e0
  intro act200 w201 ⟨b_25, A_21, A_22, c_23, c_24, f202, e203, r204, bx205, bx206, ow207, ow208, bx209, hb210, szz211⟩
  have szw201 := e203.size
  have := bx205.lt
  have := bx206.lt
  have := bx209.lt
  refine wp_seq ?_
  refine wp_seq ?_
  refine At.start ?_
  refine At.rd f202 4 [[], [.ld (.slice Ag2 g.mv.length cg2)], [], []] [(16, .int .i64 (0)), (15, .int .i64 (((g.mv.length : Nat) : Int))), (14, .slice Ag2 g.mv.length cg2), (13, .pointer (some ⟨w.heap.size, 2, none⟩))] [(w201.cell? ⟨w.heap.size, 2, none⟩ = some (.slice Ag2 g.mv.length cg2))] (by kernel_rfl) ⟨(bx205.cell (i := 2) rfl), trivial⟩ (fun act216 f215 => ?_)
  clear f202
  refine At.done rfl ?_
  refine t_n ?_
  have f217 := f215.sub (r := [(16, .int .i64 (0)), (15, .int .i64 (((g.mv.length : Nat) : Int))), (14, .slice Ag2 g.mv.length cg2), (3, .pointer (some ⟨b_25, 0, none⟩)), (2, .pointer (some ⟨w1.heap.size, 0, none⟩))]) ⟨rfl, rfl, rfl, rfl, rfl, trivial⟩
  clear f215
  refine wp_block ?_
  have ow219 : OwnLL w201 (w201.heap.size) [obk (A_21), obk (A_22)] none 0 22 3 ([] : List (List Int)) := OwnLL.nil
  replace ow207 : OwnR w201 (Sx (w10.heap.size) [obk none, obk (A_22), some (b_25)]) A_21 c_23 3 (g.ow : List Int) := ow207.imp (fun g _ hs => ⟨by simp [obk], hs⟩)
  replace ow208 : OwnR w201 (Sx (w10.heap.size) [obk none, obk (A_21), some (b_25)]) A_22 c_24 3 (g.pr : List Int) := ow208.imp (fun g _ hs => ⟨by simp [obk], hs⟩)
  have f224 := f217.sub (r := [(16, .int .i64 (0)), (15, .int .i64 (((g.mv.length : Nat) : Int))), (14, .slice Ag2 g.mv.length cg2), (3, .pointer (some ⟨b_25, 0, none⟩)), (2, .pointer (some ⟨w1.heap.size, 0, none⟩))]) ⟨rfl, rfl, rfl, rfl, rfl, trivial⟩
  refine loop_g (fun (m_ : Nat) a_ w_ => ∃ (k : Int) (xs : List (List Int)) (A_222 : Option Addr) (c_223 : Nat), m_ = ((g.mv.length : Int) - k).toNat ∧ (Frm 29 a_ [(16, .int .i64 (k)), (15, .int .i64 (((g.mv.length : Nat) : Int))), (14, .slice Ag2 g.mv.length cg2), (3, .pointer (some ⟨b_25, 0, none⟩)), (2, .pointer (some ⟨w1.heap.size, 0, none⟩))]) ∧ (Ext w w_) ∧ (RdG w_ 0 w.heap.size Ag0 Ag1 Ag2 cg0 cg1 cg2 g) ∧ (Bx w_ (w.heap.size) [.slice Ag0 g.ow.length cg0, .slice Ag1 g.pr.length cg1, .slice Ag2 g.mv.length cg2] 25) ∧ (Bx w_ (w1.heap.size) [.slice none 0 0, .slice none 0 0, .slice none 0 0] 25) ∧ (OwnR w_ (Sx (w10.heap.size) [obk (A_222), obk (A_22), some (b_25)]) A_21 c_23 3 (g.ow : List Int)) ∧ (OwnR w_ (Sx (w10.heap.size) [obk (A_222), obk (A_21), some (b_25)]) A_22 c_24 3 (g.pr : List Int)) ∧ (Bx w_ (b_25) [.slice A_21 ((g.ow).length) c_23, .slice A_22 ((g.pr).length) c_24, .slice A_222 xs.length c_223] 25) ∧ (OwnLL w_ (w201.heap.size) [obk (A_21), obk (A_22)] A_222 c_223 22 3 (xs : List (List Int))) ∧ (0 ≤ k) ∧ (k ≤ (g.mv.length : Int)) ∧ (xs = g.mv.take k.toNat) ∧ (w10.heap.size ≤ w_.heap.size) ∧ (w201.heap.size ≤ w_.heap.size)) _ ⟨0, ([] : List (List Int)), none, 0, rfl, f224, e203, r204, bx205, bx206, ow207, ow208, bx209, ow219, (by omega), (by omega), rfl, (by omega), (by omega)⟩ ?_
  clear f224 f217
  clear r204
  clear bx205
  clear bx206
  clear ow207
  clear ow208
  clear bx209
  clear ow219
  clear e203
  intro m_ act225 w226 ⟨k, xs, A_222, c_223, hm228, f229, e227, r230, bx231, bx232, ow233, ow234, bx235, r236, i237, i238, hxs, i239, i240⟩
  have szw226 := e227.size
  have := bx231.lt
  have := bx232.lt
  have := bx235.lt
  have hxl : xs.length = k.toNat := by rw [hxs, List.length_take]; omega
  refine wp_seq ?_
  refine At.start ?_
  refine At.rd f229 1 [[]] [(17, .bool (decide ((k : Int) < ((g.mv.length : Nat) : Int))))] [] (by kernel_rfl) trivial (fun act242 f241 => ?_)
  clear f229
  refine At.done rfl ?_
  refine t_n ?_
  refine wp_seq ?_
  refine cond_S f241 (t := decide ((k : Int) < ((g.mv.length : Nat) : Int))) rfl (fun h243 => ?_) (fun h243 => ?_)
  ·have q244 := of_decide_eq_true h243
   refine wp_skip ?_
   refine t_n ?_
   have f245 := f241.sub (r := [(16, .int .i64 (k)), (15, .int .i64 (((g.mv.length : Nat) : Int))), (14, .slice Ag2 g.mv.length cg2), (3, .pointer (some ⟨b_25, 0, none⟩)), (2, .pointer (some ⟨w1.heap.size, 0, none⟩))]) ⟨rfl, rfl, rfl, rfl, rfl, trivial⟩
   clear f241
   refine wp_seq ?_
   refine wp_block ?_
   refine wp_seq ?_
   refine At.start ?_
   obtain ⟨ad246, R249, C250, hA247, _, _, hc248, hC251, r252⟩ := RdII.get r230.mv (k) (by omega) (by omega)
   have hl253 := r252.len
   refine At.rd f245 3 [[.ad ad246], [.ld (.slice R249 ((gL g.mv (k)).length) C250)], []] [(5, .slice R249 ((gL g.mv (k)).length) C250), (19, .slice R249 ((gL g.mv (k)).length) C250), (18, .pointer (some (ad246.add ((k : Int).toNat * 1))))] [(Ag2 = some ad246), (0 ≤ (k : Int)), ((k : Int) < (g.mv.length : Nat)), (w226.cell? (ad246.add ((k : Int).toNat * 1)) = some (.slice R249 ((gL g.mv (k)).length) C250))] (by kernel_rfl) ⟨hA247, (by omega), (by omega), hc248, trivial⟩ (fun act256 f255 => ?_)
   clear f245
   refine At.done rfl ?_
   refine t_n ?_
   have f257 := f255.sub (r := [(5, .slice R249 ((gL g.mv (k)).length) C250), (16, .int .i64 (k)), (15, .int .i64 (((g.mv.length : Nat) : Int))), (14, .slice Ag2 g.mv.length cg2), (3, .pointer (some ⟨b_25, 0, none⟩)), (2, .pointer (some ⟨w1.heap.size, 0, none⟩))]) ⟨rfl, rfl, rfl, rfl, rfl, rfl, trivial⟩
   clear f255
   obtain ⟨Cs258, hCs259⟩ : ∃ c : List (Addr × Value), c = [] := ⟨_, rfl⟩
   have hS260 : HoldsC Cs258 w226 := by rw [hCs259]; exact trivial
   refine AtH.start Cs258 8 #[false, false, false, false, false, false, false, false] (by kernel_rfl) rfl rfl (fun w262 hw263 => ?_)
   have g261 := gr_drew hw263
   have hS264 := hS260.gr g261
   have szw262 := g261.size
   replace e227 := e227.gr g261 no_row
   replace r230 := r230.gr g261 (fun _ h => by cases h)
   replace bx231 := bx231.gr g261 (by simp)
   replace bx232 := bx232.gr g261 (by simp)
   replace ow233 := ow233.gr g261 (fun _ _ h => by cases h)
   replace ow234 := ow234.gr g261 (fun _ _ h => by cases h)
   replace bx235 := bx235.gr g261 (by simp)
   have ow272 := r236.gr g261 (fun _ _ h => by cases h)
   clear r236
   replace r252 := r252.gr g261 (fun _ h => by cases h)
   clear g261 hw263 hS260
   refine AtH.rd (by kernel_rfl) (fun d v c a w h => by cases d <;> exact h) hS264 [0, 2] [[], []] [(22, .slice R249 ((gL g.mv (k)).length) C250), (20, .pointer (some ⟨b_25, 2, none⟩))] #[true, false, true, false, false, false, false, false] [] 6 f257 (by kernel_rfl) trivial (fun act275 f274 => ?_)
   clear f257
   refine AtH.all [1, 3] 5 (by kernel_rfl) (by simp) ⟨?_, ?_, trivial⟩
   ·refine OneH.seq f274 [[.ld (.slice A_222 xs.length c_223)]] [(21, .slice A_222 xs.length c_223)] w262 [(w262.cell? ⟨b_25, 2, none⟩ = some (.slice A_222 xs.length c_223))] #[true, true, true, false, false, false, false, false] (by kernel_rfl) (by kernel_rfl) (by kernel_rfl) ⟨(bx235.cell (i := 2) rfl), trivial⟩ (fun act277 w278 hw279 f276 => ?_)
    obtain rfl : w262 = w278 := hw279.symm
    clear f274
    refine ⟨hS264, ?_⟩
    refine AtH.all [3] 4 (by kernel_rfl) (by simp) ⟨?_, trivial⟩
    refine OneH.call f276 37 #[.slice R249 ((gL g.mv (k)).length) C250] (some 23) #[true, true, true, true, false, false, false, false] (by kernel_rfl) (by kernel_rfl) (clone_any (la := gL g.mv (k)) (r252.wide (Nat.zero_le _) (by omega))) ?_
    rintro e_ w285 ⟨A281, c282, rfl, he, ow283⟩
    refine ⟨_, rfl, _, rfl, fun act286 f287 => ?_⟩
    clear f276
    have g288 := gr_ext he
    have hS280 := hS264.gr g288
    have lt289 := ow233.lt
    have lt290 := ow234.lt
    have lt291 := ow272.lt
    have szw285 := g288.size
    replace e227 := e227.gr g288 no_row
    replace r230 := r230.gr g288 (fun _ h => by cases h)
    replace bx231 := bx231.gr g288 (by simp)
    replace bx232 := bx232.gr g288 (by simp)
    replace ow233 : OwnR w285 (Sx (w10.heap.size) [obk (A281), obk (A_222), obk (A_22), some (b_25)]) A_21 c_23 3 (g.ow : List Int) := ow233.grA g288 (fun _ _ h => by cases h) (fun k hk hs => ⟨(fun e => by have := ow283.ge _ e; omega), hs.1, hs.2.1, hs.2.2.1, hs.2.2.2⟩)
    replace ow234 : OwnR w285 (Sx (w10.heap.size) [obk (A281), obk (A_222), obk (A_21), some (b_25)]) A_22 c_24 3 (g.pr : List Int) := ow234.grA g288 (fun _ _ h => by cases h) (fun k hk hs => ⟨(fun e => by have := ow283.ge _ e; omega), hs.1, hs.2.1, hs.2.2.1, hs.2.2.2⟩)
    replace bx235 := bx235.gr g288 (by simp)
    replace ow272 : OwnLL w285 (w201.heap.size) [obk (A281), obk (A_21), obk (A_22)] A_222 c_223 22 3 (xs : List (List Int)) := ow272.grA g288 (fun _ _ h => by cases h) (fun k hk hs => ⟨(fun e => by have := ow283.ge _ e; omega), hs.1, hs.2.1, hs.2.2⟩)
    replace r252 := r252.gr g288 (fun _ h => by cases h)
    replace ow283 : OwnR w285 (Sx (w262.heap.size) [obk (A_21), obk (A_22), obk (A_222)]) A281 c282 3 (gL g.mv (k) : List Int) := ow283.imp (fun g _ hs => ⟨(fun e => by have := lt289 _ e; have := Sx_base hs; omega), (fun e => by have := lt290 _ e; have := Sx_base hs; omega), (fun e => by have := lt291 _ e; have := Sx_base hs; omega), hs⟩)
    clear lt289 lt290 lt291
    clear g288 he
    refine ⟨hS280, ?_⟩
    refine AtH.all [4] 3 (by kernel_rfl) (by simp) ⟨?_, trivial⟩
    refine OneH.seq f287 [[]] [(24, .slice (some ⟨w285.heap.size, 0, none⟩) 1 1)] (w285.alloc (.cells #[.slice A281 ((gL g.mv (k)).length) c282] 22 (0, 0))) [] #[true, true, true, true, true, false, false, false] (by kernel_rfl) (by kernel_rfl) (by kernel_rfl) trivial (fun act306 w303 hw304 f305 => ?_)
    clear f287
    have g307 := gr_alloc hw304
    have hS310 := hS280.gr g307
    refine ⟨hS310, ?_⟩
    have szw303 := g307.size
    replace e227 := e227.gr g307 no_row
    replace r230 := r230.gr g307 (fun _ h => by cases h)
    replace bx231 := bx231.gr g307 (by simp)
    replace bx232 := bx232.gr g307 (by simp)
    replace ow233 : OwnR w303 (Sx (w10.heap.size) [some (w285.heap.size), obk (A281), obk (A_222), obk (A_22), some (b_25)]) A_21 c_23 3 (g.ow : List Int) := ow233.grA g307 (fun _ _ h => by cases h) (fun k hk hs => ⟨(fun e => by injection e; omega), hs.1, hs.2.1, hs.2.2.1, hs.2.2.2.1, hs.2.2.2.2⟩)
    replace ow234 : OwnR w303 (Sx (w10.heap.size) [some (w285.heap.size), obk (A281), obk (A_222), obk (A_21), some (b_25)]) A_22 c_24 3 (g.pr : List Int) := ow234.grA g307 (fun _ _ h => by cases h) (fun k hk hs => ⟨(fun e => by injection e; omega), hs.1, hs.2.1, hs.2.2.1, hs.2.2.2.1, hs.2.2.2.2⟩)
    replace bx235 := bx235.gr g307 (by simp)
    replace ow272 : OwnLL w303 (w201.heap.size) [some (w285.heap.size), obk (A281), obk (A_21), obk (A_22)] A_222 c_223 22 3 (xs : List (List Int)) := ow272.grA g307 (fun _ _ h => by cases h) (fun k hk hs => ⟨(fun e => by injection e; omega), hs.1, hs.2.1, hs.2.2.1, hs.2.2.2⟩)
    replace r252 := r252.gr g307 (fun _ h => by cases h)
    replace ow283 : OwnR w303 (Sx (w262.heap.size) [some (w285.heap.size), obk (A_21), obk (A_22), obk (A_222)]) A281 c282 3 (gL g.mv (k) : List Int) := ow283.grA g307 (fun _ _ h => by cases h) (fun k hk hs => ⟨(fun e => by injection e; omega), hs.1, hs.2.1, hs.2.2.1, hs.2.2.2⟩)
    have bx309 : Bx w303 (w285.heap.size) [.slice A281 ((gL g.mv (k)).length) c282] 22 := Bx.new hw304
    have := bx309.lt
    clear g307 hw304
    refine AtH.all [5] 2 (by kernel_rfl) (by simp) ⟨?_, trivial⟩
    have ow322 : OwnR w303 (Sx (w201.heap.size) [obk (A_21), obk (A_22)]) A281 c282 3 (gL g.mv (k) : List Int) := ow283.imp (fun g _ hs => ⟨hs.2.1, hs.2.2.1, (by have := Sx_base hs; show w201.heap.size ≤ g; omega)⟩)
    have ow323 : OwnLL w303 (w201.heap.size) [obk (A281), obk (A_21), obk (A_22)] A_222 c_223 22 3 (xs : List (List Int)) := (ow272.imp (fun g _ hs => ⟨hs.2.1, hs.2.2.1, hs.2.2.2.1, hs.2.2.2.2⟩))
    have hl324 : (xs ++ [gL g.mv (k)]).length = (xs).length + 1 := by simp
    refine OneH.act f305 #[true, true, true, true, true, true, false, false] (by kernel_rfl) (appendLL (t := 23) (d := 25) (n := xs.length) (m := 1) (cc := 1) (ls := xs) (xs := gL g.mv (k)) (bytes := 24) (by first | rfl | omega | (simp; done) | (simp; omega)) (by kernel_rfl) (by kernel_rfl) (bx309.as (by first | rfl | (simp; done))) ow323 ow322 ⟨ow233.ne_new, ow234.ne_new, (show w201.heap.size ≤ w303.heap.size by omega)⟩ (by omega) (by omega)) ?_
    rintro d_ v_ w325 ⟨rfl, A326, c327, rfl, g328, ha329, ow330⟩
    have hS333 := hS310.grO g328 (by rw [hCs259]; exact trivial)
    refine ⟨_, rfl, fun act332 f331 => ⟨hS333, ?_⟩⟩
    clear f305
    clear bx309 ow283 ow322 ow323
    have szw325 := g328.size
    replace e227 := e227.gr g328 (fun k hk => by have := ow272.ge k hk; omega)
    replace r230 := r230.gr g328 (fun k hk => by have := ow272.ge k hk; omega)
    replace bx231 := bx231.gr g328 (fun e => by have := ow272.ge _ e; omega)
    replace bx232 := bx232.gr g328 (fun e => by have := ow272.ge _ e; omega)
    replace ow233 : OwnR w325 (Sx (w10.heap.size) [some (w285.heap.size), obk (A281), obk (A326), obk (A_22), some (b_25)]) A_21 c_23 3 (g.ow : List Int) := ow233.grA g328 (fun k hk => hk.2.2.1) (fun k hk hs => ⟨hs.1, hs.2.1, own_repl ha329 hs.2.2.1 hk, hs.2.2.2.1, hs.2.2.2.2.1, hs.2.2.2.2.2⟩)
    replace ow234 : OwnR w325 (Sx (w10.heap.size) [some (w285.heap.size), obk (A281), obk (A326), obk (A_21), some (b_25)]) A_22 c_24 3 (g.pr : List Int) := ow234.grA g328 (fun k hk => hk.2.2.1) (fun k hk hs => ⟨hs.1, hs.2.1, own_repl ha329 hs.2.2.1 hk, hs.2.2.2.1, hs.2.2.2.2.1, hs.2.2.2.2.2⟩)
    replace bx235 := bx235.gr g328 (fun e => by have := ow272.ge _ e; omega)
    replace r252 := r252.gr g328 (fun k hk => by have := ow272.ge k hk; omega)
    clear ow272 g328 ha329
    refine AtH.rd (by kernel_rfl) (fun d v c a w h => by cases d <;> exact h) hS333 [6] [[]] [(26, .pointer (some ⟨b_25, 2, none⟩))] #[true, true, true, true, true, true, true, false] [] 1 f331 (by kernel_rfl) trivial (fun act343 f342 => ?_)
    clear f331
    refine AtH.all [7] 0 (by kernel_rfl) (by simp) ⟨?_, trivial⟩
    refine OneH.store f342 (t := 23) (b := b_25) (off := 2) (v := .slice A326 ((xs ++ [gL g.mv (k)]).length) c327) #[true, true, true, true, true, true, true, true] (by kernel_rfl) (by kernel_rfl) bx235 (by kernel_rfl) (fun act349 w345 g346 bx347 f348 => ?_)
    clear f342
    replace bx347 : Bx w345 (b_25) [.slice A_21 ((g.ow).length) c_23, .slice A_22 ((g.pr).length) c_24, .slice A326 ((xs ++ [gL g.mv (k)]).length) c327] 25 := bx347
    have hS344 := hS333.gr' g346 (by rw [hCs259]; exact trivial)
    have szw345 := g346.size
    replace e227 := e227.gr g346 (fun k h => by injection h; omega)
    replace r230 := r230.gr g346 (fun k h => by injection h; omega)
    replace bx231 := bx231.gr g346 (fun h => by injection h; omega)
    replace bx232 := bx232.gr g346 (fun h => by injection h; omega)
    replace ow233 := ow233.gr g346 (fun k hk => hk.2.2.2.2.1)
    replace ow234 := ow234.gr g346 (fun k hk => hk.2.2.2.2.1)
    replace r252 := r252.gr g346 (fun k h => by injection h; omega)
    replace ow330 := ow330.gr g346 (fun k hk e => by have := Sx_base hk; injection e; omega)
    clear bx235 g346
    refine ⟨hS344, ?_⟩
    refine AtH.done (by kernel_rfl) ?_
    clear hS344
    refine b_n ?_
    refine t_n ?_
    have f358 := f348.sub (r := [(16, .int .i64 (k)), (15, .int .i64 (((g.mv.length : Nat) : Int))), (14, .slice Ag2 g.mv.length cg2), (3, .pointer (some ⟨b_25, 0, none⟩)), (2, .pointer (some ⟨w1.heap.size, 0, none⟩))]) ⟨rfl, rfl, rfl, rfl, rfl, trivial⟩
    clear f348
    refine At.start ?_
    refine At.rd f358 2 [[.as_ (.int .i64 (k + 1))], []] [(16, .int .i64 (k + 1)), (27, .int .i64 (k + 1))] [((.int .i64 (IntKind.i64.wrap (k + 1)) : Value) = .int .i64 (k + 1))] (by kernel_rfl) ⟨(w64 (by omega) (by omega)), trivial⟩ (fun act360 f359 => ?_)
    clear f358
    refine At.done rfl ?_
    refine t_n ?_
    have f361 := f359.sub (r := [(16, .int .i64 (k + 1)), (15, .int .i64 (((g.mv.length : Nat) : Int))), (14, .slice Ag2 g.mv.length cg2), (3, .pointer (some ⟨b_25, 0, none⟩)), (2, .pointer (some ⟨w1.heap.size, 0, none⟩))]) ⟨rfl, rfl, rfl, rfl, rfl, trivial⟩
    exact ⟨_, (by omega), (k + 1), (xs ++ [gL g.mv (k)] : List (List Int)), A326, c327, rfl, f361, e227, r230, bx231, bx232, (ow233.imp (fun g _ hs => ⟨hs.2.2.1, hs.2.2.2.1, hs.2.2.2.2.1, hs.2.2.2.2.2⟩)), (ow234.imp (fun g _ hs => ⟨hs.2.2.1, hs.2.2.2.1, hs.2.2.2.2.1, hs.2.2.2.2.2⟩)), bx347, ow330, (by omega), (by omega), (takeLL_push hxs (by omega) (by omega)), (by omega), (by omega)⟩
   ·refine OneH.call f274 37 #[.slice R249 ((gL g.mv (k)).length) C250] (some 23) #[true, false, true, true, false, false, false, false] (by kernel_rfl) (by kernel_rfl) (clone_any (la := gL g.mv (k)) (r252.wide (Nat.zero_le _) (by omega))) ?_
    rintro e_ w367 ⟨A363, c364, rfl, he, ow365⟩
    refine ⟨_, rfl, _, rfl, fun act368 f369 => ?_⟩
    clear f274
    have g370 := gr_ext he
    have hS362 := hS264.gr g370
    have lt371 := ow233.lt
    have lt372 := ow234.lt
    have lt373 := ow272.lt
    have szw367 := g370.size
    replace e227 := e227.gr g370 no_row
    replace r230 := r230.gr g370 (fun _ h => by cases h)
    replace bx231 := bx231.gr g370 (by simp)
    replace bx232 := bx232.gr g370 (by simp)
    replace ow233 : OwnR w367 (Sx (w10.heap.size) [obk (A363), obk (A_222), obk (A_22), some (b_25)]) A_21 c_23 3 (g.ow : List Int) := ow233.grA g370 (fun _ _ h => by cases h) (fun k hk hs => ⟨(fun e => by have := ow365.ge _ e; omega), hs.1, hs.2.1, hs.2.2.1, hs.2.2.2⟩)
    replace ow234 : OwnR w367 (Sx (w10.heap.size) [obk (A363), obk (A_222), obk (A_21), some (b_25)]) A_22 c_24 3 (g.pr : List Int) := ow234.grA g370 (fun _ _ h => by cases h) (fun k hk hs => ⟨(fun e => by have := ow365.ge _ e; omega), hs.1, hs.2.1, hs.2.2.1, hs.2.2.2⟩)
    replace bx235 := bx235.gr g370 (by simp)
    replace ow272 : OwnLL w367 (w201.heap.size) [obk (A363), obk (A_21), obk (A_22)] A_222 c_223 22 3 (xs : List (List Int)) := ow272.grA g370 (fun _ _ h => by cases h) (fun k hk hs => ⟨(fun e => by have := ow365.ge _ e; omega), hs.1, hs.2.1, hs.2.2⟩)
    replace r252 := r252.gr g370 (fun _ h => by cases h)
    replace ow365 : OwnR w367 (Sx (w262.heap.size) [obk (A_21), obk (A_22), obk (A_222)]) A363 c364 3 (gL g.mv (k) : List Int) := ow365.imp (fun g _ hs => ⟨(fun e => by have := lt371 _ e; have := Sx_base hs; omega), (fun e => by have := lt372 _ e; have := Sx_base hs; omega), (fun e => by have := lt373 _ e; have := Sx_base hs; omega), hs⟩)
    clear lt371 lt372 lt373
    clear g370 he
    refine ⟨hS362, ?_⟩
    refine AtH.all [1, 4] 4 (by kernel_rfl) (by simp) ⟨?_, ?_, trivial⟩
    ·refine OneH.seq f369 [[.ld (.slice A_222 xs.length c_223)]] [(21, .slice A_222 xs.length c_223)] w367 [(w367.cell? ⟨b_25, 2, none⟩ = some (.slice A_222 xs.length c_223))] #[true, true, true, true, false, false, false, false] (by kernel_rfl) (by kernel_rfl) (by kernel_rfl) ⟨(bx235.cell (i := 2) rfl), trivial⟩ (fun act385 w386 hw387 f384 => ?_)
     obtain rfl : w367 = w386 := hw387.symm
     clear f369
     refine ⟨hS362, ?_⟩
     refine AtH.all [4] 3 (by kernel_rfl) (by simp) ⟨?_, trivial⟩
     refine OneH.seq f384 [[]] [(24, .slice (some ⟨w367.heap.size, 0, none⟩) 1 1)] (w367.alloc (.cells #[.slice A363 ((gL g.mv (k)).length) c364] 22 (0, 0))) [] #[true, true, true, true, true, false, false, false] (by kernel_rfl) (by kernel_rfl) (by kernel_rfl) trivial (fun act392 w389 hw390 f391 => ?_)
     clear f384
     have g393 := gr_alloc hw390
     have hS396 := hS362.gr g393
     refine ⟨hS396, ?_⟩
     have szw389 := g393.size
     replace e227 := e227.gr g393 no_row
     replace r230 := r230.gr g393 (fun _ h => by cases h)
     replace bx231 := bx231.gr g393 (by simp)
     replace bx232 := bx232.gr g393 (by simp)
     replace ow233 : OwnR w389 (Sx (w10.heap.size) [some (w367.heap.size), obk (A363), obk (A_222), obk (A_22), some (b_25)]) A_21 c_23 3 (g.ow : List Int) := ow233.grA g393 (fun _ _ h => by cases h) (fun k hk hs => ⟨(fun e => by injection e; omega), hs.1, hs.2.1, hs.2.2.1, hs.2.2.2.1, hs.2.2.2.2⟩)
     replace ow234 : OwnR w389 (Sx (w10.heap.size) [some (w367.heap.size), obk (A363), obk (A_222), obk (A_21), some (b_25)]) A_22 c_24 3 (g.pr : List Int) := ow234.grA g393 (fun _ _ h => by cases h) (fun k hk hs => ⟨(fun e => by injection e; omega), hs.1, hs.2.1, hs.2.2.1, hs.2.2.2.1, hs.2.2.2.2⟩)
     replace bx235 := bx235.gr g393 (by simp)
     replace ow272 : OwnLL w389 (w201.heap.size) [some (w367.heap.size), obk (A363), obk (A_21), obk (A_22)] A_222 c_223 22 3 (xs : List (List Int)) := ow272.grA g393 (fun _ _ h => by cases h) (fun k hk hs => ⟨(fun e => by injection e; omega), hs.1, hs.2.1, hs.2.2.1, hs.2.2.2⟩)
     replace r252 := r252.gr g393 (fun _ h => by cases h)
     replace ow365 : OwnR w389 (Sx (w262.heap.size) [some (w367.heap.size), obk (A_21), obk (A_22), obk (A_222)]) A363 c364 3 (gL g.mv (k) : List Int) := ow365.grA g393 (fun _ _ h => by cases h) (fun k hk hs => ⟨(fun e => by injection e; omega), hs.1, hs.2.1, hs.2.2.1, hs.2.2.2⟩)
     have bx395 : Bx w389 (w367.heap.size) [.slice A363 ((gL g.mv (k)).length) c364] 22 := Bx.new hw390
     have := bx395.lt
     clear g393 hw390
     refine AtH.all [5] 2 (by kernel_rfl) (by simp) ⟨?_, trivial⟩
     have ow408 : OwnR w389 (Sx (w201.heap.size) [obk (A_21), obk (A_22)]) A363 c364 3 (gL g.mv (k) : List Int) := ow365.imp (fun g _ hs => ⟨hs.2.1, hs.2.2.1, (by have := Sx_base hs; show w201.heap.size ≤ g; omega)⟩)
     have ow409 : OwnLL w389 (w201.heap.size) [obk (A363), obk (A_21), obk (A_22)] A_222 c_223 22 3 (xs : List (List Int)) := (ow272.imp (fun g _ hs => ⟨hs.2.1, hs.2.2.1, hs.2.2.2.1, hs.2.2.2.2⟩))
     have hl410 : (xs ++ [gL g.mv (k)]).length = (xs).length + 1 := by simp
     refine OneH.act f391 #[true, true, true, true, true, true, false, false] (by kernel_rfl) (appendLL (t := 23) (d := 25) (n := xs.length) (m := 1) (cc := 1) (ls := xs) (xs := gL g.mv (k)) (bytes := 24) (by first | rfl | omega | (simp; done) | (simp; omega)) (by kernel_rfl) (by kernel_rfl) (bx395.as (by first | rfl | (simp; done))) ow409 ow408 ⟨ow233.ne_new, ow234.ne_new, (show w201.heap.size ≤ w389.heap.size by omega)⟩ (by omega) (by omega)) ?_
     rintro d_ v_ w411 ⟨rfl, A412, c413, rfl, g414, ha415, ow416⟩
     have hS419 := hS396.grO g414 (by rw [hCs259]; exact trivial)
     refine ⟨_, rfl, fun act418 f417 => ⟨hS419, ?_⟩⟩
     clear f391
     clear bx395 ow365 ow408 ow409
     have szw411 := g414.size
     replace e227 := e227.gr g414 (fun k hk => by have := ow272.ge k hk; omega)
     replace r230 := r230.gr g414 (fun k hk => by have := ow272.ge k hk; omega)
     replace bx231 := bx231.gr g414 (fun e => by have := ow272.ge _ e; omega)
     replace bx232 := bx232.gr g414 (fun e => by have := ow272.ge _ e; omega)
     replace ow233 : OwnR w411 (Sx (w10.heap.size) [some (w367.heap.size), obk (A363), obk (A412), obk (A_22), some (b_25)]) A_21 c_23 3 (g.ow : List Int) := ow233.grA g414 (fun k hk => hk.2.2.1) (fun k hk hs => ⟨hs.1, hs.2.1, own_repl ha415 hs.2.2.1 hk, hs.2.2.2.1, hs.2.2.2.2.1, hs.2.2.2.2.2⟩)
     replace ow234 : OwnR w411 (Sx (w10.heap.size) [some (w367.heap.size), obk (A363), obk (A412), obk (A_21), some (b_25)]) A_22 c_24 3 (g.pr : List Int) := ow234.grA g414 (fun k hk => hk.2.2.1) (fun k hk hs => ⟨hs.1, hs.2.1, own_repl ha415 hs.2.2.1 hk, hs.2.2.2.1, hs.2.2.2.2.1, hs.2.2.2.2.2⟩)
     replace bx235 := bx235.gr g414 (fun e => by have := ow272.ge _ e; omega)
     replace r252 := r252.gr g414 (fun k hk => by have := ow272.ge k hk; omega)
     clear ow272 g414 ha415
     refine AtH.rd (by kernel_rfl) (fun d v c a w h => by cases d <;> exact h) hS419 [6] [[]] [(26, .pointer (some ⟨b_25, 2, none⟩))] #[true, true, true, true, true, true, true, false] [] 1 f417 (by kernel_rfl) trivial (fun act429 f428 => ?_)
     clear f417
     refine AtH.all [7] 0 (by kernel_rfl) (by simp) ⟨?_, trivial⟩
     refine OneH.store f428 (t := 23) (b := b_25) (off := 2) (v := .slice A412 ((xs ++ [gL g.mv (k)]).length) c413) #[true, true, true, true, true, true, true, true] (by kernel_rfl) (by kernel_rfl) bx235 (by kernel_rfl) (fun act435 w431 g432 bx433 f434 => ?_)
     clear f428
     replace bx433 : Bx w431 (b_25) [.slice A_21 ((g.ow).length) c_23, .slice A_22 ((g.pr).length) c_24, .slice A412 ((xs ++ [gL g.mv (k)]).length) c413] 25 := bx433
     have hS430 := hS419.gr' g432 (by rw [hCs259]; exact trivial)
     have szw431 := g432.size
     replace e227 := e227.gr g432 (fun k h => by injection h; omega)
     replace r230 := r230.gr g432 (fun k h => by injection h; omega)
     replace bx231 := bx231.gr g432 (fun h => by injection h; omega)
     replace bx232 := bx232.gr g432 (fun h => by injection h; omega)
     replace ow233 := ow233.gr g432 (fun k hk => hk.2.2.2.2.1)
     replace ow234 := ow234.gr g432 (fun k hk => hk.2.2.2.2.1)
     replace r252 := r252.gr g432 (fun k h => by injection h; omega)
     replace ow416 := ow416.gr g432 (fun k hk e => by have := Sx_base hk; injection e; omega)
     clear bx235 g432
     refine ⟨hS430, ?_⟩
     refine AtH.done (by kernel_rfl) ?_
     clear hS430
     refine b_n ?_
     refine t_n ?_
     have f444 := f434.sub (r := [(16, .int .i64 (k)), (15, .int .i64 (((g.mv.length : Nat) : Int))), (14, .slice Ag2 g.mv.length cg2), (3, .pointer (some ⟨b_25, 0, none⟩)), (2, .pointer (some ⟨w1.heap.size, 0, none⟩))]) ⟨rfl, rfl, rfl, rfl, rfl, trivial⟩
     clear f434
     refine At.start ?_
     refine At.rd f444 2 [[.as_ (.int .i64 (k + 1))], []] [(16, .int .i64 (k + 1)), (27, .int .i64 (k + 1))] [((.int .i64 (IntKind.i64.wrap (k + 1)) : Value) = .int .i64 (k + 1))] (by kernel_rfl) ⟨(w64 (by omega) (by omega)), trivial⟩ (fun act446 f445 => ?_)
     clear f444
     refine At.done rfl ?_
     refine t_n ?_
     have f447 := f445.sub (r := [(16, .int .i64 (k + 1)), (15, .int .i64 (((g.mv.length : Nat) : Int))), (14, .slice Ag2 g.mv.length cg2), (3, .pointer (some ⟨b_25, 0, none⟩)), (2, .pointer (some ⟨w1.heap.size, 0, none⟩))]) ⟨rfl, rfl, rfl, rfl, rfl, trivial⟩
     exact ⟨_, (by omega), (k + 1), (xs ++ [gL g.mv (k)] : List (List Int)), A412, c413, rfl, f447, e227, r230, bx231, bx232, (ow233.imp (fun g _ hs => ⟨hs.2.2.1, hs.2.2.2.1, hs.2.2.2.2.1, hs.2.2.2.2.2⟩)), (ow234.imp (fun g _ hs => ⟨hs.2.2.1, hs.2.2.2.1, hs.2.2.2.2.1, hs.2.2.2.2.2⟩)), bx433, ow416, (by omega), (by omega), (takeLL_push hxs (by omega) (by omega)), (by omega), (by omega)⟩
    ·refine OneH.seq f369 [[]] [(24, .slice (some ⟨w367.heap.size, 0, none⟩) 1 1)] (w367.alloc (.cells #[.slice A363 ((gL g.mv (k)).length) c364] 22 (0, 0))) [] #[true, false, true, true, true, false, false, false] (by kernel_rfl) (by kernel_rfl) (by kernel_rfl) trivial (fun act452 w449 hw450 f451 => ?_)
     clear f369
     have g453 := gr_alloc hw450
     have hS456 := hS362.gr g453
     refine ⟨hS456, ?_⟩
     have szw449 := g453.size
     replace e227 := e227.gr g453 no_row
     replace r230 := r230.gr g453 (fun _ h => by cases h)
     replace bx231 := bx231.gr g453 (by simp)
     replace bx232 := bx232.gr g453 (by simp)
     replace ow233 : OwnR w449 (Sx (w10.heap.size) [some (w367.heap.size), obk (A363), obk (A_222), obk (A_22), some (b_25)]) A_21 c_23 3 (g.ow : List Int) := ow233.grA g453 (fun _ _ h => by cases h) (fun k hk hs => ⟨(fun e => by injection e; omega), hs.1, hs.2.1, hs.2.2.1, hs.2.2.2.1, hs.2.2.2.2⟩)
     replace ow234 : OwnR w449 (Sx (w10.heap.size) [some (w367.heap.size), obk (A363), obk (A_222), obk (A_21), some (b_25)]) A_22 c_24 3 (g.pr : List Int) := ow234.grA g453 (fun _ _ h => by cases h) (fun k hk hs => ⟨(fun e => by injection e; omega), hs.1, hs.2.1, hs.2.2.1, hs.2.2.2.1, hs.2.2.2.2⟩)
     replace bx235 := bx235.gr g453 (by simp)
     replace ow272 : OwnLL w449 (w201.heap.size) [some (w367.heap.size), obk (A363), obk (A_21), obk (A_22)] A_222 c_223 22 3 (xs : List (List Int)) := ow272.grA g453 (fun _ _ h => by cases h) (fun k hk hs => ⟨(fun e => by injection e; omega), hs.1, hs.2.1, hs.2.2.1, hs.2.2.2⟩)
     replace r252 := r252.gr g453 (fun _ h => by cases h)
     replace ow365 : OwnR w449 (Sx (w262.heap.size) [some (w367.heap.size), obk (A_21), obk (A_22), obk (A_222)]) A363 c364 3 (gL g.mv (k) : List Int) := ow365.grA g453 (fun _ _ h => by cases h) (fun k hk hs => ⟨(fun e => by injection e; omega), hs.1, hs.2.1, hs.2.2.1, hs.2.2.2⟩)
     have bx455 : Bx w449 (w367.heap.size) [.slice A363 ((gL g.mv (k)).length) c364] 22 := Bx.new hw450
     have := bx455.lt
     clear g453 hw450
     refine AtH.all [1] 3 (by kernel_rfl) (by simp) ⟨?_, trivial⟩
     refine OneH.seq f451 [[.ld (.slice A_222 xs.length c_223)]] [(21, .slice A_222 xs.length c_223)] w449 [(w449.cell? ⟨b_25, 2, none⟩ = some (.slice A_222 xs.length c_223))] #[true, true, true, true, true, false, false, false] (by kernel_rfl) (by kernel_rfl) (by kernel_rfl) ⟨(bx235.cell (i := 2) rfl), trivial⟩ (fun act468 w469 hw470 f467 => ?_)
     obtain rfl : w449 = w469 := hw470.symm
     clear f451
     refine ⟨hS456, ?_⟩
     refine AtH.all [5] 2 (by kernel_rfl) (by simp) ⟨?_, trivial⟩
     have ow472 : OwnR w449 (Sx (w201.heap.size) [obk (A_21), obk (A_22)]) A363 c364 3 (gL g.mv (k) : List Int) := ow365.imp (fun g _ hs => ⟨hs.2.1, hs.2.2.1, (by have := Sx_base hs; show w201.heap.size ≤ g; omega)⟩)
     have ow473 : OwnLL w449 (w201.heap.size) [obk (A363), obk (A_21), obk (A_22)] A_222 c_223 22 3 (xs : List (List Int)) := (ow272.imp (fun g _ hs => ⟨hs.2.1, hs.2.2.1, hs.2.2.2.1, hs.2.2.2.2⟩))
     have hl474 : (xs ++ [gL g.mv (k)]).length = (xs).length + 1 := by simp
     refine OneH.act f467 #[true, true, true, true, true, true, false, false] (by kernel_rfl) (appendLL (t := 23) (d := 25) (n := xs.length) (m := 1) (cc := 1) (ls := xs) (xs := gL g.mv (k)) (bytes := 24) (by first | rfl | omega | (simp; done) | (simp; omega)) (by kernel_rfl) (by kernel_rfl) (bx455.as (by first | rfl | (simp; done))) ow473 ow472 ⟨ow233.ne_new, ow234.ne_new, (show w201.heap.size ≤ w449.heap.size by omega)⟩ (by omega) (by omega)) ?_
     rintro d_ v_ w475 ⟨rfl, A476, c477, rfl, g478, ha479, ow480⟩
     have hS483 := hS456.grO g478 (by rw [hCs259]; exact trivial)
     refine ⟨_, rfl, fun act482 f481 => ⟨hS483, ?_⟩⟩
     clear f467
     clear bx455 ow365 ow472 ow473
     have szw475 := g478.size
     replace e227 := e227.gr g478 (fun k hk => by have := ow272.ge k hk; omega)
     replace r230 := r230.gr g478 (fun k hk => by have := ow272.ge k hk; omega)
     replace bx231 := bx231.gr g478 (fun e => by have := ow272.ge _ e; omega)
     replace bx232 := bx232.gr g478 (fun e => by have := ow272.ge _ e; omega)
     replace ow233 : OwnR w475 (Sx (w10.heap.size) [some (w367.heap.size), obk (A363), obk (A476), obk (A_22), some (b_25)]) A_21 c_23 3 (g.ow : List Int) := ow233.grA g478 (fun k hk => hk.2.2.1) (fun k hk hs => ⟨hs.1, hs.2.1, own_repl ha479 hs.2.2.1 hk, hs.2.2.2.1, hs.2.2.2.2.1, hs.2.2.2.2.2⟩)
     replace ow234 : OwnR w475 (Sx (w10.heap.size) [some (w367.heap.size), obk (A363), obk (A476), obk (A_21), some (b_25)]) A_22 c_24 3 (g.pr : List Int) := ow234.grA g478 (fun k hk => hk.2.2.1) (fun k hk hs => ⟨hs.1, hs.2.1, own_repl ha479 hs.2.2.1 hk, hs.2.2.2.1, hs.2.2.2.2.1, hs.2.2.2.2.2⟩)
     replace bx235 := bx235.gr g478 (fun e => by have := ow272.ge _ e; omega)
     replace r252 := r252.gr g478 (fun k hk => by have := ow272.ge k hk; omega)
     clear ow272 g478 ha479
     refine AtH.rd (by kernel_rfl) (fun d v c a w h => by cases d <;> exact h) hS483 [6] [[]] [(26, .pointer (some ⟨b_25, 2, none⟩))] #[true, true, true, true, true, true, true, false] [] 1 f481 (by kernel_rfl) trivial (fun act493 f492 => ?_)
     clear f481
     refine AtH.all [7] 0 (by kernel_rfl) (by simp) ⟨?_, trivial⟩
     refine OneH.store f492 (t := 23) (b := b_25) (off := 2) (v := .slice A476 ((xs ++ [gL g.mv (k)]).length) c477) #[true, true, true, true, true, true, true, true] (by kernel_rfl) (by kernel_rfl) bx235 (by kernel_rfl) (fun act499 w495 g496 bx497 f498 => ?_)
     clear f492
     replace bx497 : Bx w495 (b_25) [.slice A_21 ((g.ow).length) c_23, .slice A_22 ((g.pr).length) c_24, .slice A476 ((xs ++ [gL g.mv (k)]).length) c477] 25 := bx497
     have hS494 := hS483.gr' g496 (by rw [hCs259]; exact trivial)
     have szw495 := g496.size
     replace e227 := e227.gr g496 (fun k h => by injection h; omega)
     replace r230 := r230.gr g496 (fun k h => by injection h; omega)
     replace bx231 := bx231.gr g496 (fun h => by injection h; omega)
     replace bx232 := bx232.gr g496 (fun h => by injection h; omega)
     replace ow233 := ow233.gr g496 (fun k hk => hk.2.2.2.2.1)
     replace ow234 := ow234.gr g496 (fun k hk => hk.2.2.2.2.1)
     replace r252 := r252.gr g496 (fun k h => by injection h; omega)
     replace ow480 := ow480.gr g496 (fun k hk e => by have := Sx_base hk; injection e; omega)
     clear bx235 g496
     refine ⟨hS494, ?_⟩
     refine AtH.done (by kernel_rfl) ?_
     clear hS494
     refine b_n ?_
     refine t_n ?_
     have f508 := f498.sub (r := [(16, .int .i64 (k)), (15, .int .i64 (((g.mv.length : Nat) : Int))), (14, .slice Ag2 g.mv.length cg2), (3, .pointer (some ⟨b_25, 0, none⟩)), (2, .pointer (some ⟨w1.heap.size, 0, none⟩))]) ⟨rfl, rfl, rfl, rfl, rfl, trivial⟩
     clear f498
     refine At.start ?_
     refine At.rd f508 2 [[.as_ (.int .i64 (k + 1))], []] [(16, .int .i64 (k + 1)), (27, .int .i64 (k + 1))] [((.int .i64 (IntKind.i64.wrap (k + 1)) : Value) = .int .i64 (k + 1))] (by kernel_rfl) ⟨(w64 (by omega) (by omega)), trivial⟩ (fun act510 f509 => ?_)
     clear f508
     refine At.done rfl ?_
     refine t_n ?_
     have f511 := f509.sub (r := [(16, .int .i64 (k + 1)), (15, .int .i64 (((g.mv.length : Nat) : Int))), (14, .slice Ag2 g.mv.length cg2), (3, .pointer (some ⟨b_25, 0, none⟩)), (2, .pointer (some ⟨w1.heap.size, 0, none⟩))]) ⟨rfl, rfl, rfl, rfl, rfl, trivial⟩
     exact ⟨_, (by omega), (k + 1), (xs ++ [gL g.mv (k)] : List (List Int)), A476, c477, rfl, f511, e227, r230, bx231, bx232, (ow233.imp (fun g _ hs => ⟨hs.2.2.1, hs.2.2.2.1, hs.2.2.2.2.1, hs.2.2.2.2.2⟩)), (ow234.imp (fun g _ hs => ⟨hs.2.2.1, hs.2.2.2.1, hs.2.2.2.2.1, hs.2.2.2.2.2⟩)), bx497, ow480, (by omega), (by omega), (takeLL_push hxs (by omega) (by omega)), (by omega), (by omega)⟩
  ·have q512 := of_decide_eq_false h243
   refine wp_exit ?_
   refine t_e ?_
   refine t_e ?_
   refine b_e ?_
   refine t_n ?_
   have f513 := f241.sub (r := [(3, .pointer (some ⟨b_25, 0, none⟩)), (2, .pointer (some ⟨w1.heap.size, 0, none⟩))]) ⟨rfl, rfl, trivial⟩
   clear f241
   refine wp_seq ?_
   refine At.start ?_
   refine At.rd f513 1 [[.ld (.slice A_21 ((g.ow).length) c_23), .ld (.slice A_22 ((g.pr).length) c_24), .ld (.slice A_222 xs.length c_223)]] [(28, .agg #[.slice A_21 ((g.ow).length) c_23, .slice A_22 ((g.pr).length) c_24, .slice A_222 xs.length c_223])] [(w226.cell? ⟨b_25, 0, none⟩ = some (.slice A_21 ((g.ow).length) c_23)), (w226.cell? ⟨b_25, 1, none⟩ = some (.slice A_22 ((g.pr).length) c_24)), (w226.cell? ⟨b_25, 2, none⟩ = some (.slice A_222 xs.length c_223))] (by kernel_rfl) ⟨(bx235.cell (i := 0) rfl), (bx235.cell (i := 1) rfl), (bx235.cell (i := 2) rfl), trivial⟩ (fun act515 f514 => ?_)
   clear f513
   refine At.store f514 (t := 25) (b := w1.heap.size) (off := 0) (v := .agg #[.slice A_21 ((g.ow).length) c_23, .slice A_22 ((g.pr).length) c_24, .slice A_222 xs.length c_223]) (by kernel_rfl) bx232 (by kernel_rfl) (fun act520 w516 g517 bx518 f519 => ?_)
   clear f514
   replace bx518 : Bx w516 (w1.heap.size) [.slice A_21 ((g.ow).length) c_23, .slice A_22 ((g.pr).length) c_24, .slice A_222 xs.length c_223] 25 := bx518
   have szw516 := g517.size
   replace e227 := e227.gr g517 (fun k h => by injection h; omega)
   replace r230 := r230.gr g517 (fun k h => by injection h; omega)
   replace bx231 := bx231.gr g517 (fun h => by injection h; omega)
   replace ow233 := ow233.gr g517 (fun k hk e => by have := Sx_base hk; injection e; omega)
   replace ow234 := ow234.gr g517 (fun k hk e => by have := Sx_base hk; injection e; omega)
   replace bx235 := bx235.gr g517 (fun h => by injection h; omega)
   have ow527 := r236.gr g517 (fun k hk e => by have := Sx_base hk; injection e; omega)
   clear r236
   clear bx232 g517
   refine At.done rfl ?_
   refine t_n ?_
   have f528 := f519.sub (r := [(2, .pointer (some ⟨w1.heap.size, 0, none⟩))]) ⟨rfl, trivial⟩
   clear f519
   refine wp_ret ?_
   refine ret_ f528 [[.slice A_21 ((g.ow).length) c_23, .slice A_22 ((g.pr).length) c_24, .slice A_222 xs.length c_223]] [.agg #[.slice A_21 ((g.ow).length) c_23, .slice A_22 ((g.pr).length) c_24, .slice A_222 xs.length c_223]] [(w516.cell? ⟨w1.heap.size, 0, none⟩ = some (.slice A_21 ((g.ow).length) c_23)), (w516.cell? ⟨w1.heap.size, 1, none⟩ = some (.slice A_22 ((g.pr).length) c_24)), (w516.cell? ⟨w1.heap.size, 2, none⟩ = some (.slice A_222 xs.length c_223))] (by kernel_rfl) ⟨(bx518.cell (i := 0) rfl), (bx518.cell (i := 1) rfl), (bx518.cell (i := 2) rfl), trivial⟩ ?_
   have hL_ : OwnLL w516 w.heap.size [obk A_21, obk A_22] A_222 c_223 22 3 xs := (ow527.imp (fun g _ hs => ⟨hs.1, hs.2.1, (by have := Sx_base hs; show w.heap.size ≤ g; omega)⟩))
   have hq_ : xs = g.mv := takeLL_end hxs (by omega)
   rw [hq_] at hL_
   exact ⟨A_21, c_23, A_22, c_24, A_222, c_223, ret_eq (by rw [← hq_]; rfl), e227, (ow233.imp (fun g _ hs => ⟨hs.2.1, hs.1, (by have := Sx_base hs; show w.heap.size ≤ g; omega)⟩)), (ow234.imp (fun g _ hs => ⟨hs.2.1, hs.1, (by have := Sx_base hs; show w.heap.size ≤ g; omega)⟩)), hL_⟩

end Go.Proofs.YtkkophhnliplhaaDoor
