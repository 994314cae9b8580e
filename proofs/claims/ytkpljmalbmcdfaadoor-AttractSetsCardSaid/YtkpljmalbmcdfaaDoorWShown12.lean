/-
  A walk of a Go function, printed by a program of this repo. Conditions: what the theorems name.
-/
import Derived.Test.YtkpljmalbmcdfaaDoorPureShown12
import Derived.Test.YtkpljmalbmcdfaaDoorWAttract
set_option linter.unusedVariables false
set_option linter.unusedSimpArgs false
namespace Go.Proofs.YtkpljmalbmcdfaaDoor
open Go Go.RowKit

attribute [local irreducible] ofZ fromW wordsD ofD ofW lsD lenW lenN fullW withW lessW hasW hasD inW inD leastD putD onI tzI orS andS minusS orD andD minusD fullD emptyD
set_option maxHeartbeats 4000000 in
theorem shown12_any {w : World} (rT : RdT w 0 w.heap.size) :
    Calls Tryd.prog 9 #[] w fun e w' => e = .returned (.bool true) ∧ Ext w w' := by
 refine enter_ (args := []) Tryd.func9 rfl Tryd.ntmps9 (Nat.le_of_ble_eq_true rfl) (fun act0 f0 => ?_)
 have e0 := Ext.refl w
 refine wp_seq ?_
 refine At.start ?_
 refine At.rd f0 1 [[]] [(0, .bool false)] [] (by kernel_rfl) trivial (fun act2 f1 => ?_)
 clear f0
 refine At.done rfl ?_
 refine t_n ?_
 refine wp_seq ?_
 refine At.start ?_
 refine At.seq f1 1 [[]] [(4, .slice (some ⟨w.heap.size, 0, none⟩) 4 4)] (w.alloc (.cells #[.int .i64 (0), .int .i64 (1), .int .i64 (1), .int .i64 (0)] 3 (0, 0))) [] (by kernel_rfl) trivial (fun act6 w3 hw4 f5 => ?_)
 clear f1
 have g7 := gr_alloc hw4
 have szw3 := g7.size
 replace e0 := e0.gr g7 no_row
 have r11 := rT.gr g7 (fun _ h => by cases h)
 clear rT
 have bx9 : Bx w3 (w.heap.size) [.int .i64 (0), .int .i64 (1), .int .i64 (1), .int .i64 (0)] 3 := Bx.new hw4
 have := bx9.lt
 clear g7 hw4
 refine At.seq f5 1 [[]] [(5, .slice (some ⟨w3.heap.size, 0, none⟩) 4 4)] (w3.alloc (.cells #[.int .i64 (0), .int .i64 (0), .int .i64 (0), .int .i64 (0)] 3 (0, 0))) [] (by kernel_rfl) trivial (fun act15 w12 hw13 f14 => ?_)
 clear f5
 have g16 := gr_alloc hw13
 have szw12 := g16.size
 replace e0 := e0.gr g16 no_row
 replace r11 := r11.gr g16 (fun _ h => by cases h)
 replace bx9 := bx9.gr g16 (by simp)
 have bx18 : Bx w12 (w3.heap.size) [.int .i64 (0), .int .i64 (0), .int .i64 (0), .int .i64 (0)] 3 := Bx.new hw13
 have := bx18.lt
 clear g16 hw13
 refine At.seq f14 1 [[]] [(6, .slice (some ⟨w12.heap.size, 0, none⟩) 2 2)] (w12.alloc (.cells #[.int .i64 (0), .int .i64 (1)] 3 (0, 0))) [] (by kernel_rfl) trivial (fun act25 w22 hw23 f24 => ?_)
 clear f14
 have g26 := gr_alloc hw23
 have szw22 := g26.size
 replace e0 := e0.gr g26 no_row
 replace r11 := r11.gr g26 (fun _ h => by cases h)
 replace bx9 := bx9.gr g26 (by simp)
 replace bx18 := bx18.gr g26 (by simp)
 have bx28 : Bx w22 (w12.heap.size) [.int .i64 (0), .int .i64 (1)] 3 := Bx.new hw23
 have := bx28.lt
 clear g26 hw23
 refine At.seq f24 1 [[]] [(7, .slice (some ⟨w22.heap.size, 0, none⟩) 1 1)] (w22.alloc (.cells #[.int .i64 (2)] 3 (0, 0))) [] (by kernel_rfl) trivial (fun act36 w33 hw34 f35 => ?_)
 clear f24
 have g37 := gr_alloc hw34
 have szw33 := g37.size
 replace e0 := e0.gr g37 no_row
 replace r11 := r11.gr g37 (fun _ h => by cases h)
 replace bx9 := bx9.gr g37 (by simp)
 replace bx18 := bx18.gr g37 (by simp)
 replace bx28 := bx28.gr g37 (by simp)
 have bx39 : Bx w33 (w22.heap.size) [.int .i64 (2)] 3 := Bx.new hw34
 have := bx39.lt
 clear g37 hw34
 refine At.seq f35 1 [[]] [(8, .slice (some ⟨w33.heap.size, 0, none⟩) 2 2)] (w33.alloc (.cells #[.int .i64 (0), .int .i64 (3)] 3 (0, 0))) [] (by kernel_rfl) trivial (fun act48 w45 hw46 f47 => ?_)
 clear f35
 have g49 := gr_alloc hw46
 have szw45 := g49.size
 replace e0 := e0.gr g49 no_row
 replace r11 := r11.gr g49 (fun _ h => by cases h)
 replace bx9 := bx9.gr g49 (by simp)
 replace bx18 := bx18.gr g49 (by simp)
 replace bx28 := bx28.gr g49 (by simp)
 replace bx39 := bx39.gr g49 (by simp)
 have bx51 : Bx w45 (w33.heap.size) [.int .i64 (0), .int .i64 (3)] 3 := Bx.new hw46
 have := bx51.lt
 clear g49 hw46
 refine At.seq f47 1 [[]] [(9, .slice (some ⟨w45.heap.size, 0, none⟩) 1 1)] (w45.alloc (.cells #[.int .i64 (3)] 3 (0, 0))) [] (by kernel_rfl) trivial (fun act61 w58 hw59 f60 => ?_)
 clear f47
 have g62 := gr_alloc hw59
 have szw58 := g62.size
 replace e0 := e0.gr g62 no_row
 replace r11 := r11.gr g62 (fun _ h => by cases h)
 replace bx9 := bx9.gr g62 (by simp)
 replace bx18 := bx18.gr g62 (by simp)
 replace bx28 := bx28.gr g62 (by simp)
 replace bx39 := bx39.gr g62 (by simp)
 replace bx51 := bx51.gr g62 (by simp)
 have bx64 : Bx w58 (w45.heap.size) [.int .i64 (3)] 3 := Bx.new hw59
 have := bx64.lt
 clear g62 hw59
 refine At.seq f60 1 [[]] [(10, .slice (some ⟨w58.heap.size, 0, none⟩) 4 4)] (w58.alloc (.cells #[.slice (some ⟨w12.heap.size, 0, none⟩) 2 2, .slice (some ⟨w22.heap.size, 0, none⟩) 1 1, .slice (some ⟨w33.heap.size, 0, none⟩) 2 2, .slice (some ⟨w45.heap.size, 0, none⟩) 1 1] 22 (0, 0))) [] (by kernel_rfl) trivial (fun act75 w72 hw73 f74 => ?_)
 clear f60
 have g76 := gr_alloc hw73
 have szw72 := g76.size
 replace e0 := e0.gr g76 no_row
 replace r11 := r11.gr g76 (fun _ h => by cases h)
 replace bx9 := bx9.gr g76 (by simp)
 replace bx18 := bx18.gr g76 (by simp)
 replace bx28 := bx28.gr g76 (by simp)
 replace bx39 := bx39.gr g76 (by simp)
 replace bx51 := bx51.gr g76 (by simp)
 replace bx64 := bx64.gr g76 (by simp)
 have bx78 : Bx w72 (w58.heap.size) [.slice (some ⟨w12.heap.size, 0, none⟩) 2 2, .slice (some ⟨w22.heap.size, 0, none⟩) 1 1, .slice (some ⟨w33.heap.size, 0, none⟩) 2 2, .slice (some ⟨w45.heap.size, 0, none⟩) 1 1] 22 := Bx.new hw73
 have := bx78.lt
 clear g76 hw73
 refine At.rd f74 1 [[]] [(11, .agg #[.slice (some ⟨w.heap.size, 0, none⟩) 4 4, .slice (some ⟨w3.heap.size, 0, none⟩) 4 4, .slice (some ⟨w58.heap.size, 0, none⟩) 4 4])] [] (by kernel_rfl) trivial (fun act88 f87 => ?_)
 clear f74
 refine At.seq f87 1 [[]] [(1, .pointer (some ⟨w72.heap.size, 0, none⟩))] (w72.alloc (.cells #[.slice none 0 0, .slice none 0 0, .slice none 0 0] 25 (0, 0))) [] (by kernel_rfl) trivial (fun act92 w89 hw90 f91 => ?_)
 clear f87
 have g93 := gr_alloc hw90
 have szw89 := g93.size
 replace e0 := e0.gr g93 no_row
 replace r11 := r11.gr g93 (fun _ h => by cases h)
 replace bx9 := bx9.gr g93 (by simp)
 replace bx18 := bx18.gr g93 (by simp)
 replace bx28 := bx28.gr g93 (by simp)
 replace bx39 := bx39.gr g93 (by simp)
 replace bx51 := bx51.gr g93 (by simp)
 replace bx64 := bx64.gr g93 (by simp)
 replace bx78 := bx78.gr g93 (by simp)
 have bx104 : Bx w89 (w72.heap.size) [.slice none 0 0, .slice none 0 0, .slice none 0 0] 25 := Bx.new hw90
 have := bx104.lt
 clear g93 hw90
 refine At.store f91 (t := 25) (b := w72.heap.size) (off := 0) (v := .agg #[.slice (some ⟨w.heap.size, 0, none⟩) 4 4, .slice (some ⟨w3.heap.size, 0, none⟩) 4 4, .slice (some ⟨w58.heap.size, 0, none⟩) 4 4]) (by kernel_rfl) bx104 (by kernel_rfl) (fun act109 w105 g106 bx107 f108 => ?_)
 clear f91
 replace bx107 : Bx w105 (w72.heap.size) [.slice (some ⟨w.heap.size, 0, none⟩) 4 4, .slice (some ⟨w3.heap.size, 0, none⟩) 4 4, .slice (some ⟨w58.heap.size, 0, none⟩) 4 4] 25 := bx107
 have szw105 := g106.size
 replace e0 := e0.gr g106 (fun k h => by injection h; omega)
 replace r11 := r11.gr g106 (fun k h => by injection h; omega)
 replace bx9 := bx9.gr g106 (fun h => by injection h; omega)
 replace bx18 := bx18.gr g106 (fun h => by injection h; omega)
 replace bx28 := bx28.gr g106 (fun h => by injection h; omega)
 replace bx39 := bx39.gr g106 (fun h => by injection h; omega)
 replace bx51 := bx51.gr g106 (fun h => by injection h; omega)
 replace bx64 := bx64.gr g106 (fun h => by injection h; omega)
 replace bx78 := bx78.gr g106 (fun h => by injection h; omega)
 clear bx104 g106
 refine At.done rfl ?_
 refine t_n ?_
 refine wp_seq (cut (fun a_ w_ => ∃ (ss : List Int) (ms : List Int) (b_121 : Nat) (A_119 : Option Addr) (c_120 : Nat), (Frm 41 a_ [(3, .slice (A_119) ms.length (c_120)), (2, .pointer (some ⟨b_121, 0, none⟩))]) ∧ (Ext w w_) ∧ (RdT w_ 0 w.heap.size) ∧ (Bx w_ (w.heap.size) [.int .i64 (0), .int .i64 (1), .int .i64 (1), .int .i64 (0)] 3) ∧ (Bx w_ (w3.heap.size) [.int .i64 (0), .int .i64 (0), .int .i64 (0), .int .i64 (0)] 3) ∧ (Bx w_ (w12.heap.size) [.int .i64 (0), .int .i64 (1)] 3) ∧ (Bx w_ (w22.heap.size) [.int .i64 (2)] 3) ∧ (Bx w_ (w33.heap.size) [.int .i64 (0), .int .i64 (3)] 3) ∧ (Bx w_ (w45.heap.size) [.int .i64 (3)] 3) ∧ (Bx w_ (w58.heap.size) [.slice (some ⟨w12.heap.size, 0, none⟩) 2 2, .slice (some ⟨w22.heap.size, 0, none⟩) 1 1, .slice (some ⟨w33.heap.size, 0, none⟩) 2 2, .slice (some ⟨w45.heap.size, 0, none⟩) 1 1] 22) ∧ (Bx w_ (w72.heap.size) [.slice (some ⟨w.heap.size, 0, none⟩) 4 4, .slice (some ⟨w3.heap.size, 0, none⟩) 4 4, .slice (some ⟨w58.heap.size, 0, none⟩) 4 4] 25) ∧ (OwnR w_ (Sx (w105.heap.size) [some (b_121)]) (A_119) (c_120) 3 (ms : List Int)) ∧ (Bx w_ (b_121) ((ss : List Int).map wV) 28) ∧ (w105.heap.size ≤ b_121) ∧ (w105.heap.size ≤ w_.heap.size) ∧ (AttractT exG ([15, 0, 0, 0] : List Int) 0 ([4, 0, 0, 0] : List Int) ss ms)) ?_ ?_)
 ·obtain ⟨Cs122, hCs123⟩ : ∃ c : List (Addr × Value), c = [(⟨w72.heap.size, 0, none⟩, (.slice (some ⟨w.heap.size, 0, none⟩) 4 4)), (⟨w72.heap.size, 1, none⟩, (.slice (some ⟨w3.heap.size, 0, none⟩) 4 4)), (⟨w72.heap.size, 2, none⟩, (.slice (some ⟨w58.heap.size, 0, none⟩) 4 4))] := ⟨_, rfl⟩
  have hS124 : HoldsC Cs122 w105 := by rw [hCs123]; exact ⟨(bx107.cell (i := 0) rfl), (bx107.cell (i := 1) rfl), (bx107.cell (i := 2) rfl), trivial⟩
  refine AtH.start Cs122 11 #[false, false, false, false, false, false, false, false, false, false, false] (by kernel_rfl) rfl rfl (fun w126 hw127 => ?_)
  have g125 := gr_drew hw127
  have hS128 := hS124.gr g125
  have szw126 := g125.size
  replace e0 := e0.gr g125 no_row
  replace r11 := r11.gr g125 (fun _ h => by cases h)
  replace bx9 := bx9.gr g125 (by simp)
  replace bx18 := bx18.gr g125 (by simp)
  replace bx28 := bx28.gr g125 (by simp)
  replace bx39 := bx39.gr g125 (by simp)
  replace bx51 := bx51.gr g125 (by simp)
  replace bx64 := bx64.gr g125 (by simp)
  replace bx78 := bx78.gr g125 (by simp)
  replace bx107 := bx107.gr g125 (by simp)
  clear g125 hw127 hS124
  refine AtH.rd (by kernel_rfl) (fun d v c a w h => by cases d <;> exact h) hS128 [0] [[.ld (.slice (some ⟨w.heap.size, 0, none⟩) 4 4), .ld (.slice (some ⟨w3.heap.size, 0, none⟩) 4 4), .ld (.slice (some ⟨w58.heap.size, 0, none⟩) 4 4)]] [(13, .agg #[.slice (some ⟨w.heap.size, 0, none⟩) 4 4, .slice (some ⟨w3.heap.size, 0, none⟩) 4 4, .slice (some ⟨w58.heap.size, 0, none⟩) 4 4])] #[true, false, false, false, false, false, false, false, false, false, false] [(∃ j_ : Nat, Cs122[j_]? = some (⟨w72.heap.size, 0, none⟩, (.slice (some ⟨w.heap.size, 0, none⟩) 4 4))), (∃ j_ : Nat, Cs122[j_]? = some (⟨w72.heap.size, 1, none⟩, (.slice (some ⟨w3.heap.size, 0, none⟩) 4 4))), (∃ j_ : Nat, Cs122[j_]? = some (⟨w72.heap.size, 2, none⟩, (.slice (some ⟨w58.heap.size, 0, none⟩) 4 4)))] 10 f108 (by kernel_rfl) ⟨⟨0, by rw [hCs123]; rfl⟩, ⟨1, by rw [hCs123]; rfl⟩, ⟨2, by rw [hCs123]; rfl⟩, trivial⟩ (fun act140 f139 => ?_)
  clear f108
  refine AtH.all [1, 2, 8] 9 (by kernel_rfl) (by simp) ⟨?_, ?_, ?_, trivial⟩
  ·refine OneH.call f139 20 #[.int .i64 (4)] (some 14) #[true, true, false, false, false, false, false, false, false, false, false] (by kernel_rfl) (by kernel_rfl) ((full_any (n := 4) (by omega)).mono (R' := fun e w' => e = .returned (.agg ((([15, 0, 0, 0] : List Int) : List Int).map wV).toArray) ∧ Ext _ w') (fun e_ w_ h_ => by rw [show (fullW 4 : List Int) = ([15, 0, 0, 0] : List Int) from by decide +kernel] at h_; exact h_)) ?_
   rintro e_ w142 ⟨rfl, he⟩
   refine ⟨_, rfl, _, rfl, fun act143 f144 => ?_⟩
   clear f139
   have g145 := gr_ext he
   have hS141 := hS128.gr g145
   have szw142 := g145.size
   replace e0 := e0.gr g145 no_row
   replace r11 := r11.gr g145 (fun _ h => by cases h)
   replace bx9 := bx9.gr g145 (by simp)
   replace bx18 := bx18.gr g145 (by simp)
   replace bx28 := bx28.gr g145 (by simp)
   replace bx39 := bx39.gr g145 (by simp)
   replace bx51 := bx51.gr g145 (by simp)
   replace bx64 := bx64.gr g145 (by simp)
   replace bx78 := bx78.gr g145 (by simp)
   replace bx107 := bx107.gr g145 (by simp)
   clear g145 he
   refine ⟨hS141, ?_⟩
   refine AtH.all [2, 8] 8 (by kernel_rfl) (by simp) ⟨?_, ?_, trivial⟩
   ·refine OneH.seq f144 [[]] [(15, .slice (some ⟨w142.heap.size, 0, none⟩) 1 1)] (w142.alloc (.cells #[.int .i64 (2)] 3 (0, 0))) [] #[true, true, true, false, false, false, false, false, false, false, false] (by kernel_rfl) (by kernel_rfl) (by kernel_rfl) trivial (fun act160 w157 hw158 f159 => ?_)
    clear f144
    have g161 := gr_alloc hw158
    have hS164 := hS141.gr g161
    refine ⟨hS164, ?_⟩
    have szw157 := g161.size
    replace e0 := e0.gr g161 no_row
    replace r11 := r11.gr g161 (fun _ h => by cases h)
    replace bx9 := bx9.gr g161 (by simp)
    replace bx18 := bx18.gr g161 (by simp)
    replace bx28 := bx28.gr g161 (by simp)
    replace bx39 := bx39.gr g161 (by simp)
    replace bx51 := bx51.gr g161 (by simp)
    replace bx64 := bx64.gr g161 (by simp)
    replace bx78 := bx78.gr g161 (by simp)
    replace bx107 := bx107.gr g161 (by simp)
    have bx163 : Bx w157 (w142.heap.size) [.int .i64 (2)] 3 := Bx.new hw158
    have := bx163.lt
    clear g161 hw158
    refine AtH.all [3, 8] 7 (by kernel_rfl) (by simp) ⟨?_, ?_, trivial⟩
    ·refine OneH.call f159 24 #[.slice (some ⟨w142.heap.size, 0, none⟩) 1 1] (some 16) #[true, true, true, true, false, false, false, false, false, false, false] (by kernel_rfl) (by kernel_rfl) ((of_any (la := ([2] : List Int)) (Bx.rdI (l := ([2] : List Int)) bx163 rfl (by first | decide | exact Nat.le_of_ble_eq_true rfl))).mono (R' := fun e w' => e = .returned (.agg ((([4, 0, 0, 0] : List Int) : List Int).map wV).toArray) ∧ Ext _ w') (fun e_ w_ h_ => by rw [show (ofW ([2] : List Int) : List Int) = ([4, 0, 0, 0] : List Int) from by decide +kernel] at h_; exact h_)) ?_
     rintro e_ w176 ⟨rfl, he⟩
     refine ⟨_, rfl, _, rfl, fun act177 f178 => ?_⟩
     clear f159
     have g179 := gr_ext he
     have hS175 := hS164.gr g179
     have szw176 := g179.size
     replace e0 := e0.gr g179 no_row
     replace r11 := r11.gr g179 (fun _ h => by cases h)
     replace bx9 := bx9.gr g179 (by simp)
     replace bx18 := bx18.gr g179 (by simp)
     replace bx28 := bx28.gr g179 (by simp)
     replace bx39 := bx39.gr g179 (by simp)
     replace bx51 := bx51.gr g179 (by simp)
     replace bx64 := bx64.gr g179 (by simp)
     replace bx78 := bx78.gr g179 (by simp)
     replace bx107 := bx107.gr g179 (by simp)
     replace bx163 := bx163.gr g179 (by simp)
     clear g179 he
     refine ⟨hS175, ?_⟩
     refine AtH.all [4, 8] 6 (by kernel_rfl) (by simp) ⟨?_, ?_, trivial⟩
     ·refine OneH.call f178 12 #[.agg #[.slice (some ⟨w.heap.size, 0, none⟩) 4 4, .slice (some ⟨w3.heap.size, 0, none⟩) 4 4, .slice (some ⟨w58.heap.size, 0, none⟩) 4 4], .agg ((([15, 0, 0, 0] : List Int) : List Int).map wV).toArray, .int .i64 (0), .agg ((([4, 0, 0, 0] : List Int) : List Int).map wV).toArray] (some 17) #[true, true, true, true, true, false, false, false, false, false, false] (by kernel_rfl) (by kernel_rfl) (attract_any (g := exG) (s := ([15, 0, 0, 0] : List Int)) (t := ([4, 0, 0, 0] : List Int)) (p := 0) (RdG.mk (G := exG) (Bx.rdI (l := ([0, 1, 1, 0] : List Int)) bx9 rfl (by first | decide | exact Nat.le_of_ble_eq_true rfl)) (Bx.rdI (l := ([0, 0, 0, 0] : List Int)) bx18 rfl (by first | decide | exact Nat.le_of_ble_eq_true rfl)) (Bx.rdII (ls := ([([0, 1] : List Int), ([2] : List Int), ([0, 3] : List Int), ([3] : List Int)] : List (List Int))) bx78 ⟨⟨_, _, rfl, (by decide), (Bx.rdI (l := ([0, 1] : List Int)) bx28 rfl (by first | decide | exact Nat.le_of_ble_eq_true rfl))⟩, ⟨_, _, rfl, (by decide), (Bx.rdI (l := ([2] : List Int)) bx39 rfl (by first | decide | exact Nat.le_of_ble_eq_true rfl))⟩, ⟨_, _, rfl, (by decide), (Bx.rdI (l := ([0, 3] : List Int)) bx51 rfl (by first | decide | exact Nat.le_of_ble_eq_true rfl))⟩, ⟨_, _, rfl, (by decide), (Bx.rdI (l := ([3] : List Int)) bx64 rfl (by first | decide | exact Nat.le_of_ble_eq_true rfl))⟩, trivial⟩ (by decide)) (by decide) (by decide) (by decide)) (okW_lit ⟨by omega, by omega⟩ ⟨by omega, by omega⟩ ⟨by omega, by omega⟩ ⟨by omega, by omega⟩) (okW_lit ⟨by omega, by omega⟩ ⟨by omega, by omega⟩ ⟨by omega, by omega⟩ ⟨by omega, by omega⟩) (r11.wide (Nat.zero_le _) (by omega))) ?_
      rintro e_ w196 ⟨A192, c193, ss, ms, rfl, he, ow194, hat⟩
      have hok_ss := att_ok hat
      have hl_ss := okLen hok_ss
      have hlm_ms := att_len hat
      obtain ⟨hs1, hs2, hs3, hs4⟩ := shown12 hat
      refine ⟨_, rfl, _, rfl, fun act197 f198 => ?_⟩
      clear f178
      have g199 := gr_ext he
      have hS191 := hS175.gr g199
      have szw196 := g199.size
      replace e0 := e0.gr g199 no_row
      replace r11 := r11.gr g199 (fun _ h => by cases h)
      replace bx9 := bx9.gr g199 (by simp)
      replace bx18 := bx18.gr g199 (by simp)
      replace bx28 := bx28.gr g199 (by simp)
      replace bx39 := bx39.gr g199 (by simp)
      replace bx51 := bx51.gr g199 (by simp)
      replace bx64 := bx64.gr g199 (by simp)
      replace bx78 := bx78.gr g199 (by simp)
      replace bx107 := bx107.gr g199 (by simp)
      replace bx163 := bx163.gr g199 (by simp)
      clear g199 he
      refine ⟨hS191, ?_⟩
      refine AtH.rd (by kernel_rfl) (fun d v c a w h => by cases d <;> exact h) hS191 [5] [[]] [(12, .tuple #[.agg ((ss : List Int).map wV).toArray, .slice A192 ms.length c193])] #[true, true, true, true, true, true, false, false, false, false, false] [] 5 f198 (by kernel_rfl) trivial (fun act212 f211 => ?_)
      clear f198
      refine AtH.rd (by kernel_rfl) (fun d v c a w h => by cases d <;> exact h) hS191 [6] [[]] [(18, .agg ((ss : List Int).map wV).toArray)] #[true, true, true, true, true, true, true, false, false, false, false] [] 4 f211 (by kernel_rfl) trivial (fun act214 f213 => ?_)
      clear f211
      refine AtH.rd (by kernel_rfl) (fun d v c a w h => by cases d <;> exact h) hS191 [7] [[]] [(19, .slice A192 ms.length c193)] #[true, true, true, true, true, true, true, true, false, false, false] [] 3 f213 (by kernel_rfl) trivial (fun act216 f215 => ?_)
      clear f213
      refine AtH.all [8] 2 (by kernel_rfl) (by simp) ⟨?_, trivial⟩
      refine OneH.seq f215 [[]] [(2, .pointer (some ⟨w196.heap.size, 0, none⟩))] (w196.alloc (.cells ((List.replicate 4 (0 : Int) : List Int).map wV).toArray 28 (0, 0))) [] #[true, true, true, true, true, true, true, true, true, false, false] (by kernel_rfl) (by kernel_rfl) (by kernel_rfl) trivial (fun act221 w218 hw219 f220 => ?_)
      clear f215
      have g222 := gr_alloc hw219
      have hS217 := hS191.gr g222
      have szw218 := g222.size
      replace e0 := e0.gr g222 no_row
      replace r11 := r11.gr g222 (fun _ h => by cases h)
      replace bx9 := bx9.gr g222 (by simp)
      replace bx18 := bx18.gr g222 (by simp)
      replace bx28 := bx28.gr g222 (by simp)
      replace bx39 := bx39.gr g222 (by simp)
      replace bx51 := bx51.gr g222 (by simp)
      replace bx64 := bx64.gr g222 (by simp)
      replace bx78 := bx78.gr g222 (by simp)
      replace bx107 := bx107.gr g222 (by simp)
      replace bx163 := bx163.gr g222 (by simp)
      replace ow194 : OwnR w218 (Sx (w176.heap.size) [some (w196.heap.size)]) A192 c193 3 (ms : List Int) := ow194.grA g222 (fun _ _ h => by cases h) (fun k hk hs => ⟨(fun e => by injection e; omega), hs⟩)
      have bx236 : Bx w218 (w196.heap.size) ((List.replicate 4 (0 : Int) : List Int).map wV) 28 := Bx.new hw219
      have := bx236.lt
      clear g222 hw219
      refine ⟨hS217, ?_⟩
      refine AtH.all [9] 1 (by kernel_rfl) (by simp) ⟨?_, trivial⟩
      refine OneH.act f220 #[true, true, true, true, true, true, true, true, true, true, false] (by kernel_rfl) (storeBlk (t := 28) (b := w196.heap.size) (n := 4) (cs' := ((ss : List Int).map wV)) (by kernel_rfl) (by kernel_rfl) ((List.length_map _).trans (by assumption)) oneW_ ((show ((ss : List Int).map wV).length = 4 from ((List.length_map _).trans (by assumption))).trans (show ((List.replicate 4 (0 : Int) : List Int).map wV).length = 4 from (by simp only [List.length_map, List.length_set, List.length_replicate, List.length_cons, List.length_nil]; first | done | assumption | exact from_len _ | exact of_len _ | exact ofZ_len _ | exact (ofW_ok _).1 | exact (fullW_W _).1 | exact (okW_with (by assumption)).1 | exact (okW_less (by assumption)).1 | exact put_len (from_len _) | exact orD_len _ _ | exact andD_len _ _ | exact minusD_len _ _ | exact fullD_len _ | (refine okLen ?_; (repeat (first | assumption | exact ofW_ok _ | exact fullW_W _ | apply okW_with | apply okW_less | refine okW_orS ?_ ?_ | refine okW_andS ?_ ?_ | refine okW_minusS ?_ ?_)); done) | omega | rfl)).symm) bx236) ?_
      rintro d_ v_ w238 ⟨rfl, g239, bx240⟩
      have hS243 := hS217.gr' g239 (by rw [hCs123]; exact ⟨(by simp only [add_block]; omega), (by simp only [add_block]; omega), (by simp only [add_block]; omega), trivial⟩)
      refine ⟨_, rfl, fun act242 f241 => ⟨hS243, ?_⟩⟩
      clear f220
      have szw238 := g239.size
      replace e0 := e0.gr g239 (fun k h => by injection h; omega)
      replace r11 := r11.gr g239 (fun k h => by injection h; omega)
      replace bx9 := bx9.gr g239 (fun h => by injection h; omega)
      replace bx18 := bx18.gr g239 (fun h => by injection h; omega)
      replace bx28 := bx28.gr g239 (fun h => by injection h; omega)
      replace bx39 := bx39.gr g239 (fun h => by injection h; omega)
      replace bx51 := bx51.gr g239 (fun h => by injection h; omega)
      replace bx64 := bx64.gr g239 (fun h => by injection h; omega)
      replace bx78 := bx78.gr g239 (fun h => by injection h; omega)
      replace bx107 := bx107.gr g239 (fun h => by injection h; omega)
      replace bx163 := bx163.gr g239 (fun h => by injection h; omega)
      replace ow194 := ow194.gr g239 (fun k hk => hk.1)
      clear bx236 g239
      refine AtH.rd (by kernel_rfl) (fun d v c a w h => by cases d <;> exact h) hS243 [10] [[]] [(3, .slice A192 ms.length c193)] #[true, true, true, true, true, true, true, true, true, true, true] [] 0 f241 (by kernel_rfl) trivial (fun act257 f256 => ?_)
      clear f241
      refine AtH.done (by kernel_rfl) ?_
      clear hS243
      refine t_n ?_
      have f258 := f256.sub (r := [(3, .slice A192 ms.length c193), (2, .pointer (some ⟨w196.heap.size, 0, none⟩))]) ⟨rfl, rfl, trivial⟩
      exact ⟨ss, ms, w196.heap.size, A192, c193, f258, e0, r11, bx9, bx18, bx28, bx39, bx51, bx64, bx78, bx107, (ow194.imp (fun g _ hs => ⟨hs.1, (by have := Sx_base hs; show w105.heap.size ≤ g; omega)⟩)), bx240, (by omega), (by omega), hat⟩
     ·refine OneH.seq f178 [[]] [(2, .pointer (some ⟨w176.heap.size, 0, none⟩))] (w176.alloc (.cells ((List.replicate 4 (0 : Int) : List Int).map wV).toArray 28 (0, 0))) [] #[true, true, true, true, false, false, false, false, true, false, false] (by kernel_rfl) (by kernel_rfl) (by kernel_rfl) trivial (fun act263 w260 hw261 f262 => ?_)
      clear f178
      have g264 := gr_alloc hw261
      have hS259 := hS175.gr g264
      have szw260 := g264.size
      replace e0 := e0.gr g264 no_row
      replace r11 := r11.gr g264 (fun _ h => by cases h)
      replace bx9 := bx9.gr g264 (by simp)
      replace bx18 := bx18.gr g264 (by simp)
      replace bx28 := bx28.gr g264 (by simp)
      replace bx39 := bx39.gr g264 (by simp)
      replace bx51 := bx51.gr g264 (by simp)
      replace bx64 := bx64.gr g264 (by simp)
      replace bx78 := bx78.gr g264 (by simp)
      replace bx107 := bx107.gr g264 (by simp)
      replace bx163 := bx163.gr g264 (by simp)
      have bx277 : Bx w260 (w176.heap.size) ((List.replicate 4 (0 : Int) : List Int).map wV) 28 := Bx.new hw261
      have := bx277.lt
      clear g264 hw261
      refine ⟨hS259, ?_⟩
      refine AtH.all [4] 5 (by kernel_rfl) (by simp) ⟨?_, trivial⟩
      refine OneH.call f262 12 #[.agg #[.slice (some ⟨w.heap.size, 0, none⟩) 4 4, .slice (some ⟨w3.heap.size, 0, none⟩) 4 4, .slice (some ⟨w58.heap.size, 0, none⟩) 4 4], .agg ((([15, 0, 0, 0] : List Int) : List Int).map wV).toArray, .int .i64 (0), .agg ((([4, 0, 0, 0] : List Int) : List Int).map wV).toArray] (some 17) #[true, true, true, true, true, false, false, false, true, false, false] (by kernel_rfl) (by kernel_rfl) (attract_any (g := exG) (s := ([15, 0, 0, 0] : List Int)) (t := ([4, 0, 0, 0] : List Int)) (p := 0) (RdG.mk (G := exG) (Bx.rdI (l := ([0, 1, 1, 0] : List Int)) bx9 rfl (by first | decide | exact Nat.le_of_ble_eq_true rfl)) (Bx.rdI (l := ([0, 0, 0, 0] : List Int)) bx18 rfl (by first | decide | exact Nat.le_of_ble_eq_true rfl)) (Bx.rdII (ls := ([([0, 1] : List Int), ([2] : List Int), ([0, 3] : List Int), ([3] : List Int)] : List (List Int))) bx78 ⟨⟨_, _, rfl, (by decide), (Bx.rdI (l := ([0, 1] : List Int)) bx28 rfl (by first | decide | exact Nat.le_of_ble_eq_true rfl))⟩, ⟨_, _, rfl, (by decide), (Bx.rdI (l := ([2] : List Int)) bx39 rfl (by first | decide | exact Nat.le_of_ble_eq_true rfl))⟩, ⟨_, _, rfl, (by decide), (Bx.rdI (l := ([0, 3] : List Int)) bx51 rfl (by first | decide | exact Nat.le_of_ble_eq_true rfl))⟩, ⟨_, _, rfl, (by decide), (Bx.rdI (l := ([3] : List Int)) bx64 rfl (by first | decide | exact Nat.le_of_ble_eq_true rfl))⟩, trivial⟩ (by decide)) (by decide) (by decide) (by decide)) (okW_lit ⟨by omega, by omega⟩ ⟨by omega, by omega⟩ ⟨by omega, by omega⟩ ⟨by omega, by omega⟩) (okW_lit ⟨by omega, by omega⟩ ⟨by omega, by omega⟩ ⟨by omega, by omega⟩ ⟨by omega, by omega⟩) (r11.wide (Nat.zero_le _) (by omega))) ?_
      rintro e_ w283 ⟨A279, c280, ss, ms, rfl, he, ow281, hat⟩
      have hok_ss := att_ok hat
      have hl_ss := okLen hok_ss
      have hlm_ms := att_len hat
      obtain ⟨hs1, hs2, hs3, hs4⟩ := shown12 hat
      refine ⟨_, rfl, _, rfl, fun act284 f285 => ?_⟩
      clear f262
      have g286 := gr_ext he
      have hS278 := hS259.gr g286
      have szw283 := g286.size
      replace e0 := e0.gr g286 no_row
      replace r11 := r11.gr g286 (fun _ h => by cases h)
      replace bx9 := bx9.gr g286 (by simp)
      replace bx18 := bx18.gr g286 (by simp)
      replace bx28 := bx28.gr g286 (by simp)
      replace bx39 := bx39.gr g286 (by simp)
      replace bx51 := bx51.gr g286 (by simp)
      replace bx64 := bx64.gr g286 (by simp)
      replace bx78 := bx78.gr g286 (by simp)
      replace bx107 := bx107.gr g286 (by simp)
      replace bx163 := bx163.gr g286 (by simp)
      replace bx277 := bx277.gr g286 (by simp)
      clear g286 he
      refine ⟨hS278, ?_⟩
      refine AtH.rd (by kernel_rfl) (fun d v c a w h => by cases d <;> exact h) hS278 [5] [[]] [(12, .tuple #[.agg ((ss : List Int).map wV).toArray, .slice A279 ms.length c280])] #[true, true, true, true, true, true, false, false, true, false, false] [] 4 f285 (by kernel_rfl) trivial (fun act300 f299 => ?_)
      clear f285
      refine AtH.rd (by kernel_rfl) (fun d v c a w h => by cases d <;> exact h) hS278 [6] [[]] [(18, .agg ((ss : List Int).map wV).toArray)] #[true, true, true, true, true, true, true, false, true, false, false] [] 3 f299 (by kernel_rfl) trivial (fun act302 f301 => ?_)
      clear f299
      refine AtH.rd (by kernel_rfl) (fun d v c a w h => by cases d <;> exact h) hS278 [7] [[]] [(19, .slice A279 ms.length c280)] #[true, true, true, true, true, true, true, true, true, false, false] [] 2 f301 (by kernel_rfl) trivial (fun act304 f303 => ?_)
      clear f301
      refine AtH.all [9] 1 (by kernel_rfl) (by simp) ⟨?_, trivial⟩
      refine OneH.act f303 #[true, true, true, true, true, true, true, true, true, true, false] (by kernel_rfl) (storeBlk (t := 28) (b := w176.heap.size) (n := 4) (cs' := ((ss : List Int).map wV)) (by kernel_rfl) (by kernel_rfl) ((List.length_map _).trans (by assumption)) oneW_ ((show ((ss : List Int).map wV).length = 4 from ((List.length_map _).trans (by assumption))).trans (show ((List.replicate 4 (0 : Int) : List Int).map wV).length = 4 from (by simp only [List.length_map, List.length_set, List.length_replicate, List.length_cons, List.length_nil]; first | done | assumption | exact from_len _ | exact of_len _ | exact ofZ_len _ | exact (ofW_ok _).1 | exact (fullW_W _).1 | exact (okW_with (by assumption)).1 | exact (okW_less (by assumption)).1 | exact put_len (from_len _) | exact orD_len _ _ | exact andD_len _ _ | exact minusD_len _ _ | exact fullD_len _ | (refine okLen ?_; (repeat (first | assumption | exact ofW_ok _ | exact fullW_W _ | apply okW_with | apply okW_less | refine okW_orS ?_ ?_ | refine okW_andS ?_ ?_ | refine okW_minusS ?_ ?_)); done) | omega | rfl)).symm) bx277) ?_
      rintro d_ v_ w306 ⟨rfl, g307, bx308⟩
      have hS311 := hS278.gr' g307 (by rw [hCs123]; exact ⟨(by simp only [add_block]; omega), (by simp only [add_block]; omega), (by simp only [add_block]; omega), trivial⟩)
      refine ⟨_, rfl, fun act310 f309 => ⟨hS311, ?_⟩⟩
      clear f303
      have szw306 := g307.size
      replace e0 := e0.gr g307 (fun k h => by injection h; omega)
      replace r11 := r11.gr g307 (fun k h => by injection h; omega)
      replace bx9 := bx9.gr g307 (fun h => by injection h; omega)
      replace bx18 := bx18.gr g307 (fun h => by injection h; omega)
      replace bx28 := bx28.gr g307 (fun h => by injection h; omega)
      replace bx39 := bx39.gr g307 (fun h => by injection h; omega)
      replace bx51 := bx51.gr g307 (fun h => by injection h; omega)
      replace bx64 := bx64.gr g307 (fun h => by injection h; omega)
      replace bx78 := bx78.gr g307 (fun h => by injection h; omega)
      replace bx107 := bx107.gr g307 (fun h => by injection h; omega)
      replace bx163 := bx163.gr g307 (fun h => by injection h; omega)
      replace ow281 := ow281.gr g307 (fun k hk e => by have := Sx_base hk; injection e; omega)
      clear bx277 g307
      refine AtH.rd (by kernel_rfl) (fun d v c a w h => by cases d <;> exact h) hS311 [10] [[]] [(3, .slice A279 ms.length c280)] #[true, true, true, true, true, true, true, true, true, true, true] [] 0 f309 (by kernel_rfl) trivial (fun act325 f324 => ?_)
      clear f309
      refine AtH.done (by kernel_rfl) ?_
      clear hS311
      refine t_n ?_
      have f326 := f324.sub (r := [(3, .slice A279 ms.length c280), (2, .pointer (some ⟨w176.heap.size, 0, none⟩))]) ⟨rfl, rfl, trivial⟩
      exact ⟨ss, ms, w176.heap.size, A279, c280, f326, e0, r11, bx9, bx18, bx28, bx39, bx51, bx64, bx78, bx107, (ow281.imp (fun g _ hs => ⟨(fun e => by have := Sx_base hs; injection e; omega), (by have := Sx_base hs; show w105.heap.size ≤ g; omega)⟩)), bx308, (by omega), (by omega), hat⟩
    ·refine OneH.seq f159 [[]] [(2, .pointer (some ⟨w157.heap.size, 0, none⟩))] (w157.alloc (.cells ((List.replicate 4 (0 : Int) : List Int).map wV).toArray 28 (0, 0))) [] #[true, true, true, false, false, false, false, false, true, false, false] (by kernel_rfl) (by kernel_rfl) (by kernel_rfl) trivial (fun act331 w328 hw329 f330 => ?_)
     clear f159
     have g332 := gr_alloc hw329
     have hS327 := hS164.gr g332
     have szw328 := g332.size
     replace e0 := e0.gr g332 no_row
     replace r11 := r11.gr g332 (fun _ h => by cases h)
     replace bx9 := bx9.gr g332 (by simp)
     replace bx18 := bx18.gr g332 (by simp)
     replace bx28 := bx28.gr g332 (by simp)
     replace bx39 := bx39.gr g332 (by simp)
     replace bx51 := bx51.gr g332 (by simp)
     replace bx64 := bx64.gr g332 (by simp)
     replace bx78 := bx78.gr g332 (by simp)
     replace bx107 := bx107.gr g332 (by simp)
     replace bx163 := bx163.gr g332 (by simp)
     have bx345 : Bx w328 (w157.heap.size) ((List.replicate 4 (0 : Int) : List Int).map wV) 28 := Bx.new hw329
     have := bx345.lt
     clear g332 hw329
     refine ⟨hS327, ?_⟩
     refine AtH.all [3] 6 (by kernel_rfl) (by simp) ⟨?_, trivial⟩
     refine OneH.call f330 24 #[.slice (some ⟨w142.heap.size, 0, none⟩) 1 1] (some 16) #[true, true, true, true, false, false, false, false, true, false, false] (by kernel_rfl) (by kernel_rfl) ((of_any (la := ([2] : List Int)) (Bx.rdI (l := ([2] : List Int)) bx163 rfl (by first | decide | exact Nat.le_of_ble_eq_true rfl))).mono (R' := fun e w' => e = .returned (.agg ((([4, 0, 0, 0] : List Int) : List Int).map wV).toArray) ∧ Ext _ w') (fun e_ w_ h_ => by rw [show (ofW ([2] : List Int) : List Int) = ([4, 0, 0, 0] : List Int) from by decide +kernel] at h_; exact h_)) ?_
     rintro e_ w347 ⟨rfl, he⟩
     refine ⟨_, rfl, _, rfl, fun act348 f349 => ?_⟩
     clear f330
     have g350 := gr_ext he
     have hS346 := hS327.gr g350
     have szw347 := g350.size
     replace e0 := e0.gr g350 no_row
     replace r11 := r11.gr g350 (fun _ h => by cases h)
     replace bx9 := bx9.gr g350 (by simp)
     replace bx18 := bx18.gr g350 (by simp)
     replace bx28 := bx28.gr g350 (by simp)
     replace bx39 := bx39.gr g350 (by simp)
     replace bx51 := bx51.gr g350 (by simp)
     replace bx64 := bx64.gr g350 (by simp)
     replace bx78 := bx78.gr g350 (by simp)
     replace bx107 := bx107.gr g350 (by simp)
     replace bx163 := bx163.gr g350 (by simp)
     replace bx345 := bx345.gr g350 (by simp)
     clear g350 he
     refine ⟨hS346, ?_⟩
     refine AtH.all [4] 5 (by kernel_rfl) (by simp) ⟨?_, trivial⟩
     refine OneH.call f349 12 #[.agg #[.slice (some ⟨w.heap.size, 0, none⟩) 4 4, .slice (some ⟨w3.heap.size, 0, none⟩) 4 4, .slice (some ⟨w58.heap.size, 0, none⟩) 4 4], .agg ((([15, 0, 0, 0] : List Int) : List Int).map wV).toArray, .int .i64 (0), .agg ((([4, 0, 0, 0] : List Int) : List Int).map wV).toArray] (some 17) #[true, true, true, true, true, false, false, false, true, false, false] (by kernel_rfl) (by kernel_rfl) (attract_any (g := exG) (s := ([15, 0, 0, 0] : List Int)) (t := ([4, 0, 0, 0] : List Int)) (p := 0) (RdG.mk (G := exG) (Bx.rdI (l := ([0, 1, 1, 0] : List Int)) bx9 rfl (by first | decide | exact Nat.le_of_ble_eq_true rfl)) (Bx.rdI (l := ([0, 0, 0, 0] : List Int)) bx18 rfl (by first | decide | exact Nat.le_of_ble_eq_true rfl)) (Bx.rdII (ls := ([([0, 1] : List Int), ([2] : List Int), ([0, 3] : List Int), ([3] : List Int)] : List (List Int))) bx78 ⟨⟨_, _, rfl, (by decide), (Bx.rdI (l := ([0, 1] : List Int)) bx28 rfl (by first | decide | exact Nat.le_of_ble_eq_true rfl))⟩, ⟨_, _, rfl, (by decide), (Bx.rdI (l := ([2] : List Int)) bx39 rfl (by first | decide | exact Nat.le_of_ble_eq_true rfl))⟩, ⟨_, _, rfl, (by decide), (Bx.rdI (l := ([0, 3] : List Int)) bx51 rfl (by first | decide | exact Nat.le_of_ble_eq_true rfl))⟩, ⟨_, _, rfl, (by decide), (Bx.rdI (l := ([3] : List Int)) bx64 rfl (by first | decide | exact Nat.le_of_ble_eq_true rfl))⟩, trivial⟩ (by decide)) (by decide) (by decide) (by decide)) (okW_lit ⟨by omega, by omega⟩ ⟨by omega, by omega⟩ ⟨by omega, by omega⟩ ⟨by omega, by omega⟩) (okW_lit ⟨by omega, by omega⟩ ⟨by omega, by omega⟩ ⟨by omega, by omega⟩ ⟨by omega, by omega⟩) (r11.wide (Nat.zero_le _) (by omega))) ?_
     rintro e_ w368 ⟨A364, c365, ss, ms, rfl, he, ow366, hat⟩
     have hok_ss := att_ok hat
     have hl_ss := okLen hok_ss
     have hlm_ms := att_len hat
     obtain ⟨hs1, hs2, hs3, hs4⟩ := shown12 hat
     refine ⟨_, rfl, _, rfl, fun act369 f370 => ?_⟩
     clear f349
     have g371 := gr_ext he
     have hS363 := hS346.gr g371
     have szw368 := g371.size
     replace e0 := e0.gr g371 no_row
     replace r11 := r11.gr g371 (fun _ h => by cases h)
     replace bx9 := bx9.gr g371 (by simp)
     replace bx18 := bx18.gr g371 (by simp)
     replace bx28 := bx28.gr g371 (by simp)
     replace bx39 := bx39.gr g371 (by simp)
     replace bx51 := bx51.gr g371 (by simp)
     replace bx64 := bx64.gr g371 (by simp)
     replace bx78 := bx78.gr g371 (by simp)
     replace bx107 := bx107.gr g371 (by simp)
     replace bx163 := bx163.gr g371 (by simp)
     replace bx345 := bx345.gr g371 (by simp)
     clear g371 he
     refine ⟨hS363, ?_⟩
     refine AtH.rd (by kernel_rfl) (fun d v c a w h => by cases d <;> exact h) hS363 [5] [[]] [(12, .tuple #[.agg ((ss : List Int).map wV).toArray, .slice A364 ms.length c365])] #[true, true, true, true, true, true, false, false, true, false, false] [] 4 f370 (by kernel_rfl) trivial (fun act385 f384 => ?_)
     clear f370
     refine AtH.rd (by kernel_rfl) (fun d v c a w h => by cases d <;> exact h) hS363 [6] [[]] [(18, .agg ((ss : List Int).map wV).toArray)] #[true, true, true, true, true, true, true, false, true, false, false] [] 3 f384 (by kernel_rfl) trivial (fun act387 f386 => ?_)
     clear f384
     refine AtH.rd (by kernel_rfl) (fun d v c a w h => by cases d <;> exact h) hS363 [7] [[]] [(19, .slice A364 ms.length c365)] #[true, true, true, true, true, true, true, true, true, false, false] [] 2 f386 (by kernel_rfl) trivial (fun act389 f388 => ?_)
     clear f386
     refine AtH.all [9] 1 (by kernel_rfl) (by simp) ⟨?_, trivial⟩
     refine OneH.act f388 #[true, true, true, true, true, true, true, true, true, true, false] (by kernel_rfl) (storeBlk (t := 28) (b := w157.heap.size) (n := 4) (cs' := ((ss : List Int).map wV)) (by kernel_rfl) (by kernel_rfl) ((List.length_map _).trans (by assumption)) oneW_ ((show ((ss : List Int).map wV).length = 4 from ((List.length_map _).trans (by assumption))).trans (show ((List.replicate 4 (0 : Int) : List Int).map wV).length = 4 from (by simp only [List.length_map, List.length_set, List.length_replicate, List.length_cons, List.length_nil]; first | done | assumption | exact from_len _ | exact of_len _ | exact ofZ_len _ | exact (ofW_ok _).1 | exact (fullW_W _).1 | exact (okW_with (by assumption)).1 | exact (okW_less (by assumption)).1 | exact put_len (from_len _) | exact orD_len _ _ | exact andD_len _ _ | exact minusD_len _ _ | exact fullD_len _ | (refine okLen ?_; (repeat (first | assumption | exact ofW_ok _ | exact fullW_W _ | apply okW_with | apply okW_less | refine okW_orS ?_ ?_ | refine okW_andS ?_ ?_ | refine okW_minusS ?_ ?_)); done) | omega | rfl)).symm) bx345) ?_
     rintro d_ v_ w391 ⟨rfl, g392, bx393⟩
     have hS396 := hS363.gr' g392 (by rw [hCs123]; exact ⟨(by simp only [add_block]; omega), (by simp only [add_block]; omega), (by simp only [add_block]; omega), trivial⟩)
     refine ⟨_, rfl, fun act395 f394 => ⟨hS396, ?_⟩⟩
     clear f388
     have szw391 := g392.size
     replace e0 := e0.gr g392 (fun k h => by injection h; omega)
     replace r11 := r11.gr g392 (fun k h => by injection h; omega)
     replace bx9 := bx9.gr g392 (fun h => by injection h; omega)
     replace bx18 := bx18.gr g392 (fun h => by injection h; omega)
     replace bx28 := bx28.gr g392 (fun h => by injection h; omega)
     replace bx39 := bx39.gr g392 (fun h => by injection h; omega)
     replace bx51 := bx51.gr g392 (fun h => by injection h; omega)
     replace bx64 := bx64.gr g392 (fun h => by injection h; omega)
     replace bx78 := bx78.gr g392 (fun h => by injection h; omega)
     replace bx107 := bx107.gr g392 (fun h => by injection h; omega)
     replace bx163 := bx163.gr g392 (fun h => by injection h; omega)
     replace ow366 := ow366.gr g392 (fun k hk e => by have := Sx_base hk; injection e; omega)
     clear bx345 g392
     refine AtH.rd (by kernel_rfl) (fun d v c a w h => by cases d <;> exact h) hS396 [10] [[]] [(3, .slice A364 ms.length c365)] #[true, true, true, true, true, true, true, true, true, true, true] [] 0 f394 (by kernel_rfl) trivial (fun act410 f409 => ?_)
     clear f394
     refine AtH.done (by kernel_rfl) ?_
     clear hS396
     refine t_n ?_
     have f411 := f409.sub (r := [(3, .slice A364 ms.length c365), (2, .pointer (some ⟨w157.heap.size, 0, none⟩))]) ⟨rfl, rfl, trivial⟩
     exact ⟨ss, ms, w157.heap.size, A364, c365, f411, e0, r11, bx9, bx18, bx28, bx39, bx51, bx64, bx78, bx107, (ow366.imp (fun g _ hs => ⟨(fun e => by have := Sx_base hs; injection e; omega), (by have := Sx_base hs; show w105.heap.size ≤ g; omega)⟩)), bx393, (by omega), (by omega), hat⟩
   ·refine OneH.seq f144 [[]] [(2, .pointer (some ⟨w142.heap.size, 0, none⟩))] (w142.alloc (.cells ((List.replicate 4 (0 : Int) : List Int).map wV).toArray 28 (0, 0))) [] #[true, true, false, false, false, false, false, false, true, false, false] (by kernel_rfl) (by kernel_rfl) (by kernel_rfl) trivial (fun act416 w413 hw414 f415 => ?_)
    clear f144
    have g417 := gr_alloc hw414
    have hS412 := hS141.gr g417
    have szw413 := g417.size
    replace e0 := e0.gr g417 no_row
    replace r11 := r11.gr g417 (fun _ h => by cases h)
    replace bx9 := bx9.gr g417 (by simp)
    replace bx18 := bx18.gr g417 (by simp)
    replace bx28 := bx28.gr g417 (by simp)
    replace bx39 := bx39.gr g417 (by simp)
    replace bx51 := bx51.gr g417 (by simp)
    replace bx64 := bx64.gr g417 (by simp)
    replace bx78 := bx78.gr g417 (by simp)
    replace bx107 := bx107.gr g417 (by simp)
    have bx429 : Bx w413 (w142.heap.size) ((List.replicate 4 (0 : Int) : List Int).map wV) 28 := Bx.new hw414
    have := bx429.lt
    clear g417 hw414
    refine ⟨hS412, ?_⟩
    refine AtH.all [2] 7 (by kernel_rfl) (by simp) ⟨?_, trivial⟩
    refine OneH.seq f415 [[]] [(15, .slice (some ⟨w413.heap.size, 0, none⟩) 1 1)] (w413.alloc (.cells #[.int .i64 (2)] 3 (0, 0))) [] #[true, true, true, false, false, false, false, false, true, false, false] (by kernel_rfl) (by kernel_rfl) (by kernel_rfl) trivial (fun act434 w431 hw432 f433 => ?_)
    clear f415
    have g435 := gr_alloc hw432
    have hS438 := hS412.gr g435
    refine ⟨hS438, ?_⟩
    have szw431 := g435.size
    replace e0 := e0.gr g435 no_row
    replace r11 := r11.gr g435 (fun _ h => by cases h)
    replace bx9 := bx9.gr g435 (by simp)
    replace bx18 := bx18.gr g435 (by simp)
    replace bx28 := bx28.gr g435 (by simp)
    replace bx39 := bx39.gr g435 (by simp)
    replace bx51 := bx51.gr g435 (by simp)
    replace bx64 := bx64.gr g435 (by simp)
    replace bx78 := bx78.gr g435 (by simp)
    replace bx107 := bx107.gr g435 (by simp)
    replace bx429 := bx429.gr g435 (by simp)
    have bx437 : Bx w431 (w413.heap.size) [.int .i64 (2)] 3 := Bx.new hw432
    have := bx437.lt
    clear g435 hw432
    refine AtH.all [3] 6 (by kernel_rfl) (by simp) ⟨?_, trivial⟩
    refine OneH.call f433 24 #[.slice (some ⟨w413.heap.size, 0, none⟩) 1 1] (some 16) #[true, true, true, true, false, false, false, false, true, false, false] (by kernel_rfl) (by kernel_rfl) ((of_any (la := ([2] : List Int)) (Bx.rdI (l := ([2] : List Int)) bx437 rfl (by first | decide | exact Nat.le_of_ble_eq_true rfl))).mono (R' := fun e w' => e = .returned (.agg ((([4, 0, 0, 0] : List Int) : List Int).map wV).toArray) ∧ Ext _ w') (fun e_ w_ h_ => by rw [show (ofW ([2] : List Int) : List Int) = ([4, 0, 0, 0] : List Int) from by decide +kernel] at h_; exact h_)) ?_
    rintro e_ w451 ⟨rfl, he⟩
    refine ⟨_, rfl, _, rfl, fun act452 f453 => ?_⟩
    clear f433
    have g454 := gr_ext he
    have hS450 := hS438.gr g454
    have szw451 := g454.size
    replace e0 := e0.gr g454 no_row
    replace r11 := r11.gr g454 (fun _ h => by cases h)
    replace bx9 := bx9.gr g454 (by simp)
    replace bx18 := bx18.gr g454 (by simp)
    replace bx28 := bx28.gr g454 (by simp)
    replace bx39 := bx39.gr g454 (by simp)
    replace bx51 := bx51.gr g454 (by simp)
    replace bx64 := bx64.gr g454 (by simp)
    replace bx78 := bx78.gr g454 (by simp)
    replace bx107 := bx107.gr g454 (by simp)
    replace bx429 := bx429.gr g454 (by simp)
    replace bx437 := bx437.gr g454 (by simp)
    clear g454 he
    refine ⟨hS450, ?_⟩
    refine AtH.all [4] 5 (by kernel_rfl) (by simp) ⟨?_, trivial⟩
    refine OneH.call f453 12 #[.agg #[.slice (some ⟨w.heap.size, 0, none⟩) 4 4, .slice (some ⟨w3.heap.size, 0, none⟩) 4 4, .slice (some ⟨w58.heap.size, 0, none⟩) 4 4], .agg ((([15, 0, 0, 0] : List Int) : List Int).map wV).toArray, .int .i64 (0), .agg ((([4, 0, 0, 0] : List Int) : List Int).map wV).toArray] (some 17) #[true, true, true, true, true, false, false, false, true, false, false] (by kernel_rfl) (by kernel_rfl) (attract_any (g := exG) (s := ([15, 0, 0, 0] : List Int)) (t := ([4, 0, 0, 0] : List Int)) (p := 0) (RdG.mk (G := exG) (Bx.rdI (l := ([0, 1, 1, 0] : List Int)) bx9 rfl (by first | decide | exact Nat.le_of_ble_eq_true rfl)) (Bx.rdI (l := ([0, 0, 0, 0] : List Int)) bx18 rfl (by first | decide | exact Nat.le_of_ble_eq_true rfl)) (Bx.rdII (ls := ([([0, 1] : List Int), ([2] : List Int), ([0, 3] : List Int), ([3] : List Int)] : List (List Int))) bx78 ⟨⟨_, _, rfl, (by decide), (Bx.rdI (l := ([0, 1] : List Int)) bx28 rfl (by first | decide | exact Nat.le_of_ble_eq_true rfl))⟩, ⟨_, _, rfl, (by decide), (Bx.rdI (l := ([2] : List Int)) bx39 rfl (by first | decide | exact Nat.le_of_ble_eq_true rfl))⟩, ⟨_, _, rfl, (by decide), (Bx.rdI (l := ([0, 3] : List Int)) bx51 rfl (by first | decide | exact Nat.le_of_ble_eq_true rfl))⟩, ⟨_, _, rfl, (by decide), (Bx.rdI (l := ([3] : List Int)) bx64 rfl (by first | decide | exact Nat.le_of_ble_eq_true rfl))⟩, trivial⟩ (by decide)) (by decide) (by decide) (by decide)) (okW_lit ⟨by omega, by omega⟩ ⟨by omega, by omega⟩ ⟨by omega, by omega⟩ ⟨by omega, by omega⟩) (okW_lit ⟨by omega, by omega⟩ ⟨by omega, by omega⟩ ⟨by omega, by omega⟩ ⟨by omega, by omega⟩) (r11.wide (Nat.zero_le _) (by omega))) ?_
    rintro e_ w472 ⟨A468, c469, ss, ms, rfl, he, ow470, hat⟩
    have hok_ss := att_ok hat
    have hl_ss := okLen hok_ss
    have hlm_ms := att_len hat
    obtain ⟨hs1, hs2, hs3, hs4⟩ := shown12 hat
    refine ⟨_, rfl, _, rfl, fun act473 f474 => ?_⟩
    clear f453
    have g475 := gr_ext he
    have hS467 := hS450.gr g475
    have szw472 := g475.size
    replace e0 := e0.gr g475 no_row
    replace r11 := r11.gr g475 (fun _ h => by cases h)
    replace bx9 := bx9.gr g475 (by simp)
    replace bx18 := bx18.gr g475 (by simp)
    replace bx28 := bx28.gr g475 (by simp)
    replace bx39 := bx39.gr g475 (by simp)
    replace bx51 := bx51.gr g475 (by simp)
    replace bx64 := bx64.gr g475 (by simp)
    replace bx78 := bx78.gr g475 (by simp)
    replace bx107 := bx107.gr g475 (by simp)
    replace bx429 := bx429.gr g475 (by simp)
    replace bx437 := bx437.gr g475 (by simp)
    clear g475 he
    refine ⟨hS467, ?_⟩
    refine AtH.rd (by kernel_rfl) (fun d v c a w h => by cases d <;> exact h) hS467 [5] [[]] [(12, .tuple #[.agg ((ss : List Int).map wV).toArray, .slice A468 ms.length c469])] #[true, true, true, true, true, true, false, false, true, false, false] [] 4 f474 (by kernel_rfl) trivial (fun act489 f488 => ?_)
    clear f474
    refine AtH.rd (by kernel_rfl) (fun d v c a w h => by cases d <;> exact h) hS467 [6] [[]] [(18, .agg ((ss : List Int).map wV).toArray)] #[true, true, true, true, true, true, true, false, true, false, false] [] 3 f488 (by kernel_rfl) trivial (fun act491 f490 => ?_)
    clear f488
    refine AtH.rd (by kernel_rfl) (fun d v c a w h => by cases d <;> exact h) hS467 [7] [[]] [(19, .slice A468 ms.length c469)] #[true, true, true, true, true, true, true, true, true, false, false] [] 2 f490 (by kernel_rfl) trivial (fun act493 f492 => ?_)
    clear f490
    refine AtH.all [9] 1 (by kernel_rfl) (by simp) ⟨?_, trivial⟩
    refine OneH.act f492 #[true, true, true, true, true, true, true, true, true, true, false] (by kernel_rfl) (storeBlk (t := 28) (b := w142.heap.size) (n := 4) (cs' := ((ss : List Int).map wV)) (by kernel_rfl) (by kernel_rfl) ((List.length_map _).trans (by assumption)) oneW_ ((show ((ss : List Int).map wV).length = 4 from ((List.length_map _).trans (by assumption))).trans (show ((List.replicate 4 (0 : Int) : List Int).map wV).length = 4 from (by simp only [List.length_map, List.length_set, List.length_replicate, List.length_cons, List.length_nil]; first | done | assumption | exact from_len _ | exact of_len _ | exact ofZ_len _ | exact (ofW_ok _).1 | exact (fullW_W _).1 | exact (okW_with (by assumption)).1 | exact (okW_less (by assumption)).1 | exact put_len (from_len _) | exact orD_len _ _ | exact andD_len _ _ | exact minusD_len _ _ | exact fullD_len _ | (refine okLen ?_; (repeat (first | assumption | exact ofW_ok _ | exact fullW_W _ | apply okW_with | apply okW_less | refine okW_orS ?_ ?_ | refine okW_andS ?_ ?_ | refine okW_minusS ?_ ?_)); done) | omega | rfl)).symm) bx429) ?_
    rintro d_ v_ w495 ⟨rfl, g496, bx497⟩
    have hS500 := hS467.gr' g496 (by rw [hCs123]; exact ⟨(by simp only [add_block]; omega), (by simp only [add_block]; omega), (by simp only [add_block]; omega), trivial⟩)
    refine ⟨_, rfl, fun act499 f498 => ⟨hS500, ?_⟩⟩
    clear f492
    have szw495 := g496.size
    replace e0 := e0.gr g496 (fun k h => by injection h; omega)
    replace r11 := r11.gr g496 (fun k h => by injection h; omega)
    replace bx9 := bx9.gr g496 (fun h => by injection h; omega)
    replace bx18 := bx18.gr g496 (fun h => by injection h; omega)
    replace bx28 := bx28.gr g496 (fun h => by injection h; omega)
    replace bx39 := bx39.gr g496 (fun h => by injection h; omega)
    replace bx51 := bx51.gr g496 (fun h => by injection h; omega)
    replace bx64 := bx64.gr g496 (fun h => by injection h; omega)
    replace bx78 := bx78.gr g496 (fun h => by injection h; omega)
    replace bx107 := bx107.gr g496 (fun h => by injection h; omega)
    replace bx437 := bx437.gr g496 (fun h => by injection h; omega)
    replace ow470 := ow470.gr g496 (fun k hk e => by have := Sx_base hk; injection e; omega)
    clear bx429 g496
    refine AtH.rd (by kernel_rfl) (fun d v c a w h => by cases d <;> exact h) hS500 [10] [[]] [(3, .slice A468 ms.length c469)] #[true, true, true, true, true, true, true, true, true, true, true] [] 0 f498 (by kernel_rfl) trivial (fun act514 f513 => ?_)
    clear f498
    refine AtH.done (by kernel_rfl) ?_
    clear hS500
    refine t_n ?_
    have f515 := f513.sub (r := [(3, .slice A468 ms.length c469), (2, .pointer (some ⟨w142.heap.size, 0, none⟩))]) ⟨rfl, rfl, trivial⟩
    exact ⟨ss, ms, w142.heap.size, A468, c469, f515, e0, r11, bx9, bx18, bx28, bx39, bx51, bx64, bx78, bx107, (ow470.imp (fun g _ hs => ⟨(fun e => by have := Sx_base hs; injection e; omega), (by have := Sx_base hs; show w105.heap.size ≤ g; omega)⟩)), bx497, (by omega), (by omega), hat⟩
  ·refine OneH.seq f139 [[]] [(15, .slice (some ⟨w126.heap.size, 0, none⟩) 1 1)] (w126.alloc (.cells #[.int .i64 (2)] 3 (0, 0))) [] #[true, false, true, false, false, false, false, false, false, false, false] (by kernel_rfl) (by kernel_rfl) (by kernel_rfl) trivial (fun act520 w517 hw518 f519 => ?_)
   clear f139
   have g521 := gr_alloc hw518
   have hS524 := hS128.gr g521
   refine ⟨hS524, ?_⟩
   have szw517 := g521.size
   replace e0 := e0.gr g521 no_row
   replace r11 := r11.gr g521 (fun _ h => by cases h)
   replace bx9 := bx9.gr g521 (by simp)
   replace bx18 := bx18.gr g521 (by simp)
   replace bx28 := bx28.gr g521 (by simp)
   replace bx39 := bx39.gr g521 (by simp)
   replace bx51 := bx51.gr g521 (by simp)
   replace bx64 := bx64.gr g521 (by simp)
   replace bx78 := bx78.gr g521 (by simp)
   replace bx107 := bx107.gr g521 (by simp)
   have bx523 : Bx w517 (w126.heap.size) [.int .i64 (2)] 3 := Bx.new hw518
   have := bx523.lt
   clear g521 hw518
   refine AtH.all [1, 8] 8 (by kernel_rfl) (by simp) ⟨?_, ?_, trivial⟩
   ·refine OneH.call f519 20 #[.int .i64 (4)] (some 14) #[true, true, true, false, false, false, false, false, false, false, false] (by kernel_rfl) (by kernel_rfl) ((full_any (n := 4) (by omega)).mono (R' := fun e w' => e = .returned (.agg ((([15, 0, 0, 0] : List Int) : List Int).map wV).toArray) ∧ Ext _ w') (fun e_ w_ h_ => by rw [show (fullW 4 : List Int) = ([15, 0, 0, 0] : List Int) from by decide +kernel] at h_; exact h_)) ?_
    rintro e_ w536 ⟨rfl, he⟩
    refine ⟨_, rfl, _, rfl, fun act537 f538 => ?_⟩
    clear f519
    have g539 := gr_ext he
    have hS535 := hS524.gr g539
    have szw536 := g539.size
    replace e0 := e0.gr g539 no_row
    replace r11 := r11.gr g539 (fun _ h => by cases h)
    replace bx9 := bx9.gr g539 (by simp)
    replace bx18 := bx18.gr g539 (by simp)
    replace bx28 := bx28.gr g539 (by simp)
    replace bx39 := bx39.gr g539 (by simp)
    replace bx51 := bx51.gr g539 (by simp)
    replace bx64 := bx64.gr g539 (by simp)
    replace bx78 := bx78.gr g539 (by simp)
    replace bx107 := bx107.gr g539 (by simp)
    replace bx523 := bx523.gr g539 (by simp)
    clear g539 he
    refine ⟨hS535, ?_⟩
    refine AtH.all [3, 8] 7 (by kernel_rfl) (by simp) ⟨?_, ?_, trivial⟩
    ·refine OneH.call f538 24 #[.slice (some ⟨w126.heap.size, 0, none⟩) 1 1] (some 16) #[true, true, true, true, false, false, false, false, false, false, false] (by kernel_rfl) (by kernel_rfl) ((of_any (la := ([2] : List Int)) (Bx.rdI (l := ([2] : List Int)) bx523 rfl (by first | decide | exact Nat.le_of_ble_eq_true rfl))).mono (R' := fun e w' => e = .returned (.agg ((([4, 0, 0, 0] : List Int) : List Int).map wV).toArray) ∧ Ext _ w') (fun e_ w_ h_ => by rw [show (ofW ([2] : List Int) : List Int) = ([4, 0, 0, 0] : List Int) from by decide +kernel] at h_; exact h_)) ?_
     rintro e_ w552 ⟨rfl, he⟩
     refine ⟨_, rfl, _, rfl, fun act553 f554 => ?_⟩
     clear f538
     have g555 := gr_ext he
     have hS551 := hS535.gr g555
     have szw552 := g555.size
     replace e0 := e0.gr g555 no_row
     replace r11 := r11.gr g555 (fun _ h => by cases h)
     replace bx9 := bx9.gr g555 (by simp)
     replace bx18 := bx18.gr g555 (by simp)
     replace bx28 := bx28.gr g555 (by simp)
     replace bx39 := bx39.gr g555 (by simp)
     replace bx51 := bx51.gr g555 (by simp)
     replace bx64 := bx64.gr g555 (by simp)
     replace bx78 := bx78.gr g555 (by simp)
     replace bx107 := bx107.gr g555 (by simp)
     replace bx523 := bx523.gr g555 (by simp)
     clear g555 he
     refine ⟨hS551, ?_⟩
     refine AtH.all [4, 8] 6 (by kernel_rfl) (by simp) ⟨?_, ?_, trivial⟩
     ·refine OneH.call f554 12 #[.agg #[.slice (some ⟨w.heap.size, 0, none⟩) 4 4, .slice (some ⟨w3.heap.size, 0, none⟩) 4 4, .slice (some ⟨w58.heap.size, 0, none⟩) 4 4], .agg ((([15, 0, 0, 0] : List Int) : List Int).map wV).toArray, .int .i64 (0), .agg ((([4, 0, 0, 0] : List Int) : List Int).map wV).toArray] (some 17) #[true, true, true, true, true, false, false, false, false, false, false] (by kernel_rfl) (by kernel_rfl) (attract_any (g := exG) (s := ([15, 0, 0, 0] : List Int)) (t := ([4, 0, 0, 0] : List Int)) (p := 0) (RdG.mk (G := exG) (Bx.rdI (l := ([0, 1, 1, 0] : List Int)) bx9 rfl (by first | decide | exact Nat.le_of_ble_eq_true rfl)) (Bx.rdI (l := ([0, 0, 0, 0] : List Int)) bx18 rfl (by first | decide | exact Nat.le_of_ble_eq_true rfl)) (Bx.rdII (ls := ([([0, 1] : List Int), ([2] : List Int), ([0, 3] : List Int), ([3] : List Int)] : List (List Int))) bx78 ⟨⟨_, _, rfl, (by decide), (Bx.rdI (l := ([0, 1] : List Int)) bx28 rfl (by first | decide | exact Nat.le_of_ble_eq_true rfl))⟩, ⟨_, _, rfl, (by decide), (Bx.rdI (l := ([2] : List Int)) bx39 rfl (by first | decide | exact Nat.le_of_ble_eq_true rfl))⟩, ⟨_, _, rfl, (by decide), (Bx.rdI (l := ([0, 3] : List Int)) bx51 rfl (by first | decide | exact Nat.le_of_ble_eq_true rfl))⟩, ⟨_, _, rfl, (by decide), (Bx.rdI (l := ([3] : List Int)) bx64 rfl (by first | decide | exact Nat.le_of_ble_eq_true rfl))⟩, trivial⟩ (by decide)) (by decide) (by decide) (by decide)) (okW_lit ⟨by omega, by omega⟩ ⟨by omega, by omega⟩ ⟨by omega, by omega⟩ ⟨by omega, by omega⟩) (okW_lit ⟨by omega, by omega⟩ ⟨by omega, by omega⟩ ⟨by omega, by omega⟩ ⟨by omega, by omega⟩) (r11.wide (Nat.zero_le _) (by omega))) ?_
      rintro e_ w572 ⟨A568, c569, ss, ms, rfl, he, ow570, hat⟩
      have hok_ss := att_ok hat
      have hl_ss := okLen hok_ss
      have hlm_ms := att_len hat
      obtain ⟨hs1, hs2, hs3, hs4⟩ := shown12 hat
      refine ⟨_, rfl, _, rfl, fun act573 f574 => ?_⟩
      clear f554
      have g575 := gr_ext he
      have hS567 := hS551.gr g575
      have szw572 := g575.size
      replace e0 := e0.gr g575 no_row
      replace r11 := r11.gr g575 (fun _ h => by cases h)
      replace bx9 := bx9.gr g575 (by simp)
      replace bx18 := bx18.gr g575 (by simp)
      replace bx28 := bx28.gr g575 (by simp)
      replace bx39 := bx39.gr g575 (by simp)
      replace bx51 := bx51.gr g575 (by simp)
      replace bx64 := bx64.gr g575 (by simp)
      replace bx78 := bx78.gr g575 (by simp)
      replace bx107 := bx107.gr g575 (by simp)
      replace bx523 := bx523.gr g575 (by simp)
      clear g575 he
      refine ⟨hS567, ?_⟩
      refine AtH.rd (by kernel_rfl) (fun d v c a w h => by cases d <;> exact h) hS567 [5] [[]] [(12, .tuple #[.agg ((ss : List Int).map wV).toArray, .slice A568 ms.length c569])] #[true, true, true, true, true, true, false, false, false, false, false] [] 5 f574 (by kernel_rfl) trivial (fun act588 f587 => ?_)
      clear f574
      refine AtH.rd (by kernel_rfl) (fun d v c a w h => by cases d <;> exact h) hS567 [6] [[]] [(18, .agg ((ss : List Int).map wV).toArray)] #[true, true, true, true, true, true, true, false, false, false, false] [] 4 f587 (by kernel_rfl) trivial (fun act590 f589 => ?_)
      clear f587
      refine AtH.rd (by kernel_rfl) (fun d v c a w h => by cases d <;> exact h) hS567 [7] [[]] [(19, .slice A568 ms.length c569)] #[true, true, true, true, true, true, true, true, false, false, false] [] 3 f589 (by kernel_rfl) trivial (fun act592 f591 => ?_)
      clear f589
      refine AtH.all [8] 2 (by kernel_rfl) (by simp) ⟨?_, trivial⟩
      refine OneH.seq f591 [[]] [(2, .pointer (some ⟨w572.heap.size, 0, none⟩))] (w572.alloc (.cells ((List.replicate 4 (0 : Int) : List Int).map wV).toArray 28 (0, 0))) [] #[true, true, true, true, true, true, true, true, true, false, false] (by kernel_rfl) (by kernel_rfl) (by kernel_rfl) trivial (fun act597 w594 hw595 f596 => ?_)
      clear f591
      have g598 := gr_alloc hw595
      have hS593 := hS567.gr g598
      have szw594 := g598.size
      replace e0 := e0.gr g598 no_row
      replace r11 := r11.gr g598 (fun _ h => by cases h)
      replace bx9 := bx9.gr g598 (by simp)
      replace bx18 := bx18.gr g598 (by simp)
      replace bx28 := bx28.gr g598 (by simp)
      replace bx39 := bx39.gr g598 (by simp)
      replace bx51 := bx51.gr g598 (by simp)
      replace bx64 := bx64.gr g598 (by simp)
      replace bx78 := bx78.gr g598 (by simp)
      replace bx107 := bx107.gr g598 (by simp)
      replace bx523 := bx523.gr g598 (by simp)
      replace ow570 : OwnR w594 (Sx (w552.heap.size) [some (w572.heap.size)]) A568 c569 3 (ms : List Int) := ow570.grA g598 (fun _ _ h => by cases h) (fun k hk hs => ⟨(fun e => by injection e; omega), hs⟩)
      have bx612 : Bx w594 (w572.heap.size) ((List.replicate 4 (0 : Int) : List Int).map wV) 28 := Bx.new hw595
      have := bx612.lt
      clear g598 hw595
      refine ⟨hS593, ?_⟩
      refine AtH.all [9] 1 (by kernel_rfl) (by simp) ⟨?_, trivial⟩
      refine OneH.act f596 #[true, true, true, true, true, true, true, true, true, true, false] (by kernel_rfl) (storeBlk (t := 28) (b := w572.heap.size) (n := 4) (cs' := ((ss : List Int).map wV)) (by kernel_rfl) (by kernel_rfl) ((List.length_map _).trans (by assumption)) oneW_ ((show ((ss : List Int).map wV).length = 4 from ((List.length_map _).trans (by assumption))).trans (show ((List.replicate 4 (0 : Int) : List Int).map wV).length = 4 from (by simp only [List.length_map, List.length_set, List.length_replicate, List.length_cons, List.length_nil]; first | done | assumption | exact from_len _ | exact of_len _ | exact ofZ_len _ | exact (ofW_ok _).1 | exact (fullW_W _).1 | exact (okW_with (by assumption)).1 | exact (okW_less (by assumption)).1 | exact put_len (from_len _) | exact orD_len _ _ | exact andD_len _ _ | exact minusD_len _ _ | exact fullD_len _ | (refine okLen ?_; (repeat (first | assumption | exact ofW_ok _ | exact fullW_W _ | apply okW_with | apply okW_less | refine okW_orS ?_ ?_ | refine okW_andS ?_ ?_ | refine okW_minusS ?_ ?_)); done) | omega | rfl)).symm) bx612) ?_
      rintro d_ v_ w614 ⟨rfl, g615, bx616⟩
      have hS619 := hS593.gr' g615 (by rw [hCs123]; exact ⟨(by simp only [add_block]; omega), (by simp only [add_block]; omega), (by simp only [add_block]; omega), trivial⟩)
      refine ⟨_, rfl, fun act618 f617 => ⟨hS619, ?_⟩⟩
      clear f596
      have szw614 := g615.size
      replace e0 := e0.gr g615 (fun k h => by injection h; omega)
      replace r11 := r11.gr g615 (fun k h => by injection h; omega)
      replace bx9 := bx9.gr g615 (fun h => by injection h; omega)
      replace bx18 := bx18.gr g615 (fun h => by injection h; omega)
      replace bx28 := bx28.gr g615 (fun h => by injection h; omega)
      replace bx39 := bx39.gr g615 (fun h => by injection h; omega)
      replace bx51 := bx51.gr g615 (fun h => by injection h; omega)
      replace bx64 := bx64.gr g615 (fun h => by injection h; omega)
      replace bx78 := bx78.gr g615 (fun h => by injection h; omega)
      replace bx107 := bx107.gr g615 (fun h => by injection h; omega)
      replace bx523 := bx523.gr g615 (fun h => by injection h; omega)
      replace ow570 := ow570.gr g615 (fun k hk => hk.1)
      clear bx612 g615
      refine AtH.rd (by kernel_rfl) (fun d v c a w h => by cases d <;> exact h) hS619 [10] [[]] [(3, .slice A568 ms.length c569)] #[true, true, true, true, true, true, true, true, true, true, true] [] 0 f617 (by kernel_rfl) trivial (fun act633 f632 => ?_)
      clear f617
      refine AtH.done (by kernel_rfl) ?_
      clear hS619
      refine t_n ?_
      have f634 := f632.sub (r := [(3, .slice A568 ms.length c569), (2, .pointer (some ⟨w572.heap.size, 0, none⟩))]) ⟨rfl, rfl, trivial⟩
      exact ⟨ss, ms, w572.heap.size, A568, c569, f634, e0, r11, bx9, bx18, bx28, bx39, bx51, bx64, bx78, bx107, (ow570.imp (fun g _ hs => ⟨hs.1, (by have := Sx_base hs; show w105.heap.size ≤ g; omega)⟩)), bx616, (by omega), (by omega), hat⟩
     ·refine OneH.seq f554 [[]] [(2, .pointer (some ⟨w552.heap.size, 0, none⟩))] (w552.alloc (.cells ((List.replicate 4 (0 : Int) : List Int).map wV).toArray 28 (0, 0))) [] #[true, true, true, true, false, false, false, false, true, false, false] (by kernel_rfl) (by kernel_rfl) (by kernel_rfl) trivial (fun act639 w636 hw637 f638 => ?_)
      clear f554
      have g640 := gr_alloc hw637
      have hS635 := hS551.gr g640
      have szw636 := g640.size
      replace e0 := e0.gr g640 no_row
      replace r11 := r11.gr g640 (fun _ h => by cases h)
      replace bx9 := bx9.gr g640 (by simp)
      replace bx18 := bx18.gr g640 (by simp)
      replace bx28 := bx28.gr g640 (by simp)
      replace bx39 := bx39.gr g640 (by simp)
      replace bx51 := bx51.gr g640 (by simp)
      replace bx64 := bx64.gr g640 (by simp)
      replace bx78 := bx78.gr g640 (by simp)
      replace bx107 := bx107.gr g640 (by simp)
      replace bx523 := bx523.gr g640 (by simp)
      have bx653 : Bx w636 (w552.heap.size) ((List.replicate 4 (0 : Int) : List Int).map wV) 28 := Bx.new hw637
      have := bx653.lt
      clear g640 hw637
      refine ⟨hS635, ?_⟩
      refine AtH.all [4] 5 (by kernel_rfl) (by simp) ⟨?_, trivial⟩
      refine OneH.call f638 12 #[.agg #[.slice (some ⟨w.heap.size, 0, none⟩) 4 4, .slice (some ⟨w3.heap.size, 0, none⟩) 4 4, .slice (some ⟨w58.heap.size, 0, none⟩) 4 4], .agg ((([15, 0, 0, 0] : List Int) : List Int).map wV).toArray, .int .i64 (0), .agg ((([4, 0, 0, 0] : List Int) : List Int).map wV).toArray] (some 17) #[true, true, true, true, true, false, false, false, true, false, false] (by kernel_rfl) (by kernel_rfl) (attract_any (g := exG) (s := ([15, 0, 0, 0] : List Int)) (t := ([4, 0, 0, 0] : List Int)) (p := 0) (RdG.mk (G := exG) (Bx.rdI (l := ([0, 1, 1, 0] : List Int)) bx9 rfl (by first | decide | exact Nat.le_of_ble_eq_true rfl)) (Bx.rdI (l := ([0, 0, 0, 0] : List Int)) bx18 rfl (by first | decide | exact Nat.le_of_ble_eq_true rfl)) (Bx.rdII (ls := ([([0, 1] : List Int), ([2] : List Int), ([0, 3] : List Int), ([3] : List Int)] : List (List Int))) bx78 ⟨⟨_, _, rfl, (by decide), (Bx.rdI (l := ([0, 1] : List Int)) bx28 rfl (by first | decide | exact Nat.le_of_ble_eq_true rfl))⟩, ⟨_, _, rfl, (by decide), (Bx.rdI (l := ([2] : List Int)) bx39 rfl (by first | decide | exact Nat.le_of_ble_eq_true rfl))⟩, ⟨_, _, rfl, (by decide), (Bx.rdI (l := ([0, 3] : List Int)) bx51 rfl (by first | decide | exact Nat.le_of_ble_eq_true rfl))⟩, ⟨_, _, rfl, (by decide), (Bx.rdI (l := ([3] : List Int)) bx64 rfl (by first | decide | exact Nat.le_of_ble_eq_true rfl))⟩, trivial⟩ (by decide)) (by decide) (by decide) (by decide)) (okW_lit ⟨by omega, by omega⟩ ⟨by omega, by omega⟩ ⟨by omega, by omega⟩ ⟨by omega, by omega⟩) (okW_lit ⟨by omega, by omega⟩ ⟨by omega, by omega⟩ ⟨by omega, by omega⟩ ⟨by omega, by omega⟩) (r11.wide (Nat.zero_le _) (by omega))) ?_
      rintro e_ w659 ⟨A655, c656, ss, ms, rfl, he, ow657, hat⟩
      have hok_ss := att_ok hat
      have hl_ss := okLen hok_ss
      have hlm_ms := att_len hat
      obtain ⟨hs1, hs2, hs3, hs4⟩ := shown12 hat
      refine ⟨_, rfl, _, rfl, fun act660 f661 => ?_⟩
      clear f638
      have g662 := gr_ext he
      have hS654 := hS635.gr g662
      have szw659 := g662.size
      replace e0 := e0.gr g662 no_row
      replace r11 := r11.gr g662 (fun _ h => by cases h)
      replace bx9 := bx9.gr g662 (by simp)
      replace bx18 := bx18.gr g662 (by simp)
      replace bx28 := bx28.gr g662 (by simp)
      replace bx39 := bx39.gr g662 (by simp)
      replace bx51 := bx51.gr g662 (by simp)
      replace bx64 := bx64.gr g662 (by simp)
      replace bx78 := bx78.gr g662 (by simp)
      replace bx107 := bx107.gr g662 (by simp)
      replace bx523 := bx523.gr g662 (by simp)
      replace bx653 := bx653.gr g662 (by simp)
      clear g662 he
      refine ⟨hS654, ?_⟩
      refine AtH.rd (by kernel_rfl) (fun d v c a w h => by cases d <;> exact h) hS654 [5] [[]] [(12, .tuple #[.agg ((ss : List Int).map wV).toArray, .slice A655 ms.length c656])] #[true, true, true, true, true, true, false, false, true, false, false] [] 4 f661 (by kernel_rfl) trivial (fun act676 f675 => ?_)
      clear f661
      refine AtH.rd (by kernel_rfl) (fun d v c a w h => by cases d <;> exact h) hS654 [6] [[]] [(18, .agg ((ss : List Int).map wV).toArray)] #[true, true, true, true, true, true, true, false, true, false, false] [] 3 f675 (by kernel_rfl) trivial (fun act678 f677 => ?_)
      clear f675
      refine AtH.rd (by kernel_rfl) (fun d v c a w h => by cases d <;> exact h) hS654 [7] [[]] [(19, .slice A655 ms.length c656)] #[true, true, true, true, true, true, true, true, true, false, false] [] 2 f677 (by kernel_rfl) trivial (fun act680 f679 => ?_)
      clear f677
      refine AtH.all [9] 1 (by kernel_rfl) (by simp) ⟨?_, trivial⟩
      refine OneH.act f679 #[true, true, true, true, true, true, true, true, true, true, false] (by kernel_rfl) (storeBlk (t := 28) (b := w552.heap.size) (n := 4) (cs' := ((ss : List Int).map wV)) (by kernel_rfl) (by kernel_rfl) ((List.length_map _).trans (by assumption)) oneW_ ((show ((ss : List Int).map wV).length = 4 from ((List.length_map _).trans (by assumption))).trans (show ((List.replicate 4 (0 : Int) : List Int).map wV).length = 4 from (by simp only [List.length_map, List.length_set, List.length_replicate, List.length_cons, List.length_nil]; first | done | assumption | exact from_len _ | exact of_len _ | exact ofZ_len _ | exact (ofW_ok _).1 | exact (fullW_W _).1 | exact (okW_with (by assumption)).1 | exact (okW_less (by assumption)).1 | exact put_len (from_len _) | exact orD_len _ _ | exact andD_len _ _ | exact minusD_len _ _ | exact fullD_len _ | (refine okLen ?_; (repeat (first | assumption | exact ofW_ok _ | exact fullW_W _ | apply okW_with | apply okW_less | refine okW_orS ?_ ?_ | refine okW_andS ?_ ?_ | refine okW_minusS ?_ ?_)); done) | omega | rfl)).symm) bx653) ?_
      rintro d_ v_ w682 ⟨rfl, g683, bx684⟩
      have hS687 := hS654.gr' g683 (by rw [hCs123]; exact ⟨(by simp only [add_block]; omega), (by simp only [add_block]; omega), (by simp only [add_block]; omega), trivial⟩)
      refine ⟨_, rfl, fun act686 f685 => ⟨hS687, ?_⟩⟩
      clear f679
      have szw682 := g683.size
      replace e0 := e0.gr g683 (fun k h => by injection h; omega)
      replace r11 := r11.gr g683 (fun k h => by injection h; omega)
      replace bx9 := bx9.gr g683 (fun h => by injection h; omega)
      replace bx18 := bx18.gr g683 (fun h => by injection h; omega)
      replace bx28 := bx28.gr g683 (fun h => by injection h; omega)
      replace bx39 := bx39.gr g683 (fun h => by injection h; omega)
      replace bx51 := bx51.gr g683 (fun h => by injection h; omega)
      replace bx64 := bx64.gr g683 (fun h => by injection h; omega)
      replace bx78 := bx78.gr g683 (fun h => by injection h; omega)
      replace bx107 := bx107.gr g683 (fun h => by injection h; omega)
      replace bx523 := bx523.gr g683 (fun h => by injection h; omega)
      replace ow657 := ow657.gr g683 (fun k hk e => by have := Sx_base hk; injection e; omega)
      clear bx653 g683
      refine AtH.rd (by kernel_rfl) (fun d v c a w h => by cases d <;> exact h) hS687 [10] [[]] [(3, .slice A655 ms.length c656)] #[true, true, true, true, true, true, true, true, true, true, true] [] 0 f685 (by kernel_rfl) trivial (fun act701 f700 => ?_)
      clear f685
      refine AtH.done (by kernel_rfl) ?_
      clear hS687
      refine t_n ?_
      have f702 := f700.sub (r := [(3, .slice A655 ms.length c656), (2, .pointer (some ⟨w552.heap.size, 0, none⟩))]) ⟨rfl, rfl, trivial⟩
      exact ⟨ss, ms, w552.heap.size, A655, c656, f702, e0, r11, bx9, bx18, bx28, bx39, bx51, bx64, bx78, bx107, (ow657.imp (fun g _ hs => ⟨(fun e => by have := Sx_base hs; injection e; omega), (by have := Sx_base hs; show w105.heap.size ≤ g; omega)⟩)), bx684, (by omega), (by omega), hat⟩
    ·refine OneH.seq f538 [[]] [(2, .pointer (some ⟨w536.heap.size, 0, none⟩))] (w536.alloc (.cells ((List.replicate 4 (0 : Int) : List Int).map wV).toArray 28 (0, 0))) [] #[true, true, true, false, false, false, false, false, true, false, false] (by kernel_rfl) (by kernel_rfl) (by kernel_rfl) trivial (fun act707 w704 hw705 f706 => ?_)
     clear f538
     have g708 := gr_alloc hw705
     have hS703 := hS535.gr g708
     have szw704 := g708.size
     replace e0 := e0.gr g708 no_row
     replace r11 := r11.gr g708 (fun _ h => by cases h)
     replace bx9 := bx9.gr g708 (by simp)
     replace bx18 := bx18.gr g708 (by simp)
     replace bx28 := bx28.gr g708 (by simp)
     replace bx39 := bx39.gr g708 (by simp)
     replace bx51 := bx51.gr g708 (by simp)
     replace bx64 := bx64.gr g708 (by simp)
     replace bx78 := bx78.gr g708 (by simp)
     replace bx107 := bx107.gr g708 (by simp)
     replace bx523 := bx523.gr g708 (by simp)
     have bx721 : Bx w704 (w536.heap.size) ((List.replicate 4 (0 : Int) : List Int).map wV) 28 := Bx.new hw705
     have := bx721.lt
     clear g708 hw705
     refine ⟨hS703, ?_⟩
     refine AtH.all [3] 6 (by kernel_rfl) (by simp) ⟨?_, trivial⟩
     refine OneH.call f706 24 #[.slice (some ⟨w126.heap.size, 0, none⟩) 1 1] (some 16) #[true, true, true, true, false, false, false, false, true, false, false] (by kernel_rfl) (by kernel_rfl) ((of_any (la := ([2] : List Int)) (Bx.rdI (l := ([2] : List Int)) bx523 rfl (by first | decide | exact Nat.le_of_ble_eq_true rfl))).mono (R' := fun e w' => e = .returned (.agg ((([4, 0, 0, 0] : List Int) : List Int).map wV).toArray) ∧ Ext _ w') (fun e_ w_ h_ => by rw [show (ofW ([2] : List Int) : List Int) = ([4, 0, 0, 0] : List Int) from by decide +kernel] at h_; exact h_)) ?_
     rintro e_ w723 ⟨rfl, he⟩
     refine ⟨_, rfl, _, rfl, fun act724 f725 => ?_⟩
     clear f706
     have g726 := gr_ext he
     have hS722 := hS703.gr g726
     have szw723 := g726.size
     replace e0 := e0.gr g726 no_row
     replace r11 := r11.gr g726 (fun _ h => by cases h)
     replace bx9 := bx9.gr g726 (by simp)
     replace bx18 := bx18.gr g726 (by simp)
     replace bx28 := bx28.gr g726 (by simp)
     replace bx39 := bx39.gr g726 (by simp)
     replace bx51 := bx51.gr g726 (by simp)
     replace bx64 := bx64.gr g726 (by simp)
     replace bx78 := bx78.gr g726 (by simp)
     replace bx107 := bx107.gr g726 (by simp)
     replace bx523 := bx523.gr g726 (by simp)
     replace bx721 := bx721.gr g726 (by simp)
     clear g726 he
     refine ⟨hS722, ?_⟩
     refine AtH.all [4] 5 (by kernel_rfl) (by simp) ⟨?_, trivial⟩
     refine OneH.call f725 12 #[.agg #[.slice (some ⟨w.heap.size, 0, none⟩) 4 4, .slice (some ⟨w3.heap.size, 0, none⟩) 4 4, .slice (some ⟨w58.heap.size, 0, none⟩) 4 4], .agg ((([15, 0, 0, 0] : List Int) : List Int).map wV).toArray, .int .i64 (0), .agg ((([4, 0, 0, 0] : List Int) : List Int).map wV).toArray] (some 17) #[true, true, true, true, true, false, false, false, true, false, false] (by kernel_rfl) (by kernel_rfl) (attract_any (g := exG) (s := ([15, 0, 0, 0] : List Int)) (t := ([4, 0, 0, 0] : List Int)) (p := 0) (RdG.mk (G := exG) (Bx.rdI (l := ([0, 1, 1, 0] : List Int)) bx9 rfl (by first | decide | exact Nat.le_of_ble_eq_true rfl)) (Bx.rdI (l := ([0, 0, 0, 0] : List Int)) bx18 rfl (by first | decide | exact Nat.le_of_ble_eq_true rfl)) (Bx.rdII (ls := ([([0, 1] : List Int), ([2] : List Int), ([0, 3] : List Int), ([3] : List Int)] : List (List Int))) bx78 ⟨⟨_, _, rfl, (by decide), (Bx.rdI (l := ([0, 1] : List Int)) bx28 rfl (by first | decide | exact Nat.le_of_ble_eq_true rfl))⟩, ⟨_, _, rfl, (by decide), (Bx.rdI (l := ([2] : List Int)) bx39 rfl (by first | decide | exact Nat.le_of_ble_eq_true rfl))⟩, ⟨_, _, rfl, (by decide), (Bx.rdI (l := ([0, 3] : List Int)) bx51 rfl (by first | decide | exact Nat.le_of_ble_eq_true rfl))⟩, ⟨_, _, rfl, (by decide), (Bx.rdI (l := ([3] : List Int)) bx64 rfl (by first | decide | exact Nat.le_of_ble_eq_true rfl))⟩, trivial⟩ (by decide)) (by decide) (by decide) (by decide)) (okW_lit ⟨by omega, by omega⟩ ⟨by omega, by omega⟩ ⟨by omega, by omega⟩ ⟨by omega, by omega⟩) (okW_lit ⟨by omega, by omega⟩ ⟨by omega, by omega⟩ ⟨by omega, by omega⟩ ⟨by omega, by omega⟩) (r11.wide (Nat.zero_le _) (by omega))) ?_
     rintro e_ w744 ⟨A740, c741, ss, ms, rfl, he, ow742, hat⟩
     have hok_ss := att_ok hat
     have hl_ss := okLen hok_ss
     have hlm_ms := att_len hat
     obtain ⟨hs1, hs2, hs3, hs4⟩ := shown12 hat
     refine ⟨_, rfl, _, rfl, fun act745 f746 => ?_⟩
     clear f725
     have g747 := gr_ext he
     have hS739 := hS722.gr g747
     have szw744 := g747.size
     replace e0 := e0.gr g747 no_row
     replace r11 := r11.gr g747 (fun _ h => by cases h)
     replace bx9 := bx9.gr g747 (by simp)
     replace bx18 := bx18.gr g747 (by simp)
     replace bx28 := bx28.gr g747 (by simp)
     replace bx39 := bx39.gr g747 (by simp)
     replace bx51 := bx51.gr g747 (by simp)
     replace bx64 := bx64.gr g747 (by simp)
     replace bx78 := bx78.gr g747 (by simp)
     replace bx107 := bx107.gr g747 (by simp)
     replace bx523 := bx523.gr g747 (by simp)
     replace bx721 := bx721.gr g747 (by simp)
     clear g747 he
     refine ⟨hS739, ?_⟩
     refine AtH.rd (by kernel_rfl) (fun d v c a w h => by cases d <;> exact h) hS739 [5] [[]] [(12, .tuple #[.agg ((ss : List Int).map wV).toArray, .slice A740 ms.length c741])] #[true, true, true, true, true, true, false, false, true, false, false] [] 4 f746 (by kernel_rfl) trivial (fun act761 f760 => ?_)
     clear f746
     refine AtH.rd (by kernel_rfl) (fun d v c a w h => by cases d <;> exact h) hS739 [6] [[]] [(18, .agg ((ss : List Int).map wV).toArray)] #[true, true, true, true, true, true, true, false, true, false, false] [] 3 f760 (by kernel_rfl) trivial (fun act763 f762 => ?_)
     clear f760
     refine AtH.rd (by kernel_rfl) (fun d v c a w h => by cases d <;> exact h) hS739 [7] [[]] [(19, .slice A740 ms.length c741)] #[true, true, true, true, true, true, true, true, true, false, false] [] 2 f762 (by kernel_rfl) trivial (fun act765 f764 => ?_)
     clear f762
     refine AtH.all [9] 1 (by kernel_rfl) (by simp) ⟨?_, trivial⟩
     refine OneH.act f764 #[true, true, true, true, true, true, true, true, true, true, false] (by kernel_rfl) (storeBlk (t := 28) (b := w536.heap.size) (n := 4) (cs' := ((ss : List Int).map wV)) (by kernel_rfl) (by kernel_rfl) ((List.length_map _).trans (by assumption)) oneW_ ((show ((ss : List Int).map wV).length = 4 from ((List.length_map _).trans (by assumption))).trans (show ((List.replicate 4 (0 : Int) : List Int).map wV).length = 4 from (by simp only [List.length_map, List.length_set, List.length_replicate, List.length_cons, List.length_nil]; first | done | assumption | exact from_len _ | exact of_len _ | exact ofZ_len _ | exact (ofW_ok _).1 | exact (fullW_W _).1 | exact (okW_with (by assumption)).1 | exact (okW_less (by assumption)).1 | exact put_len (from_len _) | exact orD_len _ _ | exact andD_len _ _ | exact minusD_len _ _ | exact fullD_len _ | (refine okLen ?_; (repeat (first | assumption | exact ofW_ok _ | exact fullW_W _ | apply okW_with | apply okW_less | refine okW_orS ?_ ?_ | refine okW_andS ?_ ?_ | refine okW_minusS ?_ ?_)); done) | omega | rfl)).symm) bx721) ?_
     rintro d_ v_ w767 ⟨rfl, g768, bx769⟩
     have hS772 := hS739.gr' g768 (by rw [hCs123]; exact ⟨(by simp only [add_block]; omega), (by simp only [add_block]; omega), (by simp only [add_block]; omega), trivial⟩)
     refine ⟨_, rfl, fun act771 f770 => ⟨hS772, ?_⟩⟩
     clear f764
     have szw767 := g768.size
     replace e0 := e0.gr g768 (fun k h => by injection h; omega)
     replace r11 := r11.gr g768 (fun k h => by injection h; omega)
     replace bx9 := bx9.gr g768 (fun h => by injection h; omega)
     replace bx18 := bx18.gr g768 (fun h => by injection h; omega)
     replace bx28 := bx28.gr g768 (fun h => by injection h; omega)
     replace bx39 := bx39.gr g768 (fun h => by injection h; omega)
     replace bx51 := bx51.gr g768 (fun h => by injection h; omega)
     replace bx64 := bx64.gr g768 (fun h => by injection h; omega)
     replace bx78 := bx78.gr g768 (fun h => by injection h; omega)
     replace bx107 := bx107.gr g768 (fun h => by injection h; omega)
     replace bx523 := bx523.gr g768 (fun h => by injection h; omega)
     replace ow742 := ow742.gr g768 (fun k hk e => by have := Sx_base hk; injection e; omega)
     clear bx721 g768
     refine AtH.rd (by kernel_rfl) (fun d v c a w h => by cases d <;> exact h) hS772 [10] [[]] [(3, .slice A740 ms.length c741)] #[true, true, true, true, true, true, true, true, true, true, true] [] 0 f770 (by kernel_rfl) trivial (fun act786 f785 => ?_)
     clear f770
     refine AtH.done (by kernel_rfl) ?_
     clear hS772
     refine t_n ?_
     have f787 := f785.sub (r := [(3, .slice A740 ms.length c741), (2, .pointer (some ⟨w536.heap.size, 0, none⟩))]) ⟨rfl, rfl, trivial⟩
     exact ⟨ss, ms, w536.heap.size, A740, c741, f787, e0, r11, bx9, bx18, bx28, bx39, bx51, bx64, bx78, bx107, (ow742.imp (fun g _ hs => ⟨(fun e => by have := Sx_base hs; injection e; omega), (by have := Sx_base hs; show w105.heap.size ≤ g; omega)⟩)), bx769, (by omega), (by omega), hat⟩
   ·refine OneH.seq f519 [[]] [(2, .pointer (some ⟨w517.heap.size, 0, none⟩))] (w517.alloc (.cells ((List.replicate 4 (0 : Int) : List Int).map wV).toArray 28 (0, 0))) [] #[true, false, true, false, false, false, false, false, true, false, false] (by kernel_rfl) (by kernel_rfl) (by kernel_rfl) trivial (fun act792 w789 hw790 f791 => ?_)
    clear f519
    have g793 := gr_alloc hw790
    have hS788 := hS524.gr g793
    have szw789 := g793.size
    replace e0 := e0.gr g793 no_row
    replace r11 := r11.gr g793 (fun _ h => by cases h)
    replace bx9 := bx9.gr g793 (by simp)
    replace bx18 := bx18.gr g793 (by simp)
    replace bx28 := bx28.gr g793 (by simp)
    replace bx39 := bx39.gr g793 (by simp)
    replace bx51 := bx51.gr g793 (by simp)
    replace bx64 := bx64.gr g793 (by simp)
    replace bx78 := bx78.gr g793 (by simp)
    replace bx107 := bx107.gr g793 (by simp)
    replace bx523 := bx523.gr g793 (by simp)
    have bx806 : Bx w789 (w517.heap.size) ((List.replicate 4 (0 : Int) : List Int).map wV) 28 := Bx.new hw790
    have := bx806.lt
    clear g793 hw790
    refine ⟨hS788, ?_⟩
    refine AtH.all [1] 7 (by kernel_rfl) (by simp) ⟨?_, trivial⟩
    refine OneH.call f791 20 #[.int .i64 (4)] (some 14) #[true, true, true, false, false, false, false, false, true, false, false] (by kernel_rfl) (by kernel_rfl) ((full_any (n := 4) (by omega)).mono (R' := fun e w' => e = .returned (.agg ((([15, 0, 0, 0] : List Int) : List Int).map wV).toArray) ∧ Ext _ w') (fun e_ w_ h_ => by rw [show (fullW 4 : List Int) = ([15, 0, 0, 0] : List Int) from by decide +kernel] at h_; exact h_)) ?_
    rintro e_ w808 ⟨rfl, he⟩
    refine ⟨_, rfl, _, rfl, fun act809 f810 => ?_⟩
    clear f791
    have g811 := gr_ext he
    have hS807 := hS788.gr g811
    have szw808 := g811.size
    replace e0 := e0.gr g811 no_row
    replace r11 := r11.gr g811 (fun _ h => by cases h)
    replace bx9 := bx9.gr g811 (by simp)
    replace bx18 := bx18.gr g811 (by simp)
    replace bx28 := bx28.gr g811 (by simp)
    replace bx39 := bx39.gr g811 (by simp)
    replace bx51 := bx51.gr g811 (by simp)
    replace bx64 := bx64.gr g811 (by simp)
    replace bx78 := bx78.gr g811 (by simp)
    replace bx107 := bx107.gr g811 (by simp)
    replace bx523 := bx523.gr g811 (by simp)
    replace bx806 := bx806.gr g811 (by simp)
    clear g811 he
    refine ⟨hS807, ?_⟩
    refine AtH.all [3] 6 (by kernel_rfl) (by simp) ⟨?_, trivial⟩
    refine OneH.call f810 24 #[.slice (some ⟨w126.heap.size, 0, none⟩) 1 1] (some 16) #[true, true, true, true, false, false, false, false, true, false, false] (by kernel_rfl) (by kernel_rfl) ((of_any (la := ([2] : List Int)) (Bx.rdI (l := ([2] : List Int)) bx523 rfl (by first | decide | exact Nat.le_of_ble_eq_true rfl))).mono (R' := fun e w' => e = .returned (.agg ((([4, 0, 0, 0] : List Int) : List Int).map wV).toArray) ∧ Ext _ w') (fun e_ w_ h_ => by rw [show (ofW ([2] : List Int) : List Int) = ([4, 0, 0, 0] : List Int) from by decide +kernel] at h_; exact h_)) ?_
    rintro e_ w825 ⟨rfl, he⟩
    refine ⟨_, rfl, _, rfl, fun act826 f827 => ?_⟩
    clear f810
    have g828 := gr_ext he
    have hS824 := hS807.gr g828
    have szw825 := g828.size
    replace e0 := e0.gr g828 no_row
    replace r11 := r11.gr g828 (fun _ h => by cases h)
    replace bx9 := bx9.gr g828 (by simp)
    replace bx18 := bx18.gr g828 (by simp)
    replace bx28 := bx28.gr g828 (by simp)
    replace bx39 := bx39.gr g828 (by simp)
    replace bx51 := bx51.gr g828 (by simp)
    replace bx64 := bx64.gr g828 (by simp)
    replace bx78 := bx78.gr g828 (by simp)
    replace bx107 := bx107.gr g828 (by simp)
    replace bx523 := bx523.gr g828 (by simp)
    replace bx806 := bx806.gr g828 (by simp)
    clear g828 he
    refine ⟨hS824, ?_⟩
    refine AtH.all [4] 5 (by kernel_rfl) (by simp) ⟨?_, trivial⟩
    refine OneH.call f827 12 #[.agg #[.slice (some ⟨w.heap.size, 0, none⟩) 4 4, .slice (some ⟨w3.heap.size, 0, none⟩) 4 4, .slice (some ⟨w58.heap.size, 0, none⟩) 4 4], .agg ((([15, 0, 0, 0] : List Int) : List Int).map wV).toArray, .int .i64 (0), .agg ((([4, 0, 0, 0] : List Int) : List Int).map wV).toArray] (some 17) #[true, true, true, true, true, false, false, false, true, false, false] (by kernel_rfl) (by kernel_rfl) (attract_any (g := exG) (s := ([15, 0, 0, 0] : List Int)) (t := ([4, 0, 0, 0] : List Int)) (p := 0) (RdG.mk (G := exG) (Bx.rdI (l := ([0, 1, 1, 0] : List Int)) bx9 rfl (by first | decide | exact Nat.le_of_ble_eq_true rfl)) (Bx.rdI (l := ([0, 0, 0, 0] : List Int)) bx18 rfl (by first | decide | exact Nat.le_of_ble_eq_true rfl)) (Bx.rdII (ls := ([([0, 1] : List Int), ([2] : List Int), ([0, 3] : List Int), ([3] : List Int)] : List (List Int))) bx78 ⟨⟨_, _, rfl, (by decide), (Bx.rdI (l := ([0, 1] : List Int)) bx28 rfl (by first | decide | exact Nat.le_of_ble_eq_true rfl))⟩, ⟨_, _, rfl, (by decide), (Bx.rdI (l := ([2] : List Int)) bx39 rfl (by first | decide | exact Nat.le_of_ble_eq_true rfl))⟩, ⟨_, _, rfl, (by decide), (Bx.rdI (l := ([0, 3] : List Int)) bx51 rfl (by first | decide | exact Nat.le_of_ble_eq_true rfl))⟩, ⟨_, _, rfl, (by decide), (Bx.rdI (l := ([3] : List Int)) bx64 rfl (by first | decide | exact Nat.le_of_ble_eq_true rfl))⟩, trivial⟩ (by decide)) (by decide) (by decide) (by decide)) (okW_lit ⟨by omega, by omega⟩ ⟨by omega, by omega⟩ ⟨by omega, by omega⟩ ⟨by omega, by omega⟩) (okW_lit ⟨by omega, by omega⟩ ⟨by omega, by omega⟩ ⟨by omega, by omega⟩ ⟨by omega, by omega⟩) (r11.wide (Nat.zero_le _) (by omega))) ?_
    rintro e_ w846 ⟨A842, c843, ss, ms, rfl, he, ow844, hat⟩
    have hok_ss := att_ok hat
    have hl_ss := okLen hok_ss
    have hlm_ms := att_len hat
    obtain ⟨hs1, hs2, hs3, hs4⟩ := shown12 hat
    refine ⟨_, rfl, _, rfl, fun act847 f848 => ?_⟩
    clear f827
    have g849 := gr_ext he
    have hS841 := hS824.gr g849
    have szw846 := g849.size
    replace e0 := e0.gr g849 no_row
    replace r11 := r11.gr g849 (fun _ h => by cases h)
    replace bx9 := bx9.gr g849 (by simp)
    replace bx18 := bx18.gr g849 (by simp)
    replace bx28 := bx28.gr g849 (by simp)
    replace bx39 := bx39.gr g849 (by simp)
    replace bx51 := bx51.gr g849 (by simp)
    replace bx64 := bx64.gr g849 (by simp)
    replace bx78 := bx78.gr g849 (by simp)
    replace bx107 := bx107.gr g849 (by simp)
    replace bx523 := bx523.gr g849 (by simp)
    replace bx806 := bx806.gr g849 (by simp)
    clear g849 he
    refine ⟨hS841, ?_⟩
    refine AtH.rd (by kernel_rfl) (fun d v c a w h => by cases d <;> exact h) hS841 [5] [[]] [(12, .tuple #[.agg ((ss : List Int).map wV).toArray, .slice A842 ms.length c843])] #[true, true, true, true, true, true, false, false, true, false, false] [] 4 f848 (by kernel_rfl) trivial (fun act863 f862 => ?_)
    clear f848
    refine AtH.rd (by kernel_rfl) (fun d v c a w h => by cases d <;> exact h) hS841 [6] [[]] [(18, .agg ((ss : List Int).map wV).toArray)] #[true, true, true, true, true, true, true, false, true, false, false] [] 3 f862 (by kernel_rfl) trivial (fun act865 f864 => ?_)
    clear f862
    refine AtH.rd (by kernel_rfl) (fun d v c a w h => by cases d <;> exact h) hS841 [7] [[]] [(19, .slice A842 ms.length c843)] #[true, true, true, true, true, true, true, true, true, false, false] [] 2 f864 (by kernel_rfl) trivial (fun act867 f866 => ?_)
    clear f864
    refine AtH.all [9] 1 (by kernel_rfl) (by simp) ⟨?_, trivial⟩
    refine OneH.act f866 #[true, true, true, true, true, true, true, true, true, true, false] (by kernel_rfl) (storeBlk (t := 28) (b := w517.heap.size) (n := 4) (cs' := ((ss : List Int).map wV)) (by kernel_rfl) (by kernel_rfl) ((List.length_map _).trans (by assumption)) oneW_ ((show ((ss : List Int).map wV).length = 4 from ((List.length_map _).trans (by assumption))).trans (show ((List.replicate 4 (0 : Int) : List Int).map wV).length = 4 from (by simp only [List.length_map, List.length_set, List.length_replicate, List.length_cons, List.length_nil]; first | done | assumption | exact from_len _ | exact of_len _ | exact ofZ_len _ | exact (ofW_ok _).1 | exact (fullW_W _).1 | exact (okW_with (by assumption)).1 | exact (okW_less (by assumption)).1 | exact put_len (from_len _) | exact orD_len _ _ | exact andD_len _ _ | exact minusD_len _ _ | exact fullD_len _ | (refine okLen ?_; (repeat (first | assumption | exact ofW_ok _ | exact fullW_W _ | apply okW_with | apply okW_less | refine okW_orS ?_ ?_ | refine okW_andS ?_ ?_ | refine okW_minusS ?_ ?_)); done) | omega | rfl)).symm) bx806) ?_
    rintro d_ v_ w869 ⟨rfl, g870, bx871⟩
    have hS874 := hS841.gr' g870 (by rw [hCs123]; exact ⟨(by simp only [add_block]; omega), (by simp only [add_block]; omega), (by simp only [add_block]; omega), trivial⟩)
    refine ⟨_, rfl, fun act873 f872 => ⟨hS874, ?_⟩⟩
    clear f866
    have szw869 := g870.size
    replace e0 := e0.gr g870 (fun k h => by injection h; omega)
    replace r11 := r11.gr g870 (fun k h => by injection h; omega)
    replace bx9 := bx9.gr g870 (fun h => by injection h; omega)
    replace bx18 := bx18.gr g870 (fun h => by injection h; omega)
    replace bx28 := bx28.gr g870 (fun h => by injection h; omega)
    replace bx39 := bx39.gr g870 (fun h => by injection h; omega)
    replace bx51 := bx51.gr g870 (fun h => by injection h; omega)
    replace bx64 := bx64.gr g870 (fun h => by injection h; omega)
    replace bx78 := bx78.gr g870 (fun h => by injection h; omega)
    replace bx107 := bx107.gr g870 (fun h => by injection h; omega)
    replace bx523 := bx523.gr g870 (fun h => by injection h; omega)
    replace ow844 := ow844.gr g870 (fun k hk e => by have := Sx_base hk; injection e; omega)
    clear bx806 g870
    refine AtH.rd (by kernel_rfl) (fun d v c a w h => by cases d <;> exact h) hS874 [10] [[]] [(3, .slice A842 ms.length c843)] #[true, true, true, true, true, true, true, true, true, true, true] [] 0 f872 (by kernel_rfl) trivial (fun act888 f887 => ?_)
    clear f872
    refine AtH.done (by kernel_rfl) ?_
    clear hS874
    refine t_n ?_
    have f889 := f887.sub (r := [(3, .slice A842 ms.length c843), (2, .pointer (some ⟨w517.heap.size, 0, none⟩))]) ⟨rfl, rfl, trivial⟩
    exact ⟨ss, ms, w517.heap.size, A842, c843, f889, e0, r11, bx9, bx18, bx28, bx39, bx51, bx64, bx78, bx107, (ow844.imp (fun g _ hs => ⟨(fun e => by have := Sx_base hs; injection e; omega), (by have := Sx_base hs; show w105.heap.size ≤ g; omega)⟩)), bx871, (by omega), (by omega), hat⟩
  ·refine OneH.seq f139 [[]] [(2, .pointer (some ⟨w126.heap.size, 0, none⟩))] (w126.alloc (.cells ((List.replicate 4 (0 : Int) : List Int).map wV).toArray 28 (0, 0))) [] #[true, false, false, false, false, false, false, false, true, false, false] (by kernel_rfl) (by kernel_rfl) (by kernel_rfl) trivial (fun act894 w891 hw892 f893 => ?_)
   clear f139
   have g895 := gr_alloc hw892
   have hS890 := hS128.gr g895
   have szw891 := g895.size
   replace e0 := e0.gr g895 no_row
   replace r11 := r11.gr g895 (fun _ h => by cases h)
   replace bx9 := bx9.gr g895 (by simp)
   replace bx18 := bx18.gr g895 (by simp)
   replace bx28 := bx28.gr g895 (by simp)
   replace bx39 := bx39.gr g895 (by simp)
   replace bx51 := bx51.gr g895 (by simp)
   replace bx64 := bx64.gr g895 (by simp)
   replace bx78 := bx78.gr g895 (by simp)
   replace bx107 := bx107.gr g895 (by simp)
   have bx907 : Bx w891 (w126.heap.size) ((List.replicate 4 (0 : Int) : List Int).map wV) 28 := Bx.new hw892
   have := bx907.lt
   clear g895 hw892
   refine ⟨hS890, ?_⟩
   refine AtH.all [1, 2] 8 (by kernel_rfl) (by simp) ⟨?_, ?_, trivial⟩
   ·refine OneH.call f893 20 #[.int .i64 (4)] (some 14) #[true, true, false, false, false, false, false, false, true, false, false] (by kernel_rfl) (by kernel_rfl) ((full_any (n := 4) (by omega)).mono (R' := fun e w' => e = .returned (.agg ((([15, 0, 0, 0] : List Int) : List Int).map wV).toArray) ∧ Ext _ w') (fun e_ w_ h_ => by rw [show (fullW 4 : List Int) = ([15, 0, 0, 0] : List Int) from by decide +kernel] at h_; exact h_)) ?_
    rintro e_ w909 ⟨rfl, he⟩
    refine ⟨_, rfl, _, rfl, fun act910 f911 => ?_⟩
    clear f893
    have g912 := gr_ext he
    have hS908 := hS890.gr g912
    have szw909 := g912.size
    replace e0 := e0.gr g912 no_row
    replace r11 := r11.gr g912 (fun _ h => by cases h)
    replace bx9 := bx9.gr g912 (by simp)
    replace bx18 := bx18.gr g912 (by simp)
    replace bx28 := bx28.gr g912 (by simp)
    replace bx39 := bx39.gr g912 (by simp)
    replace bx51 := bx51.gr g912 (by simp)
    replace bx64 := bx64.gr g912 (by simp)
    replace bx78 := bx78.gr g912 (by simp)
    replace bx107 := bx107.gr g912 (by simp)
    replace bx907 := bx907.gr g912 (by simp)
    clear g912 he
    refine ⟨hS908, ?_⟩
    refine AtH.all [2] 7 (by kernel_rfl) (by simp) ⟨?_, trivial⟩
    refine OneH.seq f911 [[]] [(15, .slice (some ⟨w909.heap.size, 0, none⟩) 1 1)] (w909.alloc (.cells #[.int .i64 (2)] 3 (0, 0))) [] #[true, true, true, false, false, false, false, false, true, false, false] (by kernel_rfl) (by kernel_rfl) (by kernel_rfl) trivial (fun act928 w925 hw926 f927 => ?_)
    clear f911
    have g929 := gr_alloc hw926
    have hS932 := hS908.gr g929
    refine ⟨hS932, ?_⟩
    have szw925 := g929.size
    replace e0 := e0.gr g929 no_row
    replace r11 := r11.gr g929 (fun _ h => by cases h)
    replace bx9 := bx9.gr g929 (by simp)
    replace bx18 := bx18.gr g929 (by simp)
    replace bx28 := bx28.gr g929 (by simp)
    replace bx39 := bx39.gr g929 (by simp)
    replace bx51 := bx51.gr g929 (by simp)
    replace bx64 := bx64.gr g929 (by simp)
    replace bx78 := bx78.gr g929 (by simp)
    replace bx107 := bx107.gr g929 (by simp)
    replace bx907 := bx907.gr g929 (by simp)
    have bx931 : Bx w925 (w909.heap.size) [.int .i64 (2)] 3 := Bx.new hw926
    have := bx931.lt
    clear g929 hw926
    refine AtH.all [3] 6 (by kernel_rfl) (by simp) ⟨?_, trivial⟩
    refine OneH.call f927 24 #[.slice (some ⟨w909.heap.size, 0, none⟩) 1 1] (some 16) #[true, true, true, true, false, false, false, false, true, false, false] (by kernel_rfl) (by kernel_rfl) ((of_any (la := ([2] : List Int)) (Bx.rdI (l := ([2] : List Int)) bx931 rfl (by first | decide | exact Nat.le_of_ble_eq_true rfl))).mono (R' := fun e w' => e = .returned (.agg ((([4, 0, 0, 0] : List Int) : List Int).map wV).toArray) ∧ Ext _ w') (fun e_ w_ h_ => by rw [show (ofW ([2] : List Int) : List Int) = ([4, 0, 0, 0] : List Int) from by decide +kernel] at h_; exact h_)) ?_
    rintro e_ w945 ⟨rfl, he⟩
    refine ⟨_, rfl, _, rfl, fun act946 f947 => ?_⟩
    clear f927
    have g948 := gr_ext he
    have hS944 := hS932.gr g948
    have szw945 := g948.size
    replace e0 := e0.gr g948 no_row
    replace r11 := r11.gr g948 (fun _ h => by cases h)
    replace bx9 := bx9.gr g948 (by simp)
    replace bx18 := bx18.gr g948 (by simp)
    replace bx28 := bx28.gr g948 (by simp)
    replace bx39 := bx39.gr g948 (by simp)
    replace bx51 := bx51.gr g948 (by simp)
    replace bx64 := bx64.gr g948 (by simp)
    replace bx78 := bx78.gr g948 (by simp)
    replace bx107 := bx107.gr g948 (by simp)
    replace bx907 := bx907.gr g948 (by simp)
    replace bx931 := bx931.gr g948 (by simp)
    clear g948 he
    refine ⟨hS944, ?_⟩
    refine AtH.all [4] 5 (by kernel_rfl) (by simp) ⟨?_, trivial⟩
    refine OneH.call f947 12 #[.agg #[.slice (some ⟨w.heap.size, 0, none⟩) 4 4, .slice (some ⟨w3.heap.size, 0, none⟩) 4 4, .slice (some ⟨w58.heap.size, 0, none⟩) 4 4], .agg ((([15, 0, 0, 0] : List Int) : List Int).map wV).toArray, .int .i64 (0), .agg ((([4, 0, 0, 0] : List Int) : List Int).map wV).toArray] (some 17) #[true, true, true, true, true, false, false, false, true, false, false] (by kernel_rfl) (by kernel_rfl) (attract_any (g := exG) (s := ([15, 0, 0, 0] : List Int)) (t := ([4, 0, 0, 0] : List Int)) (p := 0) (RdG.mk (G := exG) (Bx.rdI (l := ([0, 1, 1, 0] : List Int)) bx9 rfl (by first | decide | exact Nat.le_of_ble_eq_true rfl)) (Bx.rdI (l := ([0, 0, 0, 0] : List Int)) bx18 rfl (by first | decide | exact Nat.le_of_ble_eq_true rfl)) (Bx.rdII (ls := ([([0, 1] : List Int), ([2] : List Int), ([0, 3] : List Int), ([3] : List Int)] : List (List Int))) bx78 ⟨⟨_, _, rfl, (by decide), (Bx.rdI (l := ([0, 1] : List Int)) bx28 rfl (by first | decide | exact Nat.le_of_ble_eq_true rfl))⟩, ⟨_, _, rfl, (by decide), (Bx.rdI (l := ([2] : List Int)) bx39 rfl (by first | decide | exact Nat.le_of_ble_eq_true rfl))⟩, ⟨_, _, rfl, (by decide), (Bx.rdI (l := ([0, 3] : List Int)) bx51 rfl (by first | decide | exact Nat.le_of_ble_eq_true rfl))⟩, ⟨_, _, rfl, (by decide), (Bx.rdI (l := ([3] : List Int)) bx64 rfl (by first | decide | exact Nat.le_of_ble_eq_true rfl))⟩, trivial⟩ (by decide)) (by decide) (by decide) (by decide)) (okW_lit ⟨by omega, by omega⟩ ⟨by omega, by omega⟩ ⟨by omega, by omega⟩ ⟨by omega, by omega⟩) (okW_lit ⟨by omega, by omega⟩ ⟨by omega, by omega⟩ ⟨by omega, by omega⟩ ⟨by omega, by omega⟩) (r11.wide (Nat.zero_le _) (by omega))) ?_
    rintro e_ w966 ⟨A962, c963, ss, ms, rfl, he, ow964, hat⟩
    have hok_ss := att_ok hat
    have hl_ss := okLen hok_ss
    have hlm_ms := att_len hat
    obtain ⟨hs1, hs2, hs3, hs4⟩ := shown12 hat
    refine ⟨_, rfl, _, rfl, fun act967 f968 => ?_⟩
    clear f947
    have g969 := gr_ext he
    have hS961 := hS944.gr g969
    have szw966 := g969.size
    replace e0 := e0.gr g969 no_row
    replace r11 := r11.gr g969 (fun _ h => by cases h)
    replace bx9 := bx9.gr g969 (by simp)
    replace bx18 := bx18.gr g969 (by simp)
    replace bx28 := bx28.gr g969 (by simp)
    replace bx39 := bx39.gr g969 (by simp)
    replace bx51 := bx51.gr g969 (by simp)
    replace bx64 := bx64.gr g969 (by simp)
    replace bx78 := bx78.gr g969 (by simp)
    replace bx107 := bx107.gr g969 (by simp)
    replace bx907 := bx907.gr g969 (by simp)
    replace bx931 := bx931.gr g969 (by simp)
    clear g969 he
    refine ⟨hS961, ?_⟩
    refine AtH.rd (by kernel_rfl) (fun d v c a w h => by cases d <;> exact h) hS961 [5] [[]] [(12, .tuple #[.agg ((ss : List Int).map wV).toArray, .slice A962 ms.length c963])] #[true, true, true, true, true, true, false, false, true, false, false] [] 4 f968 (by kernel_rfl) trivial (fun act983 f982 => ?_)
    clear f968
    refine AtH.rd (by kernel_rfl) (fun d v c a w h => by cases d <;> exact h) hS961 [6] [[]] [(18, .agg ((ss : List Int).map wV).toArray)] #[true, true, true, true, true, true, true, false, true, false, false] [] 3 f982 (by kernel_rfl) trivial (fun act985 f984 => ?_)
    clear f982
    refine AtH.rd (by kernel_rfl) (fun d v c a w h => by cases d <;> exact h) hS961 [7] [[]] [(19, .slice A962 ms.length c963)] #[true, true, true, true, true, true, true, true, true, false, false] [] 2 f984 (by kernel_rfl) trivial (fun act987 f986 => ?_)
    clear f984
    refine AtH.all [9] 1 (by kernel_rfl) (by simp) ⟨?_, trivial⟩
    refine OneH.act f986 #[true, true, true, true, true, true, true, true, true, true, false] (by kernel_rfl) (storeBlk (t := 28) (b := w126.heap.size) (n := 4) (cs' := ((ss : List Int).map wV)) (by kernel_rfl) (by kernel_rfl) ((List.length_map _).trans (by assumption)) oneW_ ((show ((ss : List Int).map wV).length = 4 from ((List.length_map _).trans (by assumption))).trans (show ((List.replicate 4 (0 : Int) : List Int).map wV).length = 4 from (by simp only [List.length_map, List.length_set, List.length_replicate, List.length_cons, List.length_nil]; first | done | assumption | exact from_len _ | exact of_len _ | exact ofZ_len _ | exact (ofW_ok _).1 | exact (fullW_W _).1 | exact (okW_with (by assumption)).1 | exact (okW_less (by assumption)).1 | exact put_len (from_len _) | exact orD_len _ _ | exact andD_len _ _ | exact minusD_len _ _ | exact fullD_len _ | (refine okLen ?_; (repeat (first | assumption | exact ofW_ok _ | exact fullW_W _ | apply okW_with | apply okW_less | refine okW_orS ?_ ?_ | refine okW_andS ?_ ?_ | refine okW_minusS ?_ ?_)); done) | omega | rfl)).symm) bx907) ?_
    rintro d_ v_ w989 ⟨rfl, g990, bx991⟩
    have hS994 := hS961.gr' g990 (by rw [hCs123]; exact ⟨(by simp only [add_block]; omega), (by simp only [add_block]; omega), (by simp only [add_block]; omega), trivial⟩)
    refine ⟨_, rfl, fun act993 f992 => ⟨hS994, ?_⟩⟩
    clear f986
    have szw989 := g990.size
    replace e0 := e0.gr g990 (fun k h => by injection h; omega)
    replace r11 := r11.gr g990 (fun k h => by injection h; omega)
    replace bx9 := bx9.gr g990 (fun h => by injection h; omega)
    replace bx18 := bx18.gr g990 (fun h => by injection h; omega)
    replace bx28 := bx28.gr g990 (fun h => by injection h; omega)
    replace bx39 := bx39.gr g990 (fun h => by injection h; omega)
    replace bx51 := bx51.gr g990 (fun h => by injection h; omega)
    replace bx64 := bx64.gr g990 (fun h => by injection h; omega)
    replace bx78 := bx78.gr g990 (fun h => by injection h; omega)
    replace bx107 := bx107.gr g990 (fun h => by injection h; omega)
    replace bx931 := bx931.gr g990 (fun h => by injection h; omega)
    replace ow964 := ow964.gr g990 (fun k hk e => by have := Sx_base hk; injection e; omega)
    clear bx907 g990
    refine AtH.rd (by kernel_rfl) (fun d v c a w h => by cases d <;> exact h) hS994 [10] [[]] [(3, .slice A962 ms.length c963)] #[true, true, true, true, true, true, true, true, true, true, true] [] 0 f992 (by kernel_rfl) trivial (fun act1008 f1007 => ?_)
    clear f992
    refine AtH.done (by kernel_rfl) ?_
    clear hS994
    refine t_n ?_
    have f1009 := f1007.sub (r := [(3, .slice A962 ms.length c963), (2, .pointer (some ⟨w126.heap.size, 0, none⟩))]) ⟨rfl, rfl, trivial⟩
    exact ⟨ss, ms, w126.heap.size, A962, c963, f1009, e0, r11, bx9, bx18, bx28, bx39, bx51, bx64, bx78, bx107, (ow964.imp (fun g _ hs => ⟨(fun e => by have := Sx_base hs; injection e; omega), (by have := Sx_base hs; show w105.heap.size ≤ g; omega)⟩)), bx991, (by omega), (by omega), hat⟩
   ·refine OneH.seq f893 [[]] [(15, .slice (some ⟨w891.heap.size, 0, none⟩) 1 1)] (w891.alloc (.cells #[.int .i64 (2)] 3 (0, 0))) [] #[true, false, true, false, false, false, false, false, true, false, false] (by kernel_rfl) (by kernel_rfl) (by kernel_rfl) trivial (fun act1014 w1011 hw1012 f1013 => ?_)
    clear f893
    have g1015 := gr_alloc hw1012
    have hS1018 := hS890.gr g1015
    refine ⟨hS1018, ?_⟩
    have szw1011 := g1015.size
    replace e0 := e0.gr g1015 no_row
    replace r11 := r11.gr g1015 (fun _ h => by cases h)
    replace bx9 := bx9.gr g1015 (by simp)
    replace bx18 := bx18.gr g1015 (by simp)
    replace bx28 := bx28.gr g1015 (by simp)
    replace bx39 := bx39.gr g1015 (by simp)
    replace bx51 := bx51.gr g1015 (by simp)
    replace bx64 := bx64.gr g1015 (by simp)
    replace bx78 := bx78.gr g1015 (by simp)
    replace bx107 := bx107.gr g1015 (by simp)
    replace bx907 := bx907.gr g1015 (by simp)
    have bx1017 : Bx w1011 (w891.heap.size) [.int .i64 (2)] 3 := Bx.new hw1012
    have := bx1017.lt
    clear g1015 hw1012
    refine AtH.all [1] 7 (by kernel_rfl) (by simp) ⟨?_, trivial⟩
    refine OneH.call f1013 20 #[.int .i64 (4)] (some 14) #[true, true, true, false, false, false, false, false, true, false, false] (by kernel_rfl) (by kernel_rfl) ((full_any (n := 4) (by omega)).mono (R' := fun e w' => e = .returned (.agg ((([15, 0, 0, 0] : List Int) : List Int).map wV).toArray) ∧ Ext _ w') (fun e_ w_ h_ => by rw [show (fullW 4 : List Int) = ([15, 0, 0, 0] : List Int) from by decide +kernel] at h_; exact h_)) ?_
    rintro e_ w1031 ⟨rfl, he⟩
    refine ⟨_, rfl, _, rfl, fun act1032 f1033 => ?_⟩
    clear f1013
    have g1034 := gr_ext he
    have hS1030 := hS1018.gr g1034
    have szw1031 := g1034.size
    replace e0 := e0.gr g1034 no_row
    replace r11 := r11.gr g1034 (fun _ h => by cases h)
    replace bx9 := bx9.gr g1034 (by simp)
    replace bx18 := bx18.gr g1034 (by simp)
    replace bx28 := bx28.gr g1034 (by simp)
    replace bx39 := bx39.gr g1034 (by simp)
    replace bx51 := bx51.gr g1034 (by simp)
    replace bx64 := bx64.gr g1034 (by simp)
    replace bx78 := bx78.gr g1034 (by simp)
    replace bx107 := bx107.gr g1034 (by simp)
    replace bx907 := bx907.gr g1034 (by simp)
    replace bx1017 := bx1017.gr g1034 (by simp)
    clear g1034 he
    refine ⟨hS1030, ?_⟩
    refine AtH.all [3] 6 (by kernel_rfl) (by simp) ⟨?_, trivial⟩
    refine OneH.call f1033 24 #[.slice (some ⟨w891.heap.size, 0, none⟩) 1 1] (some 16) #[true, true, true, true, false, false, false, false, true, false, false] (by kernel_rfl) (by kernel_rfl) ((of_any (la := ([2] : List Int)) (Bx.rdI (l := ([2] : List Int)) bx1017 rfl (by first | decide | exact Nat.le_of_ble_eq_true rfl))).mono (R' := fun e w' => e = .returned (.agg ((([4, 0, 0, 0] : List Int) : List Int).map wV).toArray) ∧ Ext _ w') (fun e_ w_ h_ => by rw [show (ofW ([2] : List Int) : List Int) = ([4, 0, 0, 0] : List Int) from by decide +kernel] at h_; exact h_)) ?_
    rintro e_ w1048 ⟨rfl, he⟩
    refine ⟨_, rfl, _, rfl, fun act1049 f1050 => ?_⟩
    clear f1033
    have g1051 := gr_ext he
    have hS1047 := hS1030.gr g1051
    have szw1048 := g1051.size
    replace e0 := e0.gr g1051 no_row
    replace r11 := r11.gr g1051 (fun _ h => by cases h)
    replace bx9 := bx9.gr g1051 (by simp)
    replace bx18 := bx18.gr g1051 (by simp)
    replace bx28 := bx28.gr g1051 (by simp)
    replace bx39 := bx39.gr g1051 (by simp)
    replace bx51 := bx51.gr g1051 (by simp)
    replace bx64 := bx64.gr g1051 (by simp)
    replace bx78 := bx78.gr g1051 (by simp)
    replace bx107 := bx107.gr g1051 (by simp)
    replace bx907 := bx907.gr g1051 (by simp)
    replace bx1017 := bx1017.gr g1051 (by simp)
    clear g1051 he
    refine ⟨hS1047, ?_⟩
    refine AtH.all [4] 5 (by kernel_rfl) (by simp) ⟨?_, trivial⟩
    refine OneH.call f1050 12 #[.agg #[.slice (some ⟨w.heap.size, 0, none⟩) 4 4, .slice (some ⟨w3.heap.size, 0, none⟩) 4 4, .slice (some ⟨w58.heap.size, 0, none⟩) 4 4], .agg ((([15, 0, 0, 0] : List Int) : List Int).map wV).toArray, .int .i64 (0), .agg ((([4, 0, 0, 0] : List Int) : List Int).map wV).toArray] (some 17) #[true, true, true, true, true, false, false, false, true, false, false] (by kernel_rfl) (by kernel_rfl) (attract_any (g := exG) (s := ([15, 0, 0, 0] : List Int)) (t := ([4, 0, 0, 0] : List Int)) (p := 0) (RdG.mk (G := exG) (Bx.rdI (l := ([0, 1, 1, 0] : List Int)) bx9 rfl (by first | decide | exact Nat.le_of_ble_eq_true rfl)) (Bx.rdI (l := ([0, 0, 0, 0] : List Int)) bx18 rfl (by first | decide | exact Nat.le_of_ble_eq_true rfl)) (Bx.rdII (ls := ([([0, 1] : List Int), ([2] : List Int), ([0, 3] : List Int), ([3] : List Int)] : List (List Int))) bx78 ⟨⟨_, _, rfl, (by decide), (Bx.rdI (l := ([0, 1] : List Int)) bx28 rfl (by first | decide | exact Nat.le_of_ble_eq_true rfl))⟩, ⟨_, _, rfl, (by decide), (Bx.rdI (l := ([2] : List Int)) bx39 rfl (by first | decide | exact Nat.le_of_ble_eq_true rfl))⟩, ⟨_, _, rfl, (by decide), (Bx.rdI (l := ([0, 3] : List Int)) bx51 rfl (by first | decide | exact Nat.le_of_ble_eq_true rfl))⟩, ⟨_, _, rfl, (by decide), (Bx.rdI (l := ([3] : List Int)) bx64 rfl (by first | decide | exact Nat.le_of_ble_eq_true rfl))⟩, trivial⟩ (by decide)) (by decide) (by decide) (by decide)) (okW_lit ⟨by omega, by omega⟩ ⟨by omega, by omega⟩ ⟨by omega, by omega⟩ ⟨by omega, by omega⟩) (okW_lit ⟨by omega, by omega⟩ ⟨by omega, by omega⟩ ⟨by omega, by omega⟩ ⟨by omega, by omega⟩) (r11.wide (Nat.zero_le _) (by omega))) ?_
    rintro e_ w1069 ⟨A1065, c1066, ss, ms, rfl, he, ow1067, hat⟩
    have hok_ss := att_ok hat
    have hl_ss := okLen hok_ss
    have hlm_ms := att_len hat
    obtain ⟨hs1, hs2, hs3, hs4⟩ := shown12 hat
    refine ⟨_, rfl, _, rfl, fun act1070 f1071 => ?_⟩
    clear f1050
    have g1072 := gr_ext he
    have hS1064 := hS1047.gr g1072
    have szw1069 := g1072.size
    replace e0 := e0.gr g1072 no_row
    replace r11 := r11.gr g1072 (fun _ h => by cases h)
    replace bx9 := bx9.gr g1072 (by simp)
    replace bx18 := bx18.gr g1072 (by simp)
    replace bx28 := bx28.gr g1072 (by simp)
    replace bx39 := bx39.gr g1072 (by simp)
    replace bx51 := bx51.gr g1072 (by simp)
    replace bx64 := bx64.gr g1072 (by simp)
    replace bx78 := bx78.gr g1072 (by simp)
    replace bx107 := bx107.gr g1072 (by simp)
    replace bx907 := bx907.gr g1072 (by simp)
    replace bx1017 := bx1017.gr g1072 (by simp)
    clear g1072 he
    refine ⟨hS1064, ?_⟩
    refine AtH.rd (by kernel_rfl) (fun d v c a w h => by cases d <;> exact h) hS1064 [5] [[]] [(12, .tuple #[.agg ((ss : List Int).map wV).toArray, .slice A1065 ms.length c1066])] #[true, true, true, true, true, true, false, false, true, false, false] [] 4 f1071 (by kernel_rfl) trivial (fun act1086 f1085 => ?_)
    clear f1071
    refine AtH.rd (by kernel_rfl) (fun d v c a w h => by cases d <;> exact h) hS1064 [6] [[]] [(18, .agg ((ss : List Int).map wV).toArray)] #[true, true, true, true, true, true, true, false, true, false, false] [] 3 f1085 (by kernel_rfl) trivial (fun act1088 f1087 => ?_)
    clear f1085
    refine AtH.rd (by kernel_rfl) (fun d v c a w h => by cases d <;> exact h) hS1064 [7] [[]] [(19, .slice A1065 ms.length c1066)] #[true, true, true, true, true, true, true, true, true, false, false] [] 2 f1087 (by kernel_rfl) trivial (fun act1090 f1089 => ?_)
    clear f1087
    refine AtH.all [9] 1 (by kernel_rfl) (by simp) ⟨?_, trivial⟩
    refine OneH.act f1089 #[true, true, true, true, true, true, true, true, true, true, false] (by kernel_rfl) (storeBlk (t := 28) (b := w126.heap.size) (n := 4) (cs' := ((ss : List Int).map wV)) (by kernel_rfl) (by kernel_rfl) ((List.length_map _).trans (by assumption)) oneW_ ((show ((ss : List Int).map wV).length = 4 from ((List.length_map _).trans (by assumption))).trans (show ((List.replicate 4 (0 : Int) : List Int).map wV).length = 4 from (by simp only [List.length_map, List.length_set, List.length_replicate, List.length_cons, List.length_nil]; first | done | assumption | exact from_len _ | exact of_len _ | exact ofZ_len _ | exact (ofW_ok _).1 | exact (fullW_W _).1 | exact (okW_with (by assumption)).1 | exact (okW_less (by assumption)).1 | exact put_len (from_len _) | exact orD_len _ _ | exact andD_len _ _ | exact minusD_len _ _ | exact fullD_len _ | (refine okLen ?_; (repeat (first | assumption | exact ofW_ok _ | exact fullW_W _ | apply okW_with | apply okW_less | refine okW_orS ?_ ?_ | refine okW_andS ?_ ?_ | refine okW_minusS ?_ ?_)); done) | omega | rfl)).symm) bx907) ?_
    rintro d_ v_ w1092 ⟨rfl, g1093, bx1094⟩
    have hS1097 := hS1064.gr' g1093 (by rw [hCs123]; exact ⟨(by simp only [add_block]; omega), (by simp only [add_block]; omega), (by simp only [add_block]; omega), trivial⟩)
    refine ⟨_, rfl, fun act1096 f1095 => ⟨hS1097, ?_⟩⟩
    clear f1089
    have szw1092 := g1093.size
    replace e0 := e0.gr g1093 (fun k h => by injection h; omega)
    replace r11 := r11.gr g1093 (fun k h => by injection h; omega)
    replace bx9 := bx9.gr g1093 (fun h => by injection h; omega)
    replace bx18 := bx18.gr g1093 (fun h => by injection h; omega)
    replace bx28 := bx28.gr g1093 (fun h => by injection h; omega)
    replace bx39 := bx39.gr g1093 (fun h => by injection h; omega)
    replace bx51 := bx51.gr g1093 (fun h => by injection h; omega)
    replace bx64 := bx64.gr g1093 (fun h => by injection h; omega)
    replace bx78 := bx78.gr g1093 (fun h => by injection h; omega)
    replace bx107 := bx107.gr g1093 (fun h => by injection h; omega)
    replace bx1017 := bx1017.gr g1093 (fun h => by injection h; omega)
    replace ow1067 := ow1067.gr g1093 (fun k hk e => by have := Sx_base hk; injection e; omega)
    clear bx907 g1093
    refine AtH.rd (by kernel_rfl) (fun d v c a w h => by cases d <;> exact h) hS1097 [10] [[]] [(3, .slice A1065 ms.length c1066)] #[true, true, true, true, true, true, true, true, true, true, true] [] 0 f1095 (by kernel_rfl) trivial (fun act1111 f1110 => ?_)
    clear f1095
    refine AtH.done (by kernel_rfl) ?_
    clear hS1097
    refine t_n ?_
    have f1112 := f1110.sub (r := [(3, .slice A1065 ms.length c1066), (2, .pointer (some ⟨w126.heap.size, 0, none⟩))]) ⟨rfl, rfl, trivial⟩
    exact ⟨ss, ms, w126.heap.size, A1065, c1066, f1112, e0, r11, bx9, bx18, bx28, bx39, bx51, bx64, bx78, bx107, (ow1067.imp (fun g _ hs => ⟨(fun e => by have := Sx_base hs; injection e; omega), (by have := Sx_base hs; show w105.heap.size ≤ g; omega)⟩)), bx1094, (by omega), (by omega), hat⟩
 ·clear r11
  clear bx9
  clear bx18
  clear bx28
  clear bx39
  clear bx51
  clear bx64
  clear bx78
  clear bx107
  clear f108 e0
  intro act1113 w1114 ⟨ss, ms, b_121, A_119, c_120, f1115, e1116, r1117, bx1118, bx1119, bx1120, bx1121, bx1122, bx1123, bx1124, bx1125, ow1126, bx1127, hb1128, szz1129, hat⟩
  have szw1114 := e1116.size
  have hok_ss := att_ok hat
  have hl_ss := okLen hok_ss
  have hlm_ms := att_len hat
  obtain ⟨hs1, hs2, hs3, hs4⟩ := shown12 hat
  have := bx1118.lt
  have := bx1119.lt
  have := bx1120.lt
  have := bx1121.lt
  have := bx1122.lt
  have := bx1123.lt
  have := bx1124.lt
  have := bx1125.lt
  have := bx1127.lt
  clear bx1118
  clear bx1119
  clear bx1120
  clear bx1121
  clear bx1122
  clear bx1123
  clear bx1124
  clear bx1125
  refine wp_seq ?_
  obtain ⟨Cs1132, hCs1133⟩ : ∃ c : List (Addr × Value), c = ([] : List (Addr × Value)) ++ blkC (b_121) ((ss : List Int).map wV) := ⟨_, rfl⟩
  have hS1134 : HoldsC Cs1132 w1114 := by rw [hCs1133]; exact (holdsA (show HoldsC [] w1114 from trivial) (holds_blk bx1127))
  refine AtH.start Cs1132 22 #[false, false, false, false, false, false, false, false, false, false, false, false, false, false, false, false, false, false, false, false, false, false] (by kernel_rfl) rfl rfl (fun w1136 hw1137 => ?_)
  have g1135 := gr_drew hw1137
  have hS1138 := hS1134.gr g1135
  have szw1136 := g1135.size
  replace e1116 := e1116.gr g1135 no_row
  replace r1117 := r1117.gr g1135 (fun _ h => by cases h)
  replace ow1126 := ow1126.gr g1135 (fun _ _ h => by cases h)
  replace bx1127 := bx1127.gr g1135 (by simp)
  clear g1135 hw1137 hS1134
  refine AtH.rd (by kernel_rfl) (fun d v c a w h => by cases d <;> exact h) hS1138 [0] [[.cs ((ss : List Int).map wV)]] [(20, .agg ((ss : List Int).map wV).toArray)] #[true, false, false, false, false, false, false, false, false, false, false, false, false, false, false, false, false, false, false, false, false, false] [(((ss : List Int).map wV).length = 4), (∀ (j : Nat) (v : Value), ((ss : List Int).map wV)[j]? = some v → ∃ j_ : Nat, Cs1132[j_]? = some (((⟨b_121, 0, none⟩ : Addr).add j), v))] 21 f1115 (by kernel_rfl) ⟨((List.length_map _).trans (by assumption)), (fun j v hv => List.getElem?_of_mem (by rw [hCs1133]; exact List.mem_append.2 (.inr (blkC_in hv)))), trivial⟩ (fun act1144 f1143 => ?_)
  clear f1115
  refine AtH.all [1] 20 (by kernel_rfl) (by simp) ⟨?_, trivial⟩
  refine OneH.seq f1143 [[]] [(21, .slice (some ⟨w1136.heap.size, 0, none⟩) 3 3)] (w1136.alloc (.cells #[.int .i64 (0), .int .i64 (1), .int .i64 (2)] 3 (0, 0))) [] #[true, true, false, false, false, false, false, false, false, false, false, false, false, false, false, false, false, false, false, false, false, false] (by kernel_rfl) (by kernel_rfl) (by kernel_rfl) trivial (fun act1149 w1146 hw1147 f1148 => ?_)
  clear f1143
  have g1150 := gr_alloc hw1147
  have hS1153 := hS1138.gr g1150
  refine ⟨hS1153, ?_⟩
  have szw1146 := g1150.size
  replace e1116 := e1116.gr g1150 no_row
  replace r1117 := r1117.gr g1150 (fun _ h => by cases h)
  replace ow1126 : OwnR w1146 (Sx (w105.heap.size) [some (w1136.heap.size), some (b_121)]) A_119 c_120 3 (ms : List Int) := ow1126.grA g1150 (fun _ _ h => by cases h) (fun k hk hs => ⟨(fun e => by injection e; omega), hs.1, hs.2⟩)
  replace bx1127 := bx1127.gr g1150 (by simp)
  have bx1152 : Bx w1146 (w1136.heap.size) [.int .i64 (0), .int .i64 (1), .int .i64 (2)] 3 := Bx.new hw1147
  have := bx1152.lt
  clear g1150 hw1147
  refine AtH.all [2] 19 (by kernel_rfl) (by simp) ⟨?_, trivial⟩
  refine OneH.call f1148 24 #[.slice (some ⟨w1136.heap.size, 0, none⟩) 3 3] (some 22) #[true, true, true, false, false, false, false, false, false, false, false, false, false, false, false, false, false, false, false, false, false, false] (by kernel_rfl) (by kernel_rfl) ((of_any (la := ([0, 1, 2] : List Int)) (Bx.rdI (l := ([0, 1, 2] : List Int)) bx1152 rfl (by first | decide | exact Nat.le_of_ble_eq_true rfl))).mono (R' := fun e w' => e = .returned (.agg ((([7, 0, 0, 0] : List Int) : List Int).map wV).toArray) ∧ Ext _ w') (fun e_ w_ h_ => by rw [show (ofW ([0, 1, 2] : List Int) : List Int) = ([7, 0, 0, 0] : List Int) from by decide +kernel] at h_; exact h_)) ?_
  rintro e_ w1159 ⟨rfl, he⟩
  refine ⟨_, rfl, _, rfl, fun act1160 f1161 => ?_⟩
  clear f1148
  have g1162 := gr_ext he
  have hS1158 := hS1153.gr g1162
  have szw1159 := g1162.size
  replace e1116 := e1116.gr g1162 no_row
  replace r1117 := r1117.gr g1162 (fun _ h => by cases h)
  replace ow1126 := ow1126.gr g1162 (fun _ _ h => by cases h)
  replace bx1127 := bx1127.gr g1162 (by simp)
  replace bx1152 := bx1152.gr g1162 (by simp)
  clear g1162 he
  refine ⟨hS1158, ?_⟩
  refine AtH.rd (by kernel_rfl) (fun d v c a w h => by cases d <;> exact h) hS1158 [3] [[.cs [wV (gI ss 0), wV (gI ss 1), wV (gI ss 2), wV (gI ss 3)], .cs [wV (gI ([7, 0, 0, 0] : List Int) 0), wV (gI ([7, 0, 0, 0] : List Int) 1), wV (gI ([7, 0, 0, 0] : List Int) 2), wV (gI ([7, 0, 0, 0] : List Int) 3)], .as_ (.bool true)]] [(23, .bool true)] #[true, true, true, true, false, false, false, false, false, false, false, false, false, false, false, false, false, false, false, false, false, false] [(((ss : List Int).map wV).toArray = ([wV (gI ss 0), wV (gI ss 1), wV (gI ss 2), wV (gI ss 3)] : List Value).toArray), (((([7, 0, 0, 0] : List Int) : List Int).map wV).toArray = ([wV (gI ([7, 0, 0, 0] : List Int) 0), wV (gI ([7, 0, 0, 0] : List Int) 1), wV (gI ([7, 0, 0, 0] : List Int) 2), wV (gI ([7, 0, 0, 0] : List Int) 3)] : List Value).toArray), ((.bool ((((gI ss 0 : Int) == gI ([7, 0, 0, 0] : List Int) 0) && (((gI ss 1 : Int) == gI ([7, 0, 0, 0] : List Int) 1) && (((gI ss 2 : Int) == gI ([7, 0, 0, 0] : List Int) 2) && (((gI ss 3 : Int) == gI ([7, 0, 0, 0] : List Int) 3) && true))))) : Value) = .bool true)] 18 f1161 (by kernel_rfl) ⟨(map4 (by assumption)), (map4 (okLen (okW_lit ⟨by omega, by omega⟩ ⟨by omega, by omega⟩ ⟨by omega, by omega⟩ ⟨by omega, by omega⟩))), (Eq.trans (b := (.bool (decide ((ss : List Int) = ([7, 0, 0, 0] : List Int))) : Value)) (congrArg (fun b => Value.bool b) (w4_eq (by assumption) (okLen (okW_lit ⟨by omega, by omega⟩ ⟨by omega, by omega⟩ ⟨by omega, by omega⟩ ⟨by omega, by omega⟩)))) (congrArg Value.bool (decide_eq_true hs1))), trivial⟩ (fun act1169 f1168 => ?_)
  clear f1161
  refine AtH.rd (by kernel_rfl) (fun d v c a w h => by cases d <;> exact h) hS1158 [4] [[]] [(24, .bool true)] #[true, true, true, true, true, false, false, false, false, false, false, false, false, false, false, false, false, false, false, false, false, false] [] 17 f1168 (by kernel_rfl) trivial (fun act1171 f1170 => ?_)
  clear f1168
  refine AtH.rd (by kernel_rfl) (fun d v c a w h => by cases d <;> exact h) hS1158 [5] [[]] [(25, .slice A_119 ms.length c_120)] #[true, true, true, true, true, true, false, false, false, false, false, false, false, false, false, false, false, false, false, false, false, false] [] 16 f1170 (by kernel_rfl) trivial (fun act1173 f1172 => ?_)
  clear f1170
  refine AtH.rd (by kernel_rfl) (fun d v c a w h => by cases d <;> exact h) hS1158 [6] [[]] [(26, .int .i64 (((ms.length : Nat) : Int)))] #[true, true, true, true, true, true, true, false, false, false, false, false, false, false, false, false, false, false, false, false, false, false] [] 15 f1172 (by kernel_rfl) trivial (fun act1175 f1174 => ?_)
  clear f1172
  refine AtH.rd (by kernel_rfl) (fun d v c a w h => by cases d <;> exact h) hS1158 [7] [[.as_ (.bool true)]] [(27, .bool true)] #[true, true, true, true, true, true, true, true, false, false, false, false, false, false, false, false, false, false, false, false, false, false] [((.bool ((((ms.length : Nat) : Int) : Int) == 4) : Value) = .bool true)] 14 f1174 (by kernel_rfl) ⟨(congrArg Value.bool (beqT (by omega))), trivial⟩ (fun act1177 f1176 => ?_)
  clear f1174
  refine AtH.rd (by kernel_rfl) (fun d v c a w h => by cases d <;> exact h) hS1158 [8] [[]] [(28, .bool true)] #[true, true, true, true, true, true, true, true, true, false, false, false, false, false, false, false, false, false, false, false, false, false] [] 13 f1176 (by kernel_rfl) trivial (fun act1179 f1178 => ?_)
  clear f1176
  refine AtH.rd (by kernel_rfl) (fun d v c a w h => by cases d <;> exact h) hS1158 [9] [[]] [(29, .bool true)] #[true, true, true, true, true, true, true, true, true, true, false, false, false, false, false, false, false, false, false, false, false, false] [] 12 f1178 (by kernel_rfl) trivial (fun act1181 f1180 => ?_)
  clear f1178
  refine AtH.rd (by kernel_rfl) (fun d v c a w h => by cases d <;> exact h) hS1158 [10] [[]] [(30, .slice A_119 ms.length c_120)] #[true, true, true, true, true, true, true, true, true, true, true, false, false, false, false, false, false, false, false, false, false, false] [] 11 f1180 (by kernel_rfl) trivial (fun act1183 f1182 => ?_)
  clear f1180
  obtain ⟨ad1184, hA1185, hb1188, hc1187, hc1186⟩ := ow1126.get (0) (by omega) (by omega) (sz := 1) rfl
  refine AtH.rd (by kernel_rfl) (fun d v c a w h => by cases d <;> exact h) hS1158 [11] [[.ad ad1184]] [(31, .pointer (some (ad1184.add ((0 : Int).toNat * 1))))] #[true, true, true, true, true, true, true, true, true, true, true, true, false, false, false, false, false, false, false, false, false, false] [(A_119 = some ad1184), (0 ≤ (0 : Int)), ((0 : Int) < (ms.length : Nat))] 10 f1182 (by kernel_rfl) ⟨hA1185, (by omega), (by omega), trivial⟩ (fun act1190 f1189 => ?_)
  clear f1182
  refine AtH.all [12] 9 (by kernel_rfl) (by simp) ⟨?_, trivial⟩
  refine OneH.seq f1189 [[.ld (.int .i64 (gI ms 0))]] [(32, .int .i64 (gI ms 0))] w1159 [(w1159.cell? (ad1184.add ((0 : Int).toNat * 1)) = some (.int .i64 (gI ms 0)))] #[true, true, true, true, true, true, true, true, true, true, true, true, true, false, false, false, false, false, false, false, false, false] (by kernel_rfl) (by kernel_rfl) (by kernel_rfl) ⟨hc1187, trivial⟩ (fun act1192 w1193 hw1194 f1191 => ?_)
  obtain rfl : w1159 = w1193 := hw1194.symm
  clear f1189
  refine ⟨hS1158, ?_⟩
  refine AtH.rd (by kernel_rfl) (fun d v c a w h => by cases d <;> exact h) hS1158 [13] [[.as_ (.bool true)]] [(33, .bool true)] #[true, true, true, true, true, true, true, true, true, true, true, true, true, true, false, false, false, false, false, false, false, false] [((.bool ((gI ms 0 : Int) == 1) : Value) = .bool true)] 8 f1191 (by kernel_rfl) ⟨(congrArg Value.bool (beqT hs3)), trivial⟩ (fun act1196 f1195 => ?_)
  clear f1191
  refine AtH.rd (by kernel_rfl) (fun d v c a w h => by cases d <;> exact h) hS1158 [14] [[]] [(34, .bool true)] #[true, true, true, true, true, true, true, true, true, true, true, true, true, true, true, false, false, false, false, false, false, false] [] 7 f1195 (by kernel_rfl) trivial (fun act1198 f1197 => ?_)
  clear f1195
  refine AtH.rd (by kernel_rfl) (fun d v c a w h => by cases d <;> exact h) hS1158 [15] [[]] [(35, .bool true)] #[true, true, true, true, true, true, true, true, true, true, true, true, true, true, true, true, false, false, false, false, false, false] [] 6 f1197 (by kernel_rfl) trivial (fun act1200 f1199 => ?_)
  clear f1197
  refine AtH.rd (by kernel_rfl) (fun d v c a w h => by cases d <;> exact h) hS1158 [16] [[]] [(36, .slice A_119 ms.length c_120)] #[true, true, true, true, true, true, true, true, true, true, true, true, true, true, true, true, true, false, false, false, false, false] [] 5 f1199 (by kernel_rfl) trivial (fun act1202 f1201 => ?_)
  clear f1199
  obtain ⟨ad1203, hA1204, hb1207, hc1206, hc1205⟩ := ow1126.get (1) (by omega) (by omega) (sz := 1) rfl
  refine AtH.rd (by kernel_rfl) (fun d v c a w h => by cases d <;> exact h) hS1158 [17] [[.ad ad1203]] [(37, .pointer (some (ad1203.add ((1 : Int).toNat * 1))))] #[true, true, true, true, true, true, true, true, true, true, true, true, true, true, true, true, true, true, false, false, false, false] [(A_119 = some ad1203), (0 ≤ (1 : Int)), ((1 : Int) < (ms.length : Nat))] 4 f1201 (by kernel_rfl) ⟨hA1204, (by omega), (by omega), trivial⟩ (fun act1209 f1208 => ?_)
  clear f1201
  refine AtH.all [18] 3 (by kernel_rfl) (by simp) ⟨?_, trivial⟩
  refine OneH.seq f1208 [[.ld (.int .i64 (gI ms 1))]] [(38, .int .i64 (gI ms 1))] w1159 [(w1159.cell? (ad1203.add ((1 : Int).toNat * 1)) = some (.int .i64 (gI ms 1)))] #[true, true, true, true, true, true, true, true, true, true, true, true, true, true, true, true, true, true, true, false, false, false] (by kernel_rfl) (by kernel_rfl) (by kernel_rfl) ⟨hc1206, trivial⟩ (fun act1211 w1212 hw1213 f1210 => ?_)
  obtain rfl : w1159 = w1212 := hw1213.symm
  clear f1208
  refine ⟨hS1158, ?_⟩
  refine AtH.rd (by kernel_rfl) (fun d v c a w h => by cases d <;> exact h) hS1158 [19] [[.as_ (.bool true)]] [(39, .bool true)] #[true, true, true, true, true, true, true, true, true, true, true, true, true, true, true, true, true, true, true, true, false, false] [((.bool ((gI ms 1 : Int) == (-1)) : Value) = .bool true)] 2 f1210 (by kernel_rfl) ⟨(congrArg Value.bool (beqT hs4)), trivial⟩ (fun act1215 f1214 => ?_)
  clear f1210
  refine AtH.rd (by kernel_rfl) (fun d v c a w h => by cases d <;> exact h) hS1158 [20] [[]] [(40, .bool true)] #[true, true, true, true, true, true, true, true, true, true, true, true, true, true, true, true, true, true, true, true, true, false] [] 1 f1214 (by kernel_rfl) trivial (fun act1217 f1216 => ?_)
  clear f1214
  refine AtH.rd (by kernel_rfl) (fun d v c a w h => by cases d <;> exact h) hS1158 [21] [[]] [(0, .bool true)] #[true, true, true, true, true, true, true, true, true, true, true, true, true, true, true, true, true, true, true, true, true, true] [] 0 f1216 (by kernel_rfl) trivial (fun act1219 f1218 => ?_)
  clear f1216
  refine AtH.done (by kernel_rfl) ?_
  clear hS1158
  refine t_n ?_
  clear bx1127
  clear bx1152
  refine wp_ret ?_
  refine ret_ f1218 [] [.bool true] [] (by kernel_rfl) trivial ?_
  exact ⟨rfl, e1116⟩

end Go.Proofs.YtkpljmalbmcdfaaDoor
