/-
  A walk of a Go function, printed by a program of this repo. Conditions: what the theorems name.
-/
import Derived.Test.YtkpljmalbmcdfaaDoorPureShown12
import Derived.Test.YtkpljmalbmcdfaaDoorWAttract
set_option linter.unusedVariables false
set_option linter.unusedSimpArgs false
namespace Go.Proofs.YtkpljmalbmcdfaaDoor
open Go Go.RowKit

attribute [local irreducible] ofZ fromW wordsD ofD ofW lsD lenW lenN fullW withW lessW hasW hasD inW inD leastD putD onI tzI orS andS minusS orD andD minusD fullD emptyD
set_option maxHeartbeats 4000000 in
theorem shown12_any {w : World} (rT : RdT w 0 w.heap.size) :
    Calls Tryd.prog 9 #[] w fun e w' => e = .returned (.bool true) ∧ Ext w w' := by
 refine enter_ (args := []) Tryd.func9 rfl Tryd.ntmps9 (Nat.le_of_ble_eq_true rfl) (fun act0 f0 => ?_)
 have e0 := Ext.refl w
 refine wp_seq ?_
 refine At.start ?_
 refine At.rd f0 1 [[]] [(0, .bool false)] [] (by kernel_rfl) trivial (fun act2 f1 => ?_)
 clear f0
 refine At.done rfl ?_
 refine t_n ?_
 have f3 := f1.sub (r := []) trivial
 clear f1
 refine wp_seq ?_
 refine At.start ?_
 refine At.seq f3 1 [[]] [(4, .slice (some ⟨w.heap.size, 0, none⟩) 4 4)] (w.alloc (.cells #[.int .i64 (0), .int .i64 (1), .int .i64 (1), .int .i64 (0)] 3 (0, 0))) [] (by kernel_rfl) trivial (fun act7 w4 hw5 f6 => ?_)
 clear f3
 have g8 := gr_alloc hw5
 have szw4 := g8.size
 have e11 := e0.gr g8 no_row
 clear e0
 have r12 := rT.gr g8 (fun _ h => by cases h)
 clear rT
 have bx10 : Bx w4 (w.heap.size) [.int .i64 (0), .int .i64 (1), .int .i64 (1), .int .i64 (0)] 3 := Bx.new hw5
 have := bx10.lt
 clear g8 hw5
 refine At.seq f6 1 [[]] [(5, .slice (some ⟨w4.heap.size, 0, none⟩) 4 4)] (w4.alloc (.cells #[.int .i64 (0), .int .i64 (0), .int .i64 (0), .int .i64 (0)] 3 (0, 0))) [] (by kernel_rfl) trivial (fun act16 w13 hw14 f15 => ?_)
 clear f6
 have g17 := gr_alloc hw14
 have szw13 := g17.size
 have e20 := e11.gr g17 no_row
 clear e11
 have r21 := r12.gr g17 (fun _ h => by cases h)
 clear r12
 have bx22 := bx10.gr g17 (by simp)
 clear bx10
 have bx19 : Bx w13 (w4.heap.size) [.int .i64 (0), .int .i64 (0), .int .i64 (0), .int .i64 (0)] 3 := Bx.new hw14
 have := bx19.lt
 clear g17 hw14
 refine At.seq f15 1 [[]] [(6, .slice (some ⟨w13.heap.size, 0, none⟩) 2 2)] (w13.alloc (.cells #[.int .i64 (0), .int .i64 (1)] 3 (0, 0))) [] (by kernel_rfl) trivial (fun act26 w23 hw24 f25 => ?_)
 clear f15
 have g27 := gr_alloc hw24
 have szw23 := g27.size
 have e30 := e20.gr g27 no_row
 clear e20
 have r31 := r21.gr g27 (fun _ h => by cases h)
 clear r21
 have bx32 := bx22.gr g27 (by simp)
 clear bx22
 have bx33 := bx19.gr g27 (by simp)
 clear bx19
 have bx29 : Bx w23 (w13.heap.size) [.int .i64 (0), .int .i64 (1)] 3 := Bx.new hw24
 have := bx29.lt
 clear g27 hw24
 refine At.seq f25 1 [[]] [(7, .slice (some ⟨w23.heap.size, 0, none⟩) 1 1)] (w23.alloc (.cells #[.int .i64 (2)] 3 (0, 0))) [] (by kernel_rfl) trivial (fun act37 w34 hw35 f36 => ?_)
 clear f25
 have g38 := gr_alloc hw35
 have szw34 := g38.size
 have e41 := e30.gr g38 no_row
 clear e30
 have r42 := r31.gr g38 (fun _ h => by cases h)
 clear r31
 have bx43 := bx32.gr g38 (by simp)
 clear bx32
 have bx44 := bx33.gr g38 (by simp)
 clear bx33
 have bx45 := bx29.gr g38 (by simp)
 clear bx29
 have bx40 : Bx w34 (w23.heap.size) [.int .i64 (2)] 3 := Bx.new hw35
 have := bx40.lt
 clear g38 hw35
 refine At.seq f36 1 [[]] [(8, .slice (some ⟨w34.heap.size, 0, none⟩) 2 2)] (w34.alloc (.cells #[.int .i64 (0), .int .i64 (3)] 3 (0, 0))) [] (by kernel_rfl) trivial (fun act49 w46 hw47 f48 => ?_)
 clear f36
 have g50 := gr_alloc hw47
 have szw46 := g50.size
 have e53 := e41.gr g50 no_row
 clear e41
 have r54 := r42.gr g50 (fun _ h => by cases h)
 clear r42
 have bx55 := bx43.gr g50 (by simp)
 clear bx43
 have bx56 := bx44.gr g50 (by simp)
 clear bx44
 have bx57 := bx45.gr g50 (by simp)
 clear bx45
 have bx58 := bx40.gr g50 (by simp)
 clear bx40
 have bx52 : Bx w46 (w34.heap.size) [.int .i64 (0), .int .i64 (3)] 3 := Bx.new hw47
 have := bx52.lt
 clear g50 hw47
 refine At.seq f48 1 [[]] [(9, .slice (some ⟨w46.heap.size, 0, none⟩) 1 1)] (w46.alloc (.cells #[.int .i64 (3)] 3 (0, 0))) [] (by kernel_rfl) trivial (fun act62 w59 hw60 f61 => ?_)
 clear f48
 have g63 := gr_alloc hw60
 have szw59 := g63.size
 have e66 := e53.gr g63 no_row
 clear e53
 have r67 := r54.gr g63 (fun _ h => by cases h)
 clear r54
 have bx68 := bx55.gr g63 (by simp)
 clear bx55
 have bx69 := bx56.gr g63 (by simp)
 clear bx56
 have bx70 := bx57.gr g63 (by simp)
 clear bx57
 have bx71 := bx58.gr g63 (by simp)
 clear bx58
 have bx72 := bx52.gr g63 (by simp)
 clear bx52
 have bx65 : Bx w59 (w46.heap.size) [.int .i64 (3)] 3 := Bx.new hw60
 have := bx65.lt
 clear g63 hw60
 refine At.seq f61 1 [[]] [(10, .slice (some ⟨w59.heap.size, 0, none⟩) 4 4)] (w59.alloc (.cells #[.slice (some ⟨w13.heap.size, 0, none⟩) 2 2, .slice (some ⟨w23.heap.size, 0, none⟩) 1 1, .slice (some ⟨w34.heap.size, 0, none⟩) 2 2, .slice (some ⟨w46.heap.size, 0, none⟩) 1 1] 22 (0, 0))) [] (by kernel_rfl) trivial (fun act76 w73 hw74 f75 => ?_)
 clear f61
 have g77 := gr_alloc hw74
 have szw73 := g77.size
 have e80 := e66.gr g77 no_row
 clear e66
 have r81 := r67.gr g77 (fun _ h => by cases h)
 clear r67
 have bx82 := bx68.gr g77 (by simp)
 clear bx68
 have bx83 := bx69.gr g77 (by simp)
 clear bx69
 have bx84 := bx70.gr g77 (by simp)
 clear bx70
 have bx85 := bx71.gr g77 (by simp)
 clear bx71
 have bx86 := bx72.gr g77 (by simp)
 clear bx72
 have bx87 := bx65.gr g77 (by simp)
 clear bx65
 have bx79 : Bx w73 (w59.heap.size) [.slice (some ⟨w13.heap.size, 0, none⟩) 2 2, .slice (some ⟨w23.heap.size, 0, none⟩) 1 1, .slice (some ⟨w34.heap.size, 0, none⟩) 2 2, .slice (some ⟨w46.heap.size, 0, none⟩) 1 1] 22 := Bx.new hw74
 have := bx79.lt
 clear g77 hw74
 refine At.rd f75 1 [[]] [(11, .agg #[.slice (some ⟨w.heap.size, 0, none⟩) 4 4, .slice (some ⟨w4.heap.size, 0, none⟩) 4 4, .slice (some ⟨w59.heap.size, 0, none⟩) 4 4])] [] (by kernel_rfl) trivial (fun act89 f88 => ?_)
 clear f75
 refine At.seq f88 1 [[]] [(1, .pointer (some ⟨w73.heap.size, 0, none⟩))] (w73.alloc (.cells #[.slice none 0 0, .slice none 0 0, .slice none 0 0] 25 (0, 0))) [] (by kernel_rfl) trivial (fun act93 w90 hw91 f92 => ?_)
 clear f88
 have g94 := gr_alloc hw91
 have szw90 := g94.size
 have e96 := e80.gr g94 no_row
 clear e80
 have r97 := r81.gr g94 (fun _ h => by cases h)
 clear r81
 have bx98 := bx82.gr g94 (by simp)
 clear bx82
 have bx99 := bx83.gr g94 (by simp)
 clear bx83
 have bx100 := bx84.gr g94 (by simp)
 clear bx84
 have bx101 := bx85.gr g94 (by simp)
 clear bx85
 have bx102 := bx86.gr g94 (by simp)
 clear bx86
 have bx103 := bx87.gr g94 (by simp)
 clear bx87
 have bx104 := bx79.gr g94 (by simp)
 clear bx79
 have bx105 : Bx w90 (w73.heap.size) [.slice none 0 0, .slice none 0 0, .slice none 0 0] 25 := Bx.new hw91
 have := bx105.lt
 clear g94 hw91
 refine At.store f92 (t := 25) (b := w73.heap.size) (off := 0) (v := .agg #[.slice (some ⟨w.heap.size, 0, none⟩) 4 4, .slice (some ⟨w4.heap.size, 0, none⟩) 4 4, .slice (some ⟨w59.heap.size, 0, none⟩) 4 4]) (by kernel_rfl) bx105 (by kernel_rfl) (fun act110 w106 g107 bx108 f109 => ?_)
 clear f92
 replace bx108 : Bx w106 (w73.heap.size) [.slice (some ⟨w.heap.size, 0, none⟩) 4 4, .slice (some ⟨w4.heap.size, 0, none⟩) 4 4, .slice (some ⟨w59.heap.size, 0, none⟩) 4 4] 25 := bx108
 have szw106 := g107.size
 have e111 := e96.gr g107 (fun k h => by injection h; omega)
 clear e96
 have r112 := r97.gr g107 (fun k h => by injection h; omega)
 clear r97
 have bx113 := bx98.gr g107 (fun h => by injection h; omega)
 clear bx98
 have bx114 := bx99.gr g107 (fun h => by injection h; omega)
 clear bx99
 have bx115 := bx100.gr g107 (fun h => by injection h; omega)
 clear bx100
 have bx116 := bx101.gr g107 (fun h => by injection h; omega)
 clear bx101
 have bx117 := bx102.gr g107 (fun h => by injection h; omega)
 clear bx102
 have bx118 := bx103.gr g107 (fun h => by injection h; omega)
 clear bx103
 have bx119 := bx104.gr g107 (fun h => by injection h; omega)
 clear bx104
 clear bx105 g107
 refine At.done rfl ?_
 refine t_n ?_
 have f120 := f109.sub (r := [(1, .pointer (some ⟨w73.heap.size, 0, none⟩))]) ⟨rfl, trivial⟩
 clear f109
 refine wp_seq (cut (fun a_ w_ => ∃ (ss : List Int) (ms : List Int) (b_123 : Nat) (A_121 : Option Addr) (c_122 : Nat), (Frm 41 a_ [(3, .slice (A_121) ms.length (c_122)), (2, .pointer (some ⟨b_123, 0, none⟩))]) ∧ (Ext w w_) ∧ (RdT w_ 0 w.heap.size) ∧ (Bx w_ (w.heap.size) [.int .i64 (0), .int .i64 (1), .int .i64 (1), .int .i64 (0)] 3) ∧ (Bx w_ (w4.heap.size) [.int .i64 (0), .int .i64 (0), .int .i64 (0), .int .i64 (0)] 3) ∧ (Bx w_ (w13.heap.size) [.int .i64 (0), .int .i64 (1)] 3) ∧ (Bx w_ (w23.heap.size) [.int .i64 (2)] 3) ∧ (Bx w_ (w34.heap.size) [.int .i64 (0), .int .i64 (3)] 3) ∧ (Bx w_ (w46.heap.size) [.int .i64 (3)] 3) ∧ (Bx w_ (w59.heap.size) [.slice (some ⟨w13.heap.size, 0, none⟩) 2 2, .slice (some ⟨w23.heap.size, 0, none⟩) 1 1, .slice (some ⟨w34.heap.size, 0, none⟩) 2 2, .slice (some ⟨w46.heap.size, 0, none⟩) 1 1] 22) ∧ (Bx w_ (w73.heap.size) [.slice (some ⟨w.heap.size, 0, none⟩) 4 4, .slice (some ⟨w4.heap.size, 0, none⟩) 4 4, .slice (some ⟨w59.heap.size, 0, none⟩) 4 4] 25) ∧ (OwnR w_ (Sx (w106.heap.size) [some (b_123)]) (A_121) (c_122) 3 (ms : List Int)) ∧ (Bx w_ (b_123) ((ss : List Int).map wV) 28) ∧ (w106.heap.size ≤ b_123) ∧ (w106.heap.size ≤ w_.heap.size) ∧ (AttractT exG ([15, 0, 0, 0] : List Int) 0 ([4, 0, 0, 0] : List Int) ss ms)) ?_ ?_)
 ·obtain ⟨Cs124, hCs125⟩ : ∃ c : List (Addr × Value), c = [(⟨w73.heap.size, 0, none⟩, (.slice (some ⟨w.heap.size, 0, none⟩) 4 4)), (⟨w73.heap.size, 1, none⟩, (.slice (some ⟨w4.heap.size, 0, none⟩) 4 4)), (⟨w73.heap.size, 2, none⟩, (.slice (some ⟨w59.heap.size, 0, none⟩) 4 4))] := ⟨_, rfl⟩
  have hS126 : HoldsC Cs124 w106 := by rw [hCs125]; exact ⟨(bx108.cell (i := 0) rfl), (bx108.cell (i := 1) rfl), (bx108.cell (i := 2) rfl), trivial⟩
  refine AtH.start Cs124 11 #[false, false, false, false, false, false, false, false, false, false, false] (by kernel_rfl) rfl rfl (fun w128 hw129 => ?_)
  have g127 := gr_drew hw129
  have hS130 := hS126.gr g127
  have szw128 := g127.size
  have e131 := e111.gr g127 no_row
  clear e111
  have r132 := r112.gr g127 (fun _ h => by cases h)
  clear r112
  have bx133 := bx113.gr g127 (by simp)
  clear bx113
  have bx134 := bx114.gr g127 (by simp)
  clear bx114
  have bx135 := bx115.gr g127 (by simp)
  clear bx115
  have bx136 := bx116.gr g127 (by simp)
  clear bx116
  have bx137 := bx117.gr g127 (by simp)
  clear bx117
  have bx138 := bx118.gr g127 (by simp)
  clear bx118
  have bx139 := bx119.gr g127 (by simp)
  clear bx119
  have bx140 := bx108.gr g127 (by simp)
  clear bx108
  clear g127 hw129 hS126
  refine AtH.rd (by kernel_rfl) (fun d v c a w h => by cases d <;> exact h) hS130 [0] [[.ld (.slice (some ⟨w.heap.size, 0, none⟩) 4 4), .ld (.slice (some ⟨w4.heap.size, 0, none⟩) 4 4), .ld (.slice (some ⟨w59.heap.size, 0, none⟩) 4 4)]] [(13, .agg #[.slice (some ⟨w.heap.size, 0, none⟩) 4 4, .slice (some ⟨w4.heap.size, 0, none⟩) 4 4, .slice (some ⟨w59.heap.size, 0, none⟩) 4 4])] #[true, false, false, false, false, false, false, false, false, false, false] [(∃ j_ : Nat, Cs124[j_]? = some (⟨w73.heap.size, 0, none⟩, (.slice (some ⟨w.heap.size, 0, none⟩) 4 4))), (∃ j_ : Nat, Cs124[j_]? = some (⟨w73.heap.size, 1, none⟩, (.slice (some ⟨w4.heap.size, 0, none⟩) 4 4))), (∃ j_ : Nat, Cs124[j_]? = some (⟨w73.heap.size, 2, none⟩, (.slice (some ⟨w59.heap.size, 0, none⟩) 4 4)))] 10 f120 (by kernel_rfl) ⟨⟨0, by rw [hCs125]; rfl⟩, ⟨1, by rw [hCs125]; rfl⟩, ⟨2, by rw [hCs125]; rfl⟩, trivial⟩ (fun act142 f141 => ?_)
  clear f120
  refine AtH.all [1, 2, 8] 9 (by kernel_rfl) (by simp) ⟨?_, ?_, ?_, trivial⟩
  ·refine OneH.call f141 20 #[.int .i64 (4)] (some 14) #[true, true, false, false, false, false, false, false, false, false, false] (by kernel_rfl) (by kernel_rfl) ((full_any (n := 4) (by omega)).mono (R' := fun e w' => e = .returned (.agg ((([15, 0, 0, 0] : List Int) : List Int).map wV).toArray) ∧ Ext _ w') (fun e_ w_ h_ => by rw [show (fullW 4 : List Int) = ([15, 0, 0, 0] : List Int) from by decide +kernel] at h_; exact h_)) ?_
   rintro e_ w144 ⟨rfl, he⟩
   refine ⟨_, rfl, _, rfl, fun act145 f146 => ?_⟩
   clear f141
   have g147 := gr_ext he
   have hS143 := hS130.gr g147
   have szw144 := g147.size
   have e148 := e131.gr g147 no_row
   clear e131
   have r149 := r132.gr g147 (fun _ h => by cases h)
   clear r132
   have bx150 := bx133.gr g147 (by simp)
   clear bx133
   have bx151 := bx134.gr g147 (by simp)
   clear bx134
   have bx152 := bx135.gr g147 (by simp)
   clear bx135
   have bx153 := bx136.gr g147 (by simp)
   clear bx136
   have bx154 := bx137.gr g147 (by simp)
   clear bx137
   have bx155 := bx138.gr g147 (by simp)
   clear bx138
   have bx156 := bx139.gr g147 (by simp)
   clear bx139
   have bx157 := bx140.gr g147 (by simp)
   clear bx140
   clear g147 he
   refine ⟨hS143, ?_⟩
   refine AtH.all [2, 8] 8 (by kernel_rfl) (by simp) ⟨?_, ?_, trivial⟩
   ·refine OneH.seq f146 [[]] [(15, .slice (some ⟨w144.heap.size, 0, none⟩) 1 1)] (w144.alloc (.cells #[.int .i64 (2)] 3 (0, 0))) [] #[true, true, true, false, false, false, false, false, false, false, false] (by kernel_rfl) (by kernel_rfl) (by kernel_rfl) trivial (fun act162 w159 hw160 f161 => ?_)
    clear f146
    have g163 := gr_alloc hw160
    have hS166 := hS143.gr g163
    refine ⟨hS166, ?_⟩
    have szw159 := g163.size
    have e167 := e148.gr g163 no_row
    clear e148
    have r168 := r149.gr g163 (fun _ h => by cases h)
    clear r149
    have bx169 := bx150.gr g163 (by simp)
    clear bx150
    have bx170 := bx151.gr g163 (by simp)
    clear bx151
    have bx171 := bx152.gr g163 (by simp)
    clear bx152
    have bx172 := bx153.gr g163 (by simp)
    clear bx153
    have bx173 := bx154.gr g163 (by simp)
    clear bx154
    have bx174 := bx155.gr g163 (by simp)
    clear bx155
    have bx175 := bx156.gr g163 (by simp)
    clear bx156
    have bx176 := bx157.gr g163 (by simp)
    clear bx157
    have bx165 : Bx w159 (w144.heap.size) [.int .i64 (2)] 3 := Bx.new hw160
    have := bx165.lt
    clear g163 hw160
    refine AtH.all [3, 8] 7 (by kernel_rfl) (by simp) ⟨?_, ?_, trivial⟩
    ·refine OneH.call f161 24 #[.slice (some ⟨w144.heap.size, 0, none⟩) 1 1] (some 16) #[true, true, true, true, false, false, false, false, false, false, false] (by kernel_rfl) (by kernel_rfl) ((of_any (la := ([2] : List Int)) (Bx.rdI (l := ([2] : List Int)) bx165 rfl (by first | decide | exact Nat.le_of_ble_eq_true rfl))).mono (R' := fun e w' => e = .returned (.agg ((([4, 0, 0, 0] : List Int) : List Int).map wV).toArray) ∧ Ext _ w') (fun e_ w_ h_ => by rw [show (ofW ([2] : List Int) : List Int) = ([4, 0, 0, 0] : List Int) from by decide +kernel] at h_; exact h_)) ?_
     rintro e_ w178 ⟨rfl, he⟩
     refine ⟨_, rfl, _, rfl, fun act179 f180 => ?_⟩
     clear f161
     have g181 := gr_ext he
     have hS177 := hS166.gr g181
     have szw178 := g181.size
     have e182 := e167.gr g181 no_row
     clear e167
     have r183 := r168.gr g181 (fun _ h => by cases h)
     clear r168
     have bx184 := bx169.gr g181 (by simp)
     clear bx169
     have bx185 := bx170.gr g181 (by simp)
     clear bx170
     have bx186 := bx171.gr g181 (by simp)
     clear bx171
     have bx187 := bx172.gr g181 (by simp)
     clear bx172
     have bx188 := bx173.gr g181 (by simp)
     clear bx173
     have bx189 := bx174.gr g181 (by simp)
     clear bx174
     have bx190 := bx175.gr g181 (by simp)
     clear bx175
     have bx191 := bx176.gr g181 (by simp)
     clear bx176
     have bx192 := bx165.gr g181 (by simp)
     clear bx165
     clear g181 he
     refine ⟨hS177, ?_⟩
     refine AtH.all [4, 8] 6 (by kernel_rfl) (by simp) ⟨?_, ?_, trivial⟩
     ·refine OneH.call f180 12 #[.agg #[.slice (some ⟨w.heap.size, 0, none⟩) 4 4, .slice (some ⟨w4.heap.size, 0, none⟩) 4 4, .slice (some ⟨w59.heap.size, 0, none⟩) 4 4], .agg ((([15, 0, 0, 0] : List Int) : List Int).map wV).toArray, .int .i64 (0), .agg ((([4, 0, 0, 0] : List Int) : List Int).map wV).toArray] (some 17) #[true, true, true, true, true, false, false, false, false, false, false] (by kernel_rfl) (by kernel_rfl) (attract_any (g := exG) (s := ([15, 0, 0, 0] : List Int)) (t := ([4, 0, 0, 0] : List Int)) (p := 0) (RdG.mk (G := exG) (Bx.rdI (l := ([0, 1, 1, 0] : List Int)) bx184 rfl (by first | decide | exact Nat.le_of_ble_eq_true rfl)) (Bx.rdI (l := ([0, 0, 0, 0] : List Int)) bx185 rfl (by first | decide | exact Nat.le_of_ble_eq_true rfl)) (Bx.rdII (ls := ([([0, 1] : List Int), ([2] : List Int), ([0, 3] : List Int), ([3] : List Int)] : List (List Int))) bx190 ⟨⟨_, _, rfl, (by decide), (Bx.rdI (l := ([0, 1] : List Int)) bx186 rfl (by first | decide | exact Nat.le_of_ble_eq_true rfl))⟩, ⟨_, _, rfl, (by decide), (Bx.rdI (l := ([2] : List Int)) bx187 rfl (by first | decide | exact Nat.le_of_ble_eq_true rfl))⟩, ⟨_, _, rfl, (by decide), (Bx.rdI (l := ([0, 3] : List Int)) bx188 rfl (by first | decide | exact Nat.le_of_ble_eq_true rfl))⟩, ⟨_, _, rfl, (by decide), (Bx.rdI (l := ([3] : List Int)) bx189 rfl (by first | decide | exact Nat.le_of_ble_eq_true rfl))⟩, trivial⟩ (by decide)) (by decide) (by decide) (by decide)) (okW_lit ⟨by omega, by omega⟩ ⟨by omega, by omega⟩ ⟨by omega, by omega⟩ ⟨by omega, by omega⟩) (okW_lit ⟨by omega, by omega⟩ ⟨by omega, by omega⟩ ⟨by omega, by omega⟩ ⟨by omega, by omega⟩) (r183.wide (Nat.zero_le _) (by omega))) ?_
      rintro e_ w198 ⟨A194, c195, ss, ms, rfl, he, ow196, hat⟩
      have hok_ss := att_ok hat
      have hl_ss := okLen hok_ss
      have hlm_ms := att_len hat
      obtain ⟨hs1, hs2, hs3, hs4⟩ := shown12 hat
      refine ⟨_, rfl, _, rfl, fun act199 f200 => ?_⟩
      clear f180
      have g201 := gr_ext he
      have hS193 := hS177.gr g201
      have szw198 := g201.size
      have e202 := e182.gr g201 no_row
      clear e182
      have r203 := r183.gr g201 (fun _ h => by cases h)
      clear r183
      have bx204 := bx184.gr g201 (by simp)
      clear bx184
      have bx205 := bx185.gr g201 (by simp)
      clear bx185
      have bx206 := bx186.gr g201 (by simp)
      clear bx186
      have bx207 := bx187.gr g201 (by simp)
      clear bx187
      have bx208 := bx188.gr g201 (by simp)
      clear bx188
      have bx209 := bx189.gr g201 (by simp)
      clear bx189
      have bx210 := bx190.gr g201 (by simp)
      clear bx190
      have bx211 := bx191.gr g201 (by simp)
      clear bx191
      have bx212 := bx192.gr g201 (by simp)
      clear bx192
      clear g201 he
      refine ⟨hS193, ?_⟩
      refine AtH.rd (by kernel_rfl) (fun d v c a w h => by cases d <;> exact h) hS193 [5] [[]] [(12, .tuple #[.agg ((ss : List Int).map wV).toArray, .slice A194 ms.length c195])] #[true, true, true, true, true, true, false, false, false, false, false] [] 5 f200 (by kernel_rfl) trivial (fun act214 f213 => ?_)
      clear f200
      refine AtH.rd (by kernel_rfl) (fun d v c a w h => by cases d <;> exact h) hS193 [6] [[]] [(18, .agg ((ss : List Int).map wV).toArray)] #[true, true, true, true, true, true, true, false, false, false, false] [] 4 f213 (by kernel_rfl) trivial (fun act216 f215 => ?_)
      clear f213
      refine AtH.rd (by kernel_rfl) (fun d v c a w h => by cases d <;> exact h) hS193 [7] [[]] [(19, .slice A194 ms.length c195)] #[true, true, true, true, true, true, true, true, false, false, false] [] 3 f215 (by kernel_rfl) trivial (fun act218 f217 => ?_)
      clear f215
      refine AtH.all [8] 2 (by kernel_rfl) (by simp) ⟨?_, trivial⟩
      refine OneH.seq f217 [[]] [(2, .pointer (some ⟨w198.heap.size, 0, none⟩))] (w198.alloc (.cells ((List.replicate 4 (0 : Int) : List Int).map wV).toArray 28 (0, 0))) [] #[true, true, true, true, true, true, true, true, true, false, false] (by kernel_rfl) (by kernel_rfl) (by kernel_rfl) trivial (fun act223 w220 hw221 f222 => ?_)
      clear f217
      have g224 := gr_alloc hw221
      have hS219 := hS193.gr g224
      have szw220 := g224.size
      have e226 := e202.gr g224 no_row
      clear e202
      have r227 := r203.gr g224 (fun _ h => by cases h)
      clear r203
      have bx228 := bx204.gr g224 (by simp)
      clear bx204
      have bx229 := bx205.gr g224 (by simp)
      clear bx205
      have bx230 := bx206.gr g224 (by simp)
      clear bx206
      have bx231 := bx207.gr g224 (by simp)
      clear bx207
      have bx232 := bx208.gr g224 (by simp)
      clear bx208
      have bx233 := bx209.gr g224 (by simp)
      clear bx209
      have bx234 := bx210.gr g224 (by simp)
      clear bx210
      have bx235 := bx211.gr g224 (by simp)
      clear bx211
      have bx236 := bx212.gr g224 (by simp)
      clear bx212
      have ow237 : OwnR w220 (Sx (w178.heap.size) [some (w198.heap.size)]) A194 c195 3 (ms : List Int) := ow196.grA g224 (fun _ _ h => by cases h) (fun k hk hs => ⟨(fun e => by injection e; omega), hs⟩)
      clear ow196
      have bx238 : Bx w220 (w198.heap.size) ((List.replicate 4 (0 : Int) : List Int).map wV) 28 := Bx.new hw221
      have := bx238.lt
      clear g224 hw221
      refine ⟨hS219, ?_⟩
      refine AtH.all [9] 1 (by kernel_rfl) (by simp) ⟨?_, trivial⟩
      refine OneH.act f222 #[true, true, true, true, true, true, true, true, true, true, false] (by kernel_rfl) (storeBlk (t := 28) (b := w198.heap.size) (n := 4) (cs' := ((ss : List Int).map wV)) (by kernel_rfl) (by kernel_rfl) (by simp only [List.length_map, List.length_set, List.length_replicate, List.length_cons, List.length_nil]; first | done | assumption | exact from_len _ | exact of_len _ | exact ofZ_len _ | exact (ofW_ok _).1 | exact (fullW_W _).1 | exact (okW_with (by assumption)).1 | exact (okW_less (by assumption)).1 | exact put_len (from_len _) | exact orD_len _ _ | exact andD_len _ _ | exact minusD_len _ _ | exact fullD_len _ | (refine okLen ?_; (repeat (first | assumption | exact ofW_ok _ | exact fullW_W _ | apply okW_with | apply okW_less | refine okW_orS ?_ ?_ | refine okW_andS ?_ ?_ | refine okW_minusS ?_ ?_)); done) | omega | rfl) oneW_ ((show ((ss : List Int).map wV).length = 4 from (by simp only [List.length_map, List.length_set, List.length_replicate, List.length_cons, List.length_nil]; first | done | assumption | exact from_len _ | exact of_len _ | exact ofZ_len _ | exact (ofW_ok _).1 | exact (fullW_W _).1 | exact (okW_with (by assumption)).1 | exact (okW_less (by assumption)).1 | exact put_len (from_len _) | exact orD_len _ _ | exact andD_len _ _ | exact minusD_len _ _ | exact fullD_len _ | (refine okLen ?_; (repeat (first | assumption | exact ofW_ok _ | exact fullW_W _ | apply okW_with | apply okW_less | refine okW_orS ?_ ?_ | refine okW_andS ?_ ?_ | refine okW_minusS ?_ ?_)); done) | omega | rfl)).trans (show ((List.replicate 4 (0 : Int) : List Int).map wV).length = 4 from (by simp only [List.length_map, List.length_set, List.length_replicate, List.length_cons, List.length_nil]; first | done | assumption | exact from_len _ | exact of_len _ | exact ofZ_len _ | exact (ofW_ok _).1 | exact (fullW_W _).1 | exact (okW_with (by assumption)).1 | exact (okW_less (by assumption)).1 | exact put_len (from_len _) | exact orD_len _ _ | exact andD_len _ _ | exact minusD_len _ _ | exact fullD_len _ | (refine okLen ?_; (repeat (first | assumption | exact ofW_ok _ | exact fullW_W _ | apply okW_with | apply okW_less | refine okW_orS ?_ ?_ | refine okW_andS ?_ ?_ | refine okW_minusS ?_ ?_)); done) | omega | rfl)).symm) bx238) ?_
      rintro d_ v_ w240 ⟨rfl, g241, bx242⟩
      have hS245 := hS219.gr' g241 (by rw [hCs125]; exact ⟨(by simp only [add_block]; omega), (by simp only [add_block]; omega), (by simp only [add_block]; omega), trivial⟩)
      refine ⟨_, rfl, fun act244 f243 => ⟨hS245, ?_⟩⟩
      clear f222
      have szw240 := g241.size
      have e246 := e226.gr g241 (fun k h => by injection h; omega)
      clear e226
      have r247 := r227.gr g241 (fun k h => by injection h; omega)
      clear r227
      have bx248 := bx228.gr g241 (fun h => by injection h; omega)
      clear bx228
      have bx249 := bx229.gr g241 (fun h => by injection h; omega)
      clear bx229
      have bx250 := bx230.gr g241 (fun h => by injection h; omega)
      clear bx230
      have bx251 := bx231.gr g241 (fun h => by injection h; omega)
      clear bx231
      have bx252 := bx232.gr g241 (fun h => by injection h; omega)
      clear bx232
      have bx253 := bx233.gr g241 (fun h => by injection h; omega)
      clear bx233
      have bx254 := bx234.gr g241 (fun h => by injection h; omega)
      clear bx234
      have bx255 := bx235.gr g241 (fun h => by injection h; omega)
      clear bx235
      have bx256 := bx236.gr g241 (fun h => by injection h; omega)
      clear bx236
      have ow257 := ow237.gr g241 (fun k hk => hk.1)
      clear ow237
      clear bx238 g241
      refine AtH.rd (by kernel_rfl) (fun d v c a w h => by cases d <;> exact h) hS245 [10] [[]] [(3, .slice A194 ms.length c195)] #[true, true, true, true, true, true, true, true, true, true, true] [] 0 f243 (by kernel_rfl) trivial (fun act259 f258 => ?_)
      clear f243
      refine AtH.done (by kernel_rfl) ?_
      clear hS245
      refine t_n ?_
      have f260 := f258.sub (r := [(3, .slice A194 ms.length c195), (2, .pointer (some ⟨w198.heap.size, 0, none⟩))]) ⟨rfl, rfl, trivial⟩
      exact ⟨ss, ms, w198.heap.size, A194, c195, f260, e246, r247, bx248, bx249, bx250, bx251, bx252, bx253, bx254, bx255, (ow257.imp (fun g _ hs => ⟨hs.1, (by have := Sx_base hs; show w106.heap.size ≤ g; omega)⟩)), bx242, (by omega), (by omega), hat⟩
     ·refine OneH.seq f180 [[]] [(2, .pointer (some ⟨w178.heap.size, 0, none⟩))] (w178.alloc (.cells ((List.replicate 4 (0 : Int) : List Int).map wV).toArray 28 (0, 0))) [] #[true, true, true, true, false, false, false, false, true, false, false] (by kernel_rfl) (by kernel_rfl) (by kernel_rfl) trivial (fun act265 w262 hw263 f264 => ?_)
      clear f180
      have g266 := gr_alloc hw263
      have hS261 := hS177.gr g266
      have szw262 := g266.size
      have e268 := e182.gr g266 no_row
      clear e182
      have r269 := r183.gr g266 (fun _ h => by cases h)
      clear r183
      have bx270 := bx184.gr g266 (by simp)
      clear bx184
      have bx271 := bx185.gr g266 (by simp)
      clear bx185
      have bx272 := bx186.gr g266 (by simp)
      clear bx186
      have bx273 := bx187.gr g266 (by simp)
      clear bx187
      have bx274 := bx188.gr g266 (by simp)
      clear bx188
      have bx275 := bx189.gr g266 (by simp)
      clear bx189
      have bx276 := bx190.gr g266 (by simp)
      clear bx190
      have bx277 := bx191.gr g266 (by simp)
      clear bx191
      have bx278 := bx192.gr g266 (by simp)
      clear bx192
      have bx279 : Bx w262 (w178.heap.size) ((List.replicate 4 (0 : Int) : List Int).map wV) 28 := Bx.new hw263
      have := bx279.lt
      clear g266 hw263
      refine ⟨hS261, ?_⟩
      refine AtH.all [4] 5 (by kernel_rfl) (by simp) ⟨?_, trivial⟩
      refine OneH.call f264 12 #[.agg #[.slice (some ⟨w.heap.size, 0, none⟩) 4 4, .slice (some ⟨w4.heap.size, 0, none⟩) 4 4, .slice (some ⟨w59.heap.size, 0, none⟩) 4 4], .agg ((([15, 0, 0, 0] : List Int) : List Int).map wV).toArray, .int .i64 (0), .agg ((([4, 0, 0, 0] : List Int) : List Int).map wV).toArray] (some 17) #[true, true, true, true, true, false, false, false, true, false, false] (by kernel_rfl) (by kernel_rfl) (attract_any (g := exG) (s := ([15, 0, 0, 0] : List Int)) (t := ([4, 0, 0, 0] : List Int)) (p := 0) (RdG.mk (G := exG) (Bx.rdI (l := ([0, 1, 1, 0] : List Int)) bx270 rfl (by first | decide | exact Nat.le_of_ble_eq_true rfl)) (Bx.rdI (l := ([0, 0, 0, 0] : List Int)) bx271 rfl (by first | decide | exact Nat.le_of_ble_eq_true rfl)) (Bx.rdII (ls := ([([0, 1] : List Int), ([2] : List Int), ([0, 3] : List Int), ([3] : List Int)] : List (List Int))) bx276 ⟨⟨_, _, rfl, (by decide), (Bx.rdI (l := ([0, 1] : List Int)) bx272 rfl (by first | decide | exact Nat.le_of_ble_eq_true rfl))⟩, ⟨_, _, rfl, (by decide), (Bx.rdI (l := ([2] : List Int)) bx273 rfl (by first | decide | exact Nat.le_of_ble_eq_true rfl))⟩, ⟨_, _, rfl, (by decide), (Bx.rdI (l := ([0, 3] : List Int)) bx274 rfl (by first | decide | exact Nat.le_of_ble_eq_true rfl))⟩, ⟨_, _, rfl, (by decide), (Bx.rdI (l := ([3] : List Int)) bx275 rfl (by first | decide | exact Nat.le_of_ble_eq_true rfl))⟩, trivial⟩ (by decide)) (by decide) (by decide) (by decide)) (okW_lit ⟨by omega, by omega⟩ ⟨by omega, by omega⟩ ⟨by omega, by omega⟩ ⟨by omega, by omega⟩) (okW_lit ⟨by omega, by omega⟩ ⟨by omega, by omega⟩ ⟨by omega, by omega⟩ ⟨by omega, by omega⟩) (r269.wide (Nat.zero_le _) (by omega))) ?_
      rintro e_ w285 ⟨A281, c282, ss, ms, rfl, he, ow283, hat⟩
      have hok_ss := att_ok hat
      have hl_ss := okLen hok_ss
      have hlm_ms := att_len hat
      obtain ⟨hs1, hs2, hs3, hs4⟩ := shown12 hat
      refine ⟨_, rfl, _, rfl, fun act286 f287 => ?_⟩
      clear f264
      have g288 := gr_ext he
      have hS280 := hS261.gr g288
      have szw285 := g288.size
      have e289 := e268.gr g288 no_row
      clear e268
      have r290 := r269.gr g288 (fun _ h => by cases h)
      clear r269
      have bx291 := bx270.gr g288 (by simp)
      clear bx270
      have bx292 := bx271.gr g288 (by simp)
      clear bx271
      have bx293 := bx272.gr g288 (by simp)
      clear bx272
      have bx294 := bx273.gr g288 (by simp)
      clear bx273
      have bx295 := bx274.gr g288 (by simp)
      clear bx274
      have bx296 := bx275.gr g288 (by simp)
      clear bx275
      have bx297 := bx276.gr g288 (by simp)
      clear bx276
      have bx298 := bx277.gr g288 (by simp)
      clear bx277
      have bx299 := bx278.gr g288 (by simp)
      clear bx278
      have bx300 := bx279.gr g288 (by simp)
      clear bx279
      clear g288 he
      refine ⟨hS280, ?_⟩
      refine AtH.rd (by kernel_rfl) (fun d v c a w h => by cases d <;> exact h) hS280 [5] [[]] [(12, .tuple #[.agg ((ss : List Int).map wV).toArray, .slice A281 ms.length c282])] #[true, true, true, true, true, true, false, false, true, false, false] [] 4 f287 (by kernel_rfl) trivial (fun act302 f301 => ?_)
      clear f287
      refine AtH.rd (by kernel_rfl) (fun d v c a w h => by cases d <;> exact h) hS280 [6] [[]] [(18, .agg ((ss : List Int).map wV).toArray)] #[true, true, true, true, true, true, true, false, true, false, false] [] 3 f301 (by kernel_rfl) trivial (fun act304 f303 => ?_)
      clear f301
      refine AtH.rd (by kernel_rfl) (fun d v c a w h => by cases d <;> exact h) hS280 [7] [[]] [(19, .slice A281 ms.length c282)] #[true, true, true, true, true, true, true, true, true, false, false] [] 2 f303 (by kernel_rfl) trivial (fun act306 f305 => ?_)
      clear f303
      refine AtH.all [9] 1 (by kernel_rfl) (by simp) ⟨?_, trivial⟩
      refine OneH.act f305 #[true, true, true, true, true, true, true, true, true, true, false] (by kernel_rfl) (storeBlk (t := 28) (b := w178.heap.size) (n := 4) (cs' := ((ss : List Int).map wV)) (by kernel_rfl) (by kernel_rfl) (by simp only [List.length_map, List.length_set, List.length_replicate, List.length_cons, List.length_nil]; first | done | assumption | exact from_len _ | exact of_len _ | exact ofZ_len _ | exact (ofW_ok _).1 | exact (fullW_W _).1 | exact (okW_with (by assumption)).1 | exact (okW_less (by assumption)).1 | exact put_len (from_len _) | exact orD_len _ _ | exact andD_len _ _ | exact minusD_len _ _ | exact fullD_len _ | (refine okLen ?_; (repeat (first | assumption | exact ofW_ok _ | exact fullW_W _ | apply okW_with | apply okW_less | refine okW_orS ?_ ?_ | refine okW_andS ?_ ?_ | refine okW_minusS ?_ ?_)); done) | omega | rfl) oneW_ ((show ((ss : List Int).map wV).length = 4 from (by simp only [List.length_map, List.length_set, List.length_replicate, List.length_cons, List.length_nil]; first | done | assumption | exact from_len _ | exact of_len _ | exact ofZ_len _ | exact (ofW_ok _).1 | exact (fullW_W _).1 | exact (okW_with (by assumption)).1 | exact (okW_less (by assumption)).1 | exact put_len (from_len _) | exact orD_len _ _ | exact andD_len _ _ | exact minusD_len _ _ | exact fullD_len _ | (refine okLen ?_; (repeat (first | assumption | exact ofW_ok _ | exact fullW_W _ | apply okW_with | apply okW_less | refine okW_orS ?_ ?_ | refine okW_andS ?_ ?_ | refine okW_minusS ?_ ?_)); done) | omega | rfl)).trans (show ((List.replicate 4 (0 : Int) : List Int).map wV).length = 4 from (by simp only [List.length_map, List.length_set, List.length_replicate, List.length_cons, List.length_nil]; first | done | assumption | exact from_len _ | exact of_len _ | exact ofZ_len _ | exact (ofW_ok _).1 | exact (fullW_W _).1 | exact (okW_with (by assumption)).1 | exact (okW_less (by assumption)).1 | exact put_len (from_len _) | exact orD_len _ _ | exact andD_len _ _ | exact minusD_len _ _ | exact fullD_len _ | (refine okLen ?_; (repeat (first | assumption | exact ofW_ok _ | exact fullW_W _ | apply okW_with | apply okW_less | refine okW_orS ?_ ?_ | refine okW_andS ?_ ?_ | refine okW_minusS ?_ ?_)); done) | omega | rfl)).symm) bx300) ?_
      rintro d_ v_ w308 ⟨rfl, g309, bx310⟩
      have hS313 := hS280.gr' g309 (by rw [hCs125]; exact ⟨(by simp only [add_block]; omega), (by simp only [add_block]; omega), (by simp only [add_block]; omega), trivial⟩)
      refine ⟨_, rfl, fun act312 f311 => ⟨hS313, ?_⟩⟩
      clear f305
      have szw308 := g309.size
      have e314 := e289.gr g309 (fun k h => by injection h; omega)
      clear e289
      have r315 := r290.gr g309 (fun k h => by injection h; omega)
      clear r290
      have bx316 := bx291.gr g309 (fun h => by injection h; omega)
      clear bx291
      have bx317 := bx292.gr g309 (fun h => by injection h; omega)
      clear bx292
      have bx318 := bx293.gr g309 (fun h => by injection h; omega)
      clear bx293
      have bx319 := bx294.gr g309 (fun h => by injection h; omega)
      clear bx294
      have bx320 := bx295.gr g309 (fun h => by injection h; omega)
      clear bx295
      have bx321 := bx296.gr g309 (fun h => by injection h; omega)
      clear bx296
      have bx322 := bx297.gr g309 (fun h => by injection h; omega)
      clear bx297
      have bx323 := bx298.gr g309 (fun h => by injection h; omega)
      clear bx298
      have bx324 := bx299.gr g309 (fun h => by injection h; omega)
      clear bx299
      have ow325 := ow283.gr g309 (fun k hk e => by have := Sx_base hk; injection e; omega)
      clear ow283
      clear bx300 g309
      refine AtH.rd (by kernel_rfl) (fun d v c a w h => by cases d <;> exact h) hS313 [10] [[]] [(3, .slice A281 ms.length c282)] #[true, true, true, true, true, true, true, true, true, true, true] [] 0 f311 (by kernel_rfl) trivial (fun act327 f326 => ?_)
      clear f311
      refine AtH.done (by kernel_rfl) ?_
      clear hS313
      refine t_n ?_
      have f328 := f326.sub (r := [(3, .slice A281 ms.length c282), (2, .pointer (some ⟨w178.heap.size, 0, none⟩))]) ⟨rfl, rfl, trivial⟩
      exact ⟨ss, ms, w178.heap.size, A281, c282, f328, e314, r315, bx316, bx317, bx318, bx319, bx320, bx321, bx322, bx323, (ow325.imp (fun g _ hs => ⟨(fun e => by have := Sx_base hs; injection e; omega), (by have := Sx_base hs; show w106.heap.size ≤ g; omega)⟩)), bx310, (by omega), (by omega), hat⟩
    ·refine OneH.seq f161 [[]] [(2, .pointer (some ⟨w159.heap.size, 0, none⟩))] (w159.alloc (.cells ((List.replicate 4 (0 : Int) : List Int).map wV).toArray 28 (0, 0))) [] #[true, true, true, false, false, false, false, false, true, false, false] (by kernel_rfl) (by kernel_rfl) (by kernel_rfl) trivial (fun act333 w330 hw331 f332 => ?_)
     clear f161
     have g334 := gr_alloc hw331
     have hS329 := hS166.gr g334
     have szw330 := g334.size
     have e336 := e167.gr g334 no_row
     clear e167
     have r337 := r168.gr g334 (fun _ h => by cases h)
     clear r168
     have bx338 := bx169.gr g334 (by simp)
     clear bx169
     have bx339 := bx170.gr g334 (by simp)
     clear bx170
     have bx340 := bx171.gr g334 (by simp)
     clear bx171
     have bx341 := bx172.gr g334 (by simp)
     clear bx172
     have bx342 := bx173.gr g334 (by simp)
     clear bx173
     have bx343 := bx174.gr g334 (by simp)
     clear bx174
     have bx344 := bx175.gr g334 (by simp)
     clear bx175
     have bx345 := bx176.gr g334 (by simp)
     clear bx176
     have bx346 := bx165.gr g334 (by simp)
     clear bx165
     have bx347 : Bx w330 (w159.heap.size) ((List.replicate 4 (0 : Int) : List Int).map wV) 28 := Bx.new hw331
     have := bx347.lt
     clear g334 hw331
     refine ⟨hS329, ?_⟩
     refine AtH.all [3] 6 (by kernel_rfl) (by simp) ⟨?_, trivial⟩
     refine OneH.call f332 24 #[.slice (some ⟨w144.heap.size, 0, none⟩) 1 1] (some 16) #[true, true, true, true, false, false, false, false, true, false, false] (by kernel_rfl) (by kernel_rfl) ((of_any (la := ([2] : List Int)) (Bx.rdI (l := ([2] : List Int)) bx346 rfl (by first | decide | exact Nat.le_of_ble_eq_true rfl))).mono (R' := fun e w' => e = .returned (.agg ((([4, 0, 0, 0] : List Int) : List Int).map wV).toArray) ∧ Ext _ w') (fun e_ w_ h_ => by rw [show (ofW ([2] : List Int) : List Int) = ([4, 0, 0, 0] : List Int) from by decide +kernel] at h_; exact h_)) ?_
     rintro e_ w349 ⟨rfl, he⟩
     refine ⟨_, rfl, _, rfl, fun act350 f351 => ?_⟩
     clear f332
     have g352 := gr_ext he
     have hS348 := hS329.gr g352
     have szw349 := g352.size
     have e353 := e336.gr g352 no_row
     clear e336
     have r354 := r337.gr g352 (fun _ h => by cases h)
     clear r337
     have bx355 := bx338.gr g352 (by simp)
     clear bx338
     have bx356 := bx339.gr g352 (by simp)
     clear bx339
     have bx357 := bx340.gr g352 (by simp)
     clear bx340
     have bx358 := bx341.gr g352 (by simp)
     clear bx341
     have bx359 := bx342.gr g352 (by simp)
     clear bx342
     have bx360 := bx343.gr g352 (by simp)
     clear bx343
     have bx361 := bx344.gr g352 (by simp)
     clear bx344
     have bx362 := bx345.gr g352 (by simp)
     clear bx345
     have bx363 := bx346.gr g352 (by simp)
     clear bx346
     have bx364 := bx347.gr g352 (by simp)
     clear bx347
     clear g352 he
     refine ⟨hS348, ?_⟩
     refine AtH.all [4] 5 (by kernel_rfl) (by simp) ⟨?_, trivial⟩
     refine OneH.call f351 12 #[.agg #[.slice (some ⟨w.heap.size, 0, none⟩) 4 4, .slice (some ⟨w4.heap.size, 0, none⟩) 4 4, .slice (some ⟨w59.heap.size, 0, none⟩) 4 4], .agg ((([15, 0, 0, 0] : List Int) : List Int).map wV).toArray, .int .i64 (0), .agg ((([4, 0, 0, 0] : List Int) : List Int).map wV).toArray] (some 17) #[true, true, true, true, true, false, false, false, true, false, false] (by kernel_rfl) (by kernel_rfl) (attract_any (g := exG) (s := ([15, 0, 0, 0] : List Int)) (t := ([4, 0, 0, 0] : List Int)) (p := 0) (RdG.mk (G := exG) (Bx.rdI (l := ([0, 1, 1, 0] : List Int)) bx355 rfl (by first | decide | exact Nat.le_of_ble_eq_true rfl)) (Bx.rdI (l := ([0, 0, 0, 0] : List Int)) bx356 rfl (by first | decide | exact Nat.le_of_ble_eq_true rfl)) (Bx.rdII (ls := ([([0, 1] : List Int), ([2] : List Int), ([0, 3] : List Int), ([3] : List Int)] : List (List Int))) bx361 ⟨⟨_, _, rfl, (by decide), (Bx.rdI (l := ([0, 1] : List Int)) bx357 rfl (by first | decide | exact Nat.le_of_ble_eq_true rfl))⟩, ⟨_, _, rfl, (by decide), (Bx.rdI (l := ([2] : List Int)) bx358 rfl (by first | decide | exact Nat.le_of_ble_eq_true rfl))⟩, ⟨_, _, rfl, (by decide), (Bx.rdI (l := ([0, 3] : List Int)) bx359 rfl (by first | decide | exact Nat.le_of_ble_eq_true rfl))⟩, ⟨_, _, rfl, (by decide), (Bx.rdI (l := ([3] : List Int)) bx360 rfl (by first | decide | exact Nat.le_of_ble_eq_true rfl))⟩, trivial⟩ (by decide)) (by decide) (by decide) (by decide)) (okW_lit ⟨by omega, by omega⟩ ⟨by omega, by omega⟩ ⟨by omega, by omega⟩ ⟨by omega, by omega⟩) (okW_lit ⟨by omega, by omega⟩ ⟨by omega, by omega⟩ ⟨by omega, by omega⟩ ⟨by omega, by omega⟩) (r354.wide (Nat.zero_le _) (by omega))) ?_
     rintro e_ w370 ⟨A366, c367, ss, ms, rfl, he, ow368, hat⟩
     have hok_ss := att_ok hat
     have hl_ss := okLen hok_ss
     have hlm_ms := att_len hat
     obtain ⟨hs1, hs2, hs3, hs4⟩ := shown12 hat
     refine ⟨_, rfl, _, rfl, fun act371 f372 => ?_⟩
     clear f351
     have g373 := gr_ext he
     have hS365 := hS348.gr g373
     have szw370 := g373.size
     have e374 := e353.gr g373 no_row
     clear e353
     have r375 := r354.gr g373 (fun _ h => by cases h)
     clear r354
     have bx376 := bx355.gr g373 (by simp)
     clear bx355
     have bx377 := bx356.gr g373 (by simp)
     clear bx356
     have bx378 := bx357.gr g373 (by simp)
     clear bx357
     have bx379 := bx358.gr g373 (by simp)
     clear bx358
     have bx380 := bx359.gr g373 (by simp)
     clear bx359
     have bx381 := bx360.gr g373 (by simp)
     clear bx360
     have bx382 := bx361.gr g373 (by simp)
     clear bx361
     have bx383 := bx362.gr g373 (by simp)
     clear bx362
     have bx384 := bx363.gr g373 (by simp)
     clear bx363
     have bx385 := bx364.gr g373 (by simp)
     clear bx364
     clear g373 he
     refine ⟨hS365, ?_⟩
     refine AtH.rd (by kernel_rfl) (fun d v c a w h => by cases d <;> exact h) hS365 [5] [[]] [(12, .tuple #[.agg ((ss : List Int).map wV).toArray, .slice A366 ms.length c367])] #[true, true, true, true, true, true, false, false, true, false, false] [] 4 f372 (by kernel_rfl) trivial (fun act387 f386 => ?_)
     clear f372
     refine AtH.rd (by kernel_rfl) (fun d v c a w h => by cases d <;> exact h) hS365 [6] [[]] [(18, .agg ((ss : List Int).map wV).toArray)] #[true, true, true, true, true, true, true, false, true, false, false] [] 3 f386 (by kernel_rfl) trivial (fun act389 f388 => ?_)
     clear f386
     refine AtH.rd (by kernel_rfl) (fun d v c a w h => by cases d <;> exact h) hS365 [7] [[]] [(19, .slice A366 ms.length c367)] #[true, true, true, true, true, true, true, true, true, false, false] [] 2 f388 (by kernel_rfl) trivial (fun act391 f390 => ?_)
     clear f388
     refine AtH.all [9] 1 (by kernel_rfl) (by simp) ⟨?_, trivial⟩
     refine OneH.act f390 #[true, true, true, true, true, true, true, true, true, true, false] (by kernel_rfl) (storeBlk (t := 28) (b := w159.heap.size) (n := 4) (cs' := ((ss : List Int).map wV)) (by kernel_rfl) (by kernel_rfl) (by simp only [List.length_map, List.length_set, List.length_replicate, List.length_cons, List.length_nil]; first | done | assumption | exact from_len _ | exact of_len _ | exact ofZ_len _ | exact (ofW_ok _).1 | exact (fullW_W _).1 | exact (okW_with (by assumption)).1 | exact (okW_less (by assumption)).1 | exact put_len (from_len _) | exact orD_len _ _ | exact andD_len _ _ | exact minusD_len _ _ | exact fullD_len _ | (refine okLen ?_; (repeat (first | assumption | exact ofW_ok _ | exact fullW_W _ | apply okW_with | apply okW_less | refine okW_orS ?_ ?_ | refine okW_andS ?_ ?_ | refine okW_minusS ?_ ?_)); done) | omega | rfl) oneW_ ((show ((ss : List Int).map wV).length = 4 from (by simp only [List.length_map, List.length_set, List.length_replicate, List.length_cons, List.length_nil]; first | done | assumption | exact from_len _ | exact of_len _ | exact ofZ_len _ | exact (ofW_ok _).1 | exact (fullW_W _).1 | exact (okW_with (by assumption)).1 | exact (okW_less (by assumption)).1 | exact put_len (from_len _) | exact orD_len _ _ | exact andD_len _ _ | exact minusD_len _ _ | exact fullD_len _ | (refine okLen ?_; (repeat (first | assumption | exact ofW_ok _ | exact fullW_W _ | apply okW_with | apply okW_less | refine okW_orS ?_ ?_ | refine okW_andS ?_ ?_ | refine okW_minusS ?_ ?_)); done) | omega | rfl)).trans (show ((List.replicate 4 (0 : Int) : List Int).map wV).length = 4 from (by simp only [List.length_map, List.length_set, List.length_replicate, List.length_cons, List.length_nil]; first | done | assumption | exact from_len _ | exact of_len _ | exact ofZ_len _ | exact (ofW_ok _).1 | exact (fullW_W _).1 | exact (okW_with (by assumption)).1 | exact (okW_less (by assumption)).1 | exact put_len (from_len _) | exact orD_len _ _ | exact andD_len _ _ | exact minusD_len _ _ | exact fullD_len _ | (refine okLen ?_; (repeat (first | assumption | exact ofW_ok _ | exact fullW_W _ | apply okW_with | apply okW_less | refine okW_orS ?_ ?_ | refine okW_andS ?_ ?_ | refine okW_minusS ?_ ?_)); done) | omega | rfl)).symm) bx385) ?_
     rintro d_ v_ w393 ⟨rfl, g394, bx395⟩
     have hS398 := hS365.gr' g394 (by rw [hCs125]; exact ⟨(by simp only [add_block]; omega), (by simp only [add_block]; omega), (by simp only [add_block]; omega), trivial⟩)
     refine ⟨_, rfl, fun act397 f396 => ⟨hS398, ?_⟩⟩
     clear f390
     have szw393 := g394.size
     have e399 := e374.gr g394 (fun k h => by injection h; omega)
     clear e374
     have r400 := r375.gr g394 (fun k h => by injection h; omega)
     clear r375
     have bx401 := bx376.gr g394 (fun h => by injection h; omega)
     clear bx376
     have bx402 := bx377.gr g394 (fun h => by injection h; omega)
     clear bx377
     have bx403 := bx378.gr g394 (fun h => by injection h; omega)
     clear bx378
     have bx404 := bx379.gr g394 (fun h => by injection h; omega)
     clear bx379
     have bx405 := bx380.gr g394 (fun h => by injection h; omega)
     clear bx380
     have bx406 := bx381.gr g394 (fun h => by injection h; omega)
     clear bx381
     have bx407 := bx382.gr g394 (fun h => by injection h; omega)
     clear bx382
     have bx408 := bx383.gr g394 (fun h => by injection h; omega)
     clear bx383
     have bx409 := bx384.gr g394 (fun h => by injection h; omega)
     clear bx384
     have ow410 := ow368.gr g394 (fun k hk e => by have := Sx_base hk; injection e; omega)
     clear ow368
     clear bx385 g394
     refine AtH.rd (by kernel_rfl) (fun d v c a w h => by cases d <;> exact h) hS398 [10] [[]] [(3, .slice A366 ms.length c367)] #[true, true, true, true, true, true, true, true, true, true, true] [] 0 f396 (by kernel_rfl) trivial (fun act412 f411 => ?_)
     clear f396
     refine AtH.done (by kernel_rfl) ?_
     clear hS398
     refine t_n ?_
     have f413 := f411.sub (r := [(3, .slice A366 ms.length c367), (2, .pointer (some ⟨w159.heap.size, 0, none⟩))]) ⟨rfl, rfl, trivial⟩
     exact ⟨ss, ms, w159.heap.size, A366, c367, f413, e399, r400, bx401, bx402, bx403, bx404, bx405, bx406, bx407, bx408, (ow410.imp (fun g _ hs => ⟨(fun e => by have := Sx_base hs; injection e; omega), (by have := Sx_base hs; show w106.heap.size ≤ g; omega)⟩)), bx395, (by omega), (by omega), hat⟩
   ·refine OneH.seq f146 [[]] [(2, .pointer (some ⟨w144.heap.size, 0, none⟩))] (w144.alloc (.cells ((List.replicate 4 (0 : Int) : List Int).map wV).toArray 28 (0, 0))) [] #[true, true, false, false, false, false, false, false, true, false, false] (by kernel_rfl) (by kernel_rfl) (by kernel_rfl) trivial (fun act418 w415 hw416 f417 => ?_)
    clear f146
    have g419 := gr_alloc hw416
    have hS414 := hS143.gr g419
    have szw415 := g419.size
    have e421 := e148.gr g419 no_row
    clear e148
    have r422 := r149.gr g419 (fun _ h => by cases h)
    clear r149
    have bx423 := bx150.gr g419 (by simp)
    clear bx150
    have bx424 := bx151.gr g419 (by simp)
    clear bx151
    have bx425 := bx152.gr g419 (by simp)
    clear bx152
    have bx426 := bx153.gr g419 (by simp)
    clear bx153
    have bx427 := bx154.gr g419 (by simp)
    clear bx154
    have bx428 := bx155.gr g419 (by simp)
    clear bx155
    have bx429 := bx156.gr g419 (by simp)
    clear bx156
    have bx430 := bx157.gr g419 (by simp)
    clear bx157
    have bx431 : Bx w415 (w144.heap.size) ((List.replicate 4 (0 : Int) : List Int).map wV) 28 := Bx.new hw416
    have := bx431.lt
    clear g419 hw416
    refine ⟨hS414, ?_⟩
    refine AtH.all [2] 7 (by kernel_rfl) (by simp) ⟨?_, trivial⟩
    refine OneH.seq f417 [[]] [(15, .slice (some ⟨w415.heap.size, 0, none⟩) 1 1)] (w415.alloc (.cells #[.int .i64 (2)] 3 (0, 0))) [] #[true, true, true, false, false, false, false, false, true, false, false] (by kernel_rfl) (by kernel_rfl) (by kernel_rfl) trivial (fun act436 w433 hw434 f435 => ?_)
    clear f417
    have g437 := gr_alloc hw434
    have hS440 := hS414.gr g437
    refine ⟨hS440, ?_⟩
    have szw433 := g437.size
    have e441 := e421.gr g437 no_row
    clear e421
    have r442 := r422.gr g437 (fun _ h => by cases h)
    clear r422
    have bx443 := bx423.gr g437 (by simp)
    clear bx423
    have bx444 := bx424.gr g437 (by simp)
    clear bx424
    have bx445 := bx425.gr g437 (by simp)
    clear bx425
    have bx446 := bx426.gr g437 (by simp)
    clear bx426
    have bx447 := bx427.gr g437 (by simp)
    clear bx427
    have bx448 := bx428.gr g437 (by simp)
    clear bx428
    have bx449 := bx429.gr g437 (by simp)
    clear bx429
    have bx450 := bx430.gr g437 (by simp)
    clear bx430
    have bx451 := bx431.gr g437 (by simp)
    clear bx431
    have bx439 : Bx w433 (w415.heap.size) [.int .i64 (2)] 3 := Bx.new hw434
    have := bx439.lt
    clear g437 hw434
    refine AtH.all [3] 6 (by kernel_rfl) (by simp) ⟨?_, trivial⟩
    refine OneH.call f435 24 #[.slice (some ⟨w415.heap.size, 0, none⟩) 1 1] (some 16) #[true, true, true, true, false, false, false, false, true, false, false] (by kernel_rfl) (by kernel_rfl) ((of_any (la := ([2] : List Int)) (Bx.rdI (l := ([2] : List Int)) bx439 rfl (by first | decide | exact Nat.le_of_ble_eq_true rfl))).mono (R' := fun e w' => e = .returned (.agg ((([4, 0, 0, 0] : List Int) : List Int).map wV).toArray) ∧ Ext _ w') (fun e_ w_ h_ => by rw [show (ofW ([2] : List Int) : List Int) = ([4, 0, 0, 0] : List Int) from by decide +kernel] at h_; exact h_)) ?_
    rintro e_ w453 ⟨rfl, he⟩
    refine ⟨_, rfl, _, rfl, fun act454 f455 => ?_⟩
    clear f435
    have g456 := gr_ext he
    have hS452 := hS440.gr g456
    have szw453 := g456.size
    have e457 := e441.gr g456 no_row
    clear e441
    have r458 := r442.gr g456 (fun _ h => by cases h)
    clear r442
    have bx459 := bx443.gr g456 (by simp)
    clear bx443
    have bx460 := bx444.gr g456 (by simp)
    clear bx444
    have bx461 := bx445.gr g456 (by simp)
    clear bx445
    have bx462 := bx446.gr g456 (by simp)
    clear bx446
    have bx463 := bx447.gr g456 (by simp)
    clear bx447
    have bx464 := bx448.gr g456 (by simp)
    clear bx448
    have bx465 := bx449.gr g456 (by simp)
    clear bx449
    have bx466 := bx450.gr g456 (by simp)
    clear bx450
    have bx467 := bx451.gr g456 (by simp)
    clear bx451
    have bx468 := bx439.gr g456 (by simp)
    clear bx439
    clear g456 he
    refine ⟨hS452, ?_⟩
    refine AtH.all [4] 5 (by kernel_rfl) (by simp) ⟨?_, trivial⟩
    refine OneH.call f455 12 #[.agg #[.slice (some ⟨w.heap.size, 0, none⟩) 4 4, .slice (some ⟨w4.heap.size, 0, none⟩) 4 4, .slice (some ⟨w59.heap.size, 0, none⟩) 4 4], .agg ((([15, 0, 0, 0] : List Int) : List Int).map wV).toArray, .int .i64 (0), .agg ((([4, 0, 0, 0] : List Int) : List Int).map wV).toArray] (some 17) #[true, true, true, true, true, false, false, false, true, false, false] (by kernel_rfl) (by kernel_rfl) (attract_any (g := exG) (s := ([15, 0, 0, 0] : List Int)) (t := ([4, 0, 0, 0] : List Int)) (p := 0) (RdG.mk (G := exG) (Bx.rdI (l := ([0, 1, 1, 0] : List Int)) bx459 rfl (by first | decide | exact Nat.le_of_ble_eq_true rfl)) (Bx.rdI (l := ([0, 0, 0, 0] : List Int)) bx460 rfl (by first | decide | exact Nat.le_of_ble_eq_true rfl)) (Bx.rdII (ls := ([([0, 1] : List Int), ([2] : List Int), ([0, 3] : List Int), ([3] : List Int)] : List (List Int))) bx465 ⟨⟨_, _, rfl, (by decide), (Bx.rdI (l := ([0, 1] : List Int)) bx461 rfl (by first | decide | exact Nat.le_of_ble_eq_true rfl))⟩, ⟨_, _, rfl, (by decide), (Bx.rdI (l := ([2] : List Int)) bx462 rfl (by first | decide | exact Nat.le_of_ble_eq_true rfl))⟩, ⟨_, _, rfl, (by decide), (Bx.rdI (l := ([0, 3] : List Int)) bx463 rfl (by first | decide | exact Nat.le_of_ble_eq_true rfl))⟩, ⟨_, _, rfl, (by decide), (Bx.rdI (l := ([3] : List Int)) bx464 rfl (by first | decide | exact Nat.le_of_ble_eq_true rfl))⟩, trivial⟩ (by decide)) (by decide) (by decide) (by decide)) (okW_lit ⟨by omega, by omega⟩ ⟨by omega, by omega⟩ ⟨by omega, by omega⟩ ⟨by omega, by omega⟩) (okW_lit ⟨by omega, by omega⟩ ⟨by omega, by omega⟩ ⟨by omega, by omega⟩ ⟨by omega, by omega⟩) (r458.wide (Nat.zero_le _) (by omega))) ?_
    rintro e_ w474 ⟨A470, c471, ss, ms, rfl, he, ow472, hat⟩
    have hok_ss := att_ok hat
    have hl_ss := okLen hok_ss
    have hlm_ms := att_len hat
    obtain ⟨hs1, hs2, hs3, hs4⟩ := shown12 hat
    refine ⟨_, rfl, _, rfl, fun act475 f476 => ?_⟩
    clear f455
    have g477 := gr_ext he
    have hS469 := hS452.gr g477
    have szw474 := g477.size
    have e478 := e457.gr g477 no_row
    clear e457
    have r479 := r458.gr g477 (fun _ h => by cases h)
    clear r458
    have bx480 := bx459.gr g477 (by simp)
    clear bx459
    have bx481 := bx460.gr g477 (by simp)
    clear bx460
    have bx482 := bx461.gr g477 (by simp)
    clear bx461
    have bx483 := bx462.gr g477 (by simp)
    clear bx462
    have bx484 := bx463.gr g477 (by simp)
    clear bx463
    have bx485 := bx464.gr g477 (by simp)
    clear bx464
    have bx486 := bx465.gr g477 (by simp)
    clear bx465
    have bx487 := bx466.gr g477 (by simp)
    clear bx466
    have bx488 := bx467.gr g477 (by simp)
    clear bx467
    have bx489 := bx468.gr g477 (by simp)
    clear bx468
    clear g477 he
    refine ⟨hS469, ?_⟩
    refine AtH.rd (by kernel_rfl) (fun d v c a w h => by cases d <;> exact h) hS469 [5] [[]] [(12, .tuple #[.agg ((ss : List Int).map wV).toArray, .slice A470 ms.length c471])] #[true, true, true, true, true, true, false, false, true, false, false] [] 4 f476 (by kernel_rfl) trivial (fun act491 f490 => ?_)
    clear f476
    refine AtH.rd (by kernel_rfl) (fun d v c a w h => by cases d <;> exact h) hS469 [6] [[]] [(18, .agg ((ss : List Int).map wV).toArray)] #[true, true, true, true, true, true, true, false, true, false, false] [] 3 f490 (by kernel_rfl) trivial (fun act493 f492 => ?_)
    clear f490
    refine AtH.rd (by kernel_rfl) (fun d v c a w h => by cases d <;> exact h) hS469 [7] [[]] [(19, .slice A470 ms.length c471)] #[true, true, true, true, true, true, true, true, true, false, false] [] 2 f492 (by kernel_rfl) trivial (fun act495 f494 => ?_)
    clear f492
    refine AtH.all [9] 1 (by kernel_rfl) (by simp) ⟨?_, trivial⟩
    refine OneH.act f494 #[true, true, true, true, true, true, true, true, true, true, false] (by kernel_rfl) (storeBlk (t := 28) (b := w144.heap.size) (n := 4) (cs' := ((ss : List Int).map wV)) (by kernel_rfl) (by kernel_rfl) (by simp only [List.length_map, List.length_set, List.length_replicate, List.length_cons, List.length_nil]; first | done | assumption | exact from_len _ | exact of_len _ | exact ofZ_len _ | exact (ofW_ok _).1 | exact (fullW_W _).1 | exact (okW_with (by assumption)).1 | exact (okW_less (by assumption)).1 | exact put_len (from_len _) | exact orD_len _ _ | exact andD_len _ _ | exact minusD_len _ _ | exact fullD_len _ | (refine okLen ?_; (repeat (first | assumption | exact ofW_ok _ | exact fullW_W _ | apply okW_with | apply okW_less | refine okW_orS ?_ ?_ | refine okW_andS ?_ ?_ | refine okW_minusS ?_ ?_)); done) | omega | rfl) oneW_ ((show ((ss : List Int).map wV).length = 4 from (by simp only [List.length_map, List.length_set, List.length_replicate, List.length_cons, List.length_nil]; first | done | assumption | exact from_len _ | exact of_len _ | exact ofZ_len _ | exact (ofW_ok _).1 | exact (fullW_W _).1 | exact (okW_with (by assumption)).1 | exact (okW_less (by assumption)).1 | exact put_len (from_len _) | exact orD_len _ _ | exact andD_len _ _ | exact minusD_len _ _ | exact fullD_len _ | (refine okLen ?_; (repeat (first | assumption | exact ofW_ok _ | exact fullW_W _ | apply okW_with | apply okW_less | refine okW_orS ?_ ?_ | refine okW_andS ?_ ?_ | refine okW_minusS ?_ ?_)); done) | omega | rfl)).trans (show ((List.replicate 4 (0 : Int) : List Int).map wV).length = 4 from (by simp only [List.length_map, List.length_set, List.length_replicate, List.length_cons, List.length_nil]; first | done | assumption | exact from_len _ | exact of_len _ | exact ofZ_len _ | exact (ofW_ok _).1 | exact (fullW_W _).1 | exact (okW_with (by assumption)).1 | exact (okW_less (by assumption)).1 | exact put_len (from_len _) | exact orD_len _ _ | exact andD_len _ _ | exact minusD_len _ _ | exact fullD_len _ | (refine okLen ?_; (repeat (first | assumption | exact ofW_ok _ | exact fullW_W _ | apply okW_with | apply okW_less | refine okW_orS ?_ ?_ | refine okW_andS ?_ ?_ | refine okW_minusS ?_ ?_)); done) | omega | rfl)).symm) bx488) ?_
    rintro d_ v_ w497 ⟨rfl, g498, bx499⟩
    have hS502 := hS469.gr' g498 (by rw [hCs125]; exact ⟨(by simp only [add_block]; omega), (by simp only [add_block]; omega), (by simp only [add_block]; omega), trivial⟩)
    refine ⟨_, rfl, fun act501 f500 => ⟨hS502, ?_⟩⟩
    clear f494
    have szw497 := g498.size
    have e503 := e478.gr g498 (fun k h => by injection h; omega)
    clear e478
    have r504 := r479.gr g498 (fun k h => by injection h; omega)
    clear r479
    have bx505 := bx480.gr g498 (fun h => by injection h; omega)
    clear bx480
    have bx506 := bx481.gr g498 (fun h => by injection h; omega)
    clear bx481
    have bx507 := bx482.gr g498 (fun h => by injection h; omega)
    clear bx482
    have bx508 := bx483.gr g498 (fun h => by injection h; omega)
    clear bx483
    have bx509 := bx484.gr g498 (fun h => by injection h; omega)
    clear bx484
    have bx510 := bx485.gr g498 (fun h => by injection h; omega)
    clear bx485
    have bx511 := bx486.gr g498 (fun h => by injection h; omega)
    clear bx486
    have bx512 := bx487.gr g498 (fun h => by injection h; omega)
    clear bx487
    have bx513 := bx489.gr g498 (fun h => by injection h; omega)
    clear bx489
    have ow514 := ow472.gr g498 (fun k hk e => by have := Sx_base hk; injection e; omega)
    clear ow472
    clear bx488 g498
    refine AtH.rd (by kernel_rfl) (fun d v c a w h => by cases d <;> exact h) hS502 [10] [[]] [(3, .slice A470 ms.length c471)] #[true, true, true, true, true, true, true, true, true, true, true] [] 0 f500 (by kernel_rfl) trivial (fun act516 f515 => ?_)
    clear f500
    refine AtH.done (by kernel_rfl) ?_
    clear hS502
    refine t_n ?_
    have f517 := f515.sub (r := [(3, .slice A470 ms.length c471), (2, .pointer (some ⟨w144.heap.size, 0, none⟩))]) ⟨rfl, rfl, trivial⟩
    exact ⟨ss, ms, w144.heap.size, A470, c471, f517, e503, r504, bx505, bx506, bx507, bx508, bx509, bx510, bx511, bx512, (ow514.imp (fun g _ hs => ⟨(fun e => by have := Sx_base hs; injection e; omega), (by have := Sx_base hs; show w106.heap.size ≤ g; omega)⟩)), bx499, (by omega), (by omega), hat⟩
  ·refine OneH.seq f141 [[]] [(15, .slice (some ⟨w128.heap.size, 0, none⟩) 1 1)] (w128.alloc (.cells #[.int .i64 (2)] 3 (0, 0))) [] #[true, false, true, false, false, false, false, false, false, false, false] (by kernel_rfl) (by kernel_rfl) (by kernel_rfl) trivial (fun act522 w519 hw520 f521 => ?_)
   clear f141
   have g523 := gr_alloc hw520
   have hS526 := hS130.gr g523
   refine ⟨hS526, ?_⟩
   have szw519 := g523.size
   have e527 := e131.gr g523 no_row
   clear e131
   have r528 := r132.gr g523 (fun _ h => by cases h)
   clear r132
   have bx529 := bx133.gr g523 (by simp)
   clear bx133
   have bx530 := bx134.gr g523 (by simp)
   clear bx134
   have bx531 := bx135.gr g523 (by simp)
   clear bx135
   have bx532 := bx136.gr g523 (by simp)
   clear bx136
   have bx533 := bx137.gr g523 (by simp)
   clear bx137
   have bx534 := bx138.gr g523 (by simp)
   clear bx138
   have bx535 := bx139.gr g523 (by simp)
   clear bx139
   have bx536 := bx140.gr g523 (by simp)
   clear bx140
   have bx525 : Bx w519 (w128.heap.size) [.int .i64 (2)] 3 := Bx.new hw520
   have := bx525.lt
   clear g523 hw520
   refine AtH.all [1, 8] 8 (by kernel_rfl) (by simp) ⟨?_, ?_, trivial⟩
   ·refine OneH.call f521 20 #[.int .i64 (4)] (some 14) #[true, true, true, false, false, false, false, false, false, false, false] (by kernel_rfl) (by kernel_rfl) ((full_any (n := 4) (by omega)).mono (R' := fun e w' => e = .returned (.agg ((([15, 0, 0, 0] : List Int) : List Int).map wV).toArray) ∧ Ext _ w') (fun e_ w_ h_ => by rw [show (fullW 4 : List Int) = ([15, 0, 0, 0] : List Int) from by decide +kernel] at h_; exact h_)) ?_
    rintro e_ w538 ⟨rfl, he⟩
    refine ⟨_, rfl, _, rfl, fun act539 f540 => ?_⟩
    clear f521
    have g541 := gr_ext he
    have hS537 := hS526.gr g541
    have szw538 := g541.size
    have e542 := e527.gr g541 no_row
    clear e527
    have r543 := r528.gr g541 (fun _ h => by cases h)
    clear r528
    have bx544 := bx529.gr g541 (by simp)
    clear bx529
    have bx545 := bx530.gr g541 (by simp)
    clear bx530
    have bx546 := bx531.gr g541 (by simp)
    clear bx531
    have bx547 := bx532.gr g541 (by simp)
    clear bx532
    have bx548 := bx533.gr g541 (by simp)
    clear bx533
    have bx549 := bx534.gr g541 (by simp)
    clear bx534
    have bx550 := bx535.gr g541 (by simp)
    clear bx535
    have bx551 := bx536.gr g541 (by simp)
    clear bx536
    have bx552 := bx525.gr g541 (by simp)
    clear bx525
    clear g541 he
    refine ⟨hS537, ?_⟩
    refine AtH.all [3, 8] 7 (by kernel_rfl) (by simp) ⟨?_, ?_, trivial⟩
    ·refine OneH.call f540 24 #[.slice (some ⟨w128.heap.size, 0, none⟩) 1 1] (some 16) #[true, true, true, true, false, false, false, false, false, false, false] (by kernel_rfl) (by kernel_rfl) ((of_any (la := ([2] : List Int)) (Bx.rdI (l := ([2] : List Int)) bx552 rfl (by first | decide | exact Nat.le_of_ble_eq_true rfl))).mono (R' := fun e w' => e = .returned (.agg ((([4, 0, 0, 0] : List Int) : List Int).map wV).toArray) ∧ Ext _ w') (fun e_ w_ h_ => by rw [show (ofW ([2] : List Int) : List Int) = ([4, 0, 0, 0] : List Int) from by decide +kernel] at h_; exact h_)) ?_
     rintro e_ w554 ⟨rfl, he⟩
     refine ⟨_, rfl, _, rfl, fun act555 f556 => ?_⟩
     clear f540
     have g557 := gr_ext he
     have hS553 := hS537.gr g557
     have szw554 := g557.size
     have e558 := e542.gr g557 no_row
     clear e542
     have r559 := r543.gr g557 (fun _ h => by cases h)
     clear r543
     have bx560 := bx544.gr g557 (by simp)
     clear bx544
     have bx561 := bx545.gr g557 (by simp)
     clear bx545
     have bx562 := bx546.gr g557 (by simp)
     clear bx546
     have bx563 := bx547.gr g557 (by simp)
     clear bx547
     have bx564 := bx548.gr g557 (by simp)
     clear bx548
     have bx565 := bx549.gr g557 (by simp)
     clear bx549
     have bx566 := bx550.gr g557 (by simp)
     clear bx550
     have bx567 := bx551.gr g557 (by simp)
     clear bx551
     have bx568 := bx552.gr g557 (by simp)
     clear bx552
     clear g557 he
     refine ⟨hS553, ?_⟩
     refine AtH.all [4, 8] 6 (by kernel_rfl) (by simp) ⟨?_, ?_, trivial⟩
     ·refine OneH.call f556 12 #[.agg #[.slice (some ⟨w.heap.size, 0, none⟩) 4 4, .slice (some ⟨w4.heap.size, 0, none⟩) 4 4, .slice (some ⟨w59.heap.size, 0, none⟩) 4 4], .agg ((([15, 0, 0, 0] : List Int) : List Int).map wV).toArray, .int .i64 (0), .agg ((([4, 0, 0, 0] : List Int) : List Int).map wV).toArray] (some 17) #[true, true, true, true, true, false, false, false, false, false, false] (by kernel_rfl) (by kernel_rfl) (attract_any (g := exG) (s := ([15, 0, 0, 0] : List Int)) (t := ([4, 0, 0, 0] : List Int)) (p := 0) (RdG.mk (G := exG) (Bx.rdI (l := ([0, 1, 1, 0] : List Int)) bx560 rfl (by first | decide | exact Nat.le_of_ble_eq_true rfl)) (Bx.rdI (l := ([0, 0, 0, 0] : List Int)) bx561 rfl (by first | decide | exact Nat.le_of_ble_eq_true rfl)) (Bx.rdII (ls := ([([0, 1] : List Int), ([2] : List Int), ([0, 3] : List Int), ([3] : List Int)] : List (List Int))) bx566 ⟨⟨_, _, rfl, (by decide), (Bx.rdI (l := ([0, 1] : List Int)) bx562 rfl (by first | decide | exact Nat.le_of_ble_eq_true rfl))⟩, ⟨_, _, rfl, (by decide), (Bx.rdI (l := ([2] : List Int)) bx563 rfl (by first | decide | exact Nat.le_of_ble_eq_true rfl))⟩, ⟨_, _, rfl, (by decide), (Bx.rdI (l := ([0, 3] : List Int)) bx564 rfl (by first | decide | exact Nat.le_of_ble_eq_true rfl))⟩, ⟨_, _, rfl, (by decide), (Bx.rdI (l := ([3] : List Int)) bx565 rfl (by first | decide | exact Nat.le_of_ble_eq_true rfl))⟩, trivial⟩ (by decide)) (by decide) (by decide) (by decide)) (okW_lit ⟨by omega, by omega⟩ ⟨by omega, by omega⟩ ⟨by omega, by omega⟩ ⟨by omega, by omega⟩) (okW_lit ⟨by omega, by omega⟩ ⟨by omega, by omega⟩ ⟨by omega, by omega⟩ ⟨by omega, by omega⟩) (r559.wide (Nat.zero_le _) (by omega))) ?_
      rintro e_ w574 ⟨A570, c571, ss, ms, rfl, he, ow572, hat⟩
      have hok_ss := att_ok hat
      have hl_ss := okLen hok_ss
      have hlm_ms := att_len hat
      obtain ⟨hs1, hs2, hs3, hs4⟩ := shown12 hat
      refine ⟨_, rfl, _, rfl, fun act575 f576 => ?_⟩
      clear f556
      have g577 := gr_ext he
      have hS569 := hS553.gr g577
      have szw574 := g577.size
      have e578 := e558.gr g577 no_row
      clear e558
      have r579 := r559.gr g577 (fun _ h => by cases h)
      clear r559
      have bx580 := bx560.gr g577 (by simp)
      clear bx560
      have bx581 := bx561.gr g577 (by simp)
      clear bx561
      have bx582 := bx562.gr g577 (by simp)
      clear bx562
      have bx583 := bx563.gr g577 (by simp)
      clear bx563
      have bx584 := bx564.gr g577 (by simp)
      clear bx564
      have bx585 := bx565.gr g577 (by simp)
      clear bx565
      have bx586 := bx566.gr g577 (by simp)
      clear bx566
      have bx587 := bx567.gr g577 (by simp)
      clear bx567
      have bx588 := bx568.gr g577 (by simp)
      clear bx568
      clear g577 he
      refine ⟨hS569, ?_⟩
      refine AtH.rd (by kernel_rfl) (fun d v c a w h => by cases d <;> exact h) hS569 [5] [[]] [(12, .tuple #[.agg ((ss : List Int).map wV).toArray, .slice A570 ms.length c571])] #[true, true, true, true, true, true, false, false, false, false, false] [] 5 f576 (by kernel_rfl) trivial (fun act590 f589 => ?_)
      clear f576
      refine AtH.rd (by kernel_rfl) (fun d v c a w h => by cases d <;> exact h) hS569 [6] [[]] [(18, .agg ((ss : List Int).map wV).toArray)] #[true, true, true, true, true, true, true, false, false, false, false] [] 4 f589 (by kernel_rfl) trivial (fun act592 f591 => ?_)
      clear f589
      refine AtH.rd (by kernel_rfl) (fun d v c a w h => by cases d <;> exact h) hS569 [7] [[]] [(19, .slice A570 ms.length c571)] #[true, true, true, true, true, true, true, true, false, false, false] [] 3 f591 (by kernel_rfl) trivial (fun act594 f593 => ?_)
      clear f591
      refine AtH.all [8] 2 (by kernel_rfl) (by simp) ⟨?_, trivial⟩
      refine OneH.seq f593 [[]] [(2, .pointer (some ⟨w574.heap.size, 0, none⟩))] (w574.alloc (.cells ((List.replicate 4 (0 : Int) : List Int).map wV).toArray 28 (0, 0))) [] #[true, true, true, true, true, true, true, true, true, false, false] (by kernel_rfl) (by kernel_rfl) (by kernel_rfl) trivial (fun act599 w596 hw597 f598 => ?_)
      clear f593
      have g600 := gr_alloc hw597
      have hS595 := hS569.gr g600
      have szw596 := g600.size
      have e602 := e578.gr g600 no_row
      clear e578
      have r603 := r579.gr g600 (fun _ h => by cases h)
      clear r579
      have bx604 := bx580.gr g600 (by simp)
      clear bx580
      have bx605 := bx581.gr g600 (by simp)
      clear bx581
      have bx606 := bx582.gr g600 (by simp)
      clear bx582
      have bx607 := bx583.gr g600 (by simp)
      clear bx583
      have bx608 := bx584.gr g600 (by simp)
      clear bx584
      have bx609 := bx585.gr g600 (by simp)
      clear bx585
      have bx610 := bx586.gr g600 (by simp)
      clear bx586
      have bx611 := bx587.gr g600 (by simp)
      clear bx587
      have bx612 := bx588.gr g600 (by simp)
      clear bx588
      have ow613 : OwnR w596 (Sx (w554.heap.size) [some (w574.heap.size)]) A570 c571 3 (ms : List Int) := ow572.grA g600 (fun _ _ h => by cases h) (fun k hk hs => ⟨(fun e => by injection e; omega), hs⟩)
      clear ow572
      have bx614 : Bx w596 (w574.heap.size) ((List.replicate 4 (0 : Int) : List Int).map wV) 28 := Bx.new hw597
      have := bx614.lt
      clear g600 hw597
      refine ⟨hS595, ?_⟩
      refine AtH.all [9] 1 (by kernel_rfl) (by simp) ⟨?_, trivial⟩
      refine OneH.act f598 #[true, true, true, true, true, true, true, true, true, true, false] (by kernel_rfl) (storeBlk (t := 28) (b := w574.heap.size) (n := 4) (cs' := ((ss : List Int).map wV)) (by kernel_rfl) (by kernel_rfl) (by simp only [List.length_map, List.length_set, List.length_replicate, List.length_cons, List.length_nil]; first | done | assumption | exact from_len _ | exact of_len _ | exact ofZ_len _ | exact (ofW_ok _).1 | exact (fullW_W _).1 | exact (okW_with (by assumption)).1 | exact (okW_less (by assumption)).1 | exact put_len (from_len _) | exact orD_len _ _ | exact andD_len _ _ | exact minusD_len _ _ | exact fullD_len _ | (refine okLen ?_; (repeat (first | assumption | exact ofW_ok _ | exact fullW_W _ | apply okW_with | apply okW_less | refine okW_orS ?_ ?_ | refine okW_andS ?_ ?_ | refine okW_minusS ?_ ?_)); done) | omega | rfl) oneW_ ((show ((ss : List Int).map wV).length = 4 from (by simp only [List.length_map, List.length_set, List.length_replicate, List.length_cons, List.length_nil]; first | done | assumption | exact from_len _ | exact of_len _ | exact ofZ_len _ | exact (ofW_ok _).1 | exact (fullW_W _).1 | exact (okW_with (by assumption)).1 | exact (okW_less (by assumption)).1 | exact put_len (from_len _) | exact orD_len _ _ | exact andD_len _ _ | exact minusD_len _ _ | exact fullD_len _ | (refine okLen ?_; (repeat (first | assumption | exact ofW_ok _ | exact fullW_W _ | apply okW_with | apply okW_less | refine okW_orS ?_ ?_ | refine okW_andS ?_ ?_ | refine okW_minusS ?_ ?_)); done) | omega | rfl)).trans (show ((List.replicate 4 (0 : Int) : List Int).map wV).length = 4 from (by simp only [List.length_map, List.length_set, List.length_replicate, List.length_cons, List.length_nil]; first | done | assumption | exact from_len _ | exact of_len _ | exact ofZ_len _ | exact (ofW_ok _).1 | exact (fullW_W _).1 | exact (okW_with (by assumption)).1 | exact (okW_less (by assumption)).1 | exact put_len (from_len _) | exact orD_len _ _ | exact andD_len _ _ | exact minusD_len _ _ | exact fullD_len _ | (refine okLen ?_; (repeat (first | assumption | exact ofW_ok _ | exact fullW_W _ | apply okW_with | apply okW_less | refine okW_orS ?_ ?_ | refine okW_andS ?_ ?_ | refine okW_minusS ?_ ?_)); done) | omega | rfl)).symm) bx614) ?_
      rintro d_ v_ w616 ⟨rfl, g617, bx618⟩
      have hS621 := hS595.gr' g617 (by rw [hCs125]; exact ⟨(by simp only [add_block]; omega), (by simp only [add_block]; omega), (by simp only [add_block]; omega), trivial⟩)
      refine ⟨_, rfl, fun act620 f619 => ⟨hS621, ?_⟩⟩
      clear f598
      have szw616 := g617.size
      have e622 := e602.gr g617 (fun k h => by injection h; omega)
      clear e602
      have r623 := r603.gr g617 (fun k h => by injection h; omega)
      clear r603
      have bx624 := bx604.gr g617 (fun h => by injection h; omega)
      clear bx604
      have bx625 := bx605.gr g617 (fun h => by injection h; omega)
      clear bx605
      have bx626 := bx606.gr g617 (fun h => by injection h; omega)
      clear bx606
      have bx627 := bx607.gr g617 (fun h => by injection h; omega)
      clear bx607
      have bx628 := bx608.gr g617 (fun h => by injection h; omega)
      clear bx608
      have bx629 := bx609.gr g617 (fun h => by injection h; omega)
      clear bx609
      have bx630 := bx610.gr g617 (fun h => by injection h; omega)
      clear bx610
      have bx631 := bx611.gr g617 (fun h => by injection h; omega)
      clear bx611
      have bx632 := bx612.gr g617 (fun h => by injection h; omega)
      clear bx612
      have ow633 := ow613.gr g617 (fun k hk => hk.1)
      clear ow613
      clear bx614 g617
      refine AtH.rd (by kernel_rfl) (fun d v c a w h => by cases d <;> exact h) hS621 [10] [[]] [(3, .slice A570 ms.length c571)] #[true, true, true, true, true, true, true, true, true, true, true] [] 0 f619 (by kernel_rfl) trivial (fun act635 f634 => ?_)
      clear f619
      refine AtH.done (by kernel_rfl) ?_
      clear hS621
      refine t_n ?_
      have f636 := f634.sub (r := [(3, .slice A570 ms.length c571), (2, .pointer (some ⟨w574.heap.size, 0, none⟩))]) ⟨rfl, rfl, trivial⟩
      exact ⟨ss, ms, w574.heap.size, A570, c571, f636, e622, r623, bx624, bx625, bx626, bx627, bx628, bx629, bx630, bx631, (ow633.imp (fun g _ hs => ⟨hs.1, (by have := Sx_base hs; show w106.heap.size ≤ g; omega)⟩)), bx618, (by omega), (by omega), hat⟩
     ·refine OneH.seq f556 [[]] [(2, .pointer (some ⟨w554.heap.size, 0, none⟩))] (w554.alloc (.cells ((List.replicate 4 (0 : Int) : List Int).map wV).toArray 28 (0, 0))) [] #[true, true, true, true, false, false, false, false, true, false, false] (by kernel_rfl) (by kernel_rfl) (by kernel_rfl) trivial (fun act641 w638 hw639 f640 => ?_)
      clear f556
      have g642 := gr_alloc hw639
      have hS637 := hS553.gr g642
      have szw638 := g642.size
      have e644 := e558.gr g642 no_row
      clear e558
      have r645 := r559.gr g642 (fun _ h => by cases h)
      clear r559
      have bx646 := bx560.gr g642 (by simp)
      clear bx560
      have bx647 := bx561.gr g642 (by simp)
      clear bx561
      have bx648 := bx562.gr g642 (by simp)
      clear bx562
      have bx649 := bx563.gr g642 (by simp)
      clear bx563
      have bx650 := bx564.gr g642 (by simp)
      clear bx564
      have bx651 := bx565.gr g642 (by simp)
      clear bx565
      have bx652 := bx566.gr g642 (by simp)
      clear bx566
      have bx653 := bx567.gr g642 (by simp)
      clear bx567
      have bx654 := bx568.gr g642 (by simp)
      clear bx568
      have bx655 : Bx w638 (w554.heap.size) ((List.replicate 4 (0 : Int) : List Int).map wV) 28 := Bx.new hw639
      have := bx655.lt
      clear g642 hw639
      refine ⟨hS637, ?_⟩
      refine AtH.all [4] 5 (by kernel_rfl) (by simp) ⟨?_, trivial⟩
      refine OneH.call f640 12 #[.agg #[.slice (some ⟨w.heap.size, 0, none⟩) 4 4, .slice (some ⟨w4.heap.size, 0, none⟩) 4 4, .slice (some ⟨w59.heap.size, 0, none⟩) 4 4], .agg ((([15, 0, 0, 0] : List Int) : List Int).map wV).toArray, .int .i64 (0), .agg ((([4, 0, 0, 0] : List Int) : List Int).map wV).toArray] (some 17) #[true, true, true, true, true, false, false, false, true, false, false] (by kernel_rfl) (by kernel_rfl) (attract_any (g := exG) (s := ([15, 0, 0, 0] : List Int)) (t := ([4, 0, 0, 0] : List Int)) (p := 0) (RdG.mk (G := exG) (Bx.rdI (l := ([0, 1, 1, 0] : List Int)) bx646 rfl (by first | decide | exact Nat.le_of_ble_eq_true rfl)) (Bx.rdI (l := ([0, 0, 0, 0] : List Int)) bx647 rfl (by first | decide | exact Nat.le_of_ble_eq_true rfl)) (Bx.rdII (ls := ([([0, 1] : List Int), ([2] : List Int), ([0, 3] : List Int), ([3] : List Int)] : List (List Int))) bx652 ⟨⟨_, _, rfl, (by decide), (Bx.rdI (l := ([0, 1] : List Int)) bx648 rfl (by first | decide | exact Nat.le_of_ble_eq_true rfl))⟩, ⟨_, _, rfl, (by decide), (Bx.rdI (l := ([2] : List Int)) bx649 rfl (by first | decide | exact Nat.le_of_ble_eq_true rfl))⟩, ⟨_, _, rfl, (by decide), (Bx.rdI (l := ([0, 3] : List Int)) bx650 rfl (by first | decide | exact Nat.le_of_ble_eq_true rfl))⟩, ⟨_, _, rfl, (by decide), (Bx.rdI (l := ([3] : List Int)) bx651 rfl (by first | decide | exact Nat.le_of_ble_eq_true rfl))⟩, trivial⟩ (by decide)) (by decide) (by decide) (by decide)) (okW_lit ⟨by omega, by omega⟩ ⟨by omega, by omega⟩ ⟨by omega, by omega⟩ ⟨by omega, by omega⟩) (okW_lit ⟨by omega, by omega⟩ ⟨by omega, by omega⟩ ⟨by omega, by omega⟩ ⟨by omega, by omega⟩) (r645.wide (Nat.zero_le _) (by omega))) ?_
      rintro e_ w661 ⟨A657, c658, ss, ms, rfl, he, ow659, hat⟩
      have hok_ss := att_ok hat
      have hl_ss := okLen hok_ss
      have hlm_ms := att_len hat
      obtain ⟨hs1, hs2, hs3, hs4⟩ := shown12 hat
      refine ⟨_, rfl, _, rfl, fun act662 f663 => ?_⟩
      clear f640
      have g664 := gr_ext he
      have hS656 := hS637.gr g664
      have szw661 := g664.size
      have e665 := e644.gr g664 no_row
      clear e644
      have r666 := r645.gr g664 (fun _ h => by cases h)
      clear r645
      have bx667 := bx646.gr g664 (by simp)
      clear bx646
      have bx668 := bx647.gr g664 (by simp)
      clear bx647
      have bx669 := bx648.gr g664 (by simp)
      clear bx648
      have bx670 := bx649.gr g664 (by simp)
      clear bx649
      have bx671 := bx650.gr g664 (by simp)
      clear bx650
      have bx672 := bx651.gr g664 (by simp)
      clear bx651
      have bx673 := bx652.gr g664 (by simp)
      clear bx652
      have bx674 := bx653.gr g664 (by simp)
      clear bx653
      have bx675 := bx654.gr g664 (by simp)
      clear bx654
      have bx676 := bx655.gr g664 (by simp)
      clear bx655
      clear g664 he
      refine ⟨hS656, ?_⟩
      refine AtH.rd (by kernel_rfl) (fun d v c a w h => by cases d <;> exact h) hS656 [5] [[]] [(12, .tuple #[.agg ((ss : List Int).map wV).toArray, .slice A657 ms.length c658])] #[true, true, true, true, true, true, false, false, true, false, false] [] 4 f663 (by kernel_rfl) trivial (fun act678 f677 => ?_)
      clear f663
      refine AtH.rd (by kernel_rfl) (fun d v c a w h => by cases d <;> exact h) hS656 [6] [[]] [(18, .agg ((ss : List Int).map wV).toArray)] #[true, true, true, true, true, true, true, false, true, false, false] [] 3 f677 (by kernel_rfl) trivial (fun act680 f679 => ?_)
      clear f677
      refine AtH.rd (by kernel_rfl) (fun d v c a w h => by cases d <;> exact h) hS656 [7] [[]] [(19, .slice A657 ms.length c658)] #[true, true, true, true, true, true, true, true, true, false, false] [] 2 f679 (by kernel_rfl) trivial (fun act682 f681 => ?_)
      clear f679
      refine AtH.all [9] 1 (by kernel_rfl) (by simp) ⟨?_, trivial⟩
      refine OneH.act f681 #[true, true, true, true, true, true, true, true, true, true, false] (by kernel_rfl) (storeBlk (t := 28) (b := w554.heap.size) (n := 4) (cs' := ((ss : List Int).map wV)) (by kernel_rfl) (by kernel_rfl) (by simp only [List.length_map, List.length_set, List.length_replicate, List.length_cons, List.length_nil]; first | done | assumption | exact from_len _ | exact of_len _ | exact ofZ_len _ | exact (ofW_ok _).1 | exact (fullW_W _).1 | exact (okW_with (by assumption)).1 | exact (okW_less (by assumption)).1 | exact put_len (from_len _) | exact orD_len _ _ | exact andD_len _ _ | exact minusD_len _ _ | exact fullD_len _ | (refine okLen ?_; (repeat (first | assumption | exact ofW_ok _ | exact fullW_W _ | apply okW_with | apply okW_less | refine okW_orS ?_ ?_ | refine okW_andS ?_ ?_ | refine okW_minusS ?_ ?_)); done) | omega | rfl) oneW_ ((show ((ss : List Int).map wV).length = 4 from (by simp only [List.length_map, List.length_set, List.length_replicate, List.length_cons, List.length_nil]; first | done | assumption | exact from_len _ | exact of_len _ | exact ofZ_len _ | exact (ofW_ok _).1 | exact (fullW_W _).1 | exact (okW_with (by assumption)).1 | exact (okW_less (by assumption)).1 | exact put_len (from_len _) | exact orD_len _ _ | exact andD_len _ _ | exact minusD_len _ _ | exact fullD_len _ | (refine okLen ?_; (repeat (first | assumption | exact ofW_ok _ | exact fullW_W _ | apply okW_with | apply okW_less | refine okW_orS ?_ ?_ | refine okW_andS ?_ ?_ | refine okW_minusS ?_ ?_)); done) | omega | rfl)).trans (show ((List.replicate 4 (0 : Int) : List Int).map wV).length = 4 from (by simp only [List.length_map, List.length_set, List.length_replicate, List.length_cons, List.length_nil]; first | done | assumption | exact from_len _ | exact of_len _ | exact ofZ_len _ | exact (ofW_ok _).1 | exact (fullW_W _).1 | exact (okW_with (by assumption)).1 | exact (okW_less (by assumption)).1 | exact put_len (from_len _) | exact orD_len _ _ | exact andD_len _ _ | exact minusD_len _ _ | exact fullD_len _ | (refine okLen ?_; (repeat (first | assumption | exact ofW_ok _ | exact fullW_W _ | apply okW_with | apply okW_less | refine okW_orS ?_ ?_ | refine okW_andS ?_ ?_ | refine okW_minusS ?_ ?_)); done) | omega | rfl)).symm) bx676) ?_
      rintro d_ v_ w684 ⟨rfl, g685, bx686⟩
      have hS689 := hS656.gr' g685 (by rw [hCs125]; exact ⟨(by simp only [add_block]; omega), (by simp only [add_block]; omega), (by simp only [add_block]; omega), trivial⟩)
      refine ⟨_, rfl, fun act688 f687 => ⟨hS689, ?_⟩⟩
      clear f681
      have szw684 := g685.size
      have e690 := e665.gr g685 (fun k h => by injection h; omega)
      clear e665
      have r691 := r666.gr g685 (fun k h => by injection h; omega)
      clear r666
      have bx692 := bx667.gr g685 (fun h => by injection h; omega)
      clear bx667
      have bx693 := bx668.gr g685 (fun h => by injection h; omega)
      clear bx668
      have bx694 := bx669.gr g685 (fun h => by injection h; omega)
      clear bx669
      have bx695 := bx670.gr g685 (fun h => by injection h; omega)
      clear bx670
      have bx696 := bx671.gr g685 (fun h => by injection h; omega)
      clear bx671
      have bx697 := bx672.gr g685 (fun h => by injection h; omega)
      clear bx672
      have bx698 := bx673.gr g685 (fun h => by injection h; omega)
      clear bx673
      have bx699 := bx674.gr g685 (fun h => by injection h; omega)
      clear bx674
      have bx700 := bx675.gr g685 (fun h => by injection h; omega)
      clear bx675
      have ow701 := ow659.gr g685 (fun k hk e => by have := Sx_base hk; injection e; omega)
      clear ow659
      clear bx676 g685
      refine AtH.rd (by kernel_rfl) (fun d v c a w h => by cases d <;> exact h) hS689 [10] [[]] [(3, .slice A657 ms.length c658)] #[true, true, true, true, true, true, true, true, true, true, true] [] 0 f687 (by kernel_rfl) trivial (fun act703 f702 => ?_)
      clear f687
      refine AtH.done (by kernel_rfl) ?_
      clear hS689
      refine t_n ?_
      have f704 := f702.sub (r := [(3, .slice A657 ms.length c658), (2, .pointer (some ⟨w554.heap.size, 0, none⟩))]) ⟨rfl, rfl, trivial⟩
      exact ⟨ss, ms, w554.heap.size, A657, c658, f704, e690, r691, bx692, bx693, bx694, bx695, bx696, bx697, bx698, bx699, (ow701.imp (fun g _ hs => ⟨(fun e => by have := Sx_base hs; injection e; omega), (by have := Sx_base hs; show w106.heap.size ≤ g; omega)⟩)), bx686, (by omega), (by omega), hat⟩
    ·refine OneH.seq f540 [[]] [(2, .pointer (some ⟨w538.heap.size, 0, none⟩))] (w538.alloc (.cells ((List.replicate 4 (0 : Int) : List Int).map wV).toArray 28 (0, 0))) [] #[true, true, true, false, false, false, false, false, true, false, false] (by kernel_rfl) (by kernel_rfl) (by kernel_rfl) trivial (fun act709 w706 hw707 f708 => ?_)
     clear f540
     have g710 := gr_alloc hw707
     have hS705 := hS537.gr g710
     have szw706 := g710.size
     have e712 := e542.gr g710 no_row
     clear e542
     have r713 := r543.gr g710 (fun _ h => by cases h)
     clear r543
     have bx714 := bx544.gr g710 (by simp)
     clear bx544
     have bx715 := bx545.gr g710 (by simp)
     clear bx545
     have bx716 := bx546.gr g710 (by simp)
     clear bx546
     have bx717 := bx547.gr g710 (by simp)
     clear bx547
     have bx718 := bx548.gr g710 (by simp)
     clear bx548
     have bx719 := bx549.gr g710 (by simp)
     clear bx549
     have bx720 := bx550.gr g710 (by simp)
     clear bx550
     have bx721 := bx551.gr g710 (by simp)
     clear bx551
     have bx722 := bx552.gr g710 (by simp)
     clear bx552
     have bx723 : Bx w706 (w538.heap.size) ((List.replicate 4 (0 : Int) : List Int).map wV) 28 := Bx.new hw707
     have := bx723.lt
     clear g710 hw707
     refine ⟨hS705, ?_⟩
     refine AtH.all [3] 6 (by kernel_rfl) (by simp) ⟨?_, trivial⟩
     refine OneH.call f708 24 #[.slice (some ⟨w128.heap.size, 0, none⟩) 1 1] (some 16) #[true, true, true, true, false, false, false, false, true, false, false] (by kernel_rfl) (by kernel_rfl) ((of_any (la := ([2] : List Int)) (Bx.rdI (l := ([2] : List Int)) bx722 rfl (by first | decide | exact Nat.le_of_ble_eq_true rfl))).mono (R' := fun e w' => e = .returned (.agg ((([4, 0, 0, 0] : List Int) : List Int).map wV).toArray) ∧ Ext _ w') (fun e_ w_ h_ => by rw [show (ofW ([2] : List Int) : List Int) = ([4, 0, 0, 0] : List Int) from by decide +kernel] at h_; exact h_)) ?_
     rintro e_ w725 ⟨rfl, he⟩
     refine ⟨_, rfl, _, rfl, fun act726 f727 => ?_⟩
     clear f708
     have g728 := gr_ext he
     have hS724 := hS705.gr g728
     have szw725 := g728.size
     have e729 := e712.gr g728 no_row
     clear e712
     have r730 := r713.gr g728 (fun _ h => by cases h)
     clear r713
     have bx731 := bx714.gr g728 (by simp)
     clear bx714
     have bx732 := bx715.gr g728 (by simp)
     clear bx715
     have bx733 := bx716.gr g728 (by simp)
     clear bx716
     have bx734 := bx717.gr g728 (by simp)
     clear bx717
     have bx735 := bx718.gr g728 (by simp)
     clear bx718
     have bx736 := bx719.gr g728 (by simp)
     clear bx719
     have bx737 := bx720.gr g728 (by simp)
     clear bx720
     have bx738 := bx721.gr g728 (by simp)
     clear bx721
     have bx739 := bx722.gr g728 (by simp)
     clear bx722
     have bx740 := bx723.gr g728 (by simp)
     clear bx723
     clear g728 he
     refine ⟨hS724, ?_⟩
     refine AtH.all [4] 5 (by kernel_rfl) (by simp) ⟨?_, trivial⟩
     refine OneH.call f727 12 #[.agg #[.slice (some ⟨w.heap.size, 0, none⟩) 4 4, .slice (some ⟨w4.heap.size, 0, none⟩) 4 4, .slice (some ⟨w59.heap.size, 0, none⟩) 4 4], .agg ((([15, 0, 0, 0] : List Int) : List Int).map wV).toArray, .int .i64 (0), .agg ((([4, 0, 0, 0] : List Int) : List Int).map wV).toArray] (some 17) #[true, true, true, true, true, false, false, false, true, false, false] (by kernel_rfl) (by kernel_rfl) (attract_any (g := exG) (s := ([15, 0, 0, 0] : List Int)) (t := ([4, 0, 0, 0] : List Int)) (p := 0) (RdG.mk (G := exG) (Bx.rdI (l := ([0, 1, 1, 0] : List Int)) bx731 rfl (by first | decide | exact Nat.le_of_ble_eq_true rfl)) (Bx.rdI (l := ([0, 0, 0, 0] : List Int)) bx732 rfl (by first | decide | exact Nat.le_of_ble_eq_true rfl)) (Bx.rdII (ls := ([([0, 1] : List Int), ([2] : List Int), ([0, 3] : List Int), ([3] : List Int)] : List (List Int))) bx737 ⟨⟨_, _, rfl, (by decide), (Bx.rdI (l := ([0, 1] : List Int)) bx733 rfl (by first | decide | exact Nat.le_of_ble_eq_true rfl))⟩, ⟨_, _, rfl, (by decide), (Bx.rdI (l := ([2] : List Int)) bx734 rfl (by first | decide | exact Nat.le_of_ble_eq_true rfl))⟩, ⟨_, _, rfl, (by decide), (Bx.rdI (l := ([0, 3] : List Int)) bx735 rfl (by first | decide | exact Nat.le_of_ble_eq_true rfl))⟩, ⟨_, _, rfl, (by decide), (Bx.rdI (l := ([3] : List Int)) bx736 rfl (by first | decide | exact Nat.le_of_ble_eq_true rfl))⟩, trivial⟩ (by decide)) (by decide) (by decide) (by decide)) (okW_lit ⟨by omega, by omega⟩ ⟨by omega, by omega⟩ ⟨by omega, by omega⟩ ⟨by omega, by omega⟩) (okW_lit ⟨by omega, by omega⟩ ⟨by omega, by omega⟩ ⟨by omega, by omega⟩ ⟨by omega, by omega⟩) (r730.wide (Nat.zero_le _) (by omega))) ?_
     rintro e_ w746 ⟨A742, c743, ss, ms, rfl, he, ow744, hat⟩
     have hok_ss := att_ok hat
     have hl_ss := okLen hok_ss
     have hlm_ms := att_len hat
     obtain ⟨hs1, hs2, hs3, hs4⟩ := shown12 hat
     refine ⟨_, rfl, _, rfl, fun act747 f748 => ?_⟩
     clear f727
     have g749 := gr_ext he
     have hS741 := hS724.gr g749
     have szw746 := g749.size
     have e750 := e729.gr g749 no_row
     clear e729
     have r751 := r730.gr g749 (fun _ h => by cases h)
     clear r730
     have bx752 := bx731.gr g749 (by simp)
     clear bx731
     have bx753 := bx732.gr g749 (by simp)
     clear bx732
     have bx754 := bx733.gr g749 (by simp)
     clear bx733
     have bx755 := bx734.gr g749 (by simp)
     clear bx734
     have bx756 := bx735.gr g749 (by simp)
     clear bx735
     have bx757 := bx736.gr g749 (by simp)
     clear bx736
     have bx758 := bx737.gr g749 (by simp)
     clear bx737
     have bx759 := bx738.gr g749 (by simp)
     clear bx738
     have bx760 := bx739.gr g749 (by simp)
     clear bx739
     have bx761 := bx740.gr g749 (by simp)
     clear bx740
     clear g749 he
     refine ⟨hS741, ?_⟩
     refine AtH.rd (by kernel_rfl) (fun d v c a w h => by cases d <;> exact h) hS741 [5] [[]] [(12, .tuple #[.agg ((ss : List Int).map wV).toArray, .slice A742 ms.length c743])] #[true, true, true, true, true, true, false, false, true, false, false] [] 4 f748 (by kernel_rfl) trivial (fun act763 f762 => ?_)
     clear f748
     refine AtH.rd (by kernel_rfl) (fun d v c a w h => by cases d <;> exact h) hS741 [6] [[]] [(18, .agg ((ss : List Int).map wV).toArray)] #[true, true, true, true, true, true, true, false, true, false, false] [] 3 f762 (by kernel_rfl) trivial (fun act765 f764 => ?_)
     clear f762
     refine AtH.rd (by kernel_rfl) (fun d v c a w h => by cases d <;> exact h) hS741 [7] [[]] [(19, .slice A742 ms.length c743)] #[true, true, true, true, true, true, true, true, true, false, false] [] 2 f764 (by kernel_rfl) trivial (fun act767 f766 => ?_)
     clear f764
     refine AtH.all [9] 1 (by kernel_rfl) (by simp) ⟨?_, trivial⟩
     refine OneH.act f766 #[true, true, true, true, true, true, true, true, true, true, false] (by kernel_rfl) (storeBlk (t := 28) (b := w538.heap.size) (n := 4) (cs' := ((ss : List Int).map wV)) (by kernel_rfl) (by kernel_rfl) (by simp only [List.length_map, List.length_set, List.length_replicate, List.length_cons, List.length_nil]; first | done | assumption | exact from_len _ | exact of_len _ | exact ofZ_len _ | exact (ofW_ok _).1 | exact (fullW_W _).1 | exact (okW_with (by assumption)).1 | exact (okW_less (by assumption)).1 | exact put_len (from_len _) | exact orD_len _ _ | exact andD_len _ _ | exact minusD_len _ _ | exact fullD_len _ | (refine okLen ?_; (repeat (first | assumption | exact ofW_ok _ | exact fullW_W _ | apply okW_with | apply okW_less | refine okW_orS ?_ ?_ | refine okW_andS ?_ ?_ | refine okW_minusS ?_ ?_)); done) | omega | rfl) oneW_ ((show ((ss : List Int).map wV).length = 4 from (by simp only [List.length_map, List.length_set, List.length_replicate, List.length_cons, List.length_nil]; first | done | assumption | exact from_len _ | exact of_len _ | exact ofZ_len _ | exact (ofW_ok _).1 | exact (fullW_W _).1 | exact (okW_with (by assumption)).1 | exact (okW_less (by assumption)).1 | exact put_len (from_len _) | exact orD_len _ _ | exact andD_len _ _ | exact minusD_len _ _ | exact fullD_len _ | (refine okLen ?_; (repeat (first | assumption | exact ofW_ok _ | exact fullW_W _ | apply okW_with | apply okW_less | refine okW_orS ?_ ?_ | refine okW_andS ?_ ?_ | refine okW_minusS ?_ ?_)); done) | omega | rfl)).trans (show ((List.replicate 4 (0 : Int) : List Int).map wV).length = 4 from (by simp only [List.length_map, List.length_set, List.length_replicate, List.length_cons, List.length_nil]; first | done | assumption | exact from_len _ | exact of_len _ | exact ofZ_len _ | exact (ofW_ok _).1 | exact (fullW_W _).1 | exact (okW_with (by assumption)).1 | exact (okW_less (by assumption)).1 | exact put_len (from_len _) | exact orD_len _ _ | exact andD_len _ _ | exact minusD_len _ _ | exact fullD_len _ | (refine okLen ?_; (repeat (first | assumption | exact ofW_ok _ | exact fullW_W _ | apply okW_with | apply okW_less | refine okW_orS ?_ ?_ | refine okW_andS ?_ ?_ | refine okW_minusS ?_ ?_)); done) | omega | rfl)).symm) bx761) ?_
     rintro d_ v_ w769 ⟨rfl, g770, bx771⟩
     have hS774 := hS741.gr' g770 (by rw [hCs125]; exact ⟨(by simp only [add_block]; omega), (by simp only [add_block]; omega), (by simp only [add_block]; omega), trivial⟩)
     refine ⟨_, rfl, fun act773 f772 => ⟨hS774, ?_⟩⟩
     clear f766
     have szw769 := g770.size
     have e775 := e750.gr g770 (fun k h => by injection h; omega)
     clear e750
     have r776 := r751.gr g770 (fun k h => by injection h; omega)
     clear r751
     have bx777 := bx752.gr g770 (fun h => by injection h; omega)
     clear bx752
     have bx778 := bx753.gr g770 (fun h => by injection h; omega)
     clear bx753
     have bx779 := bx754.gr g770 (fun h => by injection h; omega)
     clear bx754
     have bx780 := bx755.gr g770 (fun h => by injection h; omega)
     clear bx755
     have bx781 := bx756.gr g770 (fun h => by injection h; omega)
     clear bx756
     have bx782 := bx757.gr g770 (fun h => by injection h; omega)
     clear bx757
     have bx783 := bx758.gr g770 (fun h => by injection h; omega)
     clear bx758
     have bx784 := bx759.gr g770 (fun h => by injection h; omega)
     clear bx759
     have bx785 := bx760.gr g770 (fun h => by injection h; omega)
     clear bx760
     have ow786 := ow744.gr g770 (fun k hk e => by have := Sx_base hk; injection e; omega)
     clear ow744
     clear bx761 g770
     refine AtH.rd (by kernel_rfl) (fun d v c a w h => by cases d <;> exact h) hS774 [10] [[]] [(3, .slice A742 ms.length c743)] #[true, true, true, true, true, true, true, true, true, true, true] [] 0 f772 (by kernel_rfl) trivial (fun act788 f787 => ?_)
     clear f772
     refine AtH.done (by kernel_rfl) ?_
     clear hS774
     refine t_n ?_
     have f789 := f787.sub (r := [(3, .slice A742 ms.length c743), (2, .pointer (some ⟨w538.heap.size, 0, none⟩))]) ⟨rfl, rfl, trivial⟩
     exact ⟨ss, ms, w538.heap.size, A742, c743, f789, e775, r776, bx777, bx778, bx779, bx780, bx781, bx782, bx783, bx784, (ow786.imp (fun g _ hs => ⟨(fun e => by have := Sx_base hs; injection e; omega), (by have := Sx_base hs; show w106.heap.size ≤ g; omega)⟩)), bx771, (by omega), (by omega), hat⟩
   ·refine OneH.seq f521 [[]] [(2, .pointer (some ⟨w519.heap.size, 0, none⟩))] (w519.alloc (.cells ((List.replicate 4 (0 : Int) : List Int).map wV).toArray 28 (0, 0))) [] #[true, false, true, false, false, false, false, false, true, false, false] (by kernel_rfl) (by kernel_rfl) (by kernel_rfl) trivial (fun act794 w791 hw792 f793 => ?_)
    clear f521
    have g795 := gr_alloc hw792
    have hS790 := hS526.gr g795
    have szw791 := g795.size
    have e797 := e527.gr g795 no_row
    clear e527
    have r798 := r528.gr g795 (fun _ h => by cases h)
    clear r528
    have bx799 := bx529.gr g795 (by simp)
    clear bx529
    have bx800 := bx530.gr g795 (by simp)
    clear bx530
    have bx801 := bx531.gr g795 (by simp)
    clear bx531
    have bx802 := bx532.gr g795 (by simp)
    clear bx532
    have bx803 := bx533.gr g795 (by simp)
    clear bx533
    have bx804 := bx534.gr g795 (by simp)
    clear bx534
    have bx805 := bx535.gr g795 (by simp)
    clear bx535
    have bx806 := bx536.gr g795 (by simp)
    clear bx536
    have bx807 := bx525.gr g795 (by simp)
    clear bx525
    have bx808 : Bx w791 (w519.heap.size) ((List.replicate 4 (0 : Int) : List Int).map wV) 28 := Bx.new hw792
    have := bx808.lt
    clear g795 hw792
    refine ⟨hS790, ?_⟩
    refine AtH.all [1] 7 (by kernel_rfl) (by simp) ⟨?_, trivial⟩
    refine OneH.call f793 20 #[.int .i64 (4)] (some 14) #[true, true, true, false, false, false, false, false, true, false, false] (by kernel_rfl) (by kernel_rfl) ((full_any (n := 4) (by omega)).mono (R' := fun e w' => e = .returned (.agg ((([15, 0, 0, 0] : List Int) : List Int).map wV).toArray) ∧ Ext _ w') (fun e_ w_ h_ => by rw [show (fullW 4 : List Int) = ([15, 0, 0, 0] : List Int) from by decide +kernel] at h_; exact h_)) ?_
    rintro e_ w810 ⟨rfl, he⟩
    refine ⟨_, rfl, _, rfl, fun act811 f812 => ?_⟩
    clear f793
    have g813 := gr_ext he
    have hS809 := hS790.gr g813
    have szw810 := g813.size
    have e814 := e797.gr g813 no_row
    clear e797
    have r815 := r798.gr g813 (fun _ h => by cases h)
    clear r798
    have bx816 := bx799.gr g813 (by simp)
    clear bx799
    have bx817 := bx800.gr g813 (by simp)
    clear bx800
    have bx818 := bx801.gr g813 (by simp)
    clear bx801
    have bx819 := bx802.gr g813 (by simp)
    clear bx802
    have bx820 := bx803.gr g813 (by simp)
    clear bx803
    have bx821 := bx804.gr g813 (by simp)
    clear bx804
    have bx822 := bx805.gr g813 (by simp)
    clear bx805
    have bx823 := bx806.gr g813 (by simp)
    clear bx806
    have bx824 := bx807.gr g813 (by simp)
    clear bx807
    have bx825 := bx808.gr g813 (by simp)
    clear bx808
    clear g813 he
    refine ⟨hS809, ?_⟩
    refine AtH.all [3] 6 (by kernel_rfl) (by simp) ⟨?_, trivial⟩
    refine OneH.call f812 24 #[.slice (some ⟨w128.heap.size, 0, none⟩) 1 1] (some 16) #[true, true, true, true, false, false, false, false, true, false, false] (by kernel_rfl) (by kernel_rfl) ((of_any (la := ([2] : List Int)) (Bx.rdI (l := ([2] : List Int)) bx824 rfl (by first | decide | exact Nat.le_of_ble_eq_true rfl))).mono (R' := fun e w' => e = .returned (.agg ((([4, 0, 0, 0] : List Int) : List Int).map wV).toArray) ∧ Ext _ w') (fun e_ w_ h_ => by rw [show (ofW ([2] : List Int) : List Int) = ([4, 0, 0, 0] : List Int) from by decide +kernel] at h_; exact h_)) ?_
    rintro e_ w827 ⟨rfl, he⟩
    refine ⟨_, rfl, _, rfl, fun act828 f829 => ?_⟩
    clear f812
    have g830 := gr_ext he
    have hS826 := hS809.gr g830
    have szw827 := g830.size
    have e831 := e814.gr g830 no_row
    clear e814
    have r832 := r815.gr g830 (fun _ h => by cases h)
    clear r815
    have bx833 := bx816.gr g830 (by simp)
    clear bx816
    have bx834 := bx817.gr g830 (by simp)
    clear bx817
    have bx835 := bx818.gr g830 (by simp)
    clear bx818
    have bx836 := bx819.gr g830 (by simp)
    clear bx819
    have bx837 := bx820.gr g830 (by simp)
    clear bx820
    have bx838 := bx821.gr g830 (by simp)
    clear bx821
    have bx839 := bx822.gr g830 (by simp)
    clear bx822
    have bx840 := bx823.gr g830 (by simp)
    clear bx823
    have bx841 := bx824.gr g830 (by simp)
    clear bx824
    have bx842 := bx825.gr g830 (by simp)
    clear bx825
    clear g830 he
    refine ⟨hS826, ?_⟩
    refine AtH.all [4] 5 (by kernel_rfl) (by simp) ⟨?_, trivial⟩
    refine OneH.call f829 12 #[.agg #[.slice (some ⟨w.heap.size, 0, none⟩) 4 4, .slice (some ⟨w4.heap.size, 0, none⟩) 4 4, .slice (some ⟨w59.heap.size, 0, none⟩) 4 4], .agg ((([15, 0, 0, 0] : List Int) : List Int).map wV).toArray, .int .i64 (0), .agg ((([4, 0, 0, 0] : List Int) : List Int).map wV).toArray] (some 17) #[true, true, true, true, true, false, false, false, true, false, false] (by kernel_rfl) (by kernel_rfl) (attract_any (g := exG) (s := ([15, 0, 0, 0] : List Int)) (t := ([4, 0, 0, 0] : List Int)) (p := 0) (RdG.mk (G := exG) (Bx.rdI (l := ([0, 1, 1, 0] : List Int)) bx833 rfl (by first | decide | exact Nat.le_of_ble_eq_true rfl)) (Bx.rdI (l := ([0, 0, 0, 0] : List Int)) bx834 rfl (by first | decide | exact Nat.le_of_ble_eq_true rfl)) (Bx.rdII (ls := ([([0, 1] : List Int), ([2] : List Int), ([0, 3] : List Int), ([3] : List Int)] : List (List Int))) bx839 ⟨⟨_, _, rfl, (by decide), (Bx.rdI (l := ([0, 1] : List Int)) bx835 rfl (by first | decide | exact Nat.le_of_ble_eq_true rfl))⟩, ⟨_, _, rfl, (by decide), (Bx.rdI (l := ([2] : List Int)) bx836 rfl (by first | decide | exact Nat.le_of_ble_eq_true rfl))⟩, ⟨_, _, rfl, (by decide), (Bx.rdI (l := ([0, 3] : List Int)) bx837 rfl (by first | decide | exact Nat.le_of_ble_eq_true rfl))⟩, ⟨_, _, rfl, (by decide), (Bx.rdI (l := ([3] : List Int)) bx838 rfl (by first | decide | exact Nat.le_of_ble_eq_true rfl))⟩, trivial⟩ (by decide)) (by decide) (by decide) (by decide)) (okW_lit ⟨by omega, by omega⟩ ⟨by omega, by omega⟩ ⟨by omega, by omega⟩ ⟨by omega, by omega⟩) (okW_lit ⟨by omega, by omega⟩ ⟨by omega, by omega⟩ ⟨by omega, by omega⟩ ⟨by omega, by omega⟩) (r832.wide (Nat.zero_le _) (by omega))) ?_
    rintro e_ w848 ⟨A844, c845, ss, ms, rfl, he, ow846, hat⟩
    have hok_ss := att_ok hat
    have hl_ss := okLen hok_ss
    have hlm_ms := att_len hat
    obtain ⟨hs1, hs2, hs3, hs4⟩ := shown12 hat
    refine ⟨_, rfl, _, rfl, fun act849 f850 => ?_⟩
    clear f829
    have g851 := gr_ext he
    have hS843 := hS826.gr g851
    have szw848 := g851.size
    have e852 := e831.gr g851 no_row
    clear e831
    have r853 := r832.gr g851 (fun _ h => by cases h)
    clear r832
    have bx854 := bx833.gr g851 (by simp)
    clear bx833
    have bx855 := bx834.gr g851 (by simp)
    clear bx834
    have bx856 := bx835.gr g851 (by simp)
    clear bx835
    have bx857 := bx836.gr g851 (by simp)
    clear bx836
    have bx858 := bx837.gr g851 (by simp)
    clear bx837
    have bx859 := bx838.gr g851 (by simp)
    clear bx838
    have bx860 := bx839.gr g851 (by simp)
    clear bx839
    have bx861 := bx840.gr g851 (by simp)
    clear bx840
    have bx862 := bx841.gr g851 (by simp)
    clear bx841
    have bx863 := bx842.gr g851 (by simp)
    clear bx842
    clear g851 he
    refine ⟨hS843, ?_⟩
    refine AtH.rd (by kernel_rfl) (fun d v c a w h => by cases d <;> exact h) hS843 [5] [[]] [(12, .tuple #[.agg ((ss : List Int).map wV).toArray, .slice A844 ms.length c845])] #[true, true, true, true, true, true, false, false, true, false, false] [] 4 f850 (by kernel_rfl) trivial (fun act865 f864 => ?_)
    clear f850
    refine AtH.rd (by kernel_rfl) (fun d v c a w h => by cases d <;> exact h) hS843 [6] [[]] [(18, .agg ((ss : List Int).map wV).toArray)] #[true, true, true, true, true, true, true, false, true, false, false] [] 3 f864 (by kernel_rfl) trivial (fun act867 f866 => ?_)
    clear f864
    refine AtH.rd (by kernel_rfl) (fun d v c a w h => by cases d <;> exact h) hS843 [7] [[]] [(19, .slice A844 ms.length c845)] #[true, true, true, true, true, true, true, true, true, false, false] [] 2 f866 (by kernel_rfl) trivial (fun act869 f868 => ?_)
    clear f866
    refine AtH.all [9] 1 (by kernel_rfl) (by simp) ⟨?_, trivial⟩
    refine OneH.act f868 #[true, true, true, true, true, true, true, true, true, true, false] (by kernel_rfl) (storeBlk (t := 28) (b := w519.heap.size) (n := 4) (cs' := ((ss : List Int).map wV)) (by kernel_rfl) (by kernel_rfl) (by simp only [List.length_map, List.length_set, List.length_replicate, List.length_cons, List.length_nil]; first | done | assumption | exact from_len _ | exact of_len _ | exact ofZ_len _ | exact (ofW_ok _).1 | exact (fullW_W _).1 | exact (okW_with (by assumption)).1 | exact (okW_less (by assumption)).1 | exact put_len (from_len _) | exact orD_len _ _ | exact andD_len _ _ | exact minusD_len _ _ | exact fullD_len _ | (refine okLen ?_; (repeat (first | assumption | exact ofW_ok _ | exact fullW_W _ | apply okW_with | apply okW_less | refine okW_orS ?_ ?_ | refine okW_andS ?_ ?_ | refine okW_minusS ?_ ?_)); done) | omega | rfl) oneW_ ((show ((ss : List Int).map wV).length = 4 from (by simp only [List.length_map, List.length_set, List.length_replicate, List.length_cons, List.length_nil]; first | done | assumption | exact from_len _ | exact of_len _ | exact ofZ_len _ | exact (ofW_ok _).1 | exact (fullW_W _).1 | exact (okW_with (by assumption)).1 | exact (okW_less (by assumption)).1 | exact put_len (from_len _) | exact orD_len _ _ | exact andD_len _ _ | exact minusD_len _ _ | exact fullD_len _ | (refine okLen ?_; (repeat (first | assumption | exact ofW_ok _ | exact fullW_W _ | apply okW_with | apply okW_less | refine okW_orS ?_ ?_ | refine okW_andS ?_ ?_ | refine okW_minusS ?_ ?_)); done) | omega | rfl)).trans (show ((List.replicate 4 (0 : Int) : List Int).map wV).length = 4 from (by simp only [List.length_map, List.length_set, List.length_replicate, List.length_cons, List.length_nil]; first | done | assumption | exact from_len _ | exact of_len _ | exact ofZ_len _ | exact (ofW_ok _).1 | exact (fullW_W _).1 | exact (okW_with (by assumption)).1 | exact (okW_less (by assumption)).1 | exact put_len (from_len _) | exact orD_len _ _ | exact andD_len _ _ | exact minusD_len _ _ | exact fullD_len _ | (refine okLen ?_; (repeat (first | assumption | exact ofW_ok _ | exact fullW_W _ | apply okW_with | apply okW_less | refine okW_orS ?_ ?_ | refine okW_andS ?_ ?_ | refine okW_minusS ?_ ?_)); done) | omega | rfl)).symm) bx863) ?_
    rintro d_ v_ w871 ⟨rfl, g872, bx873⟩
    have hS876 := hS843.gr' g872 (by rw [hCs125]; exact ⟨(by simp only [add_block]; omega), (by simp only [add_block]; omega), (by simp only [add_block]; omega), trivial⟩)
    refine ⟨_, rfl, fun act875 f874 => ⟨hS876, ?_⟩⟩
    clear f868
    have szw871 := g872.size
    have e877 := e852.gr g872 (fun k h => by injection h; omega)
    clear e852
    have r878 := r853.gr g872 (fun k h => by injection h; omega)
    clear r853
    have bx879 := bx854.gr g872 (fun h => by injection h; omega)
    clear bx854
    have bx880 := bx855.gr g872 (fun h => by injection h; omega)
    clear bx855
    have bx881 := bx856.gr g872 (fun h => by injection h; omega)
    clear bx856
    have bx882 := bx857.gr g872 (fun h => by injection h; omega)
    clear bx857
    have bx883 := bx858.gr g872 (fun h => by injection h; omega)
    clear bx858
    have bx884 := bx859.gr g872 (fun h => by injection h; omega)
    clear bx859
    have bx885 := bx860.gr g872 (fun h => by injection h; omega)
    clear bx860
    have bx886 := bx861.gr g872 (fun h => by injection h; omega)
    clear bx861
    have bx887 := bx862.gr g872 (fun h => by injection h; omega)
    clear bx862
    have ow888 := ow846.gr g872 (fun k hk e => by have := Sx_base hk; injection e; omega)
    clear ow846
    clear bx863 g872
    refine AtH.rd (by kernel_rfl) (fun d v c a w h => by cases d <;> exact h) hS876 [10] [[]] [(3, .slice A844 ms.length c845)] #[true, true, true, true, true, true, true, true, true, true, true] [] 0 f874 (by kernel_rfl) trivial (fun act890 f889 => ?_)
    clear f874
    refine AtH.done (by kernel_rfl) ?_
    clear hS876
    refine t_n ?_
    have f891 := f889.sub (r := [(3, .slice A844 ms.length c845), (2, .pointer (some ⟨w519.heap.size, 0, none⟩))]) ⟨rfl, rfl, trivial⟩
    exact ⟨ss, ms, w519.heap.size, A844, c845, f891, e877, r878, bx879, bx880, bx881, bx882, bx883, bx884, bx885, bx886, (ow888.imp (fun g _ hs => ⟨(fun e => by have := Sx_base hs; injection e; omega), (by have := Sx_base hs; show w106.heap.size ≤ g; omega)⟩)), bx873, (by omega), (by omega), hat⟩
  ·refine OneH.seq f141 [[]] [(2, .pointer (some ⟨w128.heap.size, 0, none⟩))] (w128.alloc (.cells ((List.replicate 4 (0 : Int) : List Int).map wV).toArray 28 (0, 0))) [] #[true, false, false, false, false, false, false, false, true, false, false] (by kernel_rfl) (by kernel_rfl) (by kernel_rfl) trivial (fun act896 w893 hw894 f895 => ?_)
   clear f141
   have g897 := gr_alloc hw894
   have hS892 := hS130.gr g897
   have szw893 := g897.size
   have e899 := e131.gr g897 no_row
   clear e131
   have r900 := r132.gr g897 (fun _ h => by cases h)
   clear r132
   have bx901 := bx133.gr g897 (by simp)
   clear bx133
   have bx902 := bx134.gr g897 (by simp)
   clear bx134
   have bx903 := bx135.gr g897 (by simp)
   clear bx135
   have bx904 := bx136.gr g897 (by simp)
   clear bx136
   have bx905 := bx137.gr g897 (by simp)
   clear bx137
   have bx906 := bx138.gr g897 (by simp)
   clear bx138
   have bx907 := bx139.gr g897 (by simp)
   clear bx139
   have bx908 := bx140.gr g897 (by simp)
   clear bx140
   have bx909 : Bx w893 (w128.heap.size) ((List.replicate 4 (0 : Int) : List Int).map wV) 28 := Bx.new hw894
   have := bx909.lt
   clear g897 hw894
   refine ⟨hS892, ?_⟩
   refine AtH.all [1, 2] 8 (by kernel_rfl) (by simp) ⟨?_, ?_, trivial⟩
   ·refine OneH.call f895 20 #[.int .i64 (4)] (some 14) #[true, true, false, false, false, false, false, false, true, false, false] (by kernel_rfl) (by kernel_rfl) ((full_any (n := 4) (by omega)).mono (R' := fun e w' => e = .returned (.agg ((([15, 0, 0, 0] : List Int) : List Int).map wV).toArray) ∧ Ext _ w') (fun e_ w_ h_ => by rw [show (fullW 4 : List Int) = ([15, 0, 0, 0] : List Int) from by decide +kernel] at h_; exact h_)) ?_
    rintro e_ w911 ⟨rfl, he⟩
    refine ⟨_, rfl, _, rfl, fun act912 f913 => ?_⟩
    clear f895
    have g914 := gr_ext he
    have hS910 := hS892.gr g914
    have szw911 := g914.size
    have e915 := e899.gr g914 no_row
    clear e899
    have r916 := r900.gr g914 (fun _ h => by cases h)
    clear r900
    have bx917 := bx901.gr g914 (by simp)
    clear bx901
    have bx918 := bx902.gr g914 (by simp)
    clear bx902
    have bx919 := bx903.gr g914 (by simp)
    clear bx903
    have bx920 := bx904.gr g914 (by simp)
    clear bx904
    have bx921 := bx905.gr g914 (by simp)
    clear bx905
    have bx922 := bx906.gr g914 (by simp)
    clear bx906
    have bx923 := bx907.gr g914 (by simp)
    clear bx907
    have bx924 := bx908.gr g914 (by simp)
    clear bx908
    have bx925 := bx909.gr g914 (by simp)
    clear bx909
    clear g914 he
    refine ⟨hS910, ?_⟩
    refine AtH.all [2] 7 (by kernel_rfl) (by simp) ⟨?_, trivial⟩
    refine OneH.seq f913 [[]] [(15, .slice (some ⟨w911.heap.size, 0, none⟩) 1 1)] (w911.alloc (.cells #[.int .i64 (2)] 3 (0, 0))) [] #[true, true, true, false, false, false, false, false, true, false, false] (by kernel_rfl) (by kernel_rfl) (by kernel_rfl) trivial (fun act930 w927 hw928 f929 => ?_)
    clear f913
    have g931 := gr_alloc hw928
    have hS934 := hS910.gr g931
    refine ⟨hS934, ?_⟩
    have szw927 := g931.size
    have e935 := e915.gr g931 no_row
    clear e915
    have r936 := r916.gr g931 (fun _ h => by cases h)
    clear r916
    have bx937 := bx917.gr g931 (by simp)
    clear bx917
    have bx938 := bx918.gr g931 (by simp)
    clear bx918
    have bx939 := bx919.gr g931 (by simp)
    clear bx919
    have bx940 := bx920.gr g931 (by simp)
    clear bx920
    have bx941 := bx921.gr g931 (by simp)
    clear bx921
    have bx942 := bx922.gr g931 (by simp)
    clear bx922
    have bx943 := bx923.gr g931 (by simp)
    clear bx923
    have bx944 := bx924.gr g931 (by simp)
    clear bx924
    have bx945 := bx925.gr g931 (by simp)
    clear bx925
    have bx933 : Bx w927 (w911.heap.size) [.int .i64 (2)] 3 := Bx.new hw928
    have := bx933.lt
    clear g931 hw928
    refine AtH.all [3] 6 (by kernel_rfl) (by simp) ⟨?_, trivial⟩
    refine OneH.call f929 24 #[.slice (some ⟨w911.heap.size, 0, none⟩) 1 1] (some 16) #[true, true, true, true, false, false, false, false, true, false, false] (by kernel_rfl) (by kernel_rfl) ((of_any (la := ([2] : List Int)) (Bx.rdI (l := ([2] : List Int)) bx933 rfl (by first | decide | exact Nat.le_of_ble_eq_true rfl))).mono (R' := fun e w' => e = .returned (.agg ((([4, 0, 0, 0] : List Int) : List Int).map wV).toArray) ∧ Ext _ w') (fun e_ w_ h_ => by rw [show (ofW ([2] : List Int) : List Int) = ([4, 0, 0, 0] : List Int) from by decide +kernel] at h_; exact h_)) ?_
    rintro e_ w947 ⟨rfl, he⟩
    refine ⟨_, rfl, _, rfl, fun act948 f949 => ?_⟩
    clear f929
    have g950 := gr_ext he
    have hS946 := hS934.gr g950
    have szw947 := g950.size
    have e951 := e935.gr g950 no_row
    clear e935
    have r952 := r936.gr g950 (fun _ h => by cases h)
    clear r936
    have bx953 := bx937.gr g950 (by simp)
    clear bx937
    have bx954 := bx938.gr g950 (by simp)
    clear bx938
    have bx955 := bx939.gr g950 (by simp)
    clear bx939
    have bx956 := bx940.gr g950 (by simp)
    clear bx940
    have bx957 := bx941.gr g950 (by simp)
    clear bx941
    have bx958 := bx942.gr g950 (by simp)
    clear bx942
    have bx959 := bx943.gr g950 (by simp)
    clear bx943
    have bx960 := bx944.gr g950 (by simp)
    clear bx944
    have bx961 := bx945.gr g950 (by simp)
    clear bx945
    have bx962 := bx933.gr g950 (by simp)
    clear bx933
    clear g950 he
    refine ⟨hS946, ?_⟩
    refine AtH.all [4] 5 (by kernel_rfl) (by simp) ⟨?_, trivial⟩
    refine OneH.call f949 12 #[.agg #[.slice (some ⟨w.heap.size, 0, none⟩) 4 4, .slice (some ⟨w4.heap.size, 0, none⟩) 4 4, .slice (some ⟨w59.heap.size, 0, none⟩) 4 4], .agg ((([15, 0, 0, 0] : List Int) : List Int).map wV).toArray, .int .i64 (0), .agg ((([4, 0, 0, 0] : List Int) : List Int).map wV).toArray] (some 17) #[true, true, true, true, true, false, false, false, true, false, false] (by kernel_rfl) (by kernel_rfl) (attract_any (g := exG) (s := ([15, 0, 0, 0] : List Int)) (t := ([4, 0, 0, 0] : List Int)) (p := 0) (RdG.mk (G := exG) (Bx.rdI (l := ([0, 1, 1, 0] : List Int)) bx953 rfl (by first | decide | exact Nat.le_of_ble_eq_true rfl)) (Bx.rdI (l := ([0, 0, 0, 0] : List Int)) bx954 rfl (by first | decide | exact Nat.le_of_ble_eq_true rfl)) (Bx.rdII (ls := ([([0, 1] : List Int), ([2] : List Int), ([0, 3] : List Int), ([3] : List Int)] : List (List Int))) bx959 ⟨⟨_, _, rfl, (by decide), (Bx.rdI (l := ([0, 1] : List Int)) bx955 rfl (by first | decide | exact Nat.le_of_ble_eq_true rfl))⟩, ⟨_, _, rfl, (by decide), (Bx.rdI (l := ([2] : List Int)) bx956 rfl (by first | decide | exact Nat.le_of_ble_eq_true rfl))⟩, ⟨_, _, rfl, (by decide), (Bx.rdI (l := ([0, 3] : List Int)) bx957 rfl (by first | decide | exact Nat.le_of_ble_eq_true rfl))⟩, ⟨_, _, rfl, (by decide), (Bx.rdI (l := ([3] : List Int)) bx958 rfl (by first | decide | exact Nat.le_of_ble_eq_true rfl))⟩, trivial⟩ (by decide)) (by decide) (by decide) (by decide)) (okW_lit ⟨by omega, by omega⟩ ⟨by omega, by omega⟩ ⟨by omega, by omega⟩ ⟨by omega, by omega⟩) (okW_lit ⟨by omega, by omega⟩ ⟨by omega, by omega⟩ ⟨by omega, by omega⟩ ⟨by omega, by omega⟩) (r952.wide (Nat.zero_le _) (by omega))) ?_
    rintro e_ w968 ⟨A964, c965, ss, ms, rfl, he, ow966, hat⟩
    have hok_ss := att_ok hat
    have hl_ss := okLen hok_ss
    have hlm_ms := att_len hat
    obtain ⟨hs1, hs2, hs3, hs4⟩ := shown12 hat
    refine ⟨_, rfl, _, rfl, fun act969 f970 => ?_⟩
    clear f949
    have g971 := gr_ext he
    have hS963 := hS946.gr g971
    have szw968 := g971.size
    have e972 := e951.gr g971 no_row
    clear e951
    have r973 := r952.gr g971 (fun _ h => by cases h)
    clear r952
    have bx974 := bx953.gr g971 (by simp)
    clear bx953
    have bx975 := bx954.gr g971 (by simp)
    clear bx954
    have bx976 := bx955.gr g971 (by simp)
    clear bx955
    have bx977 := bx956.gr g971 (by simp)
    clear bx956
    have bx978 := bx957.gr g971 (by simp)
    clear bx957
    have bx979 := bx958.gr g971 (by simp)
    clear bx958
    have bx980 := bx959.gr g971 (by simp)
    clear bx959
    have bx981 := bx960.gr g971 (by simp)
    clear bx960
    have bx982 := bx961.gr g971 (by simp)
    clear bx961
    have bx983 := bx962.gr g971 (by simp)
    clear bx962
    clear g971 he
    refine ⟨hS963, ?_⟩
    refine AtH.rd (by kernel_rfl) (fun d v c a w h => by cases d <;> exact h) hS963 [5] [[]] [(12, .tuple #[.agg ((ss : List Int).map wV).toArray, .slice A964 ms.length c965])] #[true, true, true, true, true, true, false, false, true, false, false] [] 4 f970 (by kernel_rfl) trivial (fun act985 f984 => ?_)
    clear f970
    refine AtH.rd (by kernel_rfl) (fun d v c a w h => by cases d <;> exact h) hS963 [6] [[]] [(18, .agg ((ss : List Int).map wV).toArray)] #[true, true, true, true, true, true, true, false, true, false, false] [] 3 f984 (by kernel_rfl) trivial (fun act987 f986 => ?_)
    clear f984
    refine AtH.rd (by kernel_rfl) (fun d v c a w h => by cases d <;> exact h) hS963 [7] [[]] [(19, .slice A964 ms.length c965)] #[true, true, true, true, true, true, true, true, true, false, false] [] 2 f986 (by kernel_rfl) trivial (fun act989 f988 => ?_)
    clear f986
    refine AtH.all [9] 1 (by kernel_rfl) (by simp) ⟨?_, trivial⟩
    refine OneH.act f988 #[true, true, true, true, true, true, true, true, true, true, false] (by kernel_rfl) (storeBlk (t := 28) (b := w128.heap.size) (n := 4) (cs' := ((ss : List Int).map wV)) (by kernel_rfl) (by kernel_rfl) (by simp only [List.length_map, List.length_set, List.length_replicate, List.length_cons, List.length_nil]; first | done | assumption | exact from_len _ | exact of_len _ | exact ofZ_len _ | exact (ofW_ok _).1 | exact (fullW_W _).1 | exact (okW_with (by assumption)).1 | exact (okW_less (by assumption)).1 | exact put_len (from_len _) | exact orD_len _ _ | exact andD_len _ _ | exact minusD_len _ _ | exact fullD_len _ | (refine okLen ?_; (repeat (first | assumption | exact ofW_ok _ | exact fullW_W _ | apply okW_with | apply okW_less | refine okW_orS ?_ ?_ | refine okW_andS ?_ ?_ | refine okW_minusS ?_ ?_)); done) | omega | rfl) oneW_ ((show ((ss : List Int).map wV).length = 4 from (by simp only [List.length_map, List.length_set, List.length_replicate, List.length_cons, List.length_nil]; first | done | assumption | exact from_len _ | exact of_len _ | exact ofZ_len _ | exact (ofW_ok _).1 | exact (fullW_W _).1 | exact (okW_with (by assumption)).1 | exact (okW_less (by assumption)).1 | exact put_len (from_len _) | exact orD_len _ _ | exact andD_len _ _ | exact minusD_len _ _ | exact fullD_len _ | (refine okLen ?_; (repeat (first | assumption | exact ofW_ok _ | exact fullW_W _ | apply okW_with | apply okW_less | refine okW_orS ?_ ?_ | refine okW_andS ?_ ?_ | refine okW_minusS ?_ ?_)); done) | omega | rfl)).trans (show ((List.replicate 4 (0 : Int) : List Int).map wV).length = 4 from (by simp only [List.length_map, List.length_set, List.length_replicate, List.length_cons, List.length_nil]; first | done | assumption | exact from_len _ | exact of_len _ | exact ofZ_len _ | exact (ofW_ok _).1 | exact (fullW_W _).1 | exact (okW_with (by assumption)).1 | exact (okW_less (by assumption)).1 | exact put_len (from_len _) | exact orD_len _ _ | exact andD_len _ _ | exact minusD_len _ _ | exact fullD_len _ | (refine okLen ?_; (repeat (first | assumption | exact ofW_ok _ | exact fullW_W _ | apply okW_with | apply okW_less | refine okW_orS ?_ ?_ | refine okW_andS ?_ ?_ | refine okW_minusS ?_ ?_)); done) | omega | rfl)).symm) bx982) ?_
    rintro d_ v_ w991 ⟨rfl, g992, bx993⟩
    have hS996 := hS963.gr' g992 (by rw [hCs125]; exact ⟨(by simp only [add_block]; omega), (by simp only [add_block]; omega), (by simp only [add_block]; omega), trivial⟩)
    refine ⟨_, rfl, fun act995 f994 => ⟨hS996, ?_⟩⟩
    clear f988
    have szw991 := g992.size
    have e997 := e972.gr g992 (fun k h => by injection h; omega)
    clear e972
    have r998 := r973.gr g992 (fun k h => by injection h; omega)
    clear r973
    have bx999 := bx974.gr g992 (fun h => by injection h; omega)
    clear bx974
    have bx1000 := bx975.gr g992 (fun h => by injection h; omega)
    clear bx975
    have bx1001 := bx976.gr g992 (fun h => by injection h; omega)
    clear bx976
    have bx1002 := bx977.gr g992 (fun h => by injection h; omega)
    clear bx977
    have bx1003 := bx978.gr g992 (fun h => by injection h; omega)
    clear bx978
    have bx1004 := bx979.gr g992 (fun h => by injection h; omega)
    clear bx979
    have bx1005 := bx980.gr g992 (fun h => by injection h; omega)
    clear bx980
    have bx1006 := bx981.gr g992 (fun h => by injection h; omega)
    clear bx981
    have bx1007 := bx983.gr g992 (fun h => by injection h; omega)
    clear bx983
    have ow1008 := ow966.gr g992 (fun k hk e => by have := Sx_base hk; injection e; omega)
    clear ow966
    clear bx982 g992
    refine AtH.rd (by kernel_rfl) (fun d v c a w h => by cases d <;> exact h) hS996 [10] [[]] [(3, .slice A964 ms.length c965)] #[true, true, true, true, true, true, true, true, true, true, true] [] 0 f994 (by kernel_rfl) trivial (fun act1010 f1009 => ?_)
    clear f994
    refine AtH.done (by kernel_rfl) ?_
    clear hS996
    refine t_n ?_
    have f1011 := f1009.sub (r := [(3, .slice A964 ms.length c965), (2, .pointer (some ⟨w128.heap.size, 0, none⟩))]) ⟨rfl, rfl, trivial⟩
    exact ⟨ss, ms, w128.heap.size, A964, c965, f1011, e997, r998, bx999, bx1000, bx1001, bx1002, bx1003, bx1004, bx1005, bx1006, (ow1008.imp (fun g _ hs => ⟨(fun e => by have := Sx_base hs; injection e; omega), (by have := Sx_base hs; show w106.heap.size ≤ g; omega)⟩)), bx993, (by omega), (by omega), hat⟩
   ·refine OneH.seq f895 [[]] [(15, .slice (some ⟨w893.heap.size, 0, none⟩) 1 1)] (w893.alloc (.cells #[.int .i64 (2)] 3 (0, 0))) [] #[true, false, true, false, false, false, false, false, true, false, false] (by kernel_rfl) (by kernel_rfl) (by kernel_rfl) trivial (fun act1016 w1013 hw1014 f1015 => ?_)
    clear f895
    have g1017 := gr_alloc hw1014
    have hS1020 := hS892.gr g1017
    refine ⟨hS1020, ?_⟩
    have szw1013 := g1017.size
    have e1021 := e899.gr g1017 no_row
    clear e899
    have r1022 := r900.gr g1017 (fun _ h => by cases h)
    clear r900
    have bx1023 := bx901.gr g1017 (by simp)
    clear bx901
    have bx1024 := bx902.gr g1017 (by simp)
    clear bx902
    have bx1025 := bx903.gr g1017 (by simp)
    clear bx903
    have bx1026 := bx904.gr g1017 (by simp)
    clear bx904
    have bx1027 := bx905.gr g1017 (by simp)
    clear bx905
    have bx1028 := bx906.gr g1017 (by simp)
    clear bx906
    have bx1029 := bx907.gr g1017 (by simp)
    clear bx907
    have bx1030 := bx908.gr g1017 (by simp)
    clear bx908
    have bx1031 := bx909.gr g1017 (by simp)
    clear bx909
    have bx1019 : Bx w1013 (w893.heap.size) [.int .i64 (2)] 3 := Bx.new hw1014
    have := bx1019.lt
    clear g1017 hw1014
    refine AtH.all [1] 7 (by kernel_rfl) (by simp) ⟨?_, trivial⟩
    refine OneH.call f1015 20 #[.int .i64 (4)] (some 14) #[true, true, true, false, false, false, false, false, true, false, false] (by kernel_rfl) (by kernel_rfl) ((full_any (n := 4) (by omega)).mono (R' := fun e w' => e = .returned (.agg ((([15, 0, 0, 0] : List Int) : List Int).map wV).toArray) ∧ Ext _ w') (fun e_ w_ h_ => by rw [show (fullW 4 : List Int) = ([15, 0, 0, 0] : List Int) from by decide +kernel] at h_; exact h_)) ?_
    rintro e_ w1033 ⟨rfl, he⟩
    refine ⟨_, rfl, _, rfl, fun act1034 f1035 => ?_⟩
    clear f1015
    have g1036 := gr_ext he
    have hS1032 := hS1020.gr g1036
    have szw1033 := g1036.size
    have e1037 := e1021.gr g1036 no_row
    clear e1021
    have r1038 := r1022.gr g1036 (fun _ h => by cases h)
    clear r1022
    have bx1039 := bx1023.gr g1036 (by simp)
    clear bx1023
    have bx1040 := bx1024.gr g1036 (by simp)
    clear bx1024
    have bx1041 := bx1025.gr g1036 (by simp)
    clear bx1025
    have bx1042 := bx1026.gr g1036 (by simp)
    clear bx1026
    have bx1043 := bx1027.gr g1036 (by simp)
    clear bx1027
    have bx1044 := bx1028.gr g1036 (by simp)
    clear bx1028
    have bx1045 := bx1029.gr g1036 (by simp)
    clear bx1029
    have bx1046 := bx1030.gr g1036 (by simp)
    clear bx1030
    have bx1047 := bx1031.gr g1036 (by simp)
    clear bx1031
    have bx1048 := bx1019.gr g1036 (by simp)
    clear bx1019
    clear g1036 he
    refine ⟨hS1032, ?_⟩
    refine AtH.all [3] 6 (by kernel_rfl) (by simp) ⟨?_, trivial⟩
    refine OneH.call f1035 24 #[.slice (some ⟨w893.heap.size, 0, none⟩) 1 1] (some 16) #[true, true, true, true, false, false, false, false, true, false, false] (by kernel_rfl) (by kernel_rfl) ((of_any (la := ([2] : List Int)) (Bx.rdI (l := ([2] : List Int)) bx1048 rfl (by first | decide | exact Nat.le_of_ble_eq_true rfl))).mono (R' := fun e w' => e = .returned (.agg ((([4, 0, 0, 0] : List Int) : List Int).map wV).toArray) ∧ Ext _ w') (fun e_ w_ h_ => by rw [show (ofW ([2] : List Int) : List Int) = ([4, 0, 0, 0] : List Int) from by decide +kernel] at h_; exact h_)) ?_
    rintro e_ w1050 ⟨rfl, he⟩
    refine ⟨_, rfl, _, rfl, fun act1051 f1052 => ?_⟩
    clear f1035
    have g1053 := gr_ext he
    have hS1049 := hS1032.gr g1053
    have szw1050 := g1053.size
    have e1054 := e1037.gr g1053 no_row
    clear e1037
    have r1055 := r1038.gr g1053 (fun _ h => by cases h)
    clear r1038
    have bx1056 := bx1039.gr g1053 (by simp)
    clear bx1039
    have bx1057 := bx1040.gr g1053 (by simp)
    clear bx1040
    have bx1058 := bx1041.gr g1053 (by simp)
    clear bx1041
    have bx1059 := bx1042.gr g1053 (by simp)
    clear bx1042
    have bx1060 := bx1043.gr g1053 (by simp)
    clear bx1043
    have bx1061 := bx1044.gr g1053 (by simp)
    clear bx1044
    have bx1062 := bx1045.gr g1053 (by simp)
    clear bx1045
    have bx1063 := bx1046.gr g1053 (by simp)
    clear bx1046
    have bx1064 := bx1047.gr g1053 (by simp)
    clear bx1047
    have bx1065 := bx1048.gr g1053 (by simp)
    clear bx1048
    clear g1053 he
    refine ⟨hS1049, ?_⟩
    refine AtH.all [4] 5 (by kernel_rfl) (by simp) ⟨?_, trivial⟩
    refine OneH.call f1052 12 #[.agg #[.slice (some ⟨w.heap.size, 0, none⟩) 4 4, .slice (some ⟨w4.heap.size, 0, none⟩) 4 4, .slice (some ⟨w59.heap.size, 0, none⟩) 4 4], .agg ((([15, 0, 0, 0] : List Int) : List Int).map wV).toArray, .int .i64 (0), .agg ((([4, 0, 0, 0] : List Int) : List Int).map wV).toArray] (some 17) #[true, true, true, true, true, false, false, false, true, false, false] (by kernel_rfl) (by kernel_rfl) (attract_any (g := exG) (s := ([15, 0, 0, 0] : List Int)) (t := ([4, 0, 0, 0] : List Int)) (p := 0) (RdG.mk (G := exG) (Bx.rdI (l := ([0, 1, 1, 0] : List Int)) bx1056 rfl (by first | decide | exact Nat.le_of_ble_eq_true rfl)) (Bx.rdI (l := ([0, 0, 0, 0] : List Int)) bx1057 rfl (by first | decide | exact Nat.le_of_ble_eq_true rfl)) (Bx.rdII (ls := ([([0, 1] : List Int), ([2] : List Int), ([0, 3] : List Int), ([3] : List Int)] : List (List Int))) bx1062 ⟨⟨_, _, rfl, (by decide), (Bx.rdI (l := ([0, 1] : List Int)) bx1058 rfl (by first | decide | exact Nat.le_of_ble_eq_true rfl))⟩, ⟨_, _, rfl, (by decide), (Bx.rdI (l := ([2] : List Int)) bx1059 rfl (by first | decide | exact Nat.le_of_ble_eq_true rfl))⟩, ⟨_, _, rfl, (by decide), (Bx.rdI (l := ([0, 3] : List Int)) bx1060 rfl (by first | decide | exact Nat.le_of_ble_eq_true rfl))⟩, ⟨_, _, rfl, (by decide), (Bx.rdI (l := ([3] : List Int)) bx1061 rfl (by first | decide | exact Nat.le_of_ble_eq_true rfl))⟩, trivial⟩ (by decide)) (by decide) (by decide) (by decide)) (okW_lit ⟨by omega, by omega⟩ ⟨by omega, by omega⟩ ⟨by omega, by omega⟩ ⟨by omega, by omega⟩) (okW_lit ⟨by omega, by omega⟩ ⟨by omega, by omega⟩ ⟨by omega, by omega⟩ ⟨by omega, by omega⟩) (r1055.wide (Nat.zero_le _) (by omega))) ?_
    rintro e_ w1071 ⟨A1067, c1068, ss, ms, rfl, he, ow1069, hat⟩
    have hok_ss := att_ok hat
    have hl_ss := okLen hok_ss
    have hlm_ms := att_len hat
    obtain ⟨hs1, hs2, hs3, hs4⟩ := shown12 hat
    refine ⟨_, rfl, _, rfl, fun act1072 f1073 => ?_⟩
    clear f1052
    have g1074 := gr_ext he
    have hS1066 := hS1049.gr g1074
    have szw1071 := g1074.size
    have e1075 := e1054.gr g1074 no_row
    clear e1054
    have r1076 := r1055.gr g1074 (fun _ h => by cases h)
    clear r1055
    have bx1077 := bx1056.gr g1074 (by simp)
    clear bx1056
    have bx1078 := bx1057.gr g1074 (by simp)
    clear bx1057
    have bx1079 := bx1058.gr g1074 (by simp)
    clear bx1058
    have bx1080 := bx1059.gr g1074 (by simp)
    clear bx1059
    have bx1081 := bx1060.gr g1074 (by simp)
    clear bx1060
    have bx1082 := bx1061.gr g1074 (by simp)
    clear bx1061
    have bx1083 := bx1062.gr g1074 (by simp)
    clear bx1062
    have bx1084 := bx1063.gr g1074 (by simp)
    clear bx1063
    have bx1085 := bx1064.gr g1074 (by simp)
    clear bx1064
    have bx1086 := bx1065.gr g1074 (by simp)
    clear bx1065
    clear g1074 he
    refine ⟨hS1066, ?_⟩
    refine AtH.rd (by kernel_rfl) (fun d v c a w h => by cases d <;> exact h) hS1066 [5] [[]] [(12, .tuple #[.agg ((ss : List Int).map wV).toArray, .slice A1067 ms.length c1068])] #[true, true, true, true, true, true, false, false, true, false, false] [] 4 f1073 (by kernel_rfl) trivial (fun act1088 f1087 => ?_)
    clear f1073
    refine AtH.rd (by kernel_rfl) (fun d v c a w h => by cases d <;> exact h) hS1066 [6] [[]] [(18, .agg ((ss : List Int).map wV).toArray)] #[true, true, true, true, true, true, true, false, true, false, false] [] 3 f1087 (by kernel_rfl) trivial (fun act1090 f1089 => ?_)
    clear f1087
    refine AtH.rd (by kernel_rfl) (fun d v c a w h => by cases d <;> exact h) hS1066 [7] [[]] [(19, .slice A1067 ms.length c1068)] #[true, true, true, true, true, true, true, true, true, false, false] [] 2 f1089 (by kernel_rfl) trivial (fun act1092 f1091 => ?_)
    clear f1089
    refine AtH.all [9] 1 (by kernel_rfl) (by simp) ⟨?_, trivial⟩
    refine OneH.act f1091 #[true, true, true, true, true, true, true, true, true, true, false] (by kernel_rfl) (storeBlk (t := 28) (b := w128.heap.size) (n := 4) (cs' := ((ss : List Int).map wV)) (by kernel_rfl) (by kernel_rfl) (by simp only [List.length_map, List.length_set, List.length_replicate, List.length_cons, List.length_nil]; first | done | assumption | exact from_len _ | exact of_len _ | exact ofZ_len _ | exact (ofW_ok _).1 | exact (fullW_W _).1 | exact (okW_with (by assumption)).1 | exact (okW_less (by assumption)).1 | exact put_len (from_len _) | exact orD_len _ _ | exact andD_len _ _ | exact minusD_len _ _ | exact fullD_len _ | (refine okLen ?_; (repeat (first | assumption | exact ofW_ok _ | exact fullW_W _ | apply okW_with | apply okW_less | refine okW_orS ?_ ?_ | refine okW_andS ?_ ?_ | refine okW_minusS ?_ ?_)); done) | omega | rfl) oneW_ ((show ((ss : List Int).map wV).length = 4 from (by simp only [List.length_map, List.length_set, List.length_replicate, List.length_cons, List.length_nil]; first | done | assumption | exact from_len _ | exact of_len _ | exact ofZ_len _ | exact (ofW_ok _).1 | exact (fullW_W _).1 | exact (okW_with (by assumption)).1 | exact (okW_less (by assumption)).1 | exact put_len (from_len _) | exact orD_len _ _ | exact andD_len _ _ | exact minusD_len _ _ | exact fullD_len _ | (refine okLen ?_; (repeat (first | assumption | exact ofW_ok _ | exact fullW_W _ | apply okW_with | apply okW_less | refine okW_orS ?_ ?_ | refine okW_andS ?_ ?_ | refine okW_minusS ?_ ?_)); done) | omega | rfl)).trans (show ((List.replicate 4 (0 : Int) : List Int).map wV).length = 4 from (by simp only [List.length_map, List.length_set, List.length_replicate, List.length_cons, List.length_nil]; first | done | assumption | exact from_len _ | exact of_len _ | exact ofZ_len _ | exact (ofW_ok _).1 | exact (fullW_W _).1 | exact (okW_with (by assumption)).1 | exact (okW_less (by assumption)).1 | exact put_len (from_len _) | exact orD_len _ _ | exact andD_len _ _ | exact minusD_len _ _ | exact fullD_len _ | (refine okLen ?_; (repeat (first | assumption | exact ofW_ok _ | exact fullW_W _ | apply okW_with | apply okW_less | refine okW_orS ?_ ?_ | refine okW_andS ?_ ?_ | refine okW_minusS ?_ ?_)); done) | omega | rfl)).symm) bx1085) ?_
    rintro d_ v_ w1094 ⟨rfl, g1095, bx1096⟩
    have hS1099 := hS1066.gr' g1095 (by rw [hCs125]; exact ⟨(by simp only [add_block]; omega), (by simp only [add_block]; omega), (by simp only [add_block]; omega), trivial⟩)
    refine ⟨_, rfl, fun act1098 f1097 => ⟨hS1099, ?_⟩⟩
    clear f1091
    have szw1094 := g1095.size
    have e1100 := e1075.gr g1095 (fun k h => by injection h; omega)
    clear e1075
    have r1101 := r1076.gr g1095 (fun k h => by injection h; omega)
    clear r1076
    have bx1102 := bx1077.gr g1095 (fun h => by injection h; omega)
    clear bx1077
    have bx1103 := bx1078.gr g1095 (fun h => by injection h; omega)
    clear bx1078
    have bx1104 := bx1079.gr g1095 (fun h => by injection h; omega)
    clear bx1079
    have bx1105 := bx1080.gr g1095 (fun h => by injection h; omega)
    clear bx1080
    have bx1106 := bx1081.gr g1095 (fun h => by injection h; omega)
    clear bx1081
    have bx1107 := bx1082.gr g1095 (fun h => by injection h; omega)
    clear bx1082
    have bx1108 := bx1083.gr g1095 (fun h => by injection h; omega)
    clear bx1083
    have bx1109 := bx1084.gr g1095 (fun h => by injection h; omega)
    clear bx1084
    have bx1110 := bx1086.gr g1095 (fun h => by injection h; omega)
    clear bx1086
    have ow1111 := ow1069.gr g1095 (fun k hk e => by have := Sx_base hk; injection e; omega)
    clear ow1069
    clear bx1085 g1095
    refine AtH.rd (by kernel_rfl) (fun d v c a w h => by cases d <;> exact h) hS1099 [10] [[]] [(3, .slice A1067 ms.length c1068)] #[true, true, true, true, true, true, true, true, true, true, true] [] 0 f1097 (by kernel_rfl) trivial (fun act1113 f1112 => ?_)
    clear f1097
    refine AtH.done (by kernel_rfl) ?_
    clear hS1099
    refine t_n ?_
    have f1114 := f1112.sub (r := [(3, .slice A1067 ms.length c1068), (2, .pointer (some ⟨w128.heap.size, 0, none⟩))]) ⟨rfl, rfl, trivial⟩
    exact ⟨ss, ms, w128.heap.size, A1067, c1068, f1114, e1100, r1101, bx1102, bx1103, bx1104, bx1105, bx1106, bx1107, bx1108, bx1109, (ow1111.imp (fun g _ hs => ⟨(fun e => by have := Sx_base hs; injection e; omega), (by have := Sx_base hs; show w106.heap.size ≤ g; omega)⟩)), bx1096, (by omega), (by omega), hat⟩
 ·clear r112
  clear bx113
  clear bx114
  clear bx115
  clear bx116
  clear bx117
  clear bx118
  clear bx119
  clear bx108
  clear f120 e111
  intro act1115 w1116 ⟨ss, ms, b_123, A_121, c_122, f1117, e1118, r1119, bx1120, bx1121, bx1122, bx1123, bx1124, bx1125, bx1126, bx1127, ow1128, bx1129, hb1130, szz1131, hat⟩
  have szw1116 := e1118.size
  have hok_ss := att_ok hat
  have hl_ss := okLen hok_ss
  have hlm_ms := att_len hat
  obtain ⟨hs1, hs2, hs3, hs4⟩ := shown12 hat
  have := bx1120.lt
  have := bx1121.lt
  have := bx1122.lt
  have := bx1123.lt
  have := bx1124.lt
  have := bx1125.lt
  have := bx1126.lt
  have := bx1127.lt
  have := bx1129.lt
  refine wp_seq ?_
  obtain ⟨Cs1134, hCs1135⟩ : ∃ c : List (Addr × Value), c = ([] : List (Addr × Value)) ++ blkC (b_123) ((ss : List Int).map wV) := ⟨_, rfl⟩
  have hS1136 : HoldsC Cs1134 w1116 := by rw [hCs1135]; exact (holdsA (show HoldsC [] w1116 from trivial) (holds_blk bx1129))
  refine AtH.start Cs1134 22 #[false, false, false, false, false, false, false, false, false, false, false, false, false, false, false, false, false, false, false, false, false, false] (by kernel_rfl) rfl rfl (fun w1138 hw1139 => ?_)
  have g1137 := gr_drew hw1139
  have hS1140 := hS1136.gr g1137
  have szw1138 := g1137.size
  have e1141 := e1118.gr g1137 no_row
  clear e1118
  have r1142 := r1119.gr g1137 (fun _ h => by cases h)
  clear r1119
  have bx1143 := bx1120.gr g1137 (by simp)
  clear bx1120
  have bx1144 := bx1121.gr g1137 (by simp)
  clear bx1121
  have bx1145 := bx1122.gr g1137 (by simp)
  clear bx1122
  have bx1146 := bx1123.gr g1137 (by simp)
  clear bx1123
  have bx1147 := bx1124.gr g1137 (by simp)
  clear bx1124
  have bx1148 := bx1125.gr g1137 (by simp)
  clear bx1125
  have bx1149 := bx1126.gr g1137 (by simp)
  clear bx1126
  have bx1150 := bx1127.gr g1137 (by simp)
  clear bx1127
  have ow1151 := ow1128.gr g1137 (fun _ _ h => by cases h)
  clear ow1128
  have bx1152 := bx1129.gr g1137 (by simp)
  clear bx1129
  clear g1137 hw1139 hS1136
  refine AtH.rd (by kernel_rfl) (fun d v c a w h => by cases d <;> exact h) hS1140 [0] [[.cs ((ss : List Int).map wV)]] [(20, .agg ((ss : List Int).map wV).toArray)] #[true, false, false, false, false, false, false, false, false, false, false, false, false, false, false, false, false, false, false, false, false, false] [(((ss : List Int).map wV).length = 4), (∀ (j : Nat) (v : Value), ((ss : List Int).map wV)[j]? = some v → ∃ j_ : Nat, Cs1134[j_]? = some (((⟨b_123, 0, none⟩ : Addr).add j), v))] 21 f1117 (by kernel_rfl) ⟨(by simp only [List.length_map, List.length_set, List.length_replicate, List.length_cons, List.length_nil]; first | done | assumption | exact from_len _ | exact of_len _ | exact ofZ_len _ | exact (ofW_ok _).1 | exact (fullW_W _).1 | exact (okW_with (by assumption)).1 | exact (okW_less (by assumption)).1 | exact put_len (from_len _) | exact orD_len _ _ | exact andD_len _ _ | exact minusD_len _ _ | exact fullD_len _ | (refine okLen ?_; (repeat (first | assumption | exact ofW_ok _ | exact fullW_W _ | apply okW_with | apply okW_less | refine okW_orS ?_ ?_ | refine okW_andS ?_ ?_ | refine okW_minusS ?_ ?_)); done) | omega | rfl), (fun j v hv => List.getElem?_of_mem (by rw [hCs1135]; exact List.mem_append.2 (.inr (blkC_in hv)))), trivial⟩ (fun act1154 f1153 => ?_)
  clear f1117
  refine AtH.all [1] 20 (by kernel_rfl) (by simp) ⟨?_, trivial⟩
  refine OneH.seq f1153 [[]] [(21, .slice (some ⟨w1138.heap.size, 0, none⟩) 3 3)] (w1138.alloc (.cells #[.int .i64 (0), .int .i64 (1), .int .i64 (2)] 3 (0, 0))) [] #[true, true, false, false, false, false, false, false, false, false, false, false, false, false, false, false, false, false, false, false, false, false] (by kernel_rfl) (by kernel_rfl) (by kernel_rfl) trivial (fun act1159 w1156 hw1157 f1158 => ?_)
  clear f1153
  have g1160 := gr_alloc hw1157
  have hS1163 := hS1140.gr g1160
  refine ⟨hS1163, ?_⟩
  have szw1156 := g1160.size
  have e1164 := e1141.gr g1160 no_row
  clear e1141
  have r1165 := r1142.gr g1160 (fun _ h => by cases h)
  clear r1142
  have bx1166 := bx1143.gr g1160 (by simp)
  clear bx1143
  have bx1167 := bx1144.gr g1160 (by simp)
  clear bx1144
  have bx1168 := bx1145.gr g1160 (by simp)
  clear bx1145
  have bx1169 := bx1146.gr g1160 (by simp)
  clear bx1146
  have bx1170 := bx1147.gr g1160 (by simp)
  clear bx1147
  have bx1171 := bx1148.gr g1160 (by simp)
  clear bx1148
  have bx1172 := bx1149.gr g1160 (by simp)
  clear bx1149
  have bx1173 := bx1150.gr g1160 (by simp)
  clear bx1150
  have ow1174 : OwnR w1156 (Sx (w106.heap.size) [some (w1138.heap.size), some (b_123)]) A_121 c_122 3 (ms : List Int) := ow1151.grA g1160 (fun _ _ h => by cases h) (fun k hk hs => ⟨(fun e => by injection e; omega), hs.1, hs.2⟩)
  clear ow1151
  have bx1175 := bx1152.gr g1160 (by simp)
  clear bx1152
  have bx1162 : Bx w1156 (w1138.heap.size) [.int .i64 (0), .int .i64 (1), .int .i64 (2)] 3 := Bx.new hw1157
  have := bx1162.lt
  clear g1160 hw1157
  refine AtH.all [2] 19 (by kernel_rfl) (by simp) ⟨?_, trivial⟩
  refine OneH.call f1158 24 #[.slice (some ⟨w1138.heap.size, 0, none⟩) 3 3] (some 22) #[true, true, true, false, false, false, false, false, false, false, false, false, false, false, false, false, false, false, false, false, false, false] (by kernel_rfl) (by kernel_rfl) ((of_any (la := ([0, 1, 2] : List Int)) (Bx.rdI (l := ([0, 1, 2] : List Int)) bx1162 rfl (by first | decide | exact Nat.le_of_ble_eq_true rfl))).mono (R' := fun e w' => e = .returned (.agg ((([7, 0, 0, 0] : List Int) : List Int).map wV).toArray) ∧ Ext _ w') (fun e_ w_ h_ => by rw [show (ofW ([0, 1, 2] : List Int) : List Int) = ([7, 0, 0, 0] : List Int) from by decide +kernel] at h_; exact h_)) ?_
  rintro e_ w1177 ⟨rfl, he⟩
  refine ⟨_, rfl, _, rfl, fun act1178 f1179 => ?_⟩
  clear f1158
  have g1180 := gr_ext he
  have hS1176 := hS1163.gr g1180
  have szw1177 := g1180.size
  have e1181 := e1164.gr g1180 no_row
  clear e1164
  have r1182 := r1165.gr g1180 (fun _ h => by cases h)
  clear r1165
  have bx1183 := bx1166.gr g1180 (by simp)
  clear bx1166
  have bx1184 := bx1167.gr g1180 (by simp)
  clear bx1167
  have bx1185 := bx1168.gr g1180 (by simp)
  clear bx1168
  have bx1186 := bx1169.gr g1180 (by simp)
  clear bx1169
  have bx1187 := bx1170.gr g1180 (by simp)
  clear bx1170
  have bx1188 := bx1171.gr g1180 (by simp)
  clear bx1171
  have bx1189 := bx1172.gr g1180 (by simp)
  clear bx1172
  have bx1190 := bx1173.gr g1180 (by simp)
  clear bx1173
  have ow1191 := ow1174.gr g1180 (fun _ _ h => by cases h)
  clear ow1174
  have bx1192 := bx1175.gr g1180 (by simp)
  clear bx1175
  have bx1193 := bx1162.gr g1180 (by simp)
  clear bx1162
  clear g1180 he
  refine ⟨hS1176, ?_⟩
  refine AtH.rd (by kernel_rfl) (fun d v c a w h => by cases d <;> exact h) hS1176 [3] [[.cs [wV (gI ss 0), wV (gI ss 1), wV (gI ss 2), wV (gI ss 3)], .cs [wV (gI ([7, 0, 0, 0] : List Int) 0), wV (gI ([7, 0, 0, 0] : List Int) 1), wV (gI ([7, 0, 0, 0] : List Int) 2), wV (gI ([7, 0, 0, 0] : List Int) 3)], .as_ (.bool true)]] [(23, .bool true)] #[true, true, true, true, false, false, false, false, false, false, false, false, false, false, false, false, false, false, false, false, false, false] [(((ss : List Int).map wV).toArray = ([wV (gI ss 0), wV (gI ss 1), wV (gI ss 2), wV (gI ss 3)] : List Value).toArray), (((([7, 0, 0, 0] : List Int) : List Int).map wV).toArray = ([wV (gI ([7, 0, 0, 0] : List Int) 0), wV (gI ([7, 0, 0, 0] : List Int) 1), wV (gI ([7, 0, 0, 0] : List Int) 2), wV (gI ([7, 0, 0, 0] : List Int) 3)] : List Value).toArray), ((.bool ((((gI ss 0 : Int) == gI ([7, 0, 0, 0] : List Int) 0) && (((gI ss 1 : Int) == gI ([7, 0, 0, 0] : List Int) 1) && (((gI ss 2 : Int) == gI ([7, 0, 0, 0] : List Int) 2) && (((gI ss 3 : Int) == gI ([7, 0, 0, 0] : List Int) 3) && true))))) : Value) = .bool true)] 18 f1179 (by kernel_rfl) ⟨(map4 (by first | assumption | exact (okW_with (by assumption)).1 | exact (okW_less (by assumption)).1 | exact (ofW_ok _).1 | exact (fullW_W _).1 | (refine okLen ?_; (repeat (first | assumption | exact ofW_ok _ | exact fullW_W _ | apply okW_with | apply okW_less | refine okW_orS ?_ ?_ | refine okW_andS ?_ ?_ | refine okW_minusS ?_ ?_)); done) | rfl | omega | (simp only [List.length_set]; first | done | assumption | omega) | exact lenW4 _ (by assumption))), (map4 (okLen (okW_lit ⟨by omega, by omega⟩ ⟨by omega, by omega⟩ ⟨by omega, by omega⟩ ⟨by omega, by omega⟩))), (Eq.trans (b := (.bool (decide ((ss : List Int) = ([7, 0, 0, 0] : List Int))) : Value)) (congrArg (fun b => Value.bool b) (w4_eq (by first | assumption | exact (okW_with (by assumption)).1 | exact (okW_less (by assumption)).1 | exact (ofW_ok _).1 | exact (fullW_W _).1 | (refine okLen ?_; (repeat (first | assumption | exact ofW_ok _ | exact fullW_W _ | apply okW_with | apply okW_less | refine okW_orS ?_ ?_ | refine okW_andS ?_ ?_ | refine okW_minusS ?_ ?_)); done) | rfl | omega | (simp only [List.length_set]; first | done | assumption | omega) | exact lenW4 _ (by assumption)) (okLen (okW_lit ⟨by omega, by omega⟩ ⟨by omega, by omega⟩ ⟨by omega, by omega⟩ ⟨by omega, by omega⟩)))) (congrArg Value.bool (decide_eq_true hs1))), trivial⟩ (fun act1195 f1194 => ?_)
  clear f1179
  refine AtH.rd (by kernel_rfl) (fun d v c a w h => by cases d <;> exact h) hS1176 [4] [[]] [(24, .bool true)] #[true, true, true, true, true, false, false, false, false, false, false, false, false, false, false, false, false, false, false, false, false, false] [] 17 f1194 (by kernel_rfl) trivial (fun act1197 f1196 => ?_)
  clear f1194
  refine AtH.rd (by kernel_rfl) (fun d v c a w h => by cases d <;> exact h) hS1176 [5] [[]] [(25, .slice A_121 ms.length c_122)] #[true, true, true, true, true, true, false, false, false, false, false, false, false, false, false, false, false, false, false, false, false, false] [] 16 f1196 (by kernel_rfl) trivial (fun act1199 f1198 => ?_)
  clear f1196
  refine AtH.rd (by kernel_rfl) (fun d v c a w h => by cases d <;> exact h) hS1176 [6] [[]] [(26, .int .i64 (((ms.length : Nat) : Int)))] #[true, true, true, true, true, true, true, false, false, false, false, false, false, false, false, false, false, false, false, false, false, false] [] 15 f1198 (by kernel_rfl) trivial (fun act1201 f1200 => ?_)
  clear f1198
  refine AtH.rd (by kernel_rfl) (fun d v c a w h => by cases d <;> exact h) hS1176 [7] [[.as_ (.bool true)]] [(27, .bool true)] #[true, true, true, true, true, true, true, true, false, false, false, false, false, false, false, false, false, false, false, false, false, false] [((.bool ((((ms.length : Nat) : Int) : Int) == 4) : Value) = .bool true)] 14 f1200 (by kernel_rfl) ⟨(congrArg Value.bool (beqT (by omega))), trivial⟩ (fun act1203 f1202 => ?_)
  clear f1200
  refine AtH.rd (by kernel_rfl) (fun d v c a w h => by cases d <;> exact h) hS1176 [8] [[]] [(28, .bool true)] #[true, true, true, true, true, true, true, true, true, false, false, false, false, false, false, false, false, false, false, false, false, false] [] 13 f1202 (by kernel_rfl) trivial (fun act1205 f1204 => ?_)
  clear f1202
  refine AtH.rd (by kernel_rfl) (fun d v c a w h => by cases d <;> exact h) hS1176 [9] [[]] [(29, .bool true)] #[true, true, true, true, true, true, true, true, true, true, false, false, false, false, false, false, false, false, false, false, false, false] [] 12 f1204 (by kernel_rfl) trivial (fun act1207 f1206 => ?_)
  clear f1204
  refine AtH.rd (by kernel_rfl) (fun d v c a w h => by cases d <;> exact h) hS1176 [10] [[]] [(30, .slice A_121 ms.length c_122)] #[true, true, true, true, true, true, true, true, true, true, true, false, false, false, false, false, false, false, false, false, false, false] [] 11 f1206 (by kernel_rfl) trivial (fun act1209 f1208 => ?_)
  clear f1206
  obtain ⟨ad1210, hA1211, hb1214, hc1213, hc1212⟩ := ow1191.get (0) (by omega) (by omega) (sz := 1) rfl
  refine AtH.rd (by kernel_rfl) (fun d v c a w h => by cases d <;> exact h) hS1176 [11] [[.ad ad1210]] [(31, .pointer (some (ad1210.add ((0 : Int).toNat * 1))))] #[true, true, true, true, true, true, true, true, true, true, true, true, false, false, false, false, false, false, false, false, false, false] [(A_121 = some ad1210), (0 ≤ (0 : Int)), ((0 : Int) < (ms.length : Nat))] 10 f1208 (by kernel_rfl) ⟨hA1211, (by omega), (by omega), trivial⟩ (fun act1216 f1215 => ?_)
  clear f1208
  refine AtH.all [12] 9 (by kernel_rfl) (by simp) ⟨?_, trivial⟩
  refine OneH.seq f1215 [[.ld (.int .i64 (gI ms 0))]] [(32, .int .i64 (gI ms 0))] w1177 [(w1177.cell? (ad1210.add ((0 : Int).toNat * 1)) = some (.int .i64 (gI ms 0)))] #[true, true, true, true, true, true, true, true, true, true, true, true, true, false, false, false, false, false, false, false, false, false] (by kernel_rfl) (by kernel_rfl) (by kernel_rfl) ⟨hc1213, trivial⟩ (fun act1218 w1219 hw1220 f1217 => ?_)
  obtain rfl : w1177 = w1219 := hw1220.symm
  clear f1215
  refine ⟨hS1176, ?_⟩
  refine AtH.rd (by kernel_rfl) (fun d v c a w h => by cases d <;> exact h) hS1176 [13] [[.as_ (.bool true)]] [(33, .bool true)] #[true, true, true, true, true, true, true, true, true, true, true, true, true, true, false, false, false, false, false, false, false, false] [((.bool ((gI ms 0 : Int) == 1) : Value) = .bool true)] 8 f1217 (by kernel_rfl) ⟨(congrArg Value.bool (beqT hs3)), trivial⟩ (fun act1222 f1221 => ?_)
  clear f1217
  refine AtH.rd (by kernel_rfl) (fun d v c a w h => by cases d <;> exact h) hS1176 [14] [[]] [(34, .bool true)] #[true, true, true, true, true, true, true, true, true, true, true, true, true, true, true, false, false, false, false, false, false, false] [] 7 f1221 (by kernel_rfl) trivial (fun act1224 f1223 => ?_)
  clear f1221
  refine AtH.rd (by kernel_rfl) (fun d v c a w h => by cases d <;> exact h) hS1176 [15] [[]] [(35, .bool true)] #[true, true, true, true, true, true, true, true, true, true, true, true, true, true, true, true, false, false, false, false, false, false] [] 6 f1223 (by kernel_rfl) trivial (fun act1226 f1225 => ?_)
  clear f1223
  refine AtH.rd (by kernel_rfl) (fun d v c a w h => by cases d <;> exact h) hS1176 [16] [[]] [(36, .slice A_121 ms.length c_122)] #[true, true, true, true, true, true, true, true, true, true, true, true, true, true, true, true, true, false, false, false, false, false] [] 5 f1225 (by kernel_rfl) trivial (fun act1228 f1227 => ?_)
  clear f1225
  obtain ⟨ad1229, hA1230, hb1233, hc1232, hc1231⟩ := ow1191.get (1) (by omega) (by omega) (sz := 1) rfl
  refine AtH.rd (by kernel_rfl) (fun d v c a w h => by cases d <;> exact h) hS1176 [17] [[.ad ad1229]] [(37, .pointer (some (ad1229.add ((1 : Int).toNat * 1))))] #[true, true, true, true, true, true, true, true, true, true, true, true, true, true, true, true, true, true, false, false, false, false] [(A_121 = some ad1229), (0 ≤ (1 : Int)), ((1 : Int) < (ms.length : Nat))] 4 f1227 (by kernel_rfl) ⟨hA1230, (by omega), (by omega), trivial⟩ (fun act1235 f1234 => ?_)
  clear f1227
  refine AtH.all [18] 3 (by kernel_rfl) (by simp) ⟨?_, trivial⟩
  refine OneH.seq f1234 [[.ld (.int .i64 (gI ms 1))]] [(38, .int .i64 (gI ms 1))] w1177 [(w1177.cell? (ad1229.add ((1 : Int).toNat * 1)) = some (.int .i64 (gI ms 1)))] #[true, true, true, true, true, true, true, true, true, true, true, true, true, true, true, true, true, true, true, false, false, false] (by kernel_rfl) (by kernel_rfl) (by kernel_rfl) ⟨hc1232, trivial⟩ (fun act1237 w1238 hw1239 f1236 => ?_)
  obtain rfl : w1177 = w1238 := hw1239.symm
  clear f1234
  refine ⟨hS1176, ?_⟩
  refine AtH.rd (by kernel_rfl) (fun d v c a w h => by cases d <;> exact h) hS1176 [19] [[.as_ (.bool true)]] [(39, .bool true)] #[true, true, true, true, true, true, true, true, true, true, true, true, true, true, true, true, true, true, true, true, false, false] [((.bool ((gI ms 1 : Int) == (-1)) : Value) = .bool true)] 2 f1236 (by kernel_rfl) ⟨(congrArg Value.bool (beqT hs4)), trivial⟩ (fun act1241 f1240 => ?_)
  clear f1236
  refine AtH.rd (by kernel_rfl) (fun d v c a w h => by cases d <;> exact h) hS1176 [20] [[]] [(40, .bool true)] #[true, true, true, true, true, true, true, true, true, true, true, true, true, true, true, true, true, true, true, true, true, false] [] 1 f1240 (by kernel_rfl) trivial (fun act1243 f1242 => ?_)
  clear f1240
  refine AtH.rd (by kernel_rfl) (fun d v c a w h => by cases d <;> exact h) hS1176 [21] [[]] [(0, .bool true)] #[true, true, true, true, true, true, true, true, true, true, true, true, true, true, true, true, true, true, true, true, true, true] [] 0 f1242 (by kernel_rfl) trivial (fun act1245 f1244 => ?_)
  clear f1242
  refine AtH.done (by kernel_rfl) ?_
  clear hS1176
  refine t_n ?_
  have f1246 := f1244.sub (r := [(0, .bool true)]) ⟨rfl, trivial⟩
  clear f1244
  refine wp_ret ?_
  refine ret_ f1246 [] [.bool true] [] (by kernel_rfl) trivial ?_
  exact ⟨rfl, e1181⟩

end Go.Proofs.YtkpljmalbmcdfaaDoor
