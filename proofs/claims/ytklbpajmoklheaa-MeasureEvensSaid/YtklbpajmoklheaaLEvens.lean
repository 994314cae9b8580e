/-
  A walk of a Go function, printed by a program of this repo. Conditions: what the theorems name.
-/
import Derived.Test.YtklbpajmoklheaaWShown
import Derived.Test.YtklbpajmoklheaaWTuples
import Derived.Test.YtklbpajmoklheaaWEvenR
import Derived.Test.YtklbpajmoklheaaWCopy
import Derived.Test.YtklbpajmoklheaaWSame2
set_option linter.unusedVariables false
set_option linter.unusedSimpArgs false
namespace Go.Proofs.Ytklbpajmoklheaa
open Go Go.RowKit

set_option maxHeartbeats 4000000 in
theorem evens_any {Ag0 Ag1 Ag2 : Option Addr} {cg0 cg1 cg2 : Nat} {g : GameL} {As : Option Addr} {cs : Nat} {ls : List Tup} {w : World} (rg : RdG w 0 w.heap.size Ag0 Ag1 Ag2 cg0 cg1 cg2 g) (rs : RdR w 0 w.heap.size As ls) (hok : okL ls) :
    Calls Try.prog 8 #[.agg #[.slice Ag0 g.ow.length cg0, .slice Ag1 g.pr.length cg1, .slice Ag2 g.mv.length cg2], .slice As ls.length cs] w fun e w' => e = .returned (.bool true) ∧ Ext w w' := by
 have hlg0 := rg.ow.len
 have hlg1 := rg.pr.len
 have hlg2 := rg.mv.len
 have hkg0 := rg.k0
 have hkg1 := rg.k1
 have hkg2 := rg.k2
 have hls := rs.len
 simp only [Enc.bytes] at hls
 refine enter_ (args := [.agg #[.slice Ag0 g.ow.length cg0, .slice Ag1 g.pr.length cg1, .slice Ag2 g.mv.length cg2], .slice As ls.length cs]) Try.func8 rfl Try.ntmps8 (Nat.le_of_ble_eq_true rfl) (fun act0 f0 => ?_)
 have e0 := Ext.refl w
 refine wp_seq ?_
 refine At.start ?_
 refine At.seq f0 1 [[]] [(2, .pointer (some ⟨w.heap.size, 0, none⟩))] (w.alloc (.cells #[.slice Ag0 g.ow.length cg0, .slice Ag1 g.pr.length cg1, .slice Ag2 g.mv.length cg2] 25 (0, 0))) [] (by kernel_rfl) trivial (fun act4 w1 hw2 f3 => ?_)
 clear f0
 have g5 := gr_alloc hw2
 have szw1 := g5.size
 have e7 := e0.gr g5 no_row
 clear e0
 have r8 := rg.gr g5 (fun _ h => by cases h)
 clear rg
 have r9 := rs.gr g5 (fun _ h => by cases h)
 clear rs
 have bx10 : Bx w1 (w.heap.size) [.slice Ag0 g.ow.length cg0, .slice Ag1 g.pr.length cg1, .slice Ag2 g.mv.length cg2] 25 := Bx.new hw2
 have := bx10.lt
 clear g5 hw2
 refine At.rd f3 1 [[]] [(4, .bool false)] [] (by kernel_rfl) trivial (fun act12 f11 => ?_)
 clear f3
 refine At.done rfl ?_
 refine t_n ?_
 have f13 := f11.sub (r := [(2, .pointer (some ⟨w.heap.size, 0, none⟩)), (1, .slice As ls.length cs)]) ⟨rfl, rfl, trivial⟩
 clear f11
 refine wp_seq ?_
 refine At.start ?_
 refine At.call f13 22 #[] (some 14) (by kernel_rfl) (shown_any) ?_
 rintro e_ w14 ⟨rfl, he⟩
 refine ⟨_, rfl, _, rfl, fun act15 f16 => ?_⟩
 clear f13
 have g17 := gr_ext he
 have szw14 := g17.size
 have e18 := e7.gr g17 no_row
 clear e7
 have r19 := r8.gr g17 (fun _ h => by cases h)
 clear r8
 have r20 := r9.gr g17 (fun _ h => by cases h)
 clear r9
 have bx21 := bx10.gr g17 (by simp)
 clear bx10
 clear g17 he
 refine At.rd f16 1 [[]] [(5, .bool true)] [] (by kernel_rfl) trivial (fun act23 f22 => ?_)
 clear f16
 refine At.done rfl ?_
 refine t_n ?_
 have f24 := f22.sub (r := [(5, .bool true), (2, .pointer (some ⟨w.heap.size, 0, none⟩)), (1, .slice As ls.length cs)]) ⟨rfl, rfl, rfl, trivial⟩
 clear f22
 refine wp_seq ?_
 refine At.start ?_
 refine At.rd f24 1 [[.ld (.slice Ag0 g.ow.length cg0), .ld (.slice Ag1 g.pr.length cg1), .ld (.slice Ag2 g.mv.length cg2)]] [(15, .agg #[.slice Ag0 g.ow.length cg0, .slice Ag1 g.pr.length cg1, .slice Ag2 g.mv.length cg2])] [(w14.cell? ⟨w.heap.size, 0, none⟩ = some (.slice Ag0 g.ow.length cg0)), (w14.cell? ⟨w.heap.size, 1, none⟩ = some (.slice Ag1 g.pr.length cg1)), (w14.cell? ⟨w.heap.size, 2, none⟩ = some (.slice Ag2 g.mv.length cg2))] (by kernel_rfl) ⟨(bx21.cell (i := 0) rfl), (bx21.cell (i := 1) rfl), (bx21.cell (i := 2) rfl), trivial⟩ (fun act26 f25 => ?_)
 clear f24
 refine At.call f25 15 #[.agg #[.slice Ag0 g.ow.length cg0, .slice Ag1 g.pr.length cg1, .slice Ag2 g.mv.length cg2]] (some 16) (by kernel_rfl) (copyR_any (g := g) (r19.wide (Nat.zero_le _) (by omega))) ?_
 rintro e_ w40 ⟨A27, c28, A29, c30, A31, c32, rfl, he, ow33, ow34, ow35⟩
 have hip39 := inner_len (RdG.mv (r19.wide (Nat.zero_le _) (by omega)))
 refine ⟨_, rfl, _, rfl, fun act41 f42 => ?_⟩
 clear f25
 have g43 := gr_ext he
 have szw40 := g43.size
 have e44 := e18.gr g43 no_row
 clear e18
 have r45 := r19.gr g43 (fun _ h => by cases h)
 clear r19
 have r46 := r20.gr g43 (fun _ h => by cases h)
 clear r20
 have bx47 := bx21.gr g43 (by simp)
 clear bx21
 clear g43 he
 refine At.seq f42 1 [[]] [(6, .pointer (some ⟨w40.heap.size, 0, none⟩))] (w40.alloc (.cells #[.slice none 0 0, .slice none 0 0, .slice none 0 0] 25 (0, 0))) [] (by kernel_rfl) trivial (fun act51 w48 hw49 f50 => ?_)
 clear f42
 have g52 := gr_alloc hw49
 have szw48 := g52.size
 have e54 := e44.gr g52 no_row
 clear e44
 have r55 := r45.gr g52 (fun _ h => by cases h)
 clear r45
 have r56 := r46.gr g52 (fun _ h => by cases h)
 clear r46
 have bx57 := bx47.gr g52 (by simp)
 clear bx47
 have ow58 : OwnR w48 (Sx (w14.heap.size) [some (w40.heap.size), obk (A29), obk (A31)]) A27 c28 3 (g.ow : List Int) := ow33.grA g52 (fun _ _ h => by cases h) (fun k hk hs => ⟨(fun e => by injection e; omega), hs.1, hs.2.1, hs.2.2⟩)
 clear ow33
 have ow59 : OwnR w48 (Sx (w14.heap.size) [some (w40.heap.size), obk (A27), obk (A31)]) A29 c30 3 (g.pr : List Int) := ow34.grA g52 (fun _ _ h => by cases h) (fun k hk hs => ⟨(fun e => by injection e; omega), hs.1, hs.2.1, hs.2.2⟩)
 clear ow34
 have ow60 : OwnLL w48 (w14.heap.size) [some (w40.heap.size), obk (A27), obk (A29)] A31 c32 22 3 (g.mv : List (List Int)) := ow35.grA g52 (fun _ _ h => by cases h) (fun k hk hs => ⟨(fun e => by injection e; omega), hs.1, hs.2.1, hs.2.2⟩)
 clear ow35
 have bx61 : Bx w48 (w40.heap.size) [.slice none 0 0, .slice none 0 0, .slice none 0 0] 25 := Bx.new hw49
 have := bx61.lt
 clear g52 hw49
 refine At.store f50 (t := 25) (b := w40.heap.size) (off := 0) (v := .agg #[.slice A27 g.ow.length c28, .slice A29 g.pr.length c30, .slice A31 g.mv.length c32]) (by kernel_rfl) bx61 (by kernel_rfl) (fun act66 w62 g63 bx64 f65 => ?_)
 clear f50
 replace bx64 : Bx w62 (w40.heap.size) [.slice A27 g.ow.length c28, .slice A29 g.pr.length c30, .slice A31 g.mv.length c32] 25 := bx64
 have szw62 := g63.size
 have e67 := e54.gr g63 (fun k h => by injection h; omega)
 clear e54
 have r68 := r55.gr g63 (fun k h => by injection h; omega)
 clear r55
 have r69 := r56.gr g63 (fun k h => by injection h; omega)
 clear r56
 have bx70 := bx57.gr g63 (fun h => by injection h; omega)
 clear bx57
 have ow71 := ow58.gr g63 (fun k hk => hk.1)
 clear ow58
 have ow72 := ow59.gr g63 (fun k hk => hk.1)
 clear ow59
 have ow73 := ow60.gr g63 (fun k hk => hk.1)
 clear ow60
 clear bx61 g63
 refine At.done rfl ?_
 refine t_n ?_
 have f74 := f65.sub (r := [(6, .pointer (some ⟨w40.heap.size, 0, none⟩)), (5, .bool true), (2, .pointer (some ⟨w.heap.size, 0, none⟩)), (1, .slice As ls.length cs)]) ⟨rfl, rfl, rfl, rfl, trivial⟩
 clear f65
 refine wp_seq ?_
 obtain ⟨Cs75, hCs76⟩ : ∃ c : List (Addr × Value), c = [(⟨w40.heap.size, 0, none⟩, (.slice A27 g.ow.length c28)), (⟨w40.heap.size, 1, none⟩, (.slice A29 g.pr.length c30)), (⟨w40.heap.size, 2, none⟩, (.slice A31 g.mv.length c32))] := ⟨_, rfl⟩
 have hS77 : HoldsC Cs75 w62 := by rw [hCs76]; exact ⟨(bx64.cell (i := 0) rfl), (bx64.cell (i := 1) rfl), (bx64.cell (i := 2) rfl), trivial⟩
 refine AtH.start Cs75 9 #[false, false, false, false, false, false, false, false, false] (by kernel_rfl) rfl rfl (fun w79 hw80 => ?_)
 have g78 := gr_drew hw80
 have hS81 := hS77.gr g78
 have szw79 := g78.size
 have e82 := e67.gr g78 no_row
 clear e67
 have r83 := r68.gr g78 (fun _ h => by cases h)
 clear r68
 have r84 := r69.gr g78 (fun _ h => by cases h)
 clear r69
 have bx85 := bx70.gr g78 (by simp)
 clear bx70
 have ow86 := ow71.gr g78 (fun _ _ h => by cases h)
 clear ow71
 have ow87 := ow72.gr g78 (fun _ _ h => by cases h)
 clear ow72
 have ow88 := ow73.gr g78 (fun _ _ h => by cases h)
 clear ow73
 have bx89 := bx64.gr g78 (by simp)
 clear bx64
 clear g78 hw80 hS77
 refine AtH.rd (by kernel_rfl) (fun d v c a w h => by cases d <;> exact h) hS81 [0, 1] [[.ld (.slice A27 g.ow.length c28), .ld (.slice A29 g.pr.length c30), .ld (.slice A31 g.mv.length c32)], []] [(19, .slice As ls.length cs), (18, .agg #[.slice A27 g.ow.length c28, .slice A29 g.pr.length c30, .slice A31 g.mv.length c32])] #[true, true, false, false, false, false, false, false, false] [(∃ j_ : Nat, Cs75[j_]? = some (⟨w40.heap.size, 0, none⟩, (.slice A27 g.ow.length c28))), (∃ j_ : Nat, Cs75[j_]? = some (⟨w40.heap.size, 1, none⟩, (.slice A29 g.pr.length c30))), (∃ j_ : Nat, Cs75[j_]? = some (⟨w40.heap.size, 2, none⟩, (.slice A31 g.mv.length c32)))] 7 f74 (by kernel_rfl) ⟨⟨0, by rw [hCs76]; rfl⟩, ⟨1, by rw [hCs76]; rfl⟩, ⟨2, by rw [hCs76]; rfl⟩, trivial⟩ (fun act91 f90 => ?_)
 clear f74
 refine AtH.all [2] 6 (by kernel_rfl) (by simp) ⟨?_, trivial⟩
 refine OneH.call f90 26 #[.slice As ls.length cs] (some 20) #[true, true, true, false, false, false, false, false, false] (by kernel_rfl) (by kernel_rfl) (tuples_any (ls := ls) (r84.wide (Nat.zero_le _) (by omega))) ?_
 rintro e_ w97 ⟨A93, c94, rfl, he, ow95⟩
 refine ⟨_, rfl, _, rfl, fun act98 f99 => ?_⟩
 clear f90
 have g100 := gr_ext he
 have hS92 := hS81.gr g100
 have lt101 := ow86.lt
 have lt102 := ow87.lt
 have lt103 := ow88.lt
 have szw97 := g100.size
 have e104 := e82.gr g100 no_row
 clear e82
 have r105 := r83.gr g100 (fun _ h => by cases h)
 clear r83
 have r106 := r84.gr g100 (fun _ h => by cases h)
 clear r84
 have bx107 := bx85.gr g100 (by simp)
 clear bx85
 have ow108 : OwnR w97 (Sx (w14.heap.size) [obk (A93), some (w40.heap.size), obk (A29), obk (A31)]) A27 c28 3 (g.ow : List Int) := ow86.grA g100 (fun _ _ h => by cases h) (fun k hk hs => ⟨(fun e => by have := ow95.ge _ e; omega), hs.1, hs.2.1, hs.2.2.1, hs.2.2.2⟩)
 clear ow86
 have ow109 : OwnR w97 (Sx (w14.heap.size) [obk (A93), some (w40.heap.size), obk (A27), obk (A31)]) A29 c30 3 (g.pr : List Int) := ow87.grA g100 (fun _ _ h => by cases h) (fun k hk hs => ⟨(fun e => by have := ow95.ge _ e; omega), hs.1, hs.2.1, hs.2.2.1, hs.2.2.2⟩)
 clear ow87
 have ow110 : OwnLL w97 (w14.heap.size) [obk (A93), some (w40.heap.size), obk (A27), obk (A29)] A31 c32 22 3 (g.mv : List (List Int)) := ow88.grA g100 (fun _ _ h => by cases h) (fun k hk hs => ⟨(fun e => by have := ow95.ge _ e; omega), hs.1, hs.2.1, hs.2.2.1, hs.2.2.2⟩)
 clear ow88
 have bx111 := bx89.gr g100 (by simp)
 clear bx89
 have ow112 : OwnR w97 (Sx (w79.heap.size) [obk (A27), obk (A29), obk (A31)]) A93 c94 41 (ls : List Tup) := ow95.imp (fun g _ hs => ⟨(fun e => by have := lt101 _ e; have := Sx_base hs; omega), (fun e => by have := lt102 _ e; have := Sx_base hs; omega), (fun e => by have := lt103 _ e; have := Sx_base hs; omega), hs⟩)
 clear ow95
 clear lt101 lt102 lt103
 clear g100 he
 refine ⟨hS92, ?_⟩
 refine AtH.all [3] 5 (by kernel_rfl) (by simp) ⟨?_, trivial⟩
 refine OneH.call f99 30 #[.agg #[.slice A27 g.ow.length c28, .slice A29 g.pr.length c30, .slice A31 g.mv.length c32], .slice A93 ((ls).length) c94] (some 21) #[true, true, true, true, false, false, false, false, false] (by kernel_rfl) (by kernel_rfl) (evenM_any (g := g) (ls := ls) (RdG.mk (G := g) (ow108.rdI0 (by first | omega | (simp only [List.length_cons, List.length_nil]; omega) | (simp; done) | (simp; omega))) (ow109.rdI0 (by first | omega | (simp only [List.length_cons, List.length_nil]; omega) | (simp; done) | (simp; omega))) (ow110.rdII0 (by first | omega | (simp only [List.length_cons, List.length_nil]; omega) | (simp; done) | (simp; omega)) hip39) ow108.cap ow109.cap ow110.cap) ((ow112.rdR (by simp only [Enc.bytes]; omega)).wide (Nat.zero_le _) (by omega)) (by assumption)) ?_
 rintro e_ w125 ⟨A114, c115, A116, c117, a118, b119, rfl, he, ow120, ow121, hev124⟩
 have hel_hev124 := even_len hev124
 have hEv_M := hev124
 refine ⟨_, rfl, _, rfl, fun act126 f127 => ?_⟩
 clear f99
 have g128 := gr_ext he
 have hS113 := hS92.gr g128
 have lt129 := ow108.lt
 have lt130 := ow109.lt
 have lt131 := ow110.lt
 have lt132 := ow112.lt
 have szw125 := g128.size
 have e133 := e104.gr g128 no_row
 clear e104
 have r134 := r105.gr g128 (fun _ h => by cases h)
 clear r105
 have r135 := r106.gr g128 (fun _ h => by cases h)
 clear r106
 have bx136 := bx107.gr g128 (by simp)
 clear bx107
 have ow137 : OwnR w125 (Sx (w14.heap.size) [obk (A114), obk (A116), obk (A93), some (w40.heap.size), obk (A29), obk (A31)]) A27 c28 3 (g.ow : List Int) := ow108.grA g128 (fun _ _ h => by cases h) (fun k hk hs => ⟨(fun e => by have := ow120.ge _ e; omega), (fun e => by have := ow121.ge _ e; omega), hs.1, hs.2.1, hs.2.2.1, hs.2.2.2.1, hs.2.2.2.2⟩)
 clear ow108
 have ow138 : OwnR w125 (Sx (w14.heap.size) [obk (A114), obk (A116), obk (A93), some (w40.heap.size), obk (A27), obk (A31)]) A29 c30 3 (g.pr : List Int) := ow109.grA g128 (fun _ _ h => by cases h) (fun k hk hs => ⟨(fun e => by have := ow120.ge _ e; omega), (fun e => by have := ow121.ge _ e; omega), hs.1, hs.2.1, hs.2.2.1, hs.2.2.2.1, hs.2.2.2.2⟩)
 clear ow109
 have ow139 : OwnLL w125 (w14.heap.size) [obk (A114), obk (A116), obk (A93), some (w40.heap.size), obk (A27), obk (A29)] A31 c32 22 3 (g.mv : List (List Int)) := ow110.grA g128 (fun _ _ h => by cases h) (fun k hk hs => ⟨(fun e => by have := ow120.ge _ e; omega), (fun e => by have := ow121.ge _ e; omega), hs.1, hs.2.1, hs.2.2.1, hs.2.2.2.1, hs.2.2.2.2⟩)
 clear ow110
 have bx140 := bx111.gr g128 (by simp)
 clear bx111
 have ow141 : OwnR w125 (Sx (w79.heap.size) [obk (A114), obk (A116), obk (A27), obk (A29), obk (A31)]) A93 c94 41 (ls : List Tup) := ow112.grA g128 (fun _ _ h => by cases h) (fun k hk hs => ⟨(fun e => by have := ow120.ge _ e; omega), (fun e => by have := ow121.ge _ e; omega), hs.1, hs.2.1, hs.2.2.1, hs.2.2.2⟩)
 clear ow112
 have ow142 : OwnR w125 (Sx (w97.heap.size) [obk (A27), obk (A29), obk (A31), obk (A93), obk (A116)]) A114 c115 3 (a118 : List Int) := ow120.imp (fun g _ hs => ⟨(fun e => by have := lt129 _ e; have := Sx_base hs; omega), (fun e => by have := lt130 _ e; have := Sx_base hs; omega), (fun e => by have := lt131 _ e; have := Sx_base hs; omega), (fun e => by have := lt132 _ e; have := Sx_base hs; omega), hs⟩)
 clear ow120
 have ow143 : OwnR w125 (Sx (w97.heap.size) [obk (A27), obk (A29), obk (A31), obk (A93), obk (A114)]) A116 c117 3 (b119 : List Int) := ow121.imp (fun g _ hs => ⟨(fun e => by have := lt129 _ e; have := Sx_base hs; omega), (fun e => by have := lt130 _ e; have := Sx_base hs; omega), (fun e => by have := lt131 _ e; have := Sx_base hs; omega), (fun e => by have := lt132 _ e; have := Sx_base hs; omega), hs⟩)
 clear ow121
 clear lt129 lt130 lt131 lt132
 clear g128 he
 refine ⟨hS113, ?_⟩
 refine AtH.rd (by kernel_rfl) (fun d v c a w h => by cases d <;> exact h) hS113 [4] [[]] [(17, .tuple #[.slice A114 a118.length c115, .slice A116 b119.length c117])] #[true, true, true, true, true, false, false, false, false] [] 4 f127 (by kernel_rfl) trivial (fun act145 f144 => ?_)
 clear f127
 refine AtH.rd (by kernel_rfl) (fun d v c a w h => by cases d <;> exact h) hS113 [5] [[]] [(22, .slice A114 a118.length c115)] #[true, true, true, true, true, true, false, false, false] [] 3 f144 (by kernel_rfl) trivial (fun act147 f146 => ?_)
 clear f144
 refine AtH.rd (by kernel_rfl) (fun d v c a w h => by cases d <;> exact h) hS113 [6] [[]] [(23, .slice A116 b119.length c117)] #[true, true, true, true, true, true, true, false, false] [] 2 f146 (by kernel_rfl) trivial (fun act149 f148 => ?_)
 clear f146
 refine AtH.rd (by kernel_rfl) (fun d v c a w h => by cases d <;> exact h) hS113 [7] [[]] [(7, .slice A114 a118.length c115)] #[true, true, true, true, true, true, true, true, false] [] 1 f148 (by kernel_rfl) trivial (fun act151 f150 => ?_)
 clear f148
 refine AtH.rd (by kernel_rfl) (fun d v c a w h => by cases d <;> exact h) hS113 [8] [[]] [(8, .slice A116 b119.length c117)] #[true, true, true, true, true, true, true, true, true] [] 0 f150 (by kernel_rfl) trivial (fun act153 f152 => ?_)
 clear f150
 refine AtH.done (by kernel_rfl) ?_
 clear hS113
 refine t_n ?_
 have f154 := f152.sub (r := [(8, .slice A116 b119.length c117), (7, .slice A114 a118.length c115), (6, .pointer (some ⟨w40.heap.size, 0, none⟩)), (5, .bool true), (2, .pointer (some ⟨w.heap.size, 0, none⟩)), (1, .slice As ls.length cs)]) ⟨rfl, rfl, rfl, rfl, rfl, rfl, trivial⟩
 clear f152
 refine wp_seq ?_
 refine At.start ?_
 refine At.rd f154 2 [[.ld (.slice Ag0 g.ow.length cg0), .ld (.slice Ag1 g.pr.length cg1), .ld (.slice Ag2 g.mv.length cg2)], []] [(26, .slice As ls.length cs), (25, .agg #[.slice Ag0 g.ow.length cg0, .slice Ag1 g.pr.length cg1, .slice Ag2 g.mv.length cg2])] [(w125.cell? ⟨w.heap.size, 0, none⟩ = some (.slice Ag0 g.ow.length cg0)), (w125.cell? ⟨w.heap.size, 1, none⟩ = some (.slice Ag1 g.pr.length cg1)), (w125.cell? ⟨w.heap.size, 2, none⟩ = some (.slice Ag2 g.mv.length cg2))] (by kernel_rfl) ⟨(bx136.cell (i := 0) rfl), (bx136.cell (i := 1) rfl), (bx136.cell (i := 2) rfl), trivial⟩ (fun act156 f155 => ?_)
 clear f154
 refine At.call f155 31 #[.agg #[.slice Ag0 g.ow.length cg0, .slice Ag1 g.pr.length cg1, .slice Ag2 g.mv.length cg2], .slice As ls.length cs] (some 27) (by kernel_rfl) (evenR_any (g := g) (ls := ls) (r134.wide (Nat.zero_le _) (by omega)) (r135.wide (Nat.zero_le _) (by omega)) (by assumption)) ?_
 rintro e_ w168 ⟨A157, c158, A159, c160, a161, b162, rfl, he, ow163, ow164, hev167⟩
 have hel_hev167 := even_len hev167
 have hEv_R := hev167
 refine ⟨_, rfl, _, rfl, fun act169 f170 => ?_⟩
 clear f155
 have g171 := gr_ext he
 have lt172 := ow137.lt
 have lt173 := ow138.lt
 have lt174 := ow139.lt
 have lt175 := ow141.lt
 have lt176 := ow142.lt
 have lt177 := ow143.lt
 have szw168 := g171.size
 have e178 := e133.gr g171 no_row
 clear e133
 have r179 := r134.gr g171 (fun _ h => by cases h)
 clear r134
 have r180 := r135.gr g171 (fun _ h => by cases h)
 clear r135
 have bx181 := bx136.gr g171 (by simp)
 clear bx136
 have ow182 : OwnR w168 (Sx (w14.heap.size) [obk (A157), obk (A159), obk (A114), obk (A116), obk (A93), some (w40.heap.size), obk (A29), obk (A31)]) A27 c28 3 (g.ow : List Int) := ow137.grA g171 (fun _ _ h => by cases h) (fun k hk hs => ⟨(fun e => by have := ow163.ge _ e; omega), (fun e => by have := ow164.ge _ e; omega), hs.1, hs.2.1, hs.2.2.1, hs.2.2.2.1, hs.2.2.2.2.1, hs.2.2.2.2.2.1, hs.2.2.2.2.2.2⟩)
 clear ow137
 have ow183 : OwnR w168 (Sx (w14.heap.size) [obk (A157), obk (A159), obk (A114), obk (A116), obk (A93), some (w40.heap.size), obk (A27), obk (A31)]) A29 c30 3 (g.pr : List Int) := ow138.grA g171 (fun _ _ h => by cases h) (fun k hk hs => ⟨(fun e => by have := ow163.ge _ e; omega), (fun e => by have := ow164.ge _ e; omega), hs.1, hs.2.1, hs.2.2.1, hs.2.2.2.1, hs.2.2.2.2.1, hs.2.2.2.2.2.1, hs.2.2.2.2.2.2⟩)
 clear ow138
 have ow184 : OwnLL w168 (w14.heap.size) [obk (A157), obk (A159), obk (A114), obk (A116), obk (A93), some (w40.heap.size), obk (A27), obk (A29)] A31 c32 22 3 (g.mv : List (List Int)) := ow139.grA g171 (fun _ _ h => by cases h) (fun k hk hs => ⟨(fun e => by have := ow163.ge _ e; omega), (fun e => by have := ow164.ge _ e; omega), hs.1, hs.2.1, hs.2.2.1, hs.2.2.2.1, hs.2.2.2.2.1, hs.2.2.2.2.2.1, hs.2.2.2.2.2.2⟩)
 clear ow139
 have bx185 := bx140.gr g171 (by simp)
 clear bx140
 have ow186 : OwnR w168 (Sx (w79.heap.size) [obk (A157), obk (A159), obk (A114), obk (A116), obk (A27), obk (A29), obk (A31)]) A93 c94 41 (ls : List Tup) := ow141.grA g171 (fun _ _ h => by cases h) (fun k hk hs => ⟨(fun e => by have := ow163.ge _ e; omega), (fun e => by have := ow164.ge _ e; omega), hs.1, hs.2.1, hs.2.2.1, hs.2.2.2.1, hs.2.2.2.2.1, hs.2.2.2.2.2⟩)
 clear ow141
 have ow187 : OwnR w168 (Sx (w97.heap.size) [obk (A157), obk (A159), obk (A27), obk (A29), obk (A31), obk (A93), obk (A116)]) A114 c115 3 (a118 : List Int) := ow142.grA g171 (fun _ _ h => by cases h) (fun k hk hs => ⟨(fun e => by have := ow163.ge _ e; omega), (fun e => by have := ow164.ge _ e; omega), hs.1, hs.2.1, hs.2.2.1, hs.2.2.2.1, hs.2.2.2.2.1, hs.2.2.2.2.2⟩)
 clear ow142
 have ow188 : OwnR w168 (Sx (w97.heap.size) [obk (A157), obk (A159), obk (A27), obk (A29), obk (A31), obk (A93), obk (A114)]) A116 c117 3 (b119 : List Int) := ow143.grA g171 (fun _ _ h => by cases h) (fun k hk hs => ⟨(fun e => by have := ow163.ge _ e; omega), (fun e => by have := ow164.ge _ e; omega), hs.1, hs.2.1, hs.2.2.1, hs.2.2.2.1, hs.2.2.2.2.1, hs.2.2.2.2.2⟩)
 clear ow143
 have ow189 : OwnR w168 (Sx (w125.heap.size) [obk (A27), obk (A29), obk (A31), obk (A93), obk (A114), obk (A116), obk (A159)]) A157 c158 3 (a161 : List Int) := ow163.imp (fun g _ hs => ⟨(fun e => by have := lt172 _ e; have := Sx_base hs; omega), (fun e => by have := lt173 _ e; have := Sx_base hs; omega), (fun e => by have := lt174 _ e; have := Sx_base hs; omega), (fun e => by have := lt175 _ e; have := Sx_base hs; omega), (fun e => by have := lt176 _ e; have := Sx_base hs; omega), (fun e => by have := lt177 _ e; have := Sx_base hs; omega), hs⟩)
 clear ow163
 have ow190 : OwnR w168 (Sx (w125.heap.size) [obk (A27), obk (A29), obk (A31), obk (A93), obk (A114), obk (A116), obk (A157)]) A159 c160 3 (b162 : List Int) := ow164.imp (fun g _ hs => ⟨(fun e => by have := lt172 _ e; have := Sx_base hs; omega), (fun e => by have := lt173 _ e; have := Sx_base hs; omega), (fun e => by have := lt174 _ e; have := Sx_base hs; omega), (fun e => by have := lt175 _ e; have := Sx_base hs; omega), (fun e => by have := lt176 _ e; have := Sx_base hs; omega), (fun e => by have := lt177 _ e; have := Sx_base hs; omega), hs⟩)
 clear ow164
 clear lt172 lt173 lt174 lt175 lt176 lt177
 clear g171 he
 refine At.rd f170 5 [[], [], [], [], []] [(10, .slice A159 b162.length c160), (9, .slice A157 a161.length c158), (29, .slice A159 b162.length c160), (28, .slice A157 a161.length c158), (24, .tuple #[.slice A157 a161.length c158, .slice A159 b162.length c160])] [] (by kernel_rfl) trivial (fun act192 f191 => ?_)
 clear f170
 refine At.done rfl ?_
 refine t_n ?_
 have f193 := f191.sub (r := [(10, .slice A159 b162.length c160), (9, .slice A157 a161.length c158), (8, .slice A116 b119.length c117), (7, .slice A114 a118.length c115), (6, .pointer (some ⟨w40.heap.size, 0, none⟩)), (5, .bool true), (2, .pointer (some ⟨w.heap.size, 0, none⟩))]) ⟨rfl, rfl, rfl, rfl, rfl, rfl, rfl, trivial⟩
 clear f191
 refine wp_seq ?_
 obtain ⟨hea, heb⟩ := even_one hEv_M hEv_R
 refine At.start ?_
 refine At.rd f193 2 [[], []] [(31, .slice A157 a161.length c158), (30, .slice A114 a118.length c115)] [] (by kernel_rfl) trivial (fun act195 f194 => ?_)
 clear f193
 refine At.call f194 20 #[.slice A114 a118.length c115, .slice A157 a161.length c158] (some 32) (by kernel_rfl) (sameInts_any (la := a118) (lb := a161) (ow187.rdI0 (by first | omega | (simp only [List.length_cons, List.length_nil]; omega) | (simp; done) | (simp; omega))) (ow189.rdI0 (by first | omega | (simp only [List.length_cons, List.length_nil]; omega) | (simp; done) | (simp; omega)))) ?_
 rintro e_ w196 ⟨rfl, he⟩
 refine ⟨_, rfl, _, rfl, fun act197 f198 => ?_⟩
 clear f194
 have g199 := gr_ext he
 have szw196 := g199.size
 have e200 := e178.gr g199 no_row
 clear e178
 have r201 := r179.gr g199 (fun _ h => by cases h)
 clear r179
 have r202 := r180.gr g199 (fun _ h => by cases h)
 clear r180
 have bx203 := bx181.gr g199 (by simp)
 clear bx181
 have ow204 := ow182.gr g199 (fun _ _ h => by cases h)
 clear ow182
 have ow205 := ow183.gr g199 (fun _ _ h => by cases h)
 clear ow183
 have ow206 := ow184.gr g199 (fun _ _ h => by cases h)
 clear ow184
 have bx207 := bx185.gr g199 (by simp)
 clear bx185
 have ow208 := ow186.gr g199 (fun _ _ h => by cases h)
 clear ow186
 have ow209 := ow187.gr g199 (fun _ _ h => by cases h)
 clear ow187
 have ow210 := ow188.gr g199 (fun _ _ h => by cases h)
 clear ow188
 have ow211 := ow189.gr g199 (fun _ _ h => by cases h)
 clear ow189
 have ow212 := ow190.gr g199 (fun _ _ h => by cases h)
 clear ow190
 clear g199 he
 refine At.rd f198 1 [[]] [(11, .bool (decide (a118 = a161)))] [] (by kernel_rfl) trivial (fun act214 f213 => ?_)
 clear f198
 refine At.done rfl ?_
 refine t_n ?_
 have f215 := f213.sub (r := [(11, .bool (decide (a118 = a161))), (10, .slice A159 b162.length c160), (8, .slice A116 b119.length c117), (6, .pointer (some ⟨w40.heap.size, 0, none⟩)), (5, .bool true), (2, .pointer (some ⟨w.heap.size, 0, none⟩))]) ⟨rfl, rfl, rfl, rfl, rfl, rfl, trivial⟩
 clear f213
 refine wp_seq ?_
 refine At.start ?_
 refine At.rd f215 2 [[], []] [(34, .slice A159 b162.length c160), (33, .slice A116 b119.length c117)] [] (by kernel_rfl) trivial (fun act217 f216 => ?_)
 clear f215
 refine At.call f216 20 #[.slice A116 b119.length c117, .slice A159 b162.length c160] (some 35) (by kernel_rfl) (sameInts_any (la := b119) (lb := b162) (ow210.rdI0 (by first | omega | (simp only [List.length_cons, List.length_nil]; omega) | (simp; done) | (simp; omega))) (ow212.rdI0 (by first | omega | (simp only [List.length_cons, List.length_nil]; omega) | (simp; done) | (simp; omega)))) ?_
 rintro e_ w218 ⟨rfl, he⟩
 refine ⟨_, rfl, _, rfl, fun act219 f220 => ?_⟩
 clear f216
 have g221 := gr_ext he
 have szw218 := g221.size
 have e222 := e200.gr g221 no_row
 clear e200
 have r223 := r201.gr g221 (fun _ h => by cases h)
 clear r201
 have r224 := r202.gr g221 (fun _ h => by cases h)
 clear r202
 have bx225 := bx203.gr g221 (by simp)
 clear bx203
 have ow226 := ow204.gr g221 (fun _ _ h => by cases h)
 clear ow204
 have ow227 := ow205.gr g221 (fun _ _ h => by cases h)
 clear ow205
 have ow228 := ow206.gr g221 (fun _ _ h => by cases h)
 clear ow206
 have bx229 := bx207.gr g221 (by simp)
 clear bx207
 have ow230 := ow208.gr g221 (fun _ _ h => by cases h)
 clear ow208
 have ow231 := ow209.gr g221 (fun _ _ h => by cases h)
 clear ow209
 have ow232 := ow210.gr g221 (fun _ _ h => by cases h)
 clear ow210
 have ow233 := ow211.gr g221 (fun _ _ h => by cases h)
 clear ow211
 have ow234 := ow212.gr g221 (fun _ _ h => by cases h)
 clear ow212
 clear g221 he
 refine At.rd f220 1 [[]] [(12, .bool (decide (b119 = b162)))] [] (by kernel_rfl) trivial (fun act236 f235 => ?_)
 clear f220
 refine At.done rfl ?_
 refine t_n ?_
 have f237 := f235.sub (r := [(12, .bool (decide (b119 = b162))), (11, .bool (decide (a118 = a161))), (6, .pointer (some ⟨w40.heap.size, 0, none⟩)), (5, .bool true), (2, .pointer (some ⟨w.heap.size, 0, none⟩))]) ⟨rfl, rfl, rfl, rfl, rfl, trivial⟩
 clear f235
 refine wp_seq ?_
 refine At.start ?_
 refine At.rd f237 2 [[.ld (.slice A27 g.ow.length c28), .ld (.slice A29 g.pr.length c30), .ld (.slice A31 g.mv.length c32)], [.ld (.slice Ag0 g.ow.length cg0), .ld (.slice Ag1 g.pr.length cg1), .ld (.slice Ag2 g.mv.length cg2)]] [(37, .agg #[.slice Ag0 g.ow.length cg0, .slice Ag1 g.pr.length cg1, .slice Ag2 g.mv.length cg2]), (36, .agg #[.slice A27 g.ow.length c28, .slice A29 g.pr.length c30, .slice A31 g.mv.length c32])] [(w218.cell? ⟨w40.heap.size, 0, none⟩ = some (.slice A27 g.ow.length c28)), (w218.cell? ⟨w40.heap.size, 1, none⟩ = some (.slice A29 g.pr.length c30)), (w218.cell? ⟨w40.heap.size, 2, none⟩ = some (.slice A31 g.mv.length c32)), (w218.cell? ⟨w.heap.size, 0, none⟩ = some (.slice Ag0 g.ow.length cg0)), (w218.cell? ⟨w.heap.size, 1, none⟩ = some (.slice Ag1 g.pr.length cg1)), (w218.cell? ⟨w.heap.size, 2, none⟩ = some (.slice Ag2 g.mv.length cg2))] (by kernel_rfl) ⟨(bx229.cell (i := 0) rfl), (bx229.cell (i := 1) rfl), (bx229.cell (i := 2) rfl), (bx225.cell (i := 0) rfl), (bx225.cell (i := 1) rfl), (bx225.cell (i := 2) rfl), trivial⟩ (fun act239 f238 => ?_)
 clear f237
 refine At.call f238 19 #[.agg #[.slice A27 g.ow.length c28, .slice A29 g.pr.length c30, .slice A31 g.mv.length c32], .agg #[.slice Ag0 g.ow.length cg0, .slice Ag1 g.pr.length cg1, .slice Ag2 g.mv.length cg2]] (some 38) (by kernel_rfl) (same_any (a := g) (b := g) (RdG.mk (G := g) (ow226.rdI0 (by first | omega | (simp only [List.length_cons, List.length_nil]; omega) | (simp; done) | (simp; omega))) (ow227.rdI0 (by first | omega | (simp only [List.length_cons, List.length_nil]; omega) | (simp; done) | (simp; omega))) (ow228.rdII0 (by first | omega | (simp only [List.length_cons, List.length_nil]; omega) | (simp; done) | (simp; omega)) hip39) ow226.cap ow227.cap ow228.cap) (r223.wide (Nat.zero_le _) (by omega))) ?_
 rintro e_ w240 ⟨rfl, he⟩
 refine ⟨_, rfl, _, rfl, fun act241 f242 => ?_⟩
 clear f238
 have g243 := gr_ext he
 have szw240 := g243.size
 have e244 := e222.gr g243 no_row
 clear e222
 have r245 := r223.gr g243 (fun _ h => by cases h)
 clear r223
 have r246 := r224.gr g243 (fun _ h => by cases h)
 clear r224
 have bx247 := bx225.gr g243 (by simp)
 clear bx225
 have ow248 := ow226.gr g243 (fun _ _ h => by cases h)
 clear ow226
 have ow249 := ow227.gr g243 (fun _ _ h => by cases h)
 clear ow227
 have ow250 := ow228.gr g243 (fun _ _ h => by cases h)
 clear ow228
 have bx251 := bx229.gr g243 (by simp)
 clear bx229
 have ow252 := ow230.gr g243 (fun _ _ h => by cases h)
 clear ow230
 have ow253 := ow231.gr g243 (fun _ _ h => by cases h)
 clear ow231
 have ow254 := ow232.gr g243 (fun _ _ h => by cases h)
 clear ow232
 have ow255 := ow233.gr g243 (fun _ _ h => by cases h)
 clear ow233
 have ow256 := ow234.gr g243 (fun _ _ h => by cases h)
 clear ow234
 clear g243 he
 refine At.rd f242 1 [[]] [(13, .bool (decide (g = g)))] [] (by kernel_rfl) trivial (fun act258 f257 => ?_)
 clear f242
 refine At.done rfl ?_
 refine t_n ?_
 have f259 := f257.sub (r := [(13, .bool (decide (g = g))), (12, .bool (decide (b119 = b162))), (11, .bool (decide (a118 = a161))), (5, .bool true)]) ⟨rfl, rfl, rfl, rfl, trivial⟩
 clear f257
 refine wp_seq ?_
 refine At.start ?_
 rcases Bool.eq_false_or_eq_true (decide (a118 = a161)) with h260 | h260
 ·have q261 := of_decide_eq_true h260
  rcases Bool.eq_false_or_eq_true (decide (b119 = b162)) with h262 | h262
  ·have q263 := of_decide_eq_true h262
   refine At.rd f259 11 [[], [], [], [], [.as_ (.bool true)], [], [], [.as_ (.bool true)], [], [], []] [(4, .bool (decide (g = g))), (48, .bool (decide (g = g))), (47, .bool (decide (g = g))), (46, .bool true), (45, .bool (decide (b119 = b162))), (44, .bool (decide (b119 = b162))), (43, .bool true), (42, .bool (decide (a118 = a161))), (41, .bool (decide (a118 = a161))), (40, .bool true), (39, .bool true)] [((.bool (decide (a118 = a161)) : Value) = .bool true), ((.bool (decide (b119 = b162)) : Value) = .bool true)] (by kernel_rfl) ⟨(congrArg Value.bool h260), (congrArg Value.bool h262), trivial⟩ (fun act265 f264 => ?_)
   clear f259
   refine At.done rfl ?_
   refine t_n ?_
   have f266 := f264.sub (r := [(4, .bool (decide (g = g)))]) ⟨rfl, trivial⟩
   clear f264
   refine wp_ret ?_
   refine ret_ f266 [] [.bool (decide (g = g))] [] (by kernel_rfl) trivial ?_
   exact ⟨ret_eq (congrArg Value.bool (by first | omega | exact absurd hea (of_decide_eq_false (by assumption)) | exact absurd heb (of_decide_eq_false (by assumption)) | exact of_decide_eq_false (by assumption : decide (g = g) = false) rfl | exact decide_eq_true rfl)), e244⟩
  ·have q267 := of_decide_eq_false h262
   refine At.rd f259 11 [[], [], [], [], [.as_ (.bool true)], [], [], [.as_ (.bool false)], [], [], []] [(4, .bool false), (48, .bool false), (47, undef), (46, .bool false), (45, .bool (decide (b119 = b162))), (44, .bool (decide (b119 = b162))), (43, .bool true), (42, .bool (decide (a118 = a161))), (41, .bool (decide (a118 = a161))), (40, .bool true), (39, .bool true)] [((.bool (decide (a118 = a161)) : Value) = .bool true), ((.bool (decide (b119 = b162)) : Value) = .bool false)] (by kernel_rfl) ⟨(congrArg Value.bool h260), (congrArg Value.bool h262), trivial⟩ (fun act269 f268 => ?_)
   clear f259
   refine At.done rfl ?_
   refine t_n ?_
   have f270 := f268.sub (r := [(4, .bool false)]) ⟨rfl, trivial⟩
   clear f268
   refine wp_ret ?_
   refine ret_ f270 [] [.bool false] [] (by kernel_rfl) trivial ?_
   exfalso; first | omega | exact absurd hea (of_decide_eq_false (by assumption)) | exact absurd heb (of_decide_eq_false (by assumption)) | exact of_decide_eq_false (by assumption : decide (g = g) = false) rfl | exact decide_eq_true rfl
 ·have q271 := of_decide_eq_false h260
  refine At.rd f259 11 [[], [], [], [], [.as_ (.bool false)], [], [], [], [], [], []] [(4, .bool false), (48, .bool false), (47, undef), (46, .bool false), (45, .bool false), (44, undef), (43, .bool false), (42, .bool (decide (a118 = a161))), (41, .bool (decide (a118 = a161))), (40, .bool true), (39, .bool true)] [((.bool (decide (a118 = a161)) : Value) = .bool false)] (by kernel_rfl) ⟨(congrArg Value.bool h260), trivial⟩ (fun act273 f272 => ?_)
  clear f259
  refine At.done rfl ?_
  refine t_n ?_
  have f274 := f272.sub (r := [(4, .bool false)]) ⟨rfl, trivial⟩
  clear f272
  refine wp_ret ?_
  refine ret_ f274 [] [.bool false] [] (by kernel_rfl) trivial ?_
  exfalso; first | omega | exact absurd hea (of_decide_eq_false (by assumption)) | exact absurd heb (of_decide_eq_false (by assumption)) | exact of_decide_eq_false (by assumption : decide (g = g) = false) rfl | exact decide_eq_true rfl

end Go.Proofs.Ytklbpajmoklheaa
