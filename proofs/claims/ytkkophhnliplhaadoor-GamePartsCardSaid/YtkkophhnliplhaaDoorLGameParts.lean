/-
  A walk of a Go function, printed by a program of this repo. Conditions: what the theorems name.
-/
import Derived.Test.YtkkophhnliplhaaDoorWShown09
import Derived.Test.YtkkophhnliplhaaDoorPureParts
import Derived.Test.YtkkophhnliplhaaDoorWRight09
import Derived.Test.YtkkophhnliplhaaDoorWSame2
set_option linter.unusedVariables false
set_option linter.unusedSimpArgs false
namespace Go.Proofs.YtkkophhnliplhaaDoor
open Go Go.RowKit

attribute [local irreducible] ofZ fromW wordsD ofD ofW lsD lenW lenN fullW withW lessW hasW hasD inW inD leastD putD onI tzI orS andS minusS orD andD minusD fullD emptyD
set_option maxHeartbeats 4000000 in
theorem parts09_any {Ag0 Ag1 Ag2 : Option Addr} {cg0 cg1 cg2 : Nat} {g : GameL} {s : List Int} {u : List Int} {w : World} (rg : RdG w 0 w.heap.size Ag0 Ag1 Ag2 cg0 cg1 cg2 g) (hs : OkW s) (hu : OkW u) (rT : RdT w 0 w.heap.size) :
    Calls Tryd.prog 11 #[.agg #[.slice Ag0 g.ow.length cg0, .slice Ag1 g.pr.length cg1, .slice Ag2 g.mv.length cg2], .agg ((s : List Int).map wV).toArray, .agg ((u : List Int).map wV).toArray] w fun e w' => e = .returned (.bool true) ∧ Ext w w' := by
 have hlg0 := rg.ow.len
 have hlg1 := rg.pr.len
 have hlg2 := rg.mv.len
 have hkg0 := rg.k0
 have hkg1 := rg.k1
 have hkg2 := rg.k2
 have hls := hs.1
 have hlu := hu.1
 refine enter_ (args := [.agg #[.slice Ag0 g.ow.length cg0, .slice Ag1 g.pr.length cg1, .slice Ag2 g.mv.length cg2], .agg ((s : List Int).map wV).toArray, .agg ((u : List Int).map wV).toArray]) Tryd.func11 rfl Tryd.ntmps11 (Nat.le_of_ble_eq_true rfl) (fun act0 f0 => ?_)
 have e0 : Ext w w := Ext.refl w
 refine wp_seq ?_
 refine At.start ?_
 refine At.seq f0 1 [[]] [(3, .pointer (some ⟨w.heap.size, 0, none⟩))] (w.alloc (.cells #[.slice Ag0 g.ow.length cg0, .slice Ag1 g.pr.length cg1, .slice Ag2 g.mv.length cg2] 25 (0, 0))) [] (by kernel_rfl) trivial (fun act4 w1 hw2 f3 => ?_)
 clear f0
 have g5 := gr_alloc hw2
 have szw1 := g5.size
 replace e0 := e0.gr g5 no_row
 have r8 := rg.gr g5 (fun _ h => by cases h)
 clear rg
 have r9 := rT.gr g5 (fun _ h => by cases h)
 clear rT
 have bx10 : Bx w1 (w.heap.size) [.slice Ag0 g.ow.length cg0, .slice Ag1 g.pr.length cg1, .slice Ag2 g.mv.length cg2] 25 := Bx.new hw2
 have := bx10.lt
 clear g5 hw2
 refine At.seq f3 1 [[]] [(4, .pointer (some ⟨w1.heap.size, 0, none⟩))] (w1.alloc (.cells ((s : List Int).map wV).toArray 35 (0, 0))) [] (by kernel_rfl) trivial (fun act14 w11 hw12 f13 => ?_)
 clear f3
 have g15 := gr_alloc hw12
 have szw11 := g15.size
 replace e0 := e0.gr g15 no_row
 replace r8 := r8.gr g15 (fun _ h => by cases h)
 replace r9 := r9.gr g15 (fun _ h => by cases h)
 replace bx10 := bx10.gr g15 (by simp)
 have bx21 : Bx w11 (w1.heap.size) ((s : List Int).map wV) 35 := Bx.new hw12
 have := bx21.lt
 clear g15 hw12
 refine At.seq f13 1 [[]] [(5, .pointer (some ⟨w11.heap.size, 0, none⟩))] (w11.alloc (.cells ((u : List Int).map wV).toArray 35 (0, 0))) [] (by kernel_rfl) trivial (fun act25 w22 hw23 f24 => ?_)
 clear f13
 have g26 := gr_alloc hw23
 have szw22 := g26.size
 replace e0 := e0.gr g26 no_row
 replace r8 := r8.gr g26 (fun _ h => by cases h)
 replace r9 := r9.gr g26 (fun _ h => by cases h)
 replace bx10 := bx10.gr g26 (by simp)
 replace bx21 := bx21.gr g26 (by simp)
 have bx33 : Bx w22 (w11.heap.size) ((u : List Int).map wV) 35 := Bx.new hw23
 have := bx33.lt
 clear g26 hw23
 refine At.rd f24 1 [[]] [(6, .bool false)] [] (by kernel_rfl) trivial (fun act35 f34 => ?_)
 clear f24
 refine At.done rfl ?_
 refine t_n ?_
 refine wp_seq ?_
 refine At.start ?_
 refine At.call f34 12 #[] (some 35) (by kernel_rfl) (shown09_any (r9.wide (Nat.zero_le _) (by omega))) ?_
 rintro e_ w36 ⟨rfl, he⟩
 refine ⟨_, rfl, _, rfl, fun act37 f38 => ?_⟩
 clear f34
 have g39 := gr_ext he
 have szw36 := g39.size
 replace e0 := e0.gr g39 no_row
 replace r8 := r8.gr g39 (fun _ h => by cases h)
 replace r9 := r9.gr g39 (fun _ h => by cases h)
 replace bx10 := bx10.gr g39 (by simp)
 replace bx21 := bx21.gr g39 (by simp)
 replace bx33 := bx33.gr g39 (by simp)
 clear g39 he
 refine At.rd f38 1 [[]] [(7, .bool true)] [] (by kernel_rfl) trivial (fun act47 f46 => ?_)
 clear f38
 refine At.done rfl ?_
 refine t_n ?_
 refine wp_seq ?_
 refine At.start ?_
 refine At.rd f46 1 [[.ld (.slice Ag0 g.ow.length cg0), .ld (.slice Ag1 g.pr.length cg1), .ld (.slice Ag2 g.mv.length cg2)]] [(36, .agg #[.slice Ag0 g.ow.length cg0, .slice Ag1 g.pr.length cg1, .slice Ag2 g.mv.length cg2])] [(w36.cell? ⟨w.heap.size, 0, none⟩ = some (.slice Ag0 g.ow.length cg0)), (w36.cell? ⟨w.heap.size, 1, none⟩ = some (.slice Ag1 g.pr.length cg1)), (w36.cell? ⟨w.heap.size, 2, none⟩ = some (.slice Ag2 g.mv.length cg2))] (by kernel_rfl) ⟨(bx10.cell (i := 0) rfl), (bx10.cell (i := 1) rfl), (bx10.cell (i := 2) rfl), trivial⟩ (fun act49 f48 => ?_)
 clear f46
 refine At.call f48 29 #[.agg #[.slice Ag0 g.ow.length cg0, .slice Ag1 g.pr.length cg1, .slice Ag2 g.mv.length cg2]] (some 37) (by kernel_rfl) (right09_any (r8.wide (Nat.zero_le _) (by omega))) ?_
 rintro e_ w50 ⟨rfl, he⟩
 refine ⟨_, rfl, _, rfl, fun act51 f52 => ?_⟩
 clear f48
 have g53 := gr_ext he
 have szw50 := g53.size
 replace e0 := e0.gr g53 no_row
 replace r8 := r8.gr g53 (fun _ h => by cases h)
 replace r9 := r9.gr g53 (fun _ h => by cases h)
 replace bx10 := bx10.gr g53 (by simp)
 replace bx21 := bx21.gr g53 (by simp)
 replace bx33 := bx33.gr g53 (by simp)
 clear g53 he
 refine At.rd f52 1 [[]] [(8, .bool (isR g))] [] (by kernel_rfl) trivial (fun act61 f60 => ?_)
 clear f52
 refine At.done rfl ?_
 refine t_n ?_
 refine wp_seq ?_
 refine wp_seq ?_
 refine At.start ?_
 refine At.rd f60 6 [[], [], [], [], [], []] [(43, .bool (!(isR g))), (42, .bool (!(isR g))), (41, .bool (isR g)), (40, .bool false), (39, .bool false), (38, .bool true)] [] (by kernel_rfl) trivial (fun act63 f62 => ?_)
 clear f60
 refine At.done rfl ?_
 refine t_n ?_
 refine cond_S f62 (t := !(isR g)) rfl (fun h64 => ?_) (fun h64 => ?_)
 ·have q65 : (isR g) = false := by first | exact Eq.mp (Bool.not_eq_true' _) h64 | exact Eq.mp (Bool.not_eq_false' _) h64 | simpa using h64
  refine wp_seq ?_
  refine At.start ?_
  refine At.rd f62 2 [[], []] [(6, .bool true), (44, .bool true)] [] (by kernel_rfl) trivial (fun act68 f67 => ?_)
  clear f62
  refine At.done rfl ?_
  refine t_n ?_
  clear bx10
  clear bx21
  clear bx33
  refine wp_ret ?_
  refine t_r ?_
  refine ret_ f67 [] [.bool true] [] (by kernel_rfl) trivial ?_
  exact ⟨rfl, e0⟩
 ·have q69 : (isR g) = true := by first | exact Eq.mp (Bool.not_eq_true' _) h64 | exact Eq.mp (Bool.not_eq_false' _) h64 | simpa using h64
  refine wp_skip ?_
  refine t_n ?_
  refine wp_seq ?_
  have hR : isR g = true := by assumption
  have hG := isR_ok hR
  have hn1 := hG.n1
  have hn0 := hG.n0
  have hpl := hG.pl
  have hml := hG.ml
  refine At.start ?_
  refine At.rd f62 4 [[], [.ld (.slice Ag0 g.ow.length cg0)], [], []] [(9, .int .i64 (((g.ow.length : Nat) : Int))), (47, .int .i64 (((g.ow.length : Nat) : Int))), (46, .slice Ag0 g.ow.length cg0), (45, .pointer (some ⟨w.heap.size, 0, none⟩))] [(w50.cell? ⟨w.heap.size, 0, none⟩ = some (.slice Ag0 g.ow.length cg0))] (by kernel_rfl) ⟨(bx10.cell (i := 0) rfl), trivial⟩ (fun act72 f71 => ?_)
  clear f62
  refine At.done rfl ?_
  refine t_n ?_
  refine wp_seq (cut (fun a_ w_ => ∃ (b_79 : Nat) (A_73 : Option Addr) (A_74 : Option Addr) (A_75 : Option Addr) (c_76 : Nat) (c_77 : Nat) (c_78 : Nat), (Frm 279 a_ [(12, .bool (subB g (inT g (fullW 256)))), (10, .pointer (some ⟨b_79, 0, none⟩)), (9, .int .i64 (((g.ow.length : Nat) : Int))), (6, .bool false), (5, .pointer (some ⟨w11.heap.size, 0, none⟩)), (4, .pointer (some ⟨w1.heap.size, 0, none⟩)), (3, .pointer (some ⟨w.heap.size, 0, none⟩))]) ∧ (Ext w w_) ∧ (RdG w_ 0 w.heap.size Ag0 Ag1 Ag2 cg0 cg1 cg2 g) ∧ (RdT w_ 0 w.heap.size) ∧ (Bx w_ (w.heap.size) [.slice Ag0 g.ow.length cg0, .slice Ag1 g.pr.length cg1, .slice Ag2 g.mv.length cg2] 25) ∧ (Bx w_ (w1.heap.size) ((s : List Int).map wV) 35) ∧ (Bx w_ (w11.heap.size) ((u : List Int).map wV) 35) ∧ (OwnR w_ (Sx (w50.heap.size) [obk (A_74), obk (A_75), some (b_79)]) (A_73) (c_76) 3 ((subG g (inT g (fullW 256))).ow : List Int)) ∧ (OwnR w_ (Sx (w50.heap.size) [obk (A_73), obk (A_75), some (b_79)]) (A_74) (c_77) 3 ((subG g (inT g (fullW 256))).pr : List Int)) ∧ (OwnLL w_ (w50.heap.size) [obk (A_73), obk (A_74), some (b_79)] (A_75) (c_78) 22 3 ((subG g (inT g (fullW 256))).mv : List (List Int))) ∧ (Bx w_ (b_79) [.slice (A_73) ((subG g (inT g (fullW 256))).ow.length) (c_76), .slice (A_74) ((subG g (inT g (fullW 256))).pr.length) (c_77), .slice (A_75) ((subG g (inT g (fullW 256))).mv.length) (c_78)] 25) ∧ (w50.heap.size ≤ b_79) ∧ (w50.heap.size ≤ w_.heap.size)) ?_ ?_)
  ·obtain ⟨Cs80, hCs81⟩ : ∃ c : List (Addr × Value), c = [(⟨w.heap.size, 0, none⟩, (.slice Ag0 g.ow.length cg0)), (⟨w.heap.size, 1, none⟩, (.slice Ag1 g.pr.length cg1)), (⟨w.heap.size, 2, none⟩, (.slice Ag2 g.mv.length cg2))] := ⟨_, rfl⟩
   have hS82 : HoldsC Cs80 w50 := by rw [hCs81]; exact ⟨(bx10.cell (i := 0) rfl), (bx10.cell (i := 1) rfl), (bx10.cell (i := 2) rfl), trivial⟩
   refine AtH.start Cs80 11 #[false, false, false, false, false, false, false, false, false, false, false] (by kernel_rfl) rfl rfl (fun w84 hw85 => ?_)
   have g83 := gr_drew hw85
   have hS86 := hS82.gr g83
   have szw84 := g83.size
   replace e0 := e0.gr g83 no_row
   replace r8 := r8.gr g83 (fun _ h => by cases h)
   replace r9 := r9.gr g83 (fun _ h => by cases h)
   replace bx10 := bx10.gr g83 (by simp)
   replace bx21 := bx21.gr g83 (by simp)
   replace bx33 := bx33.gr g83 (by simp)
   clear g83 hw85 hS82
   refine AtH.rd (by kernel_rfl) (fun d v c a w h => by cases d <;> exact h) hS86 [0] [[.ld (.slice Ag0 g.ow.length cg0), .ld (.slice Ag1 g.pr.length cg1), .ld (.slice Ag2 g.mv.length cg2)]] [(49, .agg #[.slice Ag0 g.ow.length cg0, .slice Ag1 g.pr.length cg1, .slice Ag2 g.mv.length cg2])] #[true, false, false, false, false, false, false, false, false, false, false] [(∃ j_ : Nat, Cs80[j_]? = some (⟨w.heap.size, 0, none⟩, (.slice Ag0 g.ow.length cg0))), (∃ j_ : Nat, Cs80[j_]? = some (⟨w.heap.size, 1, none⟩, (.slice Ag1 g.pr.length cg1))), (∃ j_ : Nat, Cs80[j_]? = some (⟨w.heap.size, 2, none⟩, (.slice Ag2 g.mv.length cg2)))] 10 f71 (by kernel_rfl) ⟨⟨0, by rw [hCs81]; rfl⟩, ⟨1, by rw [hCs81]; rfl⟩, ⟨2, by rw [hCs81]; rfl⟩, trivial⟩ (fun act94 f93 => ?_)
   clear f71
   refine AtH.all [1, 7] 9 (by kernel_rfl) (by simp) ⟨?_, ?_, trivial⟩
   ·refine OneH.call f93 30 #[.int .i64 (256)] (some 50) #[true, true, false, false, false, false, false, false, false, false, false] (by kernel_rfl) (by kernel_rfl) (full_any (n := 256) (by omega)) ?_
    rintro e_ w96 ⟨rfl, he⟩
    refine ⟨_, rfl, _, rfl, fun act97 f98 => ?_⟩
    clear f93
    have g99 := gr_ext he
    have hS95 := hS86.gr g99
    have szw96 := g99.size
    replace e0 := e0.gr g99 no_row
    replace r8 := r8.gr g99 (fun _ h => by cases h)
    replace r9 := r9.gr g99 (fun _ h => by cases h)
    replace bx10 := bx10.gr g99 (by simp)
    replace bx21 := bx21.gr g99 (by simp)
    replace bx33 := bx33.gr g99 (by simp)
    clear g99 he
    refine ⟨hS95, ?_⟩
    refine AtH.all [2, 7] 8 (by kernel_rfl) (by simp) ⟨?_, ?_, trivial⟩
    ·refine OneH.call f98 22 #[.agg #[.slice Ag0 g.ow.length cg0, .slice Ag1 g.pr.length cg1, .slice Ag2 g.mv.length cg2], .agg ((fullW 256 : List Int).map wV).toArray] (some 51) #[true, true, true, false, false, false, false, false, false, false, false] (by kernel_rfl) (by kernel_rfl) (subM_any (g := g) (s := fullW 256) (r8.wide (Nat.zero_le _) (by omega)) (fullW_W _) (r9.wide (Nat.zero_le _) (by omega))) ?_
     rintro e_ w124 ⟨A107, c108, A109, c110, A111, c112, A113, c114, rfl, he, ow115, ow116, ow117, ow118⟩
     have hip123 := sub_inner g (fullW 256)
     have := sub_lens g (inT g (fullW 256))
     refine ⟨_, rfl, _, rfl, fun act125 f126 => ?_⟩
     clear f98
     have g127 := gr_ext he
     have hS106 := hS95.gr g127
     have szw124 := g127.size
     replace e0 := e0.gr g127 no_row
     replace r8 := r8.gr g127 (fun _ h => by cases h)
     replace r9 := r9.gr g127 (fun _ h => by cases h)
     replace bx10 := bx10.gr g127 (by simp)
     replace bx21 := bx21.gr g127 (by simp)
     replace bx33 := bx33.gr g127 (by simp)
     clear g127 he
     refine ⟨hS106, ?_⟩
     refine AtH.rd (by kernel_rfl) (fun d v c a w h => by cases d <;> exact h) hS106 [3] [[]] [(48, .tuple #[.agg #[.slice A107 ((subG g (inT g (fullW 256))).ow.length) c108, .slice A109 ((subG g (inT g (fullW 256))).pr.length) c110, .slice A111 ((subG g (inT g (fullW 256))).mv.length) c112], .slice A113 ((subO g (inT g (fullW 256))).length) c114, .bool (subB g (inT g (fullW 256)))])] #[true, true, true, true, false, false, false, false, false, false, false] [] 7 f126 (by kernel_rfl) trivial (fun act135 f134 => ?_)
     clear f126
     refine AtH.rd (by kernel_rfl) (fun d v c a w h => by cases d <;> exact h) hS106 [4] [[]] [(52, .agg #[.slice A107 ((subG g (inT g (fullW 256))).ow.length) c108, .slice A109 ((subG g (inT g (fullW 256))).pr.length) c110, .slice A111 ((subG g (inT g (fullW 256))).mv.length) c112])] #[true, true, true, true, true, false, false, false, false, false, false] [] 6 f134 (by kernel_rfl) trivial (fun act137 f136 => ?_)
     clear f134
     refine AtH.rd (by kernel_rfl) (fun d v c a w h => by cases d <;> exact h) hS106 [5] [[]] [(53, .slice A113 ((subO g (inT g (fullW 256))).length) c114)] #[true, true, true, true, true, true, false, false, false, false, false] [] 5 f136 (by kernel_rfl) trivial (fun act139 f138 => ?_)
     clear f136
     refine AtH.rd (by kernel_rfl) (fun d v c a w h => by cases d <;> exact h) hS106 [6] [[]] [(54, .bool (subB g (inT g (fullW 256))))] #[true, true, true, true, true, true, true, false, false, false, false] [] 4 f138 (by kernel_rfl) trivial (fun act141 f140 => ?_)
     clear f138
     refine AtH.all [7] 3 (by kernel_rfl) (by simp) ⟨?_, trivial⟩
     refine OneH.seq f140 [[]] [(10, .pointer (some ⟨w124.heap.size, 0, none⟩))] (w124.alloc (.cells #[.slice none 0 0, .slice none 0 0, .slice none 0 0] 25 (0, 0))) [] #[true, true, true, true, true, true, true, true, false, false, false] (by kernel_rfl) (by kernel_rfl) (by kernel_rfl) trivial (fun act146 w143 hw144 f145 => ?_)
     clear f140
     have g147 := gr_alloc hw144
     have hS142 := hS106.gr g147
     have szw143 := g147.size
     replace e0 := e0.gr g147 no_row
     replace r8 := r8.gr g147 (fun _ h => by cases h)
     replace r9 := r9.gr g147 (fun _ h => by cases h)
     replace bx10 := bx10.gr g147 (by simp)
     replace bx21 := bx21.gr g147 (by simp)
     replace bx33 := bx33.gr g147 (by simp)
     replace ow115 : OwnR w143 (Sx (w96.heap.size) [some (w124.heap.size), obk (A109), obk (A111), obk (A113)]) A107 c108 3 ((subG g (inT g (fullW 256))).ow : List Int) := ow115.grA g147 (fun _ _ h => by cases h) (fun k hk hs => ⟨(fun e => by injection e; omega), hs.1, hs.2.1, hs.2.2.1, hs.2.2.2⟩)
     replace ow116 : OwnR w143 (Sx (w96.heap.size) [some (w124.heap.size), obk (A107), obk (A111), obk (A113)]) A109 c110 3 ((subG g (inT g (fullW 256))).pr : List Int) := ow116.grA g147 (fun _ _ h => by cases h) (fun k hk hs => ⟨(fun e => by injection e; omega), hs.1, hs.2.1, hs.2.2.1, hs.2.2.2⟩)
     replace ow117 : OwnLL w143 (w96.heap.size) [some (w124.heap.size), obk (A107), obk (A109), obk (A113)] A111 c112 22 3 ((subG g (inT g (fullW 256))).mv : List (List Int)) := ow117.grA g147 (fun _ _ h => by cases h) (fun k hk hs => ⟨(fun e => by injection e; omega), hs.1, hs.2.1, hs.2.2.1, hs.2.2.2⟩)
     replace ow118 : OwnR w143 (Sx (w96.heap.size) [some (w124.heap.size), obk (A107), obk (A109), obk (A111)]) A113 c114 3 ((subO g (inT g (fullW 256))) : List Int) := ow118.grA g147 (fun _ _ h => by cases h) (fun k hk hs => ⟨(fun e => by injection e; omega), hs.1, hs.2.1, hs.2.2.1, hs.2.2.2⟩)
     have bx159 : Bx w143 (w124.heap.size) [.slice none 0 0, .slice none 0 0, .slice none 0 0] 25 := Bx.new hw144
     have := bx159.lt
     clear g147 hw144
     refine ⟨hS142, ?_⟩
     refine AtH.all [8] 2 (by kernel_rfl) (by simp) ⟨?_, trivial⟩
     refine OneH.store f145 (t := 25) (b := w124.heap.size) (off := 0) (v := .agg #[.slice A107 ((subG g (inT g (fullW 256))).ow.length) c108, .slice A109 ((subG g (inT g (fullW 256))).pr.length) c110, .slice A111 ((subG g (inT g (fullW 256))).mv.length) c112]) #[true, true, true, true, true, true, true, true, true, false, false] (by kernel_rfl) (by kernel_rfl) bx159 (by kernel_rfl) (fun act165 w161 g162 bx163 f164 => ?_)
     clear f145
     replace bx163 : Bx w161 (w124.heap.size) [.slice A107 ((subG g (inT g (fullW 256))).ow.length) c108, .slice A109 ((subG g (inT g (fullW 256))).pr.length) c110, .slice A111 ((subG g (inT g (fullW 256))).mv.length) c112] 25 := bx163
     have hS160 := hS142.gr' g162 (by rw [hCs81]; exact ⟨(by simp only [add_block]; omega), (by simp only [add_block]; omega), (by simp only [add_block]; omega), trivial⟩)
     have szw161 := g162.size
     replace e0 := e0.gr g162 (fun k h => by injection h; omega)
     replace r8 := r8.gr g162 (fun k h => by injection h; omega)
     replace r9 := r9.gr g162 (fun k h => by injection h; omega)
     replace bx10 := bx10.gr g162 (fun h => by injection h; omega)
     replace bx21 := bx21.gr g162 (fun h => by injection h; omega)
     replace bx33 := bx33.gr g162 (fun h => by injection h; omega)
     replace ow115 := ow115.gr g162 (fun k hk => hk.1)
     replace ow116 := ow116.gr g162 (fun k hk => hk.1)
     replace ow117 := ow117.gr g162 (fun k hk => hk.1)
     replace ow118 := ow118.gr g162 (fun k hk => hk.1)
     clear bx159 g162
     refine ⟨hS160, ?_⟩
     refine AtH.rd (by kernel_rfl) (fun d v c a w h => by cases d <;> exact h) hS160 [9] [[]] [(11, .slice A113 ((subO g (inT g (fullW 256))).length) c114)] #[true, true, true, true, true, true, true, true, true, true, false] [] 1 f164 (by kernel_rfl) trivial (fun act177 f176 => ?_)
     clear f164
     refine AtH.rd (by kernel_rfl) (fun d v c a w h => by cases d <;> exact h) hS160 [10] [[]] [(12, .bool (subB g (inT g (fullW 256))))] #[true, true, true, true, true, true, true, true, true, true, true] [] 0 f176 (by kernel_rfl) trivial (fun act179 f178 => ?_)
     clear f176
     refine AtH.done (by kernel_rfl) ?_
     clear hS160
     refine t_n ?_
     have f180 := f178.sub (r := [(12, .bool (subB g (inT g (fullW 256)))), (10, .pointer (some ⟨w124.heap.size, 0, none⟩)), (9, .int .i64 (((g.ow.length : Nat) : Int))), (6, .bool false), (5, .pointer (some ⟨w11.heap.size, 0, none⟩)), (4, .pointer (some ⟨w1.heap.size, 0, none⟩)), (3, .pointer (some ⟨w.heap.size, 0, none⟩))]) ⟨rfl, rfl, rfl, rfl, rfl, rfl, rfl, trivial⟩
     exact ⟨w124.heap.size, A107, A109, A111, c108, c110, c112, f180, e0, r8, r9, bx10, bx21, bx33, (ow115.imp (fun g _ hs => ⟨hs.2.1, hs.2.2.1, hs.1, (by have := Sx_base hs; show w50.heap.size ≤ g; omega)⟩)), (ow116.imp (fun g _ hs => ⟨hs.2.1, hs.2.2.1, hs.1, (by have := Sx_base hs; show w50.heap.size ≤ g; omega)⟩)), (ow117.imp (fun g _ hs => ⟨hs.2.1, hs.2.2.1, hs.1, (by have := Sx_base hs; show w50.heap.size ≤ g; omega)⟩)), bx163, (by omega), (by omega)⟩
    ·refine OneH.seq f98 [[]] [(10, .pointer (some ⟨w96.heap.size, 0, none⟩))] (w96.alloc (.cells #[.slice none 0 0, .slice none 0 0, .slice none 0 0] 25 (0, 0))) [] #[true, true, false, false, false, false, false, true, false, false, false] (by kernel_rfl) (by kernel_rfl) (by kernel_rfl) trivial (fun act185 w182 hw183 f184 => ?_)
     clear f98
     have g186 := gr_alloc hw183
     have hS181 := hS95.gr g186
     have szw182 := g186.size
     replace e0 := e0.gr g186 no_row
     replace r8 := r8.gr g186 (fun _ h => by cases h)
     replace r9 := r9.gr g186 (fun _ h => by cases h)
     replace bx10 := bx10.gr g186 (by simp)
     replace bx21 := bx21.gr g186 (by simp)
     replace bx33 := bx33.gr g186 (by simp)
     have bx194 : Bx w182 (w96.heap.size) [.slice none 0 0, .slice none 0 0, .slice none 0 0] 25 := Bx.new hw183
     have := bx194.lt
     clear g186 hw183
     refine ⟨hS181, ?_⟩
     refine AtH.all [2] 7 (by kernel_rfl) (by simp) ⟨?_, trivial⟩
     refine OneH.call f184 22 #[.agg #[.slice Ag0 g.ow.length cg0, .slice Ag1 g.pr.length cg1, .slice Ag2 g.mv.length cg2], .agg ((fullW 256 : List Int).map wV).toArray] (some 51) #[true, true, true, false, false, false, false, true, false, false, false] (by kernel_rfl) (by kernel_rfl) (subM_any (g := g) (s := fullW 256) (r8.wide (Nat.zero_le _) (by omega)) (fullW_W _) (r9.wide (Nat.zero_le _) (by omega))) ?_
     rintro e_ w213 ⟨A196, c197, A198, c199, A200, c201, A202, c203, rfl, he, ow204, ow205, ow206, ow207⟩
     have hip212 := sub_inner g (fullW 256)
     have := sub_lens g (inT g (fullW 256))
     refine ⟨_, rfl, _, rfl, fun act214 f215 => ?_⟩
     clear f184
     have g216 := gr_ext he
     have hS195 := hS181.gr g216
     have szw213 := g216.size
     replace e0 := e0.gr g216 no_row
     replace r8 := r8.gr g216 (fun _ h => by cases h)
     replace r9 := r9.gr g216 (fun _ h => by cases h)
     replace bx10 := bx10.gr g216 (by simp)
     replace bx21 := bx21.gr g216 (by simp)
     replace bx33 := bx33.gr g216 (by simp)
     replace bx194 := bx194.gr g216 (by simp)
     clear g216 he
     refine ⟨hS195, ?_⟩
     refine AtH.rd (by kernel_rfl) (fun d v c a w h => by cases d <;> exact h) hS195 [3] [[]] [(48, .tuple #[.agg #[.slice A196 ((subG g (inT g (fullW 256))).ow.length) c197, .slice A198 ((subG g (inT g (fullW 256))).pr.length) c199, .slice A200 ((subG g (inT g (fullW 256))).mv.length) c201], .slice A202 ((subO g (inT g (fullW 256))).length) c203, .bool (subB g (inT g (fullW 256)))])] #[true, true, true, true, false, false, false, true, false, false, false] [] 6 f215 (by kernel_rfl) trivial (fun act225 f224 => ?_)
     clear f215
     refine AtH.rd (by kernel_rfl) (fun d v c a w h => by cases d <;> exact h) hS195 [4] [[]] [(52, .agg #[.slice A196 ((subG g (inT g (fullW 256))).ow.length) c197, .slice A198 ((subG g (inT g (fullW 256))).pr.length) c199, .slice A200 ((subG g (inT g (fullW 256))).mv.length) c201])] #[true, true, true, true, true, false, false, true, false, false, false] [] 5 f224 (by kernel_rfl) trivial (fun act227 f226 => ?_)
     clear f224
     refine AtH.rd (by kernel_rfl) (fun d v c a w h => by cases d <;> exact h) hS195 [5] [[]] [(53, .slice A202 ((subO g (inT g (fullW 256))).length) c203)] #[true, true, true, true, true, true, false, true, false, false, false] [] 4 f226 (by kernel_rfl) trivial (fun act229 f228 => ?_)
     clear f226
     refine AtH.rd (by kernel_rfl) (fun d v c a w h => by cases d <;> exact h) hS195 [6] [[]] [(54, .bool (subB g (inT g (fullW 256))))] #[true, true, true, true, true, true, true, true, false, false, false] [] 3 f228 (by kernel_rfl) trivial (fun act231 f230 => ?_)
     clear f228
     refine AtH.all [8] 2 (by kernel_rfl) (by simp) ⟨?_, trivial⟩
     refine OneH.store f230 (t := 25) (b := w96.heap.size) (off := 0) (v := .agg #[.slice A196 ((subG g (inT g (fullW 256))).ow.length) c197, .slice A198 ((subG g (inT g (fullW 256))).pr.length) c199, .slice A200 ((subG g (inT g (fullW 256))).mv.length) c201]) #[true, true, true, true, true, true, true, true, true, false, false] (by kernel_rfl) (by kernel_rfl) bx194 (by kernel_rfl) (fun act237 w233 g234 bx235 f236 => ?_)
     clear f230
     replace bx235 : Bx w233 (w96.heap.size) [.slice A196 ((subG g (inT g (fullW 256))).ow.length) c197, .slice A198 ((subG g (inT g (fullW 256))).pr.length) c199, .slice A200 ((subG g (inT g (fullW 256))).mv.length) c201] 25 := bx235
     have hS232 := hS195.gr' g234 (by rw [hCs81]; exact ⟨(by simp only [add_block]; omega), (by simp only [add_block]; omega), (by simp only [add_block]; omega), trivial⟩)
     have szw233 := g234.size
     replace e0 := e0.gr g234 (fun k h => by injection h; omega)
     replace r8 := r8.gr g234 (fun k h => by injection h; omega)
     replace r9 := r9.gr g234 (fun k h => by injection h; omega)
     replace bx10 := bx10.gr g234 (fun h => by injection h; omega)
     replace bx21 := bx21.gr g234 (fun h => by injection h; omega)
     replace bx33 := bx33.gr g234 (fun h => by injection h; omega)
     replace ow204 := ow204.gr g234 (fun k hk e => by have := Sx_base hk; injection e; omega)
     replace ow205 := ow205.gr g234 (fun k hk e => by have := Sx_base hk; injection e; omega)
     replace ow206 := ow206.gr g234 (fun k hk e => by have := Sx_base hk; injection e; omega)
     replace ow207 := ow207.gr g234 (fun k hk e => by have := Sx_base hk; injection e; omega)
     clear bx194 g234
     refine ⟨hS232, ?_⟩
     refine AtH.rd (by kernel_rfl) (fun d v c a w h => by cases d <;> exact h) hS232 [9] [[]] [(11, .slice A202 ((subO g (inT g (fullW 256))).length) c203)] #[true, true, true, true, true, true, true, true, true, true, false] [] 1 f236 (by kernel_rfl) trivial (fun act249 f248 => ?_)
     clear f236
     refine AtH.rd (by kernel_rfl) (fun d v c a w h => by cases d <;> exact h) hS232 [10] [[]] [(12, .bool (subB g (inT g (fullW 256))))] #[true, true, true, true, true, true, true, true, true, true, true] [] 0 f248 (by kernel_rfl) trivial (fun act251 f250 => ?_)
     clear f248
     refine AtH.done (by kernel_rfl) ?_
     clear hS232
     refine t_n ?_
     have f252 := f250.sub (r := [(12, .bool (subB g (inT g (fullW 256)))), (10, .pointer (some ⟨w96.heap.size, 0, none⟩)), (9, .int .i64 (((g.ow.length : Nat) : Int))), (6, .bool false), (5, .pointer (some ⟨w11.heap.size, 0, none⟩)), (4, .pointer (some ⟨w1.heap.size, 0, none⟩)), (3, .pointer (some ⟨w.heap.size, 0, none⟩))]) ⟨rfl, rfl, rfl, rfl, rfl, rfl, rfl, trivial⟩
     exact ⟨w96.heap.size, A196, A198, A200, c197, c199, c201, f252, e0, r8, r9, bx10, bx21, bx33, (ow204.imp (fun g _ hs => ⟨hs.1, hs.2.1, (fun e => by have := Sx_base hs; injection e; omega), (by have := Sx_base hs; show w50.heap.size ≤ g; omega)⟩)), (ow205.imp (fun g _ hs => ⟨hs.1, hs.2.1, (fun e => by have := Sx_base hs; injection e; omega), (by have := Sx_base hs; show w50.heap.size ≤ g; omega)⟩)), (ow206.imp (fun g _ hs => ⟨hs.1, hs.2.1, (fun e => by have := Sx_base hs; injection e; omega), (by have := Sx_base hs; show w50.heap.size ≤ g; omega)⟩)), bx235, (by omega), (by omega)⟩
   ·refine OneH.seq f93 [[]] [(10, .pointer (some ⟨w84.heap.size, 0, none⟩))] (w84.alloc (.cells #[.slice none 0 0, .slice none 0 0, .slice none 0 0] 25 (0, 0))) [] #[true, false, false, false, false, false, false, true, false, false, false] (by kernel_rfl) (by kernel_rfl) (by kernel_rfl) trivial (fun act257 w254 hw255 f256 => ?_)
    clear f93
    have g258 := gr_alloc hw255
    have hS253 := hS86.gr g258
    have szw254 := g258.size
    replace e0 := e0.gr g258 no_row
    replace r8 := r8.gr g258 (fun _ h => by cases h)
    replace r9 := r9.gr g258 (fun _ h => by cases h)
    replace bx10 := bx10.gr g258 (by simp)
    replace bx21 := bx21.gr g258 (by simp)
    replace bx33 := bx33.gr g258 (by simp)
    have bx266 : Bx w254 (w84.heap.size) [.slice none 0 0, .slice none 0 0, .slice none 0 0] 25 := Bx.new hw255
    have := bx266.lt
    clear g258 hw255
    refine ⟨hS253, ?_⟩
    refine AtH.all [1] 8 (by kernel_rfl) (by simp) ⟨?_, trivial⟩
    refine OneH.call f256 30 #[.int .i64 (256)] (some 50) #[true, true, false, false, false, false, false, true, false, false, false] (by kernel_rfl) (by kernel_rfl) (full_any (n := 256) (by omega)) ?_
    rintro e_ w268 ⟨rfl, he⟩
    refine ⟨_, rfl, _, rfl, fun act269 f270 => ?_⟩
    clear f256
    have g271 := gr_ext he
    have hS267 := hS253.gr g271
    have szw268 := g271.size
    replace e0 := e0.gr g271 no_row
    replace r8 := r8.gr g271 (fun _ h => by cases h)
    replace r9 := r9.gr g271 (fun _ h => by cases h)
    replace bx10 := bx10.gr g271 (by simp)
    replace bx21 := bx21.gr g271 (by simp)
    replace bx33 := bx33.gr g271 (by simp)
    replace bx266 := bx266.gr g271 (by simp)
    clear g271 he
    refine ⟨hS267, ?_⟩
    refine AtH.all [2] 7 (by kernel_rfl) (by simp) ⟨?_, trivial⟩
    refine OneH.call f270 22 #[.agg #[.slice Ag0 g.ow.length cg0, .slice Ag1 g.pr.length cg1, .slice Ag2 g.mv.length cg2], .agg ((fullW 256 : List Int).map wV).toArray] (some 51) #[true, true, true, false, false, false, false, true, false, false, false] (by kernel_rfl) (by kernel_rfl) (subM_any (g := g) (s := fullW 256) (r8.wide (Nat.zero_le _) (by omega)) (fullW_W _) (r9.wide (Nat.zero_le _) (by omega))) ?_
    rintro e_ w297 ⟨A280, c281, A282, c283, A284, c285, A286, c287, rfl, he, ow288, ow289, ow290, ow291⟩
    have hip296 := sub_inner g (fullW 256)
    have := sub_lens g (inT g (fullW 256))
    refine ⟨_, rfl, _, rfl, fun act298 f299 => ?_⟩
    clear f270
    have g300 := gr_ext he
    have hS279 := hS267.gr g300
    have szw297 := g300.size
    replace e0 := e0.gr g300 no_row
    replace r8 := r8.gr g300 (fun _ h => by cases h)
    replace r9 := r9.gr g300 (fun _ h => by cases h)
    replace bx10 := bx10.gr g300 (by simp)
    replace bx21 := bx21.gr g300 (by simp)
    replace bx33 := bx33.gr g300 (by simp)
    replace bx266 := bx266.gr g300 (by simp)
    clear g300 he
    refine ⟨hS279, ?_⟩
    refine AtH.rd (by kernel_rfl) (fun d v c a w h => by cases d <;> exact h) hS279 [3] [[]] [(48, .tuple #[.agg #[.slice A280 ((subG g (inT g (fullW 256))).ow.length) c281, .slice A282 ((subG g (inT g (fullW 256))).pr.length) c283, .slice A284 ((subG g (inT g (fullW 256))).mv.length) c285], .slice A286 ((subO g (inT g (fullW 256))).length) c287, .bool (subB g (inT g (fullW 256)))])] #[true, true, true, true, false, false, false, true, false, false, false] [] 6 f299 (by kernel_rfl) trivial (fun act309 f308 => ?_)
    clear f299
    refine AtH.rd (by kernel_rfl) (fun d v c a w h => by cases d <;> exact h) hS279 [4] [[]] [(52, .agg #[.slice A280 ((subG g (inT g (fullW 256))).ow.length) c281, .slice A282 ((subG g (inT g (fullW 256))).pr.length) c283, .slice A284 ((subG g (inT g (fullW 256))).mv.length) c285])] #[true, true, true, true, true, false, false, true, false, false, false] [] 5 f308 (by kernel_rfl) trivial (fun act311 f310 => ?_)
    clear f308
    refine AtH.rd (by kernel_rfl) (fun d v c a w h => by cases d <;> exact h) hS279 [5] [[]] [(53, .slice A286 ((subO g (inT g (fullW 256))).length) c287)] #[true, true, true, true, true, true, false, true, false, false, false] [] 4 f310 (by kernel_rfl) trivial (fun act313 f312 => ?_)
    clear f310
    refine AtH.rd (by kernel_rfl) (fun d v c a w h => by cases d <;> exact h) hS279 [6] [[]] [(54, .bool (subB g (inT g (fullW 256))))] #[true, true, true, true, true, true, true, true, false, false, false] [] 3 f312 (by kernel_rfl) trivial (fun act315 f314 => ?_)
    clear f312
    refine AtH.all [8] 2 (by kernel_rfl) (by simp) ⟨?_, trivial⟩
    refine OneH.store f314 (t := 25) (b := w84.heap.size) (off := 0) (v := .agg #[.slice A280 ((subG g (inT g (fullW 256))).ow.length) c281, .slice A282 ((subG g (inT g (fullW 256))).pr.length) c283, .slice A284 ((subG g (inT g (fullW 256))).mv.length) c285]) #[true, true, true, true, true, true, true, true, true, false, false] (by kernel_rfl) (by kernel_rfl) bx266 (by kernel_rfl) (fun act321 w317 g318 bx319 f320 => ?_)
    clear f314
    replace bx319 : Bx w317 (w84.heap.size) [.slice A280 ((subG g (inT g (fullW 256))).ow.length) c281, .slice A282 ((subG g (inT g (fullW 256))).pr.length) c283, .slice A284 ((subG g (inT g (fullW 256))).mv.length) c285] 25 := bx319
    have hS316 := hS279.gr' g318 (by rw [hCs81]; exact ⟨(by simp only [add_block]; omega), (by simp only [add_block]; omega), (by simp only [add_block]; omega), trivial⟩)
    have szw317 := g318.size
    replace e0 := e0.gr g318 (fun k h => by injection h; omega)
    replace r8 := r8.gr g318 (fun k h => by injection h; omega)
    replace r9 := r9.gr g318 (fun k h => by injection h; omega)
    replace bx10 := bx10.gr g318 (fun h => by injection h; omega)
    replace bx21 := bx21.gr g318 (fun h => by injection h; omega)
    replace bx33 := bx33.gr g318 (fun h => by injection h; omega)
    replace ow288 := ow288.gr g318 (fun k hk e => by have := Sx_base hk; injection e; omega)
    replace ow289 := ow289.gr g318 (fun k hk e => by have := Sx_base hk; injection e; omega)
    replace ow290 := ow290.gr g318 (fun k hk e => by have := Sx_base hk; injection e; omega)
    replace ow291 := ow291.gr g318 (fun k hk e => by have := Sx_base hk; injection e; omega)
    clear bx266 g318
    refine ⟨hS316, ?_⟩
    refine AtH.rd (by kernel_rfl) (fun d v c a w h => by cases d <;> exact h) hS316 [9] [[]] [(11, .slice A286 ((subO g (inT g (fullW 256))).length) c287)] #[true, true, true, true, true, true, true, true, true, true, false] [] 1 f320 (by kernel_rfl) trivial (fun act333 f332 => ?_)
    clear f320
    refine AtH.rd (by kernel_rfl) (fun d v c a w h => by cases d <;> exact h) hS316 [10] [[]] [(12, .bool (subB g (inT g (fullW 256))))] #[true, true, true, true, true, true, true, true, true, true, true] [] 0 f332 (by kernel_rfl) trivial (fun act335 f334 => ?_)
    clear f332
    refine AtH.done (by kernel_rfl) ?_
    clear hS316
    refine t_n ?_
    have f336 := f334.sub (r := [(12, .bool (subB g (inT g (fullW 256)))), (10, .pointer (some ⟨w84.heap.size, 0, none⟩)), (9, .int .i64 (((g.ow.length : Nat) : Int))), (6, .bool false), (5, .pointer (some ⟨w11.heap.size, 0, none⟩)), (4, .pointer (some ⟨w1.heap.size, 0, none⟩)), (3, .pointer (some ⟨w.heap.size, 0, none⟩))]) ⟨rfl, rfl, rfl, rfl, rfl, rfl, rfl, trivial⟩
    exact ⟨w84.heap.size, A280, A282, A284, c281, c283, c285, f336, e0, r8, r9, bx10, bx21, bx33, (ow288.imp (fun g _ hs => ⟨hs.1, hs.2.1, (fun e => by have := Sx_base hs; injection e; omega), (by have := Sx_base hs; show w50.heap.size ≤ g; omega)⟩)), (ow289.imp (fun g _ hs => ⟨hs.1, hs.2.1, (fun e => by have := Sx_base hs; injection e; omega), (by have := Sx_base hs; show w50.heap.size ≤ g; omega)⟩)), (ow290.imp (fun g _ hs => ⟨hs.1, hs.2.1, (fun e => by have := Sx_base hs; injection e; omega), (by have := Sx_base hs; show w50.heap.size ≤ g; omega)⟩)), bx319, (by omega), (by omega)⟩
  ·clear r8
   clear r9
   clear bx10
   clear bx21
   clear bx33
   clear f71 e0
   intro act337 w338 ⟨b_79, A_73, A_74, A_75, c_76, c_77, c_78, f339, e340, r341, r342, bx343, bx344, bx345, ow346, ow347, ow348, bx349, hb350, szz351⟩
   have szw338 := e340.size
   have hip116 := sub_inner g (fullW 256)
   have := sub_lens g (inT g (fullW 256))
   have := bx343.lt
   have := bx344.lt
   have := bx345.lt
   have := bx349.lt
   refine wp_seq ?_
   refine At.start ?_
   refine At.rd f339 2 [[.ld (.slice A_73 ((subG g (inT g (fullW 256))).ow.length) c_76), .ld (.slice A_74 ((subG g (inT g (fullW 256))).pr.length) c_77), .ld (.slice A_75 ((subG g (inT g (fullW 256))).mv.length) c_78)], [.ld (.slice Ag0 g.ow.length cg0), .ld (.slice Ag1 g.pr.length cg1), .ld (.slice Ag2 g.mv.length cg2)]] [(56, .agg #[.slice Ag0 g.ow.length cg0, .slice Ag1 g.pr.length cg1, .slice Ag2 g.mv.length cg2]), (55, .agg #[.slice A_73 ((subG g (inT g (fullW 256))).ow.length) c_76, .slice A_74 ((subG g (inT g (fullW 256))).pr.length) c_77, .slice A_75 ((subG g (inT g (fullW 256))).mv.length) c_78])] [(w338.cell? ⟨b_79, 0, none⟩ = some (.slice A_73 ((subG g (inT g (fullW 256))).ow.length) c_76)), (w338.cell? ⟨b_79, 1, none⟩ = some (.slice A_74 ((subG g (inT g (fullW 256))).pr.length) c_77)), (w338.cell? ⟨b_79, 2, none⟩ = some (.slice A_75 ((subG g (inT g (fullW 256))).mv.length) c_78)), (w338.cell? ⟨w.heap.size, 0, none⟩ = some (.slice Ag0 g.ow.length cg0)), (w338.cell? ⟨w.heap.size, 1, none⟩ = some (.slice Ag1 g.pr.length cg1)), (w338.cell? ⟨w.heap.size, 2, none⟩ = some (.slice Ag2 g.mv.length cg2))] (by kernel_rfl) ⟨(bx349.cell (i := 0) rfl), (bx349.cell (i := 1) rfl), (bx349.cell (i := 2) rfl), (bx343.cell (i := 0) rfl), (bx343.cell (i := 1) rfl), (bx343.cell (i := 2) rfl), trivial⟩ (fun act357 f356 => ?_)
   clear f339
   refine At.call f356 16 #[.agg #[.slice A_73 ((subG g (inT g (fullW 256))).ow.length) c_76, .slice A_74 ((subG g (inT g (fullW 256))).pr.length) c_77, .slice A_75 ((subG g (inT g (fullW 256))).mv.length) c_78], .agg #[.slice Ag0 g.ow.length cg0, .slice Ag1 g.pr.length cg1, .slice Ag2 g.mv.length cg2]] (some 57) (by kernel_rfl) ((same_any (a := (subG g (inT g (fullW 256)))) (b := g) (RdG.mk (G := (subG g (inT g (fullW 256)))) (ow346.rdI0 (by first | omega | (simp only [List.length_cons, List.length_nil]; omega) | (simp; done) | (simp; omega))) (ow347.rdI0 (by first | omega | (simp only [List.length_cons, List.length_nil]; omega) | (simp; done) | (simp; omega))) (ow348.rdII0 (by first | omega | (simp only [List.length_cons, List.length_nil]; omega) | (simp; done) | (simp; omega)) hip116) ow346.cap ow347.cap ow348.cap) (r341.wide (Nat.zero_le _) (by omega))).mono (R' := fun e w' => e = .returned (.bool true) ∧ Ext _ w') (fun e_ w_ h_ => by rw [show (decide ((subG g (inT g (fullW 256))) = g) : Bool) = true from decide_eq_true (sub_full hR).1] at h_; exact h_)) ?_
   rintro e_ w358 ⟨rfl, he⟩
   refine ⟨_, rfl, _, rfl, fun act359 f360 => ?_⟩
   clear f356
   have g361 := gr_ext he
   have szw358 := g361.size
   replace e340 := e340.gr g361 no_row
   replace r341 := r341.gr g361 (fun _ h => by cases h)
   replace r342 := r342.gr g361 (fun _ h => by cases h)
   replace bx343 := bx343.gr g361 (by simp)
   replace bx344 := bx344.gr g361 (by simp)
   replace bx345 := bx345.gr g361 (by simp)
   replace ow346 := ow346.gr g361 (fun _ _ h => by cases h)
   replace ow347 := ow347.gr g361 (fun _ _ h => by cases h)
   replace ow348 := ow348.gr g361 (fun _ _ h => by cases h)
   replace bx349 := bx349.gr g361 (by simp)
   clear g361 he
   refine At.rd f360 1 [[]] [(13, .bool true)] [] (by kernel_rfl) trivial (fun act373 f372 => ?_)
   clear f360
   refine At.done rfl ?_
   refine t_n ?_
   clear ow346
   clear ow347
   clear ow348
   clear bx349
   refine wp_seq ?_
   refine wp_seq ?_
   refine At.start ?_
   refine At.rd f372 6 [[], [.as_ (.bool false)], [], [], [], []] [(63, .bool false), (62, .bool false), (61, .bool true), (60, .bool false), (59, .bool false), (58, .bool (subB g (inT g (fullW 256))))] [((.bool (!(subB g (inT g (fullW 256)))) : Value) = .bool false)] (by kernel_rfl) ⟨(congrArg Value.bool (by rw [(sub_full hR).2]; rfl)), trivial⟩ (fun act375 f374 => ?_)
   clear f372
   refine At.done rfl ?_
   refine t_n ?_
   refine cond_F f374 rfl ?_
   refine wp_skip ?_
   refine t_n ?_
   refine wp_seq ?_
   refine At.start ?_
   refine At.rd f374 2 [[.ld (.slice Ag0 g.ow.length cg0), .ld (.slice Ag1 g.pr.length cg1), .ld (.slice Ag2 g.mv.length cg2)], [.cs ((s : List Int).map wV)]] [(66, .agg ((s : List Int).map wV).toArray), (65, .agg #[.slice Ag0 g.ow.length cg0, .slice Ag1 g.pr.length cg1, .slice Ag2 g.mv.length cg2])] [(w358.cell? ⟨w.heap.size, 0, none⟩ = some (.slice Ag0 g.ow.length cg0)), (w358.cell? ⟨w.heap.size, 1, none⟩ = some (.slice Ag1 g.pr.length cg1)), (w358.cell? ⟨w.heap.size, 2, none⟩ = some (.slice Ag2 g.mv.length cg2)), (((s : List Int).map wV).length = 4), (∀ (j : Nat) (v : Value), ((s : List Int).map wV)[j]? = some v → w358.cell? ((⟨w1.heap.size, 0, none⟩ : Addr).add j) = some v)] (by kernel_rfl) ⟨(bx343.cell (i := 0) rfl), (bx343.cell (i := 1) rfl), (bx343.cell (i := 2) rfl), ((List.length_map _).trans (by assumption)), bx344.whole, trivial⟩ (fun act377 f376 => ?_)
   clear f374
   refine At.call f376 22 #[.agg #[.slice Ag0 g.ow.length cg0, .slice Ag1 g.pr.length cg1, .slice Ag2 g.mv.length cg2], .agg ((s : List Int).map wV).toArray] (some 67) (by kernel_rfl) (subM_any (g := g) (s := s) (r341.wide (Nat.zero_le _) (by omega)) (by assumption) (r342.wide (Nat.zero_le _) (by omega))) ?_
   rintro e_ w397 ⟨A378, c379, A380, c381, A382, c383, A384, c385, rfl, he, ow386, ow387, ow388, ow389⟩
   have hip394 := sub_inner g s
   have := sub_lens g (inT g s)
   have r395 : RdG w397 (w358.heap.size) w397.heap.size A378 A380 A382 c379 c381 c383 (subG g (inT g s)) := ⟨(OwnR.rdR ow386 (by show _ * 8 ≤ _; omega)).rdI, (OwnR.rdR ow387 (by show _ * 8 ≤ _; omega)).rdI, OwnLLP.rdII ow388 (by omega) hip394, ow386.cap, ow387.cap, ow388.cap⟩
   replace ow389 : OwnR w397 (Sx (w358.heap.size) []) A384 c385 3 ((subO g (inT g s)) : List Int) := ow389.imp (fun g _ hs => hs.2.2.2)
   clear ow386 ow387 ow388
   refine ⟨_, rfl, _, rfl, fun act398 f399 => ?_⟩
   clear f376
   have g400 := gr_ext he
   have szw397 := g400.size
   replace e340 := e340.gr g400 no_row
   replace r341 := r341.gr g400 (fun _ h => by cases h)
   replace r342 := r342.gr g400 (fun _ h => by cases h)
   replace bx343 := bx343.gr g400 (by simp)
   replace bx344 := bx344.gr g400 (by simp)
   replace bx345 := bx345.gr g400 (by simp)
   clear g400 he
   refine At.rd f399 4 [[], [], [], []] [(70, .bool (subB g (inT g s))), (69, .slice A384 ((subO g (inT g s)).length) c385), (68, .agg #[.slice A378 ((subG g (inT g s)).ow.length) c379, .slice A380 ((subG g (inT g s)).pr.length) c381, .slice A382 ((subG g (inT g s)).mv.length) c383]), (64, .tuple #[.agg #[.slice A378 ((subG g (inT g s)).ow.length) c379, .slice A380 ((subG g (inT g s)).pr.length) c381, .slice A382 ((subG g (inT g s)).mv.length) c383], .slice A384 ((subO g (inT g s)).length) c385, .bool (subB g (inT g s))])] [] (by kernel_rfl) trivial (fun act408 f407 => ?_)
   clear f399
   refine At.seq f407 1 [[]] [(14, .pointer (some ⟨w397.heap.size, 0, none⟩))] (w397.alloc (.cells #[.slice none 0 0, .slice none 0 0, .slice none 0 0] 25 (0, 0))) [] (by kernel_rfl) trivial (fun act412 w409 hw410 f411 => ?_)
   clear f407
   have g413 := gr_alloc hw410
   have szw409 := g413.size
   replace e340 := e340.gr g413 no_row
   replace r341 := r341.gr g413 (fun _ h => by cases h)
   replace r342 := r342.gr g413 (fun _ h => by cases h)
   replace bx343 := bx343.gr g413 (by simp)
   replace bx344 := bx344.gr g413 (by simp)
   replace bx345 := bx345.gr g413 (by simp)
   replace ow389 : OwnR w409 (Sx (w358.heap.size) [some (w397.heap.size)]) A384 c385 3 ((subO g (inT g s)) : List Int) := ow389.grA g413 (fun _ _ h => by cases h) (fun k hk hs => ⟨(fun e => by injection e; omega), hs⟩)
   replace r395 := r395.gr g413 (fun _ h => by cases h)
   have bx423 : Bx w409 (w397.heap.size) [.slice none 0 0, .slice none 0 0, .slice none 0 0] 25 := Bx.new hw410
   have := bx423.lt
   clear g413 hw410
   refine At.store f411 (t := 25) (b := w397.heap.size) (off := 0) (v := .agg #[.slice A378 ((subG g (inT g s)).ow.length) c379, .slice A380 ((subG g (inT g s)).pr.length) c381, .slice A382 ((subG g (inT g s)).mv.length) c383]) (by kernel_rfl) bx423 (by kernel_rfl) (fun act428 w424 g425 bx426 f427 => ?_)
   clear f411
   replace bx426 : Bx w424 (w397.heap.size) [.slice A378 ((subG g (inT g s)).ow.length) c379, .slice A380 ((subG g (inT g s)).pr.length) c381, .slice A382 ((subG g (inT g s)).mv.length) c383] 25 := bx426
   have szw424 := g425.size
   replace e340 := e340.gr g425 (fun k h => by injection h; omega)
   replace r341 := r341.gr g425 (fun k h => by injection h; omega)
   replace r342 := r342.gr g425 (fun k h => by injection h; omega)
   replace bx343 := bx343.gr g425 (fun h => by injection h; omega)
   replace bx344 := bx344.gr g425 (fun h => by injection h; omega)
   replace bx345 := bx345.gr g425 (fun h => by injection h; omega)
   replace ow389 := ow389.gr g425 (fun k hk => hk.1)
   replace r395 := r395.gr g425 (fun k h => by injection h; omega)
   clear bx423 g425
   refine At.rd f427 2 [[], []] [(16, .bool (subB g (inT g s))), (15, .slice A384 ((subO g (inT g s)).length) c385)] [] (by kernel_rfl) trivial (fun act438 f437 => ?_)
   clear f427
   refine At.done rfl ?_
   refine t_n ?_
   refine wp_seq (cut (fun a_ w_ => ∃ (b_439 : Nat), (Frm 279 a_ [(17, .pointer (some ⟨b_439, 0, none⟩)), (16, .bool (subB g (inT g s))), (15, .slice A384 ((subO g (inT g s)).length) c385), (14, .pointer (some ⟨w397.heap.size, 0, none⟩)), (9, .int .i64 (((g.ow.length : Nat) : Int))), (6, .bool false), (5, .pointer (some ⟨w11.heap.size, 0, none⟩)), (3, .pointer (some ⟨w.heap.size, 0, none⟩))]) ∧ (Ext w w_) ∧ (RdG w_ 0 w.heap.size Ag0 Ag1 Ag2 cg0 cg1 cg2 g) ∧ (RdT w_ 0 w.heap.size) ∧ (Bx w_ (w.heap.size) [.slice Ag0 g.ow.length cg0, .slice Ag1 g.pr.length cg1, .slice Ag2 g.mv.length cg2] 25) ∧ (Bx w_ (w1.heap.size) ((s : List Int).map wV) 35) ∧ (Bx w_ (w11.heap.size) ((u : List Int).map wV) 35) ∧ (OwnR w_ (Sx (w358.heap.size) [some (w397.heap.size), some (b_439)]) A384 c385 3 ((subO g (inT g s)) : List Int)) ∧ (RdG w_ (w358.heap.size) w397.heap.size A378 A380 A382 c379 c381 c383 (subG g (inT g s))) ∧ (Bx w_ (w397.heap.size) [.slice A378 ((subG g (inT g s)).ow.length) c379, .slice A380 ((subG g (inT g s)).pr.length) c381, .slice A382 ((subG g (inT g s)).mv.length) c383] 25) ∧ (Bx w_ (b_439) (((inS g s : List Int) : List Int).map wV) 47) ∧ (w424.heap.size ≤ b_439) ∧ (w424.heap.size ≤ w_.heap.size)) ?_ ?_)
   ·obtain ⟨Cs440, hCs441⟩ : ∃ c : List (Addr × Value), c = ([] : List (Addr × Value)) ++ blkC (w1.heap.size) ((s : List Int).map wV) := ⟨_, rfl⟩
    have hS442 : HoldsC Cs440 w424 := by rw [hCs441]; exact (holdsA (show HoldsC [] w424 from trivial) (holds_blk bx344))
    refine AtH.start Cs440 6 #[false, false, false, false, false, false] (by kernel_rfl) rfl rfl (fun w444 hw445 => ?_)
    have g443 := gr_drew hw445
    have hS446 := hS442.gr g443
    have szw444 := g443.size
    replace e340 := e340.gr g443 no_row
    replace r341 := r341.gr g443 (fun _ h => by cases h)
    replace r342 := r342.gr g443 (fun _ h => by cases h)
    replace bx343 := bx343.gr g443 (by simp)
    replace bx344 := bx344.gr g443 (by simp)
    replace bx345 := bx345.gr g443 (by simp)
    replace ow389 := ow389.gr g443 (fun _ _ h => by cases h)
    replace r395 := r395.gr g443 (fun _ h => by cases h)
    replace bx426 := bx426.gr g443 (by simp)
    clear g443 hw445 hS442
    refine AtH.rd (by kernel_rfl) (fun d v c a w h => by cases d <;> exact h) hS446 [0, 1] [[.cs ((s : List Int).map wV)], []] [(72, .int .i64 (((g.ow.length : Nat) : Int))), (71, .agg ((s : List Int).map wV).toArray)] #[true, true, false, false, false, false] [(((s : List Int).map wV).length = 4), (∀ (j : Nat) (v : Value), ((s : List Int).map wV)[j]? = some v → ∃ j_ : Nat, Cs440[j_]? = some (((⟨w1.heap.size, 0, none⟩ : Addr).add j), v))] 4 f437 (by kernel_rfl) ⟨((List.length_map _).trans (by assumption)), (fun j v hv => List.getElem?_of_mem (by rw [hCs441]; exact List.mem_append.2 (.inr (blkC_in hv)))), trivial⟩ (fun act457 f456 => ?_)
    clear f437
    refine AtH.all [2, 4] 3 (by kernel_rfl) (by simp) ⟨?_, ?_, trivial⟩
    ·refine OneH.call f456 30 #[.int .i64 (((g.ow.length : Nat) : Int))] (some 73) #[true, true, true, false, false, false] (by kernel_rfl) (by kernel_rfl) (full_any (n := ((g.ow.length : Nat) : Int)) (by omega)) ?_
     rintro e_ w459 ⟨rfl, he⟩
     refine ⟨_, rfl, _, rfl, fun act460 f461 => ?_⟩
     clear f456
     have g462 := gr_ext he
     have hS458 := hS446.gr g462
     have szw459 := g462.size
     replace e340 := e340.gr g462 no_row
     replace r341 := r341.gr g462 (fun _ h => by cases h)
     replace r342 := r342.gr g462 (fun _ h => by cases h)
     replace bx343 := bx343.gr g462 (by simp)
     replace bx344 := bx344.gr g462 (by simp)
     replace bx345 := bx345.gr g462 (by simp)
     replace ow389 := ow389.gr g462 (fun _ _ h => by cases h)
     replace r395 := r395.gr g462 (fun _ h => by cases h)
     replace bx426 := bx426.gr g462 (by simp)
     clear g462 he
     refine ⟨hS458, ?_⟩
     refine AtH.all [3, 4] 2 (by kernel_rfl) (by simp) ⟨?_, ?_, trivial⟩
     ·refine OneH.call f461 31 #[.agg ((s : List Int).map wV).toArray, .agg ((fullW ((g.ow.length : Nat) : Int) : List Int).map wV).toArray] (some 74) #[true, true, true, true, false, false] (by kernel_rfl) (by kernel_rfl) ((andS_any (s := s) (t := fullW ((g.ow.length : Nat) : Int)) (by assumption) (fullW_W _)).mono (R' := fun e w' => e = .returned (.agg (((inS g s : List Int) : List Int).map wV).toArray) ∧ Ext _ w') (fun e_ w_ h_ => by rw [show (andS s (fullW ((g.ow.length : Nat) : Int)) : List Int) = (inS g s : List Int) from rfl] at h_; exact h_)) ?_
      rintro e_ w473 ⟨rfl, he⟩
      refine ⟨_, rfl, _, rfl, fun act474 f475 => ?_⟩
      clear f461
      have g476 := gr_ext he
      have hS472 := hS458.gr g476
      have szw473 := g476.size
      replace e340 := e340.gr g476 no_row
      replace r341 := r341.gr g476 (fun _ h => by cases h)
      replace r342 := r342.gr g476 (fun _ h => by cases h)
      replace bx343 := bx343.gr g476 (by simp)
      replace bx344 := bx344.gr g476 (by simp)
      replace bx345 := bx345.gr g476 (by simp)
      replace ow389 := ow389.gr g476 (fun _ _ h => by cases h)
      replace r395 := r395.gr g476 (fun _ h => by cases h)
      replace bx426 := bx426.gr g476 (by simp)
      clear g476 he
      refine ⟨hS472, ?_⟩
      refine AtH.all [4] 1 (by kernel_rfl) (by simp) ⟨?_, trivial⟩
      refine OneH.seq f475 [[]] [(17, .pointer (some ⟨w473.heap.size, 0, none⟩))] (w473.alloc (.cells ((List.replicate 4 (0 : Int) : List Int).map wV).toArray 47 (0, 0))) [] #[true, true, true, true, true, false] (by kernel_rfl) (by kernel_rfl) (by kernel_rfl) trivial (fun act490 w487 hw488 f489 => ?_)
      clear f475
      have g491 := gr_alloc hw488
      have hS486 := hS472.gr g491
      have szw487 := g491.size
      replace e340 := e340.gr g491 no_row
      replace r341 := r341.gr g491 (fun _ h => by cases h)
      replace r342 := r342.gr g491 (fun _ h => by cases h)
      replace bx343 := bx343.gr g491 (by simp)
      replace bx344 := bx344.gr g491 (by simp)
      replace bx345 := bx345.gr g491 (by simp)
      replace ow389 : OwnR w487 (Sx (w358.heap.size) [some (w473.heap.size), some (w397.heap.size)]) A384 c385 3 ((subO g (inT g s)) : List Int) := ow389.grA g491 (fun _ _ h => by cases h) (fun k hk hs => ⟨(fun e => by injection e; omega), hs.1, hs.2⟩)
      replace r395 := r395.gr g491 (fun _ h => by cases h)
      replace bx426 := bx426.gr g491 (by simp)
      have bx502 : Bx w487 (w473.heap.size) ((List.replicate 4 (0 : Int) : List Int).map wV) 47 := Bx.new hw488
      have := bx502.lt
      clear g491 hw488
      refine ⟨hS486, ?_⟩
      refine AtH.all [5] 0 (by kernel_rfl) (by simp) ⟨?_, trivial⟩
      refine OneH.act f489 #[true, true, true, true, true, true] (by kernel_rfl) (storeBlk (t := 47) (b := w473.heap.size) (n := 4) (cs' := (((inS g s : List Int) : List Int).map wV)) (by kernel_rfl) (by kernel_rfl) ((List.length_map _).trans (okLen (inS_ok (by assumption)))) oneW_ ((show (((inS g s : List Int) : List Int).map wV).length = 4 from ((List.length_map _).trans (okLen (inS_ok (by assumption))))).trans (show ((List.replicate 4 (0 : Int) : List Int).map wV).length = 4 from (by simp only [List.length_map, List.length_set, List.length_replicate, List.length_cons, List.length_nil]; first | done | assumption | exact from_len _ | exact of_len _ | exact ofZ_len _ | exact (ofW_ok _).1 | exact (fullW_W _).1 | exact (okW_with (by assumption)).1 | exact (okW_less (by assumption)).1 | exact put_len (from_len _) | exact orD_len _ _ | exact andD_len _ _ | exact minusD_len _ _ | exact fullD_len _ | (refine okLen ?_; (repeat (first | assumption | exact ofW_ok _ | exact fullW_W _ | apply okW_with | apply okW_less | refine okW_orS ?_ ?_ | refine okW_andS ?_ ?_ | refine okW_minusS ?_ ?_)); done) | omega | rfl)).symm) bx502) ?_
      rintro d_ v_ w504 ⟨rfl, g505, bx506⟩
      have hS509 := hS486.gr' g505 (by rw [hCs441]; exact (allP_app trivial (ne_blk (by omega))))
      refine ⟨_, rfl, fun act508 f507 => ⟨hS509, ?_⟩⟩
      clear f489
      have szw504 := g505.size
      replace e340 := e340.gr g505 (fun k h => by injection h; omega)
      replace r341 := r341.gr g505 (fun k h => by injection h; omega)
      replace r342 := r342.gr g505 (fun k h => by injection h; omega)
      replace bx343 := bx343.gr g505 (fun h => by injection h; omega)
      replace bx344 := bx344.gr g505 (fun h => by injection h; omega)
      replace bx345 := bx345.gr g505 (fun h => by injection h; omega)
      replace ow389 := ow389.gr g505 (fun k hk => hk.1)
      replace r395 := r395.gr g505 (fun k h => by injection h; omega)
      replace bx426 := bx426.gr g505 (fun h => by injection h; omega)
      clear bx502 g505
      refine AtH.done (by kernel_rfl) ?_
      clear hS509
      refine t_n ?_
      have f519 := f507.sub (r := [(17, .pointer (some ⟨w473.heap.size, 0, none⟩)), (16, .bool (subB g (inT g s))), (15, .slice A384 ((subO g (inT g s)).length) c385), (14, .pointer (some ⟨w397.heap.size, 0, none⟩)), (9, .int .i64 (((g.ow.length : Nat) : Int))), (6, .bool false), (5, .pointer (some ⟨w11.heap.size, 0, none⟩)), (3, .pointer (some ⟨w.heap.size, 0, none⟩))]) ⟨rfl, rfl, rfl, rfl, rfl, rfl, rfl, rfl, trivial⟩
      exact ⟨w473.heap.size, f519, e340, r341, r342, bx343, bx344, bx345, (ow389.imp (fun g _ hs => ⟨hs.2.1, hs.1, (by have := Sx_base hs; show w358.heap.size ≤ g; omega)⟩)), r395, bx426, bx506, (by omega), (by omega)⟩
     ·refine OneH.seq f461 [[]] [(17, .pointer (some ⟨w459.heap.size, 0, none⟩))] (w459.alloc (.cells ((List.replicate 4 (0 : Int) : List Int).map wV).toArray 47 (0, 0))) [] #[true, true, true, false, true, false] (by kernel_rfl) (by kernel_rfl) (by kernel_rfl) trivial (fun act524 w521 hw522 f523 => ?_)
      clear f461
      have g525 := gr_alloc hw522
      have hS520 := hS458.gr g525
      have szw521 := g525.size
      replace e340 := e340.gr g525 no_row
      replace r341 := r341.gr g525 (fun _ h => by cases h)
      replace r342 := r342.gr g525 (fun _ h => by cases h)
      replace bx343 := bx343.gr g525 (by simp)
      replace bx344 := bx344.gr g525 (by simp)
      replace bx345 := bx345.gr g525 (by simp)
      replace ow389 : OwnR w521 (Sx (w358.heap.size) [some (w459.heap.size), some (w397.heap.size)]) A384 c385 3 ((subO g (inT g s)) : List Int) := ow389.grA g525 (fun _ _ h => by cases h) (fun k hk hs => ⟨(fun e => by injection e; omega), hs.1, hs.2⟩)
      replace r395 := r395.gr g525 (fun _ h => by cases h)
      replace bx426 := bx426.gr g525 (by simp)
      have bx536 : Bx w521 (w459.heap.size) ((List.replicate 4 (0 : Int) : List Int).map wV) 47 := Bx.new hw522
      have := bx536.lt
      clear g525 hw522
      refine ⟨hS520, ?_⟩
      refine AtH.all [3] 1 (by kernel_rfl) (by simp) ⟨?_, trivial⟩
      refine OneH.call f523 31 #[.agg ((s : List Int).map wV).toArray, .agg ((fullW ((g.ow.length : Nat) : Int) : List Int).map wV).toArray] (some 74) #[true, true, true, true, true, false] (by kernel_rfl) (by kernel_rfl) ((andS_any (s := s) (t := fullW ((g.ow.length : Nat) : Int)) (by assumption) (fullW_W _)).mono (R' := fun e w' => e = .returned (.agg (((inS g s : List Int) : List Int).map wV).toArray) ∧ Ext _ w') (fun e_ w_ h_ => by rw [show (andS s (fullW ((g.ow.length : Nat) : Int)) : List Int) = (inS g s : List Int) from rfl] at h_; exact h_)) ?_
      rintro e_ w538 ⟨rfl, he⟩
      refine ⟨_, rfl, _, rfl, fun act539 f540 => ?_⟩
      clear f523
      have g541 := gr_ext he
      have hS537 := hS520.gr g541
      have szw538 := g541.size
      replace e340 := e340.gr g541 no_row
      replace r341 := r341.gr g541 (fun _ h => by cases h)
      replace r342 := r342.gr g541 (fun _ h => by cases h)
      replace bx343 := bx343.gr g541 (by simp)
      replace bx344 := bx344.gr g541 (by simp)
      replace bx345 := bx345.gr g541 (by simp)
      replace ow389 := ow389.gr g541 (fun _ _ h => by cases h)
      replace r395 := r395.gr g541 (fun _ h => by cases h)
      replace bx426 := bx426.gr g541 (by simp)
      replace bx536 := bx536.gr g541 (by simp)
      clear g541 he
      refine ⟨hS537, ?_⟩
      refine AtH.all [5] 0 (by kernel_rfl) (by simp) ⟨?_, trivial⟩
      refine OneH.act f540 #[true, true, true, true, true, true] (by kernel_rfl) (storeBlk (t := 47) (b := w459.heap.size) (n := 4) (cs' := (((inS g s : List Int) : List Int).map wV)) (by kernel_rfl) (by kernel_rfl) ((List.length_map _).trans (okLen (inS_ok (by assumption)))) oneW_ ((show (((inS g s : List Int) : List Int).map wV).length = 4 from ((List.length_map _).trans (okLen (inS_ok (by assumption))))).trans (show ((List.replicate 4 (0 : Int) : List Int).map wV).length = 4 from (by simp only [List.length_map, List.length_set, List.length_replicate, List.length_cons, List.length_nil]; first | done | assumption | exact from_len _ | exact of_len _ | exact ofZ_len _ | exact (ofW_ok _).1 | exact (fullW_W _).1 | exact (okW_with (by assumption)).1 | exact (okW_less (by assumption)).1 | exact put_len (from_len _) | exact orD_len _ _ | exact andD_len _ _ | exact minusD_len _ _ | exact fullD_len _ | (refine okLen ?_; (repeat (first | assumption | exact ofW_ok _ | exact fullW_W _ | apply okW_with | apply okW_less | refine okW_orS ?_ ?_ | refine okW_andS ?_ ?_ | refine okW_minusS ?_ ?_)); done) | omega | rfl)).symm) bx536) ?_
      rintro d_ v_ w553 ⟨rfl, g554, bx555⟩
      have hS558 := hS537.gr' g554 (by rw [hCs441]; exact (allP_app trivial (ne_blk (by omega))))
      refine ⟨_, rfl, fun act557 f556 => ⟨hS558, ?_⟩⟩
      clear f540
      have szw553 := g554.size
      replace e340 := e340.gr g554 (fun k h => by injection h; omega)
      replace r341 := r341.gr g554 (fun k h => by injection h; omega)
      replace r342 := r342.gr g554 (fun k h => by injection h; omega)
      replace bx343 := bx343.gr g554 (fun h => by injection h; omega)
      replace bx344 := bx344.gr g554 (fun h => by injection h; omega)
      replace bx345 := bx345.gr g554 (fun h => by injection h; omega)
      replace ow389 := ow389.gr g554 (fun k hk => hk.1)
      replace r395 := r395.gr g554 (fun k h => by injection h; omega)
      replace bx426 := bx426.gr g554 (fun h => by injection h; omega)
      clear bx536 g554
      refine AtH.done (by kernel_rfl) ?_
      clear hS558
      refine t_n ?_
      have f568 := f556.sub (r := [(17, .pointer (some ⟨w459.heap.size, 0, none⟩)), (16, .bool (subB g (inT g s))), (15, .slice A384 ((subO g (inT g s)).length) c385), (14, .pointer (some ⟨w397.heap.size, 0, none⟩)), (9, .int .i64 (((g.ow.length : Nat) : Int))), (6, .bool false), (5, .pointer (some ⟨w11.heap.size, 0, none⟩)), (3, .pointer (some ⟨w.heap.size, 0, none⟩))]) ⟨rfl, rfl, rfl, rfl, rfl, rfl, rfl, rfl, trivial⟩
      exact ⟨w459.heap.size, f568, e340, r341, r342, bx343, bx344, bx345, (ow389.imp (fun g _ hs => ⟨hs.2.1, hs.1, (by have := Sx_base hs; show w358.heap.size ≤ g; omega)⟩)), r395, bx426, bx555, (by omega), (by omega)⟩
    ·refine OneH.seq f456 [[]] [(17, .pointer (some ⟨w444.heap.size, 0, none⟩))] (w444.alloc (.cells ((List.replicate 4 (0 : Int) : List Int).map wV).toArray 47 (0, 0))) [] #[true, true, false, false, true, false] (by kernel_rfl) (by kernel_rfl) (by kernel_rfl) trivial (fun act573 w570 hw571 f572 => ?_)
     clear f456
     have g574 := gr_alloc hw571
     have hS569 := hS446.gr g574
     have szw570 := g574.size
     replace e340 := e340.gr g574 no_row
     replace r341 := r341.gr g574 (fun _ h => by cases h)
     replace r342 := r342.gr g574 (fun _ h => by cases h)
     replace bx343 := bx343.gr g574 (by simp)
     replace bx344 := bx344.gr g574 (by simp)
     replace bx345 := bx345.gr g574 (by simp)
     replace ow389 : OwnR w570 (Sx (w358.heap.size) [some (w444.heap.size), some (w397.heap.size)]) A384 c385 3 ((subO g (inT g s)) : List Int) := ow389.grA g574 (fun _ _ h => by cases h) (fun k hk hs => ⟨(fun e => by injection e; omega), hs.1, hs.2⟩)
     replace r395 := r395.gr g574 (fun _ h => by cases h)
     replace bx426 := bx426.gr g574 (by simp)
     have bx585 : Bx w570 (w444.heap.size) ((List.replicate 4 (0 : Int) : List Int).map wV) 47 := Bx.new hw571
     have := bx585.lt
     clear g574 hw571
     refine ⟨hS569, ?_⟩
     refine AtH.all [2] 2 (by kernel_rfl) (by simp) ⟨?_, trivial⟩
     refine OneH.call f572 30 #[.int .i64 (((g.ow.length : Nat) : Int))] (some 73) #[true, true, true, false, true, false] (by kernel_rfl) (by kernel_rfl) (full_any (n := ((g.ow.length : Nat) : Int)) (by omega)) ?_
     rintro e_ w587 ⟨rfl, he⟩
     refine ⟨_, rfl, _, rfl, fun act588 f589 => ?_⟩
     clear f572
     have g590 := gr_ext he
     have hS586 := hS569.gr g590
     have szw587 := g590.size
     replace e340 := e340.gr g590 no_row
     replace r341 := r341.gr g590 (fun _ h => by cases h)
     replace r342 := r342.gr g590 (fun _ h => by cases h)
     replace bx343 := bx343.gr g590 (by simp)
     replace bx344 := bx344.gr g590 (by simp)
     replace bx345 := bx345.gr g590 (by simp)
     replace ow389 := ow389.gr g590 (fun _ _ h => by cases h)
     replace r395 := r395.gr g590 (fun _ h => by cases h)
     replace bx426 := bx426.gr g590 (by simp)
     replace bx585 := bx585.gr g590 (by simp)
     clear g590 he
     refine ⟨hS586, ?_⟩
     refine AtH.all [3] 1 (by kernel_rfl) (by simp) ⟨?_, trivial⟩
     refine OneH.call f589 31 #[.agg ((s : List Int).map wV).toArray, .agg ((fullW ((g.ow.length : Nat) : Int) : List Int).map wV).toArray] (some 74) #[true, true, true, true, true, false] (by kernel_rfl) (by kernel_rfl) ((andS_any (s := s) (t := fullW ((g.ow.length : Nat) : Int)) (by assumption) (fullW_W _)).mono (R' := fun e w' => e = .returned (.agg (((inS g s : List Int) : List Int).map wV).toArray) ∧ Ext _ w') (fun e_ w_ h_ => by rw [show (andS s (fullW ((g.ow.length : Nat) : Int)) : List Int) = (inS g s : List Int) from rfl] at h_; exact h_)) ?_
     rintro e_ w602 ⟨rfl, he⟩
     refine ⟨_, rfl, _, rfl, fun act603 f604 => ?_⟩
     clear f589
     have g605 := gr_ext he
     have hS601 := hS586.gr g605
     have szw602 := g605.size
     replace e340 := e340.gr g605 no_row
     replace r341 := r341.gr g605 (fun _ h => by cases h)
     replace r342 := r342.gr g605 (fun _ h => by cases h)
     replace bx343 := bx343.gr g605 (by simp)
     replace bx344 := bx344.gr g605 (by simp)
     replace bx345 := bx345.gr g605 (by simp)
     replace ow389 := ow389.gr g605 (fun _ _ h => by cases h)
     replace r395 := r395.gr g605 (fun _ h => by cases h)
     replace bx426 := bx426.gr g605 (by simp)
     replace bx585 := bx585.gr g605 (by simp)
     clear g605 he
     refine ⟨hS601, ?_⟩
     refine AtH.all [5] 0 (by kernel_rfl) (by simp) ⟨?_, trivial⟩
     refine OneH.act f604 #[true, true, true, true, true, true] (by kernel_rfl) (storeBlk (t := 47) (b := w444.heap.size) (n := 4) (cs' := (((inS g s : List Int) : List Int).map wV)) (by kernel_rfl) (by kernel_rfl) ((List.length_map _).trans (okLen (inS_ok (by assumption)))) oneW_ ((show (((inS g s : List Int) : List Int).map wV).length = 4 from ((List.length_map _).trans (okLen (inS_ok (by assumption))))).trans (show ((List.replicate 4 (0 : Int) : List Int).map wV).length = 4 from (by simp only [List.length_map, List.length_set, List.length_replicate, List.length_cons, List.length_nil]; first | done | assumption | exact from_len _ | exact of_len _ | exact ofZ_len _ | exact (ofW_ok _).1 | exact (fullW_W _).1 | exact (okW_with (by assumption)).1 | exact (okW_less (by assumption)).1 | exact put_len (from_len _) | exact orD_len _ _ | exact andD_len _ _ | exact minusD_len _ _ | exact fullD_len _ | (refine okLen ?_; (repeat (first | assumption | exact ofW_ok _ | exact fullW_W _ | apply okW_with | apply okW_less | refine okW_orS ?_ ?_ | refine okW_andS ?_ ?_ | refine okW_minusS ?_ ?_)); done) | omega | rfl)).symm) bx585) ?_
     rintro d_ v_ w617 ⟨rfl, g618, bx619⟩
     have hS622 := hS601.gr' g618 (by rw [hCs441]; exact (allP_app trivial (ne_blk (by omega))))
     refine ⟨_, rfl, fun act621 f620 => ⟨hS622, ?_⟩⟩
     clear f604
     have szw617 := g618.size
     replace e340 := e340.gr g618 (fun k h => by injection h; omega)
     replace r341 := r341.gr g618 (fun k h => by injection h; omega)
     replace r342 := r342.gr g618 (fun k h => by injection h; omega)
     replace bx343 := bx343.gr g618 (fun h => by injection h; omega)
     replace bx344 := bx344.gr g618 (fun h => by injection h; omega)
     replace bx345 := bx345.gr g618 (fun h => by injection h; omega)
     replace ow389 := ow389.gr g618 (fun k hk => hk.1)
     replace r395 := r395.gr g618 (fun k h => by injection h; omega)
     replace bx426 := bx426.gr g618 (fun h => by injection h; omega)
     clear bx585 g618
     refine AtH.done (by kernel_rfl) ?_
     clear hS622
     refine t_n ?_
     have f632 := f620.sub (r := [(17, .pointer (some ⟨w444.heap.size, 0, none⟩)), (16, .bool (subB g (inT g s))), (15, .slice A384 ((subO g (inT g s)).length) c385), (14, .pointer (some ⟨w397.heap.size, 0, none⟩)), (9, .int .i64 (((g.ow.length : Nat) : Int))), (6, .bool false), (5, .pointer (some ⟨w11.heap.size, 0, none⟩)), (3, .pointer (some ⟨w.heap.size, 0, none⟩))]) ⟨rfl, rfl, rfl, rfl, rfl, rfl, rfl, rfl, trivial⟩
     exact ⟨w444.heap.size, f632, e340, r341, r342, bx343, bx344, bx345, (ow389.imp (fun g _ hs => ⟨hs.2.1, hs.1, (by have := Sx_base hs; show w358.heap.size ≤ g; omega)⟩)), r395, bx426, bx619, (by omega), (by omega)⟩
   ·clear r341
    clear r342
    clear bx343
    clear bx344
    clear bx345
    clear ow389
    clear r395
    clear bx426
    clear f437 e340
    intro act633 w634 ⟨b_439, f635, e636, r637, r638, bx639, bx640, bx641, ow642, r643, bx644, bx645, hb646, szz647⟩
    have szw634 := e636.size
    have := bx639.lt
    have := bx640.lt
    have := bx641.lt
    have := bx644.lt
    have := bx645.lt
    refine wp_seq ?_
    refine wp_seq ?_
    refine At.start ?_
    refine At.rd f635 2 [[], []] [(76, .bool (!(subB g (inT g s)))), (75, .bool (subB g (inT g s)))] [] (by kernel_rfl) trivial (fun act650 f649 => ?_)
    clear f635
    refine At.done rfl ?_
    refine t_n ?_
    clear bx640
    refine cond_S f649 (t := !(subB g (inT g s))) rfl (fun h651 => ?_) (fun h651 => ?_)
    ·have q652 : (subB g (inT g s)) = false := by first | exact Eq.mp (Bool.not_eq_true' _) h651 | exact Eq.mp (Bool.not_eq_false' _) h651 | simpa using h651
     refine wp_seq ?_
     refine wp_seq ?_
     refine At.start ?_
     refine At.rd f649 1 [[]] [(18, .int .i64 (0))] [] (by kernel_rfl) trivial (fun act655 f654 => ?_)
     clear f649
     refine At.done rfl ?_
     refine t_n ?_
     clear bx641
     clear ow642
     clear bx644
     refine wp_block ?_
     have f656 := f654.sub (r := [(18, .int .i64 (0)), (17, .pointer (some ⟨b_439, 0, none⟩)), (9, .int .i64 (((g.ow.length : Nat) : Int))), (3, .pointer (some ⟨w.heap.size, 0, none⟩))]) ⟨rfl, rfl, rfl, rfl, trivial⟩
     refine loop_g (fun (m_ : Nat) a_ w_ => ∃ (k0 : Int), m_ = ((g.ow.length : Int) - k0).toNat ∧ (Frm 279 a_ [(18, .int .i64 (k0)), (17, .pointer (some ⟨b_439, 0, none⟩)), (9, .int .i64 (((g.ow.length : Nat) : Int))), (3, .pointer (some ⟨w.heap.size, 0, none⟩))]) ∧ (Ext w w_) ∧ (RdG w_ 0 w.heap.size Ag0 Ag1 Ag2 cg0 cg1 cg2 g) ∧ (RdT w_ 0 w.heap.size) ∧ (Bx w_ (w.heap.size) [.slice Ag0 g.ow.length cg0, .slice Ag1 g.pr.length cg1, .slice Ag2 g.mv.length cg2] 25) ∧ (RdG w_ (w358.heap.size) w397.heap.size A378 A380 A382 c379 c381 c383 (subG g (inT g s))) ∧ (Bx w_ (b_439) (((inS g s : List Int) : List Int).map wV) 47) ∧ (0 ≤ k0) ∧ (k0 ≤ (g.ow.length : Int)) ∧ (NoSt g s k0)) _ ⟨0, rfl, f656, e636, r637, r638, bx639, r643, bx645, (by omega), (by omega), noSt_0⟩ ?_
     clear f656 f654
     clear r637
     clear r638
     clear bx639
     clear r643
     clear bx645
     clear e636
     intro m_ act657 w658 ⟨k0, hm660, f661, e659, r662, r663, bx664, r665, bx666, i667, i668, hst⟩
     have szw658 := e659.size
     have := bx664.lt
     have := bx666.lt
     refine wp_seq ?_
     refine wp_seq ?_
     refine At.start ?_
     refine At.rd f661 3 [[], [], []] [(79, .bool (decide ((k0 : Int) < ((g.ow.length : Nat) : Int)))), (78, .int .i64 (((g.ow.length : Nat) : Int))), (77, .int .i64 (k0))] [] (by kernel_rfl) trivial (fun act670 f669 => ?_)
     clear f661
     refine At.done rfl ?_
     refine t_n ?_
     refine cond_S f669 (t := decide ((k0 : Int) < ((g.ow.length : Nat) : Int))) rfl (fun h671 => ?_) (fun h671 => ?_)
     ·have q672 := of_decide_eq_true h671
      refine wp_skip ?_
      refine t_n ?_
      refine wp_seq ?_
      refine wp_block ?_
      refine wp_seq ?_
      obtain ⟨ad673, R676, C677, hA674, _, _, hc675, hC678, r679⟩ := RdII.get r662.mv (k0) (by omega) (by omega)
      have hl680 := r679.len
      obtain ⟨ad682, R685, C686, hA683, _, _, hc684, hC687, r688⟩ := RdII.get r662.mv (k0) (by omega) (by omega)
      have hl689 := r688.len
      obtain ⟨Cs691, hCs692⟩ : ∃ c : List (Addr × Value), c = ([(⟨w.heap.size, 2, none⟩, (.slice Ag2 g.mv.length cg2)), ((ad673.add ((k0 : Int).toNat * 1)), (.slice R676 ((gL g.mv (k0)).length) C677)), ((ad682.add ((k0 : Int).toNat * 1)), (.slice R685 ((gL g.mv (k0)).length) C686))] : List (Addr × Value)) ++ blkC (b_439) (((inS g s : List Int) : List Int).map wV) := ⟨_, rfl⟩
      have hS693 : HoldsC Cs691 w658 := by rw [hCs692]; exact (holdsA (show HoldsC [(⟨w.heap.size, 2, none⟩, (.slice Ag2 g.mv.length cg2)), ((ad673.add ((k0 : Int).toNat * 1)), (.slice R676 ((gL g.mv (k0)).length) C677)), ((ad682.add ((k0 : Int).toNat * 1)), (.slice R685 ((gL g.mv (k0)).length) C686))] w658 from ⟨(bx664.cell (i := 2) rfl), hc675, hc684, trivial⟩) (holds_blk bx666))
      refine AtH.start Cs691 25 #[false, false, false, false, false, false, false, false, false, false, false, false, false, false, false, false, false, false, false, false, false, false, false, false, false] (by kernel_rfl) rfl rfl (fun w695 hw696 => ?_)
      have g694 := gr_drew hw696
      have hS697 := hS693.gr g694
      have szw695 := g694.size
      replace e659 := e659.gr g694 no_row
      replace r662 := r662.gr g694 (fun _ h => by cases h)
      replace r663 := r663.gr g694 (fun _ h => by cases h)
      replace bx664 := bx664.gr g694 (by simp)
      replace r665 := r665.gr g694 (fun _ h => by cases h)
      replace bx666 := bx666.gr g694 (by simp)
      replace r679 := r679.gr g694 (fun _ h => by cases h)
      replace r688 := r688.gr g694 (fun _ h => by cases h)
      clear g694 hw696 hS693
      refine AtH.rd (by kernel_rfl) (fun d v c a w h => by cases d <;> exact h) hS697 [0, 1] [[.cs (((inS g s : List Int) : List Int).map wV)], []] [(83, .int .i64 (k0)), (82, .agg (((inS g s : List Int) : List Int).map wV).toArray)] #[true, true, false, false, false, false, false, false, false, false, false, false, false, false, false, false, false, false, false, false, false, false, false, false, false] [((((inS g s : List Int) : List Int).map wV).length = 4), (∀ (j : Nat) (v : Value), (((inS g s : List Int) : List Int).map wV)[j]? = some v → ∃ j_ : Nat, Cs691[j_]? = some (((⟨b_439, 0, none⟩ : Addr).add j), v))] 23 f669 (by kernel_rfl) ⟨((List.length_map _).trans (okLen (inS_ok (by assumption)))), (fun j v hv => List.getElem?_of_mem (by rw [hCs692]; exact List.mem_append.2 (.inr (blkC_in hv)))), trivial⟩ (fun act707 f706 => ?_)
      clear f669
      refine AtH.all [2] 22 (by kernel_rfl) (by simp) ⟨?_, trivial⟩
      refine OneH.call f706 33 #[.agg (((inS g s : List Int) : List Int).map wV).toArray, .int .i64 (k0)] (some 84) #[true, true, true, false, false, false, false, false, false, false, false, false, false, false, false, false, false, false, false, false, false, false, false, false, false] (by kernel_rfl) (by kernel_rfl) (has_any (s := (inS g s : List Int)) (n := k0) (inS_ok (by assumption))) ?_
      rintro e_ w709 ⟨rfl, he⟩
      refine ⟨_, rfl, _, rfl, fun act710 f711 => ?_⟩
      clear f706
      have g712 := gr_ext he
      have hS708 := hS697.gr g712
      have szw709 := g712.size
      replace e659 := e659.gr g712 no_row
      replace r662 := r662.gr g712 (fun _ h => by cases h)
      replace r663 := r663.gr g712 (fun _ h => by cases h)
      replace bx664 := bx664.gr g712 (by simp)
      replace r665 := r665.gr g712 (fun _ h => by cases h)
      replace bx666 := bx666.gr g712 (by simp)
      replace r679 := r679.gr g712 (fun _ h => by cases h)
      replace r688 := r688.gr g712 (fun _ h => by cases h)
      clear g712 he
      refine ⟨hS708, ?_⟩
      rcases Bool.eq_false_or_eq_true (hasW (inS g s : List Int) k0) with h721 | h721
      ·refine AtH.rd (by kernel_rfl) (fun d v c a w h => by cases d <;> exact h) hS708 [3] [[.as_ (.bool true)]] [(85, .bool true)] #[true, true, true, true, false, false, false, false, false, false, false, false, false, false, false, false, false, false, false, false, false, false, false, false, false] [((.bool (hasW (inS g s : List Int) k0) : Value) = .bool true)] 21 f711 (by kernel_rfl) ⟨(congrArg Value.bool h721), trivial⟩ (fun act724 f723 => ?_)
       clear f711
       refine AtH.rd (by kernel_rfl) (fun d v c a w h => by cases d <;> exact h) hS708 [4] [[]] [(86, .pointer (some ⟨w.heap.size, 2, none⟩))] #[true, true, true, true, true, false, false, false, false, false, false, false, false, false, false, false, false, false, false, false, false, false, false, false, false] [] 20 f723 (by kernel_rfl) trivial (fun act726 f725 => ?_)
       clear f723
       refine AtH.rd (by kernel_rfl) (fun d v c a w h => by cases d <;> exact h) hS708 [5] [[.ld (.slice Ag2 g.mv.length cg2)]] [(87, .slice Ag2 g.mv.length cg2)] #[true, true, true, true, true, true, false, false, false, false, false, false, false, false, false, false, false, false, false, false, false, false, false, false, false] [(∃ j_ : Nat, Cs691[j_]? = some (⟨w.heap.size, 2, none⟩, (.slice Ag2 g.mv.length cg2)))] 19 f725 (by kernel_rfl) ⟨⟨0, by rw [hCs692]; rfl⟩, trivial⟩ (fun act728 f727 => ?_)
       clear f725
       refine AtH.rd (by kernel_rfl) (fun d v c a w h => by cases d <;> exact h) hS708 [6] [[]] [(88, .int .i64 (k0))] #[true, true, true, true, true, true, true, false, false, false, false, false, false, false, false, false, false, false, false, false, false, false, false, false, false] [] 18 f727 (by kernel_rfl) trivial (fun act730 f729 => ?_)
       clear f727
       refine AtH.rd (by kernel_rfl) (fun d v c a w h => by cases d <;> exact h) hS708 [7] [[.ad ad673]] [(89, .pointer (some (ad673.add ((k0 : Int).toNat * 1))))] #[true, true, true, true, true, true, true, true, false, false, false, false, false, false, false, false, false, false, false, false, false, false, false, false, false] [(Ag2 = some ad673), (0 ≤ (k0 : Int)), ((k0 : Int) < (g.mv.length : Nat))] 17 f729 (by kernel_rfl) ⟨hA674, (by omega), (by omega), trivial⟩ (fun act732 f731 => ?_)
       clear f729
       refine AtH.rd (by kernel_rfl) (fun d v c a w h => by cases d <;> exact h) hS708 [8] [[.ld (.slice R676 ((gL g.mv (k0)).length) C677)]] [(90, .slice R676 ((gL g.mv (k0)).length) C677)] #[true, true, true, true, true, true, true, true, true, false, false, false, false, false, false, false, false, false, false, false, false, false, false, false, false] [(∃ j_ : Nat, Cs691[j_]? = some ((ad673.add ((k0 : Int).toNat * 1)), (.slice R676 ((gL g.mv (k0)).length) C677)))] 16 f731 (by kernel_rfl) ⟨⟨1, by rw [hCs692]; rfl⟩, trivial⟩ (fun act734 f733 => ?_)
       clear f731
       refine AtH.rd (by kernel_rfl) (fun d v c a w h => by cases d <;> exact h) hS708 [10] [[.cs (((inS g s : List Int) : List Int).map wV)]] [(92, .agg (((inS g s : List Int) : List Int).map wV).toArray)] #[true, true, true, true, true, true, true, true, true, false, true, false, false, false, false, false, false, false, false, false, false, false, false, false, false] [((((inS g s : List Int) : List Int).map wV).length = 4), (∀ (j : Nat) (v : Value), (((inS g s : List Int) : List Int).map wV)[j]? = some v → ∃ j_ : Nat, Cs691[j_]? = some (((⟨b_439, 0, none⟩ : Addr).add j), v))] 15 f733 (by kernel_rfl) ⟨((List.length_map _).trans (okLen (inS_ok (by assumption)))), (fun j v hv => List.getElem?_of_mem (by rw [hCs692]; exact List.mem_append.2 (.inr (blkC_in hv)))), trivial⟩ (fun act736 f735 => ?_)
       clear f733
       refine AtH.rd (by kernel_rfl) (fun d v c a w h => by cases d <;> exact h) hS708 [12] [[]] [(94, .pointer (some ⟨w.heap.size, 2, none⟩))] #[true, true, true, true, true, true, true, true, true, false, true, false, true, false, false, false, false, false, false, false, false, false, false, false, false] [] 14 f735 (by kernel_rfl) trivial (fun act738 f737 => ?_)
       clear f735
       refine AtH.rd (by kernel_rfl) (fun d v c a w h => by cases d <;> exact h) hS708 [13] [[.ld (.slice Ag2 g.mv.length cg2)]] [(95, .slice Ag2 g.mv.length cg2)] #[true, true, true, true, true, true, true, true, true, false, true, false, true, true, false, false, false, false, false, false, false, false, false, false, false] [(∃ j_ : Nat, Cs691[j_]? = some (⟨w.heap.size, 2, none⟩, (.slice Ag2 g.mv.length cg2)))] 13 f737 (by kernel_rfl) ⟨⟨0, by rw [hCs692]; rfl⟩, trivial⟩ (fun act740 f739 => ?_)
       clear f737
       refine AtH.rd (by kernel_rfl) (fun d v c a w h => by cases d <;> exact h) hS708 [14] [[]] [(96, .int .i64 (k0))] #[true, true, true, true, true, true, true, true, true, false, true, false, true, true, true, false, false, false, false, false, false, false, false, false, false] [] 12 f739 (by kernel_rfl) trivial (fun act742 f741 => ?_)
       clear f739
       refine AtH.rd (by kernel_rfl) (fun d v c a w h => by cases d <;> exact h) hS708 [15] [[.ad ad682]] [(97, .pointer (some (ad682.add ((k0 : Int).toNat * 1))))] #[true, true, true, true, true, true, true, true, true, false, true, false, true, true, true, true, false, false, false, false, false, false, false, false, false] [(Ag2 = some ad682), (0 ≤ (k0 : Int)), ((k0 : Int) < (g.mv.length : Nat))] 11 f741 (by kernel_rfl) ⟨hA683, (by omega), (by omega), trivial⟩ (fun act744 f743 => ?_)
       clear f741
       refine AtH.rd (by kernel_rfl) (fun d v c a w h => by cases d <;> exact h) hS708 [16] [[.ld (.slice R685 ((gL g.mv (k0)).length) C686)]] [(98, .slice R685 ((gL g.mv (k0)).length) C686)] #[true, true, true, true, true, true, true, true, true, false, true, false, true, true, true, true, true, false, false, false, false, false, false, false, false] [(∃ j_ : Nat, Cs691[j_]? = some ((ad682.add ((k0 : Int).toNat * 1)), (.slice R685 ((gL g.mv (k0)).length) C686)))] 10 f743 (by kernel_rfl) ⟨⟨2, by rw [hCs692]; rfl⟩, trivial⟩ (fun act746 f745 => ?_)
       clear f743
       refine AtH.rd (by kernel_rfl) (fun d v c a w h => by cases d <;> exact h) hS708 [18] [[.cs (((inS g s : List Int) : List Int).map wV)]] [(100, .agg (((inS g s : List Int) : List Int).map wV).toArray)] #[true, true, true, true, true, true, true, true, true, false, true, false, true, true, true, true, true, false, true, false, false, false, false, false, false] [((((inS g s : List Int) : List Int).map wV).length = 4), (∀ (j : Nat) (v : Value), (((inS g s : List Int) : List Int).map wV)[j]? = some v → ∃ j_ : Nat, Cs691[j_]? = some (((⟨b_439, 0, none⟩ : Addr).add j), v))] 9 f745 (by kernel_rfl) ⟨((List.length_map _).trans (okLen (inS_ok (by assumption)))), (fun j v hv => List.getElem?_of_mem (by rw [hCs692]; exact List.mem_append.2 (.inr (blkC_in hv)))), trivial⟩ (fun act748 f747 => ?_)
       clear f745
       refine AtH.all [9] 8 (by kernel_rfl) (by simp) ⟨?_, trivial⟩
       refine OneH.call f747 34 #[.slice R676 ((gL g.mv (k0)).length) C677] (some 91) #[true, true, true, true, true, true, true, true, true, true, true, false, true, true, true, true, true, false, true, false, false, false, false, false, false] (by kernel_rfl) (by kernel_rfl) (of_any (la := gL g.mv (k0)) (r679.wide (Nat.zero_le _) (by omega))) ?_
       rintro e_ w750 ⟨rfl, he⟩
       refine ⟨_, rfl, _, rfl, fun act751 f752 => ?_⟩
       clear f747
       have g753 := gr_ext he
       have hS749 := hS708.gr g753
       have szw750 := g753.size
       replace e659 := e659.gr g753 no_row
       replace r662 := r662.gr g753 (fun _ h => by cases h)
       replace r663 := r663.gr g753 (fun _ h => by cases h)
       replace bx664 := bx664.gr g753 (by simp)
       replace r665 := r665.gr g753 (fun _ h => by cases h)
       replace bx666 := bx666.gr g753 (by simp)
       replace r679 := r679.gr g753 (fun _ h => by cases h)
       replace r688 := r688.gr g753 (fun _ h => by cases h)
       clear g753 he
       refine ⟨hS749, ?_⟩
       refine AtH.all [11] 7 (by kernel_rfl) (by simp) ⟨?_, trivial⟩
       refine OneH.call f752 31 #[.agg ((ofW (gL g.mv (k0)) : List Int).map wV).toArray, .agg (((inS g s : List Int) : List Int).map wV).toArray] (some 93) #[true, true, true, true, true, true, true, true, true, true, true, true, true, true, true, true, true, false, true, false, false, false, false, false, false] (by kernel_rfl) (by kernel_rfl) ((andS_any (s := ofW (gL g.mv (k0))) (t := (inS g s : List Int)) (ofW_ok _) (inS_ok (by assumption))).mono (R' := fun e w' => e = .returned (.agg (((rowS g s k0 : List Int) : List Int).map wV).toArray) ∧ Ext _ w') (fun e_ w_ h_ => by rw [show (andS (ofW (gL g.mv (k0))) (inS g s : List Int) : List Int) = (rowS g s k0 : List Int) from rfl] at h_; exact h_)) ?_
       rintro e_ w763 ⟨rfl, he⟩
       refine ⟨_, rfl, _, rfl, fun act764 f765 => ?_⟩
       clear f752
       have g766 := gr_ext he
       have hS762 := hS749.gr g766
       have szw763 := g766.size
       replace e659 := e659.gr g766 no_row
       replace r662 := r662.gr g766 (fun _ h => by cases h)
       replace r663 := r663.gr g766 (fun _ h => by cases h)
       replace bx664 := bx664.gr g766 (by simp)
       replace r665 := r665.gr g766 (fun _ h => by cases h)
       replace bx666 := bx666.gr g766 (by simp)
       replace r679 := r679.gr g766 (fun _ h => by cases h)
       replace r688 := r688.gr g766 (fun _ h => by cases h)
       clear g766 he
       refine ⟨hS762, ?_⟩
       refine AtH.all [17] 6 (by kernel_rfl) (by simp) ⟨?_, trivial⟩
       refine OneH.call f765 34 #[.slice R685 ((gL g.mv (k0)).length) C686] (some 99) #[true, true, true, true, true, true, true, true, true, true, true, true, true, true, true, true, true, true, true, false, false, false, false, false, false] (by kernel_rfl) (by kernel_rfl) (of_any (la := gL g.mv (k0)) (r688.wide (Nat.zero_le _) (by omega))) ?_
       rintro e_ w776 ⟨rfl, he⟩
       refine ⟨_, rfl, _, rfl, fun act777 f778 => ?_⟩
       clear f765
       have g779 := gr_ext he
       have hS775 := hS762.gr g779
       have szw776 := g779.size
       replace e659 := e659.gr g779 no_row
       replace r662 := r662.gr g779 (fun _ h => by cases h)
       replace r663 := r663.gr g779 (fun _ h => by cases h)
       replace bx664 := bx664.gr g779 (by simp)
       replace r665 := r665.gr g779 (fun _ h => by cases h)
       replace bx666 := bx666.gr g779 (by simp)
       replace r679 := r679.gr g779 (fun _ h => by cases h)
       replace r688 := r688.gr g779 (fun _ h => by cases h)
       clear g779 he
       refine ⟨hS775, ?_⟩
       refine AtH.all [19] 5 (by kernel_rfl) (by simp) ⟨?_, trivial⟩
       refine OneH.call f778 31 #[.agg ((ofW (gL g.mv (k0)) : List Int).map wV).toArray, .agg (((inS g s : List Int) : List Int).map wV).toArray] (some 101) #[true, true, true, true, true, true, true, true, true, true, true, true, true, true, true, true, true, true, true, true, false, false, false, false, false] (by kernel_rfl) (by kernel_rfl) ((andS_any (s := ofW (gL g.mv (k0))) (t := (inS g s : List Int)) (ofW_ok _) (inS_ok (by assumption))).mono (R' := fun e w' => e = .returned (.agg (((rowS g s k0 : List Int) : List Int).map wV).toArray) ∧ Ext _ w') (fun e_ w_ h_ => by rw [show (andS (ofW (gL g.mv (k0))) (inS g s : List Int) : List Int) = (rowS g s k0 : List Int) from rfl] at h_; exact h_)) ?_
       rintro e_ w789 ⟨rfl, he⟩
       refine ⟨_, rfl, _, rfl, fun act790 f791 => ?_⟩
       clear f778
       have g792 := gr_ext he
       have hS788 := hS775.gr g792
       have szw789 := g792.size
       replace e659 := e659.gr g792 no_row
       replace r662 := r662.gr g792 (fun _ h => by cases h)
       replace r663 := r663.gr g792 (fun _ h => by cases h)
       replace bx664 := bx664.gr g792 (by simp)
       replace r665 := r665.gr g792 (fun _ h => by cases h)
       replace bx666 := bx666.gr g792 (by simp)
       replace r679 := r679.gr g792 (fun _ h => by cases h)
       replace r688 := r688.gr g792 (fun _ h => by cases h)
       clear g792 he
       refine ⟨hS788, ?_⟩
       refine AtH.all [20] 4 (by kernel_rfl) (by simp) ⟨?_, trivial⟩
       refine OneH.call f791 35 #[.agg (((rowS g s k0 : List Int) : List Int).map wV).toArray] (some 102) #[true, true, true, true, true, true, true, true, true, true, true, true, true, true, true, true, true, true, true, true, true, false, false, false, false] (by kernel_rfl) (by kernel_rfl) (least_any (s := (rowS g s k0 : List Int)) (rowS_ok (by assumption) _) (r663.wide (Nat.zero_le _) (by omega))) ?_
       rintro e_ w802 ⟨rfl, he⟩
       have := leastD_b (fromW (rowS g s k0 : List Int))
       refine ⟨_, rfl, _, rfl, fun act803 f804 => ?_⟩
       clear f791
       have g805 := gr_ext he
       have hS801 := hS788.gr g805
       have szw802 := g805.size
       replace e659 := e659.gr g805 no_row
       replace r662 := r662.gr g805 (fun _ h => by cases h)
       replace r663 := r663.gr g805 (fun _ h => by cases h)
       replace bx664 := bx664.gr g805 (by simp)
       replace r665 := r665.gr g805 (fun _ h => by cases h)
       replace bx666 := bx666.gr g805 (by simp)
       replace r679 := r679.gr g805 (fun _ h => by cases h)
       replace r688 := r688.gr g805 (fun _ h => by cases h)
       clear g805 he
       refine ⟨hS801, ?_⟩
       refine AtH.all [21] 3 (by kernel_rfl) (by simp) ⟨?_, trivial⟩
       refine OneH.call f804 33 #[.agg (((rowS g s k0 : List Int) : List Int).map wV).toArray, .int .i64 (leastD (fromW (rowS g s k0 : List Int)))] (some 103) #[true, true, true, true, true, true, true, true, true, true, true, true, true, true, true, true, true, true, true, true, true, true, false, false, false] (by kernel_rfl) (by kernel_rfl) (has_any (s := (rowS g s k0 : List Int)) (n := leastD (fromW (rowS g s k0 : List Int))) (rowS_ok (by assumption) _)) ?_
       rintro e_ w815 ⟨rfl, he⟩
       refine ⟨_, rfl, _, rfl, fun act816 f817 => ?_⟩
       clear f804
       have g818 := gr_ext he
       have hS814 := hS801.gr g818
       have szw815 := g818.size
       replace e659 := e659.gr g818 no_row
       replace r662 := r662.gr g818 (fun _ h => by cases h)
       replace r663 := r663.gr g818 (fun _ h => by cases h)
       replace bx664 := bx664.gr g818 (by simp)
       replace r665 := r665.gr g818 (fun _ h => by cases h)
       replace bx666 := bx666.gr g818 (by simp)
       replace r679 := r679.gr g818 (fun _ h => by cases h)
       replace r688 := r688.gr g818 (fun _ h => by cases h)
       clear g818 he
       refine ⟨hS814, ?_⟩
       refine AtH.rd (by kernel_rfl) (fun d v c a w h => by cases d <;> exact h) hS814 [22] [[]] [(104, .bool (!(hasW (rowS g s k0 : List Int) (leastD (fromW (rowS g s k0 : List Int))))))] #[true, true, true, true, true, true, true, true, true, true, true, true, true, true, true, true, true, true, true, true, true, true, true, false, false] [] 2 f817 (by kernel_rfl) trivial (fun act828 f827 => ?_)
       clear f817
       refine AtH.rd (by kernel_rfl) (fun d v c a w h => by cases d <;> exact h) hS814 [23] [[.as_ (.bool (hasW (inS g s) k0 && !hasW (rowS g s k0) (leastD (fromW (rowS g s k0)))))]] [(105, .bool (hasW (inS g s) k0 && !hasW (rowS g s k0) (leastD (fromW (rowS g s k0)))))] #[true, true, true, true, true, true, true, true, true, true, true, true, true, true, true, true, true, true, true, true, true, true, true, true, false] [((.bool (!(hasW (rowS g s k0 : List Int) (leastD (fromW (rowS g s k0 : List Int))))) : Value) = .bool (hasW (inS g s) k0 && !hasW (rowS g s k0) (leastD (fromW (rowS g s k0)))))] 1 f827 (by kernel_rfl) ⟨(congrArg Value.bool (by first | (rw [show hasW (inS g s) k0 = false from by assumption]; rfl) | (rw [show hasW (inS g s) k0 = true from by assumption]; rfl))), trivial⟩ (fun act830 f829 => ?_)
       clear f827
       refine AtH.rd (by kernel_rfl) (fun d v c a w h => by cases d <;> exact h) hS814 [24] [[]] [(19, .bool (hasW (inS g s) k0 && !hasW (rowS g s k0) (leastD (fromW (rowS g s k0)))))] #[true, true, true, true, true, true, true, true, true, true, true, true, true, true, true, true, true, true, true, true, true, true, true, true, true] [] 0 f829 (by kernel_rfl) trivial (fun act832 f831 => ?_)
       clear f829
       refine AtH.done (by kernel_rfl) ?_
       clear hS814
       refine t_n ?_
       refine wp_seq ?_
       refine At.start ?_
       refine At.rd f831 1 [[]] [(106, .bool (hasW (inS g s) k0 && !hasW (rowS g s k0) (leastD (fromW (rowS g s k0)))))] [] (by kernel_rfl) trivial (fun act834 f833 => ?_)
       clear f831
       refine At.done rfl ?_
       refine t_n ?_
       refine cond_S f833 (t := hasW (inS g s) k0 && !hasW (rowS g s k0) (leastD (fromW (rowS g s k0)))) rfl (fun h835 => ?_) (fun h835 => ?_)
       ·refine wp_seq ?_
        refine At.start ?_
        refine At.rd f833 1 [[]] [(6, .bool true)] [] (by kernel_rfl) trivial (fun act838 f837 => ?_)
        clear f833
        refine At.done rfl ?_
        refine t_n ?_
        clear r679
        clear r688
        have f839 := f837.sub (r := [(6, .bool true)]) ⟨rfl, trivial⟩
        clear f837
        refine wp_ret ?_
        refine b_r ?_
        refine t_r ?_
        refine t_r ?_
        refine b_r ?_
        refine t_r ?_
        refine t_r ?_
        refine ret_ f839 [] [.bool true] [] (by kernel_rfl) trivial ?_
        exact ⟨rfl, e659⟩
       ·refine wp_skip ?_
        refine b_n ?_
        refine t_n ?_
        refine At.start ?_
        refine At.rd f833 3 [[], [.as_ (.int .i64 (k0 + 1))], []] [(18, .int .i64 (k0 + 1)), (81, .int .i64 (k0 + 1)), (80, .int .i64 (k0))] [((.int .i64 (IntKind.i64.wrap (k0 + 1)) : Value) = .int .i64 (k0 + 1))] (by kernel_rfl) ⟨(w64 (by omega) (by omega)), trivial⟩ (fun act842 f841 => ?_)
        clear f833
        refine At.done rfl ?_
        refine t_n ?_
        have f843 := f841.sub (r := [(18, .int .i64 (k0 + 1)), (17, .pointer (some ⟨b_439, 0, none⟩)), (9, .int .i64 (((g.ow.length : Nat) : Int))), (3, .pointer (some ⟨w.heap.size, 0, none⟩))]) ⟨rfl, rfl, rfl, rfl, trivial⟩
        exact ⟨_, (by omega), (k0 + 1), rfl, f843, e659, r662, r663, bx664, r665, bx666, (by omega), (by omega), (noSt_next2 hst (by omega) (by omega) (by assumption))⟩
      ·refine AtH.rd (by kernel_rfl) (fun d v c a w h => by cases d <;> exact h) hS708 [3] [[.as_ (.bool false)]] [(85, .bool false)] #[true, true, true, true, false, false, false, false, false, false, false, false, false, false, false, false, false, false, false, false, false, false, false, false, false] [((.bool (hasW (inS g s : List Int) k0) : Value) = .bool false)] 21 f711 (by kernel_rfl) ⟨(congrArg Value.bool h721), trivial⟩ (fun act846 f845 => ?_)
       clear f711
       refine AtH.rd (by kernel_rfl) (fun d v c a w h => by cases d <;> exact h) hS708 [4] [[]] [(86, undef)] #[true, true, true, true, true, false, false, false, false, false, false, false, false, false, false, false, false, false, false, false, false, false, false, false, false] [] 20 f845 (by kernel_rfl) trivial (fun act848 f847 => ?_)
       clear f845
       refine AtH.rd (by kernel_rfl) (fun d v c a w h => by cases d <;> exact h) hS708 [5] [[]] [(87, undef)] #[true, true, true, true, true, true, false, false, false, false, false, false, false, false, false, false, false, false, false, false, false, false, false, false, false] [] 19 f847 (by kernel_rfl) trivial (fun act850 f849 => ?_)
       clear f847
       refine AtH.rd (by kernel_rfl) (fun d v c a w h => by cases d <;> exact h) hS708 [6] [[]] [(88, undef)] #[true, true, true, true, true, true, true, false, false, false, false, false, false, false, false, false, false, false, false, false, false, false, false, false, false] [] 18 f849 (by kernel_rfl) trivial (fun act852 f851 => ?_)
       clear f849
       refine AtH.rd (by kernel_rfl) (fun d v c a w h => by cases d <;> exact h) hS708 [7] [[]] [(89, undef)] #[true, true, true, true, true, true, true, true, false, false, false, false, false, false, false, false, false, false, false, false, false, false, false, false, false] [] 17 f851 (by kernel_rfl) trivial (fun act854 f853 => ?_)
       clear f851
       refine AtH.rd (by kernel_rfl) (fun d v c a w h => by cases d <;> exact h) hS708 [8] [[]] [(90, undef)] #[true, true, true, true, true, true, true, true, true, false, false, false, false, false, false, false, false, false, false, false, false, false, false, false, false] [] 16 f853 (by kernel_rfl) trivial (fun act856 f855 => ?_)
       clear f853
       refine AtH.rd (by kernel_rfl) (fun d v c a w h => by cases d <;> exact h) hS708 [9] [[]] [(91, undef)] #[true, true, true, true, true, true, true, true, true, true, false, false, false, false, false, false, false, false, false, false, false, false, false, false, false] [] 15 f855 (by kernel_rfl) trivial (fun act858 f857 => ?_)
       clear f855
       refine AtH.rd (by kernel_rfl) (fun d v c a w h => by cases d <;> exact h) hS708 [10] [[]] [(92, undef)] #[true, true, true, true, true, true, true, true, true, true, true, false, false, false, false, false, false, false, false, false, false, false, false, false, false] [] 14 f857 (by kernel_rfl) trivial (fun act860 f859 => ?_)
       clear f857
       refine AtH.rd (by kernel_rfl) (fun d v c a w h => by cases d <;> exact h) hS708 [11] [[]] [(93, undef)] #[true, true, true, true, true, true, true, true, true, true, true, true, false, false, false, false, false, false, false, false, false, false, false, false, false] [] 13 f859 (by kernel_rfl) trivial (fun act862 f861 => ?_)
       clear f859
       refine AtH.rd (by kernel_rfl) (fun d v c a w h => by cases d <;> exact h) hS708 [12] [[]] [(94, undef)] #[true, true, true, true, true, true, true, true, true, true, true, true, true, false, false, false, false, false, false, false, false, false, false, false, false] [] 12 f861 (by kernel_rfl) trivial (fun act864 f863 => ?_)
       clear f861
       refine AtH.rd (by kernel_rfl) (fun d v c a w h => by cases d <;> exact h) hS708 [13] [[]] [(95, undef)] #[true, true, true, true, true, true, true, true, true, true, true, true, true, true, false, false, false, false, false, false, false, false, false, false, false] [] 11 f863 (by kernel_rfl) trivial (fun act866 f865 => ?_)
       clear f863
       refine AtH.rd (by kernel_rfl) (fun d v c a w h => by cases d <;> exact h) hS708 [14] [[]] [(96, undef)] #[true, true, true, true, true, true, true, true, true, true, true, true, true, true, true, false, false, false, false, false, false, false, false, false, false] [] 10 f865 (by kernel_rfl) trivial (fun act868 f867 => ?_)
       clear f865
       refine AtH.rd (by kernel_rfl) (fun d v c a w h => by cases d <;> exact h) hS708 [15] [[]] [(97, undef)] #[true, true, true, true, true, true, true, true, true, true, true, true, true, true, true, true, false, false, false, false, false, false, false, false, false] [] 9 f867 (by kernel_rfl) trivial (fun act870 f869 => ?_)
       clear f867
       refine AtH.rd (by kernel_rfl) (fun d v c a w h => by cases d <;> exact h) hS708 [16] [[]] [(98, undef)] #[true, true, true, true, true, true, true, true, true, true, true, true, true, true, true, true, true, false, false, false, false, false, false, false, false] [] 8 f869 (by kernel_rfl) trivial (fun act872 f871 => ?_)
       clear f869
       refine AtH.rd (by kernel_rfl) (fun d v c a w h => by cases d <;> exact h) hS708 [17] [[]] [(99, undef)] #[true, true, true, true, true, true, true, true, true, true, true, true, true, true, true, true, true, true, false, false, false, false, false, false, false] [] 7 f871 (by kernel_rfl) trivial (fun act874 f873 => ?_)
       clear f871
       refine AtH.rd (by kernel_rfl) (fun d v c a w h => by cases d <;> exact h) hS708 [18] [[]] [(100, undef)] #[true, true, true, true, true, true, true, true, true, true, true, true, true, true, true, true, true, true, true, false, false, false, false, false, false] [] 6 f873 (by kernel_rfl) trivial (fun act876 f875 => ?_)
       clear f873
       refine AtH.rd (by kernel_rfl) (fun d v c a w h => by cases d <;> exact h) hS708 [19] [[]] [(101, undef)] #[true, true, true, true, true, true, true, true, true, true, true, true, true, true, true, true, true, true, true, true, false, false, false, false, false] [] 5 f875 (by kernel_rfl) trivial (fun act878 f877 => ?_)
       clear f875
       refine AtH.rd (by kernel_rfl) (fun d v c a w h => by cases d <;> exact h) hS708 [20] [[]] [(102, undef)] #[true, true, true, true, true, true, true, true, true, true, true, true, true, true, true, true, true, true, true, true, true, false, false, false, false] [] 4 f877 (by kernel_rfl) trivial (fun act880 f879 => ?_)
       clear f877
       refine AtH.rd (by kernel_rfl) (fun d v c a w h => by cases d <;> exact h) hS708 [21] [[]] [(103, undef)] #[true, true, true, true, true, true, true, true, true, true, true, true, true, true, true, true, true, true, true, true, true, true, false, false, false] [] 3 f879 (by kernel_rfl) trivial (fun act882 f881 => ?_)
       clear f879
       refine AtH.rd (by kernel_rfl) (fun d v c a w h => by cases d <;> exact h) hS708 [22] [[]] [(104, undef)] #[true, true, true, true, true, true, true, true, true, true, true, true, true, true, true, true, true, true, true, true, true, true, true, false, false] [] 2 f881 (by kernel_rfl) trivial (fun act884 f883 => ?_)
       clear f881
       refine AtH.rd (by kernel_rfl) (fun d v c a w h => by cases d <;> exact h) hS708 [23] [[.as_ (.bool (hasW (inS g s) k0 && !hasW (rowS g s k0) (leastD (fromW (rowS g s k0)))))]] [(105, .bool (hasW (inS g s) k0 && !hasW (rowS g s k0) (leastD (fromW (rowS g s k0)))))] #[true, true, true, true, true, true, true, true, true, true, true, true, true, true, true, true, true, true, true, true, true, true, true, true, false] [((.bool false : Value) = .bool (hasW (inS g s) k0 && !hasW (rowS g s k0) (leastD (fromW (rowS g s k0)))))] 1 f883 (by kernel_rfl) ⟨(congrArg Value.bool (by first | (rw [show hasW (inS g s) k0 = false from by assumption]; rfl) | (rw [show hasW (inS g s) k0 = true from by assumption]; rfl))), trivial⟩ (fun act886 f885 => ?_)
       clear f883
       refine AtH.rd (by kernel_rfl) (fun d v c a w h => by cases d <;> exact h) hS708 [24] [[]] [(19, .bool (hasW (inS g s) k0 && !hasW (rowS g s k0) (leastD (fromW (rowS g s k0)))))] #[true, true, true, true, true, true, true, true, true, true, true, true, true, true, true, true, true, true, true, true, true, true, true, true, true] [] 0 f885 (by kernel_rfl) trivial (fun act888 f887 => ?_)
       clear f885
       refine AtH.done (by kernel_rfl) ?_
       clear hS708
       refine t_n ?_
       clear r679
       clear r688
       have f889 := f887.sub (r := [(19, .bool (hasW (inS g s) k0 && !hasW (rowS g s k0) (leastD (fromW (rowS g s k0))))), (18, .int .i64 (k0)), (17, .pointer (some ⟨b_439, 0, none⟩)), (9, .int .i64 (((g.ow.length : Nat) : Int))), (3, .pointer (some ⟨w.heap.size, 0, none⟩))]) ⟨rfl, rfl, rfl, rfl, rfl, trivial⟩
       clear f887
       refine wp_seq ?_
       refine At.start ?_
       refine At.rd f889 1 [[]] [(106, .bool (hasW (inS g s) k0 && !hasW (rowS g s k0) (leastD (fromW (rowS g s k0)))))] [] (by kernel_rfl) trivial (fun act891 f890 => ?_)
       clear f889
       refine At.done rfl ?_
       refine t_n ?_
       refine cond_S f890 (t := hasW (inS g s) k0 && !hasW (rowS g s k0) (leastD (fromW (rowS g s k0)))) rfl (fun h892 => ?_) (fun h892 => ?_)
       ·refine wp_seq ?_
        refine At.start ?_
        refine At.rd f890 1 [[]] [(6, .bool true)] [] (by kernel_rfl) trivial (fun act895 f894 => ?_)
        clear f890
        refine At.done rfl ?_
        refine t_n ?_
        refine wp_ret ?_
        refine b_r ?_
        refine t_r ?_
        refine t_r ?_
        refine b_r ?_
        refine t_r ?_
        refine t_r ?_
        refine ret_ f894 [] [.bool true] [] (by kernel_rfl) trivial ?_
        exact ⟨rfl, e659⟩
       ·refine wp_skip ?_
        refine b_n ?_
        refine t_n ?_
        refine At.start ?_
        refine At.rd f890 3 [[], [.as_ (.int .i64 (k0 + 1))], []] [(18, .int .i64 (k0 + 1)), (81, .int .i64 (k0 + 1)), (80, .int .i64 (k0))] [((.int .i64 (IntKind.i64.wrap (k0 + 1)) : Value) = .int .i64 (k0 + 1))] (by kernel_rfl) ⟨(w64 (by omega) (by omega)), trivial⟩ (fun act898 f897 => ?_)
        clear f890
        refine At.done rfl ?_
        refine t_n ?_
        have f899 := f897.sub (r := [(18, .int .i64 (k0 + 1)), (17, .pointer (some ⟨b_439, 0, none⟩)), (9, .int .i64 (((g.ow.length : Nat) : Int))), (3, .pointer (some ⟨w.heap.size, 0, none⟩))]) ⟨rfl, rfl, rfl, rfl, trivial⟩
        exact ⟨_, (by omega), (k0 + 1), rfl, f899, e659, r662, r663, bx664, r665, bx666, (by omega), (by omega), (noSt_next2 hst (by omega) (by omega) (by assumption))⟩
     ·have q900 := of_decide_eq_false h671
      refine wp_exit ?_
      refine t_e ?_
      refine t_e ?_
      refine b_e ?_
      refine t_n ?_
      clear bx664
      refine wp_seq ?_
      refine At.start ?_
      refine At.rd f669 4 [[.cs (((inS g s : List Int) : List Int).map wV)], [], [.cs [wV (gI (inS g s : List Int) 0), wV (gI (inS g s : List Int) 1), wV (gI (inS g s : List Int) 2), wV (gI (inS g s : List Int) 3)], .cs [wV (gI ([0, 0, 0, 0]) 0), wV (gI ([0, 0, 0, 0]) 1), wV (gI ([0, 0, 0, 0]) 2), wV (gI ([0, 0, 0, 0]) 3)], .as_ (.bool true)], []] [(6, .bool true), (109, .bool true), (108, .agg (([0, 0, 0, 0] : List Int).map wV).toArray), (107, .agg (((inS g s : List Int) : List Int).map wV).toArray)] [((((inS g s : List Int) : List Int).map wV).length = 4), (∀ (j : Nat) (v : Value), (((inS g s : List Int) : List Int).map wV)[j]? = some v → w658.cell? ((⟨b_439, 0, none⟩ : Addr).add j) = some v), ((((inS g s : List Int) : List Int).map wV).toArray = ([wV (gI (inS g s : List Int) 0), wV (gI (inS g s : List Int) 1), wV (gI (inS g s : List Int) 2), wV (gI (inS g s : List Int) 3)] : List Value).toArray), ((([0, 0, 0, 0] : List Int).map wV).toArray = ([wV (gI ([0, 0, 0, 0]) 0), wV (gI ([0, 0, 0, 0]) 1), wV (gI ([0, 0, 0, 0]) 2), wV (gI ([0, 0, 0, 0]) 3)] : List Value).toArray), ((.bool ((((gI (inS g s : List Int) 0 : Int) == gI ([0, 0, 0, 0]) 0) && (((gI (inS g s : List Int) 1 : Int) == gI ([0, 0, 0, 0]) 1) && (((gI (inS g s : List Int) 2 : Int) == gI ([0, 0, 0, 0]) 2) && (((gI (inS g s : List Int) 3 : Int) == gI ([0, 0, 0, 0]) 3) && true))))) : Value) = .bool true)] (by kernel_rfl) ⟨((List.length_map _).trans (okLen (inS_ok (by assumption)))), bx666.whole, (map4 (okLen (inS_ok (by assumption)))), (map4 (okLen okW_00)), (Eq.trans (b := (.bool (decide (((inS g s : List Int) : List Int) = ([0, 0, 0, 0]))) : Value)) (congrArg (fun b => Value.bool b) (w4_eq (okLen (inS_ok (by assumption))) (okLen okW_00))) (congrArg Value.bool (decide_eq_true (parts_none hR hs hst (by omega) (by assumption))))), trivial⟩ (fun act902 f901 => ?_)
      clear f669
      refine At.done rfl ?_
      refine t_n ?_
      clear bx666
      refine wp_ret ?_
      refine t_r ?_
      refine ret_ f901 [] [.bool true] [] (by kernel_rfl) trivial ?_
      exact ⟨rfl, e659⟩
    ·have q903 : (subB g (inT g s)) = true := by first | exact Eq.mp (Bool.not_eq_true' _) h651 | exact Eq.mp (Bool.not_eq_false' _) h651 | simpa using h651
     refine wp_skip ?_
     refine t_n ?_
     refine wp_seq ?_
     have hPB : subB g (inT g s) = true := by assumption
     have hP := part_t hPB
     have hP1 := hP.lo
     have hP2 := hP.lp
     have hP3 := hP.lm
     have hP4 := ls_le (g := g) (s := s)
     rw [← hP.eo] at hP4
     refine At.start ?_
     refine At.rd f649 1 [[.ld (.slice A378 ((subG g (inT g s)).ow.length) c379), .ld (.slice A380 ((subG g (inT g s)).pr.length) c381), .ld (.slice A382 ((subG g (inT g s)).mv.length) c383)]] [(111, .agg #[.slice A378 ((subG g (inT g s)).ow.length) c379, .slice A380 ((subG g (inT g s)).pr.length) c381, .slice A382 ((subG g (inT g s)).mv.length) c383])] [(w634.cell? ⟨w397.heap.size, 0, none⟩ = some (.slice A378 ((subG g (inT g s)).ow.length) c379)), (w634.cell? ⟨w397.heap.size, 1, none⟩ = some (.slice A380 ((subG g (inT g s)).pr.length) c381)), (w634.cell? ⟨w397.heap.size, 2, none⟩ = some (.slice A382 ((subG g (inT g s)).mv.length) c383))] (by kernel_rfl) ⟨(bx644.cell (i := 0) rfl), (bx644.cell (i := 1) rfl), (bx644.cell (i := 2) rfl), trivial⟩ (fun act906 f905 => ?_)
     clear f649
     refine At.call f905 14 #[.agg #[.slice A378 ((subG g (inT g s)).ow.length) c379, .slice A380 ((subG g (inT g s)).pr.length) c381, .slice A382 ((subG g (inT g s)).mv.length) c383]] (some 112) (by kernel_rfl) (right_any (r643.wide (Nat.zero_le _) (by omega))) ?_
     rintro e_ w907 ⟨rfl, he⟩
     refine ⟨_, rfl, _, rfl, fun act908 f909 => ?_⟩
     clear f905
     have g910 := gr_ext he
     have szw907 := g910.size
     replace e636 := e636.gr g910 no_row
     replace r637 := r637.gr g910 (fun _ h => by cases h)
     replace r638 := r638.gr g910 (fun _ h => by cases h)
     replace bx639 := bx639.gr g910 (by simp)
     replace bx641 := bx641.gr g910 (by simp)
     replace ow642 := ow642.gr g910 (fun _ _ h => by cases h)
     replace r643 := r643.gr g910 (fun _ h => by cases h)
     replace bx644 := bx644.gr g910 (by simp)
     replace bx645 := bx645.gr g910 (by simp)
     clear g910 he
     refine At.rd f909 5 [[], [], [], [], []] [(21, .int .i64 ((rightP (subG g (inT g s))).2)), (20, .int .i64 ((rightP (subG g (inT g s))).1)), (114, .int .i64 ((rightP (subG g (inT g s))).2)), (113, .int .i64 ((rightP (subG g (inT g s))).1)), (110, .tuple #[.int .i64 ((rightP (subG g (inT g s))).1), .int .i64 ((rightP (subG g (inT g s))).2)])] [] (by kernel_rfl) trivial (fun act921 f920 => ?_)
     clear f909
     refine At.done rfl ?_
     refine t_n ?_
     refine wp_seq ?_
     refine wp_seq ?_
     obtain ⟨Cs922, hCs923⟩ : ∃ c : List (Addr × Value), c = ([(⟨w397.heap.size, 0, none⟩, (.slice A378 ((subG g (inT g s)).ow.length) c379))] : List (Addr × Value)) ++ blkC (b_439) (((inS g s : List Int) : List Int).map wV) := ⟨_, rfl⟩
     have hS924 : HoldsC Cs922 w907 := by rw [hCs923]; exact (holdsA (show HoldsC [(⟨w397.heap.size, 0, none⟩, (.slice A378 ((subG g (inT g s)).ow.length) c379))] w907 from ⟨(bx644.cell (i := 0) rfl), trivial⟩) (holds_blk bx645))
     refine AtH.start Cs922 16 #[false, false, false, false, false, false, false, false, false, false, false, false, false, false, false, false] (by kernel_rfl) rfl rfl (fun w926 hw927 => ?_)
     have g925 := gr_drew hw927
     have hS928 := hS924.gr g925
     have szw926 := g925.size
     replace e636 := e636.gr g925 no_row
     replace r637 := r637.gr g925 (fun _ h => by cases h)
     replace r638 := r638.gr g925 (fun _ h => by cases h)
     replace bx639 := bx639.gr g925 (by simp)
     replace bx641 := bx641.gr g925 (by simp)
     replace ow642 := ow642.gr g925 (fun _ _ h => by cases h)
     replace r643 := r643.gr g925 (fun _ h => by cases h)
     replace bx644 := bx644.gr g925 (by simp)
     replace bx645 := bx645.gr g925 (by simp)
     clear g925 hw927 hS924
     refine AtH.rd (by kernel_rfl) (fun d v c a w h => by cases d <;> exact h) hS928 [0, 1, 2, 3, 5] [[], [.as_ (.bool false)], [], [], [.cs (((inS g s : List Int) : List Int).map wV)]] [(120, .agg (((inS g s : List Int) : List Int).map wV).toArray), (118, .slice A384 ((subO g (inT g s)).length) c385), (117, .bool false), (116, .bool false), (115, .int .i64 ((rightP (subG g (inT g s))).2))] #[true, true, true, true, false, true, false, false, false, false, false, false, false, false, false, false] [((.bool (((rightP (subG g (inT g s))).2 : Int) != 0) : Value) = .bool false), ((((inS g s : List Int) : List Int).map wV).length = 4), (∀ (j : Nat) (v : Value), (((inS g s : List Int) : List Int).map wV)[j]? = some v → ∃ j_ : Nat, Cs922[j_]? = some (((⟨b_439, 0, none⟩ : Addr).add j), v))] 11 f920 (by kernel_rfl) ⟨(congrArg Value.bool (bneF (by rw [rightP_ok hP.r]))), ((List.length_map _).trans (okLen (inS_ok (by assumption)))), (fun j v hv => List.getElem?_of_mem (by rw [hCs923]; exact List.mem_append.2 (.inr (blkC_in hv)))), trivial⟩ (fun act939 f938 => ?_)
     clear f920
     refine AtH.all [4] 10 (by kernel_rfl) (by simp) ⟨?_, trivial⟩
     refine OneH.call f938 34 #[.slice A384 ((subO g (inT g s)).length) c385] (some 119) #[true, true, true, true, true, true, false, false, false, false, false, false, false, false, false, false] (by kernel_rfl) (by kernel_rfl) (of_any (la := (subO g (inT g s))) (ow642.rdI0 (by first | omega | (simp only [List.length_cons, List.length_nil]; omega) | (simp; done) | (simp; omega)))) ?_
     rintro e_ w941 ⟨rfl, he⟩
     refine ⟨_, rfl, _, rfl, fun act942 f943 => ?_⟩
     clear f938
     have g944 := gr_ext he
     have hS940 := hS928.gr g944
     have szw941 := g944.size
     replace e636 := e636.gr g944 no_row
     replace r637 := r637.gr g944 (fun _ h => by cases h)
     replace r638 := r638.gr g944 (fun _ h => by cases h)
     replace bx639 := bx639.gr g944 (by simp)
     replace bx641 := bx641.gr g944 (by simp)
     replace ow642 := ow642.gr g944 (fun _ _ h => by cases h)
     replace r643 := r643.gr g944 (fun _ h => by cases h)
     replace bx644 := bx644.gr g944 (by simp)
     replace bx645 := bx645.gr g944 (by simp)
     clear g944 he
     refine ⟨hS940, ?_⟩
     refine AtH.rd (by kernel_rfl) (fun d v c a w h => by cases d <;> exact h) hS940 [6] [[.cs [wV (gI (ofW (subO g (inT g s))) 0), wV (gI (ofW (subO g (inT g s))) 1), wV (gI (ofW (subO g (inT g s))) 2), wV (gI (ofW (subO g (inT g s))) 3)], .cs [wV (gI (inS g s : List Int) 0), wV (gI (inS g s : List Int) 1), wV (gI (inS g s : List Int) 2), wV (gI (inS g s : List Int) 3)], .as_ (.bool false)]] [(121, .bool false)] #[true, true, true, true, true, true, true, false, false, false, false, false, false, false, false, false] [(((ofW (subO g (inT g s)) : List Int).map wV).toArray = ([wV (gI (ofW (subO g (inT g s))) 0), wV (gI (ofW (subO g (inT g s))) 1), wV (gI (ofW (subO g (inT g s))) 2), wV (gI (ofW (subO g (inT g s))) 3)] : List Value).toArray), ((((inS g s : List Int) : List Int).map wV).toArray = ([wV (gI (inS g s : List Int) 0), wV (gI (inS g s : List Int) 1), wV (gI (inS g s : List Int) 2), wV (gI (inS g s : List Int) 3)] : List Value).toArray), ((.bool (!(((gI (ofW (subO g (inT g s))) 0 : Int) == gI (inS g s : List Int) 0) && (((gI (ofW (subO g (inT g s))) 1 : Int) == gI (inS g s : List Int) 1) && (((gI (ofW (subO g (inT g s))) 2 : Int) == gI (inS g s : List Int) 2) && (((gI (ofW (subO g (inT g s))) 3 : Int) == gI (inS g s : List Int) 3) && true))))) : Value) = .bool false)] 9 f943 (by kernel_rfl) ⟨(map4 (okLen (ofW_ok _))), (map4 (okLen (inS_ok (by assumption)))), (Eq.trans (b := (.bool (!(decide ((ofW (subO g (inT g s)) : List Int) = (inS g s : List Int)))) : Value)) (congrArg (fun b => Value.bool (!b)) (w4_eq (okLen (ofW_ok _)) (okLen (inS_ok (by assumption))))) (congrArg Value.bool (nb00 (part_of hPB hs)))), trivial⟩ (fun act955 f954 => ?_)
     clear f943
     refine AtH.rd (by kernel_rfl) (fun d v c a w h => by cases d <;> exact h) hS940 [7] [[]] [(122, .bool false)] #[true, true, true, true, true, true, true, true, false, false, false, false, false, false, false, false] [] 8 f954 (by kernel_rfl) trivial (fun act957 f956 => ?_)
     clear f954
     refine AtH.rd (by kernel_rfl) (fun d v c a w h => by cases d <;> exact h) hS940 [8] [[]] [(123, .bool false)] #[true, true, true, true, true, true, true, true, true, false, false, false, false, false, false, false] [] 7 f956 (by kernel_rfl) trivial (fun act959 f958 => ?_)
     clear f956
     refine AtH.rd (by kernel_rfl) (fun d v c a w h => by cases d <;> exact h) hS940 [9] [[]] [(124, .pointer (some ⟨w397.heap.size, 0, none⟩))] #[true, true, true, true, true, true, true, true, true, true, false, false, false, false, false, false] [] 6 f958 (by kernel_rfl) trivial (fun act961 f960 => ?_)
     clear f958
     refine AtH.rd (by kernel_rfl) (fun d v c a w h => by cases d <;> exact h) hS940 [10] [[.ld (.slice A378 ((subG g (inT g s)).ow.length) c379)]] [(125, .slice A378 ((subG g (inT g s)).ow.length) c379)] #[true, true, true, true, true, true, true, true, true, true, true, false, false, false, false, false] [(∃ j_ : Nat, Cs922[j_]? = some (⟨w397.heap.size, 0, none⟩, (.slice A378 ((subG g (inT g s)).ow.length) c379)))] 5 f960 (by kernel_rfl) ⟨⟨0, by rw [hCs923]; rfl⟩, trivial⟩ (fun act963 f962 => ?_)
     clear f960
     refine AtH.rd (by kernel_rfl) (fun d v c a w h => by cases d <;> exact h) hS940 [11] [[]] [(126, .int .i64 ((((subG g (inT g s)).ow.length : Nat) : Int)))] #[true, true, true, true, true, true, true, true, true, true, true, true, false, false, false, false] [] 4 f962 (by kernel_rfl) trivial (fun act965 f964 => ?_)
     clear f962
     refine AtH.rd (by kernel_rfl) (fun d v c a w h => by cases d <;> exact h) hS940 [12] [[]] [(127, .slice A384 ((subO g (inT g s)).length) c385)] #[true, true, true, true, true, true, true, true, true, true, true, true, true, false, false, false] [] 3 f964 (by kernel_rfl) trivial (fun act967 f966 => ?_)
     clear f964
     refine AtH.rd (by kernel_rfl) (fun d v c a w h => by cases d <;> exact h) hS940 [13] [[]] [(128, .int .i64 ((((subO g (inT g s)).length : Nat) : Int)))] #[true, true, true, true, true, true, true, true, true, true, true, true, true, true, false, false] [] 2 f966 (by kernel_rfl) trivial (fun act969 f968 => ?_)
     clear f966
     refine AtH.rd (by kernel_rfl) (fun d v c a w h => by cases d <;> exact h) hS940 [14] [[.as_ (.bool false)]] [(129, .bool false)] #[true, true, true, true, true, true, true, true, true, true, true, true, true, true, true, false] [((.bool (((((subG g (inT g s)).ow.length : Nat) : Int) : Int) != (((subO g (inT g s)).length : Nat) : Int)) : Value) = .bool false)] 1 f968 (by kernel_rfl) ⟨(congrArg Value.bool (bneF (by omega))), trivial⟩ (fun act971 f970 => ?_)
     clear f968
     refine AtH.rd (by kernel_rfl) (fun d v c a w h => by cases d <;> exact h) hS940 [15] [[]] [(130, .bool false)] #[true, true, true, true, true, true, true, true, true, true, true, true, true, true, true, true] [] 0 f970 (by kernel_rfl) trivial (fun act973 f972 => ?_)
     clear f970
     refine AtH.done (by kernel_rfl) ?_
     clear hS940
     refine t_n ?_
     have f974 := f972.sub (r := [(130, .bool false), (17, .pointer (some ⟨b_439, 0, none⟩)), (15, .slice A384 ((subO g (inT g s)).length) c385), (14, .pointer (some ⟨w397.heap.size, 0, none⟩)), (6, .bool false), (5, .pointer (some ⟨w11.heap.size, 0, none⟩)), (3, .pointer (some ⟨w.heap.size, 0, none⟩))]) ⟨rfl, rfl, rfl, rfl, rfl, rfl, rfl, trivial⟩
     clear f972
     refine cond_F f974 rfl ?_
     refine wp_skip ?_
     refine t_n ?_
     refine wp_seq ?_
     refine wp_seq ?_
     refine At.start ?_
     refine At.rd f974 1 [[]] [(22, .int .i64 (0))] [] (by kernel_rfl) trivial (fun act976 f975 => ?_)
     clear f974
     refine At.done rfl ?_
     refine t_n ?_
     refine wp_block ?_
     have f977 := f975.sub (r := [(22, .int .i64 (0)), (17, .pointer (some ⟨b_439, 0, none⟩)), (15, .slice A384 ((subO g (inT g s)).length) c385), (14, .pointer (some ⟨w397.heap.size, 0, none⟩)), (5, .pointer (some ⟨w11.heap.size, 0, none⟩)), (3, .pointer (some ⟨w.heap.size, 0, none⟩))]) ⟨rfl, rfl, rfl, rfl, rfl, rfl, trivial⟩
     refine loop_g (fun (m_ : Nat) a_ w_ => ∃ (i : Int), m_ = (((subO g (inT g s)).length : Int) - i).toNat ∧ (Frm 279 a_ [(22, .int .i64 (i)), (17, .pointer (some ⟨b_439, 0, none⟩)), (15, .slice A384 ((subO g (inT g s)).length) c385), (14, .pointer (some ⟨w397.heap.size, 0, none⟩)), (5, .pointer (some ⟨w11.heap.size, 0, none⟩)), (3, .pointer (some ⟨w.heap.size, 0, none⟩))]) ∧ (Ext w w_) ∧ (RdG w_ 0 w.heap.size Ag0 Ag1 Ag2 cg0 cg1 cg2 g) ∧ (RdT w_ 0 w.heap.size) ∧ (Bx w_ (w.heap.size) [.slice Ag0 g.ow.length cg0, .slice Ag1 g.pr.length cg1, .slice Ag2 g.mv.length cg2] 25) ∧ (Bx w_ (w11.heap.size) ((u : List Int).map wV) 35) ∧ (OwnR w_ (Sx (w358.heap.size) [some (w397.heap.size), some (b_439)]) A384 c385 3 ((subO g (inT g s)) : List Int)) ∧ (RdG w_ (w358.heap.size) w397.heap.size A378 A380 A382 c379 c381 c383 (subG g (inT g s))) ∧ (Bx w_ (w397.heap.size) [.slice A378 ((subG g (inT g s)).ow.length) c379, .slice A380 ((subG g (inT g s)).pr.length) c381, .slice A382 ((subG g (inT g s)).mv.length) c383] 25) ∧ (Bx w_ (b_439) (((inS g s : List Int) : List Int).map wV) 47) ∧ (0 ≤ i) ∧ (i ≤ ((subO g (inT g s)).length : Int)) ∧ (w358.heap.size ≤ w_.heap.size)) _ ⟨0, rfl, f977, e636, r637, r638, bx639, bx641, ow642, r643, bx644, bx645, (by omega), (by omega), (by omega)⟩ ?_
     clear f977 f975
     clear r637
     clear r638
     clear bx639
     clear bx641
     clear ow642
     clear r643
     clear bx644
     clear bx645
     clear e636
     intro m_ act978 w979 ⟨i, hm981, f982, e980, r983, r984, bx985, bx986, ow987, r988, bx989, bx990, i991, i992, i993⟩
     have szw979 := e980.size
     have := bx985.lt
     have := bx986.lt
     have := bx989.lt
     have := bx990.lt
     refine wp_seq ?_
     refine wp_seq ?_
     refine At.start ?_
     refine At.rd f982 4 [[], [], [], []] [(134, .bool (decide ((i : Int) < (((subO g (inT g s)).length : Nat) : Int)))), (133, .int .i64 ((((subO g (inT g s)).length : Nat) : Int))), (132, .slice A384 ((subO g (inT g s)).length) c385), (131, .int .i64 (i))] [] (by kernel_rfl) trivial (fun act995 f994 => ?_)
     clear f982
     refine At.done rfl ?_
     refine t_n ?_
     refine cond_S f994 (t := decide ((i : Int) < (((subO g (inT g s)).length : Nat) : Int))) rfl (fun h996 => ?_) (fun h996 => ?_)
     ·have q997 := of_decide_eq_true h996
      refine wp_skip ?_
      refine t_n ?_
      refine wp_seq ?_
      refine wp_block ?_
      refine wp_seq ?_
      refine At.start ?_
      refine At.rd f994 1 [[]] [(23, .slice none 0 0)] [] (by kernel_rfl) trivial (fun act999 f998 => ?_)
      clear f994
      refine At.done rfl ?_
      refine t_n ?_
      refine wp_seq ?_
      refine wp_seq ?_
      refine At.start ?_
      refine At.rd f998 1 [[]] [(24, .int .i64 (0))] [] (by kernel_rfl) trivial (fun act1001 f1000 => ?_)
      clear f998
      refine At.done rfl ?_
      refine t_n ?_
      refine wp_block ?_
      have ow1003 : OwnR w979 (Sx (w979.heap.size) [obk (A384)]) none 0 3 ([] : List Int) := OwnR.nil
      replace ow987 : OwnR w979 (Sx (w358.heap.size) [obk none, some (w397.heap.size), some (b_439)]) A384 c385 3 ((subO g (inT g s)) : List Int) := ow987.imp (fun g _ hs => ⟨by simp [obk], hs⟩)
      have f1008 := f1000.as 23 (.slice none 0 0) (.slice none (([] : List Int).length) 0) rfl (slice_len (by first | rfl | omega | (simp; done) | (simp; omega)))
      clear f1000
      have f1007 := f1008.sub (r := [(23, .slice none (([] : List Int).length) 0), (24, .int .i64 (0)), (22, .int .i64 (i)), (17, .pointer (some ⟨b_439, 0, none⟩)), (15, .slice A384 ((subO g (inT g s)).length) c385), (14, .pointer (some ⟨w397.heap.size, 0, none⟩)), (5, .pointer (some ⟨w11.heap.size, 0, none⟩)), (3, .pointer (some ⟨w.heap.size, 0, none⟩))]) ⟨rfl, rfl, rfl, rfl, rfl, rfl, rfl, rfl, trivial⟩
      refine loop_g (fun (m_ : Nat) a_ w_ => ∃ (q : Int) (bk : List Int) (A_1005 : Option Addr) (c_1006 : Nat), m_ = (((gL (subG g (inT g s)).mv i).length : Int) - q).toNat ∧ (Frm 279 a_ [(23, .slice A_1005 bk.length c_1006), (24, .int .i64 (q)), (22, .int .i64 (i)), (17, .pointer (some ⟨b_439, 0, none⟩)), (15, .slice A384 ((subO g (inT g s)).length) c385), (14, .pointer (some ⟨w397.heap.size, 0, none⟩)), (5, .pointer (some ⟨w11.heap.size, 0, none⟩)), (3, .pointer (some ⟨w.heap.size, 0, none⟩))]) ∧ (Ext w w_) ∧ (RdG w_ 0 w.heap.size Ag0 Ag1 Ag2 cg0 cg1 cg2 g) ∧ (RdT w_ 0 w.heap.size) ∧ (Bx w_ (w.heap.size) [.slice Ag0 g.ow.length cg0, .slice Ag1 g.pr.length cg1, .slice Ag2 g.mv.length cg2] 25) ∧ (Bx w_ (w11.heap.size) ((u : List Int).map wV) 35) ∧ (OwnR w_ (Sx (w358.heap.size) [obk (A_1005), some (w397.heap.size), some (b_439)]) A384 c385 3 ((subO g (inT g s)) : List Int)) ∧ (RdG w_ (w358.heap.size) w397.heap.size A378 A380 A382 c379 c381 c383 (subG g (inT g s))) ∧ (Bx w_ (w397.heap.size) [.slice A378 ((subG g (inT g s)).ow.length) c379, .slice A380 ((subG g (inT g s)).pr.length) c381, .slice A382 ((subG g (inT g s)).mv.length) c383] 25) ∧ (Bx w_ (b_439) (((inS g s : List Int) : List Int).map wV) 47) ∧ (OwnR w_ (Sx (w979.heap.size) [obk (A384)]) A_1005 c_1006 3 (bk : List Int)) ∧ (0 ≤ q) ∧ (q ≤ ((gL (subG g (inT g s)).mv i).length : Int)) ∧ (bk = ((gL (subG g (inT g s)).mv i).take q.toNat).map (gI (subO g (inT g s)))) ∧ (w358.heap.size ≤ w_.heap.size) ∧ (w979.heap.size ≤ w_.heap.size)) _ ⟨0, ([] : List Int), none, 0, rfl, f1007, e980, r983, r984, bx985, bx986, ow987, r988, bx989, bx990, ow1003, (by omega), (Int.natCast_nonneg _), rfl, (by omega), (by omega)⟩ ?_
      clear f1007 f1008
      clear r983
      clear r984
      clear bx985
      clear bx986
      clear ow987
      clear r988
      clear bx989
      clear bx990
      clear ow1003
      clear e980
      intro m_ act1009 w1010 ⟨q, bk, A_1005, c_1006, hm1012, f1013, e1011, r1014, r1015, bx1016, bx1017, ow1018, r1019, bx1020, bx1021, ow1022, i1023, i1024, hbk, i1025, i1026⟩
      have szw1010 := e1011.size
      have := bx1016.lt
      have := bx1017.lt
      have := bx1020.lt
      have := bx1021.lt
      refine wp_seq ?_
      refine wp_seq ?_
      refine At.start ?_
      obtain ⟨ad1027, R1030, C1031, hA1028, _, _, hc1029, hC1032, r1033⟩ := RdII.get r1019.mv (i) (by omega) (by omega)
      have hl1034 := r1033.len
      refine At.rd f1013 8 [[], [], [.ld (.slice A382 ((subG g (inT g s)).mv.length) c383)], [], [.ad ad1027], [.ld (.slice R1030 ((gL ((subG g (inT g s)).mv) (i)).length) C1031)], [], []] [(144, .bool (decide ((q : Int) < (((gL ((subG g (inT g s)).mv) (i)).length : Nat) : Int)))), (143, .int .i64 ((((gL ((subG g (inT g s)).mv) (i)).length : Nat) : Int))), (142, .slice R1030 ((gL ((subG g (inT g s)).mv) (i)).length) C1031), (141, .pointer (some (ad1027.add ((i : Int).toNat * 1)))), (140, .int .i64 (i)), (139, .slice A382 ((subG g (inT g s)).mv.length) c383), (138, .pointer (some ⟨w397.heap.size, 2, none⟩)), (137, .int .i64 (q))] [(w1010.cell? ⟨w397.heap.size, 2, none⟩ = some (.slice A382 ((subG g (inT g s)).mv.length) c383)), (A382 = some ad1027), (0 ≤ (i : Int)), ((i : Int) < ((subG g (inT g s)).mv.length : Nat)), (w1010.cell? (ad1027.add ((i : Int).toNat * 1)) = some (.slice R1030 ((gL ((subG g (inT g s)).mv) (i)).length) C1031))] (by kernel_rfl) ⟨(bx1020.cell (i := 2) rfl), hA1028, (by omega), (by omega), hc1029, trivial⟩ (fun act1037 f1036 => ?_)
      clear f1013
      refine At.done rfl ?_
      refine t_n ?_
      clear r1033
      refine cond_S f1036 (t := decide ((q : Int) < (((gL ((subG g (inT g s)).mv) (i)).length : Nat) : Int))) rfl (fun h1038 => ?_) (fun h1038 => ?_)
      ·have q1039 := of_decide_eq_true h1038
       refine wp_skip ?_
       refine t_n ?_
       refine wp_seq ?_
       refine wp_block ?_
       have hmk := hP.r.mv i (by omega) (by omega) q (by omega) (by omega)
       have hbkl := congrArg List.length hbk
       rw [List.length_map, List.length_take] at hbkl
       have hrl_ := row_len hP.r (i := i) (by omega) (by omega)
       refine At.start ?_
       obtain ⟨ad1040, R1043, C1044, hA1041, _, _, hc1042, hC1045, r1046⟩ := RdII.get r1019.mv (i) (by omega) (by omega)
       have hl1047 := r1046.len
       obtain ⟨ad1049, hA1050, _, _, hc1051⟩ := RdI.get r1046 (q) (by omega) (by omega)
       obtain ⟨ad1052, hA1053, hb1056, hc1055, hc1054⟩ := ow1018.get (gI (gL ((subG g (inT g s)).mv) (i)) (q)) (by omega) (by omega) (sz := 1) rfl
       refine At.rd f1036 12 [[], [], [], [.ld (.slice A382 ((subG g (inT g s)).mv.length) c383)], [], [.ad ad1040], [.ld (.slice R1043 ((gL ((subG g (inT g s)).mv) (i)).length) C1044)], [], [.ad ad1049], [.ld (.int .i64 (gI (gL ((subG g (inT g s)).mv) (i)) (q)))], [.ad ad1052], [.ld (.int .i64 (gI (subO g (inT g s)) (gI (gL ((subG g (inT g s)).mv) (i)) (q))))]] [(158, .int .i64 (gI (subO g (inT g s)) (gI (gL ((subG g (inT g s)).mv) (i)) (q)))), (157, .pointer (some (ad1052.add ((gI (gL ((subG g (inT g s)).mv) (i)) (q) : Int).toNat * 1)))), (156, .int .i64 (gI (gL ((subG g (inT g s)).mv) (i)) (q))), (155, .pointer (some (ad1049.add ((q : Int).toNat * 1)))), (154, .int .i64 (q)), (153, .slice R1043 ((gL ((subG g (inT g s)).mv) (i)).length) C1044), (152, .pointer (some (ad1040.add ((i : Int).toNat * 1)))), (151, .int .i64 (i)), (150, .slice A382 ((subG g (inT g s)).mv.length) c383), (149, .pointer (some ⟨w397.heap.size, 2, none⟩)), (148, .slice A384 ((subO g (inT g s)).length) c385), (147, .slice A_1005 bk.length c_1006)] [(w1010.cell? ⟨w397.heap.size, 2, none⟩ = some (.slice A382 ((subG g (inT g s)).mv.length) c383)), (A382 = some ad1040), (0 ≤ (i : Int)), ((i : Int) < ((subG g (inT g s)).mv.length : Nat)), (w1010.cell? (ad1040.add ((i : Int).toNat * 1)) = some (.slice R1043 ((gL ((subG g (inT g s)).mv) (i)).length) C1044)), (R1043 = some ad1049), (0 ≤ (q : Int)), ((q : Int) < ((gL ((subG g (inT g s)).mv) (i)).length : Nat)), (w1010.cell? (ad1049.add ((q : Int).toNat * 1)) = some (.int .i64 (gI (gL ((subG g (inT g s)).mv) (i)) (q)))), (A384 = some ad1052), (0 ≤ (gI (gL ((subG g (inT g s)).mv) (i)) (q) : Int)), ((gI (gL ((subG g (inT g s)).mv) (i)) (q) : Int) < ((subO g (inT g s)).length : Nat)), (w1010.cell? (ad1052.add ((gI (gL ((subG g (inT g s)).mv) (i)) (q) : Int).toNat * 1)) = some (.int .i64 (gI (subO g (inT g s)) (gI (gL ((subG g (inT g s)).mv) (i)) (q)))))] (by kernel_rfl) ⟨(bx1020.cell (i := 2) rfl), hA1041, (by omega), (by omega), hc1042, hA1050, (by omega), (by omega), hc1051, hA1053, (by omega), (by omega), hc1055, trivial⟩ (fun act1058 f1057 => ?_)
       clear f1036
       refine At.seq f1057 1 [[]] [(159, .slice (some ⟨w1010.heap.size, 0, none⟩) 1 1)] (w1010.alloc (.cells #[.int .i64 (gI (subO g (inT g s)) (gI (gL ((subG g (inT g s)).mv) (i)) (q)))] 3 (0, 0))) [] (by kernel_rfl) trivial (fun act1062 w1059 hw1060 f1061 => ?_)
       clear f1057
       have g1063 := gr_alloc hw1060
       have szw1059 := g1063.size
       replace e1011 := e1011.gr g1063 no_row
       replace r1014 := r1014.gr g1063 (fun _ h => by cases h)
       replace r1015 := r1015.gr g1063 (fun _ h => by cases h)
       replace bx1016 := bx1016.gr g1063 (by simp)
       replace bx1017 := bx1017.gr g1063 (by simp)
       replace ow1018 : OwnR w1059 (Sx (w358.heap.size) [some (w1010.heap.size), obk (A_1005), some (w397.heap.size), some (b_439)]) A384 c385 3 ((subO g (inT g s)) : List Int) := ow1018.grA g1063 (fun _ _ h => by cases h) (fun k hk hs => ⟨(fun e => by injection e; omega), hs.1, hs.2.1, hs.2.2.1, hs.2.2.2⟩)
       replace r1019 := r1019.gr g1063 (fun _ h => by cases h)
       replace bx1020 := bx1020.gr g1063 (by simp)
       replace bx1021 := bx1021.gr g1063 (by simp)
       replace ow1022 : OwnR w1059 (Sx (w979.heap.size) [some (w1010.heap.size), obk (A384)]) A_1005 c_1006 3 (bk : List Int) := ow1022.grA g1063 (fun _ _ h => by cases h) (fun k hk hs => ⟨(fun e => by injection e; omega), hs.1, hs.2⟩)
       replace r1046 := r1046.gr g1063 (fun _ h => by cases h)
       have bx1065 : Bx w1059 (w1010.heap.size) [.int .i64 (gI (subO g (inT g s)) (gI (gL ((subG g (inT g s)).mv) (i)) (q)))] 3 := Bx.new hw1060
       have := bx1065.lt
       clear g1063 hw1060
       have hl1081 : (bk ++ ([gI (subO g (inT g s)) (gI (gL ((subG g (inT g s)).mv) (i)) (q))])).length = (bk).length + ([gI (subO g (inT g s)) (gI (gL ((subG g (inT g s)).mv) (i)) (q))] : List Int).length := List.length_append
       simp only [List.length_cons, List.length_nil] at hl1081
       refine At.act f1061 (appendR (α := Int) (t := 22) (d := 160) (n := bk.length) (m := 1) (cc := 1) (xs := bk) (ys := [gI (subO g (inT g s)) (gI (gL ((subG g (inT g s)).mv) (i)) (q))]) (bytes := 8) (by first | rfl | omega | (simp; done) | (simp; omega)) (by first | rfl | omega | (simp; done) | (simp; omega)) (by kernel_rfl) rfl (by kernel_rfl) ow1022 (Bx.srcR (l := ([gI (subO g (inT g s)) (gI (gL ((subG g (inT g s)).mv) (i)) (q))] : List Int)) bx1065 rfl) (by simp only [List.length_cons, List.length_nil]; omega) (by simp only [List.length_cons, List.length_nil]; omega)) ?_
       rintro d_ v_ w1080 ⟨rfl, A1077, c1078, ha1079⟩
       obtain rfl := ha1079.val
       have g1082 := ha1079.gr
       refine ⟨_, rfl, fun act1084 f1083 => ?_⟩
       clear f1061
       clear bx1065
       have ow1085 := ha1079.own (Sx (w979.heap.size) [obk (A384)]) (fun g _ hs => ⟨hs.2.1, hs.2.2⟩) ⟨ow1018.ne_new, (show w979.heap.size ≤ w1059.heap.size by omega)⟩
       have szw1080 := g1082.size
       replace e1011 := e1011.gr g1082 (fun k hk => by have := ow1022.ge k hk; omega)
       replace r1014 := r1014.gr g1082 (fun k hk => by have := ow1022.ge k hk; omega)
       replace r1015 := r1015.gr g1082 (fun k hk => by have := ow1022.ge k hk; omega)
       replace bx1016 := bx1016.gr g1082 (fun e => by have := ow1022.ge _ e; omega)
       replace bx1017 := bx1017.gr g1082 (fun e => by have := ow1022.ge _ e; omega)
       replace ow1018 : OwnR w1080 (Sx (w358.heap.size) [some (w1010.heap.size), obk (A1077), some (w397.heap.size), some (b_439)]) A384 c385 3 ((subO g (inT g s)) : List Int) := ow1018.grA g1082 (fun k hk => hk.2.1) (fun k hk hs => ⟨hs.1, own_repl ha1079.at_ hs.2.1 hk, hs.2.2.1, hs.2.2.2.1, hs.2.2.2.2⟩)
       replace r1019 := r1019.gr g1082 (fun k hk => by have := ow1022.ge k hk; omega)
       replace bx1020 := bx1020.gr g1082 (fun e => by have := ow1022.ge _ e; omega)
       replace bx1021 := bx1021.gr g1082 (fun e => by have := ow1022.ge _ e; omega)
       replace r1046 := r1046.gr g1082 (fun k hk => by have := ow1022.ge k hk; omega)
       clear ow1022 g1082 ha1079
       refine At.rd f1083 1 [[]] [(23, .slice A1077 ((bk ++ ([gI (subO g (inT g s)) (gI (gL ((subG g (inT g s)).mv) (i)) (q))])).length) c1078)] [] (by kernel_rfl) trivial (fun act1097 f1096 => ?_)
       clear f1083
       refine At.done rfl ?_
       refine b_n ?_
       refine t_n ?_
       clear r1046
       refine At.start ?_
       refine At.rd f1096 3 [[], [.as_ (.int .i64 (q + 1))], []] [(24, .int .i64 (q + 1)), (146, .int .i64 (q + 1)), (145, .int .i64 (q))] [((.int .i64 (IntKind.i64.wrap (q + 1)) : Value) = .int .i64 (q + 1))] (by kernel_rfl) ⟨(w64 (by omega) (by omega)), trivial⟩ (fun act1099 f1098 => ?_)
       clear f1096
       refine At.done rfl ?_
       refine t_n ?_
       have f1100 := f1098.as 23 (.slice A1077 ((bk ++ ([gI (subO g (inT g s)) (gI (gL ((subG g (inT g s)).mv) (i)) (q))])).length) c1078) (.slice A1077 ((bk ++ ([gI (subO g (inT g s)) (gI (gL ((subG g (inT g s)).mv) (i)) (q))]) : List Int).length) c1078) rfl (slice_len (by first | rfl | omega | (simp; done) | (simp; omega)))
       clear f1098
       have f1101 := f1100.sub (r := [(23, .slice A1077 ((bk ++ ([gI (subO g (inT g s)) (gI (gL ((subG g (inT g s)).mv) (i)) (q))]) : List Int).length) c1078), (24, .int .i64 (q + 1)), (22, .int .i64 (i)), (17, .pointer (some ⟨b_439, 0, none⟩)), (15, .slice A384 ((subO g (inT g s)).length) c385), (14, .pointer (some ⟨w397.heap.size, 0, none⟩)), (5, .pointer (some ⟨w11.heap.size, 0, none⟩)), (3, .pointer (some ⟨w.heap.size, 0, none⟩))]) ⟨rfl, rfl, rfl, rfl, rfl, rfl, rfl, rfl, trivial⟩
       exact ⟨_, (by omega), (q + 1), (bk ++ ([gI (subO g (inT g s)) (gI (gL ((subG g (inT g s)).mv) (i)) (q))]) : List Int), A1077, c1078, rfl, f1101, e1011, r1014, r1015, bx1016, bx1017, (ow1018.imp (fun g _ hs => ⟨hs.2.1, hs.2.2.1, hs.2.2.2.1, hs.2.2.2.2⟩)), r1019, bx1020, bx1021, ow1085, (by omega), (by omega), (map_push hbk (by omega) (by omega)), (by omega), (by omega)⟩
      ·have q1102 := of_decide_eq_false h1038
       refine wp_exit ?_
       refine t_e ?_
       refine t_e ?_
       refine b_e ?_
       refine t_n ?_
       have hbkl := congrArg List.length hbk
       rw [List.length_map, List.length_take] at hbkl
       have hrl_ := row_len hP.r (i := i) (by omega) (by omega)
       have he_ := hP.e i (by omega) (by omega)
       have hbkE : bk = (subR g (inT g s) (gI (subO g (inT g s)) i)).map (gI (lsD (inT g s) 256)) := by rw [hbk, List.take_of_length_le (by omega), hP.mv i (by omega) (by omega), ← hP.eo]
       refine wp_seq ?_
       obtain ⟨ad1103, hA1104, _, _, hc1105⟩ := RdI.get r1019.ow (i) (by omega) (by omega)
       obtain ⟨ad1106, hA1107, hb1110, hc1109, hc1108⟩ := ow1018.get (i) (by omega) (by omega) (sz := 1) rfl
       obtain ⟨ad1111, hA1112, _, _, hc1113⟩ := RdI.get r1014.ow (gI (subO g (inT g s)) i) (by omega) (by omega)
       obtain ⟨ad1114, hA1115, _, _, hc1116⟩ := RdI.get r1019.pr (i) (by omega) (by omega)
       obtain ⟨ad1117, hA1118, hb1121, hc1120, hc1119⟩ := ow1018.get (i) (by omega) (by omega) (sz := 1) rfl
       obtain ⟨ad1122, hA1123, _, _, hc1124⟩ := RdI.get r1014.pr (gI (subO g (inT g s)) i) (by omega) (by omega)
       obtain ⟨ad1125, hA1126, hb1129, hc1128, hc1127⟩ := ow1018.get (i) (by omega) (by omega) (sz := 1) rfl
       obtain ⟨ad1130, R1133, C1134, hA1131, _, _, hc1132, hC1135, r1136⟩ := RdII.get r1014.mv (gI (subO g (inT g s)) i) (by omega) (by omega)
       have hl1137 := r1136.len
       obtain ⟨Cs1139, hCs1140⟩ : ∃ c : List (Addr × Value), c = ([(⟨w397.heap.size, 0, none⟩, (.slice A378 ((subG g (inT g s)).ow.length) c379)), ((ad1103.add ((i : Int).toNat * 1)), (.int .i64 (gI ((subG g (inT g s)).ow) (i)))), (⟨w.heap.size, 0, none⟩, (.slice Ag0 g.ow.length cg0)), ((ad1106.add ((i : Int).toNat * 1)), (.int .i64 (gI (subO g (inT g s)) i))), ((ad1111.add ((gI (subO g (inT g s)) i : Int).toNat * 1)), (.int .i64 (gI g.ow (gI (subO g (inT g s)) i)))), (⟨w397.heap.size, 1, none⟩, (.slice A380 ((subG g (inT g s)).pr.length) c381)), ((ad1114.add ((i : Int).toNat * 1)), (.int .i64 (gI ((subG g (inT g s)).pr) (i)))), (⟨w.heap.size, 1, none⟩, (.slice Ag1 g.pr.length cg1)), ((ad1117.add ((i : Int).toNat * 1)), (.int .i64 (gI (subO g (inT g s)) i))), ((ad1122.add ((gI (subO g (inT g s)) i : Int).toNat * 1)), (.int .i64 (gI g.pr (gI (subO g (inT g s)) i)))), (⟨w.heap.size, 2, none⟩, (.slice Ag2 g.mv.length cg2)), ((ad1125.add ((i : Int).toNat * 1)), (.int .i64 (gI (subO g (inT g s)) i))), ((ad1130.add ((gI (subO g (inT g s)) i : Int).toNat * 1)), (.slice R1133 ((gL g.mv (gI (subO g (inT g s)) i)).length) C1134))] : List (Addr × Value)) ++ blkC (b_439) (((inS g s : List Int) : List Int).map wV) := ⟨_, rfl⟩
       have hS1141 : HoldsC Cs1139 w1010 := by rw [hCs1140]; exact (holdsA (show HoldsC [(⟨w397.heap.size, 0, none⟩, (.slice A378 ((subG g (inT g s)).ow.length) c379)), ((ad1103.add ((i : Int).toNat * 1)), (.int .i64 (gI ((subG g (inT g s)).ow) (i)))), (⟨w.heap.size, 0, none⟩, (.slice Ag0 g.ow.length cg0)), ((ad1106.add ((i : Int).toNat * 1)), (.int .i64 (gI (subO g (inT g s)) i))), ((ad1111.add ((gI (subO g (inT g s)) i : Int).toNat * 1)), (.int .i64 (gI g.ow (gI (subO g (inT g s)) i)))), (⟨w397.heap.size, 1, none⟩, (.slice A380 ((subG g (inT g s)).pr.length) c381)), ((ad1114.add ((i : Int).toNat * 1)), (.int .i64 (gI ((subG g (inT g s)).pr) (i)))), (⟨w.heap.size, 1, none⟩, (.slice Ag1 g.pr.length cg1)), ((ad1117.add ((i : Int).toNat * 1)), (.int .i64 (gI (subO g (inT g s)) i))), ((ad1122.add ((gI (subO g (inT g s)) i : Int).toNat * 1)), (.int .i64 (gI g.pr (gI (subO g (inT g s)) i)))), (⟨w.heap.size, 2, none⟩, (.slice Ag2 g.mv.length cg2)), ((ad1125.add ((i : Int).toNat * 1)), (.int .i64 (gI (subO g (inT g s)) i))), ((ad1130.add ((gI (subO g (inT g s)) i : Int).toNat * 1)), (.slice R1133 ((gL g.mv (gI (subO g (inT g s)) i)).length) C1134))] w1010 from ⟨(bx1020.cell (i := 0) rfl), hc1105, (bx1016.cell (i := 0) rfl), hc1109, hc1113, (bx1020.cell (i := 1) rfl), hc1116, (bx1016.cell (i := 1) rfl), hc1120, hc1124, (bx1016.cell (i := 2) rfl), hc1128, hc1132, trivial⟩) (holds_blk bx1021))
       refine AtH.start Cs1139 46 #[false, false, false, false, false, false, false, false, false, false, false, false, false, false, false, false, false, false, false, false, false, false, false, false, false, false, false, false, false, false, false, false, false, false, false, false, false, false, false, false, false, false, false, false, false, false] (by kernel_rfl) rfl rfl (fun w1143 hw1144 => ?_)
       have g1142 := gr_drew hw1144
       have hS1145 := hS1141.gr g1142
       have szw1143 := g1142.size
       replace e1011 := e1011.gr g1142 no_row
       replace r1014 := r1014.gr g1142 (fun _ h => by cases h)
       replace r1015 := r1015.gr g1142 (fun _ h => by cases h)
       replace bx1016 := bx1016.gr g1142 (by simp)
       replace bx1017 := bx1017.gr g1142 (by simp)
       replace ow1018 := ow1018.gr g1142 (fun _ _ h => by cases h)
       replace r1019 := r1019.gr g1142 (fun _ h => by cases h)
       replace bx1020 := bx1020.gr g1142 (by simp)
       replace bx1021 := bx1021.gr g1142 (by simp)
       replace ow1022 := ow1022.gr g1142 (fun _ _ h => by cases h)
       replace r1136 := r1136.gr g1142 (fun _ h => by cases h)
       clear g1142 hw1144 hS1141
       refine AtH.rd (by kernel_rfl) (fun d v c a w h => by cases d <;> exact h) hS1145 [0, 1, 2, 3, 4, 5, 6, 7, 8, 9, 10, 11, 12, 13, 14, 15, 16, 17, 18, 19, 20, 21, 22, 23, 24, 25, 26, 27, 28, 29, 30, 31, 33, 34, 35, 36, 37, 38, 39, 40, 42] [[], [.ld (.slice A378 ((subG g (inT g s)).ow.length) c379)], [], [.ad ad1103], [.ld (.int .i64 (gI ((subG g (inT g s)).ow) (i)))], [], [.ld (.slice Ag0 g.ow.length cg0)], [], [], [.ad ad1106], [.ld (.int .i64 (gI (subO g (inT g s)) i))], [.ad ad1111], [.ld (.int .i64 (gI g.ow (gI (subO g (inT g s)) i)))], [.as_ (.bool false)], [], [], [.ld (.slice A380 ((subG g (inT g s)).pr.length) c381)], [], [.ad ad1114], [.ld (.int .i64 (gI ((subG g (inT g s)).pr) (i)))], [], [.ld (.slice Ag1 g.pr.length cg1)], [], [], [.ad ad1117], [.ld (.int .i64 (gI (subO g (inT g s)) i))], [.ad ad1122], [.ld (.int .i64 (gI g.pr (gI (subO g (inT g s)) i)))], [.as_ (.bool false)], [], [], [], [], [.ld (.slice Ag2 g.mv.length cg2)], [], [], [.ad ad1125], [.ld (.int .i64 (gI (subO g (inT g s)) i))], [.ad ad1130], [.ld (.slice R1133 ((gL g.mv (gI (subO g (inT g s)) i)).length) C1134)], [.cs (((inS g s : List Int) : List Int).map wV)]] [(203, .agg (((inS g s : List Int) : List Int).map wV).toArray), (201, .slice R1133 ((gL g.mv (gI (subO g (inT g s)) i)).length) C1134), (200, .pointer (some (ad1130.add ((gI (subO g (inT g s)) i : Int).toNat * 1)))), (199, .int .i64 (gI (subO g (inT g s)) i)), (198, .pointer (some (ad1125.add ((i : Int).toNat * 1)))), (197, .int .i64 (i)), (196, .slice A384 ((subO g (inT g s)).length) c385), (195, .slice Ag2 g.mv.length cg2), (194, .pointer (some ⟨w.heap.size, 2, none⟩)), (192, .slice A_1005 bk.length c_1006), (191, .bool false), (190, .bool false), (189, .bool false), (188, .int .i64 (gI g.pr (gI (subO g (inT g s)) i))), (187, .pointer (some (ad1122.add ((gI (subO g (inT g s)) i : Int).toNat * 1)))), (186, .int .i64 (gI (subO g (inT g s)) i)), (185, .pointer (some (ad1117.add ((i : Int).toNat * 1)))), (184, .int .i64 (i)), (183, .slice A384 ((subO g (inT g s)).length) c385), (182, .slice Ag1 g.pr.length cg1), (181, .pointer (some ⟨w.heap.size, 1, none⟩)), (180, .int .i64 (gI ((subG g (inT g s)).pr) (i))), (179, .pointer (some (ad1114.add ((i : Int).toNat * 1)))), (178, .int .i64 (i)), (177, .slice A380 ((subG g (inT g s)).pr.length) c381), (176, .pointer (some ⟨w397.heap.size, 1, none⟩)), (175, .bool false), (174, .bool false), (173, .int .i64 (gI g.ow (gI (subO g (inT g s)) i))), (172, .pointer (some (ad1111.add ((gI (subO g (inT g s)) i : Int).toNat * 1)))), (171, .int .i64 (gI (subO g (inT g s)) i)), (170, .pointer (some (ad1106.add ((i : Int).toNat * 1)))), (169, .int .i64 (i)), (168, .slice A384 ((subO g (inT g s)).length) c385), (167, .slice Ag0 g.ow.length cg0), (166, .pointer (some ⟨w.heap.size, 0, none⟩)), (165, .int .i64 (gI ((subG g (inT g s)).ow) (i))), (164, .pointer (some (ad1103.add ((i : Int).toNat * 1)))), (163, .int .i64 (i)), (162, .slice A378 ((subG g (inT g s)).ow.length) c379), (161, .pointer (some ⟨w397.heap.size, 0, none⟩))] #[true, true, true, true, true, true, true, true, true, true, true, true, true, true, true, true, true, true, true, true, true, true, true, true, true, true, true, true, true, true, true, true, false, true, true, true, true, true, true, true, true, false, true, false, false, false] [(∃ j_ : Nat, Cs1139[j_]? = some (⟨w397.heap.size, 0, none⟩, (.slice A378 ((subG g (inT g s)).ow.length) c379))), (A378 = some ad1103), (0 ≤ (i : Int)), ((i : Int) < ((subG g (inT g s)).ow.length : Nat)), (∃ j_ : Nat, Cs1139[j_]? = some ((ad1103.add ((i : Int).toNat * 1)), (.int .i64 (gI ((subG g (inT g s)).ow) (i))))), (∃ j_ : Nat, Cs1139[j_]? = some (⟨w.heap.size, 0, none⟩, (.slice Ag0 g.ow.length cg0))), (A384 = some ad1106), (0 ≤ (i : Int)), ((i : Int) < ((subO g (inT g s)).length : Nat)), (∃ j_ : Nat, Cs1139[j_]? = some ((ad1106.add ((i : Int).toNat * 1)), (.int .i64 (gI (subO g (inT g s)) i)))), (Ag0 = some ad1111), (0 ≤ (gI (subO g (inT g s)) i : Int)), ((gI (subO g (inT g s)) i : Int) < (g.ow.length : Nat)), (∃ j_ : Nat, Cs1139[j_]? = some ((ad1111.add ((gI (subO g (inT g s)) i : Int).toNat * 1)), (.int .i64 (gI g.ow (gI (subO g (inT g s)) i))))), ((.bool ((gI ((subG g (inT g s)).ow) (i) : Int) != (gI g.ow (gI (subO g (inT g s)) i))) : Value) = .bool false), (∃ j_ : Nat, Cs1139[j_]? = some (⟨w397.heap.size, 1, none⟩, (.slice A380 ((subG g (inT g s)).pr.length) c381))), (A380 = some ad1114), (0 ≤ (i : Int)), ((i : Int) < ((subG g (inT g s)).pr.length : Nat)), (∃ j_ : Nat, Cs1139[j_]? = some ((ad1114.add ((i : Int).toNat * 1)), (.int .i64 (gI ((subG g (inT g s)).pr) (i))))), (∃ j_ : Nat, Cs1139[j_]? = some (⟨w.heap.size, 1, none⟩, (.slice Ag1 g.pr.length cg1))), (A384 = some ad1117), (0 ≤ (i : Int)), ((i : Int) < ((subO g (inT g s)).length : Nat)), (∃ j_ : Nat, Cs1139[j_]? = some ((ad1117.add ((i : Int).toNat * 1)), (.int .i64 (gI (subO g (inT g s)) i)))), (Ag1 = some ad1122), (0 ≤ (gI (subO g (inT g s)) i : Int)), ((gI (subO g (inT g s)) i : Int) < (g.pr.length : Nat)), (∃ j_ : Nat, Cs1139[j_]? = some ((ad1122.add ((gI (subO g (inT g s)) i : Int).toNat * 1)), (.int .i64 (gI g.pr (gI (subO g (inT g s)) i))))), ((.bool ((gI ((subG g (inT g s)).pr) (i) : Int) != (gI g.pr (gI (subO g (inT g s)) i))) : Value) = .bool false), (∃ j_ : Nat, Cs1139[j_]? = some (⟨w.heap.size, 2, none⟩, (.slice Ag2 g.mv.length cg2))), (A384 = some ad1125), (0 ≤ (i : Int)), ((i : Int) < ((subO g (inT g s)).length : Nat)), (∃ j_ : Nat, Cs1139[j_]? = some ((ad1125.add ((i : Int).toNat * 1)), (.int .i64 (gI (subO g (inT g s)) i)))), (Ag2 = some ad1130), (0 ≤ (gI (subO g (inT g s)) i : Int)), ((gI (subO g (inT g s)) i : Int) < (g.mv.length : Nat)), (∃ j_ : Nat, Cs1139[j_]? = some ((ad1130.add ((gI (subO g (inT g s)) i : Int).toNat * 1)), (.slice R1133 ((gL g.mv (gI (subO g (inT g s)) i)).length) C1134))), ((((inS g s : List Int) : List Int).map wV).length = 4), (∀ (j : Nat) (v : Value), (((inS g s : List Int) : List Int).map wV)[j]? = some v → ∃ j_ : Nat, Cs1139[j_]? = some (((⟨b_439, 0, none⟩ : Addr).add j), v))] 5 f1036 (by kernel_rfl) ⟨⟨0, by rw [hCs1140]; rfl⟩, hA1104, (by omega), (by omega), ⟨1, by rw [hCs1140]; rfl⟩, ⟨2, by rw [hCs1140]; rfl⟩, hA1107, (by omega), (by omega), ⟨3, by rw [hCs1140]; rfl⟩, hA1112, (by omega), (by omega), ⟨4, by rw [hCs1140]; rfl⟩, (congrArg Value.bool (bneF (by omega))), ⟨5, by rw [hCs1140]; rfl⟩, hA1115, (by omega), (by omega), ⟨6, by rw [hCs1140]; rfl⟩, ⟨7, by rw [hCs1140]; rfl⟩, hA1118, (by omega), (by omega), ⟨8, by rw [hCs1140]; rfl⟩, hA1123, (by omega), (by omega), ⟨9, by rw [hCs1140]; rfl⟩, (congrArg Value.bool (bneF (by omega))), ⟨10, by rw [hCs1140]; rfl⟩, hA1126, (by omega), (by omega), ⟨11, by rw [hCs1140]; rfl⟩, hA1131, (by omega), (by omega), ⟨12, by rw [hCs1140]; rfl⟩, ((List.length_map _).trans (okLen (inS_ok (by assumption)))), (fun j v hv => List.getElem?_of_mem (by rw [hCs1140]; exact List.mem_append.2 (.inr (blkC_in hv)))), trivial⟩ (fun act1158 f1157 => ?_)
       clear f1036
       refine AtH.all [32] 4 (by kernel_rfl) (by simp) ⟨?_, trivial⟩
       refine OneH.call f1157 34 #[.slice A_1005 bk.length c_1006] (some 193) #[true, true, true, true, true, true, true, true, true, true, true, true, true, true, true, true, true, true, true, true, true, true, true, true, true, true, true, true, true, true, true, true, true, true, true, true, true, true, true, true, true, false, true, false, false, false] (by kernel_rfl) (by kernel_rfl) (of_any (la := bk) (ow1022.rdI0 (by first | omega | (simp only [List.length_cons, List.length_nil]; omega) | (simp; done) | (simp; omega)))) ?_
       rintro e_ w1160 ⟨rfl, he⟩
       refine ⟨_, rfl, _, rfl, fun act1161 f1162 => ?_⟩
       clear f1157
       have g1163 := gr_ext he
       have hS1159 := hS1145.gr g1163
       have szw1160 := g1163.size
       replace e1011 := e1011.gr g1163 no_row
       replace r1014 := r1014.gr g1163 (fun _ h => by cases h)
       replace r1015 := r1015.gr g1163 (fun _ h => by cases h)
       replace bx1016 := bx1016.gr g1163 (by simp)
       replace bx1017 := bx1017.gr g1163 (by simp)
       replace ow1018 := ow1018.gr g1163 (fun _ _ h => by cases h)
       replace r1019 := r1019.gr g1163 (fun _ h => by cases h)
       replace bx1020 := bx1020.gr g1163 (by simp)
       replace bx1021 := bx1021.gr g1163 (by simp)
       replace ow1022 := ow1022.gr g1163 (fun _ _ h => by cases h)
       replace r1136 := r1136.gr g1163 (fun _ h => by cases h)
       clear g1163 he
       refine ⟨hS1159, ?_⟩
       refine AtH.all [41] 3 (by kernel_rfl) (by simp) ⟨?_, trivial⟩
       refine OneH.call f1162 34 #[.slice R1133 ((gL g.mv (gI (subO g (inT g s)) i)).length) C1134] (some 202) #[true, true, true, true, true, true, true, true, true, true, true, true, true, true, true, true, true, true, true, true, true, true, true, true, true, true, true, true, true, true, true, true, true, true, true, true, true, true, true, true, true, true, true, false, false, false] (by kernel_rfl) (by kernel_rfl) (of_any (la := gL g.mv (gI (subO g (inT g s)) i)) (r1136.wide (Nat.zero_le _) (by omega))) ?_
       rintro e_ w1176 ⟨rfl, he⟩
       refine ⟨_, rfl, _, rfl, fun act1177 f1178 => ?_⟩
       clear f1162
       have g1179 := gr_ext he
       have hS1175 := hS1159.gr g1179
       have szw1176 := g1179.size
       replace e1011 := e1011.gr g1179 no_row
       replace r1014 := r1014.gr g1179 (fun _ h => by cases h)
       replace r1015 := r1015.gr g1179 (fun _ h => by cases h)
       replace bx1016 := bx1016.gr g1179 (by simp)
       replace bx1017 := bx1017.gr g1179 (by simp)
       replace ow1018 := ow1018.gr g1179 (fun _ _ h => by cases h)
       replace r1019 := r1019.gr g1179 (fun _ h => by cases h)
       replace bx1020 := bx1020.gr g1179 (by simp)
       replace bx1021 := bx1021.gr g1179 (by simp)
       replace ow1022 := ow1022.gr g1179 (fun _ _ h => by cases h)
       replace r1136 := r1136.gr g1179 (fun _ h => by cases h)
       clear g1179 he
       refine ⟨hS1175, ?_⟩
       refine AtH.all [43] 2 (by kernel_rfl) (by simp) ⟨?_, trivial⟩
       refine OneH.call f1178 31 #[.agg ((ofW (gL g.mv (gI (subO g (inT g s)) i)) : List Int).map wV).toArray, .agg (((inS g s : List Int) : List Int).map wV).toArray] (some 204) #[true, true, true, true, true, true, true, true, true, true, true, true, true, true, true, true, true, true, true, true, true, true, true, true, true, true, true, true, true, true, true, true, true, true, true, true, true, true, true, true, true, true, true, true, false, false] (by kernel_rfl) (by kernel_rfl) ((andS_any (s := ofW (gL g.mv (gI (subO g (inT g s)) i))) (t := (inS g s : List Int)) (ofW_ok _) (inS_ok (by assumption))).mono (R' := fun e w' => e = .returned (.agg (((rowS g s (gI (subO g (inT g s)) i) : List Int) : List Int).map wV).toArray) ∧ Ext _ w') (fun e_ w_ h_ => by rw [show (andS (ofW (gL g.mv (gI (subO g (inT g s)) i))) (inS g s : List Int) : List Int) = (rowS g s (gI (subO g (inT g s)) i) : List Int) from rfl] at h_; exact h_)) ?_
       rintro e_ w1192 ⟨rfl, he⟩
       refine ⟨_, rfl, _, rfl, fun act1193 f1194 => ?_⟩
       clear f1178
       have g1195 := gr_ext he
       have hS1191 := hS1175.gr g1195
       have szw1192 := g1195.size
       replace e1011 := e1011.gr g1195 no_row
       replace r1014 := r1014.gr g1195 (fun _ h => by cases h)
       replace r1015 := r1015.gr g1195 (fun _ h => by cases h)
       replace bx1016 := bx1016.gr g1195 (by simp)
       replace bx1017 := bx1017.gr g1195 (by simp)
       replace ow1018 := ow1018.gr g1195 (fun _ _ h => by cases h)
       replace r1019 := r1019.gr g1195 (fun _ h => by cases h)
       replace bx1020 := bx1020.gr g1195 (by simp)
       replace bx1021 := bx1021.gr g1195 (by simp)
       replace ow1022 := ow1022.gr g1195 (fun _ _ h => by cases h)
       replace r1136 := r1136.gr g1195 (fun _ h => by cases h)
       clear g1195 he
       refine ⟨hS1191, ?_⟩
       refine AtH.rd (by kernel_rfl) (fun d v c a w h => by cases d <;> exact h) hS1191 [44] [[.cs [wV (gI (ofW bk) 0), wV (gI (ofW bk) 1), wV (gI (ofW bk) 2), wV (gI (ofW bk) 3)], .cs [wV (gI (rowS g s (gI (subO g (inT g s)) i) : List Int) 0), wV (gI (rowS g s (gI (subO g (inT g s)) i) : List Int) 1), wV (gI (rowS g s (gI (subO g (inT g s)) i) : List Int) 2), wV (gI (rowS g s (gI (subO g (inT g s)) i) : List Int) 3)], .as_ (.bool false)]] [(205, .bool false)] #[true, true, true, true, true, true, true, true, true, true, true, true, true, true, true, true, true, true, true, true, true, true, true, true, true, true, true, true, true, true, true, true, true, true, true, true, true, true, true, true, true, true, true, true, true, false] [(((ofW bk : List Int).map wV).toArray = ([wV (gI (ofW bk) 0), wV (gI (ofW bk) 1), wV (gI (ofW bk) 2), wV (gI (ofW bk) 3)] : List Value).toArray), ((((rowS g s (gI (subO g (inT g s)) i) : List Int) : List Int).map wV).toArray = ([wV (gI (rowS g s (gI (subO g (inT g s)) i) : List Int) 0), wV (gI (rowS g s (gI (subO g (inT g s)) i) : List Int) 1), wV (gI (rowS g s (gI (subO g (inT g s)) i) : List Int) 2), wV (gI (rowS g s (gI (subO g (inT g s)) i) : List Int) 3)] : List Value).toArray), ((.bool (!(((gI (ofW bk) 0 : Int) == gI (rowS g s (gI (subO g (inT g s)) i) : List Int) 0) && (((gI (ofW bk) 1 : Int) == gI (rowS g s (gI (subO g (inT g s)) i) : List Int) 1) && (((gI (ofW bk) 2 : Int) == gI (rowS g s (gI (subO g (inT g s)) i) : List Int) 2) && (((gI (ofW bk) 3 : Int) == gI (rowS g s (gI (subO g (inT g s)) i) : List Int) 3) && true))))) : Value) = .bool false)] 1 f1194 (by kernel_rfl) ⟨(map4 (okLen (ofW_ok _))), (map4 (okLen (rowS_ok (by assumption) _))), (Eq.trans (b := (.bool (!(decide ((ofW bk : List Int) = (rowS g s (gI (subO g (inT g s)) i) : List Int)))) : Value)) (congrArg (fun b => Value.bool (!b)) (w4_eq (okLen (ofW_ok _)) (okLen (rowS_ok (by assumption) _)))) (congrArg Value.bool (nb00 (back_of hPB hs he_.1 he_.2.1 hbkE)))), trivial⟩ (fun act1208 f1207 => ?_)
       clear f1194
       refine AtH.rd (by kernel_rfl) (fun d v c a w h => by cases d <;> exact h) hS1191 [45] [[]] [(206, .bool false)] #[true, true, true, true, true, true, true, true, true, true, true, true, true, true, true, true, true, true, true, true, true, true, true, true, true, true, true, true, true, true, true, true, true, true, true, true, true, true, true, true, true, true, true, true, true, true] [] 0 f1207 (by kernel_rfl) trivial (fun act1210 f1209 => ?_)
       clear f1207
       refine AtH.done (by kernel_rfl) ?_
       clear hS1191
       refine t_n ?_
       have f1211 := f1209.sub (r := [(206, .bool false), (205, .bool false), (204, .agg (((rowS g s (gI (subO g (inT g s)) i) : List Int) : List Int).map wV).toArray), (202, .agg ((ofW (gL g.mv (gI (subO g (inT g s)) i)) : List Int).map wV).toArray), (193, .agg ((ofW bk : List Int).map wV).toArray), (203, .agg (((inS g s : List Int) : List Int).map wV).toArray), (201, .slice R1133 ((gL g.mv (gI (subO g (inT g s)) i)).length) C1134), (200, .pointer (some (ad1130.add ((gI (subO g (inT g s)) i : Int).toNat * 1)))), (199, .int .i64 (gI (subO g (inT g s)) i)), (198, .pointer (some (ad1125.add ((i : Int).toNat * 1)))), (197, .int .i64 (i)), (196, .slice A384 ((subO g (inT g s)).length) c385), (195, .slice Ag2 g.mv.length cg2), (194, .pointer (some ⟨w.heap.size, 2, none⟩)), (192, .slice A_1005 bk.length c_1006), (189, .bool false), (188, .int .i64 (gI g.pr (gI (subO g (inT g s)) i))), (187, .pointer (some (ad1122.add ((gI (subO g (inT g s)) i : Int).toNat * 1)))), (186, .int .i64 (gI (subO g (inT g s)) i)), (185, .pointer (some (ad1117.add ((i : Int).toNat * 1)))), (184, .int .i64 (i)), (183, .slice A384 ((subO g (inT g s)).length) c385), (182, .slice Ag1 g.pr.length cg1), (181, .pointer (some ⟨w.heap.size, 1, none⟩)), (180, .int .i64 (gI ((subG g (inT g s)).pr) (i))), (179, .pointer (some (ad1114.add ((i : Int).toNat * 1)))), (178, .int .i64 (i)), (177, .slice A380 ((subG g (inT g s)).pr.length) c381), (176, .pointer (some ⟨w397.heap.size, 1, none⟩)), (22, .int .i64 (i)), (17, .pointer (some ⟨b_439, 0, none⟩)), (15, .slice A384 ((subO g (inT g s)).length) c385), (14, .pointer (some ⟨w397.heap.size, 0, none⟩)), (5, .pointer (some ⟨w11.heap.size, 0, none⟩)), (3, .pointer (some ⟨w.heap.size, 0, none⟩))]) ⟨rfl, rfl, rfl, rfl, rfl, rfl, rfl, rfl, rfl, rfl, rfl, rfl, rfl, rfl, rfl, rfl, rfl, rfl, rfl, rfl, rfl, rfl, rfl, rfl, rfl, rfl, rfl, rfl, rfl, rfl, rfl, rfl, rfl, rfl, rfl, trivial⟩
       clear f1209
       refine cond_F f1211 rfl ?_
       refine wp_skip ?_
       refine b_n ?_
       refine t_n ?_
       refine At.start ?_
       refine At.rd f1211 3 [[], [.as_ (.int .i64 (i + 1))], []] [(22, .int .i64 (i + 1)), (136, .int .i64 (i + 1)), (135, .int .i64 (i))] [((.int .i64 (IntKind.i64.wrap (i + 1)) : Value) = .int .i64 (i + 1))] (by kernel_rfl) ⟨(w64 (by omega) (by omega)), trivial⟩ (fun act1213 f1212 => ?_)
       clear f1211
       refine At.done rfl ?_
       refine t_n ?_
       have f1214 := f1212.sub (r := [(22, .int .i64 (i + 1)), (17, .pointer (some ⟨b_439, 0, none⟩)), (15, .slice A384 ((subO g (inT g s)).length) c385), (14, .pointer (some ⟨w397.heap.size, 0, none⟩)), (5, .pointer (some ⟨w11.heap.size, 0, none⟩)), (3, .pointer (some ⟨w.heap.size, 0, none⟩))]) ⟨rfl, rfl, rfl, rfl, rfl, rfl, trivial⟩
       exact ⟨_, (by omega), (i + 1), rfl, f1214, e1011, r1014, r1015, bx1016, bx1017, (ow1018.imp (fun g _ hs => ⟨hs.2.1, hs.2.2.1, hs.2.2.2⟩)), r1019, bx1020, bx1021, (by omega), (by omega), (by omega)⟩
     ·have q1215 := of_decide_eq_false h996
      refine wp_exit ?_
      refine t_e ?_
      refine t_e ?_
      refine b_e ?_
      refine t_n ?_
      clear bx990
      refine wp_seq ?_
      refine At.start ?_
      refine At.rd f994 2 [[.ld (.slice A378 ((subG g (inT g s)).ow.length) c379), .ld (.slice A380 ((subG g (inT g s)).pr.length) c381), .ld (.slice A382 ((subG g (inT g s)).mv.length) c383)], [.cs ((u : List Int).map wV)]] [(209, .agg ((u : List Int).map wV).toArray), (208, .agg #[.slice A378 ((subG g (inT g s)).ow.length) c379, .slice A380 ((subG g (inT g s)).pr.length) c381, .slice A382 ((subG g (inT g s)).mv.length) c383])] [(w979.cell? ⟨w397.heap.size, 0, none⟩ = some (.slice A378 ((subG g (inT g s)).ow.length) c379)), (w979.cell? ⟨w397.heap.size, 1, none⟩ = some (.slice A380 ((subG g (inT g s)).pr.length) c381)), (w979.cell? ⟨w397.heap.size, 2, none⟩ = some (.slice A382 ((subG g (inT g s)).mv.length) c383)), (((u : List Int).map wV).length = 4), (∀ (j : Nat) (v : Value), ((u : List Int).map wV)[j]? = some v → w979.cell? ((⟨w11.heap.size, 0, none⟩ : Addr).add j) = some v)] (by kernel_rfl) ⟨(bx989.cell (i := 0) rfl), (bx989.cell (i := 1) rfl), (bx989.cell (i := 2) rfl), ((List.length_map _).trans (by assumption)), bx986.whole, trivial⟩ (fun act1217 f1216 => ?_)
      clear f994
      refine At.call f1216 22 #[.agg #[.slice A378 ((subG g (inT g s)).ow.length) c379, .slice A380 ((subG g (inT g s)).pr.length) c381, .slice A382 ((subG g (inT g s)).mv.length) c383], .agg ((u : List Int).map wV).toArray] (some 210) (by kernel_rfl) (subM_any (g := (subG g (inT g s))) (s := u) (r988.wide (Nat.zero_le _) (by omega)) (by assumption) (r984.wide (Nat.zero_le _) (by omega))) ?_
      rintro e_ w1237 ⟨A1218, c1219, A1220, c1221, A1222, c1223, A1224, c1225, rfl, he, ow1226, ow1227, ow1228, ow1229⟩
      have hip1234 := sub_inner (subG g (inT g s)) u
      have := sub_lens (subG g (inT g s)) (inT (subG g (inT g s)) u)
      have r1235 : RdG w1237 (w979.heap.size) w1237.heap.size A1218 A1220 A1222 c1219 c1221 c1223 (subG (subG g (inT g s)) (inT (subG g (inT g s)) u)) := ⟨(OwnR.rdR ow1226 (by show _ * 8 ≤ _; omega)).rdI, (OwnR.rdR ow1227 (by show _ * 8 ≤ _; omega)).rdI, OwnLLP.rdII ow1228 (by omega) hip1234, ow1226.cap, ow1227.cap, ow1228.cap⟩
      replace ow1229 : OwnR w1237 (Sx (w979.heap.size) []) A1224 c1225 3 ((subO (subG g (inT g s)) (inT (subG g (inT g s)) u)) : List Int) := ow1229.imp (fun g _ hs => hs.2.2.2)
      clear ow1226 ow1227 ow1228
      refine ⟨_, rfl, _, rfl, fun act1238 f1239 => ?_⟩
      clear f1216
      have g1240 := gr_ext he
      have lt1241 := ow987.lt
      have szw1237 := g1240.size
      replace e980 := e980.gr g1240 no_row
      replace r983 := r983.gr g1240 (fun _ h => by cases h)
      replace r984 := r984.gr g1240 (fun _ h => by cases h)
      replace bx985 := bx985.gr g1240 (by simp)
      replace bx986 := bx986.gr g1240 (by simp)
      replace ow987 : OwnR w1237 (Sx (w358.heap.size) [obk (A1224), some (w397.heap.size), some (b_439)]) A384 c385 3 ((subO g (inT g s)) : List Int) := ow987.grA g1240 (fun _ _ h => by cases h) (fun k hk hs => ⟨(fun e => by have := ow1229.ge _ e; omega), hs.1, hs.2.1, hs.2.2⟩)
      replace r988 := r988.gr g1240 (fun _ h => by cases h)
      replace bx989 := bx989.gr g1240 (by simp)
      replace ow1229 : OwnR w1237 (Sx (w979.heap.size) [obk (A384)]) A1224 c1225 3 ((subO (subG g (inT g s)) (inT (subG g (inT g s)) u)) : List Int) := ow1229.imp (fun g _ hs => ⟨(fun e => by have := lt1241 _ e; have := Sx_base hs; omega), hs⟩)
      clear lt1241
      clear g1240 he
      refine At.rd f1239 4 [[], [], [], []] [(213, .bool (subB (subG g (inT g s)) (inT (subG g (inT g s)) u))), (212, .slice A1224 ((subO (subG g (inT g s)) (inT (subG g (inT g s)) u)).length) c1225), (211, .agg #[.slice A1218 ((subG (subG g (inT g s)) (inT (subG g (inT g s)) u)).ow.length) c1219, .slice A1220 ((subG (subG g (inT g s)) (inT (subG g (inT g s)) u)).pr.length) c1221, .slice A1222 ((subG (subG g (inT g s)) (inT (subG g (inT g s)) u)).mv.length) c1223]), (207, .tuple #[.agg #[.slice A1218 ((subG (subG g (inT g s)) (inT (subG g (inT g s)) u)).ow.length) c1219, .slice A1220 ((subG (subG g (inT g s)) (inT (subG g (inT g s)) u)).pr.length) c1221, .slice A1222 ((subG (subG g (inT g s)) (inT (subG g (inT g s)) u)).mv.length) c1223], .slice A1224 ((subO (subG g (inT g s)) (inT (subG g (inT g s)) u)).length) c1225, .bool (subB (subG g (inT g s)) (inT (subG g (inT g s)) u))])] [] (by kernel_rfl) trivial (fun act1252 f1251 => ?_)
      clear f1239
      refine At.seq f1251 1 [[]] [(25, .pointer (some ⟨w1237.heap.size, 0, none⟩))] (w1237.alloc (.cells #[.slice none 0 0, .slice none 0 0, .slice none 0 0] 25 (0, 0))) [] (by kernel_rfl) trivial (fun act1256 w1253 hw1254 f1255 => ?_)
      clear f1251
      have g1257 := gr_alloc hw1254
      have szw1253 := g1257.size
      replace e980 := e980.gr g1257 no_row
      replace r983 := r983.gr g1257 (fun _ h => by cases h)
      replace r984 := r984.gr g1257 (fun _ h => by cases h)
      replace bx985 := bx985.gr g1257 (by simp)
      replace bx986 := bx986.gr g1257 (by simp)
      replace ow987 : OwnR w1253 (Sx (w358.heap.size) [some (w1237.heap.size), obk (A1224), some (w397.heap.size), some (b_439)]) A384 c385 3 ((subO g (inT g s)) : List Int) := ow987.grA g1257 (fun _ _ h => by cases h) (fun k hk hs => ⟨(fun e => by injection e; omega), hs.1, hs.2.1, hs.2.2.1, hs.2.2.2⟩)
      replace r988 := r988.gr g1257 (fun _ h => by cases h)
      replace bx989 := bx989.gr g1257 (by simp)
      replace ow1229 : OwnR w1253 (Sx (w979.heap.size) [some (w1237.heap.size), obk (A384)]) A1224 c1225 3 ((subO (subG g (inT g s)) (inT (subG g (inT g s)) u)) : List Int) := ow1229.grA g1257 (fun _ _ h => by cases h) (fun k hk hs => ⟨(fun e => by injection e; omega), hs.1, hs.2⟩)
      replace r1235 := r1235.gr g1257 (fun _ h => by cases h)
      have bx1269 : Bx w1253 (w1237.heap.size) [.slice none 0 0, .slice none 0 0, .slice none 0 0] 25 := Bx.new hw1254
      have := bx1269.lt
      clear g1257 hw1254
      refine At.store f1255 (t := 25) (b := w1237.heap.size) (off := 0) (v := .agg #[.slice A1218 ((subG (subG g (inT g s)) (inT (subG g (inT g s)) u)).ow.length) c1219, .slice A1220 ((subG (subG g (inT g s)) (inT (subG g (inT g s)) u)).pr.length) c1221, .slice A1222 ((subG (subG g (inT g s)) (inT (subG g (inT g s)) u)).mv.length) c1223]) (by kernel_rfl) bx1269 (by kernel_rfl) (fun act1274 w1270 g1271 bx1272 f1273 => ?_)
      clear f1255
      replace bx1272 : Bx w1270 (w1237.heap.size) [.slice A1218 ((subG (subG g (inT g s)) (inT (subG g (inT g s)) u)).ow.length) c1219, .slice A1220 ((subG (subG g (inT g s)) (inT (subG g (inT g s)) u)).pr.length) c1221, .slice A1222 ((subG (subG g (inT g s)) (inT (subG g (inT g s)) u)).mv.length) c1223] 25 := bx1272
      have szw1270 := g1271.size
      replace e980 := e980.gr g1271 (fun k h => by injection h; omega)
      replace r983 := r983.gr g1271 (fun k h => by injection h; omega)
      replace r984 := r984.gr g1271 (fun k h => by injection h; omega)
      replace bx985 := bx985.gr g1271 (fun h => by injection h; omega)
      replace bx986 := bx986.gr g1271 (fun h => by injection h; omega)
      replace ow987 := ow987.gr g1271 (fun k hk => hk.1)
      replace r988 := r988.gr g1271 (fun k h => by injection h; omega)
      replace bx989 := bx989.gr g1271 (fun h => by injection h; omega)
      replace ow1229 := ow1229.gr g1271 (fun k hk => hk.1)
      replace r1235 := r1235.gr g1271 (fun k h => by injection h; omega)
      clear bx1269 g1271
      refine At.rd f1273 2 [[], []] [(27, .bool (subB (subG g (inT g s)) (inT (subG g (inT g s)) u))), (26, .slice A1224 ((subO (subG g (inT g s)) (inT (subG g (inT g s)) u)).length) c1225)] [] (by kernel_rfl) trivial (fun act1286 f1285 => ?_)
      clear f1273
      refine At.done rfl ?_
      refine t_n ?_
      clear bx989
      refine wp_seq ?_
      refine At.start ?_
      refine At.rd f1285 1 [[]] [(28, .slice none 0 0)] [] (by kernel_rfl) trivial (fun act1288 f1287 => ?_)
      clear f1285
      refine At.done rfl ?_
      refine t_n ?_
      refine wp_seq ?_
      refine wp_seq ?_
      refine At.start ?_
      refine At.rd f1287 1 [[]] [(29, .int .i64 (0))] [] (by kernel_rfl) trivial (fun act1290 f1289 => ?_)
      clear f1287
      refine At.done rfl ?_
      refine t_n ?_
      refine wp_block ?_
      have ow1292 : OwnR w1270 (Sx (w1270.heap.size) [obk (A384), obk (A1224)]) none 0 3 ([] : List Int) := OwnR.nil
      replace ow987 : OwnR w1270 (Sx (w358.heap.size) [obk none, some (w1237.heap.size), obk (A1224), some (w397.heap.size), some (b_439)]) A384 c385 3 ((subO g (inT g s)) : List Int) := ow987.imp (fun g _ hs => ⟨by simp [obk], hs⟩)
      replace ow1229 : OwnR w1270 (Sx (w979.heap.size) [obk none, some (w1237.heap.size), obk (A384)]) A1224 c1225 3 ((subO (subG g (inT g s)) (inT (subG g (inT g s)) u)) : List Int) := ow1229.imp (fun g _ hs => ⟨by simp [obk], hs⟩)
      have f1298 := f1289.as 28 (.slice none 0 0) (.slice none (([] : List Int).length) 0) rfl (slice_len (by first | rfl | omega | (simp; done) | (simp; omega)))
      clear f1289
      have f1297 := f1298.sub (r := [(28, .slice none (([] : List Int).length) 0), (29, .int .i64 (0)), (27, .bool (subB (subG g (inT g s)) (inT (subG g (inT g s)) u))), (26, .slice A1224 ((subO (subG g (inT g s)) (inT (subG g (inT g s)) u)).length) c1225), (25, .pointer (some ⟨w1237.heap.size, 0, none⟩)), (15, .slice A384 ((subO g (inT g s)).length) c385), (5, .pointer (some ⟨w11.heap.size, 0, none⟩)), (3, .pointer (some ⟨w.heap.size, 0, none⟩))]) ⟨rfl, rfl, rfl, rfl, rfl, rfl, rfl, rfl, trivial⟩
      refine loop_g (fun (m_ : Nat) a_ w_ => ∃ (j : Int) (bo : List Int) (A_1295 : Option Addr) (c_1296 : Nat), m_ = (((subO g (inT g s)).length : Int) - j).toNat ∧ (Frm 279 a_ [(28, .slice A_1295 bo.length c_1296), (29, .int .i64 (j)), (27, .bool (subB (subG g (inT g s)) (inT (subG g (inT g s)) u))), (26, .slice A1224 ((subO (subG g (inT g s)) (inT (subG g (inT g s)) u)).length) c1225), (25, .pointer (some ⟨w1237.heap.size, 0, none⟩)), (15, .slice A384 ((subO g (inT g s)).length) c385), (5, .pointer (some ⟨w11.heap.size, 0, none⟩)), (3, .pointer (some ⟨w.heap.size, 0, none⟩))]) ∧ (Ext w w_) ∧ (RdG w_ 0 w.heap.size Ag0 Ag1 Ag2 cg0 cg1 cg2 g) ∧ (RdT w_ 0 w.heap.size) ∧ (Bx w_ (w.heap.size) [.slice Ag0 g.ow.length cg0, .slice Ag1 g.pr.length cg1, .slice Ag2 g.mv.length cg2] 25) ∧ (Bx w_ (w11.heap.size) ((u : List Int).map wV) 35) ∧ (OwnR w_ (Sx (w358.heap.size) [obk (A_1295), some (w1237.heap.size), obk (A1224)]) A384 c385 3 ((subO g (inT g s)) : List Int)) ∧ (RdG w_ (w358.heap.size) w397.heap.size A378 A380 A382 c379 c381 c383 (subG g (inT g s))) ∧ (OwnR w_ (Sx (w979.heap.size) [obk (A_1295), some (w1237.heap.size), obk (A384)]) A1224 c1225 3 ((subO (subG g (inT g s)) (inT (subG g (inT g s)) u)) : List Int)) ∧ (RdG w_ (w979.heap.size) w1237.heap.size A1218 A1220 A1222 c1219 c1221 c1223 (subG (subG g (inT g s)) (inT (subG g (inT g s)) u))) ∧ (Bx w_ (w1237.heap.size) [.slice A1218 ((subG (subG g (inT g s)) (inT (subG g (inT g s)) u)).ow.length) c1219, .slice A1220 ((subG (subG g (inT g s)) (inT (subG g (inT g s)) u)).pr.length) c1221, .slice A1222 ((subG (subG g (inT g s)) (inT (subG g (inT g s)) u)).mv.length) c1223] 25) ∧ (OwnR w_ (Sx (w1270.heap.size) [obk (A384), obk (A1224)]) A_1295 c_1296 3 (bo : List Int)) ∧ (0 ≤ j) ∧ (j ≤ ((subO g (inT g s)).length : Int)) ∧ (BothT (subO g (inT g s)) (inT (subG g (inT g s)) u) bo j) ∧ (w358.heap.size ≤ w_.heap.size) ∧ (w979.heap.size ≤ w_.heap.size) ∧ (w1270.heap.size ≤ w_.heap.size)) _ ⟨0, ([] : List Int), none, 0, rfl, f1297, e980, r983, r984, bx985, bx986, (ow987.imp (fun g _ hs => ⟨hs.1, hs.2.1, hs.2.2.1, hs.2.2.2.2.2⟩)), r988, ow1229, r1235, bx1272, ow1292, (by omega), (by omega), both_0, (by omega), (by omega), (by omega)⟩ ?_
      clear f1297 f1298
      clear r983
      clear r984
      clear bx985
      clear bx986
      clear ow987
      clear r988
      clear ow1229
      clear r1235
      clear bx1272
      clear ow1292
      clear e980
      intro m_ act1299 w1300 ⟨j, bo, A_1295, c_1296, hm1302, f1303, e1301, r1304, r1305, bx1306, bx1307, ow1308, r1309, ow1310, r1311, bx1312, ow1313, i1314, i1315, hbo, i1316, i1317, i1318⟩
      have szw1300 := e1301.size
      have := bx1306.lt
      have := bx1307.lt
      have := bx1312.lt
      refine wp_seq ?_
      refine wp_seq ?_
      refine At.start ?_
      refine At.rd f1303 4 [[], [], [], []] [(217, .bool (decide ((j : Int) < (((subO g (inT g s)).length : Nat) : Int)))), (216, .int .i64 ((((subO g (inT g s)).length : Nat) : Int))), (215, .slice A384 ((subO g (inT g s)).length) c385), (214, .int .i64 (j))] [] (by kernel_rfl) trivial (fun act1320 f1319 => ?_)
      clear f1303
      refine At.done rfl ?_
      refine t_n ?_
      refine cond_S f1319 (t := decide ((j : Int) < (((subO g (inT g s)).length : Nat) : Int))) rfl (fun h1321 => ?_) (fun h1321 => ?_)
      ·have q1322 := of_decide_eq_true h1321
       refine wp_skip ?_
       refine t_n ?_
       refine wp_seq ?_
       refine wp_block ?_
       refine wp_seq ?_
       refine At.start ?_
       refine At.rd f1319 2 [[.cs ((u : List Int).map wV)], []] [(221, .int .i64 (j)), (220, .agg ((u : List Int).map wV).toArray)] [(((u : List Int).map wV).length = 4), (∀ (j : Nat) (v : Value), ((u : List Int).map wV)[j]? = some v → w1300.cell? ((⟨w11.heap.size, 0, none⟩ : Addr).add j) = some v)] (by kernel_rfl) ⟨((List.length_map _).trans (by assumption)), bx1307.whole, trivial⟩ (fun act1324 f1323 => ?_)
       clear f1319
       refine At.call f1323 33 #[.agg ((u : List Int).map wV).toArray, .int .i64 (j)] (some 222) (by kernel_rfl) (has_any (s := u) (n := j) (by assumption)) ?_
       rintro e_ w1325 ⟨rfl, he⟩
       refine ⟨_, rfl, _, rfl, fun act1326 f1327 => ?_⟩
       clear f1323
       have g1328 := gr_ext he
       have szw1325 := g1328.size
       replace e1301 := e1301.gr g1328 no_row
       replace r1304 := r1304.gr g1328 (fun _ h => by cases h)
       replace r1305 := r1305.gr g1328 (fun _ h => by cases h)
       replace bx1306 := bx1306.gr g1328 (by simp)
       replace bx1307 := bx1307.gr g1328 (by simp)
       replace ow1308 := ow1308.gr g1328 (fun _ _ h => by cases h)
       replace r1309 := r1309.gr g1328 (fun _ h => by cases h)
       replace ow1310 := ow1310.gr g1328 (fun _ _ h => by cases h)
       replace r1311 := r1311.gr g1328 (fun _ h => by cases h)
       replace bx1312 := bx1312.gr g1328 (by simp)
       replace ow1313 := ow1313.gr g1328 (fun _ _ h => by cases h)
       clear g1328 he
       refine At.done rfl ?_
       refine t_n ?_
       refine cond_S f1327 (t := hasW u j) rfl (fun h1340 => ?_) (fun h1340 => ?_)
       ·have hbl := both_len hbo
        refine At.start ?_
        obtain ⟨ad1342, hA1343, hb1346, hc1345, hc1344⟩ := ow1308.get (j) (by omega) (by omega) (sz := 1) rfl
        refine At.rd f1327 5 [[], [], [], [.ad ad1342], [.ld (.int .i64 (gI (subO g (inT g s)) j))]] [(227, .int .i64 (gI (subO g (inT g s)) j)), (226, .pointer (some (ad1342.add ((j : Int).toNat * 1)))), (225, .int .i64 (j)), (224, .slice A384 ((subO g (inT g s)).length) c385), (223, .slice A_1295 bo.length c_1296)] [(A384 = some ad1342), (0 ≤ (j : Int)), ((j : Int) < ((subO g (inT g s)).length : Nat)), (w1325.cell? (ad1342.add ((j : Int).toNat * 1)) = some (.int .i64 (gI (subO g (inT g s)) j)))] (by kernel_rfl) ⟨hA1343, (by omega), (by omega), hc1345, trivial⟩ (fun act1348 f1347 => ?_)
        clear f1327
        refine At.seq f1347 1 [[]] [(228, .slice (some ⟨w1325.heap.size, 0, none⟩) 1 1)] (w1325.alloc (.cells #[.int .i64 (gI (subO g (inT g s)) j)] 3 (0, 0))) [] (by kernel_rfl) trivial (fun act1352 w1349 hw1350 f1351 => ?_)
        clear f1347
        have g1353 := gr_alloc hw1350
        have szw1349 := g1353.size
        replace e1301 := e1301.gr g1353 no_row
        replace r1304 := r1304.gr g1353 (fun _ h => by cases h)
        replace r1305 := r1305.gr g1353 (fun _ h => by cases h)
        replace bx1306 := bx1306.gr g1353 (by simp)
        replace bx1307 := bx1307.gr g1353 (by simp)
        replace ow1308 : OwnR w1349 (Sx (w358.heap.size) [some (w1325.heap.size), obk (A_1295), some (w1237.heap.size), obk (A1224)]) A384 c385 3 ((subO g (inT g s)) : List Int) := ow1308.grA g1353 (fun _ _ h => by cases h) (fun k hk hs => ⟨(fun e => by injection e; omega), hs.1, hs.2.1, hs.2.2.1, hs.2.2.2⟩)
        replace r1309 := r1309.gr g1353 (fun _ h => by cases h)
        replace ow1310 : OwnR w1349 (Sx (w979.heap.size) [some (w1325.heap.size), obk (A_1295), some (w1237.heap.size), obk (A384)]) A1224 c1225 3 ((subO (subG g (inT g s)) (inT (subG g (inT g s)) u)) : List Int) := ow1310.grA g1353 (fun _ _ h => by cases h) (fun k hk hs => ⟨(fun e => by injection e; omega), hs.1, hs.2.1, hs.2.2.1, hs.2.2.2⟩)
        replace r1311 := r1311.gr g1353 (fun _ h => by cases h)
        replace bx1312 := bx1312.gr g1353 (by simp)
        replace ow1313 : OwnR w1349 (Sx (w1270.heap.size) [some (w1325.heap.size), obk (A384), obk (A1224)]) A_1295 c_1296 3 (bo : List Int) := ow1313.grA g1353 (fun _ _ h => by cases h) (fun k hk hs => ⟨(fun e => by injection e; omega), hs.1, hs.2.1, hs.2.2⟩)
        have bx1355 : Bx w1349 (w1325.heap.size) [.int .i64 (gI (subO g (inT g s)) j)] 3 := Bx.new hw1350
        have := bx1355.lt
        clear g1353 hw1350
        have hl1371 : (bo ++ ([gI (subO g (inT g s)) j])).length = (bo).length + ([gI (subO g (inT g s)) j] : List Int).length := List.length_append
        simp only [List.length_cons, List.length_nil] at hl1371
        refine At.act f1351 (appendR (α := Int) (t := 22) (d := 229) (n := bo.length) (m := 1) (cc := 1) (xs := bo) (ys := [gI (subO g (inT g s)) j]) (bytes := 8) (by first | rfl | omega | (simp; done) | (simp; omega)) (by first | rfl | omega | (simp; done) | (simp; omega)) (by kernel_rfl) rfl (by kernel_rfl) ow1313 (Bx.srcR (l := ([gI (subO g (inT g s)) j] : List Int)) bx1355 rfl) (by simp only [List.length_cons, List.length_nil]; omega) (by simp only [List.length_cons, List.length_nil]; omega)) ?_
        rintro d_ v_ w1370 ⟨rfl, A1367, c1368, ha1369⟩
        obtain rfl := ha1369.val
        have g1372 := ha1369.gr
        refine ⟨_, rfl, fun act1374 f1373 => ?_⟩
        clear f1351
        clear bx1355
        have ow1375 := ha1369.own (Sx (w1270.heap.size) [obk (A384), obk (A1224)]) (fun g _ hs => ⟨hs.2.1, hs.2.2.1, hs.2.2.2⟩) ⟨ow1308.ne_new, ow1310.ne_new, (show w1270.heap.size ≤ w1349.heap.size by omega)⟩
        have szw1370 := g1372.size
        replace e1301 := e1301.gr g1372 (fun k hk => by have := ow1313.ge k hk; omega)
        replace r1304 := r1304.gr g1372 (fun k hk => by have := ow1313.ge k hk; omega)
        replace r1305 := r1305.gr g1372 (fun k hk => by have := ow1313.ge k hk; omega)
        replace bx1306 := bx1306.gr g1372 (fun e => by have := ow1313.ge _ e; omega)
        replace bx1307 := bx1307.gr g1372 (fun e => by have := ow1313.ge _ e; omega)
        replace ow1308 : OwnR w1370 (Sx (w358.heap.size) [some (w1325.heap.size), obk (A1367), some (w1237.heap.size), obk (A1224)]) A384 c385 3 ((subO g (inT g s)) : List Int) := ow1308.grA g1372 (fun k hk => hk.2.1) (fun k hk hs => ⟨hs.1, own_repl ha1369.at_ hs.2.1 hk, hs.2.2.1, hs.2.2.2.1, hs.2.2.2.2⟩)
        replace r1309 := r1309.gr g1372 (fun k hk => by have := ow1313.ge k hk; omega)
        replace ow1310 : OwnR w1370 (Sx (w979.heap.size) [some (w1325.heap.size), obk (A1367), some (w1237.heap.size), obk (A384)]) A1224 c1225 3 ((subO (subG g (inT g s)) (inT (subG g (inT g s)) u)) : List Int) := ow1310.grA g1372 (fun k hk => hk.2.1) (fun k hk hs => ⟨hs.1, own_repl ha1369.at_ hs.2.1 hk, hs.2.2.1, hs.2.2.2.1, hs.2.2.2.2⟩)
        replace r1311 := r1311.gr g1372 (fun k hk => by have := ow1313.ge k hk; omega)
        replace bx1312 := bx1312.gr g1372 (fun e => by have := ow1313.ge _ e; omega)
        clear ow1313 g1372 ha1369
        refine At.rd f1373 1 [[]] [(28, .slice A1367 ((bo ++ ([gI (subO g (inT g s)) j])).length) c1368)] [] (by kernel_rfl) trivial (fun act1387 f1386 => ?_)
        clear f1373
        refine At.done rfl ?_
        refine b_n ?_
        refine t_n ?_
        refine At.start ?_
        refine At.rd f1386 3 [[], [.as_ (.int .i64 (j + 1))], []] [(29, .int .i64 (j + 1)), (219, .int .i64 (j + 1)), (218, .int .i64 (j))] [((.int .i64 (IntKind.i64.wrap (j + 1)) : Value) = .int .i64 (j + 1))] (by kernel_rfl) ⟨(w64 (by omega) (by omega)), trivial⟩ (fun act1389 f1388 => ?_)
        clear f1386
        refine At.done rfl ?_
        refine t_n ?_
        have f1390 := f1388.as 28 (.slice A1367 ((bo ++ ([gI (subO g (inT g s)) j])).length) c1368) (.slice A1367 ((bo ++ ([gI (subO g (inT g s)) j]) : List Int).length) c1368) rfl (slice_len (by first | rfl | omega | (simp; done) | (simp; omega)))
        clear f1388
        have f1391 := f1390.sub (r := [(28, .slice A1367 ((bo ++ ([gI (subO g (inT g s)) j]) : List Int).length) c1368), (29, .int .i64 (j + 1)), (27, .bool (subB (subG g (inT g s)) (inT (subG g (inT g s)) u))), (26, .slice A1224 ((subO (subG g (inT g s)) (inT (subG g (inT g s)) u)).length) c1225), (25, .pointer (some ⟨w1237.heap.size, 0, none⟩)), (15, .slice A384 ((subO g (inT g s)).length) c385), (5, .pointer (some ⟨w11.heap.size, 0, none⟩)), (3, .pointer (some ⟨w.heap.size, 0, none⟩))]) ⟨rfl, rfl, rfl, rfl, rfl, rfl, rfl, rfl, trivial⟩
        exact ⟨_, (by omega), (j + 1), (bo ++ ([gI (subO g (inT g s)) j]) : List Int), A1367, c1368, rfl, f1391, e1301, r1304, r1305, bx1306, bx1307, (ow1308.imp (fun g _ hs => ⟨hs.2.1, hs.2.2.1, hs.2.2.2.1, hs.2.2.2.2⟩)), r1309, (ow1310.imp (fun g _ hs => ⟨hs.2.1, hs.2.2.1, hs.2.2.2.1, hs.2.2.2.2⟩)), r1311, bx1312, ow1375, (by omega), (by omega), (both_yes hbo (by omega) (by rw [has_K (by omega) (by omega) (by omega)]; assumption)), (by omega), (by omega), (by omega)⟩
       ·refine wp_skip ?_
        refine b_n ?_
        refine t_n ?_
        refine At.start ?_
        refine At.rd f1327 3 [[], [.as_ (.int .i64 (j + 1))], []] [(29, .int .i64 (j + 1)), (219, .int .i64 (j + 1)), (218, .int .i64 (j))] [((.int .i64 (IntKind.i64.wrap (j + 1)) : Value) = .int .i64 (j + 1))] (by kernel_rfl) ⟨(w64 (by omega) (by omega)), trivial⟩ (fun act1394 f1393 => ?_)
        clear f1327
        refine At.done rfl ?_
        refine t_n ?_
        have f1395 := f1393.as 28 (.slice A_1295 bo.length c_1296) (.slice A_1295 ((bo : List Int).length) c_1296) rfl (slice_len (by first | rfl | omega | (simp; done) | (simp; omega)))
        clear f1393
        have f1396 := f1395.sub (r := [(28, .slice A_1295 ((bo : List Int).length) c_1296), (29, .int .i64 (j + 1)), (27, .bool (subB (subG g (inT g s)) (inT (subG g (inT g s)) u))), (26, .slice A1224 ((subO (subG g (inT g s)) (inT (subG g (inT g s)) u)).length) c1225), (25, .pointer (some ⟨w1237.heap.size, 0, none⟩)), (15, .slice A384 ((subO g (inT g s)).length) c385), (5, .pointer (some ⟨w11.heap.size, 0, none⟩)), (3, .pointer (some ⟨w.heap.size, 0, none⟩))]) ⟨rfl, rfl, rfl, rfl, rfl, rfl, rfl, rfl, trivial⟩
        exact ⟨_, (by omega), (j + 1), (bo : List Int), A_1295, c_1296, rfl, f1396, e1301, r1304, r1305, bx1306, bx1307, ow1308, r1309, ow1310, r1311, bx1312, ow1313, (by omega), (by omega), (both_no hbo (by omega) (by rw [has_K (by omega) (by omega) (by omega)]; assumption)), (by omega), (by omega), (by omega)⟩
      ·have q1397 := of_decide_eq_false h1321
       refine wp_exit ?_
       refine t_e ?_
       refine t_e ?_
       refine b_e ?_
       refine t_n ?_
       clear bx1307
       have hbl := both_len hbo
       refine wp_seq (cut (fun a_ w_ => ∃ (b_1406 : Nat) (A_1398 : Option Addr) (A_1399 : Option Addr) (A_1400 : Option Addr) (A_1401 : Option Addr) (c_1402 : Nat) (c_1403 : Nat) (c_1404 : Nat) (c_1405 : Nat), (Frm 279 a_ [(32, .bool (subB g (inT g (ofW bo)))), (31, .slice (A_1398) ((subO g (inT g (ofW bo))).length) (c_1402)), (30, .pointer (some ⟨b_1406, 0, none⟩)), (27, .bool (subB (subG g (inT g s)) (inT (subG g (inT g s)) u))), (26, .slice A1224 ((subO (subG g (inT g s)) (inT (subG g (inT g s)) u)).length) c1225), (25, .pointer (some ⟨w1237.heap.size, 0, none⟩)), (15, .slice A384 ((subO g (inT g s)).length) c385)]) ∧ (Ext w w_) ∧ (RdG w_ 0 w.heap.size Ag0 Ag1 Ag2 cg0 cg1 cg2 g) ∧ (RdT w_ 0 w.heap.size) ∧ (Bx w_ (w.heap.size) [.slice Ag0 g.ow.length cg0, .slice Ag1 g.pr.length cg1, .slice Ag2 g.mv.length cg2] 25) ∧ (OwnR w_ (Sx (w358.heap.size) [obk (A_1295), some (w1237.heap.size), obk (A1224), obk (A_1398), obk (A_1399), obk (A_1400), obk (A_1401), some (b_1406)]) A384 c385 3 ((subO g (inT g s)) : List Int)) ∧ (RdG w_ (w358.heap.size) w397.heap.size A378 A380 A382 c379 c381 c383 (subG g (inT g s))) ∧ (OwnR w_ (Sx (w979.heap.size) [obk (A_1295), some (w1237.heap.size), obk (A384), obk (A_1398), obk (A_1399), obk (A_1400), obk (A_1401), some (b_1406)]) A1224 c1225 3 ((subO (subG g (inT g s)) (inT (subG g (inT g s)) u)) : List Int)) ∧ (RdG w_ (w979.heap.size) w1237.heap.size A1218 A1220 A1222 c1219 c1221 c1223 (subG (subG g (inT g s)) (inT (subG g (inT g s)) u))) ∧ (Bx w_ (w1237.heap.size) [.slice A1218 ((subG (subG g (inT g s)) (inT (subG g (inT g s)) u)).ow.length) c1219, .slice A1220 ((subG (subG g (inT g s)) (inT (subG g (inT g s)) u)).pr.length) c1221, .slice A1222 ((subG (subG g (inT g s)) (inT (subG g (inT g s)) u)).mv.length) c1223] 25) ∧ (OwnR w_ (Sx (w1270.heap.size) [obk (A384), obk (A1224), obk (A_1398), obk (A_1399), obk (A_1400), obk (A_1401), some (b_1406)]) A_1295 c_1296 3 (bo : List Int)) ∧ (OwnR w_ (Sx (w1300.heap.size) [obk (A384), obk (A1224), obk (A_1295), obk (A_1399), obk (A_1400), obk (A_1401), some (b_1406)]) (A_1398) (c_1402) 3 ((subO g (inT g (ofW bo))) : List Int)) ∧ (OwnR w_ (Sx (w1300.heap.size) [obk (A384), obk (A1224), obk (A_1295), obk (A_1398), obk (A_1400), obk (A_1401), some (b_1406)]) (A_1399) (c_1403) 3 ((subG g (inT g (ofW bo))).ow : List Int)) ∧ (OwnR w_ (Sx (w1300.heap.size) [obk (A384), obk (A1224), obk (A_1295), obk (A_1398), obk (A_1399), obk (A_1401), some (b_1406)]) (A_1400) (c_1404) 3 ((subG g (inT g (ofW bo))).pr : List Int)) ∧ (OwnLL w_ (w1300.heap.size) [obk (A384), obk (A1224), obk (A_1295), obk (A_1398), obk (A_1399), obk (A_1400), some (b_1406)] (A_1401) (c_1405) 22 3 ((subG g (inT g (ofW bo))).mv : List (List Int))) ∧ (Bx w_ (b_1406) [.slice (A_1399) ((subG g (inT g (ofW bo))).ow.length) (c_1403), .slice (A_1400) ((subG g (inT g (ofW bo))).pr.length) (c_1404), .slice (A_1401) ((subG g (inT g (ofW bo))).mv.length) (c_1405)] 25) ∧ (w1300.heap.size ≤ b_1406) ∧ (w1300.heap.size ≤ w_.heap.size)) ?_ ?_)
       ·obtain ⟨Cs1407, hCs1408⟩ : ∃ c : List (Addr × Value), c = [(⟨w.heap.size, 0, none⟩, (.slice Ag0 g.ow.length cg0)), (⟨w.heap.size, 1, none⟩, (.slice Ag1 g.pr.length cg1)), (⟨w.heap.size, 2, none⟩, (.slice Ag2 g.mv.length cg2))] := ⟨_, rfl⟩
        have hS1409 : HoldsC Cs1407 w1300 := by rw [hCs1408]; exact ⟨(bx1306.cell (i := 0) rfl), (bx1306.cell (i := 1) rfl), (bx1306.cell (i := 2) rfl), trivial⟩
        refine AtH.start Cs1407 12 #[false, false, false, false, false, false, false, false, false, false, false, false] (by kernel_rfl) rfl rfl (fun w1411 hw1412 => ?_)
        have g1410 := gr_drew hw1412
        have hS1413 := hS1409.gr g1410
        have szw1411 := g1410.size
        replace e1301 := e1301.gr g1410 no_row
        replace r1304 := r1304.gr g1410 (fun _ h => by cases h)
        replace r1305 := r1305.gr g1410 (fun _ h => by cases h)
        replace bx1306 := bx1306.gr g1410 (by simp)
        replace ow1308 := ow1308.gr g1410 (fun _ _ h => by cases h)
        replace r1309 := r1309.gr g1410 (fun _ h => by cases h)
        replace ow1310 := ow1310.gr g1410 (fun _ _ h => by cases h)
        replace r1311 := r1311.gr g1410 (fun _ h => by cases h)
        replace bx1312 := bx1312.gr g1410 (by simp)
        replace ow1313 := ow1313.gr g1410 (fun _ _ h => by cases h)
        clear g1410 hw1412 hS1409
        refine AtH.rd (by kernel_rfl) (fun d v c a w h => by cases d <;> exact h) hS1413 [0, 1] [[.ld (.slice Ag0 g.ow.length cg0), .ld (.slice Ag1 g.pr.length cg1), .ld (.slice Ag2 g.mv.length cg2)], []] [(232, .slice A_1295 bo.length c_1296), (231, .agg #[.slice Ag0 g.ow.length cg0, .slice Ag1 g.pr.length cg1, .slice Ag2 g.mv.length cg2])] #[true, true, false, false, false, false, false, false, false, false, false, false] [(∃ j_ : Nat, Cs1407[j_]? = some (⟨w.heap.size, 0, none⟩, (.slice Ag0 g.ow.length cg0))), (∃ j_ : Nat, Cs1407[j_]? = some (⟨w.heap.size, 1, none⟩, (.slice Ag1 g.pr.length cg1))), (∃ j_ : Nat, Cs1407[j_]? = some (⟨w.heap.size, 2, none⟩, (.slice Ag2 g.mv.length cg2)))] 10 f1319 (by kernel_rfl) ⟨⟨0, by rw [hCs1408]; rfl⟩, ⟨1, by rw [hCs1408]; rfl⟩, ⟨2, by rw [hCs1408]; rfl⟩, trivial⟩ (fun act1425 f1424 => ?_)
        clear f1319
        refine AtH.all [2, 8] 9 (by kernel_rfl) (by simp) ⟨?_, ?_, trivial⟩
        ·refine OneH.call f1424 34 #[.slice A_1295 bo.length c_1296] (some 233) #[true, true, true, false, false, false, false, false, false, false, false, false] (by kernel_rfl) (by kernel_rfl) (of_any (la := bo) (ow1313.rdI0 (by first | omega | (simp only [List.length_cons, List.length_nil]; omega) | (simp; done) | (simp; omega)))) ?_
         rintro e_ w1427 ⟨rfl, he⟩
         refine ⟨_, rfl, _, rfl, fun act1428 f1429 => ?_⟩
         clear f1424
         have g1430 := gr_ext he
         have hS1426 := hS1413.gr g1430
         have szw1427 := g1430.size
         replace e1301 := e1301.gr g1430 no_row
         replace r1304 := r1304.gr g1430 (fun _ h => by cases h)
         replace r1305 := r1305.gr g1430 (fun _ h => by cases h)
         replace bx1306 := bx1306.gr g1430 (by simp)
         replace ow1308 := ow1308.gr g1430 (fun _ _ h => by cases h)
         replace r1309 := r1309.gr g1430 (fun _ h => by cases h)
         replace ow1310 := ow1310.gr g1430 (fun _ _ h => by cases h)
         replace r1311 := r1311.gr g1430 (fun _ h => by cases h)
         replace bx1312 := bx1312.gr g1430 (by simp)
         replace ow1313 := ow1313.gr g1430 (fun _ _ h => by cases h)
         clear g1430 he
         refine ⟨hS1426, ?_⟩
         refine AtH.all [3, 8] 8 (by kernel_rfl) (by simp) ⟨?_, ?_, trivial⟩
         ·refine OneH.call f1429 22 #[.agg #[.slice Ag0 g.ow.length cg0, .slice Ag1 g.pr.length cg1, .slice Ag2 g.mv.length cg2], .agg ((ofW bo : List Int).map wV).toArray] (some 234) #[true, true, true, true, false, false, false, false, false, false, false, false] (by kernel_rfl) (by kernel_rfl) (subM_any (g := g) (s := ofW bo) (r1304.wide (Nat.zero_le _) (by omega)) (ofW_ok _) (r1305.wide (Nat.zero_le _) (by omega))) ?_
          rintro e_ w1459 ⟨A1442, c1443, A1444, c1445, A1446, c1447, A1448, c1449, rfl, he, ow1450, ow1451, ow1452, ow1453⟩
          have hip1458 := sub_inner g (ofW bo)
          have := sub_lens g (inT g (ofW bo))
          refine ⟨_, rfl, _, rfl, fun act1460 f1461 => ?_⟩
          clear f1429
          have g1462 := gr_ext he
          have hS1441 := hS1426.gr g1462
          have lt1463 := ow1308.lt
          have lt1464 := ow1310.lt
          have lt1465 := ow1313.lt
          have szw1459 := g1462.size
          replace e1301 := e1301.gr g1462 no_row
          replace r1304 := r1304.gr g1462 (fun _ h => by cases h)
          replace r1305 := r1305.gr g1462 (fun _ h => by cases h)
          replace bx1306 := bx1306.gr g1462 (by simp)
          replace ow1308 : OwnR w1459 (Sx (w358.heap.size) [obk (A1442), obk (A1444), obk (A1446), obk (A1448), obk (A_1295), some (w1237.heap.size), obk (A1224)]) A384 c385 3 ((subO g (inT g s)) : List Int) := ow1308.grA g1462 (fun _ _ h => by cases h) (fun k hk hs => ⟨(fun e => by have := ow1450.ge _ e; omega), (fun e => by have := ow1451.ge _ e; omega), (fun e => by have := ow1452.ge _ e; omega), (fun e => by have := ow1453.ge _ e; omega), hs.1, hs.2.1, hs.2.2.1, hs.2.2.2⟩)
          replace r1309 := r1309.gr g1462 (fun _ h => by cases h)
          replace ow1310 : OwnR w1459 (Sx (w979.heap.size) [obk (A1442), obk (A1444), obk (A1446), obk (A1448), obk (A_1295), some (w1237.heap.size), obk (A384)]) A1224 c1225 3 ((subO (subG g (inT g s)) (inT (subG g (inT g s)) u)) : List Int) := ow1310.grA g1462 (fun _ _ h => by cases h) (fun k hk hs => ⟨(fun e => by have := ow1450.ge _ e; omega), (fun e => by have := ow1451.ge _ e; omega), (fun e => by have := ow1452.ge _ e; omega), (fun e => by have := ow1453.ge _ e; omega), hs.1, hs.2.1, hs.2.2.1, hs.2.2.2⟩)
          replace r1311 := r1311.gr g1462 (fun _ h => by cases h)
          replace bx1312 := bx1312.gr g1462 (by simp)
          replace ow1313 : OwnR w1459 (Sx (w1270.heap.size) [obk (A1442), obk (A1444), obk (A1446), obk (A1448), obk (A384), obk (A1224)]) A_1295 c_1296 3 (bo : List Int) := ow1313.grA g1462 (fun _ _ h => by cases h) (fun k hk hs => ⟨(fun e => by have := ow1450.ge _ e; omega), (fun e => by have := ow1451.ge _ e; omega), (fun e => by have := ow1452.ge _ e; omega), (fun e => by have := ow1453.ge _ e; omega), hs.1, hs.2.1, hs.2.2⟩)
          replace ow1450 : OwnR w1459 (Sx (w1427.heap.size) [obk (A384), obk (A1224), obk (A_1295), obk (A1444), obk (A1446), obk (A1448)]) A1442 c1443 3 ((subG g (inT g (ofW bo))).ow : List Int) := ow1450.imp (fun g _ hs => ⟨(fun e => by have := lt1463 _ e; have := Sx_base hs; omega), (fun e => by have := lt1464 _ e; have := Sx_base hs; omega), (fun e => by have := lt1465 _ e; have := Sx_base hs; omega), hs⟩)
          replace ow1451 : OwnR w1459 (Sx (w1427.heap.size) [obk (A384), obk (A1224), obk (A_1295), obk (A1442), obk (A1446), obk (A1448)]) A1444 c1445 3 ((subG g (inT g (ofW bo))).pr : List Int) := ow1451.imp (fun g _ hs => ⟨(fun e => by have := lt1463 _ e; have := Sx_base hs; omega), (fun e => by have := lt1464 _ e; have := Sx_base hs; omega), (fun e => by have := lt1465 _ e; have := Sx_base hs; omega), hs⟩)
          replace ow1452 : OwnLL w1459 (w1427.heap.size) [obk (A384), obk (A1224), obk (A_1295), obk (A1442), obk (A1444), obk (A1448)] A1446 c1447 22 3 ((subG g (inT g (ofW bo))).mv : List (List Int)) := ow1452.imp (fun g _ hs => ⟨(fun e => by have := lt1463 _ e; have := Sx_base hs; omega), (fun e => by have := lt1464 _ e; have := Sx_base hs; omega), (fun e => by have := lt1465 _ e; have := Sx_base hs; omega), hs⟩)
          replace ow1453 : OwnR w1459 (Sx (w1427.heap.size) [obk (A384), obk (A1224), obk (A_1295), obk (A1442), obk (A1444), obk (A1446)]) A1448 c1449 3 ((subO g (inT g (ofW bo))) : List Int) := ow1453.imp (fun g _ hs => ⟨(fun e => by have := lt1463 _ e; have := Sx_base hs; omega), (fun e => by have := lt1464 _ e; have := Sx_base hs; omega), (fun e => by have := lt1465 _ e; have := Sx_base hs; omega), hs⟩)
          clear lt1463 lt1464 lt1465
          clear g1462 he
          refine ⟨hS1441, ?_⟩
          refine AtH.rd (by kernel_rfl) (fun d v c a w h => by cases d <;> exact h) hS1441 [4] [[]] [(230, .tuple #[.agg #[.slice A1442 ((subG g (inT g (ofW bo))).ow.length) c1443, .slice A1444 ((subG g (inT g (ofW bo))).pr.length) c1445, .slice A1446 ((subG g (inT g (ofW bo))).mv.length) c1447], .slice A1448 ((subO g (inT g (ofW bo))).length) c1449, .bool (subB g (inT g (ofW bo)))])] #[true, true, true, true, true, false, false, false, false, false, false, false] [] 7 f1461 (by kernel_rfl) trivial (fun act1481 f1480 => ?_)
          clear f1461
          refine AtH.rd (by kernel_rfl) (fun d v c a w h => by cases d <;> exact h) hS1441 [5] [[]] [(235, .agg #[.slice A1442 ((subG g (inT g (ofW bo))).ow.length) c1443, .slice A1444 ((subG g (inT g (ofW bo))).pr.length) c1445, .slice A1446 ((subG g (inT g (ofW bo))).mv.length) c1447])] #[true, true, true, true, true, true, false, false, false, false, false, false] [] 6 f1480 (by kernel_rfl) trivial (fun act1483 f1482 => ?_)
          clear f1480
          refine AtH.rd (by kernel_rfl) (fun d v c a w h => by cases d <;> exact h) hS1441 [6] [[]] [(236, .slice A1448 ((subO g (inT g (ofW bo))).length) c1449)] #[true, true, true, true, true, true, true, false, false, false, false, false] [] 5 f1482 (by kernel_rfl) trivial (fun act1485 f1484 => ?_)
          clear f1482
          refine AtH.rd (by kernel_rfl) (fun d v c a w h => by cases d <;> exact h) hS1441 [7] [[]] [(237, .bool (subB g (inT g (ofW bo))))] #[true, true, true, true, true, true, true, true, false, false, false, false] [] 4 f1484 (by kernel_rfl) trivial (fun act1487 f1486 => ?_)
          clear f1484
          refine AtH.all [8] 3 (by kernel_rfl) (by simp) ⟨?_, trivial⟩
          refine OneH.seq f1486 [[]] [(30, .pointer (some ⟨w1459.heap.size, 0, none⟩))] (w1459.alloc (.cells #[.slice none 0 0, .slice none 0 0, .slice none 0 0] 25 (0, 0))) [] #[true, true, true, true, true, true, true, true, true, false, false, false] (by kernel_rfl) (by kernel_rfl) (by kernel_rfl) trivial (fun act1492 w1489 hw1490 f1491 => ?_)
          clear f1486
          have g1493 := gr_alloc hw1490
          have hS1488 := hS1441.gr g1493
          have szw1489 := g1493.size
          replace e1301 := e1301.gr g1493 no_row
          replace r1304 := r1304.gr g1493 (fun _ h => by cases h)
          replace r1305 := r1305.gr g1493 (fun _ h => by cases h)
          replace bx1306 := bx1306.gr g1493 (by simp)
          replace ow1308 : OwnR w1489 (Sx (w358.heap.size) [some (w1459.heap.size), obk (A1442), obk (A1444), obk (A1446), obk (A1448), obk (A_1295), some (w1237.heap.size), obk (A1224)]) A384 c385 3 ((subO g (inT g s)) : List Int) := ow1308.grA g1493 (fun _ _ h => by cases h) (fun k hk hs => ⟨(fun e => by injection e; omega), hs.1, hs.2.1, hs.2.2.1, hs.2.2.2.1, hs.2.2.2.2.1, hs.2.2.2.2.2.1, hs.2.2.2.2.2.2.1, hs.2.2.2.2.2.2.2⟩)
          replace r1309 := r1309.gr g1493 (fun _ h => by cases h)
          replace ow1310 : OwnR w1489 (Sx (w979.heap.size) [some (w1459.heap.size), obk (A1442), obk (A1444), obk (A1446), obk (A1448), obk (A_1295), some (w1237.heap.size), obk (A384)]) A1224 c1225 3 ((subO (subG g (inT g s)) (inT (subG g (inT g s)) u)) : List Int) := ow1310.grA g1493 (fun _ _ h => by cases h) (fun k hk hs => ⟨(fun e => by injection e; omega), hs.1, hs.2.1, hs.2.2.1, hs.2.2.2.1, hs.2.2.2.2.1, hs.2.2.2.2.2.1, hs.2.2.2.2.2.2.1, hs.2.2.2.2.2.2.2⟩)
          replace r1311 := r1311.gr g1493 (fun _ h => by cases h)
          replace bx1312 := bx1312.gr g1493 (by simp)
          replace ow1313 : OwnR w1489 (Sx (w1270.heap.size) [some (w1459.heap.size), obk (A1442), obk (A1444), obk (A1446), obk (A1448), obk (A384), obk (A1224)]) A_1295 c_1296 3 (bo : List Int) := ow1313.grA g1493 (fun _ _ h => by cases h) (fun k hk hs => ⟨(fun e => by injection e; omega), hs.1, hs.2.1, hs.2.2.1, hs.2.2.2.1, hs.2.2.2.2.1, hs.2.2.2.2.2.1, hs.2.2.2.2.2.2⟩)
          replace ow1450 : OwnR w1489 (Sx (w1427.heap.size) [some (w1459.heap.size), obk (A384), obk (A1224), obk (A_1295), obk (A1444), obk (A1446), obk (A1448)]) A1442 c1443 3 ((subG g (inT g (ofW bo))).ow : List Int) := ow1450.grA g1493 (fun _ _ h => by cases h) (fun k hk hs => ⟨(fun e => by injection e; omega), hs.1, hs.2.1, hs.2.2.1, hs.2.2.2.1, hs.2.2.2.2.1, hs.2.2.2.2.2.1, hs.2.2.2.2.2.2⟩)
          replace ow1451 : OwnR w1489 (Sx (w1427.heap.size) [some (w1459.heap.size), obk (A384), obk (A1224), obk (A_1295), obk (A1442), obk (A1446), obk (A1448)]) A1444 c1445 3 ((subG g (inT g (ofW bo))).pr : List Int) := ow1451.grA g1493 (fun _ _ h => by cases h) (fun k hk hs => ⟨(fun e => by injection e; omega), hs.1, hs.2.1, hs.2.2.1, hs.2.2.2.1, hs.2.2.2.2.1, hs.2.2.2.2.2.1, hs.2.2.2.2.2.2⟩)
          replace ow1452 : OwnLL w1489 (w1427.heap.size) [some (w1459.heap.size), obk (A384), obk (A1224), obk (A_1295), obk (A1442), obk (A1444), obk (A1448)] A1446 c1447 22 3 ((subG g (inT g (ofW bo))).mv : List (List Int)) := ow1452.grA g1493 (fun _ _ h => by cases h) (fun k hk hs => ⟨(fun e => by injection e; omega), hs.1, hs.2.1, hs.2.2.1, hs.2.2.2.1, hs.2.2.2.2.1, hs.2.2.2.2.2.1, hs.2.2.2.2.2.2⟩)
          replace ow1453 : OwnR w1489 (Sx (w1427.heap.size) [some (w1459.heap.size), obk (A384), obk (A1224), obk (A_1295), obk (A1442), obk (A1444), obk (A1446)]) A1448 c1449 3 ((subO g (inT g (ofW bo))) : List Int) := ow1453.grA g1493 (fun _ _ h => by cases h) (fun k hk hs => ⟨(fun e => by injection e; omega), hs.1, hs.2.1, hs.2.2.1, hs.2.2.2.1, hs.2.2.2.2.1, hs.2.2.2.2.2.1, hs.2.2.2.2.2.2⟩)
          have bx1509 : Bx w1489 (w1459.heap.size) [.slice none 0 0, .slice none 0 0, .slice none 0 0] 25 := Bx.new hw1490
          have := bx1509.lt
          clear g1493 hw1490
          refine ⟨hS1488, ?_⟩
          refine AtH.all [9] 2 (by kernel_rfl) (by simp) ⟨?_, trivial⟩
          refine OneH.store f1491 (t := 25) (b := w1459.heap.size) (off := 0) (v := .agg #[.slice A1442 ((subG g (inT g (ofW bo))).ow.length) c1443, .slice A1444 ((subG g (inT g (ofW bo))).pr.length) c1445, .slice A1446 ((subG g (inT g (ofW bo))).mv.length) c1447]) #[true, true, true, true, true, true, true, true, true, true, false, false] (by kernel_rfl) (by kernel_rfl) bx1509 (by kernel_rfl) (fun act1515 w1511 g1512 bx1513 f1514 => ?_)
          clear f1491
          replace bx1513 : Bx w1511 (w1459.heap.size) [.slice A1442 ((subG g (inT g (ofW bo))).ow.length) c1443, .slice A1444 ((subG g (inT g (ofW bo))).pr.length) c1445, .slice A1446 ((subG g (inT g (ofW bo))).mv.length) c1447] 25 := bx1513
          have hS1510 := hS1488.gr' g1512 (by rw [hCs1408]; exact ⟨(by simp only [add_block]; omega), (by simp only [add_block]; omega), (by simp only [add_block]; omega), trivial⟩)
          have szw1511 := g1512.size
          replace e1301 := e1301.gr g1512 (fun k h => by injection h; omega)
          replace r1304 := r1304.gr g1512 (fun k h => by injection h; omega)
          replace r1305 := r1305.gr g1512 (fun k h => by injection h; omega)
          replace bx1306 := bx1306.gr g1512 (fun h => by injection h; omega)
          replace ow1308 := ow1308.gr g1512 (fun k hk => hk.1)
          replace r1309 := r1309.gr g1512 (fun k h => by injection h; omega)
          replace ow1310 := ow1310.gr g1512 (fun k hk => hk.1)
          replace r1311 := r1311.gr g1512 (fun k h => by injection h; omega)
          replace bx1312 := bx1312.gr g1512 (fun h => by injection h; omega)
          replace ow1313 := ow1313.gr g1512 (fun k hk => hk.1)
          replace ow1450 := ow1450.gr g1512 (fun k hk => hk.1)
          replace ow1451 := ow1451.gr g1512 (fun k hk => hk.1)
          replace ow1452 := ow1452.gr g1512 (fun k hk => hk.1)
          replace ow1453 := ow1453.gr g1512 (fun k hk => hk.1)
          clear bx1509 g1512
          refine ⟨hS1510, ?_⟩
          refine AtH.rd (by kernel_rfl) (fun d v c a w h => by cases d <;> exact h) hS1510 [10] [[]] [(31, .slice A1448 ((subO g (inT g (ofW bo))).length) c1449)] #[true, true, true, true, true, true, true, true, true, true, true, false] [] 1 f1514 (by kernel_rfl) trivial (fun act1531 f1530 => ?_)
          clear f1514
          refine AtH.rd (by kernel_rfl) (fun d v c a w h => by cases d <;> exact h) hS1510 [11] [[]] [(32, .bool (subB g (inT g (ofW bo))))] #[true, true, true, true, true, true, true, true, true, true, true, true] [] 0 f1530 (by kernel_rfl) trivial (fun act1533 f1532 => ?_)
          clear f1530
          refine AtH.done (by kernel_rfl) ?_
          clear hS1510
          refine t_n ?_
          have f1534 := f1532.sub (r := [(32, .bool (subB g (inT g (ofW bo)))), (31, .slice A1448 ((subO g (inT g (ofW bo))).length) c1449), (30, .pointer (some ⟨w1459.heap.size, 0, none⟩)), (27, .bool (subB (subG g (inT g s)) (inT (subG g (inT g s)) u))), (26, .slice A1224 ((subO (subG g (inT g s)) (inT (subG g (inT g s)) u)).length) c1225), (25, .pointer (some ⟨w1237.heap.size, 0, none⟩)), (15, .slice A384 ((subO g (inT g s)).length) c385)]) ⟨rfl, rfl, rfl, rfl, rfl, rfl, rfl, trivial⟩
          exact ⟨w1459.heap.size, A1448, A1442, A1444, A1446, c1449, c1443, c1445, c1447, f1534, e1301, r1304, r1305, bx1306, (ow1308.imp (fun g _ hs => ⟨hs.2.2.2.2.2.1, hs.2.2.2.2.2.2.1, hs.2.2.2.2.2.2.2.1, hs.2.2.2.2.1, hs.2.1, hs.2.2.1, hs.2.2.2.1, hs.1, (by have := Sx_base hs; show w358.heap.size ≤ g; omega)⟩)), r1309, (ow1310.imp (fun g _ hs => ⟨hs.2.2.2.2.2.1, hs.2.2.2.2.2.2.1, hs.2.2.2.2.2.2.2.1, hs.2.2.2.2.1, hs.2.1, hs.2.2.1, hs.2.2.2.1, hs.1, (by have := Sx_base hs; show w979.heap.size ≤ g; omega)⟩)), r1311, bx1312, (ow1313.imp (fun g _ hs => ⟨hs.2.2.2.2.2.1, hs.2.2.2.2.2.2.1, hs.2.2.2.2.1, hs.2.1, hs.2.2.1, hs.2.2.2.1, hs.1, (by have := Sx_base hs; show w1270.heap.size ≤ g; omega)⟩)), (ow1453.imp (fun g _ hs => ⟨hs.2.1, hs.2.2.1, hs.2.2.2.1, hs.2.2.2.2.1, hs.2.2.2.2.2.1, hs.2.2.2.2.2.2.1, hs.1, (by have := Sx_base hs; show w1300.heap.size ≤ g; omega)⟩)), (ow1450.imp (fun g _ hs => ⟨hs.2.1, hs.2.2.1, hs.2.2.2.1, hs.2.2.2.2.2.2.1, hs.2.2.2.2.1, hs.2.2.2.2.2.1, hs.1, (by have := Sx_base hs; show w1300.heap.size ≤ g; omega)⟩)), (ow1451.imp (fun g _ hs => ⟨hs.2.1, hs.2.2.1, hs.2.2.2.1, hs.2.2.2.2.2.2.1, hs.2.2.2.2.1, hs.2.2.2.2.2.1, hs.1, (by have := Sx_base hs; show w1300.heap.size ≤ g; omega)⟩)), (ow1452.imp (fun g _ hs => ⟨hs.2.1, hs.2.2.1, hs.2.2.2.1, hs.2.2.2.2.2.2.1, hs.2.2.2.2.1, hs.2.2.2.2.2.1, hs.1, (by have := Sx_base hs; show w1300.heap.size ≤ g; omega)⟩)), bx1513, (by omega), (by omega)⟩
         ·refine OneH.seq f1429 [[]] [(30, .pointer (some ⟨w1427.heap.size, 0, none⟩))] (w1427.alloc (.cells #[.slice none 0 0, .slice none 0 0, .slice none 0 0] 25 (0, 0))) [] #[true, true, true, false, false, false, false, false, true, false, false, false] (by kernel_rfl) (by kernel_rfl) (by kernel_rfl) trivial (fun act1539 w1536 hw1537 f1538 => ?_)
          clear f1429
          have g1540 := gr_alloc hw1537
          have hS1535 := hS1426.gr g1540
          have szw1536 := g1540.size
          replace e1301 := e1301.gr g1540 no_row
          replace r1304 := r1304.gr g1540 (fun _ h => by cases h)
          replace r1305 := r1305.gr g1540 (fun _ h => by cases h)
          replace bx1306 := bx1306.gr g1540 (by simp)
          replace ow1308 : OwnR w1536 (Sx (w358.heap.size) [some (w1427.heap.size), obk (A_1295), some (w1237.heap.size), obk (A1224)]) A384 c385 3 ((subO g (inT g s)) : List Int) := ow1308.grA g1540 (fun _ _ h => by cases h) (fun k hk hs => ⟨(fun e => by injection e; omega), hs.1, hs.2.1, hs.2.2.1, hs.2.2.2⟩)
          replace r1309 := r1309.gr g1540 (fun _ h => by cases h)
          replace ow1310 : OwnR w1536 (Sx (w979.heap.size) [some (w1427.heap.size), obk (A_1295), some (w1237.heap.size), obk (A384)]) A1224 c1225 3 ((subO (subG g (inT g s)) (inT (subG g (inT g s)) u)) : List Int) := ow1310.grA g1540 (fun _ _ h => by cases h) (fun k hk hs => ⟨(fun e => by injection e; omega), hs.1, hs.2.1, hs.2.2.1, hs.2.2.2⟩)
          replace r1311 := r1311.gr g1540 (fun _ h => by cases h)
          replace bx1312 := bx1312.gr g1540 (by simp)
          replace ow1313 : OwnR w1536 (Sx (w1270.heap.size) [some (w1427.heap.size), obk (A384), obk (A1224)]) A_1295 c_1296 3 (bo : List Int) := ow1313.grA g1540 (fun _ _ h => by cases h) (fun k hk hs => ⟨(fun e => by injection e; omega), hs.1, hs.2.1, hs.2.2⟩)
          have bx1552 : Bx w1536 (w1427.heap.size) [.slice none 0 0, .slice none 0 0, .slice none 0 0] 25 := Bx.new hw1537
          have := bx1552.lt
          clear g1540 hw1537
          refine ⟨hS1535, ?_⟩
          refine AtH.all [3] 7 (by kernel_rfl) (by simp) ⟨?_, trivial⟩
          refine OneH.call f1538 22 #[.agg #[.slice Ag0 g.ow.length cg0, .slice Ag1 g.pr.length cg1, .slice Ag2 g.mv.length cg2], .agg ((ofW bo : List Int).map wV).toArray] (some 234) #[true, true, true, true, false, false, false, false, true, false, false, false] (by kernel_rfl) (by kernel_rfl) (subM_any (g := g) (s := ofW bo) (r1304.wide (Nat.zero_le _) (by omega)) (ofW_ok _) (r1305.wide (Nat.zero_le _) (by omega))) ?_
          rintro e_ w1571 ⟨A1554, c1555, A1556, c1557, A1558, c1559, A1560, c1561, rfl, he, ow1562, ow1563, ow1564, ow1565⟩
          have hip1570 := sub_inner g (ofW bo)
          have := sub_lens g (inT g (ofW bo))
          refine ⟨_, rfl, _, rfl, fun act1572 f1573 => ?_⟩
          clear f1538
          have g1574 := gr_ext he
          have hS1553 := hS1535.gr g1574
          have lt1575 := ow1308.lt
          have lt1576 := ow1310.lt
          have lt1577 := ow1313.lt
          have szw1571 := g1574.size
          replace e1301 := e1301.gr g1574 no_row
          replace r1304 := r1304.gr g1574 (fun _ h => by cases h)
          replace r1305 := r1305.gr g1574 (fun _ h => by cases h)
          replace bx1306 := bx1306.gr g1574 (by simp)
          replace ow1308 : OwnR w1571 (Sx (w358.heap.size) [obk (A1554), obk (A1556), obk (A1558), obk (A1560), some (w1427.heap.size), obk (A_1295), some (w1237.heap.size), obk (A1224)]) A384 c385 3 ((subO g (inT g s)) : List Int) := ow1308.grA g1574 (fun _ _ h => by cases h) (fun k hk hs => ⟨(fun e => by have := ow1562.ge _ e; omega), (fun e => by have := ow1563.ge _ e; omega), (fun e => by have := ow1564.ge _ e; omega), (fun e => by have := ow1565.ge _ e; omega), hs.1, hs.2.1, hs.2.2.1, hs.2.2.2.1, hs.2.2.2.2⟩)
          replace r1309 := r1309.gr g1574 (fun _ h => by cases h)
          replace ow1310 : OwnR w1571 (Sx (w979.heap.size) [obk (A1554), obk (A1556), obk (A1558), obk (A1560), some (w1427.heap.size), obk (A_1295), some (w1237.heap.size), obk (A384)]) A1224 c1225 3 ((subO (subG g (inT g s)) (inT (subG g (inT g s)) u)) : List Int) := ow1310.grA g1574 (fun _ _ h => by cases h) (fun k hk hs => ⟨(fun e => by have := ow1562.ge _ e; omega), (fun e => by have := ow1563.ge _ e; omega), (fun e => by have := ow1564.ge _ e; omega), (fun e => by have := ow1565.ge _ e; omega), hs.1, hs.2.1, hs.2.2.1, hs.2.2.2.1, hs.2.2.2.2⟩)
          replace r1311 := r1311.gr g1574 (fun _ h => by cases h)
          replace bx1312 := bx1312.gr g1574 (by simp)
          replace ow1313 : OwnR w1571 (Sx (w1270.heap.size) [obk (A1554), obk (A1556), obk (A1558), obk (A1560), some (w1427.heap.size), obk (A384), obk (A1224)]) A_1295 c_1296 3 (bo : List Int) := ow1313.grA g1574 (fun _ _ h => by cases h) (fun k hk hs => ⟨(fun e => by have := ow1562.ge _ e; omega), (fun e => by have := ow1563.ge _ e; omega), (fun e => by have := ow1564.ge _ e; omega), (fun e => by have := ow1565.ge _ e; omega), hs.1, hs.2.1, hs.2.2.1, hs.2.2.2⟩)
          replace bx1552 := bx1552.gr g1574 (by simp)
          replace ow1562 : OwnR w1571 (Sx (w1536.heap.size) [obk (A384), obk (A1224), obk (A_1295), obk (A1556), obk (A1558), obk (A1560)]) A1554 c1555 3 ((subG g (inT g (ofW bo))).ow : List Int) := ow1562.imp (fun g _ hs => ⟨(fun e => by have := lt1575 _ e; have := Sx_base hs; omega), (fun e => by have := lt1576 _ e; have := Sx_base hs; omega), (fun e => by have := lt1577 _ e; have := Sx_base hs; omega), hs⟩)
          replace ow1563 : OwnR w1571 (Sx (w1536.heap.size) [obk (A384), obk (A1224), obk (A_1295), obk (A1554), obk (A1558), obk (A1560)]) A1556 c1557 3 ((subG g (inT g (ofW bo))).pr : List Int) := ow1563.imp (fun g _ hs => ⟨(fun e => by have := lt1575 _ e; have := Sx_base hs; omega), (fun e => by have := lt1576 _ e; have := Sx_base hs; omega), (fun e => by have := lt1577 _ e; have := Sx_base hs; omega), hs⟩)
          replace ow1564 : OwnLL w1571 (w1536.heap.size) [obk (A384), obk (A1224), obk (A_1295), obk (A1554), obk (A1556), obk (A1560)] A1558 c1559 22 3 ((subG g (inT g (ofW bo))).mv : List (List Int)) := ow1564.imp (fun g _ hs => ⟨(fun e => by have := lt1575 _ e; have := Sx_base hs; omega), (fun e => by have := lt1576 _ e; have := Sx_base hs; omega), (fun e => by have := lt1577 _ e; have := Sx_base hs; omega), hs⟩)
          replace ow1565 : OwnR w1571 (Sx (w1536.heap.size) [obk (A384), obk (A1224), obk (A_1295), obk (A1554), obk (A1556), obk (A1558)]) A1560 c1561 3 ((subO g (inT g (ofW bo))) : List Int) := ow1565.imp (fun g _ hs => ⟨(fun e => by have := lt1575 _ e; have := Sx_base hs; omega), (fun e => by have := lt1576 _ e; have := Sx_base hs; omega), (fun e => by have := lt1577 _ e; have := Sx_base hs; omega), hs⟩)
          clear lt1575 lt1576 lt1577
          clear g1574 he
          refine ⟨hS1553, ?_⟩
          refine AtH.rd (by kernel_rfl) (fun d v c a w h => by cases d <;> exact h) hS1553 [4] [[]] [(230, .tuple #[.agg #[.slice A1554 ((subG g (inT g (ofW bo))).ow.length) c1555, .slice A1556 ((subG g (inT g (ofW bo))).pr.length) c1557, .slice A1558 ((subG g (inT g (ofW bo))).mv.length) c1559], .slice A1560 ((subO g (inT g (ofW bo))).length) c1561, .bool (subB g (inT g (ofW bo)))])] #[true, true, true, true, true, false, false, false, true, false, false, false] [] 6 f1573 (by kernel_rfl) trivial (fun act1594 f1593 => ?_)
          clear f1573
          refine AtH.rd (by kernel_rfl) (fun d v c a w h => by cases d <;> exact h) hS1553 [5] [[]] [(235, .agg #[.slice A1554 ((subG g (inT g (ofW bo))).ow.length) c1555, .slice A1556 ((subG g (inT g (ofW bo))).pr.length) c1557, .slice A1558 ((subG g (inT g (ofW bo))).mv.length) c1559])] #[true, true, true, true, true, true, false, false, true, false, false, false] [] 5 f1593 (by kernel_rfl) trivial (fun act1596 f1595 => ?_)
          clear f1593
          refine AtH.rd (by kernel_rfl) (fun d v c a w h => by cases d <;> exact h) hS1553 [6] [[]] [(236, .slice A1560 ((subO g (inT g (ofW bo))).length) c1561)] #[true, true, true, true, true, true, true, false, true, false, false, false] [] 4 f1595 (by kernel_rfl) trivial (fun act1598 f1597 => ?_)
          clear f1595
          refine AtH.rd (by kernel_rfl) (fun d v c a w h => by cases d <;> exact h) hS1553 [7] [[]] [(237, .bool (subB g (inT g (ofW bo))))] #[true, true, true, true, true, true, true, true, true, false, false, false] [] 3 f1597 (by kernel_rfl) trivial (fun act1600 f1599 => ?_)
          clear f1597
          refine AtH.all [9] 2 (by kernel_rfl) (by simp) ⟨?_, trivial⟩
          refine OneH.store f1599 (t := 25) (b := w1427.heap.size) (off := 0) (v := .agg #[.slice A1554 ((subG g (inT g (ofW bo))).ow.length) c1555, .slice A1556 ((subG g (inT g (ofW bo))).pr.length) c1557, .slice A1558 ((subG g (inT g (ofW bo))).mv.length) c1559]) #[true, true, true, true, true, true, true, true, true, true, false, false] (by kernel_rfl) (by kernel_rfl) bx1552 (by kernel_rfl) (fun act1606 w1602 g1603 bx1604 f1605 => ?_)
          clear f1599
          replace bx1604 : Bx w1602 (w1427.heap.size) [.slice A1554 ((subG g (inT g (ofW bo))).ow.length) c1555, .slice A1556 ((subG g (inT g (ofW bo))).pr.length) c1557, .slice A1558 ((subG g (inT g (ofW bo))).mv.length) c1559] 25 := bx1604
          have hS1601 := hS1553.gr' g1603 (by rw [hCs1408]; exact ⟨(by simp only [add_block]; omega), (by simp only [add_block]; omega), (by simp only [add_block]; omega), trivial⟩)
          have szw1602 := g1603.size
          replace e1301 := e1301.gr g1603 (fun k h => by injection h; omega)
          replace r1304 := r1304.gr g1603 (fun k h => by injection h; omega)
          replace r1305 := r1305.gr g1603 (fun k h => by injection h; omega)
          replace bx1306 := bx1306.gr g1603 (fun h => by injection h; omega)
          replace ow1308 := ow1308.gr g1603 (fun k hk => hk.2.2.2.2.1)
          replace r1309 := r1309.gr g1603 (fun k h => by injection h; omega)
          replace ow1310 := ow1310.gr g1603 (fun k hk => hk.2.2.2.2.1)
          replace r1311 := r1311.gr g1603 (fun k h => by injection h; omega)
          replace bx1312 := bx1312.gr g1603 (fun h => by injection h; omega)
          replace ow1313 := ow1313.gr g1603 (fun k hk => hk.2.2.2.2.1)
          replace ow1562 := ow1562.gr g1603 (fun k hk e => by have := Sx_base hk; injection e; omega)
          replace ow1563 := ow1563.gr g1603 (fun k hk e => by have := Sx_base hk; injection e; omega)
          replace ow1564 := ow1564.gr g1603 (fun k hk e => by have := Sx_base hk; injection e; omega)
          replace ow1565 := ow1565.gr g1603 (fun k hk e => by have := Sx_base hk; injection e; omega)
          clear bx1552 g1603
          refine ⟨hS1601, ?_⟩
          refine AtH.rd (by kernel_rfl) (fun d v c a w h => by cases d <;> exact h) hS1601 [10] [[]] [(31, .slice A1560 ((subO g (inT g (ofW bo))).length) c1561)] #[true, true, true, true, true, true, true, true, true, true, true, false] [] 1 f1605 (by kernel_rfl) trivial (fun act1622 f1621 => ?_)
          clear f1605
          refine AtH.rd (by kernel_rfl) (fun d v c a w h => by cases d <;> exact h) hS1601 [11] [[]] [(32, .bool (subB g (inT g (ofW bo))))] #[true, true, true, true, true, true, true, true, true, true, true, true] [] 0 f1621 (by kernel_rfl) trivial (fun act1624 f1623 => ?_)
          clear f1621
          refine AtH.done (by kernel_rfl) ?_
          clear hS1601
          refine t_n ?_
          have f1625 := f1623.sub (r := [(32, .bool (subB g (inT g (ofW bo)))), (31, .slice A1560 ((subO g (inT g (ofW bo))).length) c1561), (30, .pointer (some ⟨w1427.heap.size, 0, none⟩)), (27, .bool (subB (subG g (inT g s)) (inT (subG g (inT g s)) u))), (26, .slice A1224 ((subO (subG g (inT g s)) (inT (subG g (inT g s)) u)).length) c1225), (25, .pointer (some ⟨w1237.heap.size, 0, none⟩)), (15, .slice A384 ((subO g (inT g s)).length) c385)]) ⟨rfl, rfl, rfl, rfl, rfl, rfl, rfl, trivial⟩
          exact ⟨w1427.heap.size, A1560, A1554, A1556, A1558, c1561, c1555, c1557, c1559, f1625, e1301, r1304, r1305, bx1306, (ow1308.imp (fun g _ hs => ⟨hs.2.2.2.2.2.1, hs.2.2.2.2.2.2.1, hs.2.2.2.2.2.2.2.1, hs.2.2.2.1, hs.1, hs.2.1, hs.2.2.1, hs.2.2.2.2.1, (by have := Sx_base hs; show w358.heap.size ≤ g; omega)⟩)), r1309, (ow1310.imp (fun g _ hs => ⟨hs.2.2.2.2.2.1, hs.2.2.2.2.2.2.1, hs.2.2.2.2.2.2.2.1, hs.2.2.2.1, hs.1, hs.2.1, hs.2.2.1, hs.2.2.2.2.1, (by have := Sx_base hs; show w979.heap.size ≤ g; omega)⟩)), r1311, bx1312, (ow1313.imp (fun g _ hs => ⟨hs.2.2.2.2.2.1, hs.2.2.2.2.2.2.1, hs.2.2.2.1, hs.1, hs.2.1, hs.2.2.1, hs.2.2.2.2.1, (by have := Sx_base hs; show w1270.heap.size ≤ g; omega)⟩)), (ow1565.imp (fun g _ hs => ⟨hs.1, hs.2.1, hs.2.2.1, hs.2.2.2.1, hs.2.2.2.2.1, hs.2.2.2.2.2.1, (fun e => by have := Sx_base hs; injection e; omega), (by have := Sx_base hs; show w1300.heap.size ≤ g; omega)⟩)), (ow1562.imp (fun g _ hs => ⟨hs.1, hs.2.1, hs.2.2.1, hs.2.2.2.2.2.1, hs.2.2.2.1, hs.2.2.2.2.1, (fun e => by have := Sx_base hs; injection e; omega), (by have := Sx_base hs; show w1300.heap.size ≤ g; omega)⟩)), (ow1563.imp (fun g _ hs => ⟨hs.1, hs.2.1, hs.2.2.1, hs.2.2.2.2.2.1, hs.2.2.2.1, hs.2.2.2.2.1, (fun e => by have := Sx_base hs; injection e; omega), (by have := Sx_base hs; show w1300.heap.size ≤ g; omega)⟩)), (ow1564.imp (fun g _ hs => ⟨hs.1, hs.2.1, hs.2.2.1, hs.2.2.2.2.2.1, hs.2.2.2.1, hs.2.2.2.2.1, (fun e => by have := Sx_base hs; injection e; omega), (by have := Sx_base hs; show w1300.heap.size ≤ g; omega)⟩)), bx1604, (by omega), (by omega)⟩
        ·refine OneH.seq f1424 [[]] [(30, .pointer (some ⟨w1411.heap.size, 0, none⟩))] (w1411.alloc (.cells #[.slice none 0 0, .slice none 0 0, .slice none 0 0] 25 (0, 0))) [] #[true, true, false, false, false, false, false, false, true, false, false, false] (by kernel_rfl) (by kernel_rfl) (by kernel_rfl) trivial (fun act1630 w1627 hw1628 f1629 => ?_)
         clear f1424
         have g1631 := gr_alloc hw1628
         have hS1626 := hS1413.gr g1631
         have szw1627 := g1631.size
         replace e1301 := e1301.gr g1631 no_row
         replace r1304 := r1304.gr g1631 (fun _ h => by cases h)
         replace r1305 := r1305.gr g1631 (fun _ h => by cases h)
         replace bx1306 := bx1306.gr g1631 (by simp)
         replace ow1308 : OwnR w1627 (Sx (w358.heap.size) [some (w1411.heap.size), obk (A_1295), some (w1237.heap.size), obk (A1224)]) A384 c385 3 ((subO g (inT g s)) : List Int) := ow1308.grA g1631 (fun _ _ h => by cases h) (fun k hk hs => ⟨(fun e => by injection e; omega), hs.1, hs.2.1, hs.2.2.1, hs.2.2.2⟩)
         replace r1309 := r1309.gr g1631 (fun _ h => by cases h)
         replace ow1310 : OwnR w1627 (Sx (w979.heap.size) [some (w1411.heap.size), obk (A_1295), some (w1237.heap.size), obk (A384)]) A1224 c1225 3 ((subO (subG g (inT g s)) (inT (subG g (inT g s)) u)) : List Int) := ow1310.grA g1631 (fun _ _ h => by cases h) (fun k hk hs => ⟨(fun e => by injection e; omega), hs.1, hs.2.1, hs.2.2.1, hs.2.2.2⟩)
         replace r1311 := r1311.gr g1631 (fun _ h => by cases h)
         replace bx1312 := bx1312.gr g1631 (by simp)
         replace ow1313 : OwnR w1627 (Sx (w1270.heap.size) [some (w1411.heap.size), obk (A384), obk (A1224)]) A_1295 c_1296 3 (bo : List Int) := ow1313.grA g1631 (fun _ _ h => by cases h) (fun k hk hs => ⟨(fun e => by injection e; omega), hs.1, hs.2.1, hs.2.2⟩)
         have bx1643 : Bx w1627 (w1411.heap.size) [.slice none 0 0, .slice none 0 0, .slice none 0 0] 25 := Bx.new hw1628
         have := bx1643.lt
         clear g1631 hw1628
         refine ⟨hS1626, ?_⟩
         refine AtH.all [2] 8 (by kernel_rfl) (by simp) ⟨?_, trivial⟩
         refine OneH.call f1629 34 #[.slice A_1295 bo.length c_1296] (some 233) #[true, true, true, false, false, false, false, false, true, false, false, false] (by kernel_rfl) (by kernel_rfl) (of_any (la := bo) (ow1313.rdI0 (by first | omega | (simp only [List.length_cons, List.length_nil]; omega) | (simp; done) | (simp; omega)))) ?_
         rintro e_ w1645 ⟨rfl, he⟩
         refine ⟨_, rfl, _, rfl, fun act1646 f1647 => ?_⟩
         clear f1629
         have g1648 := gr_ext he
         have hS1644 := hS1626.gr g1648
         have szw1645 := g1648.size
         replace e1301 := e1301.gr g1648 no_row
         replace r1304 := r1304.gr g1648 (fun _ h => by cases h)
         replace r1305 := r1305.gr g1648 (fun _ h => by cases h)
         replace bx1306 := bx1306.gr g1648 (by simp)
         replace ow1308 := ow1308.gr g1648 (fun _ _ h => by cases h)
         replace r1309 := r1309.gr g1648 (fun _ h => by cases h)
         replace ow1310 := ow1310.gr g1648 (fun _ _ h => by cases h)
         replace r1311 := r1311.gr g1648 (fun _ h => by cases h)
         replace bx1312 := bx1312.gr g1648 (by simp)
         replace ow1313 := ow1313.gr g1648 (fun _ _ h => by cases h)
         replace bx1643 := bx1643.gr g1648 (by simp)
         clear g1648 he
         refine ⟨hS1644, ?_⟩
         refine AtH.all [3] 7 (by kernel_rfl) (by simp) ⟨?_, trivial⟩
         refine OneH.call f1647 22 #[.agg #[.slice Ag0 g.ow.length cg0, .slice Ag1 g.pr.length cg1, .slice Ag2 g.mv.length cg2], .agg ((ofW bo : List Int).map wV).toArray] (some 234) #[true, true, true, true, false, false, false, false, true, false, false, false] (by kernel_rfl) (by kernel_rfl) (subM_any (g := g) (s := ofW bo) (r1304.wide (Nat.zero_le _) (by omega)) (ofW_ok _) (r1305.wide (Nat.zero_le _) (by omega))) ?_
         rintro e_ w1678 ⟨A1661, c1662, A1663, c1664, A1665, c1666, A1667, c1668, rfl, he, ow1669, ow1670, ow1671, ow1672⟩
         have hip1677 := sub_inner g (ofW bo)
         have := sub_lens g (inT g (ofW bo))
         refine ⟨_, rfl, _, rfl, fun act1679 f1680 => ?_⟩
         clear f1647
         have g1681 := gr_ext he
         have hS1660 := hS1644.gr g1681
         have lt1682 := ow1308.lt
         have lt1683 := ow1310.lt
         have lt1684 := ow1313.lt
         have szw1678 := g1681.size
         replace e1301 := e1301.gr g1681 no_row
         replace r1304 := r1304.gr g1681 (fun _ h => by cases h)
         replace r1305 := r1305.gr g1681 (fun _ h => by cases h)
         replace bx1306 := bx1306.gr g1681 (by simp)
         replace ow1308 : OwnR w1678 (Sx (w358.heap.size) [obk (A1661), obk (A1663), obk (A1665), obk (A1667), some (w1411.heap.size), obk (A_1295), some (w1237.heap.size), obk (A1224)]) A384 c385 3 ((subO g (inT g s)) : List Int) := ow1308.grA g1681 (fun _ _ h => by cases h) (fun k hk hs => ⟨(fun e => by have := ow1669.ge _ e; omega), (fun e => by have := ow1670.ge _ e; omega), (fun e => by have := ow1671.ge _ e; omega), (fun e => by have := ow1672.ge _ e; omega), hs.1, hs.2.1, hs.2.2.1, hs.2.2.2.1, hs.2.2.2.2⟩)
         replace r1309 := r1309.gr g1681 (fun _ h => by cases h)
         replace ow1310 : OwnR w1678 (Sx (w979.heap.size) [obk (A1661), obk (A1663), obk (A1665), obk (A1667), some (w1411.heap.size), obk (A_1295), some (w1237.heap.size), obk (A384)]) A1224 c1225 3 ((subO (subG g (inT g s)) (inT (subG g (inT g s)) u)) : List Int) := ow1310.grA g1681 (fun _ _ h => by cases h) (fun k hk hs => ⟨(fun e => by have := ow1669.ge _ e; omega), (fun e => by have := ow1670.ge _ e; omega), (fun e => by have := ow1671.ge _ e; omega), (fun e => by have := ow1672.ge _ e; omega), hs.1, hs.2.1, hs.2.2.1, hs.2.2.2.1, hs.2.2.2.2⟩)
         replace r1311 := r1311.gr g1681 (fun _ h => by cases h)
         replace bx1312 := bx1312.gr g1681 (by simp)
         replace ow1313 : OwnR w1678 (Sx (w1270.heap.size) [obk (A1661), obk (A1663), obk (A1665), obk (A1667), some (w1411.heap.size), obk (A384), obk (A1224)]) A_1295 c_1296 3 (bo : List Int) := ow1313.grA g1681 (fun _ _ h => by cases h) (fun k hk hs => ⟨(fun e => by have := ow1669.ge _ e; omega), (fun e => by have := ow1670.ge _ e; omega), (fun e => by have := ow1671.ge _ e; omega), (fun e => by have := ow1672.ge _ e; omega), hs.1, hs.2.1, hs.2.2.1, hs.2.2.2⟩)
         replace bx1643 := bx1643.gr g1681 (by simp)
         replace ow1669 : OwnR w1678 (Sx (w1645.heap.size) [obk (A384), obk (A1224), obk (A_1295), obk (A1663), obk (A1665), obk (A1667)]) A1661 c1662 3 ((subG g (inT g (ofW bo))).ow : List Int) := ow1669.imp (fun g _ hs => ⟨(fun e => by have := lt1682 _ e; have := Sx_base hs; omega), (fun e => by have := lt1683 _ e; have := Sx_base hs; omega), (fun e => by have := lt1684 _ e; have := Sx_base hs; omega), hs⟩)
         replace ow1670 : OwnR w1678 (Sx (w1645.heap.size) [obk (A384), obk (A1224), obk (A_1295), obk (A1661), obk (A1665), obk (A1667)]) A1663 c1664 3 ((subG g (inT g (ofW bo))).pr : List Int) := ow1670.imp (fun g _ hs => ⟨(fun e => by have := lt1682 _ e; have := Sx_base hs; omega), (fun e => by have := lt1683 _ e; have := Sx_base hs; omega), (fun e => by have := lt1684 _ e; have := Sx_base hs; omega), hs⟩)
         replace ow1671 : OwnLL w1678 (w1645.heap.size) [obk (A384), obk (A1224), obk (A_1295), obk (A1661), obk (A1663), obk (A1667)] A1665 c1666 22 3 ((subG g (inT g (ofW bo))).mv : List (List Int)) := ow1671.imp (fun g _ hs => ⟨(fun e => by have := lt1682 _ e; have := Sx_base hs; omega), (fun e => by have := lt1683 _ e; have := Sx_base hs; omega), (fun e => by have := lt1684 _ e; have := Sx_base hs; omega), hs⟩)
         replace ow1672 : OwnR w1678 (Sx (w1645.heap.size) [obk (A384), obk (A1224), obk (A_1295), obk (A1661), obk (A1663), obk (A1665)]) A1667 c1668 3 ((subO g (inT g (ofW bo))) : List Int) := ow1672.imp (fun g _ hs => ⟨(fun e => by have := lt1682 _ e; have := Sx_base hs; omega), (fun e => by have := lt1683 _ e; have := Sx_base hs; omega), (fun e => by have := lt1684 _ e; have := Sx_base hs; omega), hs⟩)
         clear lt1682 lt1683 lt1684
         clear g1681 he
         refine ⟨hS1660, ?_⟩
         refine AtH.rd (by kernel_rfl) (fun d v c a w h => by cases d <;> exact h) hS1660 [4] [[]] [(230, .tuple #[.agg #[.slice A1661 ((subG g (inT g (ofW bo))).ow.length) c1662, .slice A1663 ((subG g (inT g (ofW bo))).pr.length) c1664, .slice A1665 ((subG g (inT g (ofW bo))).mv.length) c1666], .slice A1667 ((subO g (inT g (ofW bo))).length) c1668, .bool (subB g (inT g (ofW bo)))])] #[true, true, true, true, true, false, false, false, true, false, false, false] [] 6 f1680 (by kernel_rfl) trivial (fun act1701 f1700 => ?_)
         clear f1680
         refine AtH.rd (by kernel_rfl) (fun d v c a w h => by cases d <;> exact h) hS1660 [5] [[]] [(235, .agg #[.slice A1661 ((subG g (inT g (ofW bo))).ow.length) c1662, .slice A1663 ((subG g (inT g (ofW bo))).pr.length) c1664, .slice A1665 ((subG g (inT g (ofW bo))).mv.length) c1666])] #[true, true, true, true, true, true, false, false, true, false, false, false] [] 5 f1700 (by kernel_rfl) trivial (fun act1703 f1702 => ?_)
         clear f1700
         refine AtH.rd (by kernel_rfl) (fun d v c a w h => by cases d <;> exact h) hS1660 [6] [[]] [(236, .slice A1667 ((subO g (inT g (ofW bo))).length) c1668)] #[true, true, true, true, true, true, true, false, true, false, false, false] [] 4 f1702 (by kernel_rfl) trivial (fun act1705 f1704 => ?_)
         clear f1702
         refine AtH.rd (by kernel_rfl) (fun d v c a w h => by cases d <;> exact h) hS1660 [7] [[]] [(237, .bool (subB g (inT g (ofW bo))))] #[true, true, true, true, true, true, true, true, true, false, false, false] [] 3 f1704 (by kernel_rfl) trivial (fun act1707 f1706 => ?_)
         clear f1704
         refine AtH.all [9] 2 (by kernel_rfl) (by simp) ⟨?_, trivial⟩
         refine OneH.store f1706 (t := 25) (b := w1411.heap.size) (off := 0) (v := .agg #[.slice A1661 ((subG g (inT g (ofW bo))).ow.length) c1662, .slice A1663 ((subG g (inT g (ofW bo))).pr.length) c1664, .slice A1665 ((subG g (inT g (ofW bo))).mv.length) c1666]) #[true, true, true, true, true, true, true, true, true, true, false, false] (by kernel_rfl) (by kernel_rfl) bx1643 (by kernel_rfl) (fun act1713 w1709 g1710 bx1711 f1712 => ?_)
         clear f1706
         replace bx1711 : Bx w1709 (w1411.heap.size) [.slice A1661 ((subG g (inT g (ofW bo))).ow.length) c1662, .slice A1663 ((subG g (inT g (ofW bo))).pr.length) c1664, .slice A1665 ((subG g (inT g (ofW bo))).mv.length) c1666] 25 := bx1711
         have hS1708 := hS1660.gr' g1710 (by rw [hCs1408]; exact ⟨(by simp only [add_block]; omega), (by simp only [add_block]; omega), (by simp only [add_block]; omega), trivial⟩)
         have szw1709 := g1710.size
         replace e1301 := e1301.gr g1710 (fun k h => by injection h; omega)
         replace r1304 := r1304.gr g1710 (fun k h => by injection h; omega)
         replace r1305 := r1305.gr g1710 (fun k h => by injection h; omega)
         replace bx1306 := bx1306.gr g1710 (fun h => by injection h; omega)
         replace ow1308 := ow1308.gr g1710 (fun k hk => hk.2.2.2.2.1)
         replace r1309 := r1309.gr g1710 (fun k h => by injection h; omega)
         replace ow1310 := ow1310.gr g1710 (fun k hk => hk.2.2.2.2.1)
         replace r1311 := r1311.gr g1710 (fun k h => by injection h; omega)
         replace bx1312 := bx1312.gr g1710 (fun h => by injection h; omega)
         replace ow1313 := ow1313.gr g1710 (fun k hk => hk.2.2.2.2.1)
         replace ow1669 := ow1669.gr g1710 (fun k hk e => by have := Sx_base hk; injection e; omega)
         replace ow1670 := ow1670.gr g1710 (fun k hk e => by have := Sx_base hk; injection e; omega)
         replace ow1671 := ow1671.gr g1710 (fun k hk e => by have := Sx_base hk; injection e; omega)
         replace ow1672 := ow1672.gr g1710 (fun k hk e => by have := Sx_base hk; injection e; omega)
         clear bx1643 g1710
         refine ⟨hS1708, ?_⟩
         refine AtH.rd (by kernel_rfl) (fun d v c a w h => by cases d <;> exact h) hS1708 [10] [[]] [(31, .slice A1667 ((subO g (inT g (ofW bo))).length) c1668)] #[true, true, true, true, true, true, true, true, true, true, true, false] [] 1 f1712 (by kernel_rfl) trivial (fun act1729 f1728 => ?_)
         clear f1712
         refine AtH.rd (by kernel_rfl) (fun d v c a w h => by cases d <;> exact h) hS1708 [11] [[]] [(32, .bool (subB g (inT g (ofW bo))))] #[true, true, true, true, true, true, true, true, true, true, true, true] [] 0 f1728 (by kernel_rfl) trivial (fun act1731 f1730 => ?_)
         clear f1728
         refine AtH.done (by kernel_rfl) ?_
         clear hS1708
         refine t_n ?_
         have f1732 := f1730.sub (r := [(32, .bool (subB g (inT g (ofW bo)))), (31, .slice A1667 ((subO g (inT g (ofW bo))).length) c1668), (30, .pointer (some ⟨w1411.heap.size, 0, none⟩)), (27, .bool (subB (subG g (inT g s)) (inT (subG g (inT g s)) u))), (26, .slice A1224 ((subO (subG g (inT g s)) (inT (subG g (inT g s)) u)).length) c1225), (25, .pointer (some ⟨w1237.heap.size, 0, none⟩)), (15, .slice A384 ((subO g (inT g s)).length) c385)]) ⟨rfl, rfl, rfl, rfl, rfl, rfl, rfl, trivial⟩
         exact ⟨w1411.heap.size, A1667, A1661, A1663, A1665, c1668, c1662, c1664, c1666, f1732, e1301, r1304, r1305, bx1306, (ow1308.imp (fun g _ hs => ⟨hs.2.2.2.2.2.1, hs.2.2.2.2.2.2.1, hs.2.2.2.2.2.2.2.1, hs.2.2.2.1, hs.1, hs.2.1, hs.2.2.1, hs.2.2.2.2.1, (by have := Sx_base hs; show w358.heap.size ≤ g; omega)⟩)), r1309, (ow1310.imp (fun g _ hs => ⟨hs.2.2.2.2.2.1, hs.2.2.2.2.2.2.1, hs.2.2.2.2.2.2.2.1, hs.2.2.2.1, hs.1, hs.2.1, hs.2.2.1, hs.2.2.2.2.1, (by have := Sx_base hs; show w979.heap.size ≤ g; omega)⟩)), r1311, bx1312, (ow1313.imp (fun g _ hs => ⟨hs.2.2.2.2.2.1, hs.2.2.2.2.2.2.1, hs.2.2.2.1, hs.1, hs.2.1, hs.2.2.1, hs.2.2.2.2.1, (by have := Sx_base hs; show w1270.heap.size ≤ g; omega)⟩)), (ow1672.imp (fun g _ hs => ⟨hs.1, hs.2.1, hs.2.2.1, hs.2.2.2.1, hs.2.2.2.2.1, hs.2.2.2.2.2.1, (fun e => by have := Sx_base hs; injection e; omega), (by have := Sx_base hs; show w1300.heap.size ≤ g; omega)⟩)), (ow1669.imp (fun g _ hs => ⟨hs.1, hs.2.1, hs.2.2.1, hs.2.2.2.2.2.1, hs.2.2.2.1, hs.2.2.2.2.1, (fun e => by have := Sx_base hs; injection e; omega), (by have := Sx_base hs; show w1300.heap.size ≤ g; omega)⟩)), (ow1670.imp (fun g _ hs => ⟨hs.1, hs.2.1, hs.2.2.1, hs.2.2.2.2.2.1, hs.2.2.2.1, hs.2.2.2.2.1, (fun e => by have := Sx_base hs; injection e; omega), (by have := Sx_base hs; show w1300.heap.size ≤ g; omega)⟩)), (ow1671.imp (fun g _ hs => ⟨hs.1, hs.2.1, hs.2.2.1, hs.2.2.2.2.2.1, hs.2.2.2.1, hs.2.2.2.2.1, (fun e => by have := Sx_base hs; injection e; omega), (by have := Sx_base hs; show w1300.heap.size ≤ g; omega)⟩)), bx1711, (by omega), (by omega)⟩
       ·clear r1304
        clear r1305
        clear bx1306
        clear ow1308
        clear r1309
        clear ow1310
        clear r1311
        clear bx1312
        clear ow1313
        clear f1319 e1301
        intro act1733 w1734 ⟨b_1406, A_1398, A_1399, A_1400, A_1401, c_1402, c_1403, c_1404, c_1405, f1735, e1736, r1737, r1738, bx1739, ow1740, r1741, ow1742, r1743, bx1744, ow1745, ow1746, ow1747, ow1748, ow1749, bx1750, hb1751, szz1752⟩
        have szw1734 := e1736.size
        have hip1449 := sub_inner g (ofW bo)
        have := sub_lens g (inT g (ofW bo))
        have := bx1739.lt
        have := bx1744.lt
        have := bx1750.lt
        refine wp_seq ?_
        refine wp_seq ?_
        have hT := twice_t hPB hs hbo (by omega)
        have htl := hT.l
        refine At.start ?_
        refine At.rd f1735 3 [[], [], [.as_ (.bool false)]] [(240, .bool false), (239, .bool (subB g (inT g (ofW bo)))), (238, .bool (subB (subG g (inT g s)) (inT (subG g (inT g s)) u)))] [((.bool (!((subB (subG g (inT g s)) (inT (subG g (inT g s)) u)) == (subB g (inT g (ofW bo))))) : Value) = .bool false)] (by kernel_rfl) ⟨(congrArg Value.bool (nbb hT.b)), trivial⟩ (fun act1759 f1758 => ?_)
        clear f1735
        refine At.done rfl ?_
        refine t_n ?_
        clear bx1739
        clear ow1745
        refine cond_F f1758 rfl ?_
        refine wp_skip ?_
        refine t_n ?_
        refine wp_seq ?_
        refine At.start ?_
        refine At.rd f1758 2 [[.ld (.slice A1218 ((subG (subG g (inT g s)) (inT (subG g (inT g s)) u)).ow.length) c1219), .ld (.slice A1220 ((subG (subG g (inT g s)) (inT (subG g (inT g s)) u)).pr.length) c1221), .ld (.slice A1222 ((subG (subG g (inT g s)) (inT (subG g (inT g s)) u)).mv.length) c1223)], [.ld (.slice A_1399 ((subG g (inT g (ofW bo))).ow.length) c_1403), .ld (.slice A_1400 ((subG g (inT g (ofW bo))).pr.length) c_1404), .ld (.slice A_1401 ((subG g (inT g (ofW bo))).mv.length) c_1405)]] [(242, .agg #[.slice A_1399 ((subG g (inT g (ofW bo))).ow.length) c_1403, .slice A_1400 ((subG g (inT g (ofW bo))).pr.length) c_1404, .slice A_1401 ((subG g (inT g (ofW bo))).mv.length) c_1405]), (241, .agg #[.slice A1218 ((subG (subG g (inT g s)) (inT (subG g (inT g s)) u)).ow.length) c1219, .slice A1220 ((subG (subG g (inT g s)) (inT (subG g (inT g s)) u)).pr.length) c1221, .slice A1222 ((subG (subG g (inT g s)) (inT (subG g (inT g s)) u)).mv.length) c1223])] [(w1734.cell? ⟨w1237.heap.size, 0, none⟩ = some (.slice A1218 ((subG (subG g (inT g s)) (inT (subG g (inT g s)) u)).ow.length) c1219)), (w1734.cell? ⟨w1237.heap.size, 1, none⟩ = some (.slice A1220 ((subG (subG g (inT g s)) (inT (subG g (inT g s)) u)).pr.length) c1221)), (w1734.cell? ⟨w1237.heap.size, 2, none⟩ = some (.slice A1222 ((subG (subG g (inT g s)) (inT (subG g (inT g s)) u)).mv.length) c1223)), (w1734.cell? ⟨b_1406, 0, none⟩ = some (.slice A_1399 ((subG g (inT g (ofW bo))).ow.length) c_1403)), (w1734.cell? ⟨b_1406, 1, none⟩ = some (.slice A_1400 ((subG g (inT g (ofW bo))).pr.length) c_1404)), (w1734.cell? ⟨b_1406, 2, none⟩ = some (.slice A_1401 ((subG g (inT g (ofW bo))).mv.length) c_1405))] (by kernel_rfl) ⟨(bx1744.cell (i := 0) rfl), (bx1744.cell (i := 1) rfl), (bx1744.cell (i := 2) rfl), (bx1750.cell (i := 0) rfl), (bx1750.cell (i := 1) rfl), (bx1750.cell (i := 2) rfl), trivial⟩ (fun act1761 f1760 => ?_)
        clear f1758
        refine At.call f1760 16 #[.agg #[.slice A1218 ((subG (subG g (inT g s)) (inT (subG g (inT g s)) u)).ow.length) c1219, .slice A1220 ((subG (subG g (inT g s)) (inT (subG g (inT g s)) u)).pr.length) c1221, .slice A1222 ((subG (subG g (inT g s)) (inT (subG g (inT g s)) u)).mv.length) c1223], .agg #[.slice A_1399 ((subG g (inT g (ofW bo))).ow.length) c_1403, .slice A_1400 ((subG g (inT g (ofW bo))).pr.length) c_1404, .slice A_1401 ((subG g (inT g (ofW bo))).mv.length) c_1405]] (some 243) (by kernel_rfl) ((same_any (a := (subG (subG g (inT g s)) (inT (subG g (inT g s)) u))) (b := (subG g (inT g (ofW bo)))) (r1743.wide (Nat.zero_le _) (by omega)) (RdG.mk (G := (subG g (inT g (ofW bo)))) (ow1747.rdI0 (by first | omega | (simp only [List.length_cons, List.length_nil]; omega) | (simp; done) | (simp; omega))) (ow1748.rdI0 (by first | omega | (simp only [List.length_cons, List.length_nil]; omega) | (simp; done) | (simp; omega))) (ow1749.rdII0 (by first | omega | (simp only [List.length_cons, List.length_nil]; omega) | (simp; done) | (simp; omega)) hip1449) ow1747.cap ow1748.cap ow1749.cap)).mono (R' := fun e w' => e = .returned (.bool true) ∧ Ext _ w') (fun e_ w_ h_ => by rw [show (decide ((subG (subG g (inT g s)) (inT (subG g (inT g s)) u)) = (subG g (inT g (ofW bo)))) : Bool) = true from decide_eq_true hT.g_] at h_; exact h_)) ?_
        rintro e_ w1762 ⟨rfl, he⟩
        refine ⟨_, rfl, _, rfl, fun act1763 f1764 => ?_⟩
        clear f1760
        have g1765 := gr_ext he
        have szw1762 := g1765.size
        replace e1736 := e1736.gr g1765 no_row
        replace r1737 := r1737.gr g1765 (fun _ h => by cases h)
        replace r1738 := r1738.gr g1765 (fun _ h => by cases h)
        replace ow1740 := ow1740.gr g1765 (fun _ _ h => by cases h)
        replace r1741 := r1741.gr g1765 (fun _ h => by cases h)
        replace ow1742 := ow1742.gr g1765 (fun _ _ h => by cases h)
        replace r1743 := r1743.gr g1765 (fun _ h => by cases h)
        replace bx1744 := bx1744.gr g1765 (by simp)
        replace ow1746 := ow1746.gr g1765 (fun _ _ h => by cases h)
        replace ow1747 := ow1747.gr g1765 (fun _ _ h => by cases h)
        replace ow1748 := ow1748.gr g1765 (fun _ _ h => by cases h)
        replace ow1749 := ow1749.gr g1765 (fun _ _ h => by cases h)
        replace bx1750 := bx1750.gr g1765 (by simp)
        clear g1765 he
        refine At.rd f1764 1 [[]] [(33, .bool true)] [] (by kernel_rfl) trivial (fun act1780 f1779 => ?_)
        clear f1764
        refine At.done rfl ?_
        refine t_n ?_
        clear bx1744
        clear ow1747
        clear ow1748
        clear ow1749
        clear bx1750
        refine wp_seq ?_
        refine wp_seq ?_
        refine At.start ?_
        refine At.rd f1779 1 [[]] [(34, .int .i64 (0))] [] (by kernel_rfl) trivial (fun act1782 f1781 => ?_)
        clear f1779
        refine At.done rfl ?_
        refine t_n ?_
        refine wp_block ?_
        have f1783 := f1781.sub (r := [(34, .int .i64 (0)), (33, .bool true), (31, .slice A_1398 ((subO g (inT g (ofW bo))).length) c_1402), (26, .slice A1224 ((subO (subG g (inT g s)) (inT (subG g (inT g s)) u)).length) c1225), (15, .slice A384 ((subO g (inT g s)).length) c385)]) ⟨rfl, rfl, rfl, rfl, rfl, trivial⟩
        refine loop_g (fun (m_ : Nat) a_ w_ => ∃ (l : Int), m_ = (((subO (subG g (inT g s)) (inT (subG g (inT g s)) u)).length : Int) - l).toNat ∧ (Frm 279 a_ [(34, .int .i64 (l)), (33, .bool true), (31, .slice A_1398 ((subO g (inT g (ofW bo))).length) c_1402), (26, .slice A1224 ((subO (subG g (inT g s)) (inT (subG g (inT g s)) u)).length) c1225), (15, .slice A384 ((subO g (inT g s)).length) c385)]) ∧ (Ext w w_) ∧ (RdG w_ 0 w.heap.size Ag0 Ag1 Ag2 cg0 cg1 cg2 g) ∧ (RdT w_ 0 w.heap.size) ∧ (OwnR w_ (Sx (w358.heap.size) [obk (A1224), obk (A_1398)]) A384 c385 3 ((subO g (inT g s)) : List Int)) ∧ (RdG w_ (w358.heap.size) w397.heap.size A378 A380 A382 c379 c381 c383 (subG g (inT g s))) ∧ (OwnR w_ (Sx (w979.heap.size) [obk (A384), obk (A_1398)]) A1224 c1225 3 ((subO (subG g (inT g s)) (inT (subG g (inT g s)) u)) : List Int)) ∧ (RdG w_ (w979.heap.size) w1237.heap.size A1218 A1220 A1222 c1219 c1221 c1223 (subG (subG g (inT g s)) (inT (subG g (inT g s)) u))) ∧ (OwnR w_ (Sx (w1300.heap.size) [obk (A384), obk (A1224)]) A_1398 c_1402 3 ((subO g (inT g (ofW bo))) : List Int)) ∧ (0 ≤ l) ∧ (w358.heap.size ≤ w_.heap.size) ∧ (w979.heap.size ≤ w_.heap.size) ∧ (w1300.heap.size ≤ w_.heap.size)) _ ⟨0, rfl, f1783, e1736, r1737, r1738, (ow1740.imp (fun g _ hs => ⟨hs.2.2.1, hs.2.2.2.1, hs.2.2.2.2.2.2.2.2⟩)), r1741, (ow1742.imp (fun g _ hs => ⟨hs.2.2.1, hs.2.2.2.1, hs.2.2.2.2.2.2.2.2⟩)), r1743, (ow1746.imp (fun g _ hs => ⟨hs.1, hs.2.1, hs.2.2.2.2.2.2.2⟩)), (by omega), (by omega), (by omega), (by omega)⟩ ?_
        clear f1783 f1781
        clear r1737
        clear r1738
        clear ow1740
        clear r1741
        clear ow1742
        clear r1743
        clear ow1746
        clear e1736
        intro m_ act1784 w1785 ⟨l, hm1787, f1788, e1786, r1789, r1790, ow1791, r1792, ow1793, r1794, ow1795, i1796, i1797, i1798, i1799⟩
        have szw1785 := e1786.size
        refine wp_seq ?_
        refine wp_seq ?_
        refine At.start ?_
        rcases Bool.eq_false_or_eq_true (decide ((l : Int) < (((subO (subG g (inT g s)) (inT (subG g (inT g s)) u)).length : Nat) : Int))) with h1800 | h1800
        ·have q1801 := of_decide_eq_true h1800
         refine At.rd f1788 10 [[], [], [], [], [.as_ (.bool true)], [], [], [], [], []] [(253, .bool (decide ((l : Int) < (((subO g (inT g (ofW bo))).length : Nat) : Int)))), (252, .bool (decide ((l : Int) < (((subO g (inT g (ofW bo))).length : Nat) : Int)))), (251, .int .i64 ((((subO g (inT g (ofW bo))).length : Nat) : Int))), (250, .slice A_1398 ((subO g (inT g (ofW bo))).length) c_1402), (249, .int .i64 (l)), (248, .bool true), (247, .bool (decide ((l : Int) < (((subO (subG g (inT g s)) (inT (subG g (inT g s)) u)).length : Nat) : Int)))), (246, .int .i64 ((((subO (subG g (inT g s)) (inT (subG g (inT g s)) u)).length : Nat) : Int))), (245, .slice A1224 ((subO (subG g (inT g s)) (inT (subG g (inT g s)) u)).length) c1225), (244, .int .i64 (l))] [((.bool (decide ((l : Int) < (((subO (subG g (inT g s)) (inT (subG g (inT g s)) u)).length : Nat) : Int))) : Value) = .bool true)] (by kernel_rfl) ⟨(congrArg Value.bool h1800), trivial⟩ (fun act1803 f1802 => ?_)
         clear f1788
         refine At.done rfl ?_
         refine t_n ?_
         refine cond_S f1802 (t := decide ((l : Int) < (((subO g (inT g (ofW bo))).length : Nat) : Int))) rfl (fun h1804 => ?_) (fun h1804 => ?_)
         ·have q1805 := of_decide_eq_true h1804
          refine wp_skip ?_
          refine t_n ?_
          refine wp_seq ?_
          refine wp_block ?_
          have ho_ := hT.o l (by omega) (by omega)
          obtain ⟨ad1806, hA1807, hb1810, hc1809, hc1808⟩ := ow1793.get (l) (by omega) (by omega) (sz := 1) rfl
          obtain ⟨ad1811, hA1812, hb1815, hc1814, hc1813⟩ := ow1791.get (gI (subO (subG g (inT g s)) (inT (subG g (inT g s)) u)) l) (by omega) (by omega) (sz := 1) rfl
          obtain ⟨ad1816, hA1817, hb1820, hc1819, hc1818⟩ := ow1795.get (l) (by omega) (by omega) (sz := 1) rfl
          refine drawn_ro f1802 (by kernel_rfl) (by kernel_rfl) [[], [], [], [], [], [.ad ad1806], [.ld (.int .i64 (gI (subO (subG g (inT g s)) (inT (subG g (inT g s)) u)) l))], [.ad ad1811], [.ld (.int .i64 (gI (subO g (inT g s)) (gI (subO (subG g (inT g s)) (inT (subG g (inT g s)) u)) l)))], [], [], [.ad ad1816], [.ld (.int .i64 (gI (subO g (inT g (ofW bo))) l))], [.as_ (.bool true)], [], []] [(33, .bool true), (270, .bool true), (269, .bool true), (268, .int .i64 (gI (subO g (inT g (ofW bo))) l)), (267, .pointer (some (ad1816.add ((l : Int).toNat * 1)))), (266, .int .i64 (l)), (265, .slice A_1398 ((subO g (inT g (ofW bo))).length) c_1402), (264, .int .i64 (gI (subO g (inT g s)) (gI (subO (subG g (inT g s)) (inT (subG g (inT g s)) u)) l))), (263, .pointer (some (ad1811.add ((gI (subO (subG g (inT g s)) (inT (subG g (inT g s)) u)) l : Int).toNat * 1)))), (262, .int .i64 (gI (subO (subG g (inT g s)) (inT (subG g (inT g s)) u)) l)), (261, .pointer (some (ad1806.add ((l : Int).toNat * 1)))), (260, .int .i64 (l)), (259, .slice A1224 ((subO (subG g (inT g s)) (inT (subG g (inT g s)) u)).length) c1225), (258, .slice A384 ((subO g (inT g s)).length) c385), (257, .bool true), (256, .bool true)] [(A1224 = some ad1806), (0 ≤ (l : Int)), ((l : Int) < ((subO (subG g (inT g s)) (inT (subG g (inT g s)) u)).length : Nat)), (w1785.cell? (ad1806.add ((l : Int).toNat * 1)) = some (.int .i64 (gI (subO (subG g (inT g s)) (inT (subG g (inT g s)) u)) l))), (A384 = some ad1811), (0 ≤ (gI (subO (subG g (inT g s)) (inT (subG g (inT g s)) u)) l : Int)), ((gI (subO (subG g (inT g s)) (inT (subG g (inT g s)) u)) l : Int) < ((subO g (inT g s)).length : Nat)), (w1785.cell? (ad1811.add ((gI (subO (subG g (inT g s)) (inT (subG g (inT g s)) u)) l : Int).toNat * 1)) = some (.int .i64 (gI (subO g (inT g s)) (gI (subO (subG g (inT g s)) (inT (subG g (inT g s)) u)) l)))), (A_1398 = some ad1816), (0 ≤ (l : Int)), ((l : Int) < ((subO g (inT g (ofW bo))).length : Nat)), (w1785.cell? (ad1816.add ((l : Int).toNat * 1)) = some (.int .i64 (gI (subO g (inT g (ofW bo))) l))), ((.bool ((gI (subO g (inT g s)) (gI (subO (subG g (inT g s)) (inT (subG g (inT g s)) u)) l) : Int) == (gI (subO g (inT g (ofW bo))) l)) : Value) = .bool true)] (by kernel_rfl) ⟨hA1807, (by omega), (by omega), hc1809, hA1812, (by omega), (by omega), hc1814, hA1817, (by omega), (by omega), hc1819, (congrArg Value.bool (beqT ho_.2.2)), trivial⟩ (fun act1822 w1823 hw1824 f1821 => ?_)
          clear f1802
          have g1825 := gr_drew hw1824
          have szw1823 := g1825.size
          replace e1786 := e1786.gr g1825 no_row
          replace r1789 := r1789.gr g1825 (fun _ h => by cases h)
          replace r1790 := r1790.gr g1825 (fun _ h => by cases h)
          replace ow1791 := ow1791.gr g1825 (fun _ _ h => by cases h)
          replace r1792 := r1792.gr g1825 (fun _ h => by cases h)
          replace ow1793 := ow1793.gr g1825 (fun _ _ h => by cases h)
          replace r1794 := r1794.gr g1825 (fun _ h => by cases h)
          replace ow1795 := ow1795.gr g1825 (fun _ _ h => by cases h)
          clear g1825 hw1824
          refine b_n ?_
          refine t_n ?_
          refine At.start ?_
          refine At.rd f1821 3 [[], [.as_ (.int .i64 (l + 1))], []] [(34, .int .i64 (l + 1)), (255, .int .i64 (l + 1)), (254, .int .i64 (l))] [((.int .i64 (IntKind.i64.wrap (l + 1)) : Value) = .int .i64 (l + 1))] (by kernel_rfl) ⟨(w64 (by omega) (by omega)), trivial⟩ (fun act1835 f1834 => ?_)
          clear f1821
          refine At.done rfl ?_
          refine t_n ?_
          have f1836 := f1834.sub (r := [(34, .int .i64 (l + 1)), (33, .bool true), (31, .slice A_1398 ((subO g (inT g (ofW bo))).length) c_1402), (26, .slice A1224 ((subO (subG g (inT g s)) (inT (subG g (inT g s)) u)).length) c1225), (15, .slice A384 ((subO g (inT g s)).length) c385)]) ⟨rfl, rfl, rfl, rfl, rfl, trivial⟩
          exact ⟨_, (by omega), (l + 1), rfl, f1836, e1786, r1789, r1790, ow1791, r1792, ow1793, r1794, ow1795, (by omega), (by omega), (by omega), (by omega)⟩
         ·have q1837 := of_decide_eq_false h1804
          refine wp_exit ?_
          refine t_e ?_
          refine t_e ?_
          refine b_e ?_
          refine t_n ?_
          clear ow1791
          refine wp_seq ?_
          refine At.start ?_
          refine At.rd f1802 9 [[], [], [], [], [], [], [.as_ (.bool true)], [], []] [(6, .bool true), (278, .bool true), (277, .bool true), (276, .int .i64 ((((subO g (inT g (ofW bo))).length : Nat) : Int))), (275, .slice A_1398 ((subO g (inT g (ofW bo))).length) c_1402), (274, .int .i64 ((((subO (subG g (inT g s)) (inT (subG g (inT g s)) u)).length : Nat) : Int))), (273, .slice A1224 ((subO (subG g (inT g s)) (inT (subG g (inT g s)) u)).length) c1225), (272, .bool true), (271, .bool true)] [((.bool (((((subO (subG g (inT g s)) (inT (subG g (inT g s)) u)).length : Nat) : Int) : Int) == (((subO g (inT g (ofW bo))).length : Nat) : Int)) : Value) = .bool true)] (by kernel_rfl) ⟨(congrArg Value.bool (beqT (by omega))), trivial⟩ (fun act1839 f1838 => ?_)
          clear f1802
          refine At.done rfl ?_
          refine t_n ?_
          clear ow1793
          clear ow1795
          refine wp_ret ?_
          refine ret_ f1838 [] [.bool true] [] (by kernel_rfl) trivial ?_
          exact ⟨rfl, e1786⟩
        ·have q1840 := of_decide_eq_false h1800
         refine At.rd f1788 10 [[], [], [], [], [.as_ (.bool false)], [], [], [], [], []] [(253, .bool false), (252, undef), (251, undef), (250, undef), (249, undef), (248, .bool false), (247, .bool (decide ((l : Int) < (((subO (subG g (inT g s)) (inT (subG g (inT g s)) u)).length : Nat) : Int)))), (246, .int .i64 ((((subO (subG g (inT g s)) (inT (subG g (inT g s)) u)).length : Nat) : Int))), (245, .slice A1224 ((subO (subG g (inT g s)) (inT (subG g (inT g s)) u)).length) c1225), (244, .int .i64 (l))] [((.bool (decide ((l : Int) < (((subO (subG g (inT g s)) (inT (subG g (inT g s)) u)).length : Nat) : Int))) : Value) = .bool false)] (by kernel_rfl) ⟨(congrArg Value.bool h1800), trivial⟩ (fun act1842 f1841 => ?_)
         clear f1788
         refine At.done rfl ?_
         refine t_n ?_
         refine cond_F f1841 rfl ?_
         refine wp_exit ?_
         refine t_e ?_
         refine t_e ?_
         refine b_e ?_
         refine t_n ?_
         clear ow1791
         refine wp_seq ?_
         refine At.start ?_
         refine At.rd f1841 9 [[], [], [], [], [], [], [.as_ (.bool true)], [], []] [(6, .bool true), (278, .bool true), (277, .bool true), (276, .int .i64 ((((subO g (inT g (ofW bo))).length : Nat) : Int))), (275, .slice A_1398 ((subO g (inT g (ofW bo))).length) c_1402), (274, .int .i64 ((((subO (subG g (inT g s)) (inT (subG g (inT g s)) u)).length : Nat) : Int))), (273, .slice A1224 ((subO (subG g (inT g s)) (inT (subG g (inT g s)) u)).length) c1225), (272, .bool true), (271, .bool true)] [((.bool (((((subO (subG g (inT g s)) (inT (subG g (inT g s)) u)).length : Nat) : Int) : Int) == (((subO g (inT g (ofW bo))).length : Nat) : Int)) : Value) = .bool true)] (by kernel_rfl) ⟨(congrArg Value.bool (beqT (by omega))), trivial⟩ (fun act1844 f1843 => ?_)
         clear f1841
         refine At.done rfl ?_
         refine t_n ?_
         clear ow1793
         clear ow1795
         refine wp_ret ?_
         refine ret_ f1843 [] [.bool true] [] (by kernel_rfl) trivial ?_
         exact ⟨rfl, e1786⟩

end Go.Proofs.YtkkophhnliplhaaDoor
