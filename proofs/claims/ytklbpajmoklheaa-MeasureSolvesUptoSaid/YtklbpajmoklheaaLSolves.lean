/-
  A walk of a Go function, printed by a program of this repo. Conditions: what the theorems name.
-/
import Derived.Test.YtklbpajmoklheaaWShown
import Derived.Test.YtklbpajmoklheaaWTuples
import Derived.Test.YtklbpajmoklheaaWSolveR
import Derived.Test.YtklbpajmoklheaaWCopy
import Derived.Test.YtklbpajmoklheaaWSame2
import Derived.Test.YtklbpajmoklheaaWHeavy
set_option linter.unusedVariables false
set_option linter.unusedSimpArgs false
namespace Go.Proofs.Ytklbpajmoklheaa
open Go Go.RowKit

set_option maxHeartbeats 4000000 in
theorem solves_any {Ag0 Ag1 Ag2 : Option Addr} {cg0 cg1 cg2 : Nat} {g : GameL} {w : World} (rg : RdG w 0 w.heap.size Ag0 Ag1 Ag2 cg0 cg1 cg2 g) (hsm : g.ow.length ≤ 1000000000000) :
    Calls Try.prog 7 #[.agg #[.slice Ag0 g.ow.length cg0, .slice Ag1 g.pr.length cg1, .slice Ag2 g.mv.length cg2]] w fun e w' => e = .returned (.bool true) ∧ Ext w w' := by
 have hlg0 := rg.ow.len
 have hlg1 := rg.pr.len
 have hlg2 := rg.mv.len
 have hkg0 := rg.k0
 have hkg1 := rg.k1
 have hkg2 := rg.k2
 refine enter_ (args := [.agg #[.slice Ag0 g.ow.length cg0, .slice Ag1 g.pr.length cg1, .slice Ag2 g.mv.length cg2]]) Try.func7 rfl Try.ntmps7 (Nat.le_of_ble_eq_true rfl) (fun act0 f0 => ?_)
 have e0 := Ext.refl w
 refine wp_seq ?_
 refine At.start ?_
 refine At.seq f0 1 [[]] [(1, .pointer (some ⟨w.heap.size, 0, none⟩))] (w.alloc (.cells #[.slice Ag0 g.ow.length cg0, .slice Ag1 g.pr.length cg1, .slice Ag2 g.mv.length cg2] 25 (0, 0))) [] (by kernel_rfl) trivial (fun act4 w1 hw2 f3 => ?_)
 clear f0
 have g5 := gr_alloc hw2
 have szw1 := g5.size
 have e7 := e0.gr g5 no_row
 clear e0
 have r8 := rg.gr g5 (fun _ h => by cases h)
 clear rg
 have bx9 : Bx w1 (w.heap.size) [.slice Ag0 g.ow.length cg0, .slice Ag1 g.pr.length cg1, .slice Ag2 g.mv.length cg2] 25 := Bx.new hw2
 have := bx9.lt
 clear g5 hw2
 refine At.rd f3 1 [[]] [(2, .bool false)] [] (by kernel_rfl) trivial (fun act11 f10 => ?_)
 clear f3
 refine At.done rfl ?_
 refine t_n ?_
 have f12 := f10.sub (r := [(2, .bool false), (1, .pointer (some ⟨w.heap.size, 0, none⟩))]) ⟨rfl, rfl, trivial⟩
 clear f10
 refine wp_seq ?_
 refine At.start ?_
 refine At.call f12 22 #[] (some 12) (by kernel_rfl) (shown_any) ?_
 rintro e_ w13 ⟨rfl, he⟩
 refine ⟨_, rfl, _, rfl, fun act14 f15 => ?_⟩
 clear f12
 have g16 := gr_ext he
 have szw13 := g16.size
 have e17 := e7.gr g16 no_row
 clear e7
 have r18 := r8.gr g16 (fun _ h => by cases h)
 clear r8
 have bx19 := bx9.gr g16 (by simp)
 clear bx9
 clear g16 he
 refine At.rd f15 1 [[]] [(3, .bool true)] [] (by kernel_rfl) trivial (fun act21 f20 => ?_)
 clear f15
 refine At.done rfl ?_
 refine t_n ?_
 have f22 := f20.sub (r := [(3, .bool true), (2, .bool false), (1, .pointer (some ⟨w.heap.size, 0, none⟩))]) ⟨rfl, rfl, rfl, trivial⟩
 clear f20
 refine wp_seq ?_
 refine At.start ?_
 refine At.rd f22 1 [[.ld (.slice Ag0 g.ow.length cg0), .ld (.slice Ag1 g.pr.length cg1), .ld (.slice Ag2 g.mv.length cg2)]] [(13, .agg #[.slice Ag0 g.ow.length cg0, .slice Ag1 g.pr.length cg1, .slice Ag2 g.mv.length cg2])] [(w13.cell? ⟨w.heap.size, 0, none⟩ = some (.slice Ag0 g.ow.length cg0)), (w13.cell? ⟨w.heap.size, 1, none⟩ = some (.slice Ag1 g.pr.length cg1)), (w13.cell? ⟨w.heap.size, 2, none⟩ = some (.slice Ag2 g.mv.length cg2))] (by kernel_rfl) ⟨(bx19.cell (i := 0) rfl), (bx19.cell (i := 1) rfl), (bx19.cell (i := 2) rfl), trivial⟩ (fun act24 f23 => ?_)
 clear f22
 refine At.call f23 25 #[.agg #[.slice Ag0 g.ow.length cg0, .slice Ag1 g.pr.length cg1, .slice Ag2 g.mv.length cg2]] (some 14) (by kernel_rfl) (heavy_any (g := g) (r18.wide (Nat.zero_le _) (by omega))) ?_
 rintro e_ w26 ⟨b25, rfl, he⟩
 refine ⟨_, rfl, _, rfl, fun act27 f28 => ?_⟩
 clear f23
 have g29 := gr_ext he
 have szw26 := g29.size
 have e30 := e17.gr g29 no_row
 clear e17
 have r31 := r18.gr g29 (fun _ h => by cases h)
 clear r18
 have bx32 := bx19.gr g29 (by simp)
 clear bx19
 clear g29 he
 refine At.rd f28 1 [[]] [(4, .bool (b25))] [] (by kernel_rfl) trivial (fun act34 f33 => ?_)
 clear f28
 refine At.done rfl ?_
 refine t_n ?_
 have f35 := f33.sub (r := [(4, .bool (b25)), (3, .bool true), (2, .bool false), (1, .pointer (some ⟨w.heap.size, 0, none⟩))]) ⟨rfl, rfl, rfl, rfl, trivial⟩
 clear f33
 refine wp_seq ?_
 refine wp_seq ?_
 refine At.start ?_
 refine At.rd f35 1 [[]] [(15, .bool (b25))] [] (by kernel_rfl) trivial (fun act37 f36 => ?_)
 clear f35
 refine At.done rfl ?_
 refine t_n ?_
 have f38 := f36.sub (r := [(15, .bool (b25)), (3, .bool true), (2, .bool false), (1, .pointer (some ⟨w.heap.size, 0, none⟩))]) ⟨rfl, rfl, rfl, rfl, trivial⟩
 clear f36
 refine cond_S f38 (t := b25) rfl (fun h39 => ?_) (fun h39 => ?_)
 ·refine wp_seq ?_
  refine At.start ?_
  refine At.rd f38 2 [[], []] [(2, .bool true), (16, .bool true)] [] (by kernel_rfl) trivial (fun act42 f41 => ?_)
  clear f38
  refine At.done rfl ?_
  refine t_n ?_
  have f43 := f41.sub (r := [(2, .bool true)]) ⟨rfl, trivial⟩
  clear f41
  refine wp_ret ?_
  refine t_r ?_
  refine ret_ f43 [] [.bool true] [] (by kernel_rfl) trivial ?_
  exact ⟨rfl, e30⟩
 ·refine wp_skip ?_
  refine t_n ?_
  have f45 := f38.sub (r := [(3, .bool true), (2, .bool false), (1, .pointer (some ⟨w.heap.size, 0, none⟩))]) ⟨rfl, rfl, rfl, trivial⟩
  clear f38
  refine wp_seq ?_
  refine At.start ?_
  refine At.rd f45 1 [[.ld (.slice Ag0 g.ow.length cg0), .ld (.slice Ag1 g.pr.length cg1), .ld (.slice Ag2 g.mv.length cg2)]] [(17, .agg #[.slice Ag0 g.ow.length cg0, .slice Ag1 g.pr.length cg1, .slice Ag2 g.mv.length cg2])] [(w26.cell? ⟨w.heap.size, 0, none⟩ = some (.slice Ag0 g.ow.length cg0)), (w26.cell? ⟨w.heap.size, 1, none⟩ = some (.slice Ag1 g.pr.length cg1)), (w26.cell? ⟨w.heap.size, 2, none⟩ = some (.slice Ag2 g.mv.length cg2))] (by kernel_rfl) ⟨(bx32.cell (i := 0) rfl), (bx32.cell (i := 1) rfl), (bx32.cell (i := 2) rfl), trivial⟩ (fun act47 f46 => ?_)
  clear f45
  refine At.call f46 15 #[.agg #[.slice Ag0 g.ow.length cg0, .slice Ag1 g.pr.length cg1, .slice Ag2 g.mv.length cg2]] (some 18) (by kernel_rfl) (copyR_any (g := g) (r31.wide (Nat.zero_le _) (by omega))) ?_
  rintro e_ w61 ⟨A48, c49, A50, c51, A52, c53, rfl, he, ow54, ow55, ow56⟩
  have hip60 := inner_len (RdG.mv (r31.wide (Nat.zero_le _) (by omega)))
  refine ⟨_, rfl, _, rfl, fun act62 f63 => ?_⟩
  clear f46
  have g64 := gr_ext he
  have szw61 := g64.size
  have e65 := e30.gr g64 no_row
  clear e30
  have r66 := r31.gr g64 (fun _ h => by cases h)
  clear r31
  have bx67 := bx32.gr g64 (by simp)
  clear bx32
  clear g64 he
  refine At.seq f63 1 [[]] [(5, .pointer (some ⟨w61.heap.size, 0, none⟩))] (w61.alloc (.cells #[.slice none 0 0, .slice none 0 0, .slice none 0 0] 25 (0, 0))) [] (by kernel_rfl) trivial (fun act71 w68 hw69 f70 => ?_)
  clear f63
  have g72 := gr_alloc hw69
  have szw68 := g72.size
  have e74 := e65.gr g72 no_row
  clear e65
  have r75 := r66.gr g72 (fun _ h => by cases h)
  clear r66
  have bx76 := bx67.gr g72 (by simp)
  clear bx67
  have ow77 : OwnR w68 (Sx (w26.heap.size) [some (w61.heap.size), obk (A50), obk (A52)]) A48 c49 3 (g.ow : List Int) := ow54.grA g72 (fun _ _ h => by cases h) (fun k hk hs => ⟨(fun e => by injection e; omega), hs.1, hs.2.1, hs.2.2⟩)
  clear ow54
  have ow78 : OwnR w68 (Sx (w26.heap.size) [some (w61.heap.size), obk (A48), obk (A52)]) A50 c51 3 (g.pr : List Int) := ow55.grA g72 (fun _ _ h => by cases h) (fun k hk hs => ⟨(fun e => by injection e; omega), hs.1, hs.2.1, hs.2.2⟩)
  clear ow55
  have ow79 : OwnLL w68 (w26.heap.size) [some (w61.heap.size), obk (A48), obk (A50)] A52 c53 22 3 (g.mv : List (List Int)) := ow56.grA g72 (fun _ _ h => by cases h) (fun k hk hs => ⟨(fun e => by injection e; omega), hs.1, hs.2.1, hs.2.2⟩)
  clear ow56
  have bx80 : Bx w68 (w61.heap.size) [.slice none 0 0, .slice none 0 0, .slice none 0 0] 25 := Bx.new hw69
  have := bx80.lt
  clear g72 hw69
  refine At.store f70 (t := 25) (b := w61.heap.size) (off := 0) (v := .agg #[.slice A48 g.ow.length c49, .slice A50 g.pr.length c51, .slice A52 g.mv.length c53]) (by kernel_rfl) bx80 (by kernel_rfl) (fun act85 w81 g82 bx83 f84 => ?_)
  clear f70
  replace bx83 : Bx w81 (w61.heap.size) [.slice A48 g.ow.length c49, .slice A50 g.pr.length c51, .slice A52 g.mv.length c53] 25 := bx83
  have szw81 := g82.size
  have e86 := e74.gr g82 (fun k h => by injection h; omega)
  clear e74
  have r87 := r75.gr g82 (fun k h => by injection h; omega)
  clear r75
  have bx88 := bx76.gr g82 (fun h => by injection h; omega)
  clear bx76
  have ow89 := ow77.gr g82 (fun k hk => hk.1)
  clear ow77
  have ow90 := ow78.gr g82 (fun k hk => hk.1)
  clear ow78
  have ow91 := ow79.gr g82 (fun k hk => hk.1)
  clear ow79
  clear bx80 g82
  refine At.done rfl ?_
  refine t_n ?_
  have f92 := f84.sub (r := [(5, .pointer (some ⟨w61.heap.size, 0, none⟩)), (3, .bool true), (2, .bool false), (1, .pointer (some ⟨w.heap.size, 0, none⟩))]) ⟨rfl, rfl, rfl, rfl, trivial⟩
  clear f84
  refine wp_seq ?_
  refine At.start ?_
  refine At.rd f92 1 [[.ld (.slice Ag0 g.ow.length cg0), .ld (.slice Ag1 g.pr.length cg1), .ld (.slice Ag2 g.mv.length cg2)]] [(19, .agg #[.slice Ag0 g.ow.length cg0, .slice Ag1 g.pr.length cg1, .slice Ag2 g.mv.length cg2])] [(w81.cell? ⟨w.heap.size, 0, none⟩ = some (.slice Ag0 g.ow.length cg0)), (w81.cell? ⟨w.heap.size, 1, none⟩ = some (.slice Ag1 g.pr.length cg1)), (w81.cell? ⟨w.heap.size, 2, none⟩ = some (.slice Ag2 g.mv.length cg2))] (by kernel_rfl) ⟨(bx88.cell (i := 0) rfl), (bx88.cell (i := 1) rfl), (bx88.cell (i := 2) rfl), trivial⟩ (fun act94 f93 => ?_)
  clear f92
  refine At.call f93 27 #[.agg #[.slice Ag0 g.ow.length cg0, .slice Ag1 g.pr.length cg1, .slice Ag2 g.mv.length cg2]] (some 20) (by kernel_rfl) (solveR_any (g := g) (r87.wide (Nat.zero_le _) (by omega))) ?_
  rintro e_ w101 ⟨A95, c96, l97, rfl, he, ow98, hsv99⟩
  have hsv_R := hsv99
  have := solved_len hsv99
  refine ⟨_, rfl, _, rfl, fun act102 f103 => ?_⟩
  clear f93
  have g104 := gr_ext he
  have lt105 := ow89.lt
  have lt106 := ow90.lt
  have lt107 := ow91.lt
  have szw101 := g104.size
  have e108 := e86.gr g104 no_row
  clear e86
  have r109 := r87.gr g104 (fun _ h => by cases h)
  clear r87
  have bx110 := bx88.gr g104 (by simp)
  clear bx88
  have ow111 : OwnR w101 (Sx (w26.heap.size) [obk (A95), some (w61.heap.size), obk (A50), obk (A52)]) A48 c49 3 (g.ow : List Int) := ow89.grA g104 (fun _ _ h => by cases h) (fun k hk hs => ⟨(fun e => by have := ow98.ge _ e; omega), hs.1, hs.2.1, hs.2.2.1, hs.2.2.2⟩)
  clear ow89
  have ow112 : OwnR w101 (Sx (w26.heap.size) [obk (A95), some (w61.heap.size), obk (A48), obk (A52)]) A50 c51 3 (g.pr : List Int) := ow90.grA g104 (fun _ _ h => by cases h) (fun k hk hs => ⟨(fun e => by have := ow98.ge _ e; omega), hs.1, hs.2.1, hs.2.2.1, hs.2.2.2⟩)
  clear ow90
  have ow113 : OwnLL w101 (w26.heap.size) [obk (A95), some (w61.heap.size), obk (A48), obk (A50)] A52 c53 22 3 (g.mv : List (List Int)) := ow91.grA g104 (fun _ _ h => by cases h) (fun k hk hs => ⟨(fun e => by have := ow98.ge _ e; omega), hs.1, hs.2.1, hs.2.2.1, hs.2.2.2⟩)
  clear ow91
  have bx114 := bx83.gr g104 (by simp)
  clear bx83
  have ow115 : OwnR w101 (Sx (w81.heap.size) [obk (A48), obk (A50), obk (A52)]) A95 c96 40 (l97 : List Tup) := ow98.imp (fun g _ hs => ⟨(fun e => by have := lt105 _ e; have := Sx_base hs; omega), (fun e => by have := lt106 _ e; have := Sx_base hs; omega), (fun e => by have := lt107 _ e; have := Sx_base hs; omega), hs⟩)
  clear ow98
  clear lt105 lt106 lt107
  clear g104 he
  refine At.call f103 26 #[.slice A95 l97.length c96] (some 21) (by kernel_rfl) (tuples_any (ls := l97) ((ow115.rdR (by simp only [Enc.bytes]; omega)).wide (Nat.zero_le _) (by omega))) ?_
  rintro e_ w120 ⟨A116, c117, rfl, he, ow118⟩
  refine ⟨_, rfl, _, rfl, fun act121 f122 => ?_⟩
  clear f103
  have g123 := gr_ext he
  have lt124 := ow111.lt
  have lt125 := ow112.lt
  have lt126 := ow113.lt
  have lt127 := ow115.lt
  have szw120 := g123.size
  have e128 := e108.gr g123 no_row
  clear e108
  have r129 := r109.gr g123 (fun _ h => by cases h)
  clear r109
  have bx130 := bx110.gr g123 (by simp)
  clear bx110
  have ow131 : OwnR w120 (Sx (w26.heap.size) [obk (A116), obk (A95), some (w61.heap.size), obk (A50), obk (A52)]) A48 c49 3 (g.ow : List Int) := ow111.grA g123 (fun _ _ h => by cases h) (fun k hk hs => ⟨(fun e => by have := ow118.ge _ e; omega), hs.1, hs.2.1, hs.2.2.1, hs.2.2.2.1, hs.2.2.2.2⟩)
  clear ow111
  have ow132 : OwnR w120 (Sx (w26.heap.size) [obk (A116), obk (A95), some (w61.heap.size), obk (A48), obk (A52)]) A50 c51 3 (g.pr : List Int) := ow112.grA g123 (fun _ _ h => by cases h) (fun k hk hs => ⟨(fun e => by have := ow118.ge _ e; omega), hs.1, hs.2.1, hs.2.2.1, hs.2.2.2.1, hs.2.2.2.2⟩)
  clear ow112
  have ow133 : OwnLL w120 (w26.heap.size) [obk (A116), obk (A95), some (w61.heap.size), obk (A48), obk (A50)] A52 c53 22 3 (g.mv : List (List Int)) := ow113.grA g123 (fun _ _ h => by cases h) (fun k hk hs => ⟨(fun e => by have := ow118.ge _ e; omega), hs.1, hs.2.1, hs.2.2.1, hs.2.2.2.1, hs.2.2.2.2⟩)
  clear ow113
  have bx134 := bx114.gr g123 (by simp)
  clear bx114
  have ow135 : OwnR w120 (Sx (w81.heap.size) [obk (A116), obk (A48), obk (A50), obk (A52)]) A95 c96 40 (l97 : List Tup) := ow115.grA g123 (fun _ _ h => by cases h) (fun k hk hs => ⟨(fun e => by have := ow118.ge _ e; omega), hs.1, hs.2.1, hs.2.2.1, hs.2.2.2⟩)
  clear ow115
  have ow136 : OwnR w120 (Sx (w101.heap.size) [obk (A48), obk (A50), obk (A52), obk (A95)]) A116 c117 41 (l97 : List Tup) := ow118.imp (fun g _ hs => ⟨(fun e => by have := lt124 _ e; have := Sx_base hs; omega), (fun e => by have := lt125 _ e; have := Sx_base hs; omega), (fun e => by have := lt126 _ e; have := Sx_base hs; omega), (fun e => by have := lt127 _ e; have := Sx_base hs; omega), hs⟩)
  clear ow118
  clear lt124 lt125 lt126 lt127
  clear g123 he
  refine At.rd f122 1 [[]] [(6, .slice A116 ((l97).length) c117)] [] (by kernel_rfl) trivial (fun act138 f137 => ?_)
  clear f122
  refine At.done rfl ?_
  refine t_n ?_
  have f139 := f137.sub (r := [(6, .slice A116 ((l97).length) c117), (5, .pointer (some ⟨w61.heap.size, 0, none⟩)), (3, .bool true), (2, .bool false), (1, .pointer (some ⟨w.heap.size, 0, none⟩))]) ⟨rfl, rfl, rfl, rfl, rfl, trivial⟩
  clear f137
  refine wp_seq ?_
  refine wp_seq ?_
  refine At.start ?_
  refine At.rd f139 1 [[]] [(7, .int .i64 (0))] [] (by kernel_rfl) trivial (fun act141 f140 => ?_)
  clear f139
  refine At.done rfl ?_
  refine t_n ?_
  refine wp_block ?_
  have f142 := f140.sub (r := [(7, .int .i64 (0)), (6, .slice A116 ((l97).length) c117), (5, .pointer (some ⟨w61.heap.size, 0, none⟩)), (3, .bool true), (1, .pointer (some ⟨w.heap.size, 0, none⟩))]) ⟨rfl, rfl, rfl, rfl, rfl, trivial⟩
  refine loop_g (fun (m_ : Nat) a_ w_ => ∃ (n : Int), m_ = (2 - n).toNat ∧ (Frm 50 a_ [(7, .int .i64 (n)), (6, .slice A116 ((l97).length) c117), (5, .pointer (some ⟨w61.heap.size, 0, none⟩)), (3, .bool true), (1, .pointer (some ⟨w.heap.size, 0, none⟩))]) ∧ (Ext w w_) ∧ (RdG w_ 0 w.heap.size Ag0 Ag1 Ag2 cg0 cg1 cg2 g) ∧ (Bx w_ (w.heap.size) [.slice Ag0 g.ow.length cg0, .slice Ag1 g.pr.length cg1, .slice Ag2 g.mv.length cg2] 25) ∧ (OwnR w_ (Sx (w26.heap.size) [obk (A116), obk (A95), some (w61.heap.size), obk (A50), obk (A52)]) A48 c49 3 (g.ow : List Int)) ∧ (OwnR w_ (Sx (w26.heap.size) [obk (A116), obk (A95), some (w61.heap.size), obk (A48), obk (A52)]) A50 c51 3 (g.pr : List Int)) ∧ (OwnLL w_ (w26.heap.size) [obk (A116), obk (A95), some (w61.heap.size), obk (A48), obk (A50)] A52 c53 22 3 (g.mv : List (List Int))) ∧ (Bx w_ (w61.heap.size) [.slice A48 g.ow.length c49, .slice A50 g.pr.length c51, .slice A52 g.mv.length c53] 25) ∧ (OwnR w_ (Sx (w81.heap.size) [obk (A116), obk (A48), obk (A50), obk (A52)]) A95 c96 40 (l97 : List Tup)) ∧ (OwnR w_ (Sx (w101.heap.size) [obk (A48), obk (A50), obk (A52), obk (A95)]) A116 c117 41 (l97 : List Tup)) ∧ (0 ≤ n) ∧ (n ≤ 2) ∧ (w26.heap.size ≤ w_.heap.size) ∧ (w81.heap.size ≤ w_.heap.size) ∧ (w101.heap.size ≤ w_.heap.size)) _ ⟨0, rfl, f142, e128, r129, bx130, ow131, ow132, ow133, bx134, ow135, ow136, (by omega), (by omega), (by omega), (by omega), (by omega)⟩ ?_
  clear f142 f140
  clear r129
  clear bx130
  clear ow131
  clear ow132
  clear ow133
  clear bx134
  clear ow135
  clear ow136
  clear e128
  intro m_ act143 w144 ⟨n, hm146, f147, e145, r148, bx149, ow150, ow151, r152, bx153, ow154, ow155, i156, i157, i158, i159, i160⟩
  have szw144 := e145.size
  have := bx149.lt
  have := bx153.lt
  refine wp_seq ?_
  refine wp_seq ?_
  refine At.start ?_
  refine At.rd f147 2 [[], []] [(23, .bool (decide ((n : Int) < 2))), (22, .int .i64 (n))] [] (by kernel_rfl) trivial (fun act162 f161 => ?_)
  clear f147
  refine At.done rfl ?_
  refine t_n ?_
  have f163 := f161.sub (r := [(23, .bool (decide ((n : Int) < 2))), (7, .int .i64 (n)), (6, .slice A116 ((l97).length) c117), (5, .pointer (some ⟨w61.heap.size, 0, none⟩)), (3, .bool true), (1, .pointer (some ⟨w.heap.size, 0, none⟩))]) ⟨rfl, rfl, rfl, rfl, rfl, rfl, trivial⟩
  clear f161
  refine cond_S f163 (t := decide ((n : Int) < 2)) rfl (fun h164 => ?_) (fun h164 => ?_)
  ·have q165 := of_decide_eq_true h164
   refine wp_skip ?_
   refine t_n ?_
   have f166 := f163.sub (r := [(7, .int .i64 (n)), (6, .slice A116 ((l97).length) c117), (5, .pointer (some ⟨w61.heap.size, 0, none⟩)), (3, .bool true), (1, .pointer (some ⟨w.heap.size, 0, none⟩))]) ⟨rfl, rfl, rfl, rfl, rfl, trivial⟩
   clear f163
   refine wp_seq ?_
   refine wp_block ?_
   refine wp_seq ?_
   refine At.start ?_
   refine At.rd f166 1 [[.ld (.slice A48 g.ow.length c49), .ld (.slice A50 g.pr.length c51), .ld (.slice A52 g.mv.length c53)]] [(26, .agg #[.slice A48 g.ow.length c49, .slice A50 g.pr.length c51, .slice A52 g.mv.length c53])] [(w144.cell? ⟨w61.heap.size, 0, none⟩ = some (.slice A48 g.ow.length c49)), (w144.cell? ⟨w61.heap.size, 1, none⟩ = some (.slice A50 g.pr.length c51)), (w144.cell? ⟨w61.heap.size, 2, none⟩ = some (.slice A52 g.mv.length c53))] (by kernel_rfl) ⟨(bx153.cell (i := 0) rfl), (bx153.cell (i := 1) rfl), (bx153.cell (i := 2) rfl), trivial⟩ (fun act168 f167 => ?_)
   clear f166
   refine At.call f167 28 #[.agg #[.slice A48 g.ow.length c49, .slice A50 g.pr.length c51, .slice A52 g.mv.length c53]] (some 27) (by kernel_rfl) (solveM_any (g := g) (RdG.mk (G := g) (ow150.rdI0 (by first | omega | (simp only [List.length_cons, List.length_nil]; omega) | (simp; done) | (simp; omega))) (ow151.rdI0 (by first | omega | (simp only [List.length_cons, List.length_nil]; omega) | (simp; done) | (simp; omega))) (r152.rdII0 (by first | omega | (simp only [List.length_cons, List.length_nil]; omega) | (simp; done) | (simp; omega)) hip60) ow150.cap ow151.cap r152.cap) (by first | omega | decide)) ?_
   rintro e_ w175 ⟨A169, c170, l171, rfl, he, ow172, hsv173⟩
   have hsv_M := hsv173
   have := solved_len hsv173
   refine ⟨_, rfl, _, rfl, fun act176 f177 => ?_⟩
   clear f167
   have g178 := gr_ext he
   have lt179 := ow150.lt
   have lt180 := ow151.lt
   have lt181 := r152.lt
   have lt182 := ow154.lt
   have lt183 := ow155.lt
   have szw175 := g178.size
   have e184 := e145.gr g178 no_row
   clear e145
   have r185 := r148.gr g178 (fun _ h => by cases h)
   clear r148
   have bx186 := bx149.gr g178 (by simp)
   clear bx149
   have ow187 : OwnR w175 (Sx (w26.heap.size) [obk (A169), obk (A116), obk (A95), some (w61.heap.size), obk (A50), obk (A52)]) A48 c49 3 (g.ow : List Int) := ow150.grA g178 (fun _ _ h => by cases h) (fun k hk hs => ⟨(fun e => by have := ow172.ge _ e; omega), hs.1, hs.2.1, hs.2.2.1, hs.2.2.2.1, hs.2.2.2.2.1, hs.2.2.2.2.2⟩)
   clear ow150
   have ow188 : OwnR w175 (Sx (w26.heap.size) [obk (A169), obk (A116), obk (A95), some (w61.heap.size), obk (A48), obk (A52)]) A50 c51 3 (g.pr : List Int) := ow151.grA g178 (fun _ _ h => by cases h) (fun k hk hs => ⟨(fun e => by have := ow172.ge _ e; omega), hs.1, hs.2.1, hs.2.2.1, hs.2.2.2.1, hs.2.2.2.2.1, hs.2.2.2.2.2⟩)
   clear ow151
   have ow189 : OwnLL w175 (w26.heap.size) [obk (A169), obk (A116), obk (A95), some (w61.heap.size), obk (A48), obk (A50)] A52 c53 22 3 (g.mv : List (List Int)) := r152.grA g178 (fun _ _ h => by cases h) (fun k hk hs => ⟨(fun e => by have := ow172.ge _ e; omega), hs.1, hs.2.1, hs.2.2.1, hs.2.2.2.1, hs.2.2.2.2.1, hs.2.2.2.2.2⟩)
   clear r152
   have bx190 := bx153.gr g178 (by simp)
   clear bx153
   have ow191 : OwnR w175 (Sx (w81.heap.size) [obk (A169), obk (A116), obk (A48), obk (A50), obk (A52)]) A95 c96 40 (l97 : List Tup) := ow154.grA g178 (fun _ _ h => by cases h) (fun k hk hs => ⟨(fun e => by have := ow172.ge _ e; omega), hs.1, hs.2.1, hs.2.2.1, hs.2.2.2.1, hs.2.2.2.2⟩)
   clear ow154
   have ow192 : OwnR w175 (Sx (w101.heap.size) [obk (A169), obk (A48), obk (A50), obk (A52), obk (A95)]) A116 c117 41 (l97 : List Tup) := ow155.grA g178 (fun _ _ h => by cases h) (fun k hk hs => ⟨(fun e => by have := ow172.ge _ e; omega), hs.1, hs.2.1, hs.2.2.1, hs.2.2.2.1, hs.2.2.2.2⟩)
   clear ow155
   have ow193 : OwnR w175 (Sx (w144.heap.size) [obk (A48), obk (A50), obk (A52), obk (A95), obk (A116)]) A169 c170 41 (l171 : List Tup) := ow172.imp (fun g _ hs => ⟨(fun e => by have := lt179 _ e; have := Sx_base hs; omega), (fun e => by have := lt180 _ e; have := Sx_base hs; omega), (fun e => by have := lt181 _ e; have := Sx_base hs; omega), (fun e => by have := lt182 _ e; have := Sx_base hs; omega), (fun e => by have := lt183 _ e; have := Sx_base hs; omega), hs⟩)
   clear ow172
   clear lt179 lt180 lt181 lt182 lt183
   clear g178 he
   refine At.rd f177 1 [[]] [(8, .slice A169 l171.length c170)] [] (by kernel_rfl) trivial (fun act195 f194 => ?_)
   clear f177
   refine At.done rfl ?_
   refine t_n ?_
   have f196 := f194.sub (r := [(8, .slice A169 l171.length c170), (7, .int .i64 (n)), (6, .slice A116 ((l97).length) c117), (5, .pointer (some ⟨w61.heap.size, 0, none⟩)), (3, .bool true), (1, .pointer (some ⟨w.heap.size, 0, none⟩))]) ⟨rfl, rfl, rfl, rfl, rfl, rfl, trivial⟩
   clear f194
   refine wp_seq ?_
   refine At.start ?_
   refine At.rd f196 2 [[], []] [(29, .slice A116 ((l97).length) c117), (28, .slice A169 l171.length c170)] [] (by kernel_rfl) trivial (fun act198 f197 => ?_)
   clear f196
   refine At.call f197 29 #[.slice A169 l171.length c170, .slice A116 ((l97).length) c117] (some 30) (by kernel_rfl) (sameT_any (la := l171) (lb := l97) ((ow193.rdR (by simp only [Enc.bytes]; omega)).wide (Nat.zero_le _) (by omega)) ((ow192.rdR (by simp only [Enc.bytes]; omega)).wide (Nat.zero_le _) (by omega))) ?_
   rintro e_ w199 ⟨rfl, he⟩
   refine ⟨_, rfl, _, rfl, fun act200 f201 => ?_⟩
   clear f197
   have g202 := gr_ext he
   have szw199 := g202.size
   have e203 := e184.gr g202 no_row
   clear e184
   have r204 := r185.gr g202 (fun _ h => by cases h)
   clear r185
   have bx205 := bx186.gr g202 (by simp)
   clear bx186
   have ow206 := ow187.gr g202 (fun _ _ h => by cases h)
   clear ow187
   have ow207 := ow188.gr g202 (fun _ _ h => by cases h)
   clear ow188
   have ow208 := ow189.gr g202 (fun _ _ h => by cases h)
   clear ow189
   have bx209 := bx190.gr g202 (by simp)
   clear bx190
   have ow210 := ow191.gr g202 (fun _ _ h => by cases h)
   clear ow191
   have ow211 := ow192.gr g202 (fun _ _ h => by cases h)
   clear ow192
   have ow212 := ow193.gr g202 (fun _ _ h => by cases h)
   clear ow193
   clear g202 he
   refine At.rd f201 1 [[]] [(9, .bool (decide (l171 = l97)))] [] (by kernel_rfl) trivial (fun act214 f213 => ?_)
   clear f201
   refine At.done rfl ?_
   refine t_n ?_
   have f215 := f213.sub (r := [(9, .bool (decide (l171 = l97))), (8, .slice A169 l171.length c170), (7, .int .i64 (n)), (6, .slice A116 ((l97).length) c117), (5, .pointer (some ⟨w61.heap.size, 0, none⟩)), (3, .bool true), (1, .pointer (some ⟨w.heap.size, 0, none⟩))]) ⟨rfl, rfl, rfl, rfl, rfl, rfl, rfl, trivial⟩
   clear f213
   refine wp_seq ?_
   refine wp_seq ?_
   refine At.start ?_
   refine At.rd f215 2 [[], []] [(32, .bool (!(decide (l171 = l97)))), (31, .bool (decide (l171 = l97)))] [] (by kernel_rfl) trivial (fun act217 f216 => ?_)
   clear f215
   refine At.done rfl ?_
   refine t_n ?_
   have f218 := f216.sub (r := [(32, .bool (!(decide (l171 = l97)))), (8, .slice A169 l171.length c170), (7, .int .i64 (n)), (6, .slice A116 ((l97).length) c117), (5, .pointer (some ⟨w61.heap.size, 0, none⟩)), (3, .bool true), (1, .pointer (some ⟨w.heap.size, 0, none⟩))]) ⟨rfl, rfl, rfl, rfl, rfl, rfl, rfl, trivial⟩
   clear f216
   refine cond_S f218 (t := !(decide (l171 = l97))) rfl (fun h219 => ?_) (fun h219 => ?_)
   ·have q220 : (decide (l171 = l97)) = false := by first | exact Eq.mp (Bool.not_eq_true' _) h219 | exact Eq.mp (Bool.not_eq_false' _) h219 | simpa using h219
    have q221 := of_decide_eq_false q220
    refine wp_seq ?_
    refine At.start ?_
    refine At.rd f218 1 [[]] [(2, .bool false)] [] (by kernel_rfl) trivial (fun act223 f222 => ?_)
    clear f218
    refine At.done rfl ?_
    refine t_n ?_
    have f224 := f222.sub (r := [(2, .bool false)]) ⟨rfl, trivial⟩
    clear f222
    refine wp_ret ?_
    refine t_r ?_
    refine b_r ?_
    refine t_r ?_
    refine t_r ?_
    refine b_r ?_
    refine t_r ?_
    refine ret_ f224 [] [.bool false] [] (by kernel_rfl) trivial ?_
    exfalso; first | omega | exact absurd (solved_one hsv_M hsv_R) (of_decide_eq_false (by assumption)) | exact of_decide_eq_false (by assumption : decide (g = g) = false) rfl | exact decide_eq_true rfl
   ·have q225 : (decide (l171 = l97)) = true := by first | exact Eq.mp (Bool.not_eq_true' _) h219 | exact Eq.mp (Bool.not_eq_false' _) h219 | simpa using h219
    have q226 := of_decide_eq_true q225
    refine wp_skip ?_
    refine t_n ?_
    have f227 := f218.sub (r := [(8, .slice A169 l171.length c170), (7, .int .i64 (n)), (6, .slice A116 ((l97).length) c117), (5, .pointer (some ⟨w61.heap.size, 0, none⟩)), (3, .bool true), (1, .pointer (some ⟨w.heap.size, 0, none⟩))]) ⟨rfl, rfl, rfl, rfl, rfl, rfl, trivial⟩
    clear f218
    refine wp_seq ?_
    refine At.start ?_
    refine At.rd f227 1 [[]] [(10, .int .i64 (0))] [] (by kernel_rfl) trivial (fun act229 f228 => ?_)
    clear f227
    refine At.done rfl ?_
    refine t_n ?_
    refine wp_block ?_
    have f233 := f228.as 8 (.slice A169 l171.length c170) (.slice A169 ((l171 : List Tup).length) c170) rfl (slice_len (by first | rfl | omega | (simp; done) | (simp; omega)))
    clear f228
    have f232 := f233.sub (r := [(10, .int .i64 (0)), (8, .slice A169 ((l171 : List Tup).length) c170), (7, .int .i64 (n)), (6, .slice A116 ((l97).length) c117), (5, .pointer (some ⟨w61.heap.size, 0, none⟩)), (3, .bool true), (1, .pointer (some ⟨w.heap.size, 0, none⟩))]) ⟨rfl, rfl, rfl, rfl, rfl, rfl, rfl, trivial⟩
    refine loop_g (fun (m_ : Nat) a_ w_ => ∃ (k : Int) (ls : List Tup) (A_230 : Option Addr) (c_231 : Nat), m_ = ((ls.length : Int) - k).toNat ∧ (Frm 50 a_ [(10, .int .i64 (k)), (8, .slice A_230 ls.length c_231), (7, .int .i64 (n)), (6, .slice A116 ((l97).length) c117), (5, .pointer (some ⟨w61.heap.size, 0, none⟩)), (3, .bool true), (1, .pointer (some ⟨w.heap.size, 0, none⟩))]) ∧ (Ext w w_) ∧ (RdG w_ 0 w.heap.size Ag0 Ag1 Ag2 cg0 cg1 cg2 g) ∧ (Bx w_ (w.heap.size) [.slice Ag0 g.ow.length cg0, .slice Ag1 g.pr.length cg1, .slice Ag2 g.mv.length cg2] 25) ∧ (OwnR w_ (Sx (w26.heap.size) [obk (A_230), obk (A116), obk (A95), some (w61.heap.size), obk (A50), obk (A52)]) A48 c49 3 (g.ow : List Int)) ∧ (OwnR w_ (Sx (w26.heap.size) [obk (A_230), obk (A116), obk (A95), some (w61.heap.size), obk (A48), obk (A52)]) A50 c51 3 (g.pr : List Int)) ∧ (OwnLL w_ (w26.heap.size) [obk (A_230), obk (A116), obk (A95), some (w61.heap.size), obk (A48), obk (A50)] A52 c53 22 3 (g.mv : List (List Int))) ∧ (Bx w_ (w61.heap.size) [.slice A48 g.ow.length c49, .slice A50 g.pr.length c51, .slice A52 g.mv.length c53] 25) ∧ (OwnR w_ (Sx (w81.heap.size) [obk (A_230), obk (A116), obk (A48), obk (A50), obk (A52)]) A95 c96 40 (l97 : List Tup)) ∧ (OwnR w_ (Sx (w101.heap.size) [obk (A_230), obk (A48), obk (A50), obk (A52), obk (A95)]) A116 c117 41 (l97 : List Tup)) ∧ (OwnR w_ (Sx (w144.heap.size) [obk (A48), obk (A50), obk (A52), obk (A95), obk (A116)]) A_230 c_231 41 (ls : List Tup)) ∧ (0 ≤ k) ∧ (k ≤ 1000) ∧ (ls.length ≤ 1000) ∧ (w26.heap.size ≤ w_.heap.size) ∧ (w81.heap.size ≤ w_.heap.size) ∧ (w101.heap.size ≤ w_.heap.size) ∧ (w144.heap.size ≤ w_.heap.size)) _ ⟨0, (l171 : List Tup), A169, c170, rfl, f232, e203, r204, bx205, ow206, ow207, ow208, bx209, ow210, ow211, ow212, (by omega), (by omega), (by omega), (by omega), (by omega), (by omega), (by omega)⟩ ?_
    clear f232 f233
    clear r204
    clear bx205
    clear ow206
    clear ow207
    clear ow208
    clear bx209
    clear ow210
    clear ow211
    clear ow212
    clear e203
    intro m_ act234 w235 ⟨k, ls, A_230, c_231, hm237, f238, e236, r239, bx240, ow241, ow242, r243, bx244, ow245, ow246, ow247, i248, i249, i250, i251, i252, i253, i254⟩
    have szw235 := e236.size
    have := bx240.lt
    have := bx244.lt
    refine wp_seq ?_
    refine wp_seq ?_
    refine At.start ?_
    refine At.rd f238 4 [[], [], [], []] [(36, .bool (decide ((k : Int) < ((ls.length : Nat) : Int)))), (35, .int .i64 (((ls.length : Nat) : Int))), (34, .slice A_230 ls.length c_231), (33, .int .i64 (k))] [] (by kernel_rfl) trivial (fun act256 f255 => ?_)
    clear f238
    refine At.done rfl ?_
    refine t_n ?_
    have f257 := f255.sub (r := [(36, .bool (decide ((k : Int) < ((ls.length : Nat) : Int)))), (10, .int .i64 (k)), (8, .slice A_230 ls.length c_231), (7, .int .i64 (n)), (6, .slice A116 ((l97).length) c117), (5, .pointer (some ⟨w61.heap.size, 0, none⟩)), (3, .bool true), (1, .pointer (some ⟨w.heap.size, 0, none⟩))]) ⟨rfl, rfl, rfl, rfl, rfl, rfl, rfl, rfl, trivial⟩
    clear f255
    refine cond_S f257 (t := decide ((k : Int) < ((ls.length : Nat) : Int))) rfl (fun h258 => ?_) (fun h258 => ?_)
    ·have q259 := of_decide_eq_true h258
     refine wp_skip ?_
     refine t_n ?_
     have f260 := f257.sub (r := [(10, .int .i64 (k)), (8, .slice A_230 ls.length c_231), (7, .int .i64 (n)), (6, .slice A116 ((l97).length) c117), (5, .pointer (some ⟨w61.heap.size, 0, none⟩)), (3, .bool true), (1, .pointer (some ⟨w.heap.size, 0, none⟩))]) ⟨rfl, rfl, rfl, rfl, rfl, rfl, rfl, trivial⟩
     clear f257
     refine wp_seq ?_
     refine wp_block ?_
     refine At.start ?_
     obtain ⟨ad261, hA262, hb265, hc264, hc263⟩ := ow247.get (k) (by omega) (by omega) (sz := 5) rfl
     refine At.rd f260 4 [[], [], [], [.ad ad261]] [(42, .pointer (some (ad261.add ((k : Int).toNat * 5)))), (41, .agg #[.bool true, .int .i64 (0), .int .i64 (0), .int .i64 (0), .int .i64 (0)]), (40, .int .i64 (k)), (39, .slice A_230 ls.length c_231)] [(A_230 = some ad261), (0 ≤ (k : Int)), ((k : Int) < (ls.length : Nat))] (by kernel_rfl) ⟨hA262, (by omega), (by omega), trivial⟩ (fun act267 f266 => ?_)
     clear f260
     refine At.act f266 (storeR (α := Tup) (t := 41) (i := k) (ad := ad261) (v := .agg #[.bool true, .int .i64 (0), .int .i64 (0), .int .i64 (0), .int .i64 (0)]) ((⟨true, 0, 0, 0, 0⟩ : Tup)) (by kernel_rfl) rfl rfl (by kernel_rfl) hA262 ow247 (by omega) (by omega)) ?_
     rintro d_ v_ w268 ⟨rfl, g269, ow270⟩
     refine ⟨_, rfl, fun act273 f272 => ?_⟩
     clear f266
     have hl271 : ((ls).set (k : Int).toNat (⟨true, 0, 0, 0, 0⟩ : Tup)).length = (ls).length := List.length_set
     have szw268 := g269.size
     have e274 := e236.gr g269 (fun k hk => by have := ow247.ge k hk; omega)
     clear e236
     have r275 := r239.gr g269 (fun k hk => by have := ow247.ge k hk; omega)
     clear r239
     have bx276 := bx240.gr g269 (fun e => by have := ow247.ge _ e; omega)
     clear bx240
     have ow277 := ow241.gr g269 (fun k hk => hk.1)
     clear ow241
     have ow278 := ow242.gr g269 (fun k hk => hk.1)
     clear ow242
     have ow279 := r243.gr g269 (fun k hk => hk.1)
     clear r243
     have bx280 := bx244.gr g269 (fun e => by have := ow247.ge _ e; omega)
     clear bx244
     have ow281 := ow245.gr g269 (fun k hk => hk.1)
     clear ow245
     have ow282 := ow246.gr g269 (fun k hk => hk.1)
     clear ow246
     clear ow247 g269
     refine At.done rfl ?_
     refine b_n ?_
     refine t_n ?_
     have f283 := f272.sub (r := [(10, .int .i64 (k)), (8, .slice A_230 ls.length c_231), (7, .int .i64 (n)), (6, .slice A116 ((l97).length) c117), (5, .pointer (some ⟨w61.heap.size, 0, none⟩)), (3, .bool true), (1, .pointer (some ⟨w.heap.size, 0, none⟩))]) ⟨rfl, rfl, rfl, rfl, rfl, rfl, rfl, trivial⟩
     clear f272
     refine At.start ?_
     refine At.rd f283 3 [[], [.as_ (.int .i64 (k + 1))], []] [(10, .int .i64 (k + 1)), (38, .int .i64 (k + 1)), (37, .int .i64 (k))] [((.int .i64 (IntKind.i64.wrap (k + 1)) : Value) = .int .i64 (k + 1))] (by kernel_rfl) ⟨(w64 (by omega) (by omega)), trivial⟩ (fun act285 f284 => ?_)
     clear f283
     refine At.done rfl ?_
     refine t_n ?_
     have f286 := f284.as 8 (.slice A_230 ls.length c_231) (.slice A_230 (((ls).set (k : Int).toNat (⟨true, 0, 0, 0, 0⟩ : Tup) : List Tup).length) c_231) rfl (slice_len (by first | rfl | omega | (simp; done) | (simp; omega)))
     clear f284
     have f287 := f286.sub (r := [(10, .int .i64 (k + 1)), (8, .slice A_230 (((ls).set (k : Int).toNat (⟨true, 0, 0, 0, 0⟩ : Tup) : List Tup).length) c_231), (7, .int .i64 (n)), (6, .slice A116 ((l97).length) c117), (5, .pointer (some ⟨w61.heap.size, 0, none⟩)), (3, .bool true), (1, .pointer (some ⟨w.heap.size, 0, none⟩))]) ⟨rfl, rfl, rfl, rfl, rfl, rfl, rfl, trivial⟩
     exact ⟨_, (by omega), (k + 1), ((ls).set (k : Int).toNat (⟨true, 0, 0, 0, 0⟩ : Tup) : List Tup), A_230, c_231, rfl, f287, e274, r275, bx276, ow277, ow278, ow279, bx280, ow281, ow282, ow270, (by omega), (by omega), (by omega), (by omega), (by omega), (by omega), (by omega)⟩
    ·have q288 := of_decide_eq_false h258
     refine wp_exit ?_
     refine t_e ?_
     refine t_e ?_
     refine b_e ?_
     refine b_n ?_
     refine t_n ?_
     have f289 := f257.sub (r := [(7, .int .i64 (n)), (6, .slice A116 ((l97).length) c117), (5, .pointer (some ⟨w61.heap.size, 0, none⟩)), (3, .bool true), (1, .pointer (some ⟨w.heap.size, 0, none⟩))]) ⟨rfl, rfl, rfl, rfl, rfl, trivial⟩
     clear f257
     refine At.start ?_
     refine At.rd f289 3 [[], [.as_ (.int .i64 (n + 1))], []] [(7, .int .i64 (n + 1)), (25, .int .i64 (n + 1)), (24, .int .i64 (n))] [((.int .i64 (IntKind.i64.wrap (n + 1)) : Value) = .int .i64 (n + 1))] (by kernel_rfl) ⟨(w64 (by omega) (by omega)), trivial⟩ (fun act291 f290 => ?_)
     clear f289
     refine At.done rfl ?_
     refine t_n ?_
     have f292 := f290.sub (r := [(7, .int .i64 (n + 1)), (6, .slice A116 ((l97).length) c117), (5, .pointer (some ⟨w61.heap.size, 0, none⟩)), (3, .bool true), (1, .pointer (some ⟨w.heap.size, 0, none⟩))]) ⟨rfl, rfl, rfl, rfl, rfl, trivial⟩
     exact ⟨_, (by omega), (n + 1), rfl, f292, e236, r239, bx240, (ow241.imp (fun g _ hs => ⟨hs.2.1, hs.2.2.1, hs.2.2.2.1, hs.2.2.2.2.1, hs.2.2.2.2.2.1, hs.2.2.2.2.2.2⟩)), (ow242.imp (fun g _ hs => ⟨hs.2.1, hs.2.2.1, hs.2.2.2.1, hs.2.2.2.2.1, hs.2.2.2.2.2.1, hs.2.2.2.2.2.2⟩)), (r243.imp (fun g _ hs => ⟨hs.2.1, hs.2.2.1, hs.2.2.2.1, hs.2.2.2.2.1, hs.2.2.2.2.2.1, hs.2.2.2.2.2.2⟩)), bx244, (ow245.imp (fun g _ hs => ⟨hs.2.1, hs.2.2.1, hs.2.2.2.1, hs.2.2.2.2.1, hs.2.2.2.2.2⟩)), (ow246.imp (fun g _ hs => ⟨hs.2.1, hs.2.2.1, hs.2.2.2.1, hs.2.2.2.2.1, hs.2.2.2.2.2⟩)), (by omega), (by omega), (by omega), (by omega), (by omega)⟩
  ·have q293 := of_decide_eq_false h164
   refine wp_exit ?_
   refine t_e ?_
   refine t_e ?_
   refine b_e ?_
   refine t_n ?_
   have f294 := f163.sub (r := [(5, .pointer (some ⟨w61.heap.size, 0, none⟩)), (3, .bool true), (1, .pointer (some ⟨w.heap.size, 0, none⟩))]) ⟨rfl, rfl, rfl, trivial⟩
   clear f163
   refine wp_seq ?_
   refine At.start ?_
   refine At.rd f294 2 [[.ld (.slice A48 g.ow.length c49), .ld (.slice A50 g.pr.length c51), .ld (.slice A52 g.mv.length c53)], [.ld (.slice Ag0 g.ow.length cg0), .ld (.slice Ag1 g.pr.length cg1), .ld (.slice Ag2 g.mv.length cg2)]] [(44, .agg #[.slice Ag0 g.ow.length cg0, .slice Ag1 g.pr.length cg1, .slice Ag2 g.mv.length cg2]), (43, .agg #[.slice A48 g.ow.length c49, .slice A50 g.pr.length c51, .slice A52 g.mv.length c53])] [(w144.cell? ⟨w61.heap.size, 0, none⟩ = some (.slice A48 g.ow.length c49)), (w144.cell? ⟨w61.heap.size, 1, none⟩ = some (.slice A50 g.pr.length c51)), (w144.cell? ⟨w61.heap.size, 2, none⟩ = some (.slice A52 g.mv.length c53)), (w144.cell? ⟨w.heap.size, 0, none⟩ = some (.slice Ag0 g.ow.length cg0)), (w144.cell? ⟨w.heap.size, 1, none⟩ = some (.slice Ag1 g.pr.length cg1)), (w144.cell? ⟨w.heap.size, 2, none⟩ = some (.slice Ag2 g.mv.length cg2))] (by kernel_rfl) ⟨(bx153.cell (i := 0) rfl), (bx153.cell (i := 1) rfl), (bx153.cell (i := 2) rfl), (bx149.cell (i := 0) rfl), (bx149.cell (i := 1) rfl), (bx149.cell (i := 2) rfl), trivial⟩ (fun act296 f295 => ?_)
   clear f294
   refine At.call f295 19 #[.agg #[.slice A48 g.ow.length c49, .slice A50 g.pr.length c51, .slice A52 g.mv.length c53], .agg #[.slice Ag0 g.ow.length cg0, .slice Ag1 g.pr.length cg1, .slice Ag2 g.mv.length cg2]] (some 45) (by kernel_rfl) (same_any (a := g) (b := g) (RdG.mk (G := g) (ow150.rdI0 (by first | omega | (simp only [List.length_cons, List.length_nil]; omega) | (simp; done) | (simp; omega))) (ow151.rdI0 (by first | omega | (simp only [List.length_cons, List.length_nil]; omega) | (simp; done) | (simp; omega))) (r152.rdII0 (by first | omega | (simp only [List.length_cons, List.length_nil]; omega) | (simp; done) | (simp; omega)) hip60) ow150.cap ow151.cap r152.cap) (r148.wide (Nat.zero_le _) (by omega))) ?_
   rintro e_ w297 ⟨rfl, he⟩
   refine ⟨_, rfl, _, rfl, fun act298 f299 => ?_⟩
   clear f295
   have g300 := gr_ext he
   have szw297 := g300.size
   have e301 := e145.gr g300 no_row
   clear e145
   have r302 := r148.gr g300 (fun _ h => by cases h)
   clear r148
   have bx303 := bx149.gr g300 (by simp)
   clear bx149
   have ow304 := ow150.gr g300 (fun _ _ h => by cases h)
   clear ow150
   have ow305 := ow151.gr g300 (fun _ _ h => by cases h)
   clear ow151
   have ow306 := r152.gr g300 (fun _ _ h => by cases h)
   clear r152
   have bx307 := bx153.gr g300 (by simp)
   clear bx153
   have ow308 := ow154.gr g300 (fun _ _ h => by cases h)
   clear ow154
   have ow309 := ow155.gr g300 (fun _ _ h => by cases h)
   clear ow155
   clear g300 he
   refine At.rd f299 1 [[]] [(11, .bool (decide (g = g)))] [] (by kernel_rfl) trivial (fun act311 f310 => ?_)
   clear f299
   refine At.done rfl ?_
   refine t_n ?_
   have f312 := f310.sub (r := [(11, .bool (decide (g = g))), (3, .bool true)]) ⟨rfl, rfl, trivial⟩
   clear f310
   refine wp_seq ?_
   refine At.start ?_
   refine At.rd f312 5 [[], [], [], [], []] [(2, .bool (decide (g = g))), (49, .bool (decide (g = g))), (48, .bool (decide (g = g))), (47, .bool true), (46, .bool true)] [] (by kernel_rfl) trivial (fun act314 f313 => ?_)
   clear f312
   refine At.done rfl ?_
   refine t_n ?_
   have f315 := f313.sub (r := [(2, .bool (decide (g = g)))]) ⟨rfl, trivial⟩
   clear f313
   refine wp_ret ?_
   refine ret_ f315 [] [.bool (decide (g = g))] [] (by kernel_rfl) trivial ?_
   exact ⟨ret_eq (congrArg Value.bool (by first | omega | exact absurd (solved_one hsv_M hsv_R) (of_decide_eq_false (by assumption)) | exact of_decide_eq_false (by assumption : decide (g = g) = false) rfl | exact decide_eq_true rfl)), e301⟩

end Go.Proofs.Ytklbpajmoklheaa
