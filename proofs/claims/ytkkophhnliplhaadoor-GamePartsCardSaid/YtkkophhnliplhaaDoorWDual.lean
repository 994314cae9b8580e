/-
  A walk of a Go function, printed by a program of this repo. Conditions: what the theorems name.
-/
import Derived.Test.YtkkophhnliplhaaDoorWRight2
import Derived.Test.YtkkophhnliplhaaDoorWIs
import Derived.Test.YtkkophhnliplhaaDoorWCopyM
import Derived.Test.YtkkophhnliplhaaDoorPureDual
set_option linter.unusedVariables false
set_option linter.unusedSimpArgs false
namespace Go.Proofs.YtkkophhnliplhaaDoor
open Go Go.RowKit

set_option maxHeartbeats 4000000 in
theorem isM_any {Ag0 Ag1 Ag2 : Option Addr} {cg0 cg1 cg2 : Nat} {g : GameL} {w : World} (rg : RdG w 0 w.heap.size Ag0 Ag1 Ag2 cg0 cg1 cg2 g) :
    Calls Tryd.prog 39 #[.agg #[.slice Ag0 g.ow.length cg0, .slice Ag1 g.pr.length cg1, .slice Ag2 g.mv.length cg2]] w fun e w' => e = .returned (.bool (isR g)) ∧ Ext w w' := by
 have hlg0 := rg.ow.len
 have hlg1 := rg.pr.len
 have hlg2 := rg.mv.len
 have hkg0 := rg.k0
 have hkg1 := rg.k1
 have hkg2 := rg.k2
 refine enter_ (args := [.agg #[.slice Ag0 g.ow.length cg0, .slice Ag1 g.pr.length cg1, .slice Ag2 g.mv.length cg2]]) Tryd.func39 rfl Tryd.ntmps39 (Nat.le_of_ble_eq_true rfl) (fun act0 f0 => ?_)
 have e0 : Ext w w := Ext.refl w
 refine wp_seq ?_
 refine At.start ?_
 refine At.seq f0 1 [[]] [(1, .pointer (some ⟨w.heap.size, 0, none⟩))] (w.alloc (.cells #[.slice Ag0 g.ow.length cg0, .slice Ag1 g.pr.length cg1, .slice Ag2 g.mv.length cg2] 25 (0, 0))) [] (by kernel_rfl) trivial (fun act4 w1 hw2 f3 => ?_)
 clear f0
 have g5 := gr_alloc hw2
 have szw1 := g5.size
 replace e0 := e0.gr g5 no_row
 have r8 := rg.gr g5 (fun _ h => by cases h)
 clear rg
 have bx9 : Bx w1 (w.heap.size) [.slice Ag0 g.ow.length cg0, .slice Ag1 g.pr.length cg1, .slice Ag2 g.mv.length cg2] 25 := Bx.new hw2
 have := bx9.lt
 clear g5 hw2
 refine At.rd f3 1 [[]] [(2, .bool false)] [] (by kernel_rfl) trivial (fun act11 f10 => ?_)
 clear f3
 refine At.done rfl ?_
 refine t_n ?_
 have f12 := f10.sub (r := [(1, .pointer (some ⟨w.heap.size, 0, none⟩))]) ⟨rfl, trivial⟩
 clear f10
 refine wp_seq ?_
 refine At.start ?_
 refine At.rd f12 1 [[.ld (.slice Ag0 g.ow.length cg0), .ld (.slice Ag1 g.pr.length cg1), .ld (.slice Ag2 g.mv.length cg2)]] [(6, .agg #[.slice Ag0 g.ow.length cg0, .slice Ag1 g.pr.length cg1, .slice Ag2 g.mv.length cg2])] [(w1.cell? ⟨w.heap.size, 0, none⟩ = some (.slice Ag0 g.ow.length cg0)), (w1.cell? ⟨w.heap.size, 1, none⟩ = some (.slice Ag1 g.pr.length cg1)), (w1.cell? ⟨w.heap.size, 2, none⟩ = some (.slice Ag2 g.mv.length cg2))] (by kernel_rfl) ⟨(bx9.cell (i := 0) rfl), (bx9.cell (i := 1) rfl), (bx9.cell (i := 2) rfl), trivial⟩ (fun act14 f13 => ?_)
 clear f12
 refine At.call f13 14 #[.agg #[.slice Ag0 g.ow.length cg0, .slice Ag1 g.pr.length cg1, .slice Ag2 g.mv.length cg2]] (some 7) (by kernel_rfl) (right_any (r8.wide (Nat.zero_le _) (by omega))) ?_
 rintro e_ w15 ⟨rfl, he⟩
 refine ⟨_, rfl, _, rfl, fun act16 f17 => ?_⟩
 clear f13
 have g18 := gr_ext he
 have szw15 := g18.size
 replace e0 := e0.gr g18 no_row
 replace r8 := r8.gr g18 (fun _ h => by cases h)
 replace bx9 := bx9.gr g18 (by simp)
 clear g18 he
 refine At.rd f17 5 [[], [], [], [], []] [(4, .int .i64 ((rightP g).2)), (3, .int .i64 ((rightP g).1)), (9, .int .i64 ((rightP g).2)), (8, .int .i64 ((rightP g).1)), (5, .tuple #[.int .i64 ((rightP g).1), .int .i64 ((rightP g).2)])] [] (by kernel_rfl) trivial (fun act23 f22 => ?_)
 clear f17
 refine At.done rfl ?_
 refine t_n ?_
 have f24 := f22.sub (r := [(4, .int .i64 ((rightP g).2))]) ⟨rfl, trivial⟩
 clear f22
 refine wp_seq ?_
 refine At.start ?_
 refine At.rd f24 3 [[], [], []] [(2, .bool (((rightP g).2 : Int) == 0)), (11, .bool (((rightP g).2 : Int) == 0)), (10, .int .i64 ((rightP g).2))] [] (by kernel_rfl) trivial (fun act26 f25 => ?_)
 clear f24
 refine At.done rfl ?_
 refine t_n ?_
 have f27 := f25.sub (r := [(2, .bool (((rightP g).2 : Int) == 0))]) ⟨rfl, trivial⟩
 clear f25
 refine wp_ret ?_
 refine ret_ f27 [] [.bool (((rightP g).2 : Int) == 0)] [] (by kernel_rfl) trivial ?_
 exact ⟨rfl, e0⟩

set_option maxHeartbeats 4000000 in
theorem dualM_any {Ag0 Ag1 Ag2 : Option Addr} {cg0 cg1 cg2 : Nat} {g : GameL} {w : World} (rg : RdG w 0 w.heap.size Ag0 Ag1 Ag2 cg0 cg1 cg2 g) :
    Calls Tryd.prog 18 #[.agg #[.slice Ag0 g.ow.length cg0, .slice Ag1 g.pr.length cg1, .slice Ag2 g.mv.length cg2]] w fun e w' => ∃ A0 c0 A1 c1 A2 c2, e = .returned (.agg #[.slice A0 (dualG g).ow.length c0, .slice A1 (dualG g).pr.length c1, .slice A2 (dualG g).mv.length c2]) ∧ Ext w w' ∧ OwnR w' (Sx w.heap.size [obk A1, obk A2]) A0 c0 3 (dualG g).ow ∧ OwnR w' (Sx w.heap.size [obk A0, obk A2]) A1 c1 3 (dualG g).pr ∧ OwnLL w' w.heap.size [obk A0, obk A1] A2 c2 22 3 (dualG g).mv := by
 have hlg0 := rg.ow.len
 have hlg1 := rg.pr.len
 have hlg2 := rg.mv.len
 have hkg0 := rg.k0
 have hkg1 := rg.k1
 have hkg2 := rg.k2
 refine enter_ (args := [.agg #[.slice Ag0 g.ow.length cg0, .slice Ag1 g.pr.length cg1, .slice Ag2 g.mv.length cg2]]) Tryd.func18 rfl Tryd.ntmps18 (Nat.le_of_ble_eq_true rfl) (fun act0 f0 => ?_)
 have e0 : Ext w w := Ext.refl w
 refine wp_seq ?_
 refine At.start ?_
 refine At.seq f0 1 [[]] [(1, .pointer (some ⟨w.heap.size, 0, none⟩))] (w.alloc (.cells #[.slice Ag0 g.ow.length cg0, .slice Ag1 g.pr.length cg1, .slice Ag2 g.mv.length cg2] 25 (0, 0))) [] (by kernel_rfl) trivial (fun act4 w1 hw2 f3 => ?_)
 clear f0
 have g5 := gr_alloc hw2
 have szw1 := g5.size
 replace e0 := e0.gr g5 no_row
 have r8 := rg.gr g5 (fun _ h => by cases h)
 clear rg
 have bx9 : Bx w1 (w.heap.size) [.slice Ag0 g.ow.length cg0, .slice Ag1 g.pr.length cg1, .slice Ag2 g.mv.length cg2] 25 := Bx.new hw2
 have := bx9.lt
 clear g5 hw2
 refine At.seq f3 1 [[]] [(2, .pointer (some ⟨w1.heap.size, 0, none⟩))] (w1.alloc (.cells #[.slice none 0 0, .slice none 0 0, .slice none 0 0] 25 (0, 0))) [] (by kernel_rfl) trivial (fun act13 w10 hw11 f12 => ?_)
 clear f3
 have g14 := gr_alloc hw11
 have szw10 := g14.size
 replace e0 := e0.gr g14 no_row
 replace r8 := r8.gr g14 (fun _ h => by cases h)
 replace bx9 := bx9.gr g14 (by simp)
 have bx19 : Bx w10 (w1.heap.size) [.slice none 0 0, .slice none 0 0, .slice none 0 0] 25 := Bx.new hw11
 have := bx19.lt
 clear g14 hw11
 refine At.done rfl ?_
 refine t_n ?_
 have f20 := f12.sub (r := [(2, .pointer (some ⟨w1.heap.size, 0, none⟩)), (1, .pointer (some ⟨w.heap.size, 0, none⟩))]) ⟨rfl, rfl, trivial⟩
 clear f12
 refine wp_seq ?_
 refine At.start ?_
 refine At.rd f20 2 [[], [.ld (.slice Ag1 g.pr.length cg1)]] [(7, .slice Ag1 g.pr.length cg1), (6, .pointer (some ⟨w.heap.size, 1, none⟩))] [(w10.cell? ⟨w.heap.size, 1, none⟩ = some (.slice Ag1 g.pr.length cg1))] (by kernel_rfl) ⟨(bx9.cell (i := 1) rfl), trivial⟩ (fun act22 f21 => ?_)
 clear f20
 refine At.call f21 38 #[.slice Ag1 g.pr.length cg1, .int .i64 (7)] (some 8) (by kernel_rfl) (contains_any (v := 7) (r8.pr.wide (Nat.zero_le _) (by omega))) ?_
 rintro e_ w23 ⟨rfl, he⟩
 refine ⟨_, rfl, _, rfl, fun act24 f25 => ?_⟩
 clear f21
 have g26 := gr_ext he
 have szw23 := g26.size
 replace e0 := e0.gr g26 no_row
 replace r8 := r8.gr g26 (fun _ h => by cases h)
 replace bx9 := bx9.gr g26 (by simp)
 replace bx19 := bx19.gr g26 (by simp)
 clear g26 he
 refine At.rd f25 1 [[]] [(3, .bool (decide (7 ∈ g.pr)))] [] (by kernel_rfl) trivial (fun act32 f31 => ?_)
 clear f25
 refine At.done rfl ?_
 refine t_n ?_
 have f33 := f31.sub (r := [(3, .bool (decide (7 ∈ g.pr))), (2, .pointer (some ⟨w1.heap.size, 0, none⟩)), (1, .pointer (some ⟨w.heap.size, 0, none⟩))]) ⟨rfl, rfl, rfl, trivial⟩
 clear f31
 refine wp_seq (cut (fun a_ w_ => (Frm 53 a_ [(3, .bool (decide (7 ∈ g.pr))), (2, .pointer (some ⟨w1.heap.size, 0, none⟩)), (1, .pointer (some ⟨w.heap.size, 0, none⟩))]) ∧ (Ext w w_) ∧ (RdG w_ 0 w.heap.size Ag0 Ag1 Ag2 cg0 cg1 cg2 g) ∧ (Bx w_ (w.heap.size) [.slice Ag0 g.ow.length cg0, .slice Ag1 g.pr.length cg1, .slice Ag2 g.mv.length cg2] 25) ∧ (Bx w_ (w1.heap.size) [.slice none 0 0, .slice none 0 0, .slice none 0 0] 25) ∧ (isR g = true) ∧ (¬ (7 ∈ g.pr ∧ 0 ∈ g.pr)) ∧ (w23.heap.size ≤ w_.heap.size)) ?_ ?_)
 ·refine wp_seq ?_
  refine At.start ?_
  refine At.rd f33 1 [[.ld (.slice Ag0 g.ow.length cg0), .ld (.slice Ag1 g.pr.length cg1), .ld (.slice Ag2 g.mv.length cg2)]] [(9, .agg #[.slice Ag0 g.ow.length cg0, .slice Ag1 g.pr.length cg1, .slice Ag2 g.mv.length cg2])] [(w23.cell? ⟨w.heap.size, 0, none⟩ = some (.slice Ag0 g.ow.length cg0)), (w23.cell? ⟨w.heap.size, 1, none⟩ = some (.slice Ag1 g.pr.length cg1)), (w23.cell? ⟨w.heap.size, 2, none⟩ = some (.slice Ag2 g.mv.length cg2))] (by kernel_rfl) ⟨(bx9.cell (i := 0) rfl), (bx9.cell (i := 1) rfl), (bx9.cell (i := 2) rfl), trivial⟩ (fun act35 f34 => ?_)
  clear f33
  refine At.call f34 39 #[.agg #[.slice Ag0 g.ow.length cg0, .slice Ag1 g.pr.length cg1, .slice Ag2 g.mv.length cg2]] (some 10) (by kernel_rfl) (isM_any (r8.wide (Nat.zero_le _) (by omega))) ?_
  rintro e_ w36 ⟨rfl, he⟩
  refine ⟨_, rfl, _, rfl, fun act37 f38 => ?_⟩
  clear f34
  have g39 := gr_ext he
  have szw36 := g39.size
  replace e0 := e0.gr g39 no_row
  replace r8 := r8.gr g39 (fun _ h => by cases h)
  replace bx9 := bx9.gr g39 (by simp)
  replace bx19 := bx19.gr g39 (by simp)
  clear g39 he
  rcases Bool.eq_false_or_eq_true (!(isR g)) with h44 | h44
  ·have q45 : (isR g) = false := by first | exact Eq.mp (Bool.not_eq_true' _) h44 | exact Eq.mp (Bool.not_eq_false' _) h44 | simpa using h44
   refine At.rd f38 9 [[], [.as_ (.bool true)], [], [], [], [], [], [], []] [(19, .bool true), (18, undef), (17, undef), (16, undef), (15, undef), (14, undef), (13, undef), (12, .bool true), (11, .bool (!(isR g)))] [((.bool (!(isR g)) : Value) = .bool true)] (by kernel_rfl) ⟨(congrArg Value.bool h44), trivial⟩ (fun act48 f47 => ?_)
   clear f38
   refine At.done rfl ?_
   refine t_n ?_
   have f49 := f47.sub (r := [(19, .bool true), (3, .bool (decide (7 ∈ g.pr))), (2, .pointer (some ⟨w1.heap.size, 0, none⟩)), (1, .pointer (some ⟨w.heap.size, 0, none⟩))]) ⟨rfl, rfl, rfl, rfl, trivial⟩
   clear f47
   refine cond_T f49 rfl ?_
   refine wp_seq ?_
   refine At.start ?_
   refine At.rd f49 1 [[]] [(20, .agg #[.slice none 0 0, .slice none 0 0, .slice none 0 0])] [] (by kernel_rfl) trivial (fun act51 f50 => ?_)
   clear f49
   refine At.store f50 (t := 25) (b := w1.heap.size) (off := 0) (v := .agg #[.slice none 0 0, .slice none 0 0, .slice none 0 0]) (by kernel_rfl) bx19 (by kernel_rfl) (fun act56 w52 g53 bx54 f55 => ?_)
   clear f50
   replace bx54 : Bx w52 (w1.heap.size) [.slice none 0 0, .slice none 0 0, .slice none 0 0] 25 := bx54
   have szw52 := g53.size
   replace e0 := e0.gr g53 (fun k h => by injection h; omega)
   replace r8 := r8.gr g53 (fun k h => by injection h; omega)
   replace bx9 := bx9.gr g53 (fun h => by injection h; omega)
   clear bx19 g53
   refine At.done rfl ?_
   refine t_n ?_
   have f60 := f55.sub (r := [(2, .pointer (some ⟨w1.heap.size, 0, none⟩))]) ⟨rfl, trivial⟩
   clear f55
   refine wp_ret ?_
   refine t_r ?_
   refine ret_ f60 [[.slice none 0 0, .slice none 0 0, .slice none 0 0]] [.agg #[.slice none 0 0, .slice none 0 0, .slice none 0 0]] [(w52.cell? ⟨w1.heap.size, 0, none⟩ = some (.slice none 0 0)), (w52.cell? ⟨w1.heap.size, 1, none⟩ = some (.slice none 0 0)), (w52.cell? ⟨w1.heap.size, 2, none⟩ = some (.slice none 0 0))] (by kernel_rfl) ⟨(bx54.cell (i := 0) rfl), (bx54.cell (i := 1) rfl), (bx54.cell (i := 2) rfl), trivial⟩ ?_
   rw [dual_no (by first | exact .inl (by assumption) | exact .inr ⟨of_decide_eq_true (by assumption), of_decide_eq_true (by assumption)⟩)]
   exact ⟨none, 0, none, 0, none, 0, rfl, e0, OwnR.nil, OwnR.nil, OwnLL.nil⟩
  ·have q61 : (isR g) = true := by first | exact Eq.mp (Bool.not_eq_true' _) h44 | exact Eq.mp (Bool.not_eq_false' _) h44 | simpa using h44
   rcases Bool.eq_false_or_eq_true (decide (7 ∈ g.pr)) with h63 | h63
   ·have q64 := of_decide_eq_true h63
    refine At.rd f38 6 [[], [.as_ (.bool false)], [], [.as_ (.bool true)], [], [.ld (.slice Ag1 g.pr.length cg1)]] [(16, .slice Ag1 g.pr.length cg1), (15, .pointer (some ⟨w.heap.size, 1, none⟩)), (14, .bool true), (13, .bool (decide (7 ∈ g.pr))), (12, .bool false), (11, .bool (!(isR g)))] [((.bool (!(isR g)) : Value) = .bool false), ((.bool (decide (7 ∈ g.pr)) : Value) = .bool true), (w36.cell? ⟨w.heap.size, 1, none⟩ = some (.slice Ag1 g.pr.length cg1))] (by kernel_rfl) ⟨(congrArg Value.bool h44), (congrArg Value.bool h63), (bx9.cell (i := 1) rfl), trivial⟩ (fun act66 f65 => ?_)
    clear f38
    refine At.call f65 38 #[.slice Ag1 g.pr.length cg1, .int .i64 (0)] (some 17) (by kernel_rfl) (contains_any (v := 0) (r8.pr.wide (Nat.zero_le _) (by omega))) ?_
    rintro e_ w67 ⟨rfl, he⟩
    refine ⟨_, rfl, _, rfl, fun act68 f69 => ?_⟩
    clear f65
    have g70 := gr_ext he
    have szw67 := g70.size
    replace e0 := e0.gr g70 no_row
    replace r8 := r8.gr g70 (fun _ h => by cases h)
    replace bx9 := bx9.gr g70 (by simp)
    replace bx19 := bx19.gr g70 (by simp)
    clear g70 he
    refine At.rd f69 2 [[], []] [(19, .bool (decide (0 ∈ g.pr))), (18, .bool (decide (0 ∈ g.pr)))] [] (by kernel_rfl) trivial (fun act76 f75 => ?_)
    clear f69
    refine At.done rfl ?_
    refine t_n ?_
    have f77 := f75.sub (r := [(19, .bool (decide (0 ∈ g.pr))), (3, .bool (decide (7 ∈ g.pr))), (2, .pointer (some ⟨w1.heap.size, 0, none⟩)), (1, .pointer (some ⟨w.heap.size, 0, none⟩))]) ⟨rfl, rfl, rfl, rfl, trivial⟩
    clear f75
    refine cond_S f77 (t := decide (0 ∈ g.pr)) rfl (fun h78 => ?_) (fun h78 => ?_)
    ·have q79 := of_decide_eq_true h78
     refine wp_seq ?_
     refine At.start ?_
     refine At.rd f77 1 [[]] [(20, .agg #[.slice none 0 0, .slice none 0 0, .slice none 0 0])] [] (by kernel_rfl) trivial (fun act81 f80 => ?_)
     clear f77
     refine At.store f80 (t := 25) (b := w1.heap.size) (off := 0) (v := .agg #[.slice none 0 0, .slice none 0 0, .slice none 0 0]) (by kernel_rfl) bx19 (by kernel_rfl) (fun act86 w82 g83 bx84 f85 => ?_)
     clear f80
     replace bx84 : Bx w82 (w1.heap.size) [.slice none 0 0, .slice none 0 0, .slice none 0 0] 25 := bx84
     have szw82 := g83.size
     replace e0 := e0.gr g83 (fun k h => by injection h; omega)
     replace r8 := r8.gr g83 (fun k h => by injection h; omega)
     replace bx9 := bx9.gr g83 (fun h => by injection h; omega)
     clear bx19 g83
     refine At.done rfl ?_
     refine t_n ?_
     have f90 := f85.sub (r := [(2, .pointer (some ⟨w1.heap.size, 0, none⟩))]) ⟨rfl, trivial⟩
     clear f85
     refine wp_ret ?_
     refine t_r ?_
     refine ret_ f90 [[.slice none 0 0, .slice none 0 0, .slice none 0 0]] [.agg #[.slice none 0 0, .slice none 0 0, .slice none 0 0]] [(w82.cell? ⟨w1.heap.size, 0, none⟩ = some (.slice none 0 0)), (w82.cell? ⟨w1.heap.size, 1, none⟩ = some (.slice none 0 0)), (w82.cell? ⟨w1.heap.size, 2, none⟩ = some (.slice none 0 0))] (by kernel_rfl) ⟨(bx84.cell (i := 0) rfl), (bx84.cell (i := 1) rfl), (bx84.cell (i := 2) rfl), trivial⟩ ?_
     rw [dual_no (by first | exact .inl (by assumption) | exact .inr ⟨of_decide_eq_true (by assumption), of_decide_eq_true (by assumption)⟩)]
     exact ⟨none, 0, none, 0, none, 0, rfl, e0, OwnR.nil, OwnR.nil, OwnLL.nil⟩
    ·have q91 := of_decide_eq_false h78
     refine wp_skip ?_
     refine t_n ?_
     have f92 := f77.sub (r := [(3, .bool (decide (7 ∈ g.pr))), (2, .pointer (some ⟨w1.heap.size, 0, none⟩)), (1, .pointer (some ⟨w.heap.size, 0, none⟩))]) ⟨rfl, rfl, rfl, trivial⟩
     exact ⟨f92, e0, r8, bx9, bx19, (by assumption), (by first | exact fun h_ => absurd h_.1 (of_decide_eq_false (by assumption)) | exact fun h_ => absurd h_.2 (of_decide_eq_false (by assumption))), (by omega)⟩
   ·have q93 := of_decide_eq_false h63
    refine At.rd f38 9 [[], [.as_ (.bool false)], [], [.as_ (.bool false)], [], [], [], [], []] [(19, .bool false), (18, .bool false), (17, undef), (16, undef), (15, undef), (14, .bool false), (13, .bool (decide (7 ∈ g.pr))), (12, .bool false), (11, .bool (!(isR g)))] [((.bool (!(isR g)) : Value) = .bool false), ((.bool (decide (7 ∈ g.pr)) : Value) = .bool false)] (by kernel_rfl) ⟨(congrArg Value.bool h44), (congrArg Value.bool h63), trivial⟩ (fun act95 f94 => ?_)
    clear f38
    refine At.done rfl ?_
    refine t_n ?_
    have f96 := f94.sub (r := [(19, .bool false), (3, .bool (decide (7 ∈ g.pr))), (2, .pointer (some ⟨w1.heap.size, 0, none⟩)), (1, .pointer (some ⟨w.heap.size, 0, none⟩))]) ⟨rfl, rfl, rfl, rfl, trivial⟩
    clear f94
    refine cond_F f96 rfl ?_
    refine wp_skip ?_
    refine t_n ?_
    have f97 := f96.sub (r := [(3, .bool (decide (7 ∈ g.pr))), (2, .pointer (some ⟨w1.heap.size, 0, none⟩)), (1, .pointer (some ⟨w.heap.size, 0, none⟩))]) ⟨rfl, rfl, rfl, trivial⟩
    exact ⟨f97, e0, r8, bx9, bx19, (by assumption), (by first | exact fun h_ => absurd h_.1 (of_decide_eq_false (by assumption)) | exact fun h_ => absurd h_.2 (of_decide_eq_false (by assumption))), (by omega)⟩
 ·clear r8
  clear bx9
  clear bx19
  clear f33 e0
  intro act98 w99 ⟨f100, e101, r102, bx103, bx104, hR, hno, i105⟩
  have szw99 := e101.size
  have := bx103.lt
  have := bx104.lt
  refine wp_seq ?_
  have hG := isR_ok hR
  have hn1 := hG.n1
  have hpl := hG.pl
  have hml := hG.ml
  refine At.start ?_
  refine At.rd f100 1 [[.ld (.slice Ag0 g.ow.length cg0), .ld (.slice Ag1 g.pr.length cg1), .ld (.slice Ag2 g.mv.length cg2)]] [(21, .agg #[.slice Ag0 g.ow.length cg0, .slice Ag1 g.pr.length cg1, .slice Ag2 g.mv.length cg2])] [(w99.cell? ⟨w.heap.size, 0, none⟩ = some (.slice Ag0 g.ow.length cg0)), (w99.cell? ⟨w.heap.size, 1, none⟩ = some (.slice Ag1 g.pr.length cg1)), (w99.cell? ⟨w.heap.size, 2, none⟩ = some (.slice Ag2 g.mv.length cg2))] (by kernel_rfl) ⟨(bx103.cell (i := 0) rfl), (bx103.cell (i := 1) rfl), (bx103.cell (i := 2) rfl), trivial⟩ (fun act107 f106 => ?_)
  clear f100
  refine At.call f106 17 #[.agg #[.slice Ag0 g.ow.length cg0, .slice Ag1 g.pr.length cg1, .slice Ag2 g.mv.length cg2]] (some 22) (by kernel_rfl) (copyM_any (g := g) (r102.wide (Nat.zero_le _) (by omega))) ?_
  rintro e_ w121 ⟨A108, c109, A110, c111, A112, c113, rfl, he, ow114, ow115, ow116⟩
  have hip120 := inner_len (RdG.mv (r102.wide (Nat.zero_le _) (by omega)))
  refine ⟨_, rfl, _, rfl, fun act122 f123 => ?_⟩
  clear f106
  have g124 := gr_ext he
  have szw121 := g124.size
  replace e101 := e101.gr g124 no_row
  replace r102 := r102.gr g124 (fun _ h => by cases h)
  replace bx103 := bx103.gr g124 (by simp)
  replace bx104 := bx104.gr g124 (by simp)
  clear g124 he
  refine At.seq f123 1 [[]] [(4, .pointer (some ⟨w121.heap.size, 0, none⟩))] (w121.alloc (.cells #[.slice none 0 0, .slice none 0 0, .slice none 0 0] 25 (0, 0))) [] (by kernel_rfl) trivial (fun act132 w129 hw130 f131 => ?_)
  clear f123
  have g133 := gr_alloc hw130
  have szw129 := g133.size
  replace e101 := e101.gr g133 no_row
  replace r102 := r102.gr g133 (fun _ h => by cases h)
  replace bx103 := bx103.gr g133 (by simp)
  replace bx104 := bx104.gr g133 (by simp)
  replace ow114 : OwnR w129 (Sx (w99.heap.size) [some (w121.heap.size), obk (A110), obk (A112)]) A108 c109 3 (g.ow : List Int) := ow114.grA g133 (fun _ _ h => by cases h) (fun k hk hs => ⟨(fun e => by injection e; omega), hs.1, hs.2.1, hs.2.2⟩)
  replace ow115 : OwnR w129 (Sx (w99.heap.size) [some (w121.heap.size), obk (A108), obk (A112)]) A110 c111 3 (g.pr : List Int) := ow115.grA g133 (fun _ _ h => by cases h) (fun k hk hs => ⟨(fun e => by injection e; omega), hs.1, hs.2.1, hs.2.2⟩)
  replace ow116 : OwnLL w129 (w99.heap.size) [some (w121.heap.size), obk (A108), obk (A110)] A112 c113 22 3 (g.mv : List (List Int)) := ow116.grA g133 (fun _ _ h => by cases h) (fun k hk hs => ⟨(fun e => by injection e; omega), hs.1, hs.2.1, hs.2.2⟩)
  have bx142 : Bx w129 (w121.heap.size) [.slice none 0 0, .slice none 0 0, .slice none 0 0] 25 := Bx.new hw130
  have := bx142.lt
  clear g133 hw130
  refine At.store f131 (t := 25) (b := w121.heap.size) (off := 0) (v := .agg #[.slice A108 g.ow.length c109, .slice A110 g.pr.length c111, .slice A112 g.mv.length c113]) (by kernel_rfl) bx142 (by kernel_rfl) (fun act147 w143 g144 bx145 f146 => ?_)
  clear f131
  replace bx145 : Bx w143 (w121.heap.size) [.slice A108 g.ow.length c109, .slice A110 g.pr.length c111, .slice A112 g.mv.length c113] 25 := bx145
  have szw143 := g144.size
  replace e101 := e101.gr g144 (fun k h => by injection h; omega)
  replace r102 := r102.gr g144 (fun k h => by injection h; omega)
  replace bx103 := bx103.gr g144 (fun h => by injection h; omega)
  replace bx104 := bx104.gr g144 (fun h => by injection h; omega)
  replace ow114 := ow114.gr g144 (fun k hk => hk.1)
  replace ow115 := ow115.gr g144 (fun k hk => hk.1)
  replace ow116 := ow116.gr g144 (fun k hk => hk.1)
  clear bx142 g144
  refine At.done rfl ?_
  refine t_n ?_
  have f155 := f146.sub (r := [(4, .pointer (some ⟨w121.heap.size, 0, none⟩)), (3, .bool (decide (7 ∈ g.pr))), (2, .pointer (some ⟨w1.heap.size, 0, none⟩))]) ⟨rfl, rfl, rfl, trivial⟩
  clear f146
  refine wp_seq ?_
  refine wp_seq ?_
  refine At.start ?_
  refine At.rd f155 4 [[], [.ld (.slice A108 g.ow.length c109)], [], []] [(26, .int .i64 (0)), (25, .int .i64 (((g.ow.length : Nat) : Int))), (24, .slice A108 g.ow.length c109), (23, .pointer (some ⟨w121.heap.size, 0, none⟩))] [(w143.cell? ⟨w121.heap.size, 0, none⟩ = some (.slice A108 g.ow.length c109))] (by kernel_rfl) ⟨(bx145.cell (i := 0) rfl), trivial⟩ (fun act157 f156 => ?_)
  clear f155
  refine At.done rfl ?_
  refine t_n ?_
  have f158 := f156.sub (r := [(26, .int .i64 (0)), (25, .int .i64 (((g.ow.length : Nat) : Int))), (4, .pointer (some ⟨w121.heap.size, 0, none⟩)), (3, .bool (decide (7 ∈ g.pr))), (2, .pointer (some ⟨w1.heap.size, 0, none⟩))]) ⟨rfl, rfl, rfl, rfl, rfl, trivial⟩
  clear f156
  refine wp_block ?_
  have f163 := f158.sub (r := [(26, .int .i64 (0)), (25, .int .i64 (((g.ow.length : Nat) : Int))), (4, .pointer (some ⟨w121.heap.size, 0, none⟩)), (3, .bool (decide (7 ∈ g.pr))), (2, .pointer (some ⟨w1.heap.size, 0, none⟩))]) ⟨rfl, rfl, rfl, rfl, rfl, trivial⟩
  refine loop_g (fun (m_ : Nat) a_ w_ => ∃ (k : Int) (xa : List Int) (A_159 : Option Addr) (c_160 : Nat) (xp : List Int) (A_161 : Option Addr) (c_162 : Nat), m_ = ((g.ow.length : Int) - k).toNat ∧ (Frm 53 a_ [(26, .int .i64 (k)), (25, .int .i64 (((g.ow.length : Nat) : Int))), (4, .pointer (some ⟨w121.heap.size, 0, none⟩)), (3, .bool (decide (7 ∈ g.pr))), (2, .pointer (some ⟨w1.heap.size, 0, none⟩))]) ∧ (Ext w w_) ∧ (RdG w_ 0 w.heap.size Ag0 Ag1 Ag2 cg0 cg1 cg2 g) ∧ (Bx w_ (w.heap.size) [.slice Ag0 g.ow.length cg0, .slice Ag1 g.pr.length cg1, .slice Ag2 g.mv.length cg2] 25) ∧ (Bx w_ (w1.heap.size) [.slice none 0 0, .slice none 0 0, .slice none 0 0] 25) ∧ (OwnR w_ (Sx (w99.heap.size) [some (w121.heap.size), obk (A_161), obk (A112)]) A_159 c_160 3 (xa : List Int)) ∧ (OwnR w_ (Sx (w99.heap.size) [some (w121.heap.size), obk (A_159), obk (A112)]) A_161 c_162 3 (xp : List Int)) ∧ (OwnLL w_ (w99.heap.size) [some (w121.heap.size), obk (A_159), obk (A_161)] A112 c113 22 3 (g.mv : List (List Int))) ∧ (Bx w_ (w121.heap.size) [.slice A_159 xa.length c_160, .slice A_161 xp.length c_162, .slice A112 g.mv.length c113] 25) ∧ (0 ≤ k) ∧ (k ≤ (g.ow.length : Int)) ∧ (MapT g.ow xa (fun z => 1 - z) k) ∧ (MapT g.pr xp (fun z => z + dualBy g) k) ∧ (xa.length = g.ow.length) ∧ (xp.length = g.pr.length) ∧ (w99.heap.size ≤ w_.heap.size)) _ ⟨0, (g.ow : List Int), A108, c109, (g.pr : List Int), A110, c111, rfl, f163, e101, r102, bx103, bx104, ow114, ow115, ow116, bx145, (by omega), (by omega), map_0, map_0, rfl, rfl, (by omega)⟩ ?_
  clear f163 f158
  clear r102
  clear bx103
  clear bx104
  clear ow114
  clear ow115
  clear ow116
  clear bx145
  clear e101
  intro m_ act164 w165 ⟨k, xa, A_159, c_160, xp, A_161, c_162, hm167, f168, e166, r169, bx170, bx171, ow172, ow173, r174, bx175, i176, i177, hxa, hxp, i178, i179, i180⟩
  have szw165 := e166.size
  have := bx170.lt
  have := bx171.lt
  have := bx175.lt
  refine wp_seq ?_
  refine At.start ?_
  refine At.rd f168 1 [[]] [(27, .bool (decide ((k : Int) < ((g.ow.length : Nat) : Int))))] [] (by kernel_rfl) trivial (fun act182 f181 => ?_)
  clear f168
  refine At.done rfl ?_
  refine t_n ?_
  refine wp_seq ?_
  refine cond_S f181 (t := decide ((k : Int) < ((g.ow.length : Nat) : Int))) rfl (fun h183 => ?_) (fun h183 => ?_)
  ·have q184 := of_decide_eq_true h183
   refine wp_skip ?_
   refine t_n ?_
   have f185 := f181.sub (r := [(26, .int .i64 (k)), (25, .int .i64 (((g.ow.length : Nat) : Int))), (4, .pointer (some ⟨w121.heap.size, 0, none⟩)), (3, .bool (decide (7 ∈ g.pr))), (2, .pointer (some ⟨w1.heap.size, 0, none⟩))]) ⟨rfl, rfl, rfl, rfl, rfl, trivial⟩
   clear f181
   refine wp_seq ?_
   refine wp_block ?_
   refine wp_seq ?_
   refine At.start ?_
   refine At.rd f185 2 [[], []] [(5, .int .i64 (k)), (28, .int .i64 (k))] [] (by kernel_rfl) trivial (fun act187 f186 => ?_)
   clear f185
   refine At.done rfl ?_
   refine t_n ?_
   have f188 := f186.sub (r := [(5, .int .i64 (k)), (26, .int .i64 (k)), (25, .int .i64 (((g.ow.length : Nat) : Int))), (4, .pointer (some ⟨w121.heap.size, 0, none⟩)), (3, .bool (decide (7 ∈ g.pr))), (2, .pointer (some ⟨w1.heap.size, 0, none⟩))]) ⟨rfl, rfl, rfl, rfl, rfl, rfl, trivial⟩
   clear f186
   refine wp_seq ?_
   have hgo := hG.ow k (by omega) (by omega)
   have hak := map_at hxa (by omega) (by omega)
   refine At.start ?_
   obtain ⟨ad189, hA190, hb193, hc192, hc191⟩ := ow172.get (k) (by omega) (by omega) (sz := 1) rfl
   obtain ⟨ad194, hA195, hb198, hc197, hc196⟩ := ow172.get (k) (by omega) (by omega) (sz := 1) rfl
   refine At.rd f188 7 [[], [.ld (.slice A_159 xa.length c_160)], [], [.ad ad189], [.ld (.int .i64 (gI xa k))], [.as_ (.int .i64 (1 - gI xa k))], [.ad ad194]] [(35, .pointer (some (ad194.add ((k : Int).toNat * 1)))), (34, .int .i64 (1 - gI xa k)), (33, .int .i64 (gI xa k)), (32, .pointer (some (ad189.add ((k : Int).toNat * 1)))), (31, .int .i64 (k)), (30, .slice A_159 xa.length c_160), (29, .pointer (some ⟨w121.heap.size, 0, none⟩))] [(w165.cell? ⟨w121.heap.size, 0, none⟩ = some (.slice A_159 xa.length c_160)), (A_159 = some ad189), (0 ≤ (k : Int)), ((k : Int) < (xa.length : Nat)), (w165.cell? (ad189.add ((k : Int).toNat * 1)) = some (.int .i64 (gI xa k))), ((.int .i64 (IntKind.i64.wrap ((BitVec.ofInt 64 (gI xa k) ^^^ BitVec.ofInt 64 1).toNat : Int)) : Value) = .int .i64 (1 - gI xa k)), (A_159 = some ad194), (0 ≤ (k : Int)), ((k : Int) < (xa.length : Nat))] (by kernel_rfl) ⟨(bx175.cell (i := 0) rfl), hA190, (by omega), (by omega), hc192, (congrArg (Value.int .i64) (xor1 (by omega))), hA195, (by omega), (by omega), trivial⟩ (fun act200 f199 => ?_)
   clear f188
   refine At.act f199 (storeR (α := Int) (t := 3) (i := k) (ad := ad194) (v := .int .i64 (1 - gI xa k)) (1 - gI xa k) (by kernel_rfl) rfl rfl (by kernel_rfl) hA195 ow172 (by omega) (by omega)) ?_
   rintro d_ v_ w201 ⟨rfl, g202, ow203⟩
   refine ⟨_, rfl, fun act206 f205 => ?_⟩
   clear f199
   have hl204 : ((xa).set (k : Int).toNat (1 - gI xa k)).length = (xa).length := List.length_set
   have szw201 := g202.size
   replace e166 := e166.gr g202 (fun k hk => by have := ow172.ge k hk; omega)
   replace r169 := r169.gr g202 (fun k hk => by have := ow172.ge k hk; omega)
   replace bx170 := bx170.gr g202 (fun e => by have := ow172.ge _ e; omega)
   replace bx171 := bx171.gr g202 (fun e => by have := ow172.ge _ e; omega)
   replace ow173 := ow173.gr g202 (fun k hk => hk.2.1)
   have ow212 := r174.gr g202 (fun k hk => hk.2.1)
   clear r174
   replace bx175 := bx175.gr g202 (ow172.neb (fun g hs => hs.1))
   clear ow172 g202
   refine At.done rfl ?_
   refine t_n ?_
   have f214 := f205.sub (r := [(5, .int .i64 (k)), (26, .int .i64 (k)), (25, .int .i64 (((g.ow.length : Nat) : Int))), (4, .pointer (some ⟨w121.heap.size, 0, none⟩)), (3, .bool (decide (7 ∈ g.pr))), (2, .pointer (some ⟨w1.heap.size, 0, none⟩))]) ⟨rfl, rfl, rfl, rfl, rfl, rfl, trivial⟩
   clear f205
   refine wp_seq ?_
   have hgp := hG.pr k (by omega) (by omega)
   have hpk := map_at hxp (by omega) (by omega)
   refine At.start ?_
   refine At.rd f214 1 [[]] [(36, .bool (decide (7 ∈ g.pr)))] [] (by kernel_rfl) trivial (fun act216 f215 => ?_)
   clear f214
   refine At.done rfl ?_
   refine t_n ?_
   refine cond_S f215 (t := decide (7 ∈ g.pr)) rfl (fun h217 => ?_) (fun h217 => ?_)
   ·have q218 := of_decide_eq_true h217
    refine At.start ?_
    obtain ⟨ad219, hA220, hb223, hc222, hc221⟩ := ow173.get (k) (by omega) (by omega) (sz := 1) rfl
    obtain ⟨ad224, hA225, hb228, hc227, hc226⟩ := ow173.get (k) (by omega) (by omega) (sz := 1) rfl
    refine At.rd f215 7 [[], [.ld (.slice A_161 xp.length c_162)], [], [.ad ad219], [.ld (.int .i64 (gI xp k))], [.as_ (.int .i64 ((gI xp k) - 1))], [.ad ad224]] [(43, .pointer (some (ad224.add ((k : Int).toNat * 1)))), (42, .int .i64 ((gI xp k) - 1)), (41, .int .i64 (gI xp k)), (40, .pointer (some (ad219.add ((k : Int).toNat * 1)))), (39, .int .i64 (k)), (38, .slice A_161 xp.length c_162), (37, .pointer (some ⟨w121.heap.size, 1, none⟩))] [(w201.cell? ⟨w121.heap.size, 1, none⟩ = some (.slice A_161 xp.length c_162)), (A_161 = some ad219), (0 ≤ (k : Int)), ((k : Int) < (xp.length : Nat)), (w201.cell? (ad219.add ((k : Int).toNat * 1)) = some (.int .i64 (gI xp k))), ((.int .i64 (IntKind.i64.wrap ((gI xp k) - 1)) : Value) = .int .i64 ((gI xp k) - 1)), (A_161 = some ad224), (0 ≤ (k : Int)), ((k : Int) < (xp.length : Nat))] (by kernel_rfl) ⟨(bx175.cell (i := 1) rfl), hA220, (by omega), (by omega), hc222, (w64 (by omega) (by omega)), hA225, (by omega), (by omega), trivial⟩ (fun act230 f229 => ?_)
    clear f215
    refine At.act f229 (storeR (α := Int) (t := 3) (i := k) (ad := ad224) (v := .int .i64 ((gI xp k) - 1)) ((gI xp k) - 1) (by kernel_rfl) rfl rfl (by kernel_rfl) hA225 ow173 (by omega) (by omega)) ?_
    rintro d_ v_ w231 ⟨rfl, g232, ow233⟩
    refine ⟨_, rfl, fun act236 f235 => ?_⟩
    clear f229
    have hl234 : ((xp).set (k : Int).toNat ((gI xp k) - 1)).length = (xp).length := List.length_set
    have szw231 := g232.size
    replace e166 := e166.gr g232 (fun k hk => by have := ow173.ge k hk; omega)
    replace r169 := r169.gr g232 (fun k hk => by have := ow173.ge k hk; omega)
    replace bx170 := bx170.gr g232 (fun e => by have := ow173.ge _ e; omega)
    replace bx171 := bx171.gr g232 (fun e => by have := ow173.ge _ e; omega)
    replace ow203 := ow203.gr g232 (fun k hk => hk.2.1)
    replace ow212 := ow212.gr g232 (fun k hk => hk.2.2.1)
    replace bx175 := bx175.gr g232 (ow173.neb (fun g hs => hs.1))
    clear ow173 g232
    refine At.done rfl ?_
    refine b_n ?_
    refine t_n ?_
    have f244 := f235.sub (r := [(26, .int .i64 (k)), (25, .int .i64 (((g.ow.length : Nat) : Int))), (4, .pointer (some ⟨w121.heap.size, 0, none⟩)), (3, .bool (decide (7 ∈ g.pr))), (2, .pointer (some ⟨w1.heap.size, 0, none⟩))]) ⟨rfl, rfl, rfl, rfl, rfl, trivial⟩
    clear f235
    refine At.start ?_
    refine At.rd f244 2 [[.as_ (.int .i64 (k + 1))], []] [(26, .int .i64 (k + 1)), (51, .int .i64 (k + 1))] [((.int .i64 (IntKind.i64.wrap (k + 1)) : Value) = .int .i64 (k + 1))] (by kernel_rfl) ⟨(w64 (by omega) (by omega)), trivial⟩ (fun act246 f245 => ?_)
    clear f244
    refine At.done rfl ?_
    refine t_n ?_
    have f247 := f245.sub (r := [(26, .int .i64 (k + 1)), (25, .int .i64 (((g.ow.length : Nat) : Int))), (4, .pointer (some ⟨w121.heap.size, 0, none⟩)), (3, .bool (decide (7 ∈ g.pr))), (2, .pointer (some ⟨w1.heap.size, 0, none⟩))]) ⟨rfl, rfl, rfl, rfl, rfl, trivial⟩
    exact ⟨_, (by omega), (k + 1), ((xa).set (k : Int).toNat (1 - gI xa k) : List Int), A_159, c_160, ((xp).set (k : Int).toNat ((gI xp k) - 1) : List Int), A_161, c_162, rfl, f247, e166, r169, bx170, bx171, ow203, ow233, ow212, (bx175.as (by first | rfl | (simp only [List.length_set]; done) | (simp; done))), (by omega), (by omega), (map_next hxa (by omega) (by omega) (by rw [hak])), (map_next hxp (by omega) (by omega) (by rw [hpk]; first | (rw [by_hi (by assumption)]; omega) | (rw [by_lo (by assumption)]))), (by rw [List.length_set]; assumption), (by rw [List.length_set]; assumption), (by omega)⟩
   ·have q248 := of_decide_eq_false h217
    refine At.start ?_
    obtain ⟨ad249, hA250, hb253, hc252, hc251⟩ := ow173.get (k) (by omega) (by omega) (sz := 1) rfl
    obtain ⟨ad254, hA255, hb258, hc257, hc256⟩ := ow173.get (k) (by omega) (by omega) (sz := 1) rfl
    refine At.rd f215 7 [[], [.ld (.slice A_161 xp.length c_162)], [], [.ad ad249], [.ld (.int .i64 (gI xp k))], [.as_ (.int .i64 ((gI xp k) + 1))], [.ad ad254]] [(50, .pointer (some (ad254.add ((k : Int).toNat * 1)))), (49, .int .i64 ((gI xp k) + 1)), (48, .int .i64 (gI xp k)), (47, .pointer (some (ad249.add ((k : Int).toNat * 1)))), (46, .int .i64 (k)), (45, .slice A_161 xp.length c_162), (44, .pointer (some ⟨w121.heap.size, 1, none⟩))] [(w201.cell? ⟨w121.heap.size, 1, none⟩ = some (.slice A_161 xp.length c_162)), (A_161 = some ad249), (0 ≤ (k : Int)), ((k : Int) < (xp.length : Nat)), (w201.cell? (ad249.add ((k : Int).toNat * 1)) = some (.int .i64 (gI xp k))), ((.int .i64 (IntKind.i64.wrap ((gI xp k) + 1)) : Value) = .int .i64 ((gI xp k) + 1)), (A_161 = some ad254), (0 ≤ (k : Int)), ((k : Int) < (xp.length : Nat))] (by kernel_rfl) ⟨(bx175.cell (i := 1) rfl), hA250, (by omega), (by omega), hc252, (w64 (by omega) (by omega)), hA255, (by omega), (by omega), trivial⟩ (fun act260 f259 => ?_)
    clear f215
    refine At.act f259 (storeR (α := Int) (t := 3) (i := k) (ad := ad254) (v := .int .i64 ((gI xp k) + 1)) ((gI xp k) + 1) (by kernel_rfl) rfl rfl (by kernel_rfl) hA255 ow173 (by omega) (by omega)) ?_
    rintro d_ v_ w261 ⟨rfl, g262, ow263⟩
    refine ⟨_, rfl, fun act266 f265 => ?_⟩
    clear f259
    have hl264 : ((xp).set (k : Int).toNat ((gI xp k) + 1)).length = (xp).length := List.length_set
    have szw261 := g262.size
    replace e166 := e166.gr g262 (fun k hk => by have := ow173.ge k hk; omega)
    replace r169 := r169.gr g262 (fun k hk => by have := ow173.ge k hk; omega)
    replace bx170 := bx170.gr g262 (fun e => by have := ow173.ge _ e; omega)
    replace bx171 := bx171.gr g262 (fun e => by have := ow173.ge _ e; omega)
    replace ow203 := ow203.gr g262 (fun k hk => hk.2.1)
    replace ow212 := ow212.gr g262 (fun k hk => hk.2.2.1)
    replace bx175 := bx175.gr g262 (ow173.neb (fun g hs => hs.1))
    clear ow173 g262
    refine At.done rfl ?_
    refine b_n ?_
    refine t_n ?_
    have f274 := f265.sub (r := [(26, .int .i64 (k)), (25, .int .i64 (((g.ow.length : Nat) : Int))), (4, .pointer (some ⟨w121.heap.size, 0, none⟩)), (3, .bool (decide (7 ∈ g.pr))), (2, .pointer (some ⟨w1.heap.size, 0, none⟩))]) ⟨rfl, rfl, rfl, rfl, rfl, trivial⟩
    clear f265
    refine At.start ?_
    refine At.rd f274 2 [[.as_ (.int .i64 (k + 1))], []] [(26, .int .i64 (k + 1)), (51, .int .i64 (k + 1))] [((.int .i64 (IntKind.i64.wrap (k + 1)) : Value) = .int .i64 (k + 1))] (by kernel_rfl) ⟨(w64 (by omega) (by omega)), trivial⟩ (fun act276 f275 => ?_)
    clear f274
    refine At.done rfl ?_
    refine t_n ?_
    have f277 := f275.sub (r := [(26, .int .i64 (k + 1)), (25, .int .i64 (((g.ow.length : Nat) : Int))), (4, .pointer (some ⟨w121.heap.size, 0, none⟩)), (3, .bool (decide (7 ∈ g.pr))), (2, .pointer (some ⟨w1.heap.size, 0, none⟩))]) ⟨rfl, rfl, rfl, rfl, rfl, trivial⟩
    exact ⟨_, (by omega), (k + 1), ((xa).set (k : Int).toNat (1 - gI xa k) : List Int), A_159, c_160, ((xp).set (k : Int).toNat ((gI xp k) + 1) : List Int), A_161, c_162, rfl, f277, e166, r169, bx170, bx171, ow203, ow263, ow212, (bx175.as (by first | rfl | (simp only [List.length_set]; done) | (simp; done))), (by omega), (by omega), (map_next hxa (by omega) (by omega) (by rw [hak])), (map_next hxp (by omega) (by omega) (by rw [hpk]; first | (rw [by_hi (by assumption)]; omega) | (rw [by_lo (by assumption)]))), (by rw [List.length_set]; assumption), (by rw [List.length_set]; assumption), (by omega)⟩
  ·have q278 := of_decide_eq_false h183
   refine wp_exit ?_
   refine t_e ?_
   refine t_e ?_
   refine b_e ?_
   refine t_n ?_
   have f279 := f181.sub (r := [(4, .pointer (some ⟨w121.heap.size, 0, none⟩)), (2, .pointer (some ⟨w1.heap.size, 0, none⟩))]) ⟨rfl, rfl, trivial⟩
   clear f181
   refine wp_seq ?_
   refine At.start ?_
   refine At.rd f279 1 [[.ld (.slice A_159 xa.length c_160), .ld (.slice A_161 xp.length c_162), .ld (.slice A112 g.mv.length c113)]] [(52, .agg #[.slice A_159 xa.length c_160, .slice A_161 xp.length c_162, .slice A112 g.mv.length c113])] [(w165.cell? ⟨w121.heap.size, 0, none⟩ = some (.slice A_159 xa.length c_160)), (w165.cell? ⟨w121.heap.size, 1, none⟩ = some (.slice A_161 xp.length c_162)), (w165.cell? ⟨w121.heap.size, 2, none⟩ = some (.slice A112 g.mv.length c113))] (by kernel_rfl) ⟨(bx175.cell (i := 0) rfl), (bx175.cell (i := 1) rfl), (bx175.cell (i := 2) rfl), trivial⟩ (fun act281 f280 => ?_)
   clear f279
   refine At.store f280 (t := 25) (b := w1.heap.size) (off := 0) (v := .agg #[.slice A_159 xa.length c_160, .slice A_161 xp.length c_162, .slice A112 g.mv.length c113]) (by kernel_rfl) bx171 (by kernel_rfl) (fun act286 w282 g283 bx284 f285 => ?_)
   clear f280
   replace bx284 : Bx w282 (w1.heap.size) [.slice A_159 xa.length c_160, .slice A_161 xp.length c_162, .slice A112 g.mv.length c113] 25 := bx284
   have szw282 := g283.size
   replace e166 := e166.gr g283 (fun k h => by injection h; omega)
   replace r169 := r169.gr g283 (fun k h => by injection h; omega)
   replace bx170 := bx170.gr g283 (fun h => by injection h; omega)
   replace ow172 := ow172.gr g283 (fun k hk e => by have := Sx_base hk; injection e; omega)
   replace ow173 := ow173.gr g283 (fun k hk e => by have := Sx_base hk; injection e; omega)
   have ow292 := r174.gr g283 (fun k hk e => by have := Sx_base hk; injection e; omega)
   clear r174
   replace bx175 := bx175.gr g283 (fun h => by injection h; omega)
   clear bx171 g283
   refine At.done rfl ?_
   refine t_n ?_
   have f294 := f285.sub (r := [(2, .pointer (some ⟨w1.heap.size, 0, none⟩))]) ⟨rfl, trivial⟩
   clear f285
   refine wp_ret ?_
   refine ret_ f294 [[.slice A_159 xa.length c_160, .slice A_161 xp.length c_162, .slice A112 g.mv.length c113]] [.agg #[.slice A_159 xa.length c_160, .slice A_161 xp.length c_162, .slice A112 g.mv.length c113]] [(w282.cell? ⟨w1.heap.size, 0, none⟩ = some (.slice A_159 xa.length c_160)), (w282.cell? ⟨w1.heap.size, 1, none⟩ = some (.slice A_161 xp.length c_162)), (w282.cell? ⟨w1.heap.size, 2, none⟩ = some (.slice A112 g.mv.length c113))] (by kernel_rfl) ⟨(bx284.cell (i := 0) rfl), (bx284.cell (i := 1) rfl), (bx284.cell (i := 2) rfl), trivial⟩ ?_
   rw [dual_yes hR hno, ← map_end hxa (by omega), ← map_end hxp (by omega)]
   exact ⟨A_159, c_160, A_161, c_162, A112, c113, rfl, e166, (ow172.imp (fun g _ hs => ⟨hs.2.1, hs.2.2.1, (by have := Sx_base hs; show w.heap.size ≤ g; omega)⟩)), (ow173.imp (fun g _ hs => ⟨hs.2.1, hs.2.2.1, (by have := Sx_base hs; show w.heap.size ≤ g; omega)⟩)), (ow292.imp (fun g _ hs => ⟨hs.2.1, hs.2.2.1, (by have := Sx_base hs; show w.heap.size ≤ g; omega)⟩))⟩

end Go.Proofs.YtkkophhnliplhaaDoor
