/-
  A walk of a Go function, printed by a program of this repo. Conditions: what the theorems name.
-/
import Derived.Test.YtklbpajmoklheaaWShown
import Derived.Test.YtklbpajmoklheaaWTuples
import Derived.Test.YtklbpajmoklheaaWLift
import Derived.Test.YtklbpajmoklheaaWHeavy
set_option linter.unusedVariables false
set_option linter.unusedSimpArgs false
namespace Go.Proofs.Ytklbpajmoklheaa
open Go Go.RowKit

set_option maxHeartbeats 4000000 in
theorem least_any {Ag0 Ag1 Ag2 : Option Addr} {cg0 cg1 cg2 : Nat} {g : GameL} {As : Option Addr} {cs : Nat} {ls : List Tup} {w : World} (rg : RdG w 0 w.heap.size Ag0 Ag1 Ag2 cg0 cg1 cg2 g) (rs : RdR w 0 w.heap.size As ls) (hok : okL ls) :
    Calls Try.prog 12 #[.agg #[.slice Ag0 g.ow.length cg0, .slice Ag1 g.pr.length cg1, .slice Ag2 g.mv.length cg2], .slice As ls.length cs] w fun e w' => e = .returned (.bool true) ∧ Ext w w' := by
 have hlg0 := rg.ow.len
 have hlg1 := rg.pr.len
 have hlg2 := rg.mv.len
 have hkg0 := rg.k0
 have hkg1 := rg.k1
 have hkg2 := rg.k2
 have hls := rs.len
 simp only [Enc.bytes] at hls
 refine enter_ (args := [.agg #[.slice Ag0 g.ow.length cg0, .slice Ag1 g.pr.length cg1, .slice Ag2 g.mv.length cg2], .slice As ls.length cs]) Try.func12 rfl Try.ntmps12 (Nat.le_of_ble_eq_true rfl) (fun act0 f0 => ?_)
 have e0 := Ext.refl w
 refine wp_seq ?_
 refine At.start ?_
 refine At.seq f0 1 [[]] [(2, .pointer (some ⟨w.heap.size, 0, none⟩))] (w.alloc (.cells #[.slice Ag0 g.ow.length cg0, .slice Ag1 g.pr.length cg1, .slice Ag2 g.mv.length cg2] 25 (0, 0))) [] (by kernel_rfl) trivial (fun act4 w1 hw2 f3 => ?_)
 clear f0
 have g5 := gr_alloc hw2
 have szw1 := g5.size
 have e7 := e0.gr g5 no_row
 clear e0
 have r8 := rg.gr g5 (fun _ h => by cases h)
 clear rg
 have r9 := rs.gr g5 (fun _ h => by cases h)
 clear rs
 have bx10 : Bx w1 (w.heap.size) [.slice Ag0 g.ow.length cg0, .slice Ag1 g.pr.length cg1, .slice Ag2 g.mv.length cg2] 25 := Bx.new hw2
 have := bx10.lt
 clear g5 hw2
 refine At.rd f3 1 [[]] [(4, .bool false)] [] (by kernel_rfl) trivial (fun act12 f11 => ?_)
 clear f3
 refine At.done rfl ?_
 refine t_n ?_
 have f13 := f11.sub (r := [(4, .bool false), (2, .pointer (some ⟨w.heap.size, 0, none⟩)), (1, .slice As ls.length cs)]) ⟨rfl, rfl, rfl, trivial⟩
 clear f11
 refine wp_seq ?_
 refine At.start ?_
 refine At.call f13 22 #[] (some 20) (by kernel_rfl) (shown_any) ?_
 rintro e_ w14 ⟨rfl, he⟩
 refine ⟨_, rfl, _, rfl, fun act15 f16 => ?_⟩
 clear f13
 have g17 := gr_ext he
 have szw14 := g17.size
 have e18 := e7.gr g17 no_row
 clear e7
 have r19 := r8.gr g17 (fun _ h => by cases h)
 clear r8
 have r20 := r9.gr g17 (fun _ h => by cases h)
 clear r9
 have bx21 := bx10.gr g17 (by simp)
 clear bx10
 clear g17 he
 refine At.rd f16 1 [[]] [(5, .bool true)] [] (by kernel_rfl) trivial (fun act23 f22 => ?_)
 clear f16
 refine At.done rfl ?_
 refine t_n ?_
 have f24 := f22.sub (r := [(5, .bool true), (4, .bool false), (2, .pointer (some ⟨w.heap.size, 0, none⟩)), (1, .slice As ls.length cs)]) ⟨rfl, rfl, rfl, rfl, trivial⟩
 clear f22
 refine wp_seq ?_
 refine At.start ?_
 refine At.rd f24 1 [[.ld (.slice Ag0 g.ow.length cg0), .ld (.slice Ag1 g.pr.length cg1), .ld (.slice Ag2 g.mv.length cg2)]] [(22, .agg #[.slice Ag0 g.ow.length cg0, .slice Ag1 g.pr.length cg1, .slice Ag2 g.mv.length cg2])] [(w14.cell? ⟨w.heap.size, 0, none⟩ = some (.slice Ag0 g.ow.length cg0)), (w14.cell? ⟨w.heap.size, 1, none⟩ = some (.slice Ag1 g.pr.length cg1)), (w14.cell? ⟨w.heap.size, 2, none⟩ = some (.slice Ag2 g.mv.length cg2))] (by kernel_rfl) ⟨(bx21.cell (i := 0) rfl), (bx21.cell (i := 1) rfl), (bx21.cell (i := 2) rfl), trivial⟩ (fun act26 f25 => ?_)
 clear f24
 refine At.call f25 36 #[.agg #[.slice Ag0 g.ow.length cg0, .slice Ag1 g.pr.length cg1, .slice Ag2 g.mv.length cg2]] (some 23) (by kernel_rfl) (right_any (r19.wide (Nat.zero_le _) (by omega))) ?_
 rintro e_ w27 ⟨rfl, he⟩
 refine ⟨_, rfl, _, rfl, fun act28 f29 => ?_⟩
 clear f25
 have g30 := gr_ext he
 have szw27 := g30.size
 have e31 := e18.gr g30 no_row
 clear e18
 have r32 := r19.gr g30 (fun _ h => by cases h)
 clear r19
 have r33 := r20.gr g30 (fun _ h => by cases h)
 clear r20
 have bx34 := bx21.gr g30 (by simp)
 clear bx21
 clear g30 he
 refine At.rd f29 5 [[], [], [], [], []] [(7, .int .i64 ((rightP g).2)), (6, .int .i64 ((rightP g).1)), (25, .int .i64 ((rightP g).2)), (24, .int .i64 ((rightP g).1)), (21, .tuple #[.int .i64 ((rightP g).1), .int .i64 ((rightP g).2)])] [] (by kernel_rfl) trivial (fun act36 f35 => ?_)
 clear f29
 refine At.done rfl ?_
 refine t_n ?_
 have f37 := f35.sub (r := [(7, .int .i64 ((rightP g).2)), (5, .bool true), (4, .bool false), (2, .pointer (some ⟨w.heap.size, 0, none⟩)), (1, .slice As ls.length cs)]) ⟨rfl, rfl, rfl, rfl, rfl, trivial⟩
 clear f35
 refine wp_seq ?_
 refine At.start ?_
 refine At.rd f37 1 [[.ld (.slice Ag0 g.ow.length cg0), .ld (.slice Ag1 g.pr.length cg1), .ld (.slice Ag2 g.mv.length cg2)]] [(26, .agg #[.slice Ag0 g.ow.length cg0, .slice Ag1 g.pr.length cg1, .slice Ag2 g.mv.length cg2])] [(w27.cell? ⟨w.heap.size, 0, none⟩ = some (.slice Ag0 g.ow.length cg0)), (w27.cell? ⟨w.heap.size, 1, none⟩ = some (.slice Ag1 g.pr.length cg1)), (w27.cell? ⟨w.heap.size, 2, none⟩ = some (.slice Ag2 g.mv.length cg2))] (by kernel_rfl) ⟨(bx34.cell (i := 0) rfl), (bx34.cell (i := 1) rfl), (bx34.cell (i := 2) rfl), trivial⟩ (fun act39 f38 => ?_)
 clear f37
 refine At.call f38 25 #[.agg #[.slice Ag0 g.ow.length cg0, .slice Ag1 g.pr.length cg1, .slice Ag2 g.mv.length cg2]] (some 27) (by kernel_rfl) (heavy_any (g := g) (r32.wide (Nat.zero_le _) (by omega))) ?_
 rintro e_ w41 ⟨b40, rfl, he⟩
 refine ⟨_, rfl, _, rfl, fun act42 f43 => ?_⟩
 clear f38
 have g44 := gr_ext he
 have szw41 := g44.size
 have e45 := e31.gr g44 no_row
 clear e31
 have r46 := r32.gr g44 (fun _ h => by cases h)
 clear r32
 have r47 := r33.gr g44 (fun _ h => by cases h)
 clear r33
 have bx48 := bx34.gr g44 (by simp)
 clear bx34
 clear g44 he
 refine At.rd f43 1 [[]] [(8, .bool (b40))] [] (by kernel_rfl) trivial (fun act50 f49 => ?_)
 clear f43
 refine At.done rfl ?_
 refine t_n ?_
 have f51 := f49.sub (r := [(8, .bool (b40)), (7, .int .i64 ((rightP g).2)), (5, .bool true), (4, .bool false), (2, .pointer (some ⟨w.heap.size, 0, none⟩)), (1, .slice As ls.length cs)]) ⟨rfl, rfl, rfl, rfl, rfl, rfl, trivial⟩
 clear f49
 refine wp_seq ?_
 refine wp_seq ?_
 refine At.start ?_
 rcases Bool.eq_false_or_eq_true (((rightP g).2 : Int) != 0) with h52 | h52
 ·have q53 := bne_iff_ne.1 h52
  refine At.rd f51 17 [[], [], [], [], [], [], [.as_ (.bool true)], [], [], [], [], [], [], [], [], [], []] [(44, .bool true), (43, undef), (42, undef), (41, undef), (40, undef), (39, undef), (38, undef), (37, .bool true), (36, .bool true), (35, undef), (34, .bool true), (33, .bool (((rightP g).2 : Int) != 0)), (32, .bool (((rightP g).2 : Int) != 0)), (31, .int .i64 ((rightP g).2)), (30, .bool false), (29, .bool false), (28, .bool true)] [((.bool (((rightP g).2 : Int) != 0) : Value) = .bool true)] (by kernel_rfl) ⟨(congrArg Value.bool h52), trivial⟩ (fun act55 f54 => ?_)
  clear f51
  refine At.done rfl ?_
  refine t_n ?_
  have f56 := f54.sub (r := [(44, .bool true), (5, .bool true), (4, .bool false), (2, .pointer (some ⟨w.heap.size, 0, none⟩)), (1, .slice As ls.length cs)]) ⟨rfl, rfl, rfl, rfl, rfl, trivial⟩
  clear f54
  refine cond_T f56 rfl ?_
  refine wp_seq ?_
  refine At.start ?_
  refine At.rd f56 2 [[], []] [(4, .bool true), (45, .bool true)] [] (by kernel_rfl) trivial (fun act58 f57 => ?_)
  clear f56
  refine At.done rfl ?_
  refine t_n ?_
  have f59 := f57.sub (r := [(4, .bool true)]) ⟨rfl, trivial⟩
  clear f57
  refine wp_ret ?_
  refine t_r ?_
  refine ret_ f59 [] [.bool true] [] (by kernel_rfl) trivial ?_
  exact ⟨rfl, e45⟩
 ·have q60 := bne_eq_false_iff_eq.1 h52
  rcases Bool.eq_false_or_eq_true (b40) with h61 | h61
  ·refine At.rd f51 17 [[], [], [], [], [], [], [.as_ (.bool false)], [], [], [.as_ (.bool true)], [], [], [], [], [], [], []] [(44, .bool true), (43, undef), (42, undef), (41, undef), (40, undef), (39, undef), (38, undef), (37, .bool true), (36, .bool (b40)), (35, .bool (b40)), (34, .bool false), (33, .bool (((rightP g).2 : Int) != 0)), (32, .bool (((rightP g).2 : Int) != 0)), (31, .int .i64 ((rightP g).2)), (30, .bool false), (29, .bool false), (28, .bool true)] [((.bool (((rightP g).2 : Int) != 0) : Value) = .bool false), ((.bool (b40) : Value) = .bool true)] (by kernel_rfl) ⟨(congrArg Value.bool h52), (congrArg Value.bool h61), trivial⟩ (fun act64 f63 => ?_)
   clear f51
   refine At.done rfl ?_
   refine t_n ?_
   have f65 := f63.sub (r := [(44, .bool true), (5, .bool true), (4, .bool false), (2, .pointer (some ⟨w.heap.size, 0, none⟩)), (1, .slice As ls.length cs)]) ⟨rfl, rfl, rfl, rfl, rfl, trivial⟩
   clear f63
   refine cond_T f65 rfl ?_
   refine wp_seq ?_
   refine At.start ?_
   refine At.rd f65 2 [[], []] [(4, .bool true), (45, .bool true)] [] (by kernel_rfl) trivial (fun act67 f66 => ?_)
   clear f65
   refine At.done rfl ?_
   refine t_n ?_
   have f68 := f66.sub (r := [(4, .bool true)]) ⟨rfl, trivial⟩
   clear f66
   refine wp_ret ?_
   refine t_r ?_
   refine ret_ f68 [] [.bool true] [] (by kernel_rfl) trivial ?_
   exact ⟨rfl, e45⟩
  ·refine At.rd f51 17 [[], [], [], [], [], [], [.as_ (.bool false)], [], [], [.as_ (.bool false)], [], [], [], [.ld (.slice Ag0 g.ow.length cg0)], [], [], []] [(44, .bool ((((ls.length : Nat) : Int) : Int) != ((g.ow.length : Nat) : Int))), (43, .bool ((((ls.length : Nat) : Int) : Int) != ((g.ow.length : Nat) : Int))), (42, .int .i64 (((g.ow.length : Nat) : Int))), (41, .slice Ag0 g.ow.length cg0), (40, .pointer (some ⟨w.heap.size, 0, none⟩)), (39, .int .i64 (((ls.length : Nat) : Int))), (38, .slice As ls.length cs), (37, .bool false), (36, .bool (b40)), (35, .bool (b40)), (34, .bool false), (33, .bool (((rightP g).2 : Int) != 0)), (32, .bool (((rightP g).2 : Int) != 0)), (31, .int .i64 ((rightP g).2)), (30, .bool false), (29, .bool false), (28, .bool true)] [((.bool (((rightP g).2 : Int) != 0) : Value) = .bool false), ((.bool (b40) : Value) = .bool false), (w41.cell? ⟨w.heap.size, 0, none⟩ = some (.slice Ag0 g.ow.length cg0))] (by kernel_rfl) ⟨(congrArg Value.bool h52), (congrArg Value.bool h61), (bx48.cell (i := 0) rfl), trivial⟩ (fun act71 f70 => ?_)
   clear f51
   refine At.done rfl ?_
   refine t_n ?_
   have f72 := f70.sub (r := [(44, .bool ((((ls.length : Nat) : Int) : Int) != ((g.ow.length : Nat) : Int))), (5, .bool true), (4, .bool false), (2, .pointer (some ⟨w.heap.size, 0, none⟩)), (1, .slice As ls.length cs)]) ⟨rfl, rfl, rfl, rfl, rfl, trivial⟩
   clear f70
   refine cond_S f72 (t := (((ls.length : Nat) : Int) : Int) != ((g.ow.length : Nat) : Int)) rfl (fun h73 => ?_) (fun h73 => ?_)
   ·have q74 := bne_iff_ne.1 h73
    refine wp_seq ?_
    refine At.start ?_
    refine At.rd f72 2 [[], []] [(4, .bool true), (45, .bool true)] [] (by kernel_rfl) trivial (fun act76 f75 => ?_)
    clear f72
    refine At.done rfl ?_
    refine t_n ?_
    have f77 := f75.sub (r := [(4, .bool true)]) ⟨rfl, trivial⟩
    clear f75
    refine wp_ret ?_
    refine t_r ?_
    refine ret_ f77 [] [.bool true] [] (by kernel_rfl) trivial ?_
    exact ⟨rfl, e45⟩
   ·have q78 := bne_eq_false_iff_eq.1 h73
    refine wp_skip ?_
    refine t_n ?_
    have f79 := f72.sub (r := [(4, .bool false), (2, .pointer (some ⟨w.heap.size, 0, none⟩)), (1, .slice As ls.length cs)]) ⟨rfl, rfl, rfl, trivial⟩
    clear f72
    refine wp_seq ?_
    refine wp_seq ?_
    have hR : isR g = true := right_of (by omega)
    have hG := isR_ok hR
    have hn1 := hG.n1
    have hn0 := hG.n0
    have hpl := hG.pl
    have hml := hG.ml
    refine At.start ?_
    refine At.rd f79 1 [[]] [(9, .int .i64 (0))] [] (by kernel_rfl) trivial (fun act81 f80 => ?_)
    clear f79
    refine At.done rfl ?_
    refine t_n ?_
    refine wp_block ?_
    have f82 := f80.sub (r := [(9, .int .i64 (0)), (2, .pointer (some ⟨w.heap.size, 0, none⟩)), (1, .slice As ls.length cs)]) ⟨rfl, rfl, rfl, trivial⟩
    refine loop_g (fun (m_ : Nat) a_ w_ => ∃ (i : Int), m_ = ((ls.length : Int) - i).toNat ∧ (Frm 159 a_ [(9, .int .i64 (i)), (2, .pointer (some ⟨w.heap.size, 0, none⟩)), (1, .slice As ls.length cs)]) ∧ (Ext w w_) ∧ (RdG w_ 0 w.heap.size Ag0 Ag1 Ag2 cg0 cg1 cg2 g) ∧ (RdR w_ 0 w.heap.size As (ls : List Tup)) ∧ (Bx w_ (w.heap.size) [.slice Ag0 g.ow.length cg0, .slice Ag1 g.pr.length cg1, .slice Ag2 g.mv.length cg2] 25) ∧ (0 ≤ i) ∧ (i ≤ (ls.length : Int)) ∧ (RawI g ls i)) _ ⟨0, rfl, f82, e45, r46, r47, bx48, (by omega), (by omega), rawI_0⟩ ?_
    clear f82 f80
    clear r46
    clear r47
    clear bx48
    clear e45
    intro m_ act83 w84 ⟨i, hm86, f87, e85, r88, r89, bx90, i91, i92, hri⟩
    have szw84 := e85.size
    have := bx90.lt
    refine wp_seq ?_
    refine wp_seq ?_
    refine At.start ?_
    refine At.rd f87 4 [[], [], [], []] [(49, .bool (decide ((i : Int) < ((ls.length : Nat) : Int)))), (48, .int .i64 (((ls.length : Nat) : Int))), (47, .slice As ls.length cs), (46, .int .i64 (i))] [] (by kernel_rfl) trivial (fun act94 f93 => ?_)
    clear f87
    refine At.done rfl ?_
    refine t_n ?_
    have f95 := f93.sub (r := [(49, .bool (decide ((i : Int) < ((ls.length : Nat) : Int)))), (9, .int .i64 (i)), (2, .pointer (some ⟨w.heap.size, 0, none⟩)), (1, .slice As ls.length cs)]) ⟨rfl, rfl, rfl, rfl, trivial⟩
    clear f93
    refine cond_S f95 (t := decide ((i : Int) < ((ls.length : Nat) : Int))) rfl (fun h96 => ?_) (fun h96 => ?_)
    ·have q97 := of_decide_eq_true h96
     refine wp_skip ?_
     refine t_n ?_
     have f98 := f95.sub (r := [(9, .int .i64 (i)), (2, .pointer (some ⟨w.heap.size, 0, none⟩)), (1, .slice As ls.length cs)]) ⟨rfl, rfl, rfl, trivial⟩
     clear f95
     refine wp_seq ?_
     refine wp_block ?_
     refine wp_seq ?_
     refine At.start ?_
     refine At.rd f98 1 [[]] [(10, .int .i64 (0))] [] (by kernel_rfl) trivial (fun act100 f99 => ?_)
     clear f98
     refine At.done rfl ?_
     refine t_n ?_
     refine wp_block ?_
     have f101 := f99.sub (r := [(10, .int .i64 (0)), (9, .int .i64 (i)), (2, .pointer (some ⟨w.heap.size, 0, none⟩)), (1, .slice As ls.length cs)]) ⟨rfl, rfl, rfl, rfl, trivial⟩
     refine loop_g (fun (m_ : Nat) a_ w_ => ∃ (k : Int), m_ = (4 - k).toNat ∧ (Frm 159 a_ [(10, .int .i64 (k)), (9, .int .i64 (i)), (2, .pointer (some ⟨w.heap.size, 0, none⟩)), (1, .slice As ls.length cs)]) ∧ (Ext w w_) ∧ (RdG w_ 0 w.heap.size Ag0 Ag1 Ag2 cg0 cg1 cg2 g) ∧ (RdR w_ 0 w.heap.size As (ls : List Tup)) ∧ (Bx w_ (w.heap.size) [.slice Ag0 g.ow.length cg0, .slice Ag1 g.pr.length cg1, .slice Ag2 g.mv.length cg2] 25) ∧ (0 ≤ k) ∧ (k ≤ 4) ∧ (RawK g (gT ls i) k)) _ ⟨0, rfl, f101, e85, r88, r89, bx90, (by omega), (by omega), rawK_0⟩ ?_
     clear f101 f99
     clear r88
     clear r89
     clear bx90
     clear e85
     intro m_ act102 w103 ⟨k, hm105, f106, e104, r107, r108, bx109, i110, i111, hrk⟩
     have szw103 := e104.size
     have := bx109.lt
     refine wp_seq ?_
     refine wp_seq ?_
     refine At.start ?_
     refine At.rd f106 2 [[], []] [(53, .bool (decide ((k : Int) < 4))), (52, .int .i64 (k))] [] (by kernel_rfl) trivial (fun act113 f112 => ?_)
     clear f106
     refine At.done rfl ?_
     refine t_n ?_
     have f114 := f112.sub (r := [(53, .bool (decide ((k : Int) < 4))), (10, .int .i64 (k)), (9, .int .i64 (i)), (2, .pointer (some ⟨w.heap.size, 0, none⟩)), (1, .slice As ls.length cs)]) ⟨rfl, rfl, rfl, rfl, rfl, trivial⟩
     clear f112
     refine cond_S f114 (t := decide ((k : Int) < 4)) rfl (fun h115 => ?_) (fun h115 => ?_)
     ·have q116 := of_decide_eq_true h115
      refine wp_skip ?_
      refine t_n ?_
      have f117 := f114.sub (r := [(10, .int .i64 (k)), (9, .int .i64 (i)), (2, .pointer (some ⟨w.heap.size, 0, none⟩)), (1, .slice As ls.length cs)]) ⟨rfl, rfl, rfl, rfl, trivial⟩
      clear f114
      refine wp_seq ?_
      refine wp_block ?_
      refine wp_seq ?_
      refine At.start ?_
      refine At.rd f117 1 [[]] [(11, .int .i64 (0))] [] (by kernel_rfl) trivial (fun act119 f118 => ?_)
      clear f117
      refine At.done rfl ?_
      refine t_n ?_
      refine wp_seq ?_
      refine wp_seq ?_
      refine At.start ?_
      refine At.rd f118 1 [[]] [(12, .int .i64 (0))] [] (by kernel_rfl) trivial (fun act121 f120 => ?_)
      clear f118
      refine At.done rfl ?_
      refine t_n ?_
      refine wp_block ?_
      have f123 := f120.as 11 (.int .i64 (0)) (.int .i64 (cnt (g.pr.take (0 : Int).toNat) (2 * k + 1))) rfl (congrArg (Value.int .i64) ((cnt_zero _ _).symm))
      clear f120
      have f122 := f123.sub (r := [(12, .int .i64 (0)), (11, .int .i64 (cnt (g.pr.take (0 : Int).toNat) (2 * k + 1))), (10, .int .i64 (k)), (9, .int .i64 (i)), (2, .pointer (some ⟨w.heap.size, 0, none⟩)), (1, .slice As ls.length cs)]) ⟨rfl, rfl, rfl, rfl, rfl, rfl, trivial⟩
      refine loop_g (fun (m_ : Nat) a_ w_ => ∃ (m : Int), m_ = ((g.pr.length : Int) - m).toNat ∧ (Frm 159 a_ [(12, .int .i64 (m)), (11, .int .i64 (cnt (g.pr.take m.toNat) (2 * k + 1))), (10, .int .i64 (k)), (9, .int .i64 (i)), (2, .pointer (some ⟨w.heap.size, 0, none⟩)), (1, .slice As ls.length cs)]) ∧ (Ext w w_) ∧ (RdG w_ 0 w.heap.size Ag0 Ag1 Ag2 cg0 cg1 cg2 g) ∧ (RdR w_ 0 w.heap.size As (ls : List Tup)) ∧ (Bx w_ (w.heap.size) [.slice Ag0 g.ow.length cg0, .slice Ag1 g.pr.length cg1, .slice Ag2 g.mv.length cg2] 25) ∧ (0 ≤ m) ∧ (m ≤ (g.pr.length : Int))) _ ⟨0, rfl, f122, e104, r107, r108, bx109, (by omega), (by omega)⟩ ?_
      clear f122 f123
      clear r107
      clear r108
      clear bx109
      clear e104
      intro m_ act124 w125 ⟨m, hm127, f128, e126, r129, r130, bx131, i132, i133⟩
      have szw125 := e126.size
      have := bx131.lt
      have hcb : cnt (g.pr.take m.toNat) (2 * k + 1) ≤ g.pr.length := cs4_b
      have hcg : 0 ≤ cnt (g.pr.take m.toNat) (2 * k + 1) := cnt_ge _ _
      refine wp_seq ?_
      refine wp_seq ?_
      refine At.start ?_
      refine At.rd f128 5 [[], [], [.ld (.slice Ag1 g.pr.length cg1)], [], []] [(60, .bool (decide ((m : Int) < ((g.pr.length : Nat) : Int)))), (59, .int .i64 (((g.pr.length : Nat) : Int))), (58, .slice Ag1 g.pr.length cg1), (57, .pointer (some ⟨w.heap.size, 1, none⟩)), (56, .int .i64 (m))] [(w125.cell? ⟨w.heap.size, 1, none⟩ = some (.slice Ag1 g.pr.length cg1))] (by kernel_rfl) ⟨(bx131.cell (i := 1) rfl), trivial⟩ (fun act135 f134 => ?_)
      clear f128
      refine At.done rfl ?_
      refine t_n ?_
      have f136 := f134.sub (r := [(60, .bool (decide ((m : Int) < ((g.pr.length : Nat) : Int)))), (12, .int .i64 (m)), (11, .int .i64 (cnt (g.pr.take m.toNat) (2 * k + 1))), (10, .int .i64 (k)), (9, .int .i64 (i)), (2, .pointer (some ⟨w.heap.size, 0, none⟩)), (1, .slice As ls.length cs)]) ⟨rfl, rfl, rfl, rfl, rfl, rfl, rfl, trivial⟩
      clear f134
      refine cond_S f136 (t := decide ((m : Int) < ((g.pr.length : Nat) : Int))) rfl (fun h137 => ?_) (fun h137 => ?_)
      ·have q138 := of_decide_eq_true h137
       refine wp_skip ?_
       refine t_n ?_
       have f139 := f136.sub (r := [(12, .int .i64 (m)), (11, .int .i64 (cnt (g.pr.take m.toNat) (2 * k + 1))), (10, .int .i64 (k)), (9, .int .i64 (i)), (2, .pointer (some ⟨w.heap.size, 0, none⟩)), (1, .slice As ls.length cs)]) ⟨rfl, rfl, rfl, rfl, rfl, rfl, trivial⟩
       clear f136
       refine wp_seq ?_
       refine wp_block ?_
       refine wp_seq ?_
       refine At.start ?_
       obtain ⟨ad140, hA141, _, _, hc142⟩ := RdI.get r129.pr (m) (by omega) (by omega)
       refine At.rd f139 9 [[], [.ld (.slice Ag1 g.pr.length cg1)], [], [.ad ad140], [.ld (.int .i64 (gI g.pr (m)))], [], [.as_ (.int .i64 (2 * k))], [.as_ (.int .i64 ((2 * k) + 1))], []] [(71, .bool ((gI g.pr (m) : Int) == ((2 * k) + 1))), (70, .int .i64 ((2 * k) + 1)), (69, .int .i64 (2 * k)), (68, .int .i64 (k)), (67, .int .i64 (gI g.pr (m))), (66, .pointer (some (ad140.add ((m : Int).toNat * 1)))), (65, .int .i64 (m)), (64, .slice Ag1 g.pr.length cg1), (63, .pointer (some ⟨w.heap.size, 1, none⟩))] [(w125.cell? ⟨w.heap.size, 1, none⟩ = some (.slice Ag1 g.pr.length cg1)), (Ag1 = some ad140), (0 ≤ (m : Int)), ((m : Int) < (g.pr.length : Nat)), (w125.cell? (ad140.add ((m : Int).toNat * 1)) = some (.int .i64 (gI g.pr (m)))), ((.int .i64 (IntKind.i64.wrap (2 * k)) : Value) = .int .i64 (2 * k)), ((.int .i64 (IntKind.i64.wrap ((2 * k) + 1)) : Value) = .int .i64 ((2 * k) + 1))] (by kernel_rfl) ⟨(bx131.cell (i := 1) rfl), hA141, (by omega), (by omega), hc142, (w64 (by omega) (by omega)), (w64 (by omega) (by omega)), trivial⟩ (fun act144 f143 => ?_)
       clear f139
       refine At.done rfl ?_
       refine t_n ?_
       have f145 := f143.sub (r := [(71, .bool ((gI g.pr (m) : Int) == ((2 * k) + 1))), (12, .int .i64 (m)), (11, .int .i64 (cnt (g.pr.take m.toNat) (2 * k + 1))), (10, .int .i64 (k)), (9, .int .i64 (i)), (2, .pointer (some ⟨w.heap.size, 0, none⟩)), (1, .slice As ls.length cs)]) ⟨rfl, rfl, rfl, rfl, rfl, rfl, rfl, trivial⟩
       clear f143
       refine cond_S f145 (t := (gI g.pr (m) : Int) == ((2 * k) + 1)) rfl (fun h146 => ?_) (fun h146 => ?_)
       ·have q147 := eq_of_beq h146
        refine At.start ?_
        refine At.rd f145 3 [[], [.as_ (.int .i64 ((cnt (g.pr.take m.toNat) (2 * k + 1)) + 1))], []] [(11, .int .i64 ((cnt (g.pr.take m.toNat) (2 * k + 1)) + 1)), (73, .int .i64 ((cnt (g.pr.take m.toNat) (2 * k + 1)) + 1)), (72, .int .i64 (cnt (g.pr.take m.toNat) (2 * k + 1)))] [((.int .i64 (IntKind.i64.wrap ((cnt (g.pr.take m.toNat) (2 * k + 1)) + 1)) : Value) = .int .i64 ((cnt (g.pr.take m.toNat) (2 * k + 1)) + 1))] (by kernel_rfl) ⟨(w64 (by omega) (by omega)), trivial⟩ (fun act149 f148 => ?_)
        clear f145
        refine At.done rfl ?_
        refine b_n ?_
        refine t_n ?_
        have f150 := f148.sub (r := [(11, .int .i64 ((cnt (g.pr.take m.toNat) (2 * k + 1)) + 1)), (12, .int .i64 (m)), (10, .int .i64 (k)), (9, .int .i64 (i)), (2, .pointer (some ⟨w.heap.size, 0, none⟩)), (1, .slice As ls.length cs)]) ⟨rfl, rfl, rfl, rfl, rfl, rfl, trivial⟩
        clear f148
        refine At.start ?_
        refine At.rd f150 3 [[], [.as_ (.int .i64 (m + 1))], []] [(12, .int .i64 (m + 1)), (62, .int .i64 (m + 1)), (61, .int .i64 (m))] [((.int .i64 (IntKind.i64.wrap (m + 1)) : Value) = .int .i64 (m + 1))] (by kernel_rfl) ⟨(w64 (by omega) (by omega)), trivial⟩ (fun act152 f151 => ?_)
        clear f150
        refine At.done rfl ?_
        refine t_n ?_
        have f153 := f151.as 11 (.int .i64 ((cnt (g.pr.take m.toNat) (2 * k + 1)) + 1)) (.int .i64 (cnt (g.pr.take ((m + 1) : Int).toNat) (2 * k + 1))) rfl (congrArg (Value.int .i64) (by rw [cnt_next (2 * k + 1) (by omega) (by omega)]; first | rw [if_pos (by omega)] | rw [if_neg (by omega)]))
        clear f151
        have f154 := f153.sub (r := [(12, .int .i64 (m + 1)), (11, .int .i64 (cnt (g.pr.take ((m + 1) : Int).toNat) (2 * k + 1))), (10, .int .i64 (k)), (9, .int .i64 (i)), (2, .pointer (some ⟨w.heap.size, 0, none⟩)), (1, .slice As ls.length cs)]) ⟨rfl, rfl, rfl, rfl, rfl, rfl, trivial⟩
        exact ⟨_, (by omega), (m + 1), rfl, f154, e126, r129, r130, bx131, (by omega), (by omega)⟩
       ·have q155 := ne_of_beq_false h146
        refine wp_skip ?_
        refine b_n ?_
        refine t_n ?_
        have f156 := f145.sub (r := [(12, .int .i64 (m)), (11, .int .i64 (cnt (g.pr.take m.toNat) (2 * k + 1))), (10, .int .i64 (k)), (9, .int .i64 (i)), (2, .pointer (some ⟨w.heap.size, 0, none⟩)), (1, .slice As ls.length cs)]) ⟨rfl, rfl, rfl, rfl, rfl, rfl, trivial⟩
        clear f145
        refine At.start ?_
        refine At.rd f156 3 [[], [.as_ (.int .i64 (m + 1))], []] [(12, .int .i64 (m + 1)), (62, .int .i64 (m + 1)), (61, .int .i64 (m))] [((.int .i64 (IntKind.i64.wrap (m + 1)) : Value) = .int .i64 (m + 1))] (by kernel_rfl) ⟨(w64 (by omega) (by omega)), trivial⟩ (fun act158 f157 => ?_)
        clear f156
        refine At.done rfl ?_
        refine t_n ?_
        have f159 := f157.as 11 (.int .i64 (cnt (g.pr.take m.toNat) (2 * k + 1))) (.int .i64 (cnt (g.pr.take ((m + 1) : Int).toNat) (2 * k + 1))) rfl (congrArg (Value.int .i64) (by rw [cnt_next (2 * k + 1) (by omega) (by omega)]; first | rw [if_pos (by omega)] | rw [if_neg (by omega)]))
        clear f157
        have f160 := f159.sub (r := [(12, .int .i64 (m + 1)), (11, .int .i64 (cnt (g.pr.take ((m + 1) : Int).toNat) (2 * k + 1))), (10, .int .i64 (k)), (9, .int .i64 (i)), (2, .pointer (some ⟨w.heap.size, 0, none⟩)), (1, .slice As ls.length cs)]) ⟨rfl, rfl, rfl, rfl, rfl, rfl, trivial⟩
        exact ⟨_, (by omega), (m + 1), rfl, f160, e126, r129, r130, bx131, (by omega), (by omega)⟩
      ·have q161 := of_decide_eq_false h137
       refine wp_exit ?_
       refine t_e ?_
       refine t_e ?_
       refine b_e ?_
       refine t_n ?_
       have f162 := f136.sub (r := [(11, .int .i64 (cnt (g.pr.take m.toNat) (2 * k + 1))), (10, .int .i64 (k)), (9, .int .i64 (i)), (2, .pointer (some ⟨w.heap.size, 0, none⟩)), (1, .slice As ls.length cs)]) ⟨rfl, rfl, rfl, rfl, rfl, trivial⟩
       clear f136
       refine wp_seq ?_
       have hcn : cnt (g.pr.take m.toNat) (2 * k + 1) = cnt g.pr (2 * k + 1) := cnt_all (l := g.pr) (j := m) _ (by omega)
       refine At.start ?_
       obtain ⟨ad163, hA164, hb167, hc166, hc165⟩ := r130.get (i) (by omega) (by omega) (sz := 5) rfl
       rcases Bool.eq_false_or_eq_true (decide ((gI [(gT ls i).c0, (gT ls i).c1, (gT ls i).c2, (gT ls i).c3] k : Int) < 0)) with h168 | h168
       ·have q169 := of_decide_eq_true h168
        refine At.rd f162 19 [[], [], [], [.ad ad163], [], [], [.ld (.int .i64 (gI [(gT ls i).c0, (gT ls i).c1, (gT ls i).c2, (gT ls i).c3] k))], [], [.as_ (.bool true)], [], [], [], [], [], [], [], [], [], []] [(92, .bool true), (91, undef), (90, undef), (89, undef), (88, undef), (87, undef), (86, undef), (85, undef), (84, undef), (83, undef), (82, .bool true), (81, .bool (decide ((gI [(gT ls i).c0, (gT ls i).c1, (gT ls i).c2, (gT ls i).c3] k : Int) < 0))), (80, .int .i64 (gI [(gT ls i).c0, (gT ls i).c1, (gT ls i).c2, (gT ls i).c3] k)), (79, .pointer (some (((ad163.add ((i : Int).toNat * 5)).add 1).add ((k : Int).toNat * 1)))), (78, .pointer (some ((ad163.add ((i : Int).toNat * 5)).add 1))), (77, .pointer (some (ad163.add ((i : Int).toNat * 5)))), (76, .int .i64 (k)), (75, .int .i64 (i)), (74, .slice As ls.length cs)] [(As = some ad163), (0 ≤ (i : Int)), ((i : Int) < (ls.length : Nat)), (0 ≤ (k : Int)), ((k : Int) < (4 : Nat)), (w125.cell? (((ad163.add ((i : Int).toNat * 5)).add 1).add ((k : Int).toNat * 1)) = some (.int .i64 (gI [(gT ls i).c0, (gT ls i).c1, (gT ls i).c2, (gT ls i).c3] k))), ((.bool (decide ((gI [(gT ls i).c0, (gT ls i).c1, (gT ls i).c2, (gT ls i).c3] k : Int) < 0)) : Value) = .bool true)] (by kernel_rfl) ⟨hA164, (by omega), (by omega), (by omega), (by omega), (arrT hc165 k (by omega) (by omega)), (congrArg Value.bool h168), trivial⟩ (fun act171 f170 => ?_)
        clear f162
        refine At.done rfl ?_
        refine t_n ?_
        have f172 := f170.sub (r := [(92, .bool true), (10, .int .i64 (k)), (9, .int .i64 (i)), (2, .pointer (some ⟨w.heap.size, 0, none⟩)), (1, .slice As ls.length cs)]) ⟨rfl, rfl, rfl, rfl, rfl, trivial⟩
        clear f170
        refine cond_T f172 rfl ?_
        refine wp_seq ?_
        refine At.start ?_
        refine At.rd f172 1 [[]] [(4, .bool true)] [] (by kernel_rfl) trivial (fun act174 f173 => ?_)
        clear f172
        refine At.done rfl ?_
        refine t_n ?_
        have f175 := f173.sub (r := [(4, .bool true)]) ⟨rfl, trivial⟩
        clear f173
        refine wp_ret ?_
        refine b_r ?_
        refine t_r ?_
        refine t_r ?_
        refine b_r ?_
        refine b_r ?_
        refine t_r ?_
        refine t_r ?_
        refine b_r ?_
        refine t_r ?_
        refine ret_ f175 [] [.bool true] [] (by kernel_rfl) trivial ?_
        exact ⟨rfl, e126⟩
       ·have q176 := of_decide_eq_false h168
        obtain ⟨ad177, hA178, hb181, hc180, hc179⟩ := r130.get (i) (by omega) (by omega) (sz := 5) rfl
        refine At.rd f162 19 [[], [], [], [.ad ad163], [], [], [.ld (.int .i64 (gI [(gT ls i).c0, (gT ls i).c1, (gT ls i).c2, (gT ls i).c3] k))], [], [.as_ (.bool false)], [], [], [], [.ad ad177], [], [], [.ld (.int .i64 (gI [(gT ls i).c0, (gT ls i).c1, (gT ls i).c2, (gT ls i).c3] k))], [], [], []] [(92, .bool (decide ((gI [(gT ls i).c0, (gT ls i).c1, (gT ls i).c2, (gT ls i).c3] k : Int) > (cnt (g.pr.take m.toNat) (2 * k + 1))))), (91, .bool (decide ((gI [(gT ls i).c0, (gT ls i).c1, (gT ls i).c2, (gT ls i).c3] k : Int) > (cnt (g.pr.take m.toNat) (2 * k + 1))))), (90, .int .i64 (cnt (g.pr.take m.toNat) (2 * k + 1))), (89, .int .i64 (gI [(gT ls i).c0, (gT ls i).c1, (gT ls i).c2, (gT ls i).c3] k)), (88, .pointer (some (((ad177.add ((i : Int).toNat * 5)).add 1).add ((k : Int).toNat * 1)))), (87, .pointer (some ((ad177.add ((i : Int).toNat * 5)).add 1))), (86, .pointer (some (ad177.add ((i : Int).toNat * 5)))), (85, .int .i64 (k)), (84, .int .i64 (i)), (83, .slice As ls.length cs), (82, .bool false), (81, .bool (decide ((gI [(gT ls i).c0, (gT ls i).c1, (gT ls i).c2, (gT ls i).c3] k : Int) < 0))), (80, .int .i64 (gI [(gT ls i).c0, (gT ls i).c1, (gT ls i).c2, (gT ls i).c3] k)), (79, .pointer (some (((ad163.add ((i : Int).toNat * 5)).add 1).add ((k : Int).toNat * 1)))), (78, .pointer (some ((ad163.add ((i : Int).toNat * 5)).add 1))), (77, .pointer (some (ad163.add ((i : Int).toNat * 5)))), (76, .int .i64 (k)), (75, .int .i64 (i)), (74, .slice As ls.length cs)] [(As = some ad163), (0 ≤ (i : Int)), ((i : Int) < (ls.length : Nat)), (0 ≤ (k : Int)), ((k : Int) < (4 : Nat)), (w125.cell? (((ad163.add ((i : Int).toNat * 5)).add 1).add ((k : Int).toNat * 1)) = some (.int .i64 (gI [(gT ls i).c0, (gT ls i).c1, (gT ls i).c2, (gT ls i).c3] k))), ((.bool (decide ((gI [(gT ls i).c0, (gT ls i).c1, (gT ls i).c2, (gT ls i).c3] k : Int) < 0)) : Value) = .bool false), (As = some ad177), (0 ≤ (i : Int)), ((i : Int) < (ls.length : Nat)), (0 ≤ (k : Int)), ((k : Int) < (4 : Nat)), (w125.cell? (((ad177.add ((i : Int).toNat * 5)).add 1).add ((k : Int).toNat * 1)) = some (.int .i64 (gI [(gT ls i).c0, (gT ls i).c1, (gT ls i).c2, (gT ls i).c3] k)))] (by kernel_rfl) ⟨hA164, (by omega), (by omega), (by omega), (by omega), (arrT hc165 k (by omega) (by omega)), (congrArg Value.bool h168), hA178, (by omega), (by omega), (by omega), (by omega), (arrT hc179 k (by omega) (by omega)), trivial⟩ (fun act183 f182 => ?_)
        clear f162
        refine At.done rfl ?_
        refine t_n ?_
        have f184 := f182.sub (r := [(92, .bool (decide ((gI [(gT ls i).c0, (gT ls i).c1, (gT ls i).c2, (gT ls i).c3] k : Int) > (cnt (g.pr.take m.toNat) (2 * k + 1))))), (91, .bool (decide ((gI [(gT ls i).c0, (gT ls i).c1, (gT ls i).c2, (gT ls i).c3] k : Int) > (cnt (g.pr.take m.toNat) (2 * k + 1))))), (90, .int .i64 (cnt (g.pr.take m.toNat) (2 * k + 1))), (89, .int .i64 (gI [(gT ls i).c0, (gT ls i).c1, (gT ls i).c2, (gT ls i).c3] k)), (88, .pointer (some (((ad177.add ((i : Int).toNat * 5)).add 1).add ((k : Int).toNat * 1)))), (87, .pointer (some ((ad177.add ((i : Int).toNat * 5)).add 1))), (86, .pointer (some (ad177.add ((i : Int).toNat * 5)))), (85, .int .i64 (k)), (84, .int .i64 (i)), (83, .slice As ls.length cs), (10, .int .i64 (k)), (9, .int .i64 (i)), (2, .pointer (some ⟨w.heap.size, 0, none⟩)), (1, .slice As ls.length cs)]) ⟨rfl, rfl, rfl, rfl, rfl, rfl, rfl, rfl, rfl, rfl, rfl, rfl, rfl, rfl, trivial⟩
        clear f182
        refine cond_S f184 (t := decide ((gI [(gT ls i).c0, (gT ls i).c1, (gT ls i).c2, (gT ls i).c3] k : Int) > (cnt (g.pr.take m.toNat) (2 * k + 1)))) rfl (fun h185 => ?_) (fun h185 => ?_)
        ·have q186 := of_decide_eq_true h185
         refine wp_seq ?_
         refine At.start ?_
         refine At.rd f184 1 [[]] [(4, .bool true)] [] (by kernel_rfl) trivial (fun act188 f187 => ?_)
         clear f184
         refine At.done rfl ?_
         refine t_n ?_
         have f189 := f187.sub (r := [(4, .bool true)]) ⟨rfl, trivial⟩
         clear f187
         refine wp_ret ?_
         refine b_r ?_
         refine t_r ?_
         refine t_r ?_
         refine b_r ?_
         refine b_r ?_
         refine t_r ?_
         refine t_r ?_
         refine b_r ?_
         refine t_r ?_
         refine ret_ f189 [] [.bool true] [] (by kernel_rfl) trivial ?_
         exact ⟨rfl, e126⟩
        ·have q190 := of_decide_eq_false h185
         refine wp_skip ?_
         refine b_n ?_
         refine t_n ?_
         have f191 := f184.sub (r := [(91, .bool (decide ((gI [(gT ls i).c0, (gT ls i).c1, (gT ls i).c2, (gT ls i).c3] k : Int) > (cnt (g.pr.take m.toNat) (2 * k + 1))))), (90, .int .i64 (cnt (g.pr.take m.toNat) (2 * k + 1))), (89, .int .i64 (gI [(gT ls i).c0, (gT ls i).c1, (gT ls i).c2, (gT ls i).c3] k)), (88, .pointer (some (((ad177.add ((i : Int).toNat * 5)).add 1).add ((k : Int).toNat * 1)))), (87, .pointer (some ((ad177.add ((i : Int).toNat * 5)).add 1))), (86, .pointer (some (ad177.add ((i : Int).toNat * 5)))), (85, .int .i64 (k)), (84, .int .i64 (i)), (83, .slice As ls.length cs), (10, .int .i64 (k)), (9, .int .i64 (i)), (2, .pointer (some ⟨w.heap.size, 0, none⟩)), (1, .slice As ls.length cs)]) ⟨rfl, rfl, rfl, rfl, rfl, rfl, rfl, rfl, rfl, rfl, rfl, rfl, rfl, trivial⟩
         clear f184
         refine At.start ?_
         refine At.rd f191 3 [[], [.as_ (.int .i64 (k + 1))], []] [(10, .int .i64 (k + 1)), (55, .int .i64 (k + 1)), (54, .int .i64 (k))] [((.int .i64 (IntKind.i64.wrap (k + 1)) : Value) = .int .i64 (k + 1))] (by kernel_rfl) ⟨(w64 (by omega) (by omega)), trivial⟩ (fun act193 f192 => ?_)
         clear f191
         refine At.done rfl ?_
         refine t_n ?_
         have f194 := f192.sub (r := [(10, .int .i64 (k + 1)), (9, .int .i64 (i)), (2, .pointer (some ⟨w.heap.size, 0, none⟩)), (1, .slice As ls.length cs)]) ⟨rfl, rfl, rfl, rfl, trivial⟩
         exact ⟨_, (by omega), (k + 1), rfl, f194, e126, r129, r130, bx131, (by omega), (by omega), (rawK_next hrk (by omega) (by omega))⟩
     ·have q195 := of_decide_eq_false h115
      refine wp_exit ?_
      refine t_e ?_
      refine t_e ?_
      refine b_e ?_
      refine b_n ?_
      refine t_n ?_
      have f196 := f114.sub (r := [(9, .int .i64 (i)), (2, .pointer (some ⟨w.heap.size, 0, none⟩)), (1, .slice As ls.length cs)]) ⟨rfl, rfl, rfl, trivial⟩
      clear f114
      refine At.start ?_
      refine At.rd f196 3 [[], [.as_ (.int .i64 (i + 1))], []] [(9, .int .i64 (i + 1)), (51, .int .i64 (i + 1)), (50, .int .i64 (i))] [((.int .i64 (IntKind.i64.wrap (i + 1)) : Value) = .int .i64 (i + 1))] (by kernel_rfl) ⟨(w64 (by omega) (by omega)), trivial⟩ (fun act198 f197 => ?_)
      clear f196
      refine At.done rfl ?_
      refine t_n ?_
      have f199 := f197.sub (r := [(9, .int .i64 (i + 1)), (2, .pointer (some ⟨w.heap.size, 0, none⟩)), (1, .slice As ls.length cs)]) ⟨rfl, rfl, rfl, trivial⟩
      exact ⟨_, (by omega), (i + 1), rfl, f199, e104, r107, r108, bx109, (by omega), (by omega), (rawI_next hri (rawK_4 hrk (by omega)))⟩
    ·have q200 := of_decide_eq_false h96
     refine wp_exit ?_
     refine t_e ?_
     refine t_e ?_
     refine b_e ?_
     refine t_n ?_
     have f201 := f95.sub (r := [(2, .pointer (some ⟨w.heap.size, 0, none⟩)), (1, .slice As ls.length cs)]) ⟨rfl, rfl, trivial⟩
     clear f95
     refine wp_seq ?_
     refine At.start ?_
     refine At.rd f201 1 [[]] [(93, .slice As ls.length cs)] [] (by kernel_rfl) trivial (fun act203 f202 => ?_)
     clear f201
     refine At.call f202 26 #[.slice As ls.length cs] (some 94) (by kernel_rfl) (tuples_any (ls := ls) (r89.wide (Nat.zero_le _) (by omega))) ?_
     rintro e_ w208 ⟨A204, c205, rfl, he, ow206⟩
     refine ⟨_, rfl, _, rfl, fun act209 f210 => ?_⟩
     clear f202
     have g211 := gr_ext he
     have szw208 := g211.size
     have e212 := e85.gr g211 no_row
     clear e85
     have r213 := r88.gr g211 (fun _ h => by cases h)
     clear r88
     have r214 := r89.gr g211 (fun _ h => by cases h)
     clear r89
     have bx215 := bx90.gr g211 (by simp)
     clear bx90
     clear g211 he
     refine At.rd f210 1 [[]] [(13, .slice A204 ((ls).length) c205)] [] (by kernel_rfl) trivial (fun act217 f216 => ?_)
     clear f210
     refine At.done rfl ?_
     refine t_n ?_
     have f218 := f216.sub (r := [(13, .slice A204 ((ls).length) c205), (2, .pointer (some ⟨w.heap.size, 0, none⟩))]) ⟨rfl, rfl, trivial⟩
     clear f216
     refine wp_seq ?_
     refine wp_seq ?_
     refine At.start ?_
     refine At.rd f218 1 [[]] [(14, .int .i64 (0))] [] (by kernel_rfl) trivial (fun act220 f219 => ?_)
     clear f218
     refine At.done rfl ?_
     refine t_n ?_
     refine wp_block ?_
     have f224 := f219.as 13 (.slice A204 ((ls).length) c205) (.slice A204 ((ls : List Tup).length) c205) rfl (slice_len (by first | rfl | omega | (simp; done) | (simp; omega)))
     clear f219
     have f223 := f224.sub (r := [(14, .int .i64 (0)), (13, .slice A204 ((ls : List Tup).length) c205), (2, .pointer (some ⟨w.heap.size, 0, none⟩))]) ⟨rfl, rfl, rfl, trivial⟩
     refine loop_g (fun (m_ : Nat) a_ w_ => ∃ (n : Int) (p : List Tup) (A_221 : Option Addr) (c_222 : Nat), m_ = (200000 - n).toNat ∧ (Frm 159 a_ [(14, .int .i64 (n)), (13, .slice A_221 p.length c_222), (2, .pointer (some ⟨w.heap.size, 0, none⟩))]) ∧ (Ext w w_) ∧ (RdG w_ 0 w.heap.size Ag0 Ag1 Ag2 cg0 cg1 cg2 g) ∧ (RdR w_ 0 w.heap.size As (ls : List Tup)) ∧ (Bx w_ (w.heap.size) [.slice Ag0 g.ow.length cg0, .slice Ag1 g.pr.length cg1, .slice Ag2 g.mv.length cg2] 25) ∧ (OwnR w_ (Sx (w84.heap.size) []) A_221 c_222 41 (p : List Tup)) ∧ (0 ≤ n) ∧ (n ≤ 200000) ∧ (RawL g p) ∧ (w84.heap.size ≤ w_.heap.size)) _ ⟨0, (ls : List Tup), A204, c205, rfl, f223, e212, r213, r214, bx215, ow206, (by omega), (by omega), ⟨by omega, fun j a b => hri j a (by omega)⟩, (by omega)⟩ ?_
     clear f223 f224
     clear r213
     clear r214
     clear bx215
     clear ow206
     clear e212
     intro m_ act225 w226 ⟨n, p, A_221, c_222, hm228, f229, e227, r230, r231, bx232, ow233, i234, i235, hrp, i236⟩
     have szw226 := e227.size
     have := bx232.lt
     refine wp_seq ?_
     refine wp_seq ?_
     refine At.start ?_
     refine At.rd f229 2 [[], []] [(96, .bool (decide ((n : Int) < 200000))), (95, .int .i64 (n))] [] (by kernel_rfl) trivial (fun act238 f237 => ?_)
     clear f229
     refine At.done rfl ?_
     refine t_n ?_
     have f239 := f237.sub (r := [(96, .bool (decide ((n : Int) < 200000))), (14, .int .i64 (n)), (13, .slice A_221 p.length c_222), (2, .pointer (some ⟨w.heap.size, 0, none⟩))]) ⟨rfl, rfl, rfl, rfl, trivial⟩
     clear f237
     refine cond_S f239 (t := decide ((n : Int) < 200000)) rfl (fun h240 => ?_) (fun h240 => ?_)
     ·have q241 := of_decide_eq_true h240
      refine wp_skip ?_
      refine t_n ?_
      have f242 := f239.sub (r := [(14, .int .i64 (n)), (13, .slice A_221 p.length c_222), (2, .pointer (some ⟨w.heap.size, 0, none⟩))]) ⟨rfl, rfl, rfl, trivial⟩
      clear f239
      refine wp_seq ?_
      refine wp_block ?_
      refine wp_seq ?_
      have hpl3 := hrp.1
      have hmod := Int.emod_nonneg n (show (p.length : Int) ≠ 0 by omega)
      have hmod2 := Int.emod_lt_of_pos n (show (0 : Int) < (p.length : Int) by omega)
      have hmod3 := Int.tmod_eq_emod_of_nonneg (b := (p.length : Int)) (show 0 ≤ n by omega)
      refine At.start ?_
      refine At.rd f242 5 [[], [], [], [], []] [(15, .int .i64 ((n : Int).tmod ((p.length : Nat) : Int))), (102, .int .i64 ((n : Int).tmod ((p.length : Nat) : Int))), (101, .int .i64 (((p.length : Nat) : Int))), (100, .slice A_221 p.length c_222), (99, .int .i64 (n))] [((((p.length : Nat) : Int) : Int) ≠ 0)] (by kernel_rfl) ⟨(by omega), trivial⟩ (fun act244 f243 => ?_)
      clear f242
      refine At.done rfl ?_
      refine t_n ?_
      have f245 := f243.sub (r := [(15, .int .i64 ((n : Int).tmod ((p.length : Nat) : Int))), (14, .int .i64 (n)), (13, .slice A_221 p.length c_222), (2, .pointer (some ⟨w.heap.size, 0, none⟩))]) ⟨rfl, rfl, rfl, rfl, trivial⟩
      clear f243
      refine wp_seq ?_
      have hpl2 := hrp.1
      refine At.start ?_
      refine At.rd f245 5 [[], [], [.ld (.slice Ag0 g.ow.length cg0), .ld (.slice Ag1 g.pr.length cg1), .ld (.slice Ag2 g.mv.length cg2)], [], []] [(107, .int .i64 ((n : Int).tmod ((p.length : Nat) : Int))), (106, .slice A_221 p.length c_222), (105, .agg #[.slice Ag0 g.ow.length cg0, .slice Ag1 g.pr.length cg1, .slice Ag2 g.mv.length cg2]), (104, .int .i64 ((n : Int).tmod ((p.length : Nat) : Int))), (103, .slice A_221 p.length c_222)] [(w226.cell? ⟨w.heap.size, 0, none⟩ = some (.slice Ag0 g.ow.length cg0)), (w226.cell? ⟨w.heap.size, 1, none⟩ = some (.slice Ag1 g.pr.length cg1)), (w226.cell? ⟨w.heap.size, 2, none⟩ = some (.slice Ag2 g.mv.length cg2))] (by kernel_rfl) ⟨(bx232.cell (i := 0) rfl), (bx232.cell (i := 1) rfl), (bx232.cell (i := 2) rfl), trivial⟩ (fun act247 f246 => ?_)
      clear f245
      refine At.call f246 37 #[.agg #[.slice Ag0 g.ow.length cg0, .slice Ag1 g.pr.length cg1, .slice Ag2 g.mv.length cg2], .slice A_221 p.length c_222, .int .i64 ((n : Int).tmod ((p.length : Nat) : Int))] (some 108) (by kernel_rfl) (lift_any (g := g) (ls := p) (at_ := (n : Int).tmod ((p.length : Nat) : Int)) (r230.wide (Nat.zero_le _) (by omega)) ((ow233.rdR (by simp only [Enc.bytes]; omega)).wide (Nat.zero_le _) (by omega)) (by first | exact raw_ok hrp2 | exact raw_ok hrp)) ?_
      rintro e_ w248 ⟨rfl, he⟩
      refine ⟨_, rfl, _, rfl, fun act249 f250 => ?_⟩
      clear f246
      have g251 := gr_ext he
      have szw248 := g251.size
      have e252 := e227.gr g251 no_row
      clear e227
      have r253 := r230.gr g251 (fun _ h => by cases h)
      clear r230
      have r254 := r231.gr g251 (fun _ h => by cases h)
      clear r231
      have bx255 := bx232.gr g251 (by simp)
      clear bx232
      have ow256 := ow233.gr g251 (fun _ _ h => by cases h)
      clear ow233
      clear g251 he
      obtain ⟨ad257, hA258, hb261, hc260, hc259⟩ := ow256.get ((n : Int).tmod ((p.length : Nat) : Int)) (by omega) (by omega) (sz := 5) rfl
      refine At.rd f250 1 [[.ad ad257]] [(109, .pointer (some (ad257.add (((n : Int).tmod ((p.length : Nat) : Int) : Int).toNat * 5))))] [(A_221 = some ad257), (0 ≤ ((n : Int).tmod ((p.length : Nat) : Int) : Int)), (((n : Int).tmod ((p.length : Nat) : Int) : Int) < (p.length : Nat))] (by kernel_rfl) ⟨hA258, (by omega), (by omega), trivial⟩ (fun act263 f262 => ?_)
      clear f250
      refine At.act f262 (storeR (α := Tup) (t := 41) (i := (n : Int).tmod ((p.length : Nat) : Int)) (ad := ad257) (v := tupV (liftR g p ((n : Int).tmod ((p.length : Nat) : Int)))) ((liftR g p ((n : Int).tmod ((p.length : Nat) : Int)))) (by kernel_rfl) rfl rfl (by kernel_rfl) hA258 ow256 (by omega) (by omega)) ?_
      rintro d_ v_ w264 ⟨rfl, g265, ow266⟩
      refine ⟨_, rfl, fun act269 f268 => ?_⟩
      clear f262
      have hl267 : ((p).set ((n : Int).tmod ((p.length : Nat) : Int) : Int).toNat (liftR g p ((n : Int).tmod ((p.length : Nat) : Int)))).length = (p).length := List.length_set
      have szw264 := g265.size
      have e270 := e252.gr g265 (fun k hk => by have := ow256.ge k hk; omega)
      clear e252
      have r271 := r253.gr g265 (fun k hk => by have := ow256.ge k hk; omega)
      clear r253
      have r272 := r254.gr g265 (fun k hk => by have := ow256.ge k hk; omega)
      clear r254
      have bx273 := bx255.gr g265 (fun e => by have := ow256.ge _ e; omega)
      clear bx255
      clear ow256 g265
      have f274 := f268.as 106 (.slice A_221 p.length c_222) (.slice A_221 (((p).set ((n : Int).tmod ((p.length : Nat) : Int) : Int).toNat (liftR g p ((n : Int).tmod ((p.length : Nat) : Int))) : List Tup).length) c_222) rfl (slice_len (by first | rfl | omega | (simp; done) | (simp; omega)))
      clear f268
      have f275 := f274.as 103 (.slice A_221 p.length c_222) (.slice A_221 (((p).set ((n : Int).tmod ((p.length : Nat) : Int) : Int).toNat (liftR g p ((n : Int).tmod ((p.length : Nat) : Int))) : List Tup).length) c_222) rfl (slice_len (by first | rfl | omega | (simp; done) | (simp; omega)))
      clear f274
      have f276 := f275.as 13 (.slice A_221 p.length c_222) (.slice A_221 (((p).set ((n : Int).tmod ((p.length : Nat) : Int) : Int).toNat (liftR g p ((n : Int).tmod ((p.length : Nat) : Int))) : List Tup).length) c_222) rfl (slice_len (by first | rfl | omega | (simp; done) | (simp; omega)))
      clear f275
      refine At.done rfl ?_
      refine t_n ?_
      have f277 := f276.sub (r := [(13, .slice A_221 (((p).set ((n : Int).tmod ((p.length : Nat) : Int) : Int).toNat (liftR g p ((n : Int).tmod ((p.length : Nat) : Int))) : List Tup).length) c_222), (15, .int .i64 ((n : Int).tmod ((p.length : Nat) : Int))), (14, .int .i64 (n)), (2, .pointer (some ⟨w.heap.size, 0, none⟩))]) ⟨rfl, rfl, rfl, rfl, trivial⟩
      clear f276
      refine wp_seq ?_
      have hrp2 := raw_set hR hrp (i := (n : Int).tmod ((p.length : Nat) : Int)) (by omega) (by omega)
      refine At.start ?_
      refine At.rd f277 5 [[], [], [], [.as_ (.int .i64 (((((p).set ((n : Int).tmod ((p.length : Nat) : Int) : Int).toNat (liftR g p ((n : Int).tmod ((p.length : Nat) : Int))) : List Tup).length : Nat) : Int) - 1))], []] [(114, .bool (((n : Int).tmod ((p.length : Nat) : Int) : Int) == (((((p).set ((n : Int).tmod ((p.length : Nat) : Int) : Int).toNat (liftR g p ((n : Int).tmod ((p.length : Nat) : Int))) : List Tup).length : Nat) : Int) - 1))), (113, .int .i64 (((((p).set ((n : Int).tmod ((p.length : Nat) : Int) : Int).toNat (liftR g p ((n : Int).tmod ((p.length : Nat) : Int))) : List Tup).length : Nat) : Int) - 1)), (112, .int .i64 (((((p).set ((n : Int).tmod ((p.length : Nat) : Int) : Int).toNat (liftR g p ((n : Int).tmod ((p.length : Nat) : Int))) : List Tup).length : Nat) : Int))), (111, .slice A_221 (((p).set ((n : Int).tmod ((p.length : Nat) : Int) : Int).toNat (liftR g p ((n : Int).tmod ((p.length : Nat) : Int))) : List Tup).length) c_222), (110, .int .i64 ((n : Int).tmod ((p.length : Nat) : Int)))] [((.int .i64 (IntKind.i64.wrap (((((p).set ((n : Int).tmod ((p.length : Nat) : Int) : Int).toNat (liftR g p ((n : Int).tmod ((p.length : Nat) : Int))) : List Tup).length : Nat) : Int) - 1)) : Value) = .int .i64 (((((p).set ((n : Int).tmod ((p.length : Nat) : Int) : Int).toNat (liftR g p ((n : Int).tmod ((p.length : Nat) : Int))) : List Tup).length : Nat) : Int) - 1))] (by kernel_rfl) ⟨(w64 (by omega) (by omega)), trivial⟩ (fun act279 f278 => ?_)
      clear f277
      refine At.done rfl ?_
      refine t_n ?_
      have f280 := f278.sub (r := [(114, .bool (((n : Int).tmod ((p.length : Nat) : Int) : Int) == (((((p).set ((n : Int).tmod ((p.length : Nat) : Int) : Int).toNat (liftR g p ((n : Int).tmod ((p.length : Nat) : Int))) : List Tup).length : Nat) : Int) - 1))), (13, .slice A_221 (((p).set ((n : Int).tmod ((p.length : Nat) : Int) : Int).toNat (liftR g p ((n : Int).tmod ((p.length : Nat) : Int))) : List Tup).length) c_222), (14, .int .i64 (n)), (2, .pointer (some ⟨w.heap.size, 0, none⟩))]) ⟨rfl, rfl, rfl, rfl, trivial⟩
      clear f278
      refine cond_S f280 (t := ((n : Int).tmod ((p.length : Nat) : Int) : Int) == (((((p).set ((n : Int).tmod ((p.length : Nat) : Int) : Int).toNat (liftR g p ((n : Int).tmod ((p.length : Nat) : Int))) : List Tup).length : Nat) : Int) - 1)) rfl (fun h281 => ?_) (fun h281 => ?_)
      ·have q282 := eq_of_beq h281
       refine wp_seq ?_
       refine At.start ?_
       refine At.rd f280 1 [[]] [(16, .bool true)] [] (by kernel_rfl) trivial (fun act284 f283 => ?_)
       clear f280
       refine At.done rfl ?_
       refine t_n ?_
       have f285 := f283.sub (r := [(16, .bool true), (13, .slice A_221 (((p).set ((n : Int).tmod ((p.length : Nat) : Int) : Int).toNat (liftR g p ((n : Int).tmod ((p.length : Nat) : Int))) : List Tup).length) c_222), (14, .int .i64 (n)), (2, .pointer (some ⟨w.heap.size, 0, none⟩))]) ⟨rfl, rfl, rfl, rfl, trivial⟩
       clear f283
       refine wp_seq ?_
       refine wp_seq ?_
       refine At.start ?_
       refine At.rd f285 1 [[]] [(17, .int .i64 (0))] [] (by kernel_rfl) trivial (fun act287 f286 => ?_)
       clear f285
       refine At.done rfl ?_
       refine t_n ?_
       refine wp_block ?_
       have f288 := f286.sub (r := [(17, .int .i64 (0)), (16, .bool true), (13, .slice A_221 (((p).set ((n : Int).tmod ((p.length : Nat) : Int) : Int).toNat (liftR g p ((n : Int).tmod ((p.length : Nat) : Int))) : List Tup).length) c_222), (14, .int .i64 (n)), (2, .pointer (some ⟨w.heap.size, 0, none⟩))]) ⟨rfl, rfl, rfl, rfl, rfl, trivial⟩
       refine loop_g (fun (m_ : Nat) a_ w_ => ∃ (k : Int) (sti : Bool), m_ = ((p.length : Int) - k).toNat ∧ (Frm 159 a_ [(17, .int .i64 (k)), (16, .bool (sti)), (13, .slice A_221 (((p).set ((n : Int).tmod ((p.length : Nat) : Int) : Int).toNat (liftR g p ((n : Int).tmod ((p.length : Nat) : Int))) : List Tup).length) c_222), (14, .int .i64 (n)), (2, .pointer (some ⟨w.heap.size, 0, none⟩))]) ∧ (Ext w w_) ∧ (RdG w_ 0 w.heap.size Ag0 Ag1 Ag2 cg0 cg1 cg2 g) ∧ (RdR w_ 0 w.heap.size As (ls : List Tup)) ∧ (Bx w_ (w.heap.size) [.slice Ag0 g.ow.length cg0, .slice Ag1 g.pr.length cg1, .slice Ag2 g.mv.length cg2] 25) ∧ (OwnR w_ (Sx (w84.heap.size) []) A_221 c_222 41 ((p).set ((n : Int).tmod ((p.length : Nat) : Int) : Int).toNat (liftR g p ((n : Int).tmod ((p.length : Nat) : Int))) : List Tup)) ∧ (0 ≤ k) ∧ (sti = true → StillT g ((p).set ((n : Int).tmod ((p.length : Nat) : Int) : Int).toNat (liftR g p ((n : Int).tmod ((p.length : Nat) : Int)))) k) ∧ (w84.heap.size ≤ w_.heap.size)) _ ⟨0, true, rfl, f288, e270, r271, r272, bx273, ow266, (by omega), (fun _ => still_0), (by omega)⟩ ?_
       clear f288 f286
       clear r271
       clear r272
       clear bx273
       clear ow266
       clear e270
       intro m_ act289 w290 ⟨k, sti, hm292, f293, e291, r294, r295, bx296, ow297, i298, hsti, i299⟩
       have szw290 := e291.size
       have := bx296.lt
       refine wp_seq ?_
       refine wp_seq ?_
       refine At.start ?_
       rcases Bool.eq_false_or_eq_true (decide ((k : Int) < ((((p).set ((n : Int).tmod ((p.length : Nat) : Int) : Int).toNat (liftR g p ((n : Int).tmod ((p.length : Nat) : Int))) : List Tup).length : Nat) : Int))) with h300 | h300
       ·have q301 := of_decide_eq_true h300
        refine At.rd f293 7 [[], [], [], [], [.as_ (.bool true)], [], []] [(121, .bool (sti)), (120, .bool (sti)), (119, .bool true), (118, .bool (decide ((k : Int) < ((((p).set ((n : Int).tmod ((p.length : Nat) : Int) : Int).toNat (liftR g p ((n : Int).tmod ((p.length : Nat) : Int))) : List Tup).length : Nat) : Int)))), (117, .int .i64 (((((p).set ((n : Int).tmod ((p.length : Nat) : Int) : Int).toNat (liftR g p ((n : Int).tmod ((p.length : Nat) : Int))) : List Tup).length : Nat) : Int))), (116, .slice A_221 (((p).set ((n : Int).tmod ((p.length : Nat) : Int) : Int).toNat (liftR g p ((n : Int).tmod ((p.length : Nat) : Int))) : List Tup).length) c_222), (115, .int .i64 (k))] [((.bool (decide ((k : Int) < ((((p).set ((n : Int).tmod ((p.length : Nat) : Int) : Int).toNat (liftR g p ((n : Int).tmod ((p.length : Nat) : Int))) : List Tup).length : Nat) : Int))) : Value) = .bool true)] (by kernel_rfl) ⟨(congrArg Value.bool h300), trivial⟩ (fun act303 f302 => ?_)
        clear f293
        refine At.done rfl ?_
        refine t_n ?_
        have f304 := f302.sub (r := [(121, .bool (sti)), (120, .bool (sti)), (17, .int .i64 (k)), (16, .bool (sti)), (13, .slice A_221 (((p).set ((n : Int).tmod ((p.length : Nat) : Int) : Int).toNat (liftR g p ((n : Int).tmod ((p.length : Nat) : Int))) : List Tup).length) c_222), (14, .int .i64 (n)), (2, .pointer (some ⟨w.heap.size, 0, none⟩))]) ⟨rfl, rfl, rfl, rfl, rfl, rfl, rfl, trivial⟩
        clear f302
        refine cond_S f304 (t := sti) rfl (fun h305 => ?_) (fun h305 => ?_)
        ·refine wp_skip ?_
         refine t_n ?_
         have f307 := f304.sub (r := [(120, .bool (sti)), (17, .int .i64 (k)), (13, .slice A_221 (((p).set ((n : Int).tmod ((p.length : Nat) : Int) : Int).toNat (liftR g p ((n : Int).tmod ((p.length : Nat) : Int))) : List Tup).length) c_222), (14, .int .i64 (n)), (2, .pointer (some ⟨w.heap.size, 0, none⟩))]) ⟨rfl, rfl, rfl, rfl, rfl, trivial⟩
         clear f304
         refine wp_seq ?_
         refine wp_block ?_
         obtain ⟨ad308, hA309, hb312, hc311, hc310⟩ := ow297.get (k) (by omega) (by omega) (sz := 5) rfl
         obtain ⟨Cs313, hCs314⟩ : ∃ c : List (Addr × Value), c = [(⟨w.heap.size, 0, none⟩, (.slice Ag0 g.ow.length cg0)), (⟨w.heap.size, 1, none⟩, (.slice Ag1 g.pr.length cg1)), (⟨w.heap.size, 2, none⟩, (.slice Ag2 g.mv.length cg2)), ((ad308.add ((k : Int).toNat * 5)), (.bool ((gT ((p).set ((n : Int).tmod ((p.length : Nat) : Int) : Int).toNat (liftR g p ((n : Int).tmod ((p.length : Nat) : Int)))) k).top))), (((ad308.add ((k : Int).toNat * 5)).add 1), (.int .i64 ((gT ((p).set ((n : Int).tmod ((p.length : Nat) : Int) : Int).toNat (liftR g p ((n : Int).tmod ((p.length : Nat) : Int)))) k).c0))), (((ad308.add ((k : Int).toNat * 5)).add 2), (.int .i64 ((gT ((p).set ((n : Int).tmod ((p.length : Nat) : Int) : Int).toNat (liftR g p ((n : Int).tmod ((p.length : Nat) : Int)))) k).c1))), (((ad308.add ((k : Int).toNat * 5)).add 3), (.int .i64 ((gT ((p).set ((n : Int).tmod ((p.length : Nat) : Int) : Int).toNat (liftR g p ((n : Int).tmod ((p.length : Nat) : Int)))) k).c2))), (((ad308.add ((k : Int).toNat * 5)).add 4), (.int .i64 ((gT ((p).set ((n : Int).tmod ((p.length : Nat) : Int) : Int).toNat (liftR g p ((n : Int).tmod ((p.length : Nat) : Int)))) k).c3)))] := ⟨_, rfl⟩
         have hS315 : HoldsC Cs313 w290 := by rw [hCs314]; exact ⟨(bx296.cell (i := 0) rfl), (bx296.cell (i := 1) rfl), (bx296.cell (i := 2) rfl), hc311, (hc310 1 _ rfl), (hc310 2 _ rfl), (hc310 3 _ rfl), (hc310 4 _ rfl), trivial⟩
         refine AtH.start Cs313 10 #[false, false, false, false, false, false, false, false, false, false] (by kernel_rfl) rfl rfl (fun w317 hw318 => ?_)
         have g316 := gr_drew hw318
         have hS319 := hS315.gr g316
         have szw317 := g316.size
         have e320 := e291.gr g316 no_row
         clear e291
         have r321 := r294.gr g316 (fun _ h => by cases h)
         clear r294
         have r322 := r295.gr g316 (fun _ h => by cases h)
         clear r295
         have bx323 := bx296.gr g316 (by simp)
         clear bx296
         have ow324 := ow297.gr g316 (fun _ _ h => by cases h)
         clear ow297
         clear g316 hw318 hS315
         refine AtH.rd (by kernel_rfl) (fun d v c a w h => by cases d <;> exact h) hS319 [0, 1, 2, 4, 5, 6, 7] [[.ld (.slice Ag0 g.ow.length cg0), .ld (.slice Ag1 g.pr.length cg1), .ld (.slice Ag2 g.mv.length cg2)], [], [], [], [], [.ad ad308], [.ld (.bool ((gT ((p).set ((n : Int).tmod ((p.length : Nat) : Int) : Int).toNat (liftR g p ((n : Int).tmod ((p.length : Nat) : Int)))) k).top)), .ld (.int .i64 ((gT ((p).set ((n : Int).tmod ((p.length : Nat) : Int) : Int).toNat (liftR g p ((n : Int).tmod ((p.length : Nat) : Int)))) k).c0)), .ld (.int .i64 ((gT ((p).set ((n : Int).tmod ((p.length : Nat) : Int) : Int).toNat (liftR g p ((n : Int).tmod ((p.length : Nat) : Int)))) k).c1)), .ld (.int .i64 ((gT ((p).set ((n : Int).tmod ((p.length : Nat) : Int) : Int).toNat (liftR g p ((n : Int).tmod ((p.length : Nat) : Int)))) k).c2)), .ld (.int .i64 ((gT ((p).set ((n : Int).tmod ((p.length : Nat) : Int) : Int).toNat (liftR g p ((n : Int).tmod ((p.length : Nat) : Int)))) k).c3))]] [(131, tupV (gT ((p).set ((n : Int).tmod ((p.length : Nat) : Int) : Int).toNat (liftR g p ((n : Int).tmod ((p.length : Nat) : Int)))) k)), (130, .pointer (some (ad308.add ((k : Int).toNat * 5)))), (129, .int .i64 (k)), (128, .slice A_221 (((p).set ((n : Int).tmod ((p.length : Nat) : Int) : Int).toNat (liftR g p ((n : Int).tmod ((p.length : Nat) : Int))) : List Tup).length) c_222), (126, .int .i64 (k)), (125, .slice A_221 (((p).set ((n : Int).tmod ((p.length : Nat) : Int) : Int).toNat (liftR g p ((n : Int).tmod ((p.length : Nat) : Int))) : List Tup).length) c_222), (124, .agg #[.slice Ag0 g.ow.length cg0, .slice Ag1 g.pr.length cg1, .slice Ag2 g.mv.length cg2])] #[true, true, true, false, true, true, true, true, false, false] [(∃ j_ : Nat, Cs313[j_]? = some (⟨w.heap.size, 0, none⟩, (.slice Ag0 g.ow.length cg0))), (∃ j_ : Nat, Cs313[j_]? = some (⟨w.heap.size, 1, none⟩, (.slice Ag1 g.pr.length cg1))), (∃ j_ : Nat, Cs313[j_]? = some (⟨w.heap.size, 2, none⟩, (.slice Ag2 g.mv.length cg2))), (A_221 = some ad308), (0 ≤ (k : Int)), ((k : Int) < (((p).set ((n : Int).tmod ((p.length : Nat) : Int) : Int).toNat (liftR g p ((n : Int).tmod ((p.length : Nat) : Int))) : List Tup).length : Nat)), (∃ j_ : Nat, Cs313[j_]? = some ((ad308.add ((k : Int).toNat * 5)), (.bool ((gT ((p).set ((n : Int).tmod ((p.length : Nat) : Int) : Int).toNat (liftR g p ((n : Int).tmod ((p.length : Nat) : Int)))) k).top)))), (∃ j_ : Nat, Cs313[j_]? = some (((ad308.add ((k : Int).toNat * 5)).add 1), (.int .i64 ((gT ((p).set ((n : Int).tmod ((p.length : Nat) : Int) : Int).toNat (liftR g p ((n : Int).tmod ((p.length : Nat) : Int)))) k).c0)))), (∃ j_ : Nat, Cs313[j_]? = some (((ad308.add ((k : Int).toNat * 5)).add 2), (.int .i64 ((gT ((p).set ((n : Int).tmod ((p.length : Nat) : Int) : Int).toNat (liftR g p ((n : Int).tmod ((p.length : Nat) : Int)))) k).c1)))), (∃ j_ : Nat, Cs313[j_]? = some (((ad308.add ((k : Int).toNat * 5)).add 3), (.int .i64 ((gT ((p).set ((n : Int).tmod ((p.length : Nat) : Int) : Int).toNat (liftR g p ((n : Int).tmod ((p.length : Nat) : Int)))) k).c2)))), (∃ j_ : Nat, Cs313[j_]? = some (((ad308.add ((k : Int).toNat * 5)).add 4), (.int .i64 ((gT ((p).set ((n : Int).tmod ((p.length : Nat) : Int) : Int).toNat (liftR g p ((n : Int).tmod ((p.length : Nat) : Int)))) k).c3))))] 3 f307 (by kernel_rfl) ⟨⟨0, by rw [hCs314]; rfl⟩, ⟨1, by rw [hCs314]; rfl⟩, ⟨2, by rw [hCs314]; rfl⟩, hA309, (by omega), (by omega), ⟨3, by rw [hCs314]; rfl⟩, ⟨4, by rw [hCs314]; rfl⟩, ⟨5, by rw [hCs314]; rfl⟩, ⟨6, by rw [hCs314]; rfl⟩, ⟨7, by rw [hCs314]; rfl⟩, trivial⟩ (fun act326 f325 => ?_)
         clear f307
         refine AtH.all [3] 2 (by kernel_rfl) (by simp) ⟨?_, trivial⟩
         refine OneH.call f325 37 #[.agg #[.slice Ag0 g.ow.length cg0, .slice Ag1 g.pr.length cg1, .slice Ag2 g.mv.length cg2], .slice A_221 (((p).set ((n : Int).tmod ((p.length : Nat) : Int) : Int).toNat (liftR g p ((n : Int).tmod ((p.length : Nat) : Int))) : List Tup).length) c_222, .int .i64 (k)] (some 127) #[true, true, true, true, true, true, true, true, false, false] (by kernel_rfl) (by kernel_rfl) (lift_any (g := g) (ls := (p).set ((n : Int).tmod ((p.length : Nat) : Int) : Int).toNat (liftR g p ((n : Int).tmod ((p.length : Nat) : Int)))) (at_ := k) (r321.wide (Nat.zero_le _) (by omega)) ((ow324.rdR (by simp only [Enc.bytes]; omega)).wide (Nat.zero_le _) (by omega)) (by first | exact raw_ok hrp2 | exact raw_ok hrp)) ?_
         rintro e_ w328 ⟨rfl, he⟩
         refine ⟨_, rfl, _, rfl, fun act329 f330 => ?_⟩
         clear f325
         have g331 := gr_ext he
         have hS327 := hS319.gr g331
         have szw328 := g331.size
         have e332 := e320.gr g331 no_row
         clear e320
         have r333 := r321.gr g331 (fun _ h => by cases h)
         clear r321
         have r334 := r322.gr g331 (fun _ h => by cases h)
         clear r322
         have bx335 := bx323.gr g331 (by simp)
         clear bx323
         have ow336 := ow324.gr g331 (fun _ _ h => by cases h)
         clear ow324
         clear g331 he
         refine ⟨hS327, ?_⟩
         refine AtH.rd (by kernel_rfl) (fun d v c a w h => by cases d <;> exact h) hS327 [8] [[.as_ (.bool (decide ((liftR g ((p).set ((n : Int).tmod ((p.length : Nat) : Int) : Int).toNat (liftR g p ((n : Int).tmod ((p.length : Nat) : Int)))) k) = (gT ((p).set ((n : Int).tmod ((p.length : Nat) : Int) : Int).toNat (liftR g p ((n : Int).tmod ((p.length : Nat) : Int)))) k))))]] [(132, .bool (decide ((liftR g ((p).set ((n : Int).tmod ((p.length : Nat) : Int) : Int).toNat (liftR g p ((n : Int).tmod ((p.length : Nat) : Int)))) k) = (gT ((p).set ((n : Int).tmod ((p.length : Nat) : Int) : Int).toNat (liftR g p ((n : Int).tmod ((p.length : Nat) : Int)))) k))))] #[true, true, true, true, true, true, true, true, true, false] [((.bool (((((liftR g ((p).set ((n : Int).tmod ((p.length : Nat) : Int) : Int).toNat (liftR g p ((n : Int).tmod ((p.length : Nat) : Int)))) k).top) == ((gT ((p).set ((n : Int).tmod ((p.length : Nat) : Int) : Int).toNat (liftR g p ((n : Int).tmod ((p.length : Nat) : Int)))) k).top)) && (((((liftR g ((p).set ((n : Int).tmod ((p.length : Nat) : Int) : Int).toNat (liftR g p ((n : Int).tmod ((p.length : Nat) : Int)))) k).c0 : Int) == ((gT ((p).set ((n : Int).tmod ((p.length : Nat) : Int) : Int).toNat (liftR g p ((n : Int).tmod ((p.length : Nat) : Int)))) k).c0)) && ((((liftR g ((p).set ((n : Int).tmod ((p.length : Nat) : Int) : Int).toNat (liftR g p ((n : Int).tmod ((p.length : Nat) : Int)))) k).c1 : Int) == ((gT ((p).set ((n : Int).tmod ((p.length : Nat) : Int) : Int).toNat (liftR g p ((n : Int).tmod ((p.length : Nat) : Int)))) k).c1)) && ((((liftR g ((p).set ((n : Int).tmod ((p.length : Nat) : Int) : Int).toNat (liftR g p ((n : Int).tmod ((p.length : Nat) : Int)))) k).c2 : Int) == ((gT ((p).set ((n : Int).tmod ((p.length : Nat) : Int) : Int).toNat (liftR g p ((n : Int).tmod ((p.length : Nat) : Int)))) k).c2)) && ((((liftR g ((p).set ((n : Int).tmod ((p.length : Nat) : Int) : Int).toNat (liftR g p ((n : Int).tmod ((p.length : Nat) : Int)))) k).c3 : Int) == ((gT ((p).set ((n : Int).tmod ((p.length : Nat) : Int) : Int).toNat (liftR g p ((n : Int).tmod ((p.length : Nat) : Int)))) k).c3)) && true)))) && true))) : Value) = .bool (decide ((liftR g ((p).set ((n : Int).tmod ((p.length : Nat) : Int) : Int).toNat (liftR g p ((n : Int).tmod ((p.length : Nat) : Int)))) k) = (gT ((p).set ((n : Int).tmod ((p.length : Nat) : Int) : Int).toNat (liftR g p ((n : Int).tmod ((p.length : Nat) : Int)))) k))))] 1 f330 (by kernel_rfl) ⟨(congrArg (fun b => Value.bool b) (tup_beq (liftR g ((p).set ((n : Int).tmod ((p.length : Nat) : Int) : Int).toNat (liftR g p ((n : Int).tmod ((p.length : Nat) : Int)))) k) (gT ((p).set ((n : Int).tmod ((p.length : Nat) : Int) : Int).toNat (liftR g p ((n : Int).tmod ((p.length : Nat) : Int)))) k))), trivial⟩ (fun act338 f337 => ?_)
         clear f330
         refine AtH.rd (by kernel_rfl) (fun d v c a w h => by cases d <;> exact h) hS327 [9] [[]] [(16, .bool (decide ((liftR g ((p).set ((n : Int).tmod ((p.length : Nat) : Int) : Int).toNat (liftR g p ((n : Int).tmod ((p.length : Nat) : Int)))) k) = (gT ((p).set ((n : Int).tmod ((p.length : Nat) : Int) : Int).toNat (liftR g p ((n : Int).tmod ((p.length : Nat) : Int)))) k))))] #[true, true, true, true, true, true, true, true, true, true] [] 0 f337 (by kernel_rfl) trivial (fun act340 f339 => ?_)
         clear f337
         refine AtH.done (by kernel_rfl) ?_
         clear hS327
         refine b_n ?_
         refine t_n ?_
         have f341 := f339.sub (r := [(16, .bool (decide ((liftR g ((p).set ((n : Int).tmod ((p.length : Nat) : Int) : Int).toNat (liftR g p ((n : Int).tmod ((p.length : Nat) : Int)))) k) = (gT ((p).set ((n : Int).tmod ((p.length : Nat) : Int) : Int).toNat (liftR g p ((n : Int).tmod ((p.length : Nat) : Int)))) k)))), (120, .bool (sti)), (17, .int .i64 (k)), (13, .slice A_221 (((p).set ((n : Int).tmod ((p.length : Nat) : Int) : Int).toNat (liftR g p ((n : Int).tmod ((p.length : Nat) : Int))) : List Tup).length) c_222), (14, .int .i64 (n)), (2, .pointer (some ⟨w.heap.size, 0, none⟩))]) ⟨rfl, rfl, rfl, rfl, rfl, rfl, trivial⟩
         clear f339
         refine At.start ?_
         refine At.rd f341 3 [[], [.as_ (.int .i64 (k + 1))], []] [(17, .int .i64 (k + 1)), (123, .int .i64 (k + 1)), (122, .int .i64 (k))] [((.int .i64 (IntKind.i64.wrap (k + 1)) : Value) = .int .i64 (k + 1))] (by kernel_rfl) ⟨(w64 (by omega) (by omega)), trivial⟩ (fun act343 f342 => ?_)
         clear f341
         refine At.done rfl ?_
         refine t_n ?_
         have f344 := f342.sub (r := [(17, .int .i64 (k + 1)), (16, .bool (decide ((liftR g ((p).set ((n : Int).tmod ((p.length : Nat) : Int) : Int).toNat (liftR g p ((n : Int).tmod ((p.length : Nat) : Int)))) k) = (gT ((p).set ((n : Int).tmod ((p.length : Nat) : Int) : Int).toNat (liftR g p ((n : Int).tmod ((p.length : Nat) : Int)))) k)))), (13, .slice A_221 (((p).set ((n : Int).tmod ((p.length : Nat) : Int) : Int).toNat (liftR g p ((n : Int).tmod ((p.length : Nat) : Int))) : List Tup).length) c_222), (14, .int .i64 (n)), (2, .pointer (some ⟨w.heap.size, 0, none⟩))]) ⟨rfl, rfl, rfl, rfl, rfl, trivial⟩
         exact ⟨_, (by omega), (k + 1), decide ((liftR g ((p).set ((n : Int).tmod ((p.length : Nat) : Int) : Int).toNat (liftR g p ((n : Int).tmod ((p.length : Nat) : Int)))) k) = (gT ((p).set ((n : Int).tmod ((p.length : Nat) : Int) : Int).toNat (liftR g p ((n : Int).tmod ((p.length : Nat) : Int)))) k)), rfl, f344, e332, r333, r334, bx335, ow336, (by omega), (fun hh => still_next hsti (by assumption) hh), (by omega)⟩
        ·refine wp_exit ?_
         refine t_e ?_
         refine t_e ?_
         refine b_e ?_
         refine t_n ?_
         have f346 := f304.sub (r := [(120, .bool (sti)), (16, .bool (sti)), (13, .slice A_221 (((p).set ((n : Int).tmod ((p.length : Nat) : Int) : Int).toNat (liftR g p ((n : Int).tmod ((p.length : Nat) : Int))) : List Tup).length) c_222), (14, .int .i64 (n)), (2, .pointer (some ⟨w.heap.size, 0, none⟩))]) ⟨rfl, rfl, rfl, rfl, rfl, trivial⟩
         clear f304
         refine wp_seq ?_
         refine At.start ?_
         refine At.rd f346 1 [[]] [(133, .bool (sti))] [] (by kernel_rfl) trivial (fun act348 f347 => ?_)
         clear f346
         refine At.done rfl ?_
         refine t_n ?_
         have f349 := f347.sub (r := [(133, .bool (sti)), (120, .bool (sti)), (13, .slice A_221 (((p).set ((n : Int).tmod ((p.length : Nat) : Int) : Int).toNat (liftR g p ((n : Int).tmod ((p.length : Nat) : Int))) : List Tup).length) c_222), (14, .int .i64 (n)), (2, .pointer (some ⟨w.heap.size, 0, none⟩))]) ⟨rfl, rfl, rfl, rfl, rfl, trivial⟩
         clear f347
         refine cond_S f349 (t := sti) rfl (fun hh => ?_) (fun hh => ?_)
         · exact absurd (hh.symm.trans h305) (by decide)
         refine wp_skip ?_
         refine b_n ?_
         refine t_n ?_
         have f350 := f349.sub (r := [(120, .bool (sti)), (13, .slice A_221 (((p).set ((n : Int).tmod ((p.length : Nat) : Int) : Int).toNat (liftR g p ((n : Int).tmod ((p.length : Nat) : Int))) : List Tup).length) c_222), (14, .int .i64 (n)), (2, .pointer (some ⟨w.heap.size, 0, none⟩))]) ⟨rfl, rfl, rfl, rfl, trivial⟩
         clear f349
         refine At.start ?_
         refine At.rd f350 3 [[], [.as_ (.int .i64 (n + 1))], []] [(14, .int .i64 (n + 1)), (98, .int .i64 (n + 1)), (97, .int .i64 (n))] [((.int .i64 (IntKind.i64.wrap (n + 1)) : Value) = .int .i64 (n + 1))] (by kernel_rfl) ⟨(w64 (by omega) (by omega)), trivial⟩ (fun act352 f351 => ?_)
         clear f350
         refine At.done rfl ?_
         refine t_n ?_
         have f353 := f351.sub (r := [(14, .int .i64 (n + 1)), (13, .slice A_221 (((p).set ((n : Int).tmod ((p.length : Nat) : Int) : Int).toNat (liftR g p ((n : Int).tmod ((p.length : Nat) : Int))) : List Tup).length) c_222), (2, .pointer (some ⟨w.heap.size, 0, none⟩))]) ⟨rfl, rfl, rfl, trivial⟩
         exact ⟨_, (by omega), (n + 1), ((p).set ((n : Int).tmod ((p.length : Nat) : Int) : Int).toNat (liftR g p ((n : Int).tmod ((p.length : Nat) : Int))) : List Tup), A_221, c_222, rfl, f353, e291, r294, r295, bx296, ow297, (by omega), (by omega), hrp2, (by omega)⟩
       ·have q354 := of_decide_eq_false h300
        refine At.rd f293 7 [[], [], [], [], [.as_ (.bool false)], [], []] [(121, .bool false), (120, undef), (119, .bool false), (118, .bool (decide ((k : Int) < ((((p).set ((n : Int).tmod ((p.length : Nat) : Int) : Int).toNat (liftR g p ((n : Int).tmod ((p.length : Nat) : Int))) : List Tup).length : Nat) : Int)))), (117, .int .i64 (((((p).set ((n : Int).tmod ((p.length : Nat) : Int) : Int).toNat (liftR g p ((n : Int).tmod ((p.length : Nat) : Int))) : List Tup).length : Nat) : Int))), (116, .slice A_221 (((p).set ((n : Int).tmod ((p.length : Nat) : Int) : Int).toNat (liftR g p ((n : Int).tmod ((p.length : Nat) : Int))) : List Tup).length) c_222), (115, .int .i64 (k))] [((.bool (decide ((k : Int) < ((((p).set ((n : Int).tmod ((p.length : Nat) : Int) : Int).toNat (liftR g p ((n : Int).tmod ((p.length : Nat) : Int))) : List Tup).length : Nat) : Int))) : Value) = .bool false)] (by kernel_rfl) ⟨(congrArg Value.bool h300), trivial⟩ (fun act356 f355 => ?_)
        clear f293
        refine At.done rfl ?_
        refine t_n ?_
        have f357 := f355.sub (r := [(121, .bool false), (17, .int .i64 (k)), (16, .bool (sti)), (13, .slice A_221 (((p).set ((n : Int).tmod ((p.length : Nat) : Int) : Int).toNat (liftR g p ((n : Int).tmod ((p.length : Nat) : Int))) : List Tup).length) c_222), (14, .int .i64 (n)), (2, .pointer (some ⟨w.heap.size, 0, none⟩))]) ⟨rfl, rfl, rfl, rfl, rfl, rfl, trivial⟩
        clear f355
        refine cond_F f357 rfl ?_
        refine wp_exit ?_
        refine t_e ?_
        refine t_e ?_
        refine b_e ?_
        refine t_n ?_
        have f358 := f357.sub (r := [(16, .bool (sti)), (13, .slice A_221 (((p).set ((n : Int).tmod ((p.length : Nat) : Int) : Int).toNat (liftR g p ((n : Int).tmod ((p.length : Nat) : Int))) : List Tup).length) c_222), (14, .int .i64 (n)), (2, .pointer (some ⟨w.heap.size, 0, none⟩))]) ⟨rfl, rfl, rfl, rfl, trivial⟩
        clear f357
        refine wp_seq ?_
        refine At.start ?_
        refine At.rd f358 1 [[]] [(133, .bool (sti))] [] (by kernel_rfl) trivial (fun act360 f359 => ?_)
        clear f358
        refine At.done rfl ?_
        refine t_n ?_
        have f361 := f359.sub (r := [(133, .bool (sti)), (13, .slice A_221 (((p).set ((n : Int).tmod ((p.length : Nat) : Int) : Int).toNat (liftR g p ((n : Int).tmod ((p.length : Nat) : Int))) : List Tup).length) c_222), (14, .int .i64 (n)), (2, .pointer (some ⟨w.heap.size, 0, none⟩))]) ⟨rfl, rfl, rfl, rfl, trivial⟩
        clear f359
        refine cond_S f361 (t := sti) rfl (fun h362 => ?_) (fun h362 => ?_)
        ·refine wp_seq ?_
         refine At.start ?_
         refine At.rd f361 1 [[.ld (.slice Ag0 g.ow.length cg0), .ld (.slice Ag1 g.pr.length cg1), .ld (.slice Ag2 g.mv.length cg2)]] [(134, .agg #[.slice Ag0 g.ow.length cg0, .slice Ag1 g.pr.length cg1, .slice Ag2 g.mv.length cg2])] [(w290.cell? ⟨w.heap.size, 0, none⟩ = some (.slice Ag0 g.ow.length cg0)), (w290.cell? ⟨w.heap.size, 1, none⟩ = some (.slice Ag1 g.pr.length cg1)), (w290.cell? ⟨w.heap.size, 2, none⟩ = some (.slice Ag2 g.mv.length cg2))] (by kernel_rfl) ⟨(bx296.cell (i := 0) rfl), (bx296.cell (i := 1) rfl), (bx296.cell (i := 2) rfl), trivial⟩ (fun act365 f364 => ?_)
         clear f361
         refine At.call f364 28 #[.agg #[.slice Ag0 g.ow.length cg0, .slice Ag1 g.pr.length cg1, .slice Ag2 g.mv.length cg2]] (some 135) (by kernel_rfl) (solveM_any (g := g) (r294.wide (Nat.zero_le _) (by omega)) (by first | omega | decide)) ?_
         rintro e_ w372 ⟨A366, c367, sl, rfl, he, ow369, hsv370⟩
         have hsv_Msl := hsv370
         have := solved_len hsv370
         refine ⟨_, rfl, _, rfl, fun act373 f374 => ?_⟩
         clear f364
         have g375 := gr_ext he
         have lt376 := ow297.lt
         have szw372 := g375.size
         have e377 := e291.gr g375 no_row
         clear e291
         have r378 := r294.gr g375 (fun _ h => by cases h)
         clear r294
         have r379 := r295.gr g375 (fun _ h => by cases h)
         clear r295
         have bx380 := bx296.gr g375 (by simp)
         clear bx296
         have ow381 : OwnR w372 (Sx (w84.heap.size) [obk (A366)]) A_221 c_222 41 ((p).set ((n : Int).tmod ((p.length : Nat) : Int) : Int).toNat (liftR g p ((n : Int).tmod ((p.length : Nat) : Int))) : List Tup) := ow297.grA g375 (fun _ _ h => by cases h) (fun k hk hs => ⟨(fun e => by have := ow369.ge _ e; omega), hs⟩)
         clear ow297
         have ow382 : OwnR w372 (Sx (w290.heap.size) [obk (A_221)]) A366 c367 41 (sl : List Tup) := ow369.imp (fun g _ hs => ⟨(fun e => by have := lt376 _ e; have := Sx_base hs; omega), hs⟩)
         clear ow369
         clear lt376
         clear g375 he
         refine At.rd f374 1 [[]] [(18, .slice A366 sl.length c367)] [] (by kernel_rfl) trivial (fun act384 f383 => ?_)
         clear f374
         refine At.done rfl ?_
         refine t_n ?_
         have f385 := f383.sub (r := [(18, .slice A366 sl.length c367), (13, .slice A_221 (((p).set ((n : Int).tmod ((p.length : Nat) : Int) : Int).toNat (liftR g p ((n : Int).tmod ((p.length : Nat) : Int))) : List Tup).length) c_222)]) ⟨rfl, rfl, trivial⟩
         clear f383
         refine wp_seq ?_
         refine wp_seq ?_
         have hsn := solved_n hR hsv_Msl
         refine At.start ?_
         refine At.rd f385 1 [[]] [(19, .int .i64 (0))] [] (by kernel_rfl) trivial (fun act387 f386 => ?_)
         clear f385
         refine At.done rfl ?_
         refine t_n ?_
         refine wp_block ?_
         have f388 := f386.sub (r := [(19, .int .i64 (0)), (18, .slice A366 sl.length c367), (13, .slice A_221 (((p).set ((n : Int).tmod ((p.length : Nat) : Int) : Int).toNat (liftR g p ((n : Int).tmod ((p.length : Nat) : Int))) : List Tup).length) c_222)]) ⟨rfl, rfl, rfl, trivial⟩
         refine loop_g (fun (m_ : Nat) a_ w_ => ∃ (q : Int), m_ = ((p.length : Int) - q).toNat ∧ (Frm 159 a_ [(19, .int .i64 (q)), (18, .slice A366 sl.length c367), (13, .slice A_221 (((p).set ((n : Int).tmod ((p.length : Nat) : Int) : Int).toNat (liftR g p ((n : Int).tmod ((p.length : Nat) : Int))) : List Tup).length) c_222)]) ∧ (Ext w w_) ∧ (RdG w_ 0 w.heap.size Ag0 Ag1 Ag2 cg0 cg1 cg2 g) ∧ (RdR w_ 0 w.heap.size As (ls : List Tup)) ∧ (Bx w_ (w.heap.size) [.slice Ag0 g.ow.length cg0, .slice Ag1 g.pr.length cg1, .slice Ag2 g.mv.length cg2] 25) ∧ (OwnR w_ (Sx (w84.heap.size) [obk (A366)]) A_221 c_222 41 ((p).set ((n : Int).tmod ((p.length : Nat) : Int) : Int).toNat (liftR g p ((n : Int).tmod ((p.length : Nat) : Int))) : List Tup)) ∧ (OwnR w_ (Sx (w290.heap.size) [obk (A_221)]) A366 c367 41 (sl : List Tup)) ∧ (0 ≤ q) ∧ (w84.heap.size ≤ w_.heap.size) ∧ (w290.heap.size ≤ w_.heap.size)) _ ⟨0, rfl, f388, e377, r378, r379, bx380, ow381, ow382, (by omega), (by omega), (by omega)⟩ ?_
         clear f388 f386
         clear r378
         clear r379
         clear bx380
         clear ow381
         clear ow382
         clear e377
         intro m_ act389 w390 ⟨q, hm392, f393, e391, r394, r395, bx396, ow397, ow398, i399, i400, i401⟩
         have szw390 := e391.size
         have := bx396.lt
         refine wp_seq ?_
         refine wp_seq ?_
         refine At.start ?_
         refine At.rd f393 4 [[], [], [], []] [(139, .bool (decide ((q : Int) < ((((p).set ((n : Int).tmod ((p.length : Nat) : Int) : Int).toNat (liftR g p ((n : Int).tmod ((p.length : Nat) : Int))) : List Tup).length : Nat) : Int)))), (138, .int .i64 (((((p).set ((n : Int).tmod ((p.length : Nat) : Int) : Int).toNat (liftR g p ((n : Int).tmod ((p.length : Nat) : Int))) : List Tup).length : Nat) : Int))), (137, .slice A_221 (((p).set ((n : Int).tmod ((p.length : Nat) : Int) : Int).toNat (liftR g p ((n : Int).tmod ((p.length : Nat) : Int))) : List Tup).length) c_222), (136, .int .i64 (q))] [] (by kernel_rfl) trivial (fun act403 f402 => ?_)
         clear f393
         refine At.done rfl ?_
         refine t_n ?_
         have f404 := f402.sub (r := [(139, .bool (decide ((q : Int) < ((((p).set ((n : Int).tmod ((p.length : Nat) : Int) : Int).toNat (liftR g p ((n : Int).tmod ((p.length : Nat) : Int))) : List Tup).length : Nat) : Int)))), (19, .int .i64 (q)), (18, .slice A366 sl.length c367), (13, .slice A_221 (((p).set ((n : Int).tmod ((p.length : Nat) : Int) : Int).toNat (liftR g p ((n : Int).tmod ((p.length : Nat) : Int))) : List Tup).length) c_222)]) ⟨rfl, rfl, rfl, rfl, trivial⟩
         clear f402
         refine cond_S f404 (t := decide ((q : Int) < ((((p).set ((n : Int).tmod ((p.length : Nat) : Int) : Int).toNat (liftR g p ((n : Int).tmod ((p.length : Nat) : Int))) : List Tup).length : Nat) : Int))) rfl (fun h405 => ?_) (fun h405 => ?_)
         ·have q406 := of_decide_eq_true h405
          refine wp_skip ?_
          refine t_n ?_
          have f407 := f404.sub (r := [(19, .int .i64 (q)), (18, .slice A366 sl.length c367), (13, .slice A_221 (((p).set ((n : Int).tmod ((p.length : Nat) : Int) : Int).toNat (liftR g p ((n : Int).tmod ((p.length : Nat) : Int))) : List Tup).length) c_222)]) ⟨rfl, rfl, rfl, trivial⟩
          clear f404
          refine wp_seq ?_
          refine wp_block ?_
          have hge := still_least hR hrp2 (k := k) (by omega) (hsti (by assumption)) hsv_Msl (i := q) (by omega) (by omega)
          refine wp_seq ?_
          rcases Bool.eq_false_or_eq_true ((((sl.length : Nat) : Int) : Int) != ((((p).set ((n : Int).tmod ((p.length : Nat) : Int) : Int).toNat (liftR g p ((n : Int).tmod ((p.length : Nat) : Int))) : List Tup).length : Nat) : Int)) with h408 | h408
          ·have q409 := bne_iff_ne.1 h408
           obtain ⟨Cs410, hCs411⟩ : ∃ c : List (Addr × Value), c = [] := ⟨_, rfl⟩
           have hS412 : HoldsC Cs410 w390 := by rw [hCs411]; exact trivial
           refine AtH.start Cs410 17 #[false, false, false, false, false, false, false, false, false, false, false, false, false, false, false, false, false] (by kernel_rfl) rfl rfl (fun w414 hw415 => ?_)
           have g413 := gr_drew hw415
           have hS416 := hS412.gr g413
           have szw414 := g413.size
           have e417 := e391.gr g413 no_row
           clear e391
           have r418 := r394.gr g413 (fun _ h => by cases h)
           clear r394
           have r419 := r395.gr g413 (fun _ h => by cases h)
           clear r395
           have bx420 := bx396.gr g413 (by simp)
           clear bx396
           have ow421 := ow397.gr g413 (fun _ _ h => by cases h)
           clear ow397
           have ow422 := ow398.gr g413 (fun _ _ h => by cases h)
           clear ow398
           clear g413 hw415 hS412
           refine AtH.rd (by kernel_rfl) (fun d v c a w h => by cases d <;> exact h) hS416 [0, 1, 2, 3, 4, 5, 6, 7, 8, 9, 10, 11, 12, 13] [[], [], [], [], [], [.as_ (.bool true)], [], [], [], [], [], [], [], []] [(155, undef), (154, undef), (153, undef), (152, undef), (151, undef), (150, undef), (149, undef), (148, undef), (147, .bool true), (146, .bool ((((sl.length : Nat) : Int) : Int) != ((((p).set ((n : Int).tmod ((p.length : Nat) : Int) : Int).toNat (liftR g p ((n : Int).tmod ((p.length : Nat) : Int))) : List Tup).length : Nat) : Int))), (145, .int .i64 (((((p).set ((n : Int).tmod ((p.length : Nat) : Int) : Int).toNat (liftR g p ((n : Int).tmod ((p.length : Nat) : Int))) : List Tup).length : Nat) : Int))), (144, .slice A_221 (((p).set ((n : Int).tmod ((p.length : Nat) : Int) : Int).toNat (liftR g p ((n : Int).tmod ((p.length : Nat) : Int))) : List Tup).length) c_222), (143, .int .i64 (((sl.length : Nat) : Int))), (142, .slice A366 sl.length c367)] #[true, true, true, true, true, true, true, true, true, true, true, true, true, true, false, false, false] [((.bool ((((sl.length : Nat) : Int) : Int) != ((((p).set ((n : Int).tmod ((p.length : Nat) : Int) : Int).toNat (liftR g p ((n : Int).tmod ((p.length : Nat) : Int))) : List Tup).length : Nat) : Int)) : Value) = .bool true)] 3 f407 (by kernel_rfl) ⟨(congrArg Value.bool h408), trivial⟩ (fun act424 f423 => ?_)
           clear f407
           refine AtH.rd (by kernel_rfl) (fun d v c a w h => by cases d <;> exact h) hS416 [14] [[]] [(156, undef)] #[true, true, true, true, true, true, true, true, true, true, true, true, true, true, true, false, false] [] 2 f423 (by kernel_rfl) trivial (fun act426 f425 => ?_)
           clear f423
           refine AtH.rd (by kernel_rfl) (fun d v c a w h => by cases d <;> exact h) hS416 [15] [[]] [(157, undef)] #[true, true, true, true, true, true, true, true, true, true, true, true, true, true, true, true, false] [] 1 f425 (by kernel_rfl) trivial (fun act428 f427 => ?_)
           clear f425
           refine AtH.rd (by kernel_rfl) (fun d v c a w h => by cases d <;> exact h) hS416 [16] [[]] [(158, .bool true)] #[true, true, true, true, true, true, true, true, true, true, true, true, true, true, true, true, true] [] 0 f427 (by kernel_rfl) trivial (fun act430 f429 => ?_)
           clear f427
           refine AtH.done (by kernel_rfl) ?_
           clear hS416
           refine t_n ?_
           have f431 := f429.sub (r := [(158, .bool true), (19, .int .i64 (q)), (18, .slice A366 sl.length c367), (13, .slice A_221 (((p).set ((n : Int).tmod ((p.length : Nat) : Int) : Int).toNat (liftR g p ((n : Int).tmod ((p.length : Nat) : Int))) : List Tup).length) c_222)]) ⟨rfl, rfl, rfl, rfl, trivial⟩
           clear f429
           refine cond_T f431 rfl ?_
           refine wp_seq ?_
           refine At.start ?_
           refine At.rd f431 1 [[]] [(4, .bool false)] [] (by kernel_rfl) trivial (fun act433 f432 => ?_)
           clear f431
           refine At.done rfl ?_
           refine t_n ?_
           have f434 := f432.sub (r := [(4, .bool false)]) ⟨rfl, trivial⟩
           clear f432
           refine wp_ret ?_
           refine b_r ?_
           refine t_r ?_
           refine t_r ?_
           refine b_r ?_
           refine t_r ?_
           refine b_r ?_
           refine t_r ?_
           refine t_r ?_
           refine b_r ?_
           refine t_r ?_
           refine ret_ f434 [] [.bool false] [] (by kernel_rfl) trivial ?_
           exfalso; omega
          ·have q435 := bne_eq_false_iff_eq.1 h408
           obtain ⟨ad436, hA437, hb440, hc439, hc438⟩ := ow397.get (q) (by omega) (by omega) (sz := 5) rfl
           obtain ⟨ad441, hA442, hb445, hc444, hc443⟩ := ow398.get (q) (by omega) (by omega) (sz := 5) rfl
           obtain ⟨Cs446, hCs447⟩ : ∃ c : List (Addr × Value), c = [((ad436.add ((q : Int).toNat * 5)), (.bool ((gT ((p).set ((n : Int).tmod ((p.length : Nat) : Int) : Int).toNat (liftR g p ((n : Int).tmod ((p.length : Nat) : Int)))) q).top))), (((ad436.add ((q : Int).toNat * 5)).add 1), (.int .i64 ((gT ((p).set ((n : Int).tmod ((p.length : Nat) : Int) : Int).toNat (liftR g p ((n : Int).tmod ((p.length : Nat) : Int)))) q).c0))), (((ad436.add ((q : Int).toNat * 5)).add 2), (.int .i64 ((gT ((p).set ((n : Int).tmod ((p.length : Nat) : Int) : Int).toNat (liftR g p ((n : Int).tmod ((p.length : Nat) : Int)))) q).c1))), (((ad436.add ((q : Int).toNat * 5)).add 3), (.int .i64 ((gT ((p).set ((n : Int).tmod ((p.length : Nat) : Int) : Int).toNat (liftR g p ((n : Int).tmod ((p.length : Nat) : Int)))) q).c2))), (((ad436.add ((q : Int).toNat * 5)).add 4), (.int .i64 ((gT ((p).set ((n : Int).tmod ((p.length : Nat) : Int) : Int).toNat (liftR g p ((n : Int).tmod ((p.length : Nat) : Int)))) q).c3))), ((ad441.add ((q : Int).toNat * 5)), (.bool ((gT sl q).top))), (((ad441.add ((q : Int).toNat * 5)).add 1), (.int .i64 ((gT sl q).c0))), (((ad441.add ((q : Int).toNat * 5)).add 2), (.int .i64 ((gT sl q).c1))), (((ad441.add ((q : Int).toNat * 5)).add 3), (.int .i64 ((gT sl q).c2))), (((ad441.add ((q : Int).toNat * 5)).add 4), (.int .i64 ((gT sl q).c3)))] := ⟨_, rfl⟩
           have hS448 : HoldsC Cs446 w390 := by rw [hCs447]; exact ⟨hc439, (hc438 1 _ rfl), (hc438 2 _ rfl), (hc438 3 _ rfl), (hc438 4 _ rfl), hc444, (hc443 1 _ rfl), (hc443 2 _ rfl), (hc443 3 _ rfl), (hc443 4 _ rfl), trivial⟩
           refine AtH.start Cs446 17 #[false, false, false, false, false, false, false, false, false, false, false, false, false, false, false, false, false] (by kernel_rfl) rfl rfl (fun w450 hw451 => ?_)
           have g449 := gr_drew hw451
           have hS452 := hS448.gr g449
           have szw450 := g449.size
           have e453 := e391.gr g449 no_row
           clear e391
           have r454 := r394.gr g449 (fun _ h => by cases h)
           clear r394
           have r455 := r395.gr g449 (fun _ h => by cases h)
           clear r395
           have bx456 := bx396.gr g449 (by simp)
           clear bx396
           have ow457 := ow397.gr g449 (fun _ _ h => by cases h)
           clear ow397
           have ow458 := ow398.gr g449 (fun _ _ h => by cases h)
           clear ow398
           clear g449 hw451 hS448
           refine AtH.rd (by kernel_rfl) (fun d v c a w h => by cases d <;> exact h) hS452 [0, 1, 2, 3, 4, 5, 6, 7, 8, 9, 10, 11, 12, 13] [[], [], [], [], [], [.as_ (.bool false)], [], [], [.ad ad436], [.ld (.bool ((gT ((p).set ((n : Int).tmod ((p.length : Nat) : Int) : Int).toNat (liftR g p ((n : Int).tmod ((p.length : Nat) : Int)))) q).top)), .ld (.int .i64 ((gT ((p).set ((n : Int).tmod ((p.length : Nat) : Int) : Int).toNat (liftR g p ((n : Int).tmod ((p.length : Nat) : Int)))) q).c0)), .ld (.int .i64 ((gT ((p).set ((n : Int).tmod ((p.length : Nat) : Int) : Int).toNat (liftR g p ((n : Int).tmod ((p.length : Nat) : Int)))) q).c1)), .ld (.int .i64 ((gT ((p).set ((n : Int).tmod ((p.length : Nat) : Int) : Int).toNat (liftR g p ((n : Int).tmod ((p.length : Nat) : Int)))) q).c2)), .ld (.int .i64 ((gT ((p).set ((n : Int).tmod ((p.length : Nat) : Int) : Int).toNat (liftR g p ((n : Int).tmod ((p.length : Nat) : Int)))) q).c3))], [], [], [.ad ad441], [.ld (.bool ((gT sl q).top)), .ld (.int .i64 ((gT sl q).c0)), .ld (.int .i64 ((gT sl q).c1)), .ld (.int .i64 ((gT sl q).c2)), .ld (.int .i64 ((gT sl q).c3))]] [(155, tupV (gT sl q)), (154, .pointer (some (ad441.add ((q : Int).toNat * 5)))), (153, .int .i64 (q)), (152, .slice A366 sl.length c367), (151, tupV (gT ((p).set ((n : Int).tmod ((p.length : Nat) : Int) : Int).toNat (liftR g p ((n : Int).tmod ((p.length : Nat) : Int)))) q)), (150, .pointer (some (ad436.add ((q : Int).toNat * 5)))), (149, .int .i64 (q)), (148, .slice A_221 (((p).set ((n : Int).tmod ((p.length : Nat) : Int) : Int).toNat (liftR g p ((n : Int).tmod ((p.length : Nat) : Int))) : List Tup).length) c_222), (147, .bool false), (146, .bool ((((sl.length : Nat) : Int) : Int) != ((((p).set ((n : Int).tmod ((p.length : Nat) : Int) : Int).toNat (liftR g p ((n : Int).tmod ((p.length : Nat) : Int))) : List Tup).length : Nat) : Int))), (145, .int .i64 (((((p).set ((n : Int).tmod ((p.length : Nat) : Int) : Int).toNat (liftR g p ((n : Int).tmod ((p.length : Nat) : Int))) : List Tup).length : Nat) : Int))), (144, .slice A_221 (((p).set ((n : Int).tmod ((p.length : Nat) : Int) : Int).toNat (liftR g p ((n : Int).tmod ((p.length : Nat) : Int))) : List Tup).length) c_222), (143, .int .i64 (((sl.length : Nat) : Int))), (142, .slice A366 sl.length c367)] #[true, true, true, true, true, true, true, true, true, true, true, true, true, true, false, false, false] [((.bool ((((sl.length : Nat) : Int) : Int) != ((((p).set ((n : Int).tmod ((p.length : Nat) : Int) : Int).toNat (liftR g p ((n : Int).tmod ((p.length : Nat) : Int))) : List Tup).length : Nat) : Int)) : Value) = .bool false), (A_221 = some ad436), (0 ≤ (q : Int)), ((q : Int) < (((p).set ((n : Int).tmod ((p.length : Nat) : Int) : Int).toNat (liftR g p ((n : Int).tmod ((p.length : Nat) : Int))) : List Tup).length : Nat)), (∃ j_ : Nat, Cs446[j_]? = some ((ad436.add ((q : Int).toNat * 5)), (.bool ((gT ((p).set ((n : Int).tmod ((p.length : Nat) : Int) : Int).toNat (liftR g p ((n : Int).tmod ((p.length : Nat) : Int)))) q).top)))), (∃ j_ : Nat, Cs446[j_]? = some (((ad436.add ((q : Int).toNat * 5)).add 1), (.int .i64 ((gT ((p).set ((n : Int).tmod ((p.length : Nat) : Int) : Int).toNat (liftR g p ((n : Int).tmod ((p.length : Nat) : Int)))) q).c0)))), (∃ j_ : Nat, Cs446[j_]? = some (((ad436.add ((q : Int).toNat * 5)).add 2), (.int .i64 ((gT ((p).set ((n : Int).tmod ((p.length : Nat) : Int) : Int).toNat (liftR g p ((n : Int).tmod ((p.length : Nat) : Int)))) q).c1)))), (∃ j_ : Nat, Cs446[j_]? = some (((ad436.add ((q : Int).toNat * 5)).add 3), (.int .i64 ((gT ((p).set ((n : Int).tmod ((p.length : Nat) : Int) : Int).toNat (liftR g p ((n : Int).tmod ((p.length : Nat) : Int)))) q).c2)))), (∃ j_ : Nat, Cs446[j_]? = some (((ad436.add ((q : Int).toNat * 5)).add 4), (.int .i64 ((gT ((p).set ((n : Int).tmod ((p.length : Nat) : Int) : Int).toNat (liftR g p ((n : Int).tmod ((p.length : Nat) : Int)))) q).c3)))), (A366 = some ad441), (0 ≤ (q : Int)), ((q : Int) < (sl.length : Nat)), (∃ j_ : Nat, Cs446[j_]? = some ((ad441.add ((q : Int).toNat * 5)), (.bool ((gT sl q).top)))), (∃ j_ : Nat, Cs446[j_]? = some (((ad441.add ((q : Int).toNat * 5)).add 1), (.int .i64 ((gT sl q).c0)))), (∃ j_ : Nat, Cs446[j_]? = some (((ad441.add ((q : Int).toNat * 5)).add 2), (.int .i64 ((gT sl q).c1)))), (∃ j_ : Nat, Cs446[j_]? = some (((ad441.add ((q : Int).toNat * 5)).add 3), (.int .i64 ((gT sl q).c2)))), (∃ j_ : Nat, Cs446[j_]? = some (((ad441.add ((q : Int).toNat * 5)).add 4), (.int .i64 ((gT sl q).c3))))] 3 f407 (by kernel_rfl) ⟨(congrArg Value.bool h408), hA437, (by omega), (by omega), ⟨0, by rw [hCs447]; rfl⟩, ⟨1, by rw [hCs447]; rfl⟩, ⟨2, by rw [hCs447]; rfl⟩, ⟨3, by rw [hCs447]; rfl⟩, ⟨4, by rw [hCs447]; rfl⟩, hA442, (by omega), (by omega), ⟨5, by rw [hCs447]; rfl⟩, ⟨6, by rw [hCs447]; rfl⟩, ⟨7, by rw [hCs447]; rfl⟩, ⟨8, by rw [hCs447]; rfl⟩, ⟨9, by rw [hCs447]; rfl⟩, trivial⟩ (fun act460 f459 => ?_)
           clear f407
           refine AtH.all [14] 2 (by kernel_rfl) (by simp) ⟨?_, trivial⟩
           refine OneH.call f459 23 #[tupV (gT ((p).set ((n : Int).tmod ((p.length : Nat) : Int) : Int).toNat (liftR g p ((n : Int).tmod ((p.length : Nat) : Int)))) q), tupV (gT sl q), .int .i64 (0)] (some 156) #[true, true, true, true, true, true, true, true, true, true, true, true, true, true, true, false, false] (by kernel_rfl) (by kernel_rfl) (cmpM_any (a := (gT ((p).set ((n : Int).tmod ((p.length : Nat) : Int) : Int).toNat (liftR g p ((n : Int).tmod ((p.length : Nat) : Int)))) q)) (b := (gT sl q)) (p := 0)) ?_
           rintro e_ w462 ⟨rfl, he⟩
           have := cmp_rng (gT ((p).set ((n : Int).tmod ((p.length : Nat) : Int) : Int).toNat (liftR g p ((n : Int).tmod ((p.length : Nat) : Int)))) q) (gT sl q) 0
           refine ⟨_, rfl, _, rfl, fun act463 f464 => ?_⟩
           clear f459
           have g465 := gr_ext he
           have hS461 := hS452.gr g465
           have szw462 := g465.size
           have e466 := e453.gr g465 no_row
           clear e453
           have r467 := r454.gr g465 (fun _ h => by cases h)
           clear r454
           have r468 := r455.gr g465 (fun _ h => by cases h)
           clear r455
           have bx469 := bx456.gr g465 (by simp)
           clear bx456
           have ow470 := ow457.gr g465 (fun _ _ h => by cases h)
           clear ow457
           have ow471 := ow458.gr g465 (fun _ _ h => by cases h)
           clear ow458
           clear g465 he
           refine ⟨hS461, ?_⟩
           refine AtH.rd (by kernel_rfl) (fun d v c a w h => by cases d <;> exact h) hS461 [15] [[]] [(157, .bool (decide ((cmpT (gT ((p).set ((n : Int).tmod ((p.length : Nat) : Int) : Int).toNat (liftR g p ((n : Int).tmod ((p.length : Nat) : Int)))) q) (gT sl q) 0 : Int) < 0)))] #[true, true, true, true, true, true, true, true, true, true, true, true, true, true, true, true, false] [] 1 f464 (by kernel_rfl) trivial (fun act473 f472 => ?_)
           clear f464
           refine AtH.rd (by kernel_rfl) (fun d v c a w h => by cases d <;> exact h) hS461 [16] [[]] [(158, .bool (decide ((cmpT (gT ((p).set ((n : Int).tmod ((p.length : Nat) : Int) : Int).toNat (liftR g p ((n : Int).tmod ((p.length : Nat) : Int)))) q) (gT sl q) 0 : Int) < 0)))] #[true, true, true, true, true, true, true, true, true, true, true, true, true, true, true, true, true] [] 0 f472 (by kernel_rfl) trivial (fun act475 f474 => ?_)
           clear f472
           refine AtH.done (by kernel_rfl) ?_
           clear hS461
           refine t_n ?_
           have f476 := f474.sub (r := [(158, .bool (decide ((cmpT (gT ((p).set ((n : Int).tmod ((p.length : Nat) : Int) : Int).toNat (liftR g p ((n : Int).tmod ((p.length : Nat) : Int)))) q) (gT sl q) 0 : Int) < 0))), (157, .bool (decide ((cmpT (gT ((p).set ((n : Int).tmod ((p.length : Nat) : Int) : Int).toNat (liftR g p ((n : Int).tmod ((p.length : Nat) : Int)))) q) (gT sl q) 0 : Int) < 0))), (156, .int .i64 (cmpT (gT ((p).set ((n : Int).tmod ((p.length : Nat) : Int) : Int).toNat (liftR g p ((n : Int).tmod ((p.length : Nat) : Int)))) q) (gT sl q) 0)), (155, tupV (gT sl q)), (154, .pointer (some (ad441.add ((q : Int).toNat * 5)))), (153, .int .i64 (q)), (152, .slice A366 sl.length c367), (151, tupV (gT ((p).set ((n : Int).tmod ((p.length : Nat) : Int) : Int).toNat (liftR g p ((n : Int).tmod ((p.length : Nat) : Int)))) q)), (150, .pointer (some (ad436.add ((q : Int).toNat * 5)))), (149, .int .i64 (q)), (148, .slice A_221 (((p).set ((n : Int).tmod ((p.length : Nat) : Int) : Int).toNat (liftR g p ((n : Int).tmod ((p.length : Nat) : Int))) : List Tup).length) c_222), (19, .int .i64 (q)), (18, .slice A366 sl.length c367), (13, .slice A_221 (((p).set ((n : Int).tmod ((p.length : Nat) : Int) : Int).toNat (liftR g p ((n : Int).tmod ((p.length : Nat) : Int))) : List Tup).length) c_222)]) ⟨rfl, rfl, rfl, rfl, rfl, rfl, rfl, rfl, rfl, rfl, rfl, rfl, rfl, rfl, trivial⟩
           clear f474
           refine cond_S f476 (t := decide ((cmpT (gT ((p).set ((n : Int).tmod ((p.length : Nat) : Int) : Int).toNat (liftR g p ((n : Int).tmod ((p.length : Nat) : Int)))) q) (gT sl q) 0 : Int) < 0)) rfl (fun h477 => ?_) (fun h477 => ?_)
           ·have q478 := of_decide_eq_true h477
            refine wp_seq ?_
            refine At.start ?_
            refine At.rd f476 1 [[]] [(4, .bool false)] [] (by kernel_rfl) trivial (fun act480 f479 => ?_)
            clear f476
            refine At.done rfl ?_
            refine t_n ?_
            have f481 := f479.sub (r := [(4, .bool false)]) ⟨rfl, trivial⟩
            clear f479
            refine wp_ret ?_
            refine b_r ?_
            refine t_r ?_
            refine t_r ?_
            refine b_r ?_
            refine t_r ?_
            refine b_r ?_
            refine t_r ?_
            refine t_r ?_
            refine b_r ?_
            refine t_r ?_
            refine ret_ f481 [] [.bool false] [] (by kernel_rfl) trivial ?_
            exfalso; omega
           ·have q482 := of_decide_eq_false h477
            refine wp_skip ?_
            refine b_n ?_
            refine t_n ?_
            have f483 := f476.sub (r := [(157, .bool (decide ((cmpT (gT ((p).set ((n : Int).tmod ((p.length : Nat) : Int) : Int).toNat (liftR g p ((n : Int).tmod ((p.length : Nat) : Int)))) q) (gT sl q) 0 : Int) < 0))), (156, .int .i64 (cmpT (gT ((p).set ((n : Int).tmod ((p.length : Nat) : Int) : Int).toNat (liftR g p ((n : Int).tmod ((p.length : Nat) : Int)))) q) (gT sl q) 0)), (155, tupV (gT sl q)), (154, .pointer (some (ad441.add ((q : Int).toNat * 5)))), (153, .int .i64 (q)), (152, .slice A366 sl.length c367), (151, tupV (gT ((p).set ((n : Int).tmod ((p.length : Nat) : Int) : Int).toNat (liftR g p ((n : Int).tmod ((p.length : Nat) : Int)))) q)), (150, .pointer (some (ad436.add ((q : Int).toNat * 5)))), (149, .int .i64 (q)), (148, .slice A_221 (((p).set ((n : Int).tmod ((p.length : Nat) : Int) : Int).toNat (liftR g p ((n : Int).tmod ((p.length : Nat) : Int))) : List Tup).length) c_222), (19, .int .i64 (q)), (18, .slice A366 sl.length c367), (13, .slice A_221 (((p).set ((n : Int).tmod ((p.length : Nat) : Int) : Int).toNat (liftR g p ((n : Int).tmod ((p.length : Nat) : Int))) : List Tup).length) c_222)]) ⟨rfl, rfl, rfl, rfl, rfl, rfl, rfl, rfl, rfl, rfl, rfl, rfl, rfl, trivial⟩
            clear f476
            refine At.start ?_
            refine At.rd f483 3 [[], [.as_ (.int .i64 (q + 1))], []] [(19, .int .i64 (q + 1)), (141, .int .i64 (q + 1)), (140, .int .i64 (q))] [((.int .i64 (IntKind.i64.wrap (q + 1)) : Value) = .int .i64 (q + 1))] (by kernel_rfl) ⟨(w64 (by omega) (by omega)), trivial⟩ (fun act485 f484 => ?_)
            clear f483
            refine At.done rfl ?_
            refine t_n ?_
            have f486 := f484.sub (r := [(19, .int .i64 (q + 1)), (18, .slice A366 sl.length c367), (13, .slice A_221 (((p).set ((n : Int).tmod ((p.length : Nat) : Int) : Int).toNat (liftR g p ((n : Int).tmod ((p.length : Nat) : Int))) : List Tup).length) c_222)]) ⟨rfl, rfl, rfl, trivial⟩
            exact ⟨_, (by omega), (q + 1), rfl, f486, e466, r467, r468, bx469, ow470, ow471, (by omega), (by omega), (by omega)⟩
         ·have q487 := of_decide_eq_false h405
          refine wp_exit ?_
          refine t_e ?_
          refine t_e ?_
          refine b_e ?_
          refine t_n ?_
          have f488 := f404.sub (r := []) trivial
          clear f404
          refine wp_seq ?_
          refine At.start ?_
          refine At.rd f488 1 [[]] [(4, .bool true)] [] (by kernel_rfl) trivial (fun act490 f489 => ?_)
          clear f488
          refine At.done rfl ?_
          refine t_n ?_
          refine wp_ret ?_
          refine b_r ?_
          refine t_r ?_
          refine t_r ?_
          refine b_r ?_
          refine t_r ?_
          refine ret_ f489 [] [.bool true] [] (by kernel_rfl) trivial ?_
          exact ⟨rfl, e391⟩
        ·refine wp_skip ?_
         refine b_n ?_
         refine t_n ?_
         have f492 := f361.sub (r := [(13, .slice A_221 (((p).set ((n : Int).tmod ((p.length : Nat) : Int) : Int).toNat (liftR g p ((n : Int).tmod ((p.length : Nat) : Int))) : List Tup).length) c_222), (14, .int .i64 (n)), (2, .pointer (some ⟨w.heap.size, 0, none⟩))]) ⟨rfl, rfl, rfl, trivial⟩
         clear f361
         refine At.start ?_
         refine At.rd f492 3 [[], [.as_ (.int .i64 (n + 1))], []] [(14, .int .i64 (n + 1)), (98, .int .i64 (n + 1)), (97, .int .i64 (n))] [((.int .i64 (IntKind.i64.wrap (n + 1)) : Value) = .int .i64 (n + 1))] (by kernel_rfl) ⟨(w64 (by omega) (by omega)), trivial⟩ (fun act494 f493 => ?_)
         clear f492
         refine At.done rfl ?_
         refine t_n ?_
         have f495 := f493.sub (r := [(14, .int .i64 (n + 1)), (13, .slice A_221 (((p).set ((n : Int).tmod ((p.length : Nat) : Int) : Int).toNat (liftR g p ((n : Int).tmod ((p.length : Nat) : Int))) : List Tup).length) c_222), (2, .pointer (some ⟨w.heap.size, 0, none⟩))]) ⟨rfl, rfl, rfl, trivial⟩
         exact ⟨_, (by omega), (n + 1), ((p).set ((n : Int).tmod ((p.length : Nat) : Int) : Int).toNat (liftR g p ((n : Int).tmod ((p.length : Nat) : Int))) : List Tup), A_221, c_222, rfl, f495, e291, r294, r295, bx296, ow297, (by omega), (by omega), hrp2, (by omega)⟩
      ·have q496 := ne_of_beq_false h281
       refine wp_skip ?_
       refine b_n ?_
       refine t_n ?_
       have f497 := f280.sub (r := [(13, .slice A_221 (((p).set ((n : Int).tmod ((p.length : Nat) : Int) : Int).toNat (liftR g p ((n : Int).tmod ((p.length : Nat) : Int))) : List Tup).length) c_222), (14, .int .i64 (n)), (2, .pointer (some ⟨w.heap.size, 0, none⟩))]) ⟨rfl, rfl, rfl, trivial⟩
       clear f280
       refine At.start ?_
       refine At.rd f497 3 [[], [.as_ (.int .i64 (n + 1))], []] [(14, .int .i64 (n + 1)), (98, .int .i64 (n + 1)), (97, .int .i64 (n))] [((.int .i64 (IntKind.i64.wrap (n + 1)) : Value) = .int .i64 (n + 1))] (by kernel_rfl) ⟨(w64 (by omega) (by omega)), trivial⟩ (fun act499 f498 => ?_)
       clear f497
       refine At.done rfl ?_
       refine t_n ?_
       have f500 := f498.sub (r := [(14, .int .i64 (n + 1)), (13, .slice A_221 (((p).set ((n : Int).tmod ((p.length : Nat) : Int) : Int).toNat (liftR g p ((n : Int).tmod ((p.length : Nat) : Int))) : List Tup).length) c_222), (2, .pointer (some ⟨w.heap.size, 0, none⟩))]) ⟨rfl, rfl, rfl, trivial⟩
       exact ⟨_, (by omega), (n + 1), ((p).set ((n : Int).tmod ((p.length : Nat) : Int) : Int).toNat (liftR g p ((n : Int).tmod ((p.length : Nat) : Int))) : List Tup), A_221, c_222, rfl, f500, e270, r271, r272, bx273, ow266, (by omega), (by omega), hrp2, (by omega)⟩
     ·have q501 := of_decide_eq_false h240
      refine wp_exit ?_
      refine t_e ?_
      refine t_e ?_
      refine b_e ?_
      refine t_n ?_
      have f502 := f239.sub (r := []) trivial
      clear f239
      refine wp_seq ?_
      refine At.start ?_
      refine At.rd f502 1 [[]] [(4, .bool true)] [] (by kernel_rfl) trivial (fun act504 f503 => ?_)
      clear f502
      refine At.done rfl ?_
      refine t_n ?_
      refine wp_ret ?_
      refine ret_ f503 [] [.bool true] [] (by kernel_rfl) trivial ?_
      exact ⟨rfl, e227⟩

end Go.Proofs.Ytklbpajmoklheaa
