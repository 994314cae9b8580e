/-
  A walk of a Go function, printed by a program of this repo. Conditions: what the theorems name.
-/
import Derived.Test.YtklbpajmoklheaaWShown
import Derived.Test.YtklbpajmoklheaaWTuples
import Derived.Test.YtklbpajmoklheaaWLift
import Derived.Test.YtklbpajmoklheaaWHeavy
set_option linter.unusedVariables false
set_option linter.unusedSimpArgs false
namespace Go.Proofs.Ytklbpajmoklheaa
open Go Go.RowKit

set_option maxHeartbeats 4000000 in
theorem bounds_any {Ag0 Ag1 Ag2 : Option Addr} {cg0 cg1 cg2 : Nat} {g : GameL} {As : Option Addr} {cs : Nat} {ls : List Tup} {w : World} (rg : RdG w 0 w.heap.size Ag0 Ag1 Ag2 cg0 cg1 cg2 g) (rs : RdR w 0 w.heap.size As ls) (hok : okL ls) :
    Calls Try.prog 11 #[.agg #[.slice Ag0 g.ow.length cg0, .slice Ag1 g.pr.length cg1, .slice Ag2 g.mv.length cg2], .slice As ls.length cs] w fun e w' => e = .returned (.bool true) ∧ Ext w w' := by
 have hlg0 := rg.ow.len
 have hlg1 := rg.pr.len
 have hlg2 := rg.mv.len
 have hkg0 := rg.k0
 have hkg1 := rg.k1
 have hkg2 := rg.k2
 have hls := rs.len
 simp only [Enc.bytes] at hls
 refine enter_ (args := [.agg #[.slice Ag0 g.ow.length cg0, .slice Ag1 g.pr.length cg1, .slice Ag2 g.mv.length cg2], .slice As ls.length cs]) Try.func11 rfl Try.ntmps11 (Nat.le_of_ble_eq_true rfl) (fun act0 f0 => ?_)
 have e0 := Ext.refl w
 refine wp_seq ?_
 refine At.start ?_
 refine At.seq f0 1 [[]] [(2, .pointer (some ⟨w.heap.size, 0, none⟩))] (w.alloc (.cells #[.slice Ag0 g.ow.length cg0, .slice Ag1 g.pr.length cg1, .slice Ag2 g.mv.length cg2] 25 (0, 0))) [] (by kernel_rfl) trivial (fun act4 w1 hw2 f3 => ?_)
 clear f0
 have g5 := gr_alloc hw2
 have szw1 := g5.size
 have e7 := e0.gr g5 no_row
 clear e0
 have r8 := rg.gr g5 (fun _ h => by cases h)
 clear rg
 have r9 := rs.gr g5 (fun _ h => by cases h)
 clear rs
 have bx10 : Bx w1 (w.heap.size) [.slice Ag0 g.ow.length cg0, .slice Ag1 g.pr.length cg1, .slice Ag2 g.mv.length cg2] 25 := Bx.new hw2
 have := bx10.lt
 clear g5 hw2
 refine At.rd f3 1 [[]] [(4, .bool false)] [] (by kernel_rfl) trivial (fun act12 f11 => ?_)
 clear f3
 refine At.done rfl ?_
 refine t_n ?_
 have f13 := f11.sub (r := [(4, .bool false), (2, .pointer (some ⟨w.heap.size, 0, none⟩)), (1, .slice As ls.length cs)]) ⟨rfl, rfl, rfl, trivial⟩
 clear f11
 refine wp_seq ?_
 refine At.start ?_
 refine At.call f13 22 #[] (some 16) (by kernel_rfl) (shown_any) ?_
 rintro e_ w14 ⟨rfl, he⟩
 refine ⟨_, rfl, _, rfl, fun act15 f16 => ?_⟩
 clear f13
 have g17 := gr_ext he
 have szw14 := g17.size
 have e18 := e7.gr g17 no_row
 clear e7
 have r19 := r8.gr g17 (fun _ h => by cases h)
 clear r8
 have r20 := r9.gr g17 (fun _ h => by cases h)
 clear r9
 have bx21 := bx10.gr g17 (by simp)
 clear bx10
 clear g17 he
 refine At.rd f16 1 [[]] [(5, .bool true)] [] (by kernel_rfl) trivial (fun act23 f22 => ?_)
 clear f16
 refine At.done rfl ?_
 refine t_n ?_
 have f24 := f22.sub (r := [(5, .bool true), (4, .bool false), (2, .pointer (some ⟨w.heap.size, 0, none⟩)), (1, .slice As ls.length cs)]) ⟨rfl, rfl, rfl, rfl, trivial⟩
 clear f22
 refine wp_seq ?_
 refine At.start ?_
 refine At.rd f24 1 [[.ld (.slice Ag0 g.ow.length cg0), .ld (.slice Ag1 g.pr.length cg1), .ld (.slice Ag2 g.mv.length cg2)]] [(18, .agg #[.slice Ag0 g.ow.length cg0, .slice Ag1 g.pr.length cg1, .slice Ag2 g.mv.length cg2])] [(w14.cell? ⟨w.heap.size, 0, none⟩ = some (.slice Ag0 g.ow.length cg0)), (w14.cell? ⟨w.heap.size, 1, none⟩ = some (.slice Ag1 g.pr.length cg1)), (w14.cell? ⟨w.heap.size, 2, none⟩ = some (.slice Ag2 g.mv.length cg2))] (by kernel_rfl) ⟨(bx21.cell (i := 0) rfl), (bx21.cell (i := 1) rfl), (bx21.cell (i := 2) rfl), trivial⟩ (fun act26 f25 => ?_)
 clear f24
 refine At.call f25 36 #[.agg #[.slice Ag0 g.ow.length cg0, .slice Ag1 g.pr.length cg1, .slice Ag2 g.mv.length cg2]] (some 19) (by kernel_rfl) (right_any (r19.wide (Nat.zero_le _) (by omega))) ?_
 rintro e_ w27 ⟨rfl, he⟩
 refine ⟨_, rfl, _, rfl, fun act28 f29 => ?_⟩
 clear f25
 have g30 := gr_ext he
 have szw27 := g30.size
 have e31 := e18.gr g30 no_row
 clear e18
 have r32 := r19.gr g30 (fun _ h => by cases h)
 clear r19
 have r33 := r20.gr g30 (fun _ h => by cases h)
 clear r20
 have bx34 := bx21.gr g30 (by simp)
 clear bx21
 clear g30 he
 refine At.rd f29 5 [[], [], [], [], []] [(7, .int .i64 ((rightP g).2)), (6, .int .i64 ((rightP g).1)), (21, .int .i64 ((rightP g).2)), (20, .int .i64 ((rightP g).1)), (17, .tuple #[.int .i64 ((rightP g).1), .int .i64 ((rightP g).2)])] [] (by kernel_rfl) trivial (fun act36 f35 => ?_)
 clear f29
 refine At.done rfl ?_
 refine t_n ?_
 have f37 := f35.sub (r := [(7, .int .i64 ((rightP g).2)), (5, .bool true), (4, .bool false), (2, .pointer (some ⟨w.heap.size, 0, none⟩)), (1, .slice As ls.length cs)]) ⟨rfl, rfl, rfl, rfl, rfl, trivial⟩
 clear f35
 refine wp_seq ?_
 refine At.start ?_
 refine At.rd f37 1 [[.ld (.slice Ag0 g.ow.length cg0), .ld (.slice Ag1 g.pr.length cg1), .ld (.slice Ag2 g.mv.length cg2)]] [(22, .agg #[.slice Ag0 g.ow.length cg0, .slice Ag1 g.pr.length cg1, .slice Ag2 g.mv.length cg2])] [(w27.cell? ⟨w.heap.size, 0, none⟩ = some (.slice Ag0 g.ow.length cg0)), (w27.cell? ⟨w.heap.size, 1, none⟩ = some (.slice Ag1 g.pr.length cg1)), (w27.cell? ⟨w.heap.size, 2, none⟩ = some (.slice Ag2 g.mv.length cg2))] (by kernel_rfl) ⟨(bx34.cell (i := 0) rfl), (bx34.cell (i := 1) rfl), (bx34.cell (i := 2) rfl), trivial⟩ (fun act39 f38 => ?_)
 clear f37
 refine At.call f38 25 #[.agg #[.slice Ag0 g.ow.length cg0, .slice Ag1 g.pr.length cg1, .slice Ag2 g.mv.length cg2]] (some 23) (by kernel_rfl) (heavy_any (g := g) (r32.wide (Nat.zero_le _) (by omega))) ?_
 rintro e_ w41 ⟨b40, rfl, he⟩
 refine ⟨_, rfl, _, rfl, fun act42 f43 => ?_⟩
 clear f38
 have g44 := gr_ext he
 have szw41 := g44.size
 have e45 := e31.gr g44 no_row
 clear e31
 have r46 := r32.gr g44 (fun _ h => by cases h)
 clear r32
 have r47 := r33.gr g44 (fun _ h => by cases h)
 clear r33
 have bx48 := bx34.gr g44 (by simp)
 clear bx34
 clear g44 he
 refine At.rd f43 1 [[]] [(8, .bool (b40))] [] (by kernel_rfl) trivial (fun act50 f49 => ?_)
 clear f43
 refine At.done rfl ?_
 refine t_n ?_
 have f51 := f49.sub (r := [(8, .bool (b40)), (7, .int .i64 ((rightP g).2)), (5, .bool true), (4, .bool false), (2, .pointer (some ⟨w.heap.size, 0, none⟩)), (1, .slice As ls.length cs)]) ⟨rfl, rfl, rfl, rfl, rfl, rfl, trivial⟩
 clear f49
 refine wp_seq ?_
 refine wp_seq ?_
 refine At.start ?_
 rcases Bool.eq_false_or_eq_true (((rightP g).2 : Int) != 0) with h52 | h52
 ·have q53 := bne_iff_ne.1 h52
  refine At.rd f51 9 [[], [], [], [], [], [], [.as_ (.bool true)], [], []] [(32, .bool true), (31, undef), (30, .bool true), (29, .bool (((rightP g).2 : Int) != 0)), (28, .bool (((rightP g).2 : Int) != 0)), (27, .int .i64 ((rightP g).2)), (26, .bool false), (25, .bool false), (24, .bool true)] [((.bool (((rightP g).2 : Int) != 0) : Value) = .bool true)] (by kernel_rfl) ⟨(congrArg Value.bool h52), trivial⟩ (fun act55 f54 => ?_)
  clear f51
  refine At.done rfl ?_
  refine t_n ?_
  have f56 := f54.sub (r := [(32, .bool true), (5, .bool true), (4, .bool false), (2, .pointer (some ⟨w.heap.size, 0, none⟩)), (1, .slice As ls.length cs)]) ⟨rfl, rfl, rfl, rfl, rfl, trivial⟩
  clear f54
  refine cond_T f56 rfl ?_
  refine wp_seq ?_
  refine At.start ?_
  refine At.rd f56 2 [[], []] [(4, .bool true), (33, .bool true)] [] (by kernel_rfl) trivial (fun act58 f57 => ?_)
  clear f56
  refine At.done rfl ?_
  refine t_n ?_
  have f59 := f57.sub (r := [(4, .bool true)]) ⟨rfl, trivial⟩
  clear f57
  refine wp_ret ?_
  refine t_r ?_
  refine ret_ f59 [] [.bool true] [] (by kernel_rfl) trivial ?_
  exact ⟨rfl, e45⟩
 ·have q60 := bne_eq_false_iff_eq.1 h52
  refine At.rd f51 9 [[], [], [], [], [], [], [.as_ (.bool false)], [], []] [(32, .bool (b40)), (31, .bool (b40)), (30, .bool false), (29, .bool (((rightP g).2 : Int) != 0)), (28, .bool (((rightP g).2 : Int) != 0)), (27, .int .i64 ((rightP g).2)), (26, .bool false), (25, .bool false), (24, .bool true)] [((.bool (((rightP g).2 : Int) != 0) : Value) = .bool false)] (by kernel_rfl) ⟨(congrArg Value.bool h52), trivial⟩ (fun act62 f61 => ?_)
  clear f51
  refine At.done rfl ?_
  refine t_n ?_
  have f63 := f61.sub (r := [(32, .bool (b40)), (5, .bool true), (4, .bool false), (2, .pointer (some ⟨w.heap.size, 0, none⟩)), (1, .slice As ls.length cs)]) ⟨rfl, rfl, rfl, rfl, rfl, trivial⟩
  clear f61
  refine cond_S f63 (t := b40) rfl (fun h64 => ?_) (fun h64 => ?_)
  ·refine wp_seq ?_
   refine At.start ?_
   refine At.rd f63 2 [[], []] [(4, .bool true), (33, .bool true)] [] (by kernel_rfl) trivial (fun act67 f66 => ?_)
   clear f63
   refine At.done rfl ?_
   refine t_n ?_
   have f68 := f66.sub (r := [(4, .bool true)]) ⟨rfl, trivial⟩
   clear f66
   refine wp_ret ?_
   refine t_r ?_
   refine ret_ f68 [] [.bool true] [] (by kernel_rfl) trivial ?_
   exact ⟨rfl, e45⟩
  ·refine wp_skip ?_
   refine t_n ?_
   have f70 := f63.sub (r := [(4, .bool false), (2, .pointer (some ⟨w.heap.size, 0, none⟩)), (1, .slice As ls.length cs)]) ⟨rfl, rfl, rfl, trivial⟩
   clear f63
   refine wp_seq ?_
   have hR : isR g = true := right_of (by omega)
   have hG := isR_ok hR
   have hn1 := hG.n1
   have hn0 := hG.n0
   have hpl := hG.pl
   have hml := hG.ml
   refine At.start ?_
   refine At.rd f70 1 [[.ld (.slice Ag0 g.ow.length cg0), .ld (.slice Ag1 g.pr.length cg1), .ld (.slice Ag2 g.mv.length cg2)]] [(34, .agg #[.slice Ag0 g.ow.length cg0, .slice Ag1 g.pr.length cg1, .slice Ag2 g.mv.length cg2])] [(w41.cell? ⟨w.heap.size, 0, none⟩ = some (.slice Ag0 g.ow.length cg0)), (w41.cell? ⟨w.heap.size, 1, none⟩ = some (.slice Ag1 g.pr.length cg1)), (w41.cell? ⟨w.heap.size, 2, none⟩ = some (.slice Ag2 g.mv.length cg2))] (by kernel_rfl) ⟨(bx48.cell (i := 0) rfl), (bx48.cell (i := 1) rfl), (bx48.cell (i := 2) rfl), trivial⟩ (fun act72 f71 => ?_)
   clear f70
   refine At.call f71 28 #[.agg #[.slice Ag0 g.ow.length cg0, .slice Ag1 g.pr.length cg1, .slice Ag2 g.mv.length cg2]] (some 35) (by kernel_rfl) (solveM_any (g := g) (r46.wide (Nat.zero_le _) (by omega)) (by first | omega | decide)) ?_
   rintro e_ w79 ⟨A73, c74, sl, rfl, he, ow76, hsv77⟩
   have hsv_Msl := hsv77
   have := solved_len hsv77
   refine ⟨_, rfl, _, rfl, fun act80 f81 => ?_⟩
   clear f71
   have g82 := gr_ext he
   have szw79 := g82.size
   have e83 := e45.gr g82 no_row
   clear e45
   have r84 := r46.gr g82 (fun _ h => by cases h)
   clear r46
   have r85 := r47.gr g82 (fun _ h => by cases h)
   clear r47
   have bx86 := bx48.gr g82 (by simp)
   clear bx48
   clear g82 he
   refine At.rd f81 1 [[]] [(9, .slice A73 sl.length c74)] [] (by kernel_rfl) trivial (fun act88 f87 => ?_)
   clear f81
   refine At.done rfl ?_
   refine t_n ?_
   have f89 := f87.sub (r := [(9, .slice A73 sl.length c74), (4, .bool false), (2, .pointer (some ⟨w.heap.size, 0, none⟩)), (1, .slice As ls.length cs)]) ⟨rfl, rfl, rfl, rfl, trivial⟩
   clear f87
   refine wp_seq ?_
   refine wp_seq ?_
   have hsn := solved_n hR hsv_Msl
   have hoks : okL sl := bnd_ok (hsv_Msl.elim (fun h => by rw [hR] at h; exact absurd h.1 (by decide)) (fun h => h.2.bnd))
   refine At.start ?_
   refine At.rd f89 6 [[], [], [], [.ld (.slice Ag0 g.ow.length cg0)], [], []] [(41, .bool ((((sl.length : Nat) : Int) : Int) != ((g.ow.length : Nat) : Int))), (40, .int .i64 (((g.ow.length : Nat) : Int))), (39, .slice Ag0 g.ow.length cg0), (38, .pointer (some ⟨w.heap.size, 0, none⟩)), (37, .int .i64 (((sl.length : Nat) : Int))), (36, .slice A73 sl.length c74)] [(w79.cell? ⟨w.heap.size, 0, none⟩ = some (.slice Ag0 g.ow.length cg0))] (by kernel_rfl) ⟨(bx86.cell (i := 0) rfl), trivial⟩ (fun act91 f90 => ?_)
   clear f89
   refine At.done rfl ?_
   refine t_n ?_
   have f92 := f90.sub (r := [(41, .bool ((((sl.length : Nat) : Int) : Int) != ((g.ow.length : Nat) : Int))), (9, .slice A73 sl.length c74), (4, .bool false), (2, .pointer (some ⟨w.heap.size, 0, none⟩)), (1, .slice As ls.length cs)]) ⟨rfl, rfl, rfl, rfl, rfl, trivial⟩
   clear f90
   refine cond_S f92 (t := (((sl.length : Nat) : Int) : Int) != ((g.ow.length : Nat) : Int)) rfl (fun h93 => ?_) (fun h93 => ?_)
   ·have q94 := bne_iff_ne.1 h93
    refine wp_seq ?_
    refine At.start ?_
    refine At.rd f92 1 [[]] [(4, .bool false)] [] (by kernel_rfl) trivial (fun act96 f95 => ?_)
    clear f92
    refine At.done rfl ?_
    refine t_n ?_
    have f97 := f95.sub (r := [(4, .bool false)]) ⟨rfl, trivial⟩
    clear f95
    refine wp_ret ?_
    refine t_r ?_
    refine ret_ f97 [] [.bool false] [] (by kernel_rfl) trivial ?_
    exfalso; first | omega | exact absurd hst (of_decide_eq_false (by assumption)) | (have := hsc.2.2 (by assumption); omega)
   ·have q98 := bne_eq_false_iff_eq.1 h93
    refine wp_skip ?_
    refine t_n ?_
    have f99 := f92.sub (r := [(9, .slice A73 sl.length c74), (4, .bool false), (2, .pointer (some ⟨w.heap.size, 0, none⟩)), (1, .slice As ls.length cs)]) ⟨rfl, rfl, rfl, rfl, trivial⟩
    clear f92
    refine wp_seq ?_
    refine wp_seq ?_
    refine At.start ?_
    refine At.rd f99 1 [[]] [(10, .int .i64 (0))] [] (by kernel_rfl) trivial (fun act101 f100 => ?_)
    clear f99
    refine At.done rfl ?_
    refine t_n ?_
    refine wp_block ?_
    have f102 := f100.sub (r := [(10, .int .i64 (0)), (9, .slice A73 sl.length c74), (2, .pointer (some ⟨w.heap.size, 0, none⟩)), (1, .slice As ls.length cs)]) ⟨rfl, rfl, rfl, rfl, trivial⟩
    refine loop_g (fun (m_ : Nat) a_ w_ => ∃ (i : Int), m_ = ((sl.length : Int) - i).toNat ∧ (Frm 138 a_ [(10, .int .i64 (i)), (9, .slice A73 sl.length c74), (2, .pointer (some ⟨w.heap.size, 0, none⟩)), (1, .slice As ls.length cs)]) ∧ (Ext w w_) ∧ (RdG w_ 0 w.heap.size Ag0 Ag1 Ag2 cg0 cg1 cg2 g) ∧ (RdR w_ 0 w.heap.size As (ls : List Tup)) ∧ (Bx w_ (w.heap.size) [.slice Ag0 g.ow.length cg0, .slice Ag1 g.pr.length cg1, .slice Ag2 g.mv.length cg2] 25) ∧ (OwnR w_ (Sx (w41.heap.size) []) A73 c74 41 (sl : List Tup)) ∧ (0 ≤ i) ∧ (i ≤ (sl.length : Int)) ∧ (w41.heap.size ≤ w_.heap.size)) _ ⟨0, rfl, f102, e83, r84, r85, bx86, ow76, (by omega), (by omega), (by omega)⟩ ?_
    clear f102 f100
    clear r84
    clear r85
    clear bx86
    clear ow76
    clear e83
    intro m_ act103 w104 ⟨i, hm106, f107, e105, r108, r109, bx110, ow111, i112, i113, i114⟩
    have szw104 := e105.size
    have := bx110.lt
    refine wp_seq ?_
    refine wp_seq ?_
    refine At.start ?_
    refine At.rd f107 4 [[], [], [], []] [(45, .bool (decide ((i : Int) < ((sl.length : Nat) : Int)))), (44, .int .i64 (((sl.length : Nat) : Int))), (43, .slice A73 sl.length c74), (42, .int .i64 (i))] [] (by kernel_rfl) trivial (fun act116 f115 => ?_)
    clear f107
    refine At.done rfl ?_
    refine t_n ?_
    have f117 := f115.sub (r := [(45, .bool (decide ((i : Int) < ((sl.length : Nat) : Int)))), (10, .int .i64 (i)), (9, .slice A73 sl.length c74), (2, .pointer (some ⟨w.heap.size, 0, none⟩)), (1, .slice As ls.length cs)]) ⟨rfl, rfl, rfl, rfl, rfl, trivial⟩
    clear f115
    refine cond_S f117 (t := decide ((i : Int) < ((sl.length : Nat) : Int))) rfl (fun h118 => ?_) (fun h118 => ?_)
    ·have q119 := of_decide_eq_true h118
     refine wp_skip ?_
     refine t_n ?_
     have f120 := f117.sub (r := [(10, .int .i64 (i)), (9, .slice A73 sl.length c74), (2, .pointer (some ⟨w.heap.size, 0, none⟩)), (1, .slice As ls.length cs)]) ⟨rfl, rfl, rfl, rfl, trivial⟩
     clear f117
     refine wp_seq ?_
     refine wp_block ?_
     refine wp_seq ?_
     refine wp_seq ?_
     obtain ⟨ad121, hA122, hb125, hc124, hc123⟩ := ow111.get (i) (by omega) (by omega) (sz := 5) rfl
     obtain ⟨Cs126, hCs127⟩ : ∃ c : List (Addr × Value), c = [(⟨w.heap.size, 0, none⟩, (.slice Ag0 g.ow.length cg0)), (⟨w.heap.size, 1, none⟩, (.slice Ag1 g.pr.length cg1)), (⟨w.heap.size, 2, none⟩, (.slice Ag2 g.mv.length cg2)), ((ad121.add ((i : Int).toNat * 5)), (.bool ((gT sl i).top))), (((ad121.add ((i : Int).toNat * 5)).add 1), (.int .i64 ((gT sl i).c0))), (((ad121.add ((i : Int).toNat * 5)).add 2), (.int .i64 ((gT sl i).c1))), (((ad121.add ((i : Int).toNat * 5)).add 3), (.int .i64 ((gT sl i).c2))), (((ad121.add ((i : Int).toNat * 5)).add 4), (.int .i64 ((gT sl i).c3)))] := ⟨_, rfl⟩
     have hS128 : HoldsC Cs126 w104 := by rw [hCs127]; exact ⟨(bx110.cell (i := 0) rfl), (bx110.cell (i := 1) rfl), (bx110.cell (i := 2) rfl), hc124, (hc123 1 _ rfl), (hc123 2 _ rfl), (hc123 3 _ rfl), (hc123 4 _ rfl), trivial⟩
     refine AtH.start Cs126 9 #[false, false, false, false, false, false, false, false, false] (by kernel_rfl) rfl rfl (fun w130 hw131 => ?_)
     have g129 := gr_drew hw131
     have hS132 := hS128.gr g129
     have szw130 := g129.size
     have e133 := e105.gr g129 no_row
     clear e105
     have r134 := r108.gr g129 (fun _ h => by cases h)
     clear r108
     have r135 := r109.gr g129 (fun _ h => by cases h)
     clear r109
     have bx136 := bx110.gr g129 (by simp)
     clear bx110
     have ow137 := ow111.gr g129 (fun _ _ h => by cases h)
     clear ow111
     clear g129 hw131 hS128
     refine AtH.rd (by kernel_rfl) (fun d v c a w h => by cases d <;> exact h) hS132 [0, 1, 2, 4, 5, 6, 7] [[.ld (.slice Ag0 g.ow.length cg0), .ld (.slice Ag1 g.pr.length cg1), .ld (.slice Ag2 g.mv.length cg2)], [], [], [], [], [.ad ad121], [.ld (.bool ((gT sl i).top)), .ld (.int .i64 ((gT sl i).c0)), .ld (.int .i64 ((gT sl i).c1)), .ld (.int .i64 ((gT sl i).c2)), .ld (.int .i64 ((gT sl i).c3))]] [(55, tupV (gT sl i)), (54, .pointer (some (ad121.add ((i : Int).toNat * 5)))), (53, .int .i64 (i)), (52, .slice A73 sl.length c74), (50, .int .i64 (i)), (49, .slice A73 sl.length c74), (48, .agg #[.slice Ag0 g.ow.length cg0, .slice Ag1 g.pr.length cg1, .slice Ag2 g.mv.length cg2])] #[true, true, true, false, true, true, true, true, false] [(∃ j_ : Nat, Cs126[j_]? = some (⟨w.heap.size, 0, none⟩, (.slice Ag0 g.ow.length cg0))), (∃ j_ : Nat, Cs126[j_]? = some (⟨w.heap.size, 1, none⟩, (.slice Ag1 g.pr.length cg1))), (∃ j_ : Nat, Cs126[j_]? = some (⟨w.heap.size, 2, none⟩, (.slice Ag2 g.mv.length cg2))), (A73 = some ad121), (0 ≤ (i : Int)), ((i : Int) < (sl.length : Nat)), (∃ j_ : Nat, Cs126[j_]? = some ((ad121.add ((i : Int).toNat * 5)), (.bool ((gT sl i).top)))), (∃ j_ : Nat, Cs126[j_]? = some (((ad121.add ((i : Int).toNat * 5)).add 1), (.int .i64 ((gT sl i).c0)))), (∃ j_ : Nat, Cs126[j_]? = some (((ad121.add ((i : Int).toNat * 5)).add 2), (.int .i64 ((gT sl i).c1)))), (∃ j_ : Nat, Cs126[j_]? = some (((ad121.add ((i : Int).toNat * 5)).add 3), (.int .i64 ((gT sl i).c2)))), (∃ j_ : Nat, Cs126[j_]? = some (((ad121.add ((i : Int).toNat * 5)).add 4), (.int .i64 ((gT sl i).c3))))] 2 f120 (by kernel_rfl) ⟨⟨0, by rw [hCs127]; rfl⟩, ⟨1, by rw [hCs127]; rfl⟩, ⟨2, by rw [hCs127]; rfl⟩, hA122, (by omega), (by omega), ⟨3, by rw [hCs127]; rfl⟩, ⟨4, by rw [hCs127]; rfl⟩, ⟨5, by rw [hCs127]; rfl⟩, ⟨6, by rw [hCs127]; rfl⟩, ⟨7, by rw [hCs127]; rfl⟩, trivial⟩ (fun act139 f138 => ?_)
     clear f120
     refine AtH.all [3] 1 (by kernel_rfl) (by simp) ⟨?_, trivial⟩
     refine OneH.call f138 37 #[.agg #[.slice Ag0 g.ow.length cg0, .slice Ag1 g.pr.length cg1, .slice Ag2 g.mv.length cg2], .slice A73 sl.length c74, .int .i64 (i)] (some 51) #[true, true, true, true, true, true, true, true, false] (by kernel_rfl) (by kernel_rfl) (lift_any (g := g) (ls := sl) (at_ := i) (r134.wide (Nat.zero_le _) (by omega)) ((ow137.rdR (by simp only [Enc.bytes]; omega)).wide (Nat.zero_le _) (by omega)) (by first | assumption | exact hoks)) ?_
     rintro e_ w141 ⟨rfl, he⟩
     refine ⟨_, rfl, _, rfl, fun act142 f143 => ?_⟩
     clear f138
     have g144 := gr_ext he
     have hS140 := hS132.gr g144
     have szw141 := g144.size
     have e145 := e133.gr g144 no_row
     clear e133
     have r146 := r134.gr g144 (fun _ h => by cases h)
     clear r134
     have r147 := r135.gr g144 (fun _ h => by cases h)
     clear r135
     have bx148 := bx136.gr g144 (by simp)
     clear bx136
     have ow149 := ow137.gr g144 (fun _ _ h => by cases h)
     clear ow137
     clear g144 he
     refine ⟨hS140, ?_⟩
     refine AtH.rd (by kernel_rfl) (fun d v c a w h => by cases d <;> exact h) hS140 [8] [[.as_ (.bool (!(decide ((liftR g sl i) = (gT sl i)))))]] [(56, .bool (!(decide ((liftR g sl i) = (gT sl i)))))] #[true, true, true, true, true, true, true, true, true] [((.bool (!((((liftR g sl i).top) == ((gT sl i).top)) && (((((liftR g sl i).c0 : Int) == ((gT sl i).c0)) && ((((liftR g sl i).c1 : Int) == ((gT sl i).c1)) && ((((liftR g sl i).c2 : Int) == ((gT sl i).c2)) && ((((liftR g sl i).c3 : Int) == ((gT sl i).c3)) && true)))) && true))) : Value) = .bool (!(decide ((liftR g sl i) = (gT sl i)))))] 0 f143 (by kernel_rfl) ⟨(congrArg (fun b => Value.bool (!b)) (tup_beq (liftR g sl i) (gT sl i))), trivial⟩ (fun act151 f150 => ?_)
     clear f143
     refine AtH.done (by kernel_rfl) ?_
     clear hS140
     refine t_n ?_
     have f152 := f150.sub (r := [(56, .bool (!(decide ((liftR g sl i) = (gT sl i))))), (10, .int .i64 (i)), (9, .slice A73 sl.length c74), (2, .pointer (some ⟨w.heap.size, 0, none⟩)), (1, .slice As ls.length cs)]) ⟨rfl, rfl, rfl, rfl, rfl, trivial⟩
     clear f150
     refine cond_S f152 (t := !(decide ((liftR g sl i) = (gT sl i)))) rfl (fun h153 => ?_) (fun h153 => ?_)
     ·have q154 : (decide ((liftR g sl i) = (gT sl i))) = false := by first | exact Eq.mp (Bool.not_eq_true' _) h153 | exact Eq.mp (Bool.not_eq_false' _) h153 | simpa using h153
      have q155 := of_decide_eq_false q154
      refine wp_seq ?_
      have hst := solved_stay hR hsv_Msl (i := i) (by omega) (by omega)
      refine At.start ?_
      refine At.rd f152 1 [[]] [(4, .bool false)] [] (by kernel_rfl) trivial (fun act157 f156 => ?_)
      clear f152
      refine At.done rfl ?_
      refine t_n ?_
      have f158 := f156.sub (r := [(4, .bool false)]) ⟨rfl, trivial⟩
      clear f156
      refine wp_ret ?_
      refine t_r ?_
      refine b_r ?_
      refine t_r ?_
      refine t_r ?_
      refine b_r ?_
      refine t_r ?_
      refine ret_ f158 [] [.bool false] [] (by kernel_rfl) trivial ?_
      exfalso; first | omega | exact absurd hst (of_decide_eq_false (by assumption)) | (have := hsc.2.2 (by assumption); omega)
     ·have q159 : (decide ((liftR g sl i) = (gT sl i))) = true := by first | exact Eq.mp (Bool.not_eq_true' _) h153 | exact Eq.mp (Bool.not_eq_false' _) h153 | simpa using h153
      have q160 := of_decide_eq_true q159
      refine wp_skip ?_
      refine t_n ?_
      have f161 := f152.sub (r := [(10, .int .i64 (i)), (9, .slice A73 sl.length c74), (2, .pointer (some ⟨w.heap.size, 0, none⟩)), (1, .slice As ls.length cs)]) ⟨rfl, rfl, rfl, rfl, trivial⟩
      clear f152
      refine wp_seq ?_
      refine At.start ?_
      refine At.rd f161 1 [[]] [(11, .int .i64 (0))] [] (by kernel_rfl) trivial (fun act163 f162 => ?_)
      clear f161
      refine At.done rfl ?_
      refine t_n ?_
      refine wp_block ?_
      have f164 := f162.sub (r := [(11, .int .i64 (0)), (10, .int .i64 (i)), (9, .slice A73 sl.length c74), (2, .pointer (some ⟨w.heap.size, 0, none⟩)), (1, .slice As ls.length cs)]) ⟨rfl, rfl, rfl, rfl, rfl, trivial⟩
      refine loop_g (fun (m_ : Nat) a_ w_ => ∃ (k : Int), m_ = (4 - k).toNat ∧ (Frm 138 a_ [(11, .int .i64 (k)), (10, .int .i64 (i)), (9, .slice A73 sl.length c74), (2, .pointer (some ⟨w.heap.size, 0, none⟩)), (1, .slice As ls.length cs)]) ∧ (Ext w w_) ∧ (RdG w_ 0 w.heap.size Ag0 Ag1 Ag2 cg0 cg1 cg2 g) ∧ (RdR w_ 0 w.heap.size As (ls : List Tup)) ∧ (Bx w_ (w.heap.size) [.slice Ag0 g.ow.length cg0, .slice Ag1 g.pr.length cg1, .slice Ag2 g.mv.length cg2] 25) ∧ (OwnR w_ (Sx (w41.heap.size) []) A73 c74 41 (sl : List Tup)) ∧ (0 ≤ k) ∧ (k ≤ 4) ∧ (w41.heap.size ≤ w_.heap.size)) _ ⟨0, rfl, f164, e145, r146, r147, bx148, ow149, (by omega), (by omega), (by omega)⟩ ?_
      clear f164 f162
      clear r146
      clear r147
      clear bx148
      clear ow149
      clear e145
      intro m_ act165 w166 ⟨k, hm168, f169, e167, r170, r171, bx172, ow173, i174, i175, i176⟩
      have szw166 := e167.size
      have := bx172.lt
      refine wp_seq ?_
      refine wp_seq ?_
      refine At.start ?_
      refine At.rd f169 2 [[], []] [(58, .bool (decide ((k : Int) < 4))), (57, .int .i64 (k))] [] (by kernel_rfl) trivial (fun act178 f177 => ?_)
      clear f169
      refine At.done rfl ?_
      refine t_n ?_
      have f179 := f177.sub (r := [(58, .bool (decide ((k : Int) < 4))), (11, .int .i64 (k)), (10, .int .i64 (i)), (9, .slice A73 sl.length c74), (2, .pointer (some ⟨w.heap.size, 0, none⟩)), (1, .slice As ls.length cs)]) ⟨rfl, rfl, rfl, rfl, rfl, rfl, trivial⟩
      clear f177
      refine cond_S f179 (t := decide ((k : Int) < 4)) rfl (fun h180 => ?_) (fun h180 => ?_)
      ·have q181 := of_decide_eq_true h180
       refine wp_skip ?_
       refine t_n ?_
       have f182 := f179.sub (r := [(11, .int .i64 (k)), (10, .int .i64 (i)), (9, .slice A73 sl.length c74), (2, .pointer (some ⟨w.heap.size, 0, none⟩)), (1, .slice As ls.length cs)]) ⟨rfl, rfl, rfl, rfl, rfl, trivial⟩
       clear f179
       refine wp_seq ?_
       refine wp_block ?_
       refine wp_seq ?_
       refine At.start ?_
       refine At.rd f182 1 [[]] [(12, .int .i64 (0))] [] (by kernel_rfl) trivial (fun act184 f183 => ?_)
       clear f182
       refine At.done rfl ?_
       refine t_n ?_
       refine wp_seq ?_
       refine wp_seq ?_
       refine At.start ?_
       refine At.rd f183 1 [[]] [(13, .int .i64 (0))] [] (by kernel_rfl) trivial (fun act186 f185 => ?_)
       clear f183
       refine At.done rfl ?_
       refine t_n ?_
       refine wp_block ?_
       have f188 := f185.as 12 (.int .i64 (0)) (.int .i64 (cnt (g.pr.take (0 : Int).toNat) (2 * k + 1))) rfl (congrArg (Value.int .i64) ((cnt_zero _ _).symm))
       clear f185
       have f187 := f188.sub (r := [(13, .int .i64 (0)), (12, .int .i64 (cnt (g.pr.take (0 : Int).toNat) (2 * k + 1))), (11, .int .i64 (k)), (10, .int .i64 (i)), (9, .slice A73 sl.length c74), (2, .pointer (some ⟨w.heap.size, 0, none⟩)), (1, .slice As ls.length cs)]) ⟨rfl, rfl, rfl, rfl, rfl, rfl, rfl, trivial⟩
       refine loop_g (fun (m_ : Nat) a_ w_ => ∃ (m : Int), m_ = ((g.pr.length : Int) - m).toNat ∧ (Frm 138 a_ [(13, .int .i64 (m)), (12, .int .i64 (cnt (g.pr.take m.toNat) (2 * k + 1))), (11, .int .i64 (k)), (10, .int .i64 (i)), (9, .slice A73 sl.length c74), (2, .pointer (some ⟨w.heap.size, 0, none⟩)), (1, .slice As ls.length cs)]) ∧ (Ext w w_) ∧ (RdG w_ 0 w.heap.size Ag0 Ag1 Ag2 cg0 cg1 cg2 g) ∧ (RdR w_ 0 w.heap.size As (ls : List Tup)) ∧ (Bx w_ (w.heap.size) [.slice Ag0 g.ow.length cg0, .slice Ag1 g.pr.length cg1, .slice Ag2 g.mv.length cg2] 25) ∧ (OwnR w_ (Sx (w41.heap.size) []) A73 c74 41 (sl : List Tup)) ∧ (0 ≤ m) ∧ (m ≤ (g.pr.length : Int)) ∧ (w41.heap.size ≤ w_.heap.size)) _ ⟨0, rfl, f187, e167, r170, r171, bx172, ow173, (by omega), (by omega), (by omega)⟩ ?_
       clear f187 f188
       clear r170
       clear r171
       clear bx172
       clear ow173
       clear e167
       intro m_ act189 w190 ⟨m, hm192, f193, e191, r194, r195, bx196, ow197, i198, i199, i200⟩
       have szw190 := e191.size
       have := bx196.lt
       have hcb : cnt (g.pr.take m.toNat) (2 * k + 1) ≤ g.pr.length := cs4_b
       have hcg : 0 ≤ cnt (g.pr.take m.toNat) (2 * k + 1) := cnt_ge _ _
       refine wp_seq ?_
       refine wp_seq ?_
       refine At.start ?_
       refine At.rd f193 5 [[], [], [.ld (.slice Ag1 g.pr.length cg1)], [], []] [(65, .bool (decide ((m : Int) < ((g.pr.length : Nat) : Int)))), (64, .int .i64 (((g.pr.length : Nat) : Int))), (63, .slice Ag1 g.pr.length cg1), (62, .pointer (some ⟨w.heap.size, 1, none⟩)), (61, .int .i64 (m))] [(w190.cell? ⟨w.heap.size, 1, none⟩ = some (.slice Ag1 g.pr.length cg1))] (by kernel_rfl) ⟨(bx196.cell (i := 1) rfl), trivial⟩ (fun act202 f201 => ?_)
       clear f193
       refine At.done rfl ?_
       refine t_n ?_
       have f203 := f201.sub (r := [(65, .bool (decide ((m : Int) < ((g.pr.length : Nat) : Int)))), (13, .int .i64 (m)), (12, .int .i64 (cnt (g.pr.take m.toNat) (2 * k + 1))), (11, .int .i64 (k)), (10, .int .i64 (i)), (9, .slice A73 sl.length c74), (2, .pointer (some ⟨w.heap.size, 0, none⟩)), (1, .slice As ls.length cs)]) ⟨rfl, rfl, rfl, rfl, rfl, rfl, rfl, rfl, trivial⟩
       clear f201
       refine cond_S f203 (t := decide ((m : Int) < ((g.pr.length : Nat) : Int))) rfl (fun h204 => ?_) (fun h204 => ?_)
       ·have q205 := of_decide_eq_true h204
        refine wp_skip ?_
        refine t_n ?_
        have f206 := f203.sub (r := [(13, .int .i64 (m)), (12, .int .i64 (cnt (g.pr.take m.toNat) (2 * k + 1))), (11, .int .i64 (k)), (10, .int .i64 (i)), (9, .slice A73 sl.length c74), (2, .pointer (some ⟨w.heap.size, 0, none⟩)), (1, .slice As ls.length cs)]) ⟨rfl, rfl, rfl, rfl, rfl, rfl, rfl, trivial⟩
        clear f203
        refine wp_seq ?_
        refine wp_block ?_
        refine wp_seq ?_
        refine At.start ?_
        obtain ⟨ad207, hA208, _, _, hc209⟩ := RdI.get r194.pr (m) (by omega) (by omega)
        refine At.rd f206 9 [[], [.ld (.slice Ag1 g.pr.length cg1)], [], [.ad ad207], [.ld (.int .i64 (gI g.pr (m)))], [], [.as_ (.int .i64 (2 * k))], [.as_ (.int .i64 ((2 * k) + 1))], []] [(76, .bool ((gI g.pr (m) : Int) == ((2 * k) + 1))), (75, .int .i64 ((2 * k) + 1)), (74, .int .i64 (2 * k)), (73, .int .i64 (k)), (72, .int .i64 (gI g.pr (m))), (71, .pointer (some (ad207.add ((m : Int).toNat * 1)))), (70, .int .i64 (m)), (69, .slice Ag1 g.pr.length cg1), (68, .pointer (some ⟨w.heap.size, 1, none⟩))] [(w190.cell? ⟨w.heap.size, 1, none⟩ = some (.slice Ag1 g.pr.length cg1)), (Ag1 = some ad207), (0 ≤ (m : Int)), ((m : Int) < (g.pr.length : Nat)), (w190.cell? (ad207.add ((m : Int).toNat * 1)) = some (.int .i64 (gI g.pr (m)))), ((.int .i64 (IntKind.i64.wrap (2 * k)) : Value) = .int .i64 (2 * k)), ((.int .i64 (IntKind.i64.wrap ((2 * k) + 1)) : Value) = .int .i64 ((2 * k) + 1))] (by kernel_rfl) ⟨(bx196.cell (i := 1) rfl), hA208, (by omega), (by omega), hc209, (w64 (by omega) (by omega)), (w64 (by omega) (by omega)), trivial⟩ (fun act211 f210 => ?_)
        clear f206
        refine At.done rfl ?_
        refine t_n ?_
        have f212 := f210.sub (r := [(76, .bool ((gI g.pr (m) : Int) == ((2 * k) + 1))), (13, .int .i64 (m)), (12, .int .i64 (cnt (g.pr.take m.toNat) (2 * k + 1))), (11, .int .i64 (k)), (10, .int .i64 (i)), (9, .slice A73 sl.length c74), (2, .pointer (some ⟨w.heap.size, 0, none⟩)), (1, .slice As ls.length cs)]) ⟨rfl, rfl, rfl, rfl, rfl, rfl, rfl, rfl, trivial⟩
        clear f210
        refine cond_S f212 (t := (gI g.pr (m) : Int) == ((2 * k) + 1)) rfl (fun h213 => ?_) (fun h213 => ?_)
        ·have q214 := eq_of_beq h213
         refine At.start ?_
         refine At.rd f212 3 [[], [.as_ (.int .i64 ((cnt (g.pr.take m.toNat) (2 * k + 1)) + 1))], []] [(12, .int .i64 ((cnt (g.pr.take m.toNat) (2 * k + 1)) + 1)), (78, .int .i64 ((cnt (g.pr.take m.toNat) (2 * k + 1)) + 1)), (77, .int .i64 (cnt (g.pr.take m.toNat) (2 * k + 1)))] [((.int .i64 (IntKind.i64.wrap ((cnt (g.pr.take m.toNat) (2 * k + 1)) + 1)) : Value) = .int .i64 ((cnt (g.pr.take m.toNat) (2 * k + 1)) + 1))] (by kernel_rfl) ⟨(w64 (by omega) (by omega)), trivial⟩ (fun act216 f215 => ?_)
         clear f212
         refine At.done rfl ?_
         refine b_n ?_
         refine t_n ?_
         have f217 := f215.sub (r := [(12, .int .i64 ((cnt (g.pr.take m.toNat) (2 * k + 1)) + 1)), (13, .int .i64 (m)), (11, .int .i64 (k)), (10, .int .i64 (i)), (9, .slice A73 sl.length c74), (2, .pointer (some ⟨w.heap.size, 0, none⟩)), (1, .slice As ls.length cs)]) ⟨rfl, rfl, rfl, rfl, rfl, rfl, rfl, trivial⟩
         clear f215
         refine At.start ?_
         refine At.rd f217 3 [[], [.as_ (.int .i64 (m + 1))], []] [(13, .int .i64 (m + 1)), (67, .int .i64 (m + 1)), (66, .int .i64 (m))] [((.int .i64 (IntKind.i64.wrap (m + 1)) : Value) = .int .i64 (m + 1))] (by kernel_rfl) ⟨(w64 (by omega) (by omega)), trivial⟩ (fun act219 f218 => ?_)
         clear f217
         refine At.done rfl ?_
         refine t_n ?_
         have f220 := f218.as 12 (.int .i64 ((cnt (g.pr.take m.toNat) (2 * k + 1)) + 1)) (.int .i64 (cnt (g.pr.take ((m + 1) : Int).toNat) (2 * k + 1))) rfl (congrArg (Value.int .i64) (by rw [cnt_next (2 * k + 1) (by omega) (by omega)]; first | rw [if_pos (by omega)] | rw [if_neg (by omega)]))
         clear f218
         have f221 := f220.sub (r := [(13, .int .i64 (m + 1)), (12, .int .i64 (cnt (g.pr.take ((m + 1) : Int).toNat) (2 * k + 1))), (11, .int .i64 (k)), (10, .int .i64 (i)), (9, .slice A73 sl.length c74), (2, .pointer (some ⟨w.heap.size, 0, none⟩)), (1, .slice As ls.length cs)]) ⟨rfl, rfl, rfl, rfl, rfl, rfl, rfl, trivial⟩
         exact ⟨_, (by omega), (m + 1), rfl, f221, e191, r194, r195, bx196, ow197, (by omega), (by omega), (by omega)⟩
        ·have q222 := ne_of_beq_false h213
         refine wp_skip ?_
         refine b_n ?_
         refine t_n ?_
         have f223 := f212.sub (r := [(13, .int .i64 (m)), (12, .int .i64 (cnt (g.pr.take m.toNat) (2 * k + 1))), (11, .int .i64 (k)), (10, .int .i64 (i)), (9, .slice A73 sl.length c74), (2, .pointer (some ⟨w.heap.size, 0, none⟩)), (1, .slice As ls.length cs)]) ⟨rfl, rfl, rfl, rfl, rfl, rfl, rfl, trivial⟩
         clear f212
         refine At.start ?_
         refine At.rd f223 3 [[], [.as_ (.int .i64 (m + 1))], []] [(13, .int .i64 (m + 1)), (67, .int .i64 (m + 1)), (66, .int .i64 (m))] [((.int .i64 (IntKind.i64.wrap (m + 1)) : Value) = .int .i64 (m + 1))] (by kernel_rfl) ⟨(w64 (by omega) (by omega)), trivial⟩ (fun act225 f224 => ?_)
         clear f223
         refine At.done rfl ?_
         refine t_n ?_
         have f226 := f224.as 12 (.int .i64 (cnt (g.pr.take m.toNat) (2 * k + 1))) (.int .i64 (cnt (g.pr.take ((m + 1) : Int).toNat) (2 * k + 1))) rfl (congrArg (Value.int .i64) (by rw [cnt_next (2 * k + 1) (by omega) (by omega)]; first | rw [if_pos (by omega)] | rw [if_neg (by omega)]))
         clear f224
         have f227 := f226.sub (r := [(13, .int .i64 (m + 1)), (12, .int .i64 (cnt (g.pr.take ((m + 1) : Int).toNat) (2 * k + 1))), (11, .int .i64 (k)), (10, .int .i64 (i)), (9, .slice A73 sl.length c74), (2, .pointer (some ⟨w.heap.size, 0, none⟩)), (1, .slice As ls.length cs)]) ⟨rfl, rfl, rfl, rfl, rfl, rfl, rfl, trivial⟩
         exact ⟨_, (by omega), (m + 1), rfl, f227, e191, r194, r195, bx196, ow197, (by omega), (by omega), (by omega)⟩
       ·have q228 := of_decide_eq_false h204
        refine wp_exit ?_
        refine t_e ?_
        refine t_e ?_
        refine b_e ?_
        refine t_n ?_
        have f229 := f203.sub (r := [(12, .int .i64 (cnt (g.pr.take m.toNat) (2 * k + 1))), (11, .int .i64 (k)), (10, .int .i64 (i)), (9, .slice A73 sl.length c74), (2, .pointer (some ⟨w.heap.size, 0, none⟩)), (1, .slice As ls.length cs)]) ⟨rfl, rfl, rfl, rfl, rfl, rfl, trivial⟩
        clear f203
        refine wp_seq ?_
        have hcn : cnt (g.pr.take m.toNat) (2 * k + 1) = cnt g.pr (2 * k + 1) := cnt_all (l := g.pr) (j := m) _ (by omega)
        have hsc := solved_cnt hR hsv_Msl (i := i) (k := k) (by omega) (by omega) (by omega) (by omega)
        refine At.start ?_
        obtain ⟨ad230, hA231, hb234, hc233, hc232⟩ := ow197.get (i) (by omega) (by omega) (sz := 5) rfl
        rcases Bool.eq_false_or_eq_true (decide ((gI [(gT sl i).c0, (gT sl i).c1, (gT sl i).c2, (gT sl i).c3] k : Int) < 0)) with h235 | h235
        ·have q236 := of_decide_eq_true h235
         refine At.rd f229 36 [[], [], [], [.ad ad230], [], [], [.ld (.int .i64 (gI [(gT sl i).c0, (gT sl i).c1, (gT sl i).c2, (gT sl i).c3] k))], [], [.as_ (.bool true)], [], [], [], [], [], [], [], [], [], [], [], [], [], [], [], [], [], [], [], [], [], [], [], [], [], [], []] [(114, .bool true), (113, undef), (112, undef), (111, undef), (110, undef), (109, undef), (108, undef), (107, undef), (106, undef), (105, undef), (104, undef), (103, undef), (102, undef), (101, undef), (100, undef), (99, undef), (98, .bool true), (97, .bool true), (96, undef), (95, undef), (94, undef), (93, undef), (92, undef), (91, undef), (90, undef), (89, undef), (88, undef), (87, .bool true), (86, .bool (decide ((gI [(gT sl i).c0, (gT sl i).c1, (gT sl i).c2, (gT sl i).c3] k : Int) < 0))), (85, .int .i64 (gI [(gT sl i).c0, (gT sl i).c1, (gT sl i).c2, (gT sl i).c3] k)), (84, .pointer (some (((ad230.add ((i : Int).toNat * 5)).add 1).add ((k : Int).toNat * 1)))), (83, .pointer (some ((ad230.add ((i : Int).toNat * 5)).add 1))), (82, .pointer (some (ad230.add ((i : Int).toNat * 5)))), (81, .int .i64 (k)), (80, .int .i64 (i)), (79, .slice A73 sl.length c74)] [(A73 = some ad230), (0 ≤ (i : Int)), ((i : Int) < (sl.length : Nat)), (0 ≤ (k : Int)), ((k : Int) < (4 : Nat)), (w190.cell? (((ad230.add ((i : Int).toNat * 5)).add 1).add ((k : Int).toNat * 1)) = some (.int .i64 (gI [(gT sl i).c0, (gT sl i).c1, (gT sl i).c2, (gT sl i).c3] k))), ((.bool (decide ((gI [(gT sl i).c0, (gT sl i).c1, (gT sl i).c2, (gT sl i).c3] k : Int) < 0)) : Value) = .bool true)] (by kernel_rfl) ⟨hA231, (by omega), (by omega), (by omega), (by omega), (arrT hc232 k (by omega) (by omega)), (congrArg Value.bool h235), trivial⟩ (fun act238 f237 => ?_)
         clear f229
         refine At.done rfl ?_
         refine t_n ?_
         have f239 := f237.sub (r := [(114, .bool true), (11, .int .i64 (k)), (10, .int .i64 (i)), (9, .slice A73 sl.length c74), (2, .pointer (some ⟨w.heap.size, 0, none⟩)), (1, .slice As ls.length cs)]) ⟨rfl, rfl, rfl, rfl, rfl, rfl, trivial⟩
         clear f237
         refine cond_T f239 rfl ?_
         refine wp_seq ?_
         refine At.start ?_
         refine At.rd f239 1 [[]] [(4, .bool false)] [] (by kernel_rfl) trivial (fun act241 f240 => ?_)
         clear f239
         refine At.done rfl ?_
         refine t_n ?_
         have f242 := f240.sub (r := [(4, .bool false)]) ⟨rfl, trivial⟩
         clear f240
         refine wp_ret ?_
         refine b_r ?_
         refine t_r ?_
         refine t_r ?_
         refine b_r ?_
         refine b_r ?_
         refine t_r ?_
         refine t_r ?_
         refine b_r ?_
         refine t_r ?_
         refine ret_ f242 [] [.bool false] [] (by kernel_rfl) trivial ?_
         exfalso; first | omega | exact absurd hst (of_decide_eq_false (by assumption)) | (have := hsc.2.2 (by assumption); omega)
        ·have q243 := of_decide_eq_false h235
         obtain ⟨ad244, hA245, hb248, hc247, hc246⟩ := ow197.get (i) (by omega) (by omega) (sz := 5) rfl
         rcases Bool.eq_false_or_eq_true (decide ((gI [(gT sl i).c0, (gT sl i).c1, (gT sl i).c2, (gT sl i).c3] k : Int) > (cnt (g.pr.take m.toNat) (2 * k + 1)))) with h249 | h249
         ·have q250 := of_decide_eq_true h249
          refine At.rd f229 36 [[], [], [], [.ad ad230], [], [], [.ld (.int .i64 (gI [(gT sl i).c0, (gT sl i).c1, (gT sl i).c2, (gT sl i).c3] k))], [], [.as_ (.bool false)], [], [], [], [.ad ad244], [], [], [.ld (.int .i64 (gI [(gT sl i).c0, (gT sl i).c1, (gT sl i).c2, (gT sl i).c3] k))], [], [], [], [.as_ (.bool true)], [], [], [], [], [], [], [], [], [], [], [], [], [], [], [], []] [(114, .bool true), (113, undef), (112, undef), (111, undef), (110, undef), (109, undef), (108, undef), (107, undef), (106, undef), (105, undef), (104, undef), (103, undef), (102, undef), (101, undef), (100, undef), (99, undef), (98, .bool true), (97, .bool (decide ((gI [(gT sl i).c0, (gT sl i).c1, (gT sl i).c2, (gT sl i).c3] k : Int) > (cnt (g.pr.take m.toNat) (2 * k + 1))))), (96, .bool (decide ((gI [(gT sl i).c0, (gT sl i).c1, (gT sl i).c2, (gT sl i).c3] k : Int) > (cnt (g.pr.take m.toNat) (2 * k + 1))))), (95, .int .i64 (cnt (g.pr.take m.toNat) (2 * k + 1))), (94, .int .i64 (gI [(gT sl i).c0, (gT sl i).c1, (gT sl i).c2, (gT sl i).c3] k)), (93, .pointer (some (((ad244.add ((i : Int).toNat * 5)).add 1).add ((k : Int).toNat * 1)))), (92, .pointer (some ((ad244.add ((i : Int).toNat * 5)).add 1))), (91, .pointer (some (ad244.add ((i : Int).toNat * 5)))), (90, .int .i64 (k)), (89, .int .i64 (i)), (88, .slice A73 sl.length c74), (87, .bool false), (86, .bool (decide ((gI [(gT sl i).c0, (gT sl i).c1, (gT sl i).c2, (gT sl i).c3] k : Int) < 0))), (85, .int .i64 (gI [(gT sl i).c0, (gT sl i).c1, (gT sl i).c2, (gT sl i).c3] k)), (84, .pointer (some (((ad230.add ((i : Int).toNat * 5)).add 1).add ((k : Int).toNat * 1)))), (83, .pointer (some ((ad230.add ((i : Int).toNat * 5)).add 1))), (82, .pointer (some (ad230.add ((i : Int).toNat * 5)))), (81, .int .i64 (k)), (80, .int .i64 (i)), (79, .slice A73 sl.length c74)] [(A73 = some ad230), (0 ≤ (i : Int)), ((i : Int) < (sl.length : Nat)), (0 ≤ (k : Int)), ((k : Int) < (4 : Nat)), (w190.cell? (((ad230.add ((i : Int).toNat * 5)).add 1).add ((k : Int).toNat * 1)) = some (.int .i64 (gI [(gT sl i).c0, (gT sl i).c1, (gT sl i).c2, (gT sl i).c3] k))), ((.bool (decide ((gI [(gT sl i).c0, (gT sl i).c1, (gT sl i).c2, (gT sl i).c3] k : Int) < 0)) : Value) = .bool false), (A73 = some ad244), (0 ≤ (i : Int)), ((i : Int) < (sl.length : Nat)), (0 ≤ (k : Int)), ((k : Int) < (4 : Nat)), (w190.cell? (((ad244.add ((i : Int).toNat * 5)).add 1).add ((k : Int).toNat * 1)) = some (.int .i64 (gI [(gT sl i).c0, (gT sl i).c1, (gT sl i).c2, (gT sl i).c3] k))), ((.bool (decide ((gI [(gT sl i).c0, (gT sl i).c1, (gT sl i).c2, (gT sl i).c3] k : Int) > (cnt (g.pr.take m.toNat) (2 * k + 1)))) : Value) = .bool true)] (by kernel_rfl) ⟨hA231, (by omega), (by omega), (by omega), (by omega), (arrT hc232 k (by omega) (by omega)), (congrArg Value.bool h235), hA245, (by omega), (by omega), (by omega), (by omega), (arrT hc246 k (by omega) (by omega)), (congrArg Value.bool h249), trivial⟩ (fun act252 f251 => ?_)
          clear f229
          refine At.done rfl ?_
          refine t_n ?_
          have f253 := f251.sub (r := [(114, .bool true), (96, .bool (decide ((gI [(gT sl i).c0, (gT sl i).c1, (gT sl i).c2, (gT sl i).c3] k : Int) > (cnt (g.pr.take m.toNat) (2 * k + 1))))), (95, .int .i64 (cnt (g.pr.take m.toNat) (2 * k + 1))), (94, .int .i64 (gI [(gT sl i).c0, (gT sl i).c1, (gT sl i).c2, (gT sl i).c3] k)), (93, .pointer (some (((ad244.add ((i : Int).toNat * 5)).add 1).add ((k : Int).toNat * 1)))), (92, .pointer (some ((ad244.add ((i : Int).toNat * 5)).add 1))), (91, .pointer (some (ad244.add ((i : Int).toNat * 5)))), (90, .int .i64 (k)), (89, .int .i64 (i)), (88, .slice A73 sl.length c74), (11, .int .i64 (k)), (10, .int .i64 (i)), (9, .slice A73 sl.length c74), (2, .pointer (some ⟨w.heap.size, 0, none⟩)), (1, .slice As ls.length cs)]) ⟨rfl, rfl, rfl, rfl, rfl, rfl, rfl, rfl, rfl, rfl, rfl, rfl, rfl, rfl, rfl, trivial⟩
          clear f251
          refine cond_T f253 rfl ?_
          refine wp_seq ?_
          refine At.start ?_
          refine At.rd f253 1 [[]] [(4, .bool false)] [] (by kernel_rfl) trivial (fun act255 f254 => ?_)
          clear f253
          refine At.done rfl ?_
          refine t_n ?_
          have f256 := f254.sub (r := [(4, .bool false)]) ⟨rfl, trivial⟩
          clear f254
          refine wp_ret ?_
          refine b_r ?_
          refine t_r ?_
          refine t_r ?_
          refine b_r ?_
          refine b_r ?_
          refine t_r ?_
          refine t_r ?_
          refine b_r ?_
          refine t_r ?_
          refine ret_ f256 [] [.bool false] [] (by kernel_rfl) trivial ?_
          exfalso; first | omega | exact absurd hst (of_decide_eq_false (by assumption)) | (have := hsc.2.2 (by assumption); omega)
         ·have q257 := of_decide_eq_false h249
          obtain ⟨ad258, hA259, hb262, hc261, hc260⟩ := ow197.get (i) (by omega) (by omega) (sz := 5) rfl
          rcases Bool.eq_false_or_eq_true ((gT sl i).top) with h263 | h263
          ·obtain ⟨ad265, hA266, hb269, hc268, hc267⟩ := ow197.get (i) (by omega) (by omega) (sz := 5) rfl
           refine At.rd f229 36 [[], [], [], [.ad ad230], [], [], [.ld (.int .i64 (gI [(gT sl i).c0, (gT sl i).c1, (gT sl i).c2, (gT sl i).c3] k))], [], [.as_ (.bool false)], [], [], [], [.ad ad244], [], [], [.ld (.int .i64 (gI [(gT sl i).c0, (gT sl i).c1, (gT sl i).c2, (gT sl i).c3] k))], [], [], [], [.as_ (.bool false)], [], [], [.ad ad258], [], [.ld (.bool ((gT sl i).top))], [.as_ (.bool true)], [], [], [], [.ad ad265], [], [], [.ld (.int .i64 (gI [(gT sl i).c0, (gT sl i).c1, (gT sl i).c2, (gT sl i).c3] k))], [], [], []] [(114, .bool ((gI [(gT sl i).c0, (gT sl i).c1, (gT sl i).c2, (gT sl i).c3] k : Int) != 0)), (113, .bool ((gI [(gT sl i).c0, (gT sl i).c1, (gT sl i).c2, (gT sl i).c3] k : Int) != 0)), (112, .bool ((gI [(gT sl i).c0, (gT sl i).c1, (gT sl i).c2, (gT sl i).c3] k : Int) != 0)), (111, .int .i64 (gI [(gT sl i).c0, (gT sl i).c1, (gT sl i).c2, (gT sl i).c3] k)), (110, .pointer (some (((ad265.add ((i : Int).toNat * 5)).add 1).add ((k : Int).toNat * 1)))), (109, .pointer (some ((ad265.add ((i : Int).toNat * 5)).add 1))), (108, .pointer (some (ad265.add ((i : Int).toNat * 5)))), (107, .int .i64 (k)), (106, .int .i64 (i)), (105, .slice A73 sl.length c74), (104, .bool true), (103, .bool ((gT sl i).top)), (102, .pointer (some (ad258.add ((i : Int).toNat * 5)))), (101, .pointer (some (ad258.add ((i : Int).toNat * 5)))), (100, .int .i64 (i)), (99, .slice A73 sl.length c74), (98, .bool false), (97, .bool (decide ((gI [(gT sl i).c0, (gT sl i).c1, (gT sl i).c2, (gT sl i).c3] k : Int) > (cnt (g.pr.take m.toNat) (2 * k + 1))))), (96, .bool (decide ((gI [(gT sl i).c0, (gT sl i).c1, (gT sl i).c2, (gT sl i).c3] k : Int) > (cnt (g.pr.take m.toNat) (2 * k + 1))))), (95, .int .i64 (cnt (g.pr.take m.toNat) (2 * k + 1))), (94, .int .i64 (gI [(gT sl i).c0, (gT sl i).c1, (gT sl i).c2, (gT sl i).c3] k)), (93, .pointer (some (((ad244.add ((i : Int).toNat * 5)).add 1).add ((k : Int).toNat * 1)))), (92, .pointer (some ((ad244.add ((i : Int).toNat * 5)).add 1))), (91, .pointer (some (ad244.add ((i : Int).toNat * 5)))), (90, .int .i64 (k)), (89, .int .i64 (i)), (88, .slice A73 sl.length c74), (87, .bool false), (86, .bool (decide ((gI [(gT sl i).c0, (gT sl i).c1, (gT sl i).c2, (gT sl i).c3] k : Int) < 0))), (85, .int .i64 (gI [(gT sl i).c0, (gT sl i).c1, (gT sl i).c2, (gT sl i).c3] k)), (84, .pointer (some (((ad230.add ((i : Int).toNat * 5)).add 1).add ((k : Int).toNat * 1)))), (83, .pointer (some ((ad230.add ((i : Int).toNat * 5)).add 1))), (82, .pointer (some (ad230.add ((i : Int).toNat * 5)))), (81, .int .i64 (k)), (80, .int .i64 (i)), (79, .slice A73 sl.length c74)] [(A73 = some ad230), (0 ≤ (i : Int)), ((i : Int) < (sl.length : Nat)), (0 ≤ (k : Int)), ((k : Int) < (4 : Nat)), (w190.cell? (((ad230.add ((i : Int).toNat * 5)).add 1).add ((k : Int).toNat * 1)) = some (.int .i64 (gI [(gT sl i).c0, (gT sl i).c1, (gT sl i).c2, (gT sl i).c3] k))), ((.bool (decide ((gI [(gT sl i).c0, (gT sl i).c1, (gT sl i).c2, (gT sl i).c3] k : Int) < 0)) : Value) = .bool false), (A73 = some ad244), (0 ≤ (i : Int)), ((i : Int) < (sl.length : Nat)), (0 ≤ (k : Int)), ((k : Int) < (4 : Nat)), (w190.cell? (((ad244.add ((i : Int).toNat * 5)).add 1).add ((k : Int).toNat * 1)) = some (.int .i64 (gI [(gT sl i).c0, (gT sl i).c1, (gT sl i).c2, (gT sl i).c3] k))), ((.bool (decide ((gI [(gT sl i).c0, (gT sl i).c1, (gT sl i).c2, (gT sl i).c3] k : Int) > (cnt (g.pr.take m.toNat) (2 * k + 1)))) : Value) = .bool false), (A73 = some ad258), (0 ≤ (i : Int)), ((i : Int) < (sl.length : Nat)), (w190.cell? (ad258.add ((i : Int).toNat * 5)) = some (.bool ((gT sl i).top))), ((.bool ((gT sl i).top) : Value) = .bool true), (A73 = some ad265), (0 ≤ (i : Int)), ((i : Int) < (sl.length : Nat)), (0 ≤ (k : Int)), ((k : Int) < (4 : Nat)), (w190.cell? (((ad265.add ((i : Int).toNat * 5)).add 1).add ((k : Int).toNat * 1)) = some (.int .i64 (gI [(gT sl i).c0, (gT sl i).c1, (gT sl i).c2, (gT sl i).c3] k)))] (by kernel_rfl) ⟨hA231, (by omega), (by omega), (by omega), (by omega), (arrT hc232 k (by omega) (by omega)), (congrArg Value.bool h235), hA245, (by omega), (by omega), (by omega), (by omega), (arrT hc246 k (by omega) (by omega)), (congrArg Value.bool h249), hA259, (by omega), (by omega), hc261, (congrArg Value.bool h263), hA266, (by omega), (by omega), (by omega), (by omega), (arrT hc267 k (by omega) (by omega)), trivial⟩ (fun act271 f270 => ?_)
           clear f229
           refine At.done rfl ?_
           refine t_n ?_
           have f272 := f270.sub (r := [(114, .bool ((gI [(gT sl i).c0, (gT sl i).c1, (gT sl i).c2, (gT sl i).c3] k : Int) != 0)), (113, .bool ((gI [(gT sl i).c0, (gT sl i).c1, (gT sl i).c2, (gT sl i).c3] k : Int) != 0)), (112, .bool ((gI [(gT sl i).c0, (gT sl i).c1, (gT sl i).c2, (gT sl i).c3] k : Int) != 0)), (111, .int .i64 (gI [(gT sl i).c0, (gT sl i).c1, (gT sl i).c2, (gT sl i).c3] k)), (110, .pointer (some (((ad265.add ((i : Int).toNat * 5)).add 1).add ((k : Int).toNat * 1)))), (109, .pointer (some ((ad265.add ((i : Int).toNat * 5)).add 1))), (108, .pointer (some (ad265.add ((i : Int).toNat * 5)))), (107, .int .i64 (k)), (106, .int .i64 (i)), (105, .slice A73 sl.length c74), (104, .bool true), (103, .bool ((gT sl i).top)), (102, .pointer (some (ad258.add ((i : Int).toNat * 5)))), (101, .pointer (some (ad258.add ((i : Int).toNat * 5)))), (100, .int .i64 (i)), (99, .slice A73 sl.length c74), (96, .bool (decide ((gI [(gT sl i).c0, (gT sl i).c1, (gT sl i).c2, (gT sl i).c3] k : Int) > (cnt (g.pr.take m.toNat) (2 * k + 1))))), (95, .int .i64 (cnt (g.pr.take m.toNat) (2 * k + 1))), (94, .int .i64 (gI [(gT sl i).c0, (gT sl i).c1, (gT sl i).c2, (gT sl i).c3] k)), (93, .pointer (some (((ad244.add ((i : Int).toNat * 5)).add 1).add ((k : Int).toNat * 1)))), (92, .pointer (some ((ad244.add ((i : Int).toNat * 5)).add 1))), (91, .pointer (some (ad244.add ((i : Int).toNat * 5)))), (90, .int .i64 (k)), (89, .int .i64 (i)), (88, .slice A73 sl.length c74), (11, .int .i64 (k)), (10, .int .i64 (i)), (9, .slice A73 sl.length c74), (2, .pointer (some ⟨w.heap.size, 0, none⟩)), (1, .slice As ls.length cs)]) ⟨rfl, rfl, rfl, rfl, rfl, rfl, rfl, rfl, rfl, rfl, rfl, rfl, rfl, rfl, rfl, rfl, rfl, rfl, rfl, rfl, rfl, rfl, rfl, rfl, rfl, rfl, rfl, rfl, rfl, rfl, trivial⟩
           clear f270
           refine cond_S f272 (t := (gI [(gT sl i).c0, (gT sl i).c1, (gT sl i).c2, (gT sl i).c3] k : Int) != 0) rfl (fun h273 => ?_) (fun h273 => ?_)
           ·have q274 := bne_iff_ne.1 h273
            refine wp_seq ?_
            refine At.start ?_
            refine At.rd f272 1 [[]] [(4, .bool false)] [] (by kernel_rfl) trivial (fun act276 f275 => ?_)
            clear f272
            refine At.done rfl ?_
            refine t_n ?_
            have f277 := f275.sub (r := [(4, .bool false)]) ⟨rfl, trivial⟩
            clear f275
            refine wp_ret ?_
            refine b_r ?_
            refine t_r ?_
            refine t_r ?_
            refine b_r ?_
            refine b_r ?_
            refine t_r ?_
            refine t_r ?_
            refine b_r ?_
            refine t_r ?_
            refine ret_ f277 [] [.bool false] [] (by kernel_rfl) trivial ?_
            exfalso; first | omega | exact absurd hst (of_decide_eq_false (by assumption)) | (have := hsc.2.2 (by assumption); omega)
           ·have q278 := bne_eq_false_iff_eq.1 h273
            refine wp_skip ?_
            refine b_n ?_
            refine t_n ?_
            have f279 := f272.sub (r := [(113, .bool ((gI [(gT sl i).c0, (gT sl i).c1, (gT sl i).c2, (gT sl i).c3] k : Int) != 0)), (112, .bool ((gI [(gT sl i).c0, (gT sl i).c1, (gT sl i).c2, (gT sl i).c3] k : Int) != 0)), (111, .int .i64 (gI [(gT sl i).c0, (gT sl i).c1, (gT sl i).c2, (gT sl i).c3] k)), (110, .pointer (some (((ad265.add ((i : Int).toNat * 5)).add 1).add ((k : Int).toNat * 1)))), (109, .pointer (some ((ad265.add ((i : Int).toNat * 5)).add 1))), (108, .pointer (some (ad265.add ((i : Int).toNat * 5)))), (107, .int .i64 (k)), (106, .int .i64 (i)), (105, .slice A73 sl.length c74), (104, .bool true), (103, .bool ((gT sl i).top)), (102, .pointer (some (ad258.add ((i : Int).toNat * 5)))), (101, .pointer (some (ad258.add ((i : Int).toNat * 5)))), (100, .int .i64 (i)), (99, .slice A73 sl.length c74), (96, .bool (decide ((gI [(gT sl i).c0, (gT sl i).c1, (gT sl i).c2, (gT sl i).c3] k : Int) > (cnt (g.pr.take m.toNat) (2 * k + 1))))), (95, .int .i64 (cnt (g.pr.take m.toNat) (2 * k + 1))), (94, .int .i64 (gI [(gT sl i).c0, (gT sl i).c1, (gT sl i).c2, (gT sl i).c3] k)), (93, .pointer (some (((ad244.add ((i : Int).toNat * 5)).add 1).add ((k : Int).toNat * 1)))), (92, .pointer (some ((ad244.add ((i : Int).toNat * 5)).add 1))), (91, .pointer (some (ad244.add ((i : Int).toNat * 5)))), (90, .int .i64 (k)), (89, .int .i64 (i)), (88, .slice A73 sl.length c74), (11, .int .i64 (k)), (10, .int .i64 (i)), (9, .slice A73 sl.length c74), (2, .pointer (some ⟨w.heap.size, 0, none⟩)), (1, .slice As ls.length cs)]) ⟨rfl, rfl, rfl, rfl, rfl, rfl, rfl, rfl, rfl, rfl, rfl, rfl, rfl, rfl, rfl, rfl, rfl, rfl, rfl, rfl, rfl, rfl, rfl, rfl, rfl, rfl, rfl, rfl, rfl, trivial⟩
            clear f272
            refine At.start ?_
            refine At.rd f279 3 [[], [.as_ (.int .i64 (k + 1))], []] [(11, .int .i64 (k + 1)), (60, .int .i64 (k + 1)), (59, .int .i64 (k))] [((.int .i64 (IntKind.i64.wrap (k + 1)) : Value) = .int .i64 (k + 1))] (by kernel_rfl) ⟨(w64 (by omega) (by omega)), trivial⟩ (fun act281 f280 => ?_)
            clear f279
            refine At.done rfl ?_
            refine t_n ?_
            have f282 := f280.sub (r := [(11, .int .i64 (k + 1)), (10, .int .i64 (i)), (9, .slice A73 sl.length c74), (2, .pointer (some ⟨w.heap.size, 0, none⟩)), (1, .slice As ls.length cs)]) ⟨rfl, rfl, rfl, rfl, rfl, trivial⟩
            exact ⟨_, (by omega), (k + 1), rfl, f282, e191, r194, r195, bx196, ow197, (by omega), (by omega), (by omega)⟩
          ·refine At.rd f229 36 [[], [], [], [.ad ad230], [], [], [.ld (.int .i64 (gI [(gT sl i).c0, (gT sl i).c1, (gT sl i).c2, (gT sl i).c3] k))], [], [.as_ (.bool false)], [], [], [], [.ad ad244], [], [], [.ld (.int .i64 (gI [(gT sl i).c0, (gT sl i).c1, (gT sl i).c2, (gT sl i).c3] k))], [], [], [], [.as_ (.bool false)], [], [], [.ad ad258], [], [.ld (.bool ((gT sl i).top))], [.as_ (.bool false)], [], [], [], [], [], [], [], [], [], []] [(114, .bool false), (113, .bool false), (112, undef), (111, undef), (110, undef), (109, undef), (108, undef), (107, undef), (106, undef), (105, undef), (104, .bool false), (103, .bool ((gT sl i).top)), (102, .pointer (some (ad258.add ((i : Int).toNat * 5)))), (101, .pointer (some (ad258.add ((i : Int).toNat * 5)))), (100, .int .i64 (i)), (99, .slice A73 sl.length c74), (98, .bool false), (97, .bool (decide ((gI [(gT sl i).c0, (gT sl i).c1, (gT sl i).c2, (gT sl i).c3] k : Int) > (cnt (g.pr.take m.toNat) (2 * k + 1))))), (96, .bool (decide ((gI [(gT sl i).c0, (gT sl i).c1, (gT sl i).c2, (gT sl i).c3] k : Int) > (cnt (g.pr.take m.toNat) (2 * k + 1))))), (95, .int .i64 (cnt (g.pr.take m.toNat) (2 * k + 1))), (94, .int .i64 (gI [(gT sl i).c0, (gT sl i).c1, (gT sl i).c2, (gT sl i).c3] k)), (93, .pointer (some (((ad244.add ((i : Int).toNat * 5)).add 1).add ((k : Int).toNat * 1)))), (92, .pointer (some ((ad244.add ((i : Int).toNat * 5)).add 1))), (91, .pointer (some (ad244.add ((i : Int).toNat * 5)))), (90, .int .i64 (k)), (89, .int .i64 (i)), (88, .slice A73 sl.length c74), (87, .bool false), (86, .bool (decide ((gI [(gT sl i).c0, (gT sl i).c1, (gT sl i).c2, (gT sl i).c3] k : Int) < 0))), (85, .int .i64 (gI [(gT sl i).c0, (gT sl i).c1, (gT sl i).c2, (gT sl i).c3] k)), (84, .pointer (some (((ad230.add ((i : Int).toNat * 5)).add 1).add ((k : Int).toNat * 1)))), (83, .pointer (some ((ad230.add ((i : Int).toNat * 5)).add 1))), (82, .pointer (some (ad230.add ((i : Int).toNat * 5)))), (81, .int .i64 (k)), (80, .int .i64 (i)), (79, .slice A73 sl.length c74)] [(A73 = some ad230), (0 ≤ (i : Int)), ((i : Int) < (sl.length : Nat)), (0 ≤ (k : Int)), ((k : Int) < (4 : Nat)), (w190.cell? (((ad230.add ((i : Int).toNat * 5)).add 1).add ((k : Int).toNat * 1)) = some (.int .i64 (gI [(gT sl i).c0, (gT sl i).c1, (gT sl i).c2, (gT sl i).c3] k))), ((.bool (decide ((gI [(gT sl i).c0, (gT sl i).c1, (gT sl i).c2, (gT sl i).c3] k : Int) < 0)) : Value) = .bool false), (A73 = some ad244), (0 ≤ (i : Int)), ((i : Int) < (sl.length : Nat)), (0 ≤ (k : Int)), ((k : Int) < (4 : Nat)), (w190.cell? (((ad244.add ((i : Int).toNat * 5)).add 1).add ((k : Int).toNat * 1)) = some (.int .i64 (gI [(gT sl i).c0, (gT sl i).c1, (gT sl i).c2, (gT sl i).c3] k))), ((.bool (decide ((gI [(gT sl i).c0, (gT sl i).c1, (gT sl i).c2, (gT sl i).c3] k : Int) > (cnt (g.pr.take m.toNat) (2 * k + 1)))) : Value) = .bool false), (A73 = some ad258), (0 ≤ (i : Int)), ((i : Int) < (sl.length : Nat)), (w190.cell? (ad258.add ((i : Int).toNat * 5)) = some (.bool ((gT sl i).top))), ((.bool ((gT sl i).top) : Value) = .bool false)] (by kernel_rfl) ⟨hA231, (by omega), (by omega), (by omega), (by omega), (arrT hc232 k (by omega) (by omega)), (congrArg Value.bool h235), hA245, (by omega), (by omega), (by omega), (by omega), (arrT hc246 k (by omega) (by omega)), (congrArg Value.bool h249), hA259, (by omega), (by omega), hc261, (congrArg Value.bool h263), trivial⟩ (fun act285 f284 => ?_)
           clear f229
           refine At.done rfl ?_
           refine t_n ?_
           have f286 := f284.sub (r := [(114, .bool false), (113, .bool false), (104, .bool false), (103, .bool ((gT sl i).top)), (102, .pointer (some (ad258.add ((i : Int).toNat * 5)))), (101, .pointer (some (ad258.add ((i : Int).toNat * 5)))), (100, .int .i64 (i)), (99, .slice A73 sl.length c74), (96, .bool (decide ((gI [(gT sl i).c0, (gT sl i).c1, (gT sl i).c2, (gT sl i).c3] k : Int) > (cnt (g.pr.take m.toNat) (2 * k + 1))))), (95, .int .i64 (cnt (g.pr.take m.toNat) (2 * k + 1))), (94, .int .i64 (gI [(gT sl i).c0, (gT sl i).c1, (gT sl i).c2, (gT sl i).c3] k)), (93, .pointer (some (((ad244.add ((i : Int).toNat * 5)).add 1).add ((k : Int).toNat * 1)))), (92, .pointer (some ((ad244.add ((i : Int).toNat * 5)).add 1))), (91, .pointer (some (ad244.add ((i : Int).toNat * 5)))), (90, .int .i64 (k)), (89, .int .i64 (i)), (88, .slice A73 sl.length c74), (11, .int .i64 (k)), (10, .int .i64 (i)), (9, .slice A73 sl.length c74), (2, .pointer (some ⟨w.heap.size, 0, none⟩)), (1, .slice As ls.length cs)]) ⟨rfl, rfl, rfl, rfl, rfl, rfl, rfl, rfl, rfl, rfl, rfl, rfl, rfl, rfl, rfl, rfl, rfl, rfl, rfl, rfl, rfl, rfl, trivial⟩
           clear f284
           refine cond_F f286 rfl ?_
           refine wp_skip ?_
           refine b_n ?_
           refine t_n ?_
           have f287 := f286.sub (r := [(113, .bool false), (104, .bool false), (103, .bool ((gT sl i).top)), (102, .pointer (some (ad258.add ((i : Int).toNat * 5)))), (101, .pointer (some (ad258.add ((i : Int).toNat * 5)))), (100, .int .i64 (i)), (99, .slice A73 sl.length c74), (96, .bool (decide ((gI [(gT sl i).c0, (gT sl i).c1, (gT sl i).c2, (gT sl i).c3] k : Int) > (cnt (g.pr.take m.toNat) (2 * k + 1))))), (95, .int .i64 (cnt (g.pr.take m.toNat) (2 * k + 1))), (94, .int .i64 (gI [(gT sl i).c0, (gT sl i).c1, (gT sl i).c2, (gT sl i).c3] k)), (93, .pointer (some (((ad244.add ((i : Int).toNat * 5)).add 1).add ((k : Int).toNat * 1)))), (92, .pointer (some ((ad244.add ((i : Int).toNat * 5)).add 1))), (91, .pointer (some (ad244.add ((i : Int).toNat * 5)))), (90, .int .i64 (k)), (89, .int .i64 (i)), (88, .slice A73 sl.length c74), (11, .int .i64 (k)), (10, .int .i64 (i)), (9, .slice A73 sl.length c74), (2, .pointer (some ⟨w.heap.size, 0, none⟩)), (1, .slice As ls.length cs)]) ⟨rfl, rfl, rfl, rfl, rfl, rfl, rfl, rfl, rfl, rfl, rfl, rfl, rfl, rfl, rfl, rfl, rfl, rfl, rfl, rfl, rfl, trivial⟩
           clear f286
           refine At.start ?_
           refine At.rd f287 3 [[], [.as_ (.int .i64 (k + 1))], []] [(11, .int .i64 (k + 1)), (60, .int .i64 (k + 1)), (59, .int .i64 (k))] [((.int .i64 (IntKind.i64.wrap (k + 1)) : Value) = .int .i64 (k + 1))] (by kernel_rfl) ⟨(w64 (by omega) (by omega)), trivial⟩ (fun act289 f288 => ?_)
           clear f287
           refine At.done rfl ?_
           refine t_n ?_
           have f290 := f288.sub (r := [(11, .int .i64 (k + 1)), (10, .int .i64 (i)), (9, .slice A73 sl.length c74), (2, .pointer (some ⟨w.heap.size, 0, none⟩)), (1, .slice As ls.length cs)]) ⟨rfl, rfl, rfl, rfl, rfl, trivial⟩
           exact ⟨_, (by omega), (k + 1), rfl, f290, e191, r194, r195, bx196, ow197, (by omega), (by omega), (by omega)⟩
      ·have q291 := of_decide_eq_false h180
       refine wp_exit ?_
       refine t_e ?_
       refine t_e ?_
       refine b_e ?_
       refine b_n ?_
       refine t_n ?_
       have f292 := f179.sub (r := [(10, .int .i64 (i)), (9, .slice A73 sl.length c74), (2, .pointer (some ⟨w.heap.size, 0, none⟩)), (1, .slice As ls.length cs)]) ⟨rfl, rfl, rfl, rfl, trivial⟩
       clear f179
       refine At.start ?_
       refine At.rd f292 3 [[], [.as_ (.int .i64 (i + 1))], []] [(10, .int .i64 (i + 1)), (47, .int .i64 (i + 1)), (46, .int .i64 (i))] [((.int .i64 (IntKind.i64.wrap (i + 1)) : Value) = .int .i64 (i + 1))] (by kernel_rfl) ⟨(w64 (by omega) (by omega)), trivial⟩ (fun act294 f293 => ?_)
       clear f292
       refine At.done rfl ?_
       refine t_n ?_
       have f295 := f293.sub (r := [(10, .int .i64 (i + 1)), (9, .slice A73 sl.length c74), (2, .pointer (some ⟨w.heap.size, 0, none⟩)), (1, .slice As ls.length cs)]) ⟨rfl, rfl, rfl, rfl, trivial⟩
       exact ⟨_, (by omega), (i + 1), rfl, f295, e167, r170, r171, bx172, ow173, (by omega), (by omega), (by omega)⟩
    ·have q296 := of_decide_eq_false h118
     refine wp_exit ?_
     refine t_e ?_
     refine t_e ?_
     refine b_e ?_
     refine t_n ?_
     have f297 := f117.sub (r := [(9, .slice A73 sl.length c74), (2, .pointer (some ⟨w.heap.size, 0, none⟩)), (1, .slice As ls.length cs)]) ⟨rfl, rfl, rfl, trivial⟩
     clear f117
     refine wp_seq ?_
     refine At.start ?_
     refine At.rd f297 1 [[]] [(115, .slice As ls.length cs)] [] (by kernel_rfl) trivial (fun act299 f298 => ?_)
     clear f297
     refine At.call f298 26 #[.slice As ls.length cs] (some 116) (by kernel_rfl) (tuples_any (ls := ls) (r109.wide (Nat.zero_le _) (by omega))) ?_
     rintro e_ w304 ⟨A300, c301, rfl, he, ow302⟩
     refine ⟨_, rfl, _, rfl, fun act305 f306 => ?_⟩
     clear f298
     have g307 := gr_ext he
     have lt308 := ow111.lt
     have szw304 := g307.size
     have e309 := e105.gr g307 no_row
     clear e105
     have r310 := r108.gr g307 (fun _ h => by cases h)
     clear r108
     have r311 := r109.gr g307 (fun _ h => by cases h)
     clear r109
     have bx312 := bx110.gr g307 (by simp)
     clear bx110
     have ow313 : OwnR w304 (Sx (w41.heap.size) [obk (A300)]) A73 c74 41 (sl : List Tup) := ow111.grA g307 (fun _ _ h => by cases h) (fun k hk hs => ⟨(fun e => by have := ow302.ge _ e; omega), hs⟩)
     clear ow111
     have ow314 : OwnR w304 (Sx (w104.heap.size) [obk (A73)]) A300 c301 41 (ls : List Tup) := ow302.imp (fun g _ hs => ⟨(fun e => by have := lt308 _ e; have := Sx_base hs; omega), hs⟩)
     clear ow302
     clear lt308
     clear g307 he
     refine At.rd f306 1 [[]] [(14, .slice A300 ((ls).length) c301)] [] (by kernel_rfl) trivial (fun act316 f315 => ?_)
     clear f306
     refine At.done rfl ?_
     refine t_n ?_
     have f317 := f315.sub (r := [(14, .slice A300 ((ls).length) c301), (9, .slice A73 sl.length c74), (2, .pointer (some ⟨w.heap.size, 0, none⟩))]) ⟨rfl, rfl, rfl, trivial⟩
     clear f315
     refine wp_seq ?_
     refine wp_seq ?_
     refine At.start ?_
     refine At.rd f317 5 [[], [], [], [], []] [(121, .bool (((((ls).length : Nat) : Int) : Int) != ((sl.length : Nat) : Int))), (120, .int .i64 (((sl.length : Nat) : Int))), (119, .slice A73 sl.length c74), (118, .int .i64 ((((ls).length : Nat) : Int))), (117, .slice A300 ((ls).length) c301)] [] (by kernel_rfl) trivial (fun act319 f318 => ?_)
     clear f317
     refine At.done rfl ?_
     refine t_n ?_
     have f320 := f318.sub (r := [(121, .bool (((((ls).length : Nat) : Int) : Int) != ((sl.length : Nat) : Int))), (14, .slice A300 ((ls).length) c301), (2, .pointer (some ⟨w.heap.size, 0, none⟩))]) ⟨rfl, rfl, rfl, trivial⟩
     clear f318
     refine cond_S f320 (t := ((((ls).length : Nat) : Int) : Int) != ((sl.length : Nat) : Int)) rfl (fun h321 => ?_) (fun h321 => ?_)
     ·have q322 := bne_iff_ne.1 h321
      refine wp_seq ?_
      refine At.start ?_
      refine At.rd f320 1 [[]] [(4, .bool true)] [] (by kernel_rfl) trivial (fun act324 f323 => ?_)
      clear f320
      refine At.done rfl ?_
      refine t_n ?_
      have f325 := f323.sub (r := [(4, .bool true)]) ⟨rfl, trivial⟩
      clear f323
      refine wp_ret ?_
      refine t_r ?_
      refine ret_ f325 [] [.bool true] [] (by kernel_rfl) trivial ?_
      exact ⟨rfl, e309⟩
     ·have q326 := bne_eq_false_iff_eq.1 h321
      refine wp_skip ?_
      refine t_n ?_
      have f327 := f320.sub (r := [(14, .slice A300 ((ls).length) c301), (2, .pointer (some ⟨w.heap.size, 0, none⟩))]) ⟨rfl, rfl, trivial⟩
      clear f320
      refine wp_seq ?_
      refine wp_seq ?_
      refine At.start ?_
      refine At.rd f327 1 [[]] [(15, .int .i64 (0))] [] (by kernel_rfl) trivial (fun act329 f328 => ?_)
      clear f327
      refine At.done rfl ?_
      refine t_n ?_
      refine wp_block ?_
      have f330 := f328.sub (r := [(15, .int .i64 (0)), (14, .slice A300 ((ls).length) c301), (2, .pointer (some ⟨w.heap.size, 0, none⟩))]) ⟨rfl, rfl, rfl, trivial⟩
      refine loop_g (fun (m_ : Nat) a_ w_ => ∃ (i : Int), m_ = ((ls.length : Int) - i).toNat ∧ (Frm 138 a_ [(15, .int .i64 (i)), (14, .slice A300 ((ls).length) c301), (2, .pointer (some ⟨w.heap.size, 0, none⟩))]) ∧ (Ext w w_) ∧ (RdG w_ 0 w.heap.size Ag0 Ag1 Ag2 cg0 cg1 cg2 g) ∧ (RdR w_ 0 w.heap.size As (ls : List Tup)) ∧ (Bx w_ (w.heap.size) [.slice Ag0 g.ow.length cg0, .slice Ag1 g.pr.length cg1, .slice Ag2 g.mv.length cg2] 25) ∧ (OwnR w_ (Sx (w41.heap.size) [obk (A300)]) A73 c74 41 (sl : List Tup)) ∧ (OwnR w_ (Sx (w104.heap.size) [obk (A73)]) A300 c301 41 (ls : List Tup)) ∧ (0 ≤ i) ∧ (i ≤ (ls.length : Int)) ∧ (w41.heap.size ≤ w_.heap.size) ∧ (w104.heap.size ≤ w_.heap.size)) _ ⟨0, rfl, f330, e309, r310, r311, bx312, ow313, ow314, (by omega), (by omega), (by omega), (by omega)⟩ ?_
      clear f330 f328
      clear r310
      clear r311
      clear bx312
      clear ow313
      clear ow314
      clear e309
      intro m_ act331 w332 ⟨i, hm334, f335, e333, r336, r337, bx338, ow339, ow340, i341, i342, i343, i344⟩
      have szw332 := e333.size
      have := bx338.lt
      refine wp_seq ?_
      refine wp_seq ?_
      refine At.start ?_
      refine At.rd f335 4 [[], [], [], []] [(125, .bool (decide ((i : Int) < (((ls).length : Nat) : Int)))), (124, .int .i64 ((((ls).length : Nat) : Int))), (123, .slice A300 ((ls).length) c301), (122, .int .i64 (i))] [] (by kernel_rfl) trivial (fun act346 f345 => ?_)
      clear f335
      refine At.done rfl ?_
      refine t_n ?_
      have f347 := f345.sub (r := [(125, .bool (decide ((i : Int) < (((ls).length : Nat) : Int)))), (15, .int .i64 (i)), (14, .slice A300 ((ls).length) c301), (2, .pointer (some ⟨w.heap.size, 0, none⟩))]) ⟨rfl, rfl, rfl, rfl, trivial⟩
      clear f345
      refine cond_S f347 (t := decide ((i : Int) < (((ls).length : Nat) : Int))) rfl (fun h348 => ?_) (fun h348 => ?_)
      ·have q349 := of_decide_eq_true h348
       refine wp_skip ?_
       refine t_n ?_
       have f350 := f347.sub (r := [(15, .int .i64 (i)), (14, .slice A300 ((ls).length) c301), (2, .pointer (some ⟨w.heap.size, 0, none⟩))]) ⟨rfl, rfl, rfl, trivial⟩
       clear f347
       refine wp_seq ?_
       refine wp_block ?_
       have hge := liftR_ge hR (l := ls) (by omega) (i := i) (by omega) (by omega)
       refine wp_seq ?_
       obtain ⟨ad351, hA352, hb355, hc354, hc353⟩ := ow340.get (i) (by omega) (by omega) (sz := 5) rfl
       obtain ⟨Cs356, hCs357⟩ : ∃ c : List (Addr × Value), c = [(⟨w.heap.size, 0, none⟩, (.slice Ag0 g.ow.length cg0)), (⟨w.heap.size, 1, none⟩, (.slice Ag1 g.pr.length cg1)), (⟨w.heap.size, 2, none⟩, (.slice Ag2 g.mv.length cg2)), ((ad351.add ((i : Int).toNat * 5)), (.bool ((gT ls i).top))), (((ad351.add ((i : Int).toNat * 5)).add 1), (.int .i64 ((gT ls i).c0))), (((ad351.add ((i : Int).toNat * 5)).add 2), (.int .i64 ((gT ls i).c1))), (((ad351.add ((i : Int).toNat * 5)).add 3), (.int .i64 ((gT ls i).c2))), (((ad351.add ((i : Int).toNat * 5)).add 4), (.int .i64 ((gT ls i).c3)))] := ⟨_, rfl⟩
       have hS358 : HoldsC Cs356 w332 := by rw [hCs357]; exact ⟨(bx338.cell (i := 0) rfl), (bx338.cell (i := 1) rfl), (bx338.cell (i := 2) rfl), hc354, (hc353 1 _ rfl), (hc353 2 _ rfl), (hc353 3 _ rfl), (hc353 4 _ rfl), trivial⟩
       refine AtH.start Cs356 10 #[false, false, false, false, false, false, false, false, false, false] (by kernel_rfl) rfl rfl (fun w360 hw361 => ?_)
       have g359 := gr_drew hw361
       have hS362 := hS358.gr g359
       have szw360 := g359.size
       have e363 := e333.gr g359 no_row
       clear e333
       have r364 := r336.gr g359 (fun _ h => by cases h)
       clear r336
       have r365 := r337.gr g359 (fun _ h => by cases h)
       clear r337
       have bx366 := bx338.gr g359 (by simp)
       clear bx338
       have ow367 := ow339.gr g359 (fun _ _ h => by cases h)
       clear ow339
       have ow368 := ow340.gr g359 (fun _ _ h => by cases h)
       clear ow340
       clear g359 hw361 hS358
       refine AtH.rd (by kernel_rfl) (fun d v c a w h => by cases d <;> exact h) hS362 [0, 1, 2, 4, 5, 6, 7] [[.ld (.slice Ag0 g.ow.length cg0), .ld (.slice Ag1 g.pr.length cg1), .ld (.slice Ag2 g.mv.length cg2)], [], [], [], [], [.ad ad351], [.ld (.bool ((gT ls i).top)), .ld (.int .i64 ((gT ls i).c0)), .ld (.int .i64 ((gT ls i).c1)), .ld (.int .i64 ((gT ls i).c2)), .ld (.int .i64 ((gT ls i).c3))]] [(135, tupV (gT ls i)), (134, .pointer (some (ad351.add ((i : Int).toNat * 5)))), (133, .int .i64 (i)), (132, .slice A300 ((ls).length) c301), (130, .int .i64 (i)), (129, .slice A300 ((ls).length) c301), (128, .agg #[.slice Ag0 g.ow.length cg0, .slice Ag1 g.pr.length cg1, .slice Ag2 g.mv.length cg2])] #[true, true, true, false, true, true, true, true, false, false] [(∃ j_ : Nat, Cs356[j_]? = some (⟨w.heap.size, 0, none⟩, (.slice Ag0 g.ow.length cg0))), (∃ j_ : Nat, Cs356[j_]? = some (⟨w.heap.size, 1, none⟩, (.slice Ag1 g.pr.length cg1))), (∃ j_ : Nat, Cs356[j_]? = some (⟨w.heap.size, 2, none⟩, (.slice Ag2 g.mv.length cg2))), (A300 = some ad351), (0 ≤ (i : Int)), ((i : Int) < ((ls).length : Nat)), (∃ j_ : Nat, Cs356[j_]? = some ((ad351.add ((i : Int).toNat * 5)), (.bool ((gT ls i).top)))), (∃ j_ : Nat, Cs356[j_]? = some (((ad351.add ((i : Int).toNat * 5)).add 1), (.int .i64 ((gT ls i).c0)))), (∃ j_ : Nat, Cs356[j_]? = some (((ad351.add ((i : Int).toNat * 5)).add 2), (.int .i64 ((gT ls i).c1)))), (∃ j_ : Nat, Cs356[j_]? = some (((ad351.add ((i : Int).toNat * 5)).add 3), (.int .i64 ((gT ls i).c2)))), (∃ j_ : Nat, Cs356[j_]? = some (((ad351.add ((i : Int).toNat * 5)).add 4), (.int .i64 ((gT ls i).c3))))] 3 f350 (by kernel_rfl) ⟨⟨0, by rw [hCs357]; rfl⟩, ⟨1, by rw [hCs357]; rfl⟩, ⟨2, by rw [hCs357]; rfl⟩, hA352, (by omega), (by omega), ⟨3, by rw [hCs357]; rfl⟩, ⟨4, by rw [hCs357]; rfl⟩, ⟨5, by rw [hCs357]; rfl⟩, ⟨6, by rw [hCs357]; rfl⟩, ⟨7, by rw [hCs357]; rfl⟩, trivial⟩ (fun act370 f369 => ?_)
       clear f350
       refine AtH.all [3] 2 (by kernel_rfl) (by simp) ⟨?_, trivial⟩
       refine OneH.call f369 37 #[.agg #[.slice Ag0 g.ow.length cg0, .slice Ag1 g.pr.length cg1, .slice Ag2 g.mv.length cg2], .slice A300 ((ls).length) c301, .int .i64 (i)] (some 131) #[true, true, true, true, true, true, true, true, false, false] (by kernel_rfl) (by kernel_rfl) (lift_any (g := g) (ls := ls) (at_ := i) (r364.wide (Nat.zero_le _) (by omega)) ((ow368.rdR (by simp only [Enc.bytes]; omega)).wide (Nat.zero_le _) (by omega)) (by first | assumption | exact hoks)) ?_
       rintro e_ w372 ⟨rfl, he⟩
       refine ⟨_, rfl, _, rfl, fun act373 f374 => ?_⟩
       clear f369
       have g375 := gr_ext he
       have hS371 := hS362.gr g375
       have szw372 := g375.size
       have e376 := e363.gr g375 no_row
       clear e363
       have r377 := r364.gr g375 (fun _ h => by cases h)
       clear r364
       have r378 := r365.gr g375 (fun _ h => by cases h)
       clear r365
       have bx379 := bx366.gr g375 (by simp)
       clear bx366
       have ow380 := ow367.gr g375 (fun _ _ h => by cases h)
       clear ow367
       have ow381 := ow368.gr g375 (fun _ _ h => by cases h)
       clear ow368
       clear g375 he
       refine ⟨hS371, ?_⟩
       refine AtH.all [8] 1 (by kernel_rfl) (by simp) ⟨?_, trivial⟩
       refine OneH.call f374 23 #[tupV (liftR g ls i), tupV (gT ls i), .int .i64 (0)] (some 136) #[true, true, true, true, true, true, true, true, true, false] (by kernel_rfl) (by kernel_rfl) (cmpM_any (a := (liftR g ls i)) (b := (gT ls i)) (p := 0)) ?_
       rintro e_ w383 ⟨rfl, he⟩
       have := cmp_rng (liftR g ls i) (gT ls i) 0
       refine ⟨_, rfl, _, rfl, fun act384 f385 => ?_⟩
       clear f374
       have g386 := gr_ext he
       have hS382 := hS371.gr g386
       have szw383 := g386.size
       have e387 := e376.gr g386 no_row
       clear e376
       have r388 := r377.gr g386 (fun _ h => by cases h)
       clear r377
       have r389 := r378.gr g386 (fun _ h => by cases h)
       clear r378
       have bx390 := bx379.gr g386 (by simp)
       clear bx379
       have ow391 := ow380.gr g386 (fun _ _ h => by cases h)
       clear ow380
       have ow392 := ow381.gr g386 (fun _ _ h => by cases h)
       clear ow381
       clear g386 he
       refine ⟨hS382, ?_⟩
       refine AtH.rd (by kernel_rfl) (fun d v c a w h => by cases d <;> exact h) hS382 [9] [[]] [(137, .bool (decide ((cmpT (liftR g ls i) (gT ls i) 0 : Int) < 0)))] #[true, true, true, true, true, true, true, true, true, true] [] 0 f385 (by kernel_rfl) trivial (fun act394 f393 => ?_)
       clear f385
       refine AtH.done (by kernel_rfl) ?_
       clear hS382
       refine t_n ?_
       have f395 := f393.sub (r := [(137, .bool (decide ((cmpT (liftR g ls i) (gT ls i) 0 : Int) < 0))), (15, .int .i64 (i)), (14, .slice A300 ((ls).length) c301), (2, .pointer (some ⟨w.heap.size, 0, none⟩))]) ⟨rfl, rfl, rfl, rfl, trivial⟩
       clear f393
       refine cond_S f395 (t := decide ((cmpT (liftR g ls i) (gT ls i) 0 : Int) < 0)) rfl (fun h396 => ?_) (fun h396 => ?_)
       ·have q397 := of_decide_eq_true h396
        refine wp_seq ?_
        refine At.start ?_
        refine At.rd f395 1 [[]] [(4, .bool false)] [] (by kernel_rfl) trivial (fun act399 f398 => ?_)
        clear f395
        refine At.done rfl ?_
        refine t_n ?_
        have f400 := f398.sub (r := [(4, .bool false)]) ⟨rfl, trivial⟩
        clear f398
        refine wp_ret ?_
        refine b_r ?_
        refine t_r ?_
        refine t_r ?_
        refine b_r ?_
        refine t_r ?_
        refine ret_ f400 [] [.bool false] [] (by kernel_rfl) trivial ?_
        exfalso; first | omega | exact absurd hst (of_decide_eq_false (by assumption)) | (have := hsc.2.2 (by assumption); omega)
       ·have q401 := of_decide_eq_false h396
        refine wp_skip ?_
        refine b_n ?_
        refine t_n ?_
        have f402 := f395.sub (r := [(15, .int .i64 (i)), (14, .slice A300 ((ls).length) c301), (2, .pointer (some ⟨w.heap.size, 0, none⟩))]) ⟨rfl, rfl, rfl, trivial⟩
        clear f395
        refine At.start ?_
        refine At.rd f402 3 [[], [.as_ (.int .i64 (i + 1))], []] [(15, .int .i64 (i + 1)), (127, .int .i64 (i + 1)), (126, .int .i64 (i))] [((.int .i64 (IntKind.i64.wrap (i + 1)) : Value) = .int .i64 (i + 1))] (by kernel_rfl) ⟨(w64 (by omega) (by omega)), trivial⟩ (fun act404 f403 => ?_)
        clear f402
        refine At.done rfl ?_
        refine t_n ?_
        have f405 := f403.sub (r := [(15, .int .i64 (i + 1)), (14, .slice A300 ((ls).length) c301), (2, .pointer (some ⟨w.heap.size, 0, none⟩))]) ⟨rfl, rfl, rfl, trivial⟩
        exact ⟨_, (by omega), (i + 1), rfl, f405, e387, r388, r389, bx390, ow391, ow392, (by omega), (by omega), (by omega), (by omega)⟩
      ·have q406 := of_decide_eq_false h348
       refine wp_exit ?_
       refine t_e ?_
       refine t_e ?_
       refine b_e ?_
       refine t_n ?_
       have f407 := f347.sub (r := []) trivial
       clear f347
       refine wp_seq ?_
       refine At.start ?_
       refine At.rd f407 1 [[]] [(4, .bool true)] [] (by kernel_rfl) trivial (fun act409 f408 => ?_)
       clear f407
       refine At.done rfl ?_
       refine t_n ?_
       refine wp_ret ?_
       refine ret_ f408 [] [.bool true] [] (by kernel_rfl) trivial ?_
       exact ⟨rfl, e333⟩

end Go.Proofs.Ytklbpajmoklheaa
