/-
  A walk of a Go function, printed by a program of this repo. Conditions: what the theorems name.
-/
import Derived.Test.YtklbpajmoklheaaPureRank
import Derived.Test.YtklbpajmoklheaaWBest2
import Derived.Test.YtklbpajmoklheaaWIs
set_option linter.unusedVariables false
set_option linter.unusedSimpArgs false
namespace Go.Proofs.Ytklbpajmoklheaa
open Go Go.RowKit

set_option maxHeartbeats 4000000 in
theorem solveR_any {Ag0 Ag1 Ag2 : Option Addr} {cg0 cg1 cg2 : Nat} {g : GameL} {w : World} (rg : RdG w 0 w.heap.size Ag0 Ag1 Ag2 cg0 cg1 cg2 g) :
    Calls Try.prog 27 #[.agg #[.slice Ag0 g.ow.length cg0, .slice Ag1 g.pr.length cg1, .slice Ag2 g.mv.length cg2]] w fun e w' => ∃ A c l, e = .returned (.slice A l.length c) ∧ Ext w w' ∧ OwnR w' (Sx w.heap.size []) A c 40 (l : List Tup) ∧ SolvedT g l := by
 have hlg0 := rg.ow.len
 have hlg1 := rg.pr.len
 have hlg2 := rg.mv.len
 have hkg0 := rg.k0
 have hkg1 := rg.k1
 have hkg2 := rg.k2
 refine enter_ (args := [.agg #[.slice Ag0 g.ow.length cg0, .slice Ag1 g.pr.length cg1, .slice Ag2 g.mv.length cg2]]) Try.func27 rfl Try.ntmps27 (Nat.le_of_ble_eq_true rfl) (fun act0 f0 => ?_)
 have e0 := Ext.refl w
 refine wp_seq ?_
 refine At.start ?_
 refine At.seq f0 1 [[]] [(1, .pointer (some ⟨w.heap.size, 0, none⟩))] (w.alloc (.cells #[.slice Ag0 g.ow.length cg0, .slice Ag1 g.pr.length cg1, .slice Ag2 g.mv.length cg2] 25 (0, 0))) [] (by kernel_rfl) trivial (fun act4 w1 hw2 f3 => ?_)
 clear f0
 have g5 := gr_alloc hw2
 have szw1 := g5.size
 have e7 := e0.gr g5 no_row
 clear e0
 have r8 := rg.gr g5 (fun _ h => by cases h)
 clear rg
 have bx9 : Bx w1 (w.heap.size) [.slice Ag0 g.ow.length cg0, .slice Ag1 g.pr.length cg1, .slice Ag2 g.mv.length cg2] 25 := Bx.new hw2
 have := bx9.lt
 clear g5 hw2
 refine At.rd f3 1 [[]] [(2, .slice none 0 0)] [] (by kernel_rfl) trivial (fun act11 f10 => ?_)
 clear f3
 refine At.done rfl ?_
 refine t_n ?_
 have f12 := f10.sub (r := [(2, .slice none 0 0), (1, .pointer (some ⟨w.heap.size, 0, none⟩))]) ⟨rfl, rfl, trivial⟩
 clear f10
 refine wp_seq ?_
 refine At.start ?_
 refine At.rd f12 1 [[.ld (.slice Ag0 g.ow.length cg0), .ld (.slice Ag1 g.pr.length cg1), .ld (.slice Ag2 g.mv.length cg2)]] [(8, .agg #[.slice Ag0 g.ow.length cg0, .slice Ag1 g.pr.length cg1, .slice Ag2 g.mv.length cg2])] [(w1.cell? ⟨w.heap.size, 0, none⟩ = some (.slice Ag0 g.ow.length cg0)), (w1.cell? ⟨w.heap.size, 1, none⟩ = some (.slice Ag1 g.pr.length cg1)), (w1.cell? ⟨w.heap.size, 2, none⟩ = some (.slice Ag2 g.mv.length cg2))] (by kernel_rfl) ⟨(bx9.cell (i := 0) rfl), (bx9.cell (i := 1) rfl), (bx9.cell (i := 2) rfl), trivial⟩ (fun act14 f13 => ?_)
 clear f12
 refine At.call f13 32 #[.agg #[.slice Ag0 g.ow.length cg0, .slice Ag1 g.pr.length cg1, .slice Ag2 g.mv.length cg2]] (some 9) (by kernel_rfl) (isR_any (r8.wide (Nat.zero_le _) (by omega))) ?_
 rintro e_ w15 ⟨rfl, he⟩
 refine ⟨_, rfl, _, rfl, fun act16 f17 => ?_⟩
 clear f13
 have g18 := gr_ext he
 have szw15 := g18.size
 have e19 := e7.gr g18 no_row
 clear e7
 have r20 := r8.gr g18 (fun _ h => by cases h)
 clear r8
 have bx21 := bx9.gr g18 (by simp)
 clear bx9
 clear g18 he
 refine At.rd f17 1 [[]] [(3, .bool (isR g))] [] (by kernel_rfl) trivial (fun act23 f22 => ?_)
 clear f17
 refine At.done rfl ?_
 refine t_n ?_
 have f24 := f22.sub (r := [(3, .bool (isR g)), (2, .slice none 0 0), (1, .pointer (some ⟨w.heap.size, 0, none⟩))]) ⟨rfl, rfl, rfl, trivial⟩
 clear f22
 refine wp_seq ?_
 refine wp_seq ?_
 refine At.start ?_
 refine At.rd f24 2 [[], []] [(11, .bool (!(isR g))), (10, .bool (isR g))] [] (by kernel_rfl) trivial (fun act26 f25 => ?_)
 clear f24
 refine At.done rfl ?_
 refine t_n ?_
 have f27 := f25.sub (r := [(11, .bool (!(isR g))), (2, .slice none 0 0), (1, .pointer (some ⟨w.heap.size, 0, none⟩))]) ⟨rfl, rfl, rfl, trivial⟩
 clear f25
 refine cond_S f27 (t := !(isR g)) rfl (fun h28 => ?_) (fun h28 => ?_)
 ·have q29 : (isR g) = false := by first | exact Eq.mp (Bool.not_eq_true' _) h28 | exact Eq.mp (Bool.not_eq_false' _) h28 | simpa using h28
  refine wp_seq ?_
  refine At.start ?_
  refine At.rd f27 1 [[]] [(2, .slice none 0 0)] [] (by kernel_rfl) trivial (fun act32 f31 => ?_)
  clear f27
  refine At.done rfl ?_
  refine t_n ?_
  have f33 := f31.sub (r := [(2, .slice none 0 0)]) ⟨rfl, trivial⟩
  clear f31
  refine wp_ret ?_
  refine t_r ?_
  refine ret_ f33 [] [.slice none 0 0] [] (by kernel_rfl) trivial ?_
  exact ⟨none, 0, [], rfl, e19, OwnR.nil, .inl ⟨by assumption, rfl⟩⟩
 ·have q34 : (isR g) = true := by first | exact Eq.mp (Bool.not_eq_true' _) h28 | exact Eq.mp (Bool.not_eq_false' _) h28 | simpa using h28
  refine wp_skip ?_
  refine t_n ?_
  have f36 := f27.sub (r := [(2, .slice none 0 0), (1, .pointer (some ⟨w.heap.size, 0, none⟩))]) ⟨rfl, rfl, trivial⟩
  clear f27
  refine wp_seq ?_
  have hG := isR_ok (by assumption)
  have hn1 := hG.n1
  refine At.start ?_
  refine At.rd f36 3 [[], [.ld (.slice Ag0 g.ow.length cg0)], []] [(14, .int .i64 (((g.ow.length : Nat) : Int))), (13, .slice Ag0 g.ow.length cg0), (12, .pointer (some ⟨w.heap.size, 0, none⟩))] [(w15.cell? ⟨w.heap.size, 0, none⟩ = some (.slice Ag0 g.ow.length cg0))] (by kernel_rfl) ⟨(bx21.cell (i := 0) rfl), trivial⟩ (fun act38 f37 => ?_)
  clear f36
  refine At.act f37 (makeR (k1 := .i64) (k2 := .i64) (α := Tup) (e := 40) (bytes := 40) (t := 48) (d := 15) (n := ((g.ow.length : Nat) : Int)) (cap := ((g.ow.length : Nat) : Int)) ((⟨false, 0, 0, 0, 0⟩ : Tup)) (by kernel_rfl) rfl (by kernel_rfl) (by omega) (by omega) (by omega) (by omega)) ?_
  rintro d_ v_ w39 ⟨rfl, rfl, g40, hO41⟩
  refine ⟨_, rfl, fun act45 f44 => ?_⟩
  clear f37
  replace hO41 := hO41 (Sx (w15.heap.size) []) (Nat.le_refl _)
  have szw39 := g40.size
  have e46 := e19.gr g40 no_row
  clear e19
  have r47 := r20.gr g40 (fun _ h => by cases h)
  clear r20
  have bx48 := bx21.gr g40 (by simp)
  clear bx21
  clear g40
  have : (List.replicate (((g.ow.length : Nat) : Int) : Int).toNat ((⟨false, 0, 0, 0, 0⟩ : Tup) : Tup)).length = (((g.ow.length : Nat) : Int) : Int).toNat := List.length_replicate
  refine At.rd f44 1 [[]] [(4, .slice (some ⟨w15.heap.size, 0, none⟩) ((List.replicate (((g.ow.length : Nat) : Int) : Int).toNat ((⟨false, 0, 0, 0, 0⟩ : Tup) : Tup)).length) ((((g.ow.length : Nat) : Int) : Int).toNat))] [] (by kernel_rfl) trivial (fun act50 f49 => ?_)
  clear f44
  refine At.done rfl ?_
  refine t_n ?_
  have f51 := f49.sub (r := [(4, .slice (some ⟨w15.heap.size, 0, none⟩) ((List.replicate (((g.ow.length : Nat) : Int) : Int).toNat ((⟨false, 0, 0, 0, 0⟩ : Tup) : Tup)).length) ((((g.ow.length : Nat) : Int) : Int).toNat)), (2, .slice none 0 0), (1, .pointer (some ⟨w.heap.size, 0, none⟩))]) ⟨rfl, rfl, rfl, trivial⟩
  clear f49
  refine wp_seq ?_
  refine wp_seq ?_
  refine At.start ?_
  refine At.rd f51 1 [[]] [(5, .bool true)] [] (by kernel_rfl) trivial (fun act53 f52 => ?_)
  clear f51
  refine At.done rfl ?_
  refine t_n ?_
  refine wp_block ?_
  have f57 := f52.as 4 (.slice (some ⟨w15.heap.size, 0, none⟩) ((List.replicate (((g.ow.length : Nat) : Int) : Int).toNat ((⟨false, 0, 0, 0, 0⟩ : Tup) : Tup)).length) ((((g.ow.length : Nat) : Int) : Int).toNat)) (.slice (some ⟨w15.heap.size, 0, none⟩) ((List.replicate (((g.ow.length : Nat) : Int) : Int).toNat ((⟨false, 0, 0, 0, 0⟩ : Tup) : Tup) : List Tup).length) ((((g.ow.length : Nat) : Int) : Int).toNat)) rfl (slice_len (by first | rfl | omega | (simp; done) | (simp; omega)))
  clear f52
  have f56 := f57.sub (r := [(5, .bool true), (4, .slice (some ⟨w15.heap.size, 0, none⟩) ((List.replicate (((g.ow.length : Nat) : Int) : Int).toNat ((⟨false, 0, 0, 0, 0⟩ : Tup) : Tup) : List Tup).length) ((((g.ow.length : Nat) : Int) : Int).toNat)), (2, .slice none 0 0), (1, .pointer (some ⟨w.heap.size, 0, none⟩))]) ⟨rfl, rfl, rfl, rfl, trivial⟩
  refine loop_g (fun (m_ : Nat) a_ w_ => ∃ (mo : Bool) (l : List Tup) (A_54 : Option Addr) (c_55 : Nat), m_ = 2 * farG g l + mo.toNat ∧ (Frm 39 a_ [(5, .bool (mo)), (4, .slice A_54 l.length c_55), (2, .slice none 0 0), (1, .pointer (some ⟨w.heap.size, 0, none⟩))]) ∧ (Ext w w_) ∧ (RdG w_ 0 w.heap.size Ag0 Ag1 Ag2 cg0 cg1 cg2 g) ∧ (Bx w_ (w.heap.size) [.slice Ag0 g.ow.length cg0, .slice Ag1 g.pr.length cg1, .slice Ag2 g.mv.length cg2] 25) ∧ (OwnR w_ (Sx (w15.heap.size) []) A_54 c_55 40 (l : List Tup)) ∧ (BndL g l) ∧ (LowT g l) ∧ (mo = false → PreT g l) ∧ (w15.heap.size ≤ w_.heap.size)) _ ⟨true, (List.replicate (((g.ow.length : Nat) : Int) : Int).toNat ((⟨false, 0, 0, 0, 0⟩ : Tup) : Tup) : List Tup), some ⟨w15.heap.size, 0, none⟩, (((g.ow.length : Nat) : Int) : Int).toNat, rfl, f56, e46, r47, bx48, hO41, (bnd_zero g), (low_zero g), (fun h => by cases h), (by omega)⟩ ?_
  clear f56 f57
  clear r47
  clear bx48
  clear hO41
  clear e46
  intro m_ act58 w59 ⟨mo, l, A_54, c_55, hm61, f62, e60, r63, bx64, ow65, hb, hlow, hpre, i66⟩
  have szw59 := e60.size
  have := bx64.lt
  refine wp_seq ?_
  refine wp_seq ?_
  refine At.start ?_
  refine At.rd f62 1 [[]] [(16, .bool (mo))] [] (by kernel_rfl) trivial (fun act68 f67 => ?_)
  clear f62
  refine At.done rfl ?_
  refine t_n ?_
  have f69 := f67.sub (r := [(16, .bool (mo)), (4, .slice A_54 l.length c_55), (2, .slice none 0 0), (1, .pointer (some ⟨w.heap.size, 0, none⟩))]) ⟨rfl, rfl, rfl, rfl, trivial⟩
  clear f67
  refine cond_S f69 (t := mo) rfl (fun h70 => ?_) (fun h70 => ?_)
  ·refine wp_skip ?_
   refine t_n ?_
   have f72 := f69.sub (r := [(4, .slice A_54 l.length c_55), (2, .slice none 0 0), (1, .pointer (some ⟨w.heap.size, 0, none⟩))]) ⟨rfl, rfl, rfl, trivial⟩
   clear f69
   refine wp_block ?_
   refine wp_seq ?_
   refine At.start ?_
   refine At.rd f72 1 [[]] [(5, .bool false)] [] (by kernel_rfl) trivial (fun act74 f73 => ?_)
   clear f72
   refine At.done rfl ?_
   refine t_n ?_
   refine wp_seq ?_
   refine At.start ?_
   refine At.rd f73 1 [[]] [(6, .int .i64 (0))] [] (by kernel_rfl) trivial (fun act76 f75 => ?_)
   clear f73
   refine At.done rfl ?_
   refine t_n ?_
   refine wp_block ?_
   have f80 := f75.as 4 (.slice A_54 l.length c_55) (.slice A_54 ((l : List Tup).length) c_55) rfl (slice_len (by first | rfl | omega | (simp; done) | (simp; omega)))
   clear f75
   have f79 := f80.sub (r := [(6, .int .i64 (0)), (5, .bool false), (4, .slice A_54 ((l : List Tup).length) c_55), (2, .slice none 0 0), (1, .pointer (some ⟨w.heap.size, 0, none⟩))]) ⟨rfl, rfl, rfl, rfl, rfl, trivial⟩
   refine loop_g (fun (m_ : Nat) a_ w_ => ∃ (i : Int) (m2 : Bool) (lb : List Tup) (A_77 : Option Addr) (c_78 : Nat), m_ = ((lb.length : Int) - i).toNat ∧ (Frm 39 a_ [(6, .int .i64 (i)), (5, .bool (m2)), (4, .slice A_77 lb.length c_78), (2, .slice none 0 0), (1, .pointer (some ⟨w.heap.size, 0, none⟩))]) ∧ (Ext w w_) ∧ (RdG w_ 0 w.heap.size Ag0 Ag1 Ag2 cg0 cg1 cg2 g) ∧ (Bx w_ (w.heap.size) [.slice Ag0 g.ow.length cg0, .slice Ag1 g.pr.length cg1, .slice Ag2 g.mv.length cg2] 25) ∧ (OwnR w_ (Sx (w15.heap.size) []) A_77 c_78 40 (lb : List Tup)) ∧ (0 ≤ i) ∧ (i ≤ (lb.length : Int)) ∧ (BndL g lb) ∧ (LowT g lb) ∧ (RoundT g l lb i m2) ∧ (w15.heap.size ≤ w_.heap.size)) _ ⟨0, false, (l : List Tup), A_54, c_55, rfl, f79, e60, r63, bx64, ow65, (by omega), (by omega), hb, hlow, round0, (by omega)⟩ ?_
   clear f79 f80
   clear r63
   clear bx64
   clear ow65
   clear e60
   intro m_ act81 w82 ⟨i, m2, lb, A_77, c_78, hm84, f85, e83, r86, bx87, ow88, i89, i90, hb2, hlow2, hrd, i91⟩
   have szw82 := e83.size
   have := bx87.lt
   have hbl := hb2.1
   have hok := bnd_ok hb2
   refine wp_seq ?_
   refine wp_seq ?_
   refine At.start ?_
   refine At.rd f85 4 [[], [], [], []] [(20, .bool (decide ((i : Int) < ((lb.length : Nat) : Int)))), (19, .int .i64 (((lb.length : Nat) : Int))), (18, .slice A_77 lb.length c_78), (17, .int .i64 (i))] [] (by kernel_rfl) trivial (fun act93 f92 => ?_)
   clear f85
   refine At.done rfl ?_
   refine t_n ?_
   have f94 := f92.sub (r := [(20, .bool (decide ((i : Int) < ((lb.length : Nat) : Int)))), (6, .int .i64 (i)), (5, .bool (m2)), (4, .slice A_77 lb.length c_78), (2, .slice none 0 0), (1, .pointer (some ⟨w.heap.size, 0, none⟩))]) ⟨rfl, rfl, rfl, rfl, rfl, rfl, trivial⟩
   clear f92
   refine cond_S f94 (t := decide ((i : Int) < ((lb.length : Nat) : Int))) rfl (fun h95 => ?_) (fun h95 => ?_)
   ·have q96 := of_decide_eq_true h95
    refine wp_skip ?_
    refine t_n ?_
    have f97 := f94.sub (r := [(6, .int .i64 (i)), (5, .bool (m2)), (4, .slice A_77 lb.length c_78), (2, .slice none 0 0), (1, .pointer (some ⟨w.heap.size, 0, none⟩))]) ⟨rfl, rfl, rfl, rfl, rfl, trivial⟩
    clear f94
    refine wp_seq ?_
    refine wp_block ?_
    refine wp_seq ?_
    refine At.start ?_
    refine At.rd f97 3 [[.ld (.slice Ag0 g.ow.length cg0), .ld (.slice Ag1 g.pr.length cg1), .ld (.slice Ag2 g.mv.length cg2)], [], []] [(25, .int .i64 (i)), (24, .slice A_77 lb.length c_78), (23, .agg #[.slice Ag0 g.ow.length cg0, .slice Ag1 g.pr.length cg1, .slice Ag2 g.mv.length cg2])] [(w82.cell? ⟨w.heap.size, 0, none⟩ = some (.slice Ag0 g.ow.length cg0)), (w82.cell? ⟨w.heap.size, 1, none⟩ = some (.slice Ag1 g.pr.length cg1)), (w82.cell? ⟨w.heap.size, 2, none⟩ = some (.slice Ag2 g.mv.length cg2))] (by kernel_rfl) ⟨(bx87.cell (i := 0) rfl), (bx87.cell (i := 1) rfl), (bx87.cell (i := 2) rfl), trivial⟩ (fun act99 f98 => ?_)
    clear f97
    refine At.call f98 44 #[.agg #[.slice Ag0 g.ow.length cg0, .slice Ag1 g.pr.length cg1, .slice Ag2 g.mv.length cg2], .slice A_77 lb.length c_78, .int .i64 (i)] (some 26) (by kernel_rfl) (bestR_any (ls := lb) (at_ := i) (r86.wide (Nat.zero_le _) (by omega)) ((ow88.rdR (by simp only [Enc.bytes]; omega)).wide (Nat.zero_le _) (by omega)) hG (by omega) (by assumption) (by omega) (by omega)) ?_
    rintro e_ w100 ⟨rfl, he⟩
    refine ⟨_, rfl, _, rfl, fun act101 f102 => ?_⟩
    clear f98
    have g103 := gr_ext he
    have szw100 := g103.size
    have e104 := e83.gr g103 no_row
    clear e83
    have r105 := r86.gr g103 (fun _ h => by cases h)
    clear r86
    have bx106 := bx87.gr g103 (by simp)
    clear bx87
    have ow107 := ow88.gr g103 (fun _ _ h => by cases h)
    clear ow88
    clear g103 he
    refine At.seq f102 1 [[]] [(7, .pointer (some ⟨w100.heap.size, 0, none⟩))] (w100.alloc (.cells #[.bool false, .int .i64 (0), .int .i64 (0), .int .i64 (0), .int .i64 (0)] 40 (0, 0))) [] (by kernel_rfl) trivial (fun act111 w108 hw109 f110 => ?_)
    clear f102
    have g112 := gr_alloc hw109
    have szw108 := g112.size
    have e114 := e104.gr g112 no_row
    clear e104
    have r115 := r105.gr g112 (fun _ h => by cases h)
    clear r105
    have bx116 := bx106.gr g112 (by simp)
    clear bx106
    have ow117 : OwnR w108 (Sx (w15.heap.size) [some (w100.heap.size)]) A_77 c_78 40 (lb : List Tup) := ow107.grA g112 (fun _ _ h => by cases h) (fun k hk hs => ⟨(fun e => by injection e; omega), hs⟩)
    clear ow107
    have bx118 : Bx w108 (w100.heap.size) [.bool false, .int .i64 (0), .int .i64 (0), .int .i64 (0), .int .i64 (0)] 40 := Bx.new hw109
    have := bx118.lt
    clear g112 hw109
    refine At.store f110 (t := 40) (b := w100.heap.size) (off := 0) (v := tupV ((bestB (upG g lb i) (gI g.ow i) (gL g.mv i)).1)) (by kernel_rfl) bx118 (by kernel_rfl) (fun act123 w119 g120 bx121 f122 => ?_)
    clear f110
    replace bx121 : Bx w119 (w100.heap.size) (tupC ((bestB (upG g lb i) (gI g.ow i) (gL g.mv i)).1)) 40 := bx121
    have szw119 := g120.size
    have e124 := e114.gr g120 (fun k h => by injection h; omega)
    clear e114
    have r125 := r115.gr g120 (fun k h => by injection h; omega)
    clear r115
    have bx126 := bx116.gr g120 (fun h => by injection h; omega)
    clear bx116
    have ow127 := ow117.gr g120 (fun k hk => hk.1)
    clear ow117
    clear bx118 g120
    refine At.done rfl ?_
    refine t_n ?_
    have f128 := f122.sub (r := [(7, .pointer (some ⟨w100.heap.size, 0, none⟩)), (6, .int .i64 (i)), (5, .bool (m2)), (4, .slice A_77 lb.length c_78), (2, .slice none 0 0), (1, .pointer (some ⟨w.heap.size, 0, none⟩))]) ⟨rfl, rfl, rfl, rfl, rfl, rfl, trivial⟩
    clear f122
    refine wp_seq ?_
    obtain ⟨ad129, hA130, hb133, hc132, hc131⟩ := ow127.get (i) (by omega) (by omega) (sz := 5) rfl
    obtain ⟨Cs134, hCs135⟩ : ∃ c : List (Addr × Value), c = [(⟨w100.heap.size, 0, none⟩, (.bool ((bestB (upG g lb i) (gI g.ow i) (gL g.mv i)).1.top))), (⟨w100.heap.size, 1, none⟩, (.int .i64 ((bestB (upG g lb i) (gI g.ow i) (gL g.mv i)).1.c0))), (⟨w100.heap.size, 2, none⟩, (.int .i64 ((bestB (upG g lb i) (gI g.ow i) (gL g.mv i)).1.c1))), (⟨w100.heap.size, 3, none⟩, (.int .i64 ((bestB (upG g lb i) (gI g.ow i) (gL g.mv i)).1.c2))), (⟨w100.heap.size, 4, none⟩, (.int .i64 ((bestB (upG g lb i) (gI g.ow i) (gL g.mv i)).1.c3))), ((ad129.add ((i : Int).toNat * 5)), (.bool ((gT lb i).top))), (((ad129.add ((i : Int).toNat * 5)).add 1), (.int .i64 ((gT lb i).c0))), (((ad129.add ((i : Int).toNat * 5)).add 2), (.int .i64 ((gT lb i).c1))), (((ad129.add ((i : Int).toNat * 5)).add 3), (.int .i64 ((gT lb i).c2))), (((ad129.add ((i : Int).toNat * 5)).add 4), (.int .i64 ((gT lb i).c3)))] := ⟨_, rfl⟩
    have hS136 : HoldsC Cs134 w119 := by rw [hCs135]; exact ⟨(bx121.cell (i := 0) rfl), (bx121.cell (i := 1) rfl), (bx121.cell (i := 2) rfl), (bx121.cell (i := 3) rfl), (bx121.cell (i := 4) rfl), hc132, (hc131 1 _ rfl), (hc131 2 _ rfl), (hc131 3 _ rfl), (hc131 4 _ rfl), trivial⟩
    refine AtH.start Cs134 7 #[false, false, false, false, false, false, false] (by kernel_rfl) rfl rfl (fun w138 hw139 => ?_)
    have g137 := gr_drew hw139
    have hS140 := hS136.gr g137
    have szw138 := g137.size
    have e141 := e124.gr g137 no_row
    clear e124
    have r142 := r125.gr g137 (fun _ h => by cases h)
    clear r125
    have bx143 := bx126.gr g137 (by simp)
    clear bx126
    have ow144 := ow127.gr g137 (fun _ _ h => by cases h)
    clear ow127
    have bx145 := bx121.gr g137 (by simp)
    clear bx121
    clear g137 hw139 hS136
    refine AtH.rd (by kernel_rfl) (fun d v c a w h => by cases d <;> exact h) hS140 [0, 1, 2, 3, 4] [[.ld (.bool ((bestB (upG g lb i) (gI g.ow i) (gL g.mv i)).1.top)), .ld (.int .i64 ((bestB (upG g lb i) (gI g.ow i) (gL g.mv i)).1.c0)), .ld (.int .i64 ((bestB (upG g lb i) (gI g.ow i) (gL g.mv i)).1.c1)), .ld (.int .i64 ((bestB (upG g lb i) (gI g.ow i) (gL g.mv i)).1.c2)), .ld (.int .i64 ((bestB (upG g lb i) (gI g.ow i) (gL g.mv i)).1.c3))], [], [], [.ad ad129], [.ld (.bool ((gT lb i).top)), .ld (.int .i64 ((gT lb i).c0)), .ld (.int .i64 ((gT lb i).c1)), .ld (.int .i64 ((gT lb i).c2)), .ld (.int .i64 ((gT lb i).c3))]] [(31, tupV (gT lb i)), (30, .pointer (some (ad129.add ((i : Int).toNat * 5)))), (29, .int .i64 (i)), (28, .slice A_77 lb.length c_78), (27, tupV ((bestB (upG g lb i) (gI g.ow i) (gL g.mv i)).1))] #[true, true, true, true, true, false, false] [(∃ j_ : Nat, Cs134[j_]? = some (⟨w100.heap.size, 0, none⟩, (.bool ((bestB (upG g lb i) (gI g.ow i) (gL g.mv i)).1.top)))), (∃ j_ : Nat, Cs134[j_]? = some (⟨w100.heap.size, 1, none⟩, (.int .i64 ((bestB (upG g lb i) (gI g.ow i) (gL g.mv i)).1.c0)))), (∃ j_ : Nat, Cs134[j_]? = some (⟨w100.heap.size, 2, none⟩, (.int .i64 ((bestB (upG g lb i) (gI g.ow i) (gL g.mv i)).1.c1)))), (∃ j_ : Nat, Cs134[j_]? = some (⟨w100.heap.size, 3, none⟩, (.int .i64 ((bestB (upG g lb i) (gI g.ow i) (gL g.mv i)).1.c2)))), (∃ j_ : Nat, Cs134[j_]? = some (⟨w100.heap.size, 4, none⟩, (.int .i64 ((bestB (upG g lb i) (gI g.ow i) (gL g.mv i)).1.c3)))), (A_77 = some ad129), (0 ≤ (i : Int)), ((i : Int) < (lb.length : Nat)), (∃ j_ : Nat, Cs134[j_]? = some ((ad129.add ((i : Int).toNat * 5)), (.bool ((gT lb i).top)))), (∃ j_ : Nat, Cs134[j_]? = some (((ad129.add ((i : Int).toNat * 5)).add 1), (.int .i64 ((gT lb i).c0)))), (∃ j_ : Nat, Cs134[j_]? = some (((ad129.add ((i : Int).toNat * 5)).add 2), (.int .i64 ((gT lb i).c1)))), (∃ j_ : Nat, Cs134[j_]? = some (((ad129.add ((i : Int).toNat * 5)).add 3), (.int .i64 ((gT lb i).c2)))), (∃ j_ : Nat, Cs134[j_]? = some (((ad129.add ((i : Int).toNat * 5)).add 4), (.int .i64 ((gT lb i).c3))))] 2 f128 (by kernel_rfl) ⟨⟨0, by rw [hCs135]; rfl⟩, ⟨1, by rw [hCs135]; rfl⟩, ⟨2, by rw [hCs135]; rfl⟩, ⟨3, by rw [hCs135]; rfl⟩, ⟨4, by rw [hCs135]; rfl⟩, hA130, (by omega), (by omega), ⟨5, by rw [hCs135]; rfl⟩, ⟨6, by rw [hCs135]; rfl⟩, ⟨7, by rw [hCs135]; rfl⟩, ⟨8, by rw [hCs135]; rfl⟩, ⟨9, by rw [hCs135]; rfl⟩, trivial⟩ (fun act147 f146 => ?_)
    clear f128
    refine AtH.all [5] 1 (by kernel_rfl) (by simp) ⟨?_, trivial⟩
    refine OneH.call f146 24 #[tupV ((bestB (upG g lb i) (gI g.ow i) (gL g.mv i)).1), tupV (gT lb i), .int .i64 (0)] (some 32) #[true, true, true, true, true, true, false] (by kernel_rfl) (by kernel_rfl) (cmpR_any (a := (bestB (upG g lb i) (gI g.ow i) (gL g.mv i)).1) (b := (gT lb i)) (p := 0)) ?_
    rintro e_ w149 ⟨rfl, he⟩
    have := cmp_rng ((bestB (upG g lb i) (gI g.ow i) (gL g.mv i)).1) (gT lb i) 0
    refine ⟨_, rfl, _, rfl, fun act150 f151 => ?_⟩
    clear f146
    have g152 := gr_ext he
    have hS148 := hS140.gr g152
    have szw149 := g152.size
    have e153 := e141.gr g152 no_row
    clear e141
    have r154 := r142.gr g152 (fun _ h => by cases h)
    clear r142
    have bx155 := bx143.gr g152 (by simp)
    clear bx143
    have ow156 := ow144.gr g152 (fun _ _ h => by cases h)
    clear ow144
    have bx157 := bx145.gr g152 (by simp)
    clear bx145
    clear g152 he
    refine ⟨hS148, ?_⟩
    refine AtH.rd (by kernel_rfl) (fun d v c a w h => by cases d <;> exact h) hS148 [6] [[]] [(33, .bool (decide ((cmpT ((bestB (upG g lb i) (gI g.ow i) (gL g.mv i)).1) (gT lb i) 0 : Int) > 0)))] #[true, true, true, true, true, true, true] [] 0 f151 (by kernel_rfl) trivial (fun act159 f158 => ?_)
    clear f151
    refine AtH.done (by kernel_rfl) ?_
    clear hS148
    refine t_n ?_
    have f160 := f158.sub (r := [(33, .bool (decide ((cmpT ((bestB (upG g lb i) (gI g.ow i) (gL g.mv i)).1) (gT lb i) 0 : Int) > 0))), (7, .pointer (some ⟨w100.heap.size, 0, none⟩)), (6, .int .i64 (i)), (5, .bool (m2)), (4, .slice A_77 lb.length c_78), (2, .slice none 0 0), (1, .pointer (some ⟨w.heap.size, 0, none⟩))]) ⟨rfl, rfl, rfl, rfl, rfl, rfl, rfl, trivial⟩
    clear f158
    refine cond_S f160 (t := decide ((cmpT ((bestB (upG g lb i) (gI g.ow i) (gL g.mv i)).1) (gT lb i) 0 : Int) > 0)) rfl (fun h161 => ?_) (fun h161 => ?_)
    ·have q162 := of_decide_eq_true h161
     refine wp_seq ?_
     have hcc : cmpT (liftT g lb i) (gT lb i) 0 > 0 := by assumption
     refine At.start ?_
     obtain ⟨ad163, hA164, hb167, hc166, hc165⟩ := ow156.get (i) (by omega) (by omega) (sz := 5) rfl
     refine At.rd f160 4 [[], [], [.ld (.bool ((bestB (upG g lb i) (gI g.ow i) (gL g.mv i)).1.top)), .ld (.int .i64 ((bestB (upG g lb i) (gI g.ow i) (gL g.mv i)).1.c0)), .ld (.int .i64 ((bestB (upG g lb i) (gI g.ow i) (gL g.mv i)).1.c1)), .ld (.int .i64 ((bestB (upG g lb i) (gI g.ow i) (gL g.mv i)).1.c2)), .ld (.int .i64 ((bestB (upG g lb i) (gI g.ow i) (gL g.mv i)).1.c3))], [.ad ad163]] [(37, .pointer (some (ad163.add ((i : Int).toNat * 5)))), (36, tupV ((bestB (upG g lb i) (gI g.ow i) (gL g.mv i)).1)), (35, .int .i64 (i)), (34, .slice A_77 lb.length c_78)] [(w149.cell? ⟨w100.heap.size, 0, none⟩ = some (.bool ((bestB (upG g lb i) (gI g.ow i) (gL g.mv i)).1.top))), (w149.cell? ⟨w100.heap.size, 1, none⟩ = some (.int .i64 ((bestB (upG g lb i) (gI g.ow i) (gL g.mv i)).1.c0))), (w149.cell? ⟨w100.heap.size, 2, none⟩ = some (.int .i64 ((bestB (upG g lb i) (gI g.ow i) (gL g.mv i)).1.c1))), (w149.cell? ⟨w100.heap.size, 3, none⟩ = some (.int .i64 ((bestB (upG g lb i) (gI g.ow i) (gL g.mv i)).1.c2))), (w149.cell? ⟨w100.heap.size, 4, none⟩ = some (.int .i64 ((bestB (upG g lb i) (gI g.ow i) (gL g.mv i)).1.c3))), (A_77 = some ad163), (0 ≤ (i : Int)), ((i : Int) < (lb.length : Nat))] (by kernel_rfl) ⟨(bx157.cell (i := 0) rfl), (bx157.cell (i := 1) rfl), (bx157.cell (i := 2) rfl), (bx157.cell (i := 3) rfl), (bx157.cell (i := 4) rfl), hA164, (by omega), (by omega), trivial⟩ (fun act169 f168 => ?_)
     clear f160
     refine At.act f168 (storeR (α := Tup) (t := 40) (i := i) (ad := ad163) (v := tupV ((bestB (upG g lb i) (gI g.ow i) (gL g.mv i)).1)) ((bestB (upG g lb i) (gI g.ow i) (gL g.mv i)).1) (by kernel_rfl) rfl rfl (by kernel_rfl) hA164 ow156 (by omega) (by omega)) ?_
     rintro d_ v_ w170 ⟨rfl, g171, ow172⟩
     refine ⟨_, rfl, fun act175 f174 => ?_⟩
     clear f168
     have hl173 : ((lb).set (i : Int).toNat ((bestB (upG g lb i) (gI g.ow i) (gL g.mv i)).1)).length = (lb).length := List.length_set
     have szw170 := g171.size
     have e176 := e153.gr g171 (fun k hk => by have := ow156.ge k hk; omega)
     clear e153
     have r177 := r154.gr g171 (fun k hk => by have := ow156.ge k hk; omega)
     clear r154
     have bx178 := bx155.gr g171 (fun e => by have := ow156.ge _ e; omega)
     clear bx155
     have bx179 := bx157.gr g171 (ow156.neb (fun g hs => hs.1))
     clear bx157
     clear ow156 g171
     refine At.done rfl ?_
     refine t_n ?_
     have f180 := f174.sub (r := [(6, .int .i64 (i)), (4, .slice A_77 lb.length c_78), (2, .slice none 0 0), (1, .pointer (some ⟨w.heap.size, 0, none⟩))]) ⟨rfl, rfl, rfl, rfl, trivial⟩
     clear f174
     refine At.start ?_
     refine At.rd f180 1 [[]] [(5, .bool true)] [] (by kernel_rfl) trivial (fun act182 f181 => ?_)
     clear f180
     refine At.done rfl ?_
     refine b_n ?_
     refine t_n ?_
     refine At.start ?_
     refine At.rd f181 3 [[], [.as_ (.int .i64 (i + 1))], []] [(6, .int .i64 (i + 1)), (22, .int .i64 (i + 1)), (21, .int .i64 (i))] [((.int .i64 (IntKind.i64.wrap (i + 1)) : Value) = .int .i64 (i + 1))] (by kernel_rfl) ⟨(w64 (by omega) (by omega)), trivial⟩ (fun act184 f183 => ?_)
     clear f181
     refine At.done rfl ?_
     refine t_n ?_
     have f185 := f183.as 4 (.slice A_77 lb.length c_78) (.slice A_77 (((lb).set (i : Int).toNat ((bestB (upG g lb i) (gI g.ow i) (gL g.mv i)).1) : List Tup).length) c_78) rfl (slice_len (by first | rfl | omega | (simp; done) | (simp; omega)))
     clear f183
     have f186 := f185.sub (r := [(6, .int .i64 (i + 1)), (5, .bool true), (4, .slice A_77 (((lb).set (i : Int).toNat ((bestB (upG g lb i) (gI g.ow i) (gL g.mv i)).1) : List Tup).length) c_78), (2, .slice none 0 0), (1, .pointer (some ⟨w.heap.size, 0, none⟩))]) ⟨rfl, rfl, rfl, rfl, rfl, trivial⟩
     exact ⟨_, (by omega), (i + 1), true, ((lb).set (i : Int).toNat ((bestB (upG g lb i) (gI g.ow i) (gL g.mv i)).1) : List Tup), A_77, c_78, rfl, f186, e176, r177, bx178, (ow172.imp (fun g _ hs => hs.2)), (by omega), (by omega), (bnd_set hG hb2 (by omega) (by omega)), (low_set hG hb2 hlow2 (by omega) (by omega)), (round_lift hG hrd hb2 (by omega) (by omega) (by assumption)), (by omega)⟩
    ·have q187 := of_decide_eq_false h161
     refine wp_skip ?_
     refine b_n ?_
     refine t_n ?_
     have f188 := f160.sub (r := [(6, .int .i64 (i)), (5, .bool (m2)), (4, .slice A_77 lb.length c_78), (2, .slice none 0 0), (1, .pointer (some ⟨w.heap.size, 0, none⟩))]) ⟨rfl, rfl, rfl, rfl, rfl, trivial⟩
     clear f160
     refine At.start ?_
     refine At.rd f188 3 [[], [.as_ (.int .i64 (i + 1))], []] [(6, .int .i64 (i + 1)), (22, .int .i64 (i + 1)), (21, .int .i64 (i))] [((.int .i64 (IntKind.i64.wrap (i + 1)) : Value) = .int .i64 (i + 1))] (by kernel_rfl) ⟨(w64 (by omega) (by omega)), trivial⟩ (fun act190 f189 => ?_)
     clear f188
     refine At.done rfl ?_
     refine t_n ?_
     have f191 := f189.as 4 (.slice A_77 lb.length c_78) (.slice A_77 ((lb : List Tup).length) c_78) rfl (slice_len (by first | rfl | omega | (simp; done) | (simp; omega)))
     clear f189
     have f192 := f191.sub (r := [(6, .int .i64 (i + 1)), (5, .bool (m2)), (4, .slice A_77 ((lb : List Tup).length) c_78), (2, .slice none 0 0), (1, .pointer (some ⟨w.heap.size, 0, none⟩))]) ⟨rfl, rfl, rfl, rfl, rfl, trivial⟩
     exact ⟨_, (by omega), (i + 1), m2, (lb : List Tup), A_77, c_78, rfl, f192, e153, r154, bx155, (ow156.imp (fun g _ hs => hs.2)), (by omega), (by omega), hb2, hlow2, (round_keep hrd (by assumption)), (by omega)⟩
   ·have q193 := of_decide_eq_false h95
    refine wp_exit ?_
    refine t_e ?_
    refine t_e ?_
    refine b_e ?_
    refine b_n ?_
    refine t_n ?_
    have f194 := f94.as 4 (.slice A_77 lb.length c_78) (.slice A_77 ((lb : List Tup).length) c_78) rfl (slice_len (by first | rfl | omega | (simp; done) | (simp; omega)))
    clear f94
    have f195 := f194.sub (r := [(5, .bool (m2)), (4, .slice A_77 ((lb : List Tup).length) c_78), (2, .slice none 0 0), (1, .pointer (some ⟨w.heap.size, 0, none⟩))]) ⟨rfl, rfl, rfl, rfl, trivial⟩
    exact ⟨_, (by rw [hm61]; exact solve_meas hrd.no hrd.yes (by assumption)), m2, (lb : List Tup), A_77, c_78, rfl, f195, e83, r86, bx87, ow88, hb2, hlow2, (fun h j a b => hrd.st h j a (by omega)), (by omega)⟩
  ·refine wp_exit ?_
   refine t_e ?_
   refine t_e ?_
   refine b_e ?_
   refine t_n ?_
   have f197 := f69.sub (r := [(4, .slice A_54 l.length c_55)]) ⟨rfl, trivial⟩
   clear f69
   refine wp_seq ?_
   have solved_ : LeastT g l := ⟨hb, hpre (by assumption), hlow⟩
   refine At.start ?_
   refine At.rd f197 2 [[], []] [(2, .slice A_54 l.length c_55), (38, .slice A_54 l.length c_55)] [] (by kernel_rfl) trivial (fun act199 f198 => ?_)
   clear f197
   refine At.done rfl ?_
   refine t_n ?_
   have f200 := f198.sub (r := [(2, .slice A_54 l.length c_55)]) ⟨rfl, trivial⟩
   clear f198
   refine wp_ret ?_
   refine ret_ f200 [] [.slice A_54 l.length c_55] [] (by kernel_rfl) trivial ?_
   exact ⟨A_54, c_55, _, rfl, e60, (ow65.imp (fun g _ hs => by have := Sx_base hs; show w.heap.size ≤ g; omega)), .inr ⟨by assumption, solved_⟩⟩

end Go.Proofs.Ytklbpajmoklheaa
