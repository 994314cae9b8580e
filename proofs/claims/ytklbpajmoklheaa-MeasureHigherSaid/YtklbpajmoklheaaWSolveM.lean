/-
  A walk of a Go function, printed by a program of this repo. Conditions: what the theorems name.
-/
import Derived.Test.YtklbpajmoklheaaPureWork
import Derived.Test.YtklbpajmoklheaaWBest
import Derived.Test.YtklbpajmoklheaaWIs
import Derived.Test.YtklbpajmoklheaaFr
set_option linter.unusedVariables false
set_option linter.unusedSimpArgs false
namespace Go.Proofs.Ytklbpajmoklheaa
open Go Go.RowKit

set_option maxHeartbeats 4000000 in
theorem solveM_any {Ag0 Ag1 Ag2 : Option Addr} {cg0 cg1 cg2 : Nat} {g : GameL} {w : World} (rg : RdG w 0 w.heap.size Ag0 Ag1 Ag2 cg0 cg1 cg2 g) (hsm : g.ow.length ≤ 1000000000000) :
    Calls Try.prog 28 #[.agg #[.slice Ag0 g.ow.length cg0, .slice Ag1 g.pr.length cg1, .slice Ag2 g.mv.length cg2]] w fun e w' => ∃ A c l, e = .returned (.slice A l.length c) ∧ Ext w w' ∧ OwnR w' (Sx w.heap.size []) A c 41 (l : List Tup) ∧ SolvedT g l := by
 have hlg0 := rg.ow.len
 have hlg1 := rg.pr.len
 have hlg2 := rg.mv.len
 have hkg0 := rg.k0
 have hkg1 := rg.k1
 have hkg2 := rg.k2
 refine enter_ (args := [.agg #[.slice Ag0 g.ow.length cg0, .slice Ag1 g.pr.length cg1, .slice Ag2 g.mv.length cg2]]) Try.func28 rfl Try.ntmps28 (Nat.le_of_ble_eq_true rfl) (fun act0 f0 => ?_)
 have e0 := Ext.refl w
 refine wp_seq ?_
 refine At.start ?_
 refine At.seq f0 1 [[]] [(1, .pointer (some ⟨w.heap.size, 0, none⟩))] (w.alloc (.cells #[.slice Ag0 g.ow.length cg0, .slice Ag1 g.pr.length cg1, .slice Ag2 g.mv.length cg2] 25 (0, 0))) [] (by kernel_rfl) trivial (fun act4 w1 hw2 f3 => ?_)
 clear f0
 have g5 := gr_alloc hw2
 have szw1 := g5.size
 have e7 := e0.gr g5 no_row
 clear e0
 have r8 := rg.gr g5 (fun _ h => by cases h)
 clear rg
 have bx9 : Bx w1 (w.heap.size) [.slice Ag0 g.ow.length cg0, .slice Ag1 g.pr.length cg1, .slice Ag2 g.mv.length cg2] 25 := Bx.new hw2
 have := bx9.lt
 clear g5 hw2
 refine At.rd f3 1 [[]] [(2, .slice none 0 0)] [] (by kernel_rfl) trivial (fun act11 f10 => ?_)
 clear f3
 refine At.done rfl ?_
 refine t_n ?_
 have f12 := f10.sub (r := [(2, .slice none 0 0), (1, .pointer (some ⟨w.heap.size, 0, none⟩))]) ⟨rfl, rfl, trivial⟩
 clear f10
 refine wp_seq ?_
 refine At.start ?_
 refine At.rd f12 3 [[], [.ld (.slice Ag0 g.ow.length cg0)], []] [(19, .int .i64 (((g.ow.length : Nat) : Int))), (18, .slice Ag0 g.ow.length cg0), (17, .pointer (some ⟨w.heap.size, 0, none⟩))] [(w1.cell? ⟨w.heap.size, 0, none⟩ = some (.slice Ag0 g.ow.length cg0))] (by kernel_rfl) ⟨(bx9.cell (i := 0) rfl), trivial⟩ (fun act14 f13 => ?_)
 clear f12
 refine At.act f13 (makeR (k1 := .i64) (k2 := .i64) (α := Tup) (e := 41) (bytes := 40) (t := 46) (d := 20) (n := ((g.ow.length : Nat) : Int)) (cap := ((g.ow.length : Nat) : Int)) ((⟨false, 0, 0, 0, 0⟩ : Tup)) (by kernel_rfl) rfl (by kernel_rfl) (by omega) (by omega) (by omega) (by omega)) ?_
 rintro d_ v_ w15 ⟨rfl, rfl, g16, hO17⟩
 refine ⟨_, rfl, fun act21 f20 => ?_⟩
 clear f13
 replace hO17 := hO17 (Sx (w1.heap.size) []) (Nat.le_refl _)
 have szw15 := g16.size
 have e22 := e7.gr g16 no_row
 clear e7
 have r23 := r8.gr g16 (fun _ h => by cases h)
 clear r8
 have bx24 := bx9.gr g16 (by simp)
 clear bx9
 clear g16
 have : (List.replicate (((g.ow.length : Nat) : Int) : Int).toNat ((⟨false, 0, 0, 0, 0⟩ : Tup) : Tup)).length = (((g.ow.length : Nat) : Int) : Int).toNat := List.length_replicate
 refine At.rd f20 1 [[]] [(3, .slice (some ⟨w1.heap.size, 0, none⟩) ((List.replicate (((g.ow.length : Nat) : Int) : Int).toNat ((⟨false, 0, 0, 0, 0⟩ : Tup) : Tup)).length) ((((g.ow.length : Nat) : Int) : Int).toNat))] [] (by kernel_rfl) trivial (fun act26 f25 => ?_)
 clear f20
 refine At.done rfl ?_
 refine t_n ?_
 have f27 := f25.sub (r := [(3, .slice (some ⟨w1.heap.size, 0, none⟩) ((List.replicate (((g.ow.length : Nat) : Int) : Int).toNat ((⟨false, 0, 0, 0, 0⟩ : Tup) : Tup)).length) ((((g.ow.length : Nat) : Int) : Int).toNat)), (2, .slice none 0 0), (1, .pointer (some ⟨w.heap.size, 0, none⟩))]) ⟨rfl, rfl, rfl, trivial⟩
 clear f25
 refine wp_seq ?_
 refine wp_seq ?_
 refine At.start ?_
 refine At.rd f27 2 [[.ld (.slice Ag0 g.ow.length cg0), .ld (.slice Ag1 g.pr.length cg1), .ld (.slice Ag2 g.mv.length cg2)], []] [(22, .slice (some ⟨w1.heap.size, 0, none⟩) ((List.replicate (((g.ow.length : Nat) : Int) : Int).toNat ((⟨false, 0, 0, 0, 0⟩ : Tup) : Tup)).length) ((((g.ow.length : Nat) : Int) : Int).toNat)), (21, .agg #[.slice Ag0 g.ow.length cg0, .slice Ag1 g.pr.length cg1, .slice Ag2 g.mv.length cg2])] [(w15.cell? ⟨w.heap.size, 0, none⟩ = some (.slice Ag0 g.ow.length cg0)), (w15.cell? ⟨w.heap.size, 1, none⟩ = some (.slice Ag1 g.pr.length cg1)), (w15.cell? ⟨w.heap.size, 2, none⟩ = some (.slice Ag2 g.mv.length cg2))] (by kernel_rfl) ⟨(bx24.cell (i := 0) rfl), (bx24.cell (i := 1) rfl), (bx24.cell (i := 2) rfl), trivial⟩ (fun act29 f28 => ?_)
 clear f27
 refine At.call f28 45 #[.agg #[.slice Ag0 g.ow.length cg0, .slice Ag1 g.pr.length cg1, .slice Ag2 g.mv.length cg2], .slice (some ⟨w1.heap.size, 0, none⟩) ((List.replicate (((g.ow.length : Nat) : Int) : Int).toNat ((⟨false, 0, 0, 0, 0⟩ : Tup) : Tup)).length) ((((g.ow.length : Nat) : Int) : Int).toNat)] (some 23) (by kernel_rfl) (rightM_any (ls := List.replicate (((g.ow.length : Nat) : Int) : Int).toNat ((⟨false, 0, 0, 0, 0⟩ : Tup) : Tup)) (r23.wide (Nat.zero_le _) (by omega)) ((hO17.rdR (by simp only [Enc.bytes]; omega)).wide (Nat.zero_le _) (by omega))) ?_
 rintro e_ w30 ⟨rfl, he⟩
 refine ⟨_, rfl, _, rfl, fun act31 f32 => ?_⟩
 clear f28
 have g33 := gr_ext he
 have szw30 := g33.size
 have e34 := e22.gr g33 no_row
 clear e22
 have r35 := r23.gr g33 (fun _ h => by cases h)
 clear r23
 have bx36 := bx24.gr g33 (by simp)
 clear bx24
 have ow37 := hO17.gr g33 (fun _ _ h => by cases h)
 clear hO17
 clear g33 he
 refine At.rd f32 1 [[]] [(24, .bool (!(isR g && decide ((List.replicate (((g.ow.length : Nat) : Int) : Int).toNat ((⟨false, 0, 0, 0, 0⟩ : Tup) : Tup)).length = g.ow.length))))] [] (by kernel_rfl) trivial (fun act39 f38 => ?_)
 clear f32
 refine At.done rfl ?_
 refine t_n ?_
 have f40 := f38.sub (r := [(24, .bool (!(isR g && decide ((List.replicate (((g.ow.length : Nat) : Int) : Int).toNat ((⟨false, 0, 0, 0, 0⟩ : Tup) : Tup)).length = g.ow.length)))), (3, .slice (some ⟨w1.heap.size, 0, none⟩) ((List.replicate (((g.ow.length : Nat) : Int) : Int).toNat ((⟨false, 0, 0, 0, 0⟩ : Tup) : Tup)).length) ((((g.ow.length : Nat) : Int) : Int).toNat)), (2, .slice none 0 0), (1, .pointer (some ⟨w.heap.size, 0, none⟩))]) ⟨rfl, rfl, rfl, rfl, trivial⟩
 clear f38
 refine cond_S f40 (t := !(isR g && decide ((List.replicate (((g.ow.length : Nat) : Int) : Int).toNat ((⟨false, 0, 0, 0, 0⟩ : Tup) : Tup)).length = g.ow.length))) rfl (fun h41 => ?_) (fun h41 => ?_)
 ·have q42 : (isR g && decide ((List.replicate (((g.ow.length : Nat) : Int) : Int).toNat ((⟨false, 0, 0, 0, 0⟩ : Tup) : Tup)).length = g.ow.length)) = false := by first | exact Eq.mp (Bool.not_eq_true' _) h41 | exact Eq.mp (Bool.not_eq_false' _) h41 | simpa using h41
  refine wp_seq ?_
  have hR : isR g = false := right_no2 (by assumption) List.length_replicate
  refine At.start ?_
  refine At.rd f40 1 [[]] [(2, .slice none 0 0)] [] (by kernel_rfl) trivial (fun act45 f44 => ?_)
  clear f40
  refine At.done rfl ?_
  refine t_n ?_
  have f46 := f44.sub (r := [(2, .slice none 0 0)]) ⟨rfl, trivial⟩
  clear f44
  refine wp_ret ?_
  refine t_r ?_
  refine ret_ f46 [] [.slice none 0 0] [] (by kernel_rfl) trivial ?_
  exact ⟨none, 0, [], rfl, e34, OwnR.nil, .inl ⟨by assumption, rfl⟩⟩
 ·have q47 : (isR g && decide ((List.replicate (((g.ow.length : Nat) : Int) : Int).toNat ((⟨false, 0, 0, 0, 0⟩ : Tup) : Tup)).length = g.ow.length)) = true := by first | exact Eq.mp (Bool.not_eq_true' _) h41 | exact Eq.mp (Bool.not_eq_false' _) h41 | simpa using h41
  refine wp_skip ?_
  refine t_n ?_
  have f49 := f40.sub (r := [(3, .slice (some ⟨w1.heap.size, 0, none⟩) ((List.replicate (((g.ow.length : Nat) : Int) : Int).toNat ((⟨false, 0, 0, 0, 0⟩ : Tup) : Tup)).length) ((((g.ow.length : Nat) : Int) : Int).toNat)), (2, .slice none 0 0), (1, .pointer (some ⟨w.heap.size, 0, none⟩))]) ⟨rfl, rfl, rfl, trivial⟩
  clear f40
  refine wp_seq ?_
  have hR : isR g = true := right_yes2 (by assumption)
  have hG := isR_ok hR
  have hn1 := hG.n1
  have hpl := hG.pl
  have hml := hG.ml
  refine At.start ?_
  refine At.rd f49 1 [[.ld (.slice Ag0 g.ow.length cg0), .ld (.slice Ag1 g.pr.length cg1), .ld (.slice Ag2 g.mv.length cg2)]] [(25, .agg #[.slice Ag0 g.ow.length cg0, .slice Ag1 g.pr.length cg1, .slice Ag2 g.mv.length cg2])] [(w30.cell? ⟨w.heap.size, 0, none⟩ = some (.slice Ag0 g.ow.length cg0)), (w30.cell? ⟨w.heap.size, 1, none⟩ = some (.slice Ag1 g.pr.length cg1)), (w30.cell? ⟨w.heap.size, 2, none⟩ = some (.slice Ag2 g.mv.length cg2))] (by kernel_rfl) ⟨(bx36.cell (i := 0) rfl), (bx36.cell (i := 1) rfl), (bx36.cell (i := 2) rfl), trivial⟩ (fun act51 f50 => ?_)
  clear f49
  refine At.call f50 46 #[.agg #[.slice Ag0 g.ow.length cg0, .slice Ag1 g.pr.length cg1, .slice Ag2 g.mv.length cg2]] (some 26) (by kernel_rfl) (counts_any (r35.wide (Nat.zero_le _) (by omega))) ?_
  rintro e_ w52 ⟨rfl, he⟩
  refine ⟨_, rfl, _, rfl, fun act53 f54 => ?_⟩
  clear f50
  have g55 := gr_ext he
  have szw52 := g55.size
  have e56 := e34.gr g55 no_row
  clear e34
  have r57 := r35.gr g55 (fun _ h => by cases h)
  clear r35
  have bx58 := bx36.gr g55 (by simp)
  clear bx36
  have ow59 := ow37.gr g55 (fun _ _ h => by cases h)
  clear ow37
  clear g55 he
  refine At.seq f54 1 [[]] [(4, .pointer (some ⟨w52.heap.size, 0, none⟩))] (w52.alloc (.cells #[.int .i64 (0), .int .i64 (0), .int .i64 (0), .int .i64 (0)] 38 (0, 0))) [] (by kernel_rfl) trivial (fun act63 w60 hw61 f62 => ?_)
  clear f54
  have g64 := gr_alloc hw61
  have szw60 := g64.size
  have e66 := e56.gr g64 no_row
  clear e56
  have r67 := r57.gr g64 (fun _ h => by cases h)
  clear r57
  have bx68 := bx58.gr g64 (by simp)
  clear bx58
  have ow69 : OwnR w60 (Sx (w1.heap.size) [some (w52.heap.size)]) (some ⟨w1.heap.size, 0, none⟩) ((((g.ow.length : Nat) : Int) : Int).toNat) 41 (List.replicate (((g.ow.length : Nat) : Int) : Int).toNat ((⟨false, 0, 0, 0, 0⟩ : Tup) : Tup) : List Tup) := ow59.grA g64 (fun _ _ h => by cases h) (fun k hk hs => ⟨(fun e => by injection e; omega), hs⟩)
  clear ow59
  have bx70 : Bx w60 (w52.heap.size) [.int .i64 (0), .int .i64 (0), .int .i64 (0), .int .i64 (0)] 38 := Bx.new hw61
  have := bx70.lt
  clear g64 hw61
  refine At.store f62 (t := 38) (b := w52.heap.size) (off := 0) (v := .agg #[.int .i64 (cnt g.pr 1), .int .i64 (cnt g.pr 3), .int .i64 (cnt g.pr 5), .int .i64 (cnt g.pr 7)]) (by kernel_rfl) bx70 (by kernel_rfl) (fun act75 w71 g72 bx73 f74 => ?_)
  clear f62
  replace bx73 : Bx w71 (w52.heap.size) [.int .i64 (cnt g.pr 1), .int .i64 (cnt g.pr 3), .int .i64 (cnt g.pr 5), .int .i64 (cnt g.pr 7)] 38 := bx73
  have szw71 := g72.size
  have e76 := e66.gr g72 (fun k h => by injection h; omega)
  clear e66
  have r77 := r67.gr g72 (fun k h => by injection h; omega)
  clear r67
  have bx78 := bx68.gr g72 (fun h => by injection h; omega)
  clear bx68
  have ow79 := ow69.gr g72 (fun k hk => hk.1)
  clear ow69
  clear bx70 g72
  refine At.done rfl ?_
  refine t_n ?_
  have f80 := f74.sub (r := [(4, .pointer (some ⟨w52.heap.size, 0, none⟩)), (3, .slice (some ⟨w1.heap.size, 0, none⟩) ((List.replicate (((g.ow.length : Nat) : Int) : Int).toNat ((⟨false, 0, 0, 0, 0⟩ : Tup) : Tup)).length) ((((g.ow.length : Nat) : Int) : Int).toNat)), (2, .slice none 0 0), (1, .pointer (some ⟨w.heap.size, 0, none⟩))]) ⟨rfl, rfl, rfl, rfl, trivial⟩
  clear f74
  refine wp_seq ?_
  refine At.start ?_
  refine At.rd f80 2 [[], []] [(28, .int .i64 ((((List.replicate (((g.ow.length : Nat) : Int) : Int).toNat ((⟨false, 0, 0, 0, 0⟩ : Tup) : Tup)).length : Nat) : Int))), (27, .slice (some ⟨w1.heap.size, 0, none⟩) ((List.replicate (((g.ow.length : Nat) : Int) : Int).toNat ((⟨false, 0, 0, 0, 0⟩ : Tup) : Tup)).length) ((((g.ow.length : Nat) : Int) : Int).toNat))] [] (by kernel_rfl) trivial (fun act82 f81 => ?_)
  clear f80
  refine At.act f81 (makeR (k1 := .i64) (k2 := .i64) (α := SliceV) (e := 22) (bytes := 24) (t := 23) (d := 29) (n := (((List.replicate (((g.ow.length : Nat) : Int) : Int).toNat ((⟨false, 0, 0, 0, 0⟩ : Tup) : Tup)).length : Nat) : Int)) (cap := (((List.replicate (((g.ow.length : Nat) : Int) : Int).toNat ((⟨false, 0, 0, 0, 0⟩ : Tup) : Tup)).length : Nat) : Int)) ((⟨none, 0, 0⟩ : SliceV)) (by kernel_rfl) rfl (by kernel_rfl) (by omega) (by omega) (by omega) (by omega)) ?_
  rintro d_ v_ w83 ⟨rfl, rfl, g84, hO85⟩
  refine ⟨_, rfl, fun act89 f88 => ?_⟩
  clear f81
  replace hO85 := hO85 (Sx (w71.heap.size) [obk (some ⟨w1.heap.size, 0, none⟩)]) ⟨ow79.ne_new, (Nat.le_refl _)⟩
  have szw83 := g84.size
  have e90 := e76.gr g84 no_row
  clear e76
  have r91 := r77.gr g84 (fun _ h => by cases h)
  clear r77
  have bx92 := bx78.gr g84 (by simp)
  clear bx78
  have ow93 : OwnR w83 (Sx (w1.heap.size) [obk (some ⟨w71.heap.size, 0, none⟩), some (w52.heap.size)]) (some ⟨w1.heap.size, 0, none⟩) ((((g.ow.length : Nat) : Int) : Int).toNat) 41 (List.replicate (((g.ow.length : Nat) : Int) : Int).toNat ((⟨false, 0, 0, 0, 0⟩ : Tup) : Tup) : List Tup) := ow79.grA g84 (fun _ _ h => by cases h) (fun k hk hs => ⟨(fun e => by simp only [obk, Option.map_some] at e; injection e; omega), hs.1, hs.2⟩)
  clear ow79
  have bx94 := bx73.gr g84 (by simp)
  clear bx73
  clear g84
  have : (List.replicate ((((List.replicate (((g.ow.length : Nat) : Int) : Int).toNat ((⟨false, 0, 0, 0, 0⟩ : Tup) : Tup)).length : Nat) : Int) : Int).toNat ((⟨none, 0, 0⟩ : SliceV) : SliceV)).length = ((((List.replicate (((g.ow.length : Nat) : Int) : Int).toNat ((⟨false, 0, 0, 0, 0⟩ : Tup) : Tup)).length : Nat) : Int) : Int).toNat := List.length_replicate
  have ll95 : OwnLL w83 (w71.heap.size) [obk (some ⟨w1.heap.size, 0, none⟩)] (some ⟨w71.heap.size, 0, none⟩) (((((List.replicate (((g.ow.length : Nat) : Int) : Int).toNat ((⟨false, 0, 0, 0, 0⟩ : Tup) : Tup)).length : Nat) : Int) : Int).toNat) 22 3 (List.replicate ((((List.replicate (((g.ow.length : Nat) : Int) : Int).toNat ((⟨false, 0, 0, 0, 0⟩ : Tup) : Tup)).length : Nat) : Int) : Int).toNat ([] : List Int) : List (List Int)) := hO85.ll
  have : (List.replicate ((((List.replicate (((g.ow.length : Nat) : Int) : Int).toNat ((⟨false, 0, 0, 0, 0⟩ : Tup) : Tup)).length : Nat) : Int) : Int).toNat ([] : List Int)).length = ((((List.replicate (((g.ow.length : Nat) : Int) : Int).toNat ((⟨false, 0, 0, 0, 0⟩ : Tup) : Tup)).length : Nat) : Int) : Int).toNat := List.length_replicate
  refine At.rd f88 1 [[]] [(5, .slice (some ⟨w71.heap.size, 0, none⟩) ((List.replicate ((((List.replicate (((g.ow.length : Nat) : Int) : Int).toNat ((⟨false, 0, 0, 0, 0⟩ : Tup) : Tup)).length : Nat) : Int) : Int).toNat ((⟨none, 0, 0⟩ : SliceV) : SliceV)).length) (((((List.replicate (((g.ow.length : Nat) : Int) : Int).toNat ((⟨false, 0, 0, 0, 0⟩ : Tup) : Tup)).length : Nat) : Int) : Int).toNat))] [] (by kernel_rfl) trivial (fun act97 f96 => ?_)
  clear f88
  refine At.done rfl ?_
  refine t_n ?_
  have f98 := f96.sub (r := [(5, .slice (some ⟨w71.heap.size, 0, none⟩) ((List.replicate ((((List.replicate (((g.ow.length : Nat) : Int) : Int).toNat ((⟨false, 0, 0, 0, 0⟩ : Tup) : Tup)).length : Nat) : Int) : Int).toNat ((⟨none, 0, 0⟩ : SliceV) : SliceV)).length) (((((List.replicate (((g.ow.length : Nat) : Int) : Int).toNat ((⟨false, 0, 0, 0, 0⟩ : Tup) : Tup)).length : Nat) : Int) : Int).toNat)), (4, .pointer (some ⟨w52.heap.size, 0, none⟩)), (3, .slice (some ⟨w1.heap.size, 0, none⟩) ((List.replicate (((g.ow.length : Nat) : Int) : Int).toNat ((⟨false, 0, 0, 0, 0⟩ : Tup) : Tup)).length) ((((g.ow.length : Nat) : Int) : Int).toNat)), (2, .slice none 0 0), (1, .pointer (some ⟨w.heap.size, 0, none⟩))]) ⟨rfl, rfl, rfl, rfl, rfl, trivial⟩
  clear f96
  refine wp_seq ?_
  refine At.start ?_
  refine At.rd f98 2 [[], []] [(31, .int .i64 ((((List.replicate (((g.ow.length : Nat) : Int) : Int).toNat ((⟨false, 0, 0, 0, 0⟩ : Tup) : Tup)).length : Nat) : Int))), (30, .slice (some ⟨w1.heap.size, 0, none⟩) ((List.replicate (((g.ow.length : Nat) : Int) : Int).toNat ((⟨false, 0, 0, 0, 0⟩ : Tup) : Tup)).length) ((((g.ow.length : Nat) : Int) : Int).toNat))] [] (by kernel_rfl) trivial (fun act100 f99 => ?_)
  clear f98
  refine At.act f99 (makeR (k1 := .i64) (k2 := .i64) (α := Int) (e := 3) (bytes := 8) (t := 22) (d := 32) (n := (((List.replicate (((g.ow.length : Nat) : Int) : Int).toNat ((⟨false, 0, 0, 0, 0⟩ : Tup) : Tup)).length : Nat) : Int)) (cap := (((List.replicate (((g.ow.length : Nat) : Int) : Int).toNat ((⟨false, 0, 0, 0, 0⟩ : Tup) : Tup)).length : Nat) : Int)) (0) (by kernel_rfl) rfl (by kernel_rfl) (by omega) (by omega) (by omega) (by omega)) ?_
  rintro d_ v_ w101 ⟨rfl, rfl, g102, hO103⟩
  refine ⟨_, rfl, fun act107 f106 => ?_⟩
  clear f99
  replace hO103 := hO103 (Sx (w83.heap.size) [obk (some ⟨w1.heap.size, 0, none⟩), obk (some ⟨w71.heap.size, 0, none⟩)]) ⟨ow93.ne_new, ll95.ne_new, (Nat.le_refl _)⟩
  have szw101 := g102.size
  have e108 := e90.gr g102 no_row
  clear e90
  have r109 := r91.gr g102 (fun _ h => by cases h)
  clear r91
  have bx110 := bx92.gr g102 (by simp)
  clear bx92
  have ow111 : OwnR w101 (Sx (w1.heap.size) [obk (some ⟨w83.heap.size, 0, none⟩), obk (some ⟨w71.heap.size, 0, none⟩), some (w52.heap.size)]) (some ⟨w1.heap.size, 0, none⟩) ((((g.ow.length : Nat) : Int) : Int).toNat) 41 (List.replicate (((g.ow.length : Nat) : Int) : Int).toNat ((⟨false, 0, 0, 0, 0⟩ : Tup) : Tup) : List Tup) := ow93.grA g102 (fun _ _ h => by cases h) (fun k hk hs => ⟨(fun e => by simp only [obk, Option.map_some] at e; injection e; omega), hs.1, hs.2.1, hs.2.2⟩)
  clear ow93
  have bx112 := bx94.gr g102 (by simp)
  clear bx94
  have ow113 : OwnLL w101 (w71.heap.size) [obk (some ⟨w83.heap.size, 0, none⟩), obk (some ⟨w1.heap.size, 0, none⟩)] (some ⟨w71.heap.size, 0, none⟩) (((((List.replicate (((g.ow.length : Nat) : Int) : Int).toNat ((⟨false, 0, 0, 0, 0⟩ : Tup) : Tup)).length : Nat) : Int) : Int).toNat) 22 3 (List.replicate ((((List.replicate (((g.ow.length : Nat) : Int) : Int).toNat ((⟨false, 0, 0, 0, 0⟩ : Tup) : Tup)).length : Nat) : Int) : Int).toNat ([] : List Int) : List (List Int)) := ll95.grA g102 (fun _ _ h => by cases h) (fun k hk hs => ⟨(fun e => by simp only [obk, Option.map_some] at e; injection e; omega), hs.1, hs.2⟩)
  clear ll95
  clear g102
  have : (List.replicate ((((List.replicate (((g.ow.length : Nat) : Int) : Int).toNat ((⟨false, 0, 0, 0, 0⟩ : Tup) : Tup)).length : Nat) : Int) : Int).toNat (0 : Int)).length = ((((List.replicate (((g.ow.length : Nat) : Int) : Int).toNat ((⟨false, 0, 0, 0, 0⟩ : Tup) : Tup)).length : Nat) : Int) : Int).toNat := List.length_replicate
  refine At.rd f106 1 [[]] [(6, .slice (some ⟨w83.heap.size, 0, none⟩) ((List.replicate ((((List.replicate (((g.ow.length : Nat) : Int) : Int).toNat ((⟨false, 0, 0, 0, 0⟩ : Tup) : Tup)).length : Nat) : Int) : Int).toNat (0 : Int)).length) (((((List.replicate (((g.ow.length : Nat) : Int) : Int).toNat ((⟨false, 0, 0, 0, 0⟩ : Tup) : Tup)).length : Nat) : Int) : Int).toNat))] [] (by kernel_rfl) trivial (fun act115 f114 => ?_)
  clear f106
  refine At.done rfl ?_
  refine t_n ?_
  have f116 := f114.sub (r := [(6, .slice (some ⟨w83.heap.size, 0, none⟩) ((List.replicate ((((List.replicate (((g.ow.length : Nat) : Int) : Int).toNat ((⟨false, 0, 0, 0, 0⟩ : Tup) : Tup)).length : Nat) : Int) : Int).toNat (0 : Int)).length) (((((List.replicate (((g.ow.length : Nat) : Int) : Int).toNat ((⟨false, 0, 0, 0, 0⟩ : Tup) : Tup)).length : Nat) : Int) : Int).toNat)), (5, .slice (some ⟨w71.heap.size, 0, none⟩) ((List.replicate ((((List.replicate (((g.ow.length : Nat) : Int) : Int).toNat ((⟨false, 0, 0, 0, 0⟩ : Tup) : Tup)).length : Nat) : Int) : Int).toNat ((⟨none, 0, 0⟩ : SliceV) : SliceV)).length) (((((List.replicate (((g.ow.length : Nat) : Int) : Int).toNat ((⟨false, 0, 0, 0, 0⟩ : Tup) : Tup)).length : Nat) : Int) : Int).toNat)), (4, .pointer (some ⟨w52.heap.size, 0, none⟩)), (3, .slice (some ⟨w1.heap.size, 0, none⟩) ((List.replicate (((g.ow.length : Nat) : Int) : Int).toNat ((⟨false, 0, 0, 0, 0⟩ : Tup) : Tup)).length) ((((g.ow.length : Nat) : Int) : Int).toNat)), (2, .slice none 0 0), (1, .pointer (some ⟨w.heap.size, 0, none⟩))]) ⟨rfl, rfl, rfl, rfl, rfl, rfl, trivial⟩
  clear f114
  refine wp_seq ?_
  refine At.start ?_
  refine At.rd f116 2 [[], []] [(34, .int .i64 ((((List.replicate (((g.ow.length : Nat) : Int) : Int).toNat ((⟨false, 0, 0, 0, 0⟩ : Tup) : Tup)).length : Nat) : Int))), (33, .slice (some ⟨w1.heap.size, 0, none⟩) ((List.replicate (((g.ow.length : Nat) : Int) : Int).toNat ((⟨false, 0, 0, 0, 0⟩ : Tup) : Tup)).length) ((((g.ow.length : Nat) : Int) : Int).toNat))] [] (by kernel_rfl) trivial (fun act118 f117 => ?_)
  clear f116
  refine At.act f117 (makeR (k1 := .i64) (k2 := .i64) (α := Bool) (e := 4) (bytes := 1) (t := 83) (d := 35) (n := (((List.replicate (((g.ow.length : Nat) : Int) : Int).toNat ((⟨false, 0, 0, 0, 0⟩ : Tup) : Tup)).length : Nat) : Int)) (cap := (((List.replicate (((g.ow.length : Nat) : Int) : Int).toNat ((⟨false, 0, 0, 0, 0⟩ : Tup) : Tup)).length : Nat) : Int)) (false) (by kernel_rfl) rfl (by kernel_rfl) (by omega) (by omega) (by omega) (by omega)) ?_
  rintro d_ v_ w119 ⟨rfl, rfl, g120, hO121⟩
  refine ⟨_, rfl, fun act125 f124 => ?_⟩
  clear f117
  replace hO121 := hO121 (Sx (w101.heap.size) [obk (some ⟨w1.heap.size, 0, none⟩), obk (some ⟨w71.heap.size, 0, none⟩), obk (some ⟨w83.heap.size, 0, none⟩)]) ⟨ow111.ne_new, ow113.ne_new, hO103.ne_new, (Nat.le_refl _)⟩
  have szw119 := g120.size
  have e126 := e108.gr g120 no_row
  clear e108
  have r127 := r109.gr g120 (fun _ h => by cases h)
  clear r109
  have bx128 := bx110.gr g120 (by simp)
  clear bx110
  have ow129 : OwnR w119 (Sx (w1.heap.size) [obk (some ⟨w101.heap.size, 0, none⟩), obk (some ⟨w83.heap.size, 0, none⟩), obk (some ⟨w71.heap.size, 0, none⟩), some (w52.heap.size)]) (some ⟨w1.heap.size, 0, none⟩) ((((g.ow.length : Nat) : Int) : Int).toNat) 41 (List.replicate (((g.ow.length : Nat) : Int) : Int).toNat ((⟨false, 0, 0, 0, 0⟩ : Tup) : Tup) : List Tup) := ow111.grA g120 (fun _ _ h => by cases h) (fun k hk hs => ⟨(fun e => by simp only [obk, Option.map_some] at e; injection e; omega), hs.1, hs.2.1, hs.2.2.1, hs.2.2.2⟩)
  clear ow111
  have bx130 := bx112.gr g120 (by simp)
  clear bx112
  have ow131 : OwnLL w119 (w71.heap.size) [obk (some ⟨w101.heap.size, 0, none⟩), obk (some ⟨w83.heap.size, 0, none⟩), obk (some ⟨w1.heap.size, 0, none⟩)] (some ⟨w71.heap.size, 0, none⟩) (((((List.replicate (((g.ow.length : Nat) : Int) : Int).toNat ((⟨false, 0, 0, 0, 0⟩ : Tup) : Tup)).length : Nat) : Int) : Int).toNat) 22 3 (List.replicate ((((List.replicate (((g.ow.length : Nat) : Int) : Int).toNat ((⟨false, 0, 0, 0, 0⟩ : Tup) : Tup)).length : Nat) : Int) : Int).toNat ([] : List Int) : List (List Int)) := ow113.grA g120 (fun _ _ h => by cases h) (fun k hk hs => ⟨(fun e => by simp only [obk, Option.map_some] at e; injection e; omega), hs.1, hs.2.1, hs.2.2⟩)
  clear ow113
  have ow132 : OwnR w119 (Sx (w83.heap.size) [obk (some ⟨w101.heap.size, 0, none⟩), obk (some ⟨w1.heap.size, 0, none⟩), obk (some ⟨w71.heap.size, 0, none⟩)]) (some ⟨w83.heap.size, 0, none⟩) (((((List.replicate (((g.ow.length : Nat) : Int) : Int).toNat ((⟨false, 0, 0, 0, 0⟩ : Tup) : Tup)).length : Nat) : Int) : Int).toNat) 3 (List.replicate ((((List.replicate (((g.ow.length : Nat) : Int) : Int).toNat ((⟨false, 0, 0, 0, 0⟩ : Tup) : Tup)).length : Nat) : Int) : Int).toNat (0 : Int) : List Int) := hO103.grA g120 (fun _ _ h => by cases h) (fun k hk hs => ⟨(fun e => by simp only [obk, Option.map_some] at e; injection e; omega), hs.1, hs.2.1, hs.2.2⟩)
  clear hO103
  clear g120
  have : (List.replicate ((((List.replicate (((g.ow.length : Nat) : Int) : Int).toNat ((⟨false, 0, 0, 0, 0⟩ : Tup) : Tup)).length : Nat) : Int) : Int).toNat (false : Bool)).length = ((((List.replicate (((g.ow.length : Nat) : Int) : Int).toNat ((⟨false, 0, 0, 0, 0⟩ : Tup) : Tup)).length : Nat) : Int) : Int).toNat := List.length_replicate
  refine At.rd f124 1 [[]] [(7, .slice (some ⟨w101.heap.size, 0, none⟩) ((List.replicate ((((List.replicate (((g.ow.length : Nat) : Int) : Int).toNat ((⟨false, 0, 0, 0, 0⟩ : Tup) : Tup)).length : Nat) : Int) : Int).toNat (false : Bool)).length) (((((List.replicate (((g.ow.length : Nat) : Int) : Int).toNat ((⟨false, 0, 0, 0, 0⟩ : Tup) : Tup)).length : Nat) : Int) : Int).toNat))] [] (by kernel_rfl) trivial (fun act134 f133 => ?_)
  clear f124
  refine At.done rfl ?_
  refine t_n ?_
  have f135 := f133.sub (r := [(7, .slice (some ⟨w101.heap.size, 0, none⟩) ((List.replicate ((((List.replicate (((g.ow.length : Nat) : Int) : Int).toNat ((⟨false, 0, 0, 0, 0⟩ : Tup) : Tup)).length : Nat) : Int) : Int).toNat (false : Bool)).length) (((((List.replicate (((g.ow.length : Nat) : Int) : Int).toNat ((⟨false, 0, 0, 0, 0⟩ : Tup) : Tup)).length : Nat) : Int) : Int).toNat)), (6, .slice (some ⟨w83.heap.size, 0, none⟩) ((List.replicate ((((List.replicate (((g.ow.length : Nat) : Int) : Int).toNat ((⟨false, 0, 0, 0, 0⟩ : Tup) : Tup)).length : Nat) : Int) : Int).toNat (0 : Int)).length) (((((List.replicate (((g.ow.length : Nat) : Int) : Int).toNat ((⟨false, 0, 0, 0, 0⟩ : Tup) : Tup)).length : Nat) : Int) : Int).toNat)), (5, .slice (some ⟨w71.heap.size, 0, none⟩) ((List.replicate ((((List.replicate (((g.ow.length : Nat) : Int) : Int).toNat ((⟨false, 0, 0, 0, 0⟩ : Tup) : Tup)).length : Nat) : Int) : Int).toNat ((⟨none, 0, 0⟩ : SliceV) : SliceV)).length) (((((List.replicate (((g.ow.length : Nat) : Int) : Int).toNat ((⟨false, 0, 0, 0, 0⟩ : Tup) : Tup)).length : Nat) : Int) : Int).toNat)), (4, .pointer (some ⟨w52.heap.size, 0, none⟩)), (3, .slice (some ⟨w1.heap.size, 0, none⟩) ((List.replicate (((g.ow.length : Nat) : Int) : Int).toNat ((⟨false, 0, 0, 0, 0⟩ : Tup) : Tup)).length) ((((g.ow.length : Nat) : Int) : Int).toNat)), (2, .slice none 0 0), (1, .pointer (some ⟨w.heap.size, 0, none⟩))]) ⟨rfl, rfl, rfl, rfl, rfl, rfl, rfl, trivial⟩
  clear f133
  refine wp_seq ?_
  refine wp_seq ?_
  refine At.start ?_
  refine At.rd f135 4 [[], [.ld (.slice Ag2 g.mv.length cg2)], [], []] [(39, .int .i64 (0)), (38, .int .i64 (((g.mv.length : Nat) : Int))), (37, .slice Ag2 g.mv.length cg2), (36, .pointer (some ⟨w.heap.size, 2, none⟩))] [(w119.cell? ⟨w.heap.size, 2, none⟩ = some (.slice Ag2 g.mv.length cg2))] (by kernel_rfl) ⟨(bx128.cell (i := 2) rfl), trivial⟩ (fun act137 f136 => ?_)
  clear f135
  refine At.done rfl ?_
  refine t_n ?_
  have f138 := f136.sub (r := [(39, .int .i64 (0)), (38, .int .i64 (((g.mv.length : Nat) : Int))), (37, .slice Ag2 g.mv.length cg2), (7, .slice (some ⟨w101.heap.size, 0, none⟩) ((List.replicate ((((List.replicate (((g.ow.length : Nat) : Int) : Int).toNat ((⟨false, 0, 0, 0, 0⟩ : Tup) : Tup)).length : Nat) : Int) : Int).toNat (false : Bool)).length) (((((List.replicate (((g.ow.length : Nat) : Int) : Int).toNat ((⟨false, 0, 0, 0, 0⟩ : Tup) : Tup)).length : Nat) : Int) : Int).toNat)), (6, .slice (some ⟨w83.heap.size, 0, none⟩) ((List.replicate ((((List.replicate (((g.ow.length : Nat) : Int) : Int).toNat ((⟨false, 0, 0, 0, 0⟩ : Tup) : Tup)).length : Nat) : Int) : Int).toNat (0 : Int)).length) (((((List.replicate (((g.ow.length : Nat) : Int) : Int).toNat ((⟨false, 0, 0, 0, 0⟩ : Tup) : Tup)).length : Nat) : Int) : Int).toNat)), (5, .slice (some ⟨w71.heap.size, 0, none⟩) ((List.replicate ((((List.replicate (((g.ow.length : Nat) : Int) : Int).toNat ((⟨false, 0, 0, 0, 0⟩ : Tup) : Tup)).length : Nat) : Int) : Int).toNat ((⟨none, 0, 0⟩ : SliceV) : SliceV)).length) (((((List.replicate (((g.ow.length : Nat) : Int) : Int).toNat ((⟨false, 0, 0, 0, 0⟩ : Tup) : Tup)).length : Nat) : Int) : Int).toNat)), (4, .pointer (some ⟨w52.heap.size, 0, none⟩)), (3, .slice (some ⟨w1.heap.size, 0, none⟩) ((List.replicate (((g.ow.length : Nat) : Int) : Int).toNat ((⟨false, 0, 0, 0, 0⟩ : Tup) : Tup)).length) ((((g.ow.length : Nat) : Int) : Int).toNat)), (2, .slice none 0 0), (1, .pointer (some ⟨w.heap.size, 0, none⟩))]) ⟨rfl, rfl, rfl, rfl, rfl, rfl, rfl, rfl, rfl, rfl, trivial⟩
  clear f136
  refine wp_block ?_
  have f146 := f138.as 7 (.slice (some ⟨w101.heap.size, 0, none⟩) ((List.replicate ((((List.replicate (((g.ow.length : Nat) : Int) : Int).toNat ((⟨false, 0, 0, 0, 0⟩ : Tup) : Tup)).length : Nat) : Int) : Int).toNat (false : Bool)).length) (((((List.replicate (((g.ow.length : Nat) : Int) : Int).toNat ((⟨false, 0, 0, 0, 0⟩ : Tup) : Tup)).length : Nat) : Int) : Int).toNat)) (.slice (some ⟨w101.heap.size, 0, none⟩) ((List.replicate ((((List.replicate (((g.ow.length : Nat) : Int) : Int).toNat ((⟨false, 0, 0, 0, 0⟩ : Tup) : Tup)).length : Nat) : Int) : Int).toNat (false : Bool) : List Bool).length) (((((List.replicate (((g.ow.length : Nat) : Int) : Int).toNat ((⟨false, 0, 0, 0, 0⟩ : Tup) : Tup)).length : Nat) : Int) : Int).toNat)) rfl (slice_len (by first | rfl | omega | (simp; done) | (simp; omega)))
  clear f138
  have f147 := f146.as 6 (.slice (some ⟨w83.heap.size, 0, none⟩) ((List.replicate ((((List.replicate (((g.ow.length : Nat) : Int) : Int).toNat ((⟨false, 0, 0, 0, 0⟩ : Tup) : Tup)).length : Nat) : Int) : Int).toNat (0 : Int)).length) (((((List.replicate (((g.ow.length : Nat) : Int) : Int).toNat ((⟨false, 0, 0, 0, 0⟩ : Tup) : Tup)).length : Nat) : Int) : Int).toNat)) (.slice (some ⟨w83.heap.size, 0, none⟩) ((List.replicate ((((List.replicate (((g.ow.length : Nat) : Int) : Int).toNat ((⟨false, 0, 0, 0, 0⟩ : Tup) : Tup)).length : Nat) : Int) : Int).toNat (0 : Int) : List Int).length) (((((List.replicate (((g.ow.length : Nat) : Int) : Int).toNat ((⟨false, 0, 0, 0, 0⟩ : Tup) : Tup)).length : Nat) : Int) : Int).toNat)) rfl (slice_len (by first | rfl | omega | (simp; done) | (simp; omega)))
  clear f146
  have f148 := f147.as 5 (.slice (some ⟨w71.heap.size, 0, none⟩) ((List.replicate ((((List.replicate (((g.ow.length : Nat) : Int) : Int).toNat ((⟨false, 0, 0, 0, 0⟩ : Tup) : Tup)).length : Nat) : Int) : Int).toNat ((⟨none, 0, 0⟩ : SliceV) : SliceV)).length) (((((List.replicate (((g.ow.length : Nat) : Int) : Int).toNat ((⟨false, 0, 0, 0, 0⟩ : Tup) : Tup)).length : Nat) : Int) : Int).toNat)) (.slice (some ⟨w71.heap.size, 0, none⟩) ((List.replicate ((((List.replicate (((g.ow.length : Nat) : Int) : Int).toNat ((⟨false, 0, 0, 0, 0⟩ : Tup) : Tup)).length : Nat) : Int) : Int).toNat ([] : List Int) : List (List Int)).length) (((((List.replicate (((g.ow.length : Nat) : Int) : Int).toNat ((⟨false, 0, 0, 0, 0⟩ : Tup) : Tup)).length : Nat) : Int) : Int).toNat)) rfl (slice_len (by first | rfl | omega | (simp; done) | (simp; omega)))
  clear f147
  have f145 := f148.sub (r := [(39, .int .i64 (0)), (38, .int .i64 (((g.mv.length : Nat) : Int))), (37, .slice Ag2 g.mv.length cg2), (7, .slice (some ⟨w101.heap.size, 0, none⟩) ((List.replicate ((((List.replicate (((g.ow.length : Nat) : Int) : Int).toNat ((⟨false, 0, 0, 0, 0⟩ : Tup) : Tup)).length : Nat) : Int) : Int).toNat (false : Bool) : List Bool).length) (((((List.replicate (((g.ow.length : Nat) : Int) : Int).toNat ((⟨false, 0, 0, 0, 0⟩ : Tup) : Tup)).length : Nat) : Int) : Int).toNat)), (6, .slice (some ⟨w83.heap.size, 0, none⟩) ((List.replicate ((((List.replicate (((g.ow.length : Nat) : Int) : Int).toNat ((⟨false, 0, 0, 0, 0⟩ : Tup) : Tup)).length : Nat) : Int) : Int).toNat (0 : Int) : List Int).length) (((((List.replicate (((g.ow.length : Nat) : Int) : Int).toNat ((⟨false, 0, 0, 0, 0⟩ : Tup) : Tup)).length : Nat) : Int) : Int).toNat)), (5, .slice (some ⟨w71.heap.size, 0, none⟩) ((List.replicate ((((List.replicate (((g.ow.length : Nat) : Int) : Int).toNat ((⟨false, 0, 0, 0, 0⟩ : Tup) : Tup)).length : Nat) : Int) : Int).toNat ([] : List Int) : List (List Int)).length) (((((List.replicate (((g.ow.length : Nat) : Int) : Int).toNat ((⟨false, 0, 0, 0, 0⟩ : Tup) : Tup)).length : Nat) : Int) : Int).toNat)), (4, .pointer (some ⟨w52.heap.size, 0, none⟩)), (3, .slice (some ⟨w1.heap.size, 0, none⟩) ((List.replicate (((g.ow.length : Nat) : Int) : Int).toNat ((⟨false, 0, 0, 0, 0⟩ : Tup) : Tup)).length) ((((g.ow.length : Nat) : Int) : Int).toNat)), (2, .slice none 0 0), (1, .pointer (some ⟨w.heap.size, 0, none⟩))]) ⟨rfl, rfl, rfl, rfl, rfl, rfl, rfl, rfl, rfl, rfl, trivial⟩
  refine loop_g (fun (m_ : Nat) a_ w_ => ∃ (i : Int) (fr : List (List Int)) (A_139 : Option Addr) (c_140 : Nat) (td : List Int) (A_141 : Option Addr) (c_142 : Nat) (nn : List Bool) (A_143 : Option Addr) (c_144 : Nat), m_ = ((g.mv.length : Int) - i).toNat ∧ (Frm 128 a_ [(39, .int .i64 (i)), (38, .int .i64 (((g.mv.length : Nat) : Int))), (37, .slice Ag2 g.mv.length cg2), (7, .slice A_143 nn.length c_144), (6, .slice A_141 td.length c_142), (5, .slice A_139 fr.length c_140), (4, .pointer (some ⟨w52.heap.size, 0, none⟩)), (3, .slice (some ⟨w1.heap.size, 0, none⟩) ((List.replicate (((g.ow.length : Nat) : Int) : Int).toNat ((⟨false, 0, 0, 0, 0⟩ : Tup) : Tup)).length) ((((g.ow.length : Nat) : Int) : Int).toNat)), (2, .slice none 0 0), (1, .pointer (some ⟨w.heap.size, 0, none⟩))]) ∧ (Ext w w_) ∧ (RdG w_ 0 w.heap.size Ag0 Ag1 Ag2 cg0 cg1 cg2 g) ∧ (Bx w_ (w.heap.size) [.slice Ag0 g.ow.length cg0, .slice Ag1 g.pr.length cg1, .slice Ag2 g.mv.length cg2] 25) ∧ (OwnR w_ (Sx (w1.heap.size) [obk (A_143), obk (A_141), obk (A_139), some (w52.heap.size)]) (some ⟨w1.heap.size, 0, none⟩) ((((g.ow.length : Nat) : Int) : Int).toNat) 41 (List.replicate (((g.ow.length : Nat) : Int) : Int).toNat ((⟨false, 0, 0, 0, 0⟩ : Tup) : Tup) : List Tup)) ∧ (Bx w_ (w52.heap.size) [.int .i64 (cnt g.pr 1), .int .i64 (cnt g.pr 3), .int .i64 (cnt g.pr 5), .int .i64 (cnt g.pr 7)] 38) ∧ (OwnLL w_ (w71.heap.size) [obk (A_143), obk (A_141), obk (some ⟨w1.heap.size, 0, none⟩)] A_139 c_140 22 3 (fr : List (List Int))) ∧ (OwnR w_ (Sx (w83.heap.size) [obk (A_143), obk (some ⟨w1.heap.size, 0, none⟩), obk (A_139)]) A_141 c_142 3 (td : List Int)) ∧ (OwnR w_ (Sx (w101.heap.size) [obk (some ⟨w1.heap.size, 0, none⟩), obk (A_139), obk (A_141)]) A_143 c_144 4 (nn : List Bool)) ∧ (0 ≤ i) ∧ (i ≤ (g.mv.length : Int)) ∧ (FromT g fr i 0) ∧ (td.length = g.ow.length) ∧ (nn.length = g.ow.length) ∧ (FillT td nn i) ∧ (w1.heap.size ≤ w_.heap.size) ∧ (w71.heap.size ≤ w_.heap.size) ∧ (w83.heap.size ≤ w_.heap.size) ∧ (w101.heap.size ≤ w_.heap.size)) _ ⟨0, (List.replicate ((((List.replicate (((g.ow.length : Nat) : Int) : Int).toNat ((⟨false, 0, 0, 0, 0⟩ : Tup) : Tup)).length : Nat) : Int) : Int).toNat ([] : List Int) : List (List Int)), some ⟨w71.heap.size, 0, none⟩, ((((List.replicate (((g.ow.length : Nat) : Int) : Int).toNat ((⟨false, 0, 0, 0, 0⟩ : Tup) : Tup)).length : Nat) : Int) : Int).toNat, (List.replicate ((((List.replicate (((g.ow.length : Nat) : Int) : Int).toNat ((⟨false, 0, 0, 0, 0⟩ : Tup) : Tup)).length : Nat) : Int) : Int).toNat (0 : Int) : List Int), some ⟨w83.heap.size, 0, none⟩, ((((List.replicate (((g.ow.length : Nat) : Int) : Int).toNat ((⟨false, 0, 0, 0, 0⟩ : Tup) : Tup)).length : Nat) : Int) : Int).toNat, (List.replicate ((((List.replicate (((g.ow.length : Nat) : Int) : Int).toNat ((⟨false, 0, 0, 0, 0⟩ : Tup) : Tup)).length : Nat) : Int) : Int).toNat (false : Bool) : List Bool), some ⟨w101.heap.size, 0, none⟩, ((((List.replicate (((g.ow.length : Nat) : Int) : Int).toNat ((⟨false, 0, 0, 0, 0⟩ : Tup) : Tup)).length : Nat) : Int) : Int).toNat, rfl, f145, e126, r127, bx128, ow129, bx130, ow131, ow132, hO121, (by omega), (by omega), (by simp only [List.length_replicate, Int.toNat_natCast]; exact from0), (by simp), (by simp), (fun j a b => by omega), (by omega), (by omega), (by omega), (by omega)⟩ ?_
  clear f145 f148
  clear r127
  clear bx128
  clear ow129
  clear bx130
  clear ow131
  clear ow132
  clear hO121
  clear e126
  intro m_ act149 w150 ⟨i, fr, A_139, c_140, td, A_141, c_142, nn, A_143, c_144, hm152, f153, e151, r154, bx155, ow156, bx157, r158, ow159, ow160, i161, i162, hfr, i163, i164, hfl, i165, i166, i167, i168⟩
  have szw150 := e151.size
  have := bx155.lt
  have := bx157.lt
  have hfrl := hfr.len
  refine wp_seq ?_
  refine At.start ?_
  refine At.rd f153 1 [[]] [(40, .bool (decide ((i : Int) < ((g.mv.length : Nat) : Int))))] [] (by kernel_rfl) trivial (fun act170 f169 => ?_)
  clear f153
  refine At.done rfl ?_
  refine t_n ?_
  refine wp_seq ?_
  refine cond_S f169 (t := decide ((i : Int) < ((g.mv.length : Nat) : Int))) rfl (fun h171 => ?_) (fun h171 => ?_)
  ·have q172 := of_decide_eq_true h171
   refine wp_skip ?_
   refine t_n ?_
   have f173 := f169.sub (r := [(39, .int .i64 (i)), (38, .int .i64 (((g.mv.length : Nat) : Int))), (37, .slice Ag2 g.mv.length cg2), (7, .slice A_143 nn.length c_144), (6, .slice A_141 td.length c_142), (5, .slice A_139 fr.length c_140), (4, .pointer (some ⟨w52.heap.size, 0, none⟩)), (3, .slice (some ⟨w1.heap.size, 0, none⟩) ((List.replicate (((g.ow.length : Nat) : Int) : Int).toNat ((⟨false, 0, 0, 0, 0⟩ : Tup) : Tup)).length) ((((g.ow.length : Nat) : Int) : Int).toNat)), (2, .slice none 0 0), (1, .pointer (some ⟨w.heap.size, 0, none⟩))]) ⟨rfl, rfl, rfl, rfl, rfl, rfl, rfl, rfl, rfl, rfl, trivial⟩
   clear f169
   refine wp_seq ?_
   refine wp_block ?_
   refine wp_seq ?_
   refine At.start ?_
   obtain ⟨ad174, R177, C178, hA175, _, _, hc176, hC179, r180⟩ := RdII.get r154.mv (i) (by omega) (by omega)
   have hl181 := r180.len
   refine At.rd f173 5 [[], [.ad ad174], [.ld (.slice R177 ((gL g.mv (i)).length) C178)], [], []] [(9, .slice R177 ((gL g.mv (i)).length) C178), (8, .int .i64 (i)), (43, .slice R177 ((gL g.mv (i)).length) C178), (42, .pointer (some (ad174.add ((i : Int).toNat * 1)))), (41, .int .i64 (i))] [(Ag2 = some ad174), (0 ≤ (i : Int)), ((i : Int) < (g.mv.length : Nat)), (w150.cell? (ad174.add ((i : Int).toNat * 1)) = some (.slice R177 ((gL g.mv (i)).length) C178))] (by kernel_rfl) ⟨hA175, (by omega), (by omega), hc176, trivial⟩ (fun act184 f183 => ?_)
   clear f173
   refine At.done rfl ?_
   refine t_n ?_
   have f185 := f183.sub (r := [(9, .slice R177 ((gL g.mv (i)).length) C178), (8, .int .i64 (i)), (39, .int .i64 (i)), (38, .int .i64 (((g.mv.length : Nat) : Int))), (37, .slice Ag2 g.mv.length cg2), (7, .slice A_143 nn.length c_144), (6, .slice A_141 td.length c_142), (5, .slice A_139 fr.length c_140), (4, .pointer (some ⟨w52.heap.size, 0, none⟩)), (3, .slice (some ⟨w1.heap.size, 0, none⟩) ((List.replicate (((g.ow.length : Nat) : Int) : Int).toNat ((⟨false, 0, 0, 0, 0⟩ : Tup) : Tup)).length) ((((g.ow.length : Nat) : Int) : Int).toNat)), (2, .slice none 0 0), (1, .pointer (some ⟨w.heap.size, 0, none⟩))]) ⟨rfl, rfl, rfl, rfl, rfl, rfl, rfl, rfl, rfl, rfl, rfl, rfl, trivial⟩
   clear f183
   refine wp_seq ?_
   refine At.start ?_
   obtain ⟨ad186, hA187, hb190, hc189, hc188⟩ := ow159.get (i) (by omega) (by omega) (sz := 1) rfl
   refine At.rd f185 6 [[], [], [], [], [], [.ad ad186]] [(49, .pointer (some (ad186.add ((i : Int).toNat * 1)))), (48, .int .i64 (i)), (47, .int .i64 (i)), (46, .slice A_143 nn.length c_144), (45, .int .i64 (i)), (44, .slice A_141 td.length c_142)] [(A_141 = some ad186), (0 ≤ (i : Int)), ((i : Int) < (td.length : Nat))] (by kernel_rfl) ⟨hA187, (by omega), (by omega), trivial⟩ (fun act192 f191 => ?_)
   clear f185
   refine At.act f191 (storeR (α := Int) (t := 3) (i := i) (ad := ad186) (v := .int .i64 (i)) (i) (by kernel_rfl) rfl rfl (by kernel_rfl) hA187 ow159 (by omega) (by omega)) ?_
   rintro d_ v_ w193 ⟨rfl, g194, ow195⟩
   refine ⟨_, rfl, fun act198 f197 => ?_⟩
   clear f191
   have hl196 : ((td).set (i : Int).toNat i).length = (td).length := List.length_set
   have szw193 := g194.size
   have e199 := e151.gr g194 (fun k hk => by have := ow159.ge k hk; omega)
   clear e151
   have r200 := r154.gr g194 (fun k hk => by have := ow159.ge k hk; omega)
   clear r154
   have bx201 := bx155.gr g194 (fun e => by have := ow159.ge _ e; omega)
   clear bx155
   have ow202 := ow156.gr g194 (fun k hk => hk.2.1)
   clear ow156
   have bx203 := bx157.gr g194 (fun e => by have := ow159.ge _ e; omega)
   clear bx157
   have ow204 := r158.gr g194 (fun k hk => hk.2.1)
   clear r158
   have ow205 := ow160.gr g194 (fun k hk => hk.2.2.1)
   clear ow160
   have r206 := r180.gr g194 (fun k hk => by have := ow159.ge k hk; omega)
   clear r180
   clear ow159 g194
   obtain ⟨ad207, hA208, hb211, hc210, hc209⟩ := ow205.get (i) (by omega) (by omega) (sz := 1) rfl
   refine At.rd f197 1 [[.ad ad207]] [(50, .pointer (some (ad207.add ((i : Int).toNat * 1))))] [(A_143 = some ad207), (0 ≤ (i : Int)), ((i : Int) < (nn.length : Nat))] (by kernel_rfl) ⟨hA208, (by omega), (by omega), trivial⟩ (fun act213 f212 => ?_)
   clear f197
   refine At.act f212 (storeR (α := Bool) (t := 4) (i := i) (ad := ad207) (v := .bool true) (true) (by kernel_rfl) rfl rfl (by kernel_rfl) hA208 ow205 (by omega) (by omega)) ?_
   rintro d_ v_ w214 ⟨rfl, g215, ow216⟩
   refine ⟨_, rfl, fun act219 f218 => ?_⟩
   clear f212
   have hl217 : ((nn).set (i : Int).toNat true).length = (nn).length := List.length_set
   have szw214 := g215.size
   have e220 := e199.gr g215 (fun k hk => by have := ow205.ge k hk; omega)
   clear e199
   have r221 := r200.gr g215 (fun k hk => by have := ow205.ge k hk; omega)
   clear r200
   have bx222 := bx201.gr g215 (fun e => by have := ow205.ge _ e; omega)
   clear bx201
   have ow223 := ow202.gr g215 (fun k hk => hk.1)
   clear ow202
   have bx224 := bx203.gr g215 (fun e => by have := ow205.ge _ e; omega)
   clear bx203
   have ow225 := ow204.gr g215 (fun k hk => hk.1)
   clear ow204
   have ow226 := ow195.gr g215 (fun k hk => hk.1)
   clear ow195
   have r227 := r206.gr g215 (fun k hk => by have := ow205.ge k hk; omega)
   clear r206
   clear ow205 g215
   refine At.done rfl ?_
   refine t_n ?_
   have f228 := f218.sub (r := [(9, .slice R177 ((gL g.mv (i)).length) C178), (8, .int .i64 (i)), (39, .int .i64 (i)), (38, .int .i64 (((g.mv.length : Nat) : Int))), (37, .slice Ag2 g.mv.length cg2), (7, .slice A_143 nn.length c_144), (6, .slice A_141 td.length c_142), (5, .slice A_139 fr.length c_140), (4, .pointer (some ⟨w52.heap.size, 0, none⟩)), (3, .slice (some ⟨w1.heap.size, 0, none⟩) ((List.replicate (((g.ow.length : Nat) : Int) : Int).toNat ((⟨false, 0, 0, 0, 0⟩ : Tup) : Tup)).length) ((((g.ow.length : Nat) : Int) : Int).toNat)), (2, .slice none 0 0), (1, .pointer (some ⟨w.heap.size, 0, none⟩))]) ⟨rfl, rfl, rfl, rfl, rfl, rfl, rfl, rfl, rfl, rfl, rfl, rfl, trivial⟩
   clear f218
   refine wp_seq ?_
   refine At.start ?_
   refine At.rd f228 3 [[], [], []] [(53, .int .i64 (0)), (52, .int .i64 ((((gL g.mv (i)).length : Nat) : Int))), (51, .slice R177 ((gL g.mv (i)).length) C178)] [] (by kernel_rfl) trivial (fun act230 f229 => ?_)
   clear f228
   refine At.done rfl ?_
   refine t_n ?_
   have f231 := f229.sub (r := [(53, .int .i64 (0)), (52, .int .i64 ((((gL g.mv (i)).length : Nat) : Int))), (51, .slice R177 ((gL g.mv (i)).length) C178), (8, .int .i64 (i)), (39, .int .i64 (i)), (38, .int .i64 (((g.mv.length : Nat) : Int))), (37, .slice Ag2 g.mv.length cg2), (7, .slice A_143 nn.length c_144), (6, .slice A_141 td.length c_142), (5, .slice A_139 fr.length c_140), (4, .pointer (some ⟨w52.heap.size, 0, none⟩)), (3, .slice (some ⟨w1.heap.size, 0, none⟩) ((List.replicate (((g.ow.length : Nat) : Int) : Int).toNat ((⟨false, 0, 0, 0, 0⟩ : Tup) : Tup)).length) ((((g.ow.length : Nat) : Int) : Int).toNat)), (2, .slice none 0 0), (1, .pointer (some ⟨w.heap.size, 0, none⟩))]) ⟨rfl, rfl, rfl, rfl, rfl, rfl, rfl, rfl, rfl, rfl, rfl, rfl, rfl, rfl, trivial⟩
   clear f229
   refine wp_block ?_
   have f235 := f231.as 5 (.slice A_139 fr.length c_140) (.slice A_139 ((fr : List (List Int)).length) c_140) rfl (slice_len (by first | rfl | omega | (simp; done) | (simp; omega)))
   clear f231
   have f234 := f235.sub (r := [(53, .int .i64 (0)), (52, .int .i64 ((((gL g.mv (i)).length : Nat) : Int))), (51, .slice R177 ((gL g.mv (i)).length) C178), (8, .int .i64 (i)), (39, .int .i64 (i)), (38, .int .i64 (((g.mv.length : Nat) : Int))), (37, .slice Ag2 g.mv.length cg2), (7, .slice A_143 nn.length c_144), (6, .slice A_141 td.length c_142), (5, .slice A_139 ((fr : List (List Int)).length) c_140), (4, .pointer (some ⟨w52.heap.size, 0, none⟩)), (3, .slice (some ⟨w1.heap.size, 0, none⟩) ((List.replicate (((g.ow.length : Nat) : Int) : Int).toNat ((⟨false, 0, 0, 0, 0⟩ : Tup) : Tup)).length) ((((g.ow.length : Nat) : Int) : Int).toNat)), (2, .slice none 0 0), (1, .pointer (some ⟨w.heap.size, 0, none⟩))]) ⟨rfl, rfl, rfl, rfl, rfl, rfl, rfl, rfl, rfl, rfl, rfl, rfl, rfl, rfl, trivial⟩
   refine loop_g (fun (m_ : Nat) a_ w_ => ∃ (q : Int) (fr2 : List (List Int)) (A_232 : Option Addr) (c_233 : Nat), m_ = (((gL g.mv i).length : Int) - q).toNat ∧ (Frm 128 a_ [(53, .int .i64 (q)), (52, .int .i64 ((((gL g.mv (i)).length : Nat) : Int))), (51, .slice R177 ((gL g.mv (i)).length) C178), (8, .int .i64 (i)), (39, .int .i64 (i)), (38, .int .i64 (((g.mv.length : Nat) : Int))), (37, .slice Ag2 g.mv.length cg2), (7, .slice A_143 nn.length c_144), (6, .slice A_141 td.length c_142), (5, .slice A_232 fr2.length c_233), (4, .pointer (some ⟨w52.heap.size, 0, none⟩)), (3, .slice (some ⟨w1.heap.size, 0, none⟩) ((List.replicate (((g.ow.length : Nat) : Int) : Int).toNat ((⟨false, 0, 0, 0, 0⟩ : Tup) : Tup)).length) ((((g.ow.length : Nat) : Int) : Int).toNat)), (2, .slice none 0 0), (1, .pointer (some ⟨w.heap.size, 0, none⟩))]) ∧ (Ext w w_) ∧ (RdG w_ 0 w.heap.size Ag0 Ag1 Ag2 cg0 cg1 cg2 g) ∧ (Bx w_ (w.heap.size) [.slice Ag0 g.ow.length cg0, .slice Ag1 g.pr.length cg1, .slice Ag2 g.mv.length cg2] 25) ∧ (OwnR w_ (Sx (w1.heap.size) [obk (A_143), obk (A_141), obk (A_232), some (w52.heap.size)]) (some ⟨w1.heap.size, 0, none⟩) ((((g.ow.length : Nat) : Int) : Int).toNat) 41 (List.replicate (((g.ow.length : Nat) : Int) : Int).toNat ((⟨false, 0, 0, 0, 0⟩ : Tup) : Tup) : List Tup)) ∧ (Bx w_ (w52.heap.size) [.int .i64 (cnt g.pr 1), .int .i64 (cnt g.pr 3), .int .i64 (cnt g.pr 5), .int .i64 (cnt g.pr 7)] 38) ∧ (OwnLL w_ (w71.heap.size) [obk (A_143), obk (A_141), obk (some ⟨w1.heap.size, 0, none⟩)] A_232 c_233 22 3 (fr2 : List (List Int))) ∧ (OwnR w_ (Sx (w83.heap.size) [obk (A_143), obk (some ⟨w1.heap.size, 0, none⟩), obk (A_232)]) A_141 c_142 3 ((td).set (i : Int).toNat i : List Int)) ∧ (OwnR w_ (Sx (w101.heap.size) [obk (some ⟨w1.heap.size, 0, none⟩), obk (A_232), obk (A_141)]) A_143 c_144 4 ((nn).set (i : Int).toNat true : List Bool)) ∧ (RdI w_ 0 w.heap.size R177 (gL g.mv (i))) ∧ (0 ≤ q) ∧ (q ≤ ((gL g.mv i).length : Int)) ∧ (FromT g fr2 i q) ∧ (w1.heap.size ≤ w_.heap.size) ∧ (w71.heap.size ≤ w_.heap.size) ∧ (w83.heap.size ≤ w_.heap.size) ∧ (w101.heap.size ≤ w_.heap.size)) _ ⟨0, (fr : List (List Int)), A_139, c_140, rfl, f234, e220, r221, bx222, ow223, bx224, ow225, ow226, ow216, r227, (by omega), (by omega), hfr, (by omega), (by omega), (by omega), (by omega)⟩ ?_
   clear f234 f235
   clear r221
   clear bx222
   clear ow223
   clear bx224
   clear ow225
   clear ow226
   clear ow216
   clear r227
   clear e220
   intro m_ act236 w237 ⟨q, fr2, A_232, c_233, hm239, f240, e238, r241, bx242, ow243, bx244, r245, ow246, ow247, r248, i249, i250, hfr2, i251, i252, i253, i254⟩
   have szw237 := e238.size
   have := bx242.lt
   have := bx244.lt
   refine wp_seq ?_
   refine At.start ?_
   refine At.rd f240 1 [[]] [(54, .bool (decide ((q : Int) < (((gL g.mv (i)).length : Nat) : Int))))] [] (by kernel_rfl) trivial (fun act256 f255 => ?_)
   clear f240
   refine At.done rfl ?_
   refine t_n ?_
   refine wp_seq ?_
   refine cond_S f255 (t := decide ((q : Int) < (((gL g.mv (i)).length : Nat) : Int))) rfl (fun h257 => ?_) (fun h257 => ?_)
   ·have q258 := of_decide_eq_true h257
    refine wp_skip ?_
    refine t_n ?_
    have f259 := f255.sub (r := [(53, .int .i64 (q)), (52, .int .i64 ((((gL g.mv (i)).length : Nat) : Int))), (51, .slice R177 ((gL g.mv (i)).length) C178), (8, .int .i64 (i)), (39, .int .i64 (i)), (38, .int .i64 (((g.mv.length : Nat) : Int))), (37, .slice Ag2 g.mv.length cg2), (7, .slice A_143 nn.length c_144), (6, .slice A_141 td.length c_142), (5, .slice A_232 fr2.length c_233), (4, .pointer (some ⟨w52.heap.size, 0, none⟩)), (3, .slice (some ⟨w1.heap.size, 0, none⟩) ((List.replicate (((g.ow.length : Nat) : Int) : Int).toNat ((⟨false, 0, 0, 0, 0⟩ : Tup) : Tup)).length) ((((g.ow.length : Nat) : Int) : Int).toNat)), (2, .slice none 0 0), (1, .pointer (some ⟨w.heap.size, 0, none⟩))]) ⟨rfl, rfl, rfl, rfl, rfl, rfl, rfl, rfl, rfl, rfl, rfl, rfl, rfl, rfl, trivial⟩
    clear f255
    refine wp_seq ?_
    refine wp_block ?_
    refine wp_seq ?_
    have hmk := hG.mv i (by omega) (by omega) q (by omega) (by omega)
    have hrl := row_len hG (i := i) (by omega) (by omega)
    have hfl2 := hfr2.len
    have hfc := hfr2.cnt _ hmk.1 hmk.2
    refine At.start ?_
    obtain ⟨ad260, hA261, _, _, hc262⟩ := RdI.get r248 (q) (by omega) (by omega)
    refine At.rd f259 3 [[.ad ad260], [.ld (.int .i64 (gI (gL g.mv (i)) (q)))], []] [(11, .int .i64 (gI (gL g.mv (i)) (q))), (56, .int .i64 (gI (gL g.mv (i)) (q))), (55, .pointer (some (ad260.add ((q : Int).toNat * 1))))] [(R177 = some ad260), (0 ≤ (q : Int)), ((q : Int) < ((gL g.mv (i)).length : Nat)), (w237.cell? (ad260.add ((q : Int).toNat * 1)) = some (.int .i64 (gI (gL g.mv (i)) (q))))] (by kernel_rfl) ⟨hA261, (by omega), (by omega), hc262, trivial⟩ (fun act264 f263 => ?_)
    clear f259
    refine At.done rfl ?_
    refine t_n ?_
    have f265 := f263.sub (r := [(11, .int .i64 (gI (gL g.mv (i)) (q))), (53, .int .i64 (q)), (52, .int .i64 ((((gL g.mv (i)).length : Nat) : Int))), (51, .slice R177 ((gL g.mv (i)).length) C178), (8, .int .i64 (i)), (39, .int .i64 (i)), (38, .int .i64 (((g.mv.length : Nat) : Int))), (37, .slice Ag2 g.mv.length cg2), (7, .slice A_143 nn.length c_144), (6, .slice A_141 td.length c_142), (5, .slice A_232 fr2.length c_233), (4, .pointer (some ⟨w52.heap.size, 0, none⟩)), (3, .slice (some ⟨w1.heap.size, 0, none⟩) ((List.replicate (((g.ow.length : Nat) : Int) : Int).toNat ((⟨false, 0, 0, 0, 0⟩ : Tup) : Tup)).length) ((((g.ow.length : Nat) : Int) : Int).toNat)), (2, .slice none 0 0), (1, .pointer (some ⟨w.heap.size, 0, none⟩))]) ⟨rfl, rfl, rfl, rfl, rfl, rfl, rfl, rfl, rfl, rfl, rfl, rfl, rfl, rfl, rfl, trivial⟩
    clear f263
    refine At.start ?_
    obtain ⟨ad266, R269, C270, hA267, hb271, hc268, ow272, ow273⟩ := r245.get (gI (gL g.mv (i)) (q)) (by omega) (by omega)
    refine At.rd f265 7 [[], [], [], [], [.ad ad266], [.ld (.slice R269 ((gL fr2 (gI (gL g.mv (i)) (q))).length) C270)], []] [(63, .int .i64 (i)), (62, .slice R269 ((gL fr2 (gI (gL g.mv (i)) (q))).length) C270), (61, .pointer (some (ad266.add ((gI (gL g.mv (i)) (q) : Int).toNat * 1)))), (60, .int .i64 (gI (gL g.mv (i)) (q))), (59, .slice A_232 fr2.length c_233), (58, .int .i64 (gI (gL g.mv (i)) (q))), (57, .slice A_232 fr2.length c_233)] [(A_232 = some ad266), (0 ≤ (gI (gL g.mv (i)) (q) : Int)), ((gI (gL g.mv (i)) (q) : Int) < (fr2.length : Nat)), (w237.cell? (ad266.add ((gI (gL g.mv (i)) (q) : Int).toNat * 1)) = some (.slice R269 ((gL fr2 (gI (gL g.mv (i)) (q))).length) C270))] (by kernel_rfl) ⟨hA267, (by omega), (by omega), hc268, trivial⟩ (fun act277 f276 => ?_)
    clear f265
    refine At.seq f276 1 [[]] [(64, .slice (some ⟨w237.heap.size, 0, none⟩) 1 1)] (w237.alloc (.cells #[.int .i64 (i)] 3 (0, 0))) [] (by kernel_rfl) trivial (fun act281 w278 hw279 f280 => ?_)
    clear f276
    have g282 := gr_alloc hw279
    have szw278 := g282.size
    have e285 := e238.gr g282 no_row
    clear e238
    have r286 := r241.gr g282 (fun _ h => by cases h)
    clear r241
    have bx287 := bx242.gr g282 (by simp)
    clear bx242
    have ow288 : OwnR w278 (Sx (w1.heap.size) [some (w237.heap.size), obk (A_143), obk (A_141), obk (A_232), some (w52.heap.size)]) (some ⟨w1.heap.size, 0, none⟩) ((((g.ow.length : Nat) : Int) : Int).toNat) 41 (List.replicate (((g.ow.length : Nat) : Int) : Int).toNat ((⟨false, 0, 0, 0, 0⟩ : Tup) : Tup) : List Tup) := ow243.grA g282 (fun _ _ h => by cases h) (fun k hk hs => ⟨(fun e => by injection e; omega), hs.1, hs.2.1, hs.2.2.1, hs.2.2.2.1, hs.2.2.2.2⟩)
    clear ow243
    have bx289 := bx244.gr g282 (by simp)
    clear bx244
    have ow290 : OwnLL w278 (w71.heap.size) [some (w237.heap.size), obk (A_143), obk (A_141), obk (some ⟨w1.heap.size, 0, none⟩)] A_232 c_233 22 3 (fr2 : List (List Int)) := r245.grA g282 (fun _ _ h => by cases h) (fun k hk hs => ⟨(fun e => by injection e; omega), hs.1, hs.2.1, hs.2.2.1, hs.2.2.2⟩)
    clear r245
    have ow291 : OwnR w278 (Sx (w83.heap.size) [some (w237.heap.size), obk (A_143), obk (some ⟨w1.heap.size, 0, none⟩), obk (A_232)]) A_141 c_142 3 ((td).set (i : Int).toNat i : List Int) := ow246.grA g282 (fun _ _ h => by cases h) (fun k hk hs => ⟨(fun e => by injection e; omega), hs.1, hs.2.1, hs.2.2.1, hs.2.2.2⟩)
    clear ow246
    have ow292 : OwnR w278 (Sx (w101.heap.size) [some (w237.heap.size), obk (some ⟨w1.heap.size, 0, none⟩), obk (A_232), obk (A_141)]) A_143 c_144 4 ((nn).set (i : Int).toNat true : List Bool) := ow247.grA g282 (fun _ _ h => by cases h) (fun k hk hs => ⟨(fun e => by injection e; omega), hs.1, hs.2.1, hs.2.2.1, hs.2.2.2⟩)
    clear ow247
    have r293 := r248.gr g282 (fun _ h => by cases h)
    clear r248
    have ow294 : HoleLL w278 (w71.heap.size) [some (w237.heap.size), obk (A_143), obk (A_141), obk (some ⟨w1.heap.size, 0, none⟩)] A_232 c_233 22 3 (fr2 : List (List Int)) (gI (gL g.mv (i)) (q) : Int).toNat R269 := ow273.grA g282 (fun _ _ h => by cases h) (fun k hk hs => ⟨(fun e => by injection e; omega), hs.1, hs.2.1, hs.2.2.1, hs.2.2.2⟩)
    clear ow273
    have ow295 : OwnR w278 (Sx (w71.heap.size) [some (w237.heap.size), obk (A_232), obk (A_143), obk (A_141), obk (some ⟨w1.heap.size, 0, none⟩)]) R269 C270 3 (gL fr2 (gI (gL g.mv (i)) (q)) : List Int) := ow272.grA g282 (fun _ _ h => by cases h) (fun k hk hs => ⟨(fun e => by injection e; omega), hs.1, hs.2.1, hs.2.2.1, hs.2.2.2.1, hs.2.2.2.2⟩)
    clear ow272
    have bx284 : Bx w278 (w237.heap.size) [.int .i64 (i)] 3 := Bx.new hw279
    have := bx284.lt
    clear g282 hw279
    have hl300 : ((gL fr2 (gI (gL g.mv (i)) (q))) ++ ([i])).length = (gL fr2 (gI (gL g.mv (i)) (q))).length + ([i] : List Int).length := List.length_append
    simp only [List.length_cons, List.length_nil] at hl300
    refine At.act f280 (appendR (α := Int) (t := 22) (d := 65) (n := (gL fr2 (gI (gL g.mv (i)) (q))).length) (m := 1) (cc := 1) (xs := gL fr2 (gI (gL g.mv (i)) (q))) (ys := [i]) (bytes := 8) (by first | rfl | omega | (simp; done) | (simp; omega)) (by first | rfl | omega | (simp; done) | (simp; omega)) (by kernel_rfl) rfl (by kernel_rfl) ow295 (Bx.srcR (l := ([i] : List Int)) bx284 rfl) (by simp only [List.length_cons, List.length_nil]; omega) (by simp only [List.length_cons, List.length_nil]; omega)) ?_
    rintro d_ v_ w299 ⟨rfl, A296, c297, ha298⟩
    obtain rfl := ha298.val
    have g301 := ha298.gr
    refine ⟨_, rfl, fun act303 f302 => ?_⟩
    clear f280
    clear bx284
    have ow304 := ha298.own (Sx (w71.heap.size) [obk (A_232), obk (A_143), obk (A_141), obk (some ⟨w1.heap.size, 0, none⟩)]) (fun g _ hs => ⟨hs.2.1, hs.2.2.1, hs.2.2.2.1, hs.2.2.2.2.1, hs.2.2.2.2.2⟩) ⟨ow290.ne_new, ow292.ne_new, ow291.ne_new, ow288.ne_new, (show w71.heap.size ≤ w278.heap.size by omega)⟩
    have szw299 := g301.size
    have e305 := e285.gr g301 (fun k hk => by have := ow295.ge k hk; omega)
    clear e285
    have r306 := r286.gr g301 (fun k hk => by have := ow295.ge k hk; omega)
    clear r286
    have bx307 := bx287.gr g301 (fun e => by have := ow295.ge _ e; omega)
    clear bx287
    have ow308 := ow288.gr2 g301 (fun k hk e => (ow295.inS k e).2.2.2.2.1 hk)
    clear ow288
    have bx309 := bx289.gr g301 (fun e => by have := ow295.ge _ e; omega)
    clear bx289
    clear ow290
    have ow310 := ow291.gr2 g301 (fun k hk e => (ow295.inS k e).2.2.2.1 hk)
    clear ow291
    have ow311 := ow292.gr2 g301 (fun k hk e => (ow295.inS k e).2.2.1 hk)
    clear ow292
    have r312 := r293.gr g301 (fun k hk => by have := ow295.ge k hk; omega)
    clear r293
    have ow313 := ow294.moved g301 ha298.at_
    clear ow294
    clear ow295 g301 ha298
    refine At.rd f302 1 [[.ad ad266]] [(66, .pointer (some (ad266.add ((gI (gL g.mv (i)) (q) : Int).toNat * 1))))] [(A_232 = some ad266), (0 ≤ (gI (gL g.mv (i)) (q) : Int)), ((gI (gL g.mv (i)) (q) : Int) < (fr2.length : Nat))] (by kernel_rfl) ⟨hA267, (by omega), (by omega), trivial⟩ (fun act315 f314 => ?_)
    clear f302
    have ow320 : HoleLL w299 (w71.heap.size) [obk (A_143), obk (A_141), obk (some ⟨w1.heap.size, 0, none⟩)] A_232 c_233 22 3 (fr2 : List (List Int)) (gI (gL g.mv (i)) (q) : Int).toNat A296 := ow313.imp (fun g _ hs => ⟨hs.2.1, hs.2.2.1, hs.2.2.2.1, hs.2.2.2.2⟩)
    clear ow313
    refine At.act f314 (storeLL (t := 22) (i := gI (gL g.mv (i)) (q)) (ad := ad266) (xs := (gL fr2 (gI (gL g.mv (i)) (q))) ++ ([i])) (by kernel_rfl) (by kernel_rfl) hA267 ow320 ow304 (by first | rfl | omega | (simp; done) | (simp; omega)) (by omega) (by omega)) ?_
    rintro d_ v_ w316 ⟨rfl, g317, ow318⟩
    refine ⟨_, rfl, fun act322 f321 => ?_⟩
    clear f314
    have hl319 : ((fr2).set (gI (gL g.mv (i)) (q) : Int).toNat ((gL fr2 (gI (gL g.mv (i)) (q))) ++ ([i]))).length = (fr2).length := List.length_set
    have szw316 := g317.size
    have e323 := e305.gr g317 (fun k hk => by have := (HoleLL.row ow320).ge k hk; omega)
    clear e305
    have r324 := r306.gr g317 (fun k hk => by have := (HoleLL.row ow320).ge k hk; omega)
    clear r306
    have bx325 := bx307.gr g317 (fun e => by have := (HoleLL.row ow320).ge _ e; omega)
    clear bx307
    have ow326 := ow308.gr g317 (fun k hk => hk.2.2.2.1)
    clear ow308
    have bx327 := bx309.gr g317 (fun e => by have := (HoleLL.row ow320).ge _ e; omega)
    clear bx309
    have ow328 := ow310.gr g317 (fun k hk => hk.2.2.2.1)
    clear ow310
    have ow329 := ow311.gr g317 (fun k hk => hk.2.2.1)
    clear ow311
    have r330 := r312.gr g317 (fun k hk => by have := (HoleLL.row ow320).ge k hk; omega)
    clear r312
    clear ow320 ow304 g317
    refine At.done rfl ?_
    refine b_n ?_
    refine t_n ?_
    have f331 := f321.sub (r := [(53, .int .i64 (q)), (52, .int .i64 ((((gL g.mv (i)).length : Nat) : Int))), (51, .slice R177 ((gL g.mv (i)).length) C178), (8, .int .i64 (i)), (39, .int .i64 (i)), (38, .int .i64 (((g.mv.length : Nat) : Int))), (37, .slice Ag2 g.mv.length cg2), (7, .slice A_143 nn.length c_144), (6, .slice A_141 td.length c_142), (5, .slice A_232 fr2.length c_233), (4, .pointer (some ⟨w52.heap.size, 0, none⟩)), (3, .slice (some ⟨w1.heap.size, 0, none⟩) ((List.replicate (((g.ow.length : Nat) : Int) : Int).toNat ((⟨false, 0, 0, 0, 0⟩ : Tup) : Tup)).length) ((((g.ow.length : Nat) : Int) : Int).toNat)), (2, .slice none 0 0), (1, .pointer (some ⟨w.heap.size, 0, none⟩))]) ⟨rfl, rfl, rfl, rfl, rfl, rfl, rfl, rfl, rfl, rfl, rfl, rfl, rfl, rfl, trivial⟩
    clear f321
    refine At.start ?_
    refine At.rd f331 2 [[.as_ (.int .i64 (q + 1))], []] [(53, .int .i64 (q + 1)), (67, .int .i64 (q + 1))] [((.int .i64 (IntKind.i64.wrap (q + 1)) : Value) = .int .i64 (q + 1))] (by kernel_rfl) ⟨(w64 (by omega) (by omega)), trivial⟩ (fun act333 f332 => ?_)
    clear f331
    refine At.done rfl ?_
    refine t_n ?_
    have f334 := f332.as 5 (.slice A_232 fr2.length c_233) (.slice A_232 (((fr2).set (gI (gL g.mv (i)) (q) : Int).toNat ((gL fr2 (gI (gL g.mv (i)) (q))) ++ ([i])) : List (List Int)).length) c_233) rfl (slice_len (by first | rfl | omega | (simp; done) | (simp; omega)))
    clear f332
    have f335 := f334.sub (r := [(53, .int .i64 (q + 1)), (52, .int .i64 ((((gL g.mv (i)).length : Nat) : Int))), (51, .slice R177 ((gL g.mv (i)).length) C178), (8, .int .i64 (i)), (39, .int .i64 (i)), (38, .int .i64 (((g.mv.length : Nat) : Int))), (37, .slice Ag2 g.mv.length cg2), (7, .slice A_143 nn.length c_144), (6, .slice A_141 td.length c_142), (5, .slice A_232 (((fr2).set (gI (gL g.mv (i)) (q) : Int).toNat ((gL fr2 (gI (gL g.mv (i)) (q))) ++ ([i])) : List (List Int)).length) c_233), (4, .pointer (some ⟨w52.heap.size, 0, none⟩)), (3, .slice (some ⟨w1.heap.size, 0, none⟩) ((List.replicate (((g.ow.length : Nat) : Int) : Int).toNat ((⟨false, 0, 0, 0, 0⟩ : Tup) : Tup)).length) ((((g.ow.length : Nat) : Int) : Int).toNat)), (2, .slice none 0 0), (1, .pointer (some ⟨w.heap.size, 0, none⟩))]) ⟨rfl, rfl, rfl, rfl, rfl, rfl, rfl, rfl, rfl, rfl, rfl, rfl, rfl, rfl, trivial⟩
    exact ⟨_, (by omega), (q + 1), ((fr2).set (gI (gL g.mv (i)) (q) : Int).toNat ((gL fr2 (gI (gL g.mv (i)) (q))) ++ ([i])) : List (List Int)), A_232, c_233, rfl, f335, e323, r324, bx325, (ow326.imp (fun g _ hs => ⟨hs.2.1, hs.2.2.1, hs.2.2.2.1, hs.2.2.2.2.1, hs.2.2.2.2.2⟩)), bx327, ow318, (ow328.imp (fun g _ hs => ⟨hs.2.1, hs.2.2.1, hs.2.2.2.1, hs.2.2.2.2⟩)), (ow329.imp (fun g _ hs => ⟨hs.2.1, hs.2.2.1, hs.2.2.2.1, hs.2.2.2.2⟩)), r330, (by omega), (by omega), (from_push hG hfr2 (by omega) (by omega) (by omega) (by omega)), (by omega), (by omega), (by omega), (by omega)⟩
   ·have q336 := of_decide_eq_false h257
    refine wp_exit ?_
    refine t_e ?_
    refine t_e ?_
    refine b_e ?_
    refine b_n ?_
    refine t_n ?_
    have f337 := f255.sub (r := [(39, .int .i64 (i)), (38, .int .i64 (((g.mv.length : Nat) : Int))), (37, .slice Ag2 g.mv.length cg2), (7, .slice A_143 nn.length c_144), (6, .slice A_141 td.length c_142), (5, .slice A_232 fr2.length c_233), (4, .pointer (some ⟨w52.heap.size, 0, none⟩)), (3, .slice (some ⟨w1.heap.size, 0, none⟩) ((List.replicate (((g.ow.length : Nat) : Int) : Int).toNat ((⟨false, 0, 0, 0, 0⟩ : Tup) : Tup)).length) ((((g.ow.length : Nat) : Int) : Int).toNat)), (2, .slice none 0 0), (1, .pointer (some ⟨w.heap.size, 0, none⟩))]) ⟨rfl, rfl, rfl, rfl, rfl, rfl, rfl, rfl, rfl, rfl, trivial⟩
    clear f255
    refine At.start ?_
    refine At.rd f337 2 [[.as_ (.int .i64 (i + 1))], []] [(39, .int .i64 (i + 1)), (68, .int .i64 (i + 1))] [((.int .i64 (IntKind.i64.wrap (i + 1)) : Value) = .int .i64 (i + 1))] (by kernel_rfl) ⟨(w64 (by omega) (by omega)), trivial⟩ (fun act339 f338 => ?_)
    clear f337
    refine At.done rfl ?_
    refine t_n ?_
    have f340 := f338.as 7 (.slice A_143 nn.length c_144) (.slice A_143 (((nn).set (i : Int).toNat true : List Bool).length) c_144) rfl (slice_len (by first | rfl | omega | (simp; done) | (simp; omega)))
    clear f338
    have f341 := f340.as 6 (.slice A_141 td.length c_142) (.slice A_141 (((td).set (i : Int).toNat i : List Int).length) c_142) rfl (slice_len (by first | rfl | omega | (simp; done) | (simp; omega)))
    clear f340
    have f342 := f341.as 5 (.slice A_232 fr2.length c_233) (.slice A_232 ((fr2 : List (List Int)).length) c_233) rfl (slice_len (by first | rfl | omega | (simp; done) | (simp; omega)))
    clear f341
    have f343 := f342.sub (r := [(39, .int .i64 (i + 1)), (38, .int .i64 (((g.mv.length : Nat) : Int))), (37, .slice Ag2 g.mv.length cg2), (7, .slice A_143 (((nn).set (i : Int).toNat true : List Bool).length) c_144), (6, .slice A_141 (((td).set (i : Int).toNat i : List Int).length) c_142), (5, .slice A_232 ((fr2 : List (List Int)).length) c_233), (4, .pointer (some ⟨w52.heap.size, 0, none⟩)), (3, .slice (some ⟨w1.heap.size, 0, none⟩) ((List.replicate (((g.ow.length : Nat) : Int) : Int).toNat ((⟨false, 0, 0, 0, 0⟩ : Tup) : Tup)).length) ((((g.ow.length : Nat) : Int) : Int).toNat)), (2, .slice none 0 0), (1, .pointer (some ⟨w.heap.size, 0, none⟩))]) ⟨rfl, rfl, rfl, rfl, rfl, rfl, rfl, rfl, rfl, rfl, trivial⟩
    exact ⟨_, (by omega), (i + 1), (fr2 : List (List Int)), A_232, c_233, ((td).set (i : Int).toNat i : List Int), A_141, c_142, ((nn).set (i : Int).toNat true : List Bool), A_143, c_144, rfl, f343, e238, r241, bx242, ow243, bx244, r245, ow246, ow247, (by omega), (by omega), (from_row hG hfr2 (by omega) (by omega) (by omega) (by omega)), (by omega), (by omega), (fill_next hfl (by omega) (by omega) (by omega)), (by omega), (by omega), (by omega), (by omega)⟩
  ·have q344 := of_decide_eq_false h171
   refine wp_exit ?_
   refine t_e ?_
   refine t_e ?_
   refine b_e ?_
   refine t_n ?_
   have f345 := f169.sub (r := [(7, .slice A_143 nn.length c_144), (6, .slice A_141 td.length c_142), (5, .slice A_139 fr.length c_140), (4, .pointer (some ⟨w52.heap.size, 0, none⟩)), (3, .slice (some ⟨w1.heap.size, 0, none⟩) ((List.replicate (((g.ow.length : Nat) : Int) : Int).toNat ((⟨false, 0, 0, 0, 0⟩ : Tup) : Tup)).length) ((((g.ow.length : Nat) : Int) : Int).toNat)), (2, .slice none 0 0), (1, .pointer (some ⟨w.heap.size, 0, none⟩))]) ⟨rfl, rfl, rfl, rfl, rfl, rfl, rfl, trivial⟩
   clear f169
   refine wp_seq ?_
   refine wp_block ?_
   have f353 := f345.as 6 (.slice A_141 td.length c_142) (.slice A_141 ((td : List Int).length) c_142) rfl (slice_len (by first | rfl | omega | (simp; done) | (simp; omega)))
   clear f345
   have f354 := f353.as 7 (.slice A_143 nn.length c_144) (.slice A_143 ((nn : List Bool).length) c_144) rfl (slice_len (by first | rfl | omega | (simp; done) | (simp; omega)))
   clear f353
   have f355 := f354.as 3 (.slice (some ⟨w1.heap.size, 0, none⟩) ((List.replicate (((g.ow.length : Nat) : Int) : Int).toNat ((⟨false, 0, 0, 0, 0⟩ : Tup) : Tup)).length) ((((g.ow.length : Nat) : Int) : Int).toNat)) (.slice (some ⟨w1.heap.size, 0, none⟩) ((List.replicate (((g.ow.length : Nat) : Int) : Int).toNat ((⟨false, 0, 0, 0, 0⟩ : Tup) : Tup) : List Tup).length) ((((g.ow.length : Nat) : Int) : Int).toNat)) rfl (slice_len (by first | rfl | omega | (simp; done) | (simp; omega)))
   clear f354
   have f352 := f355.sub (r := [(6, .slice A_141 ((td : List Int).length) c_142), (7, .slice A_143 ((nn : List Bool).length) c_144), (5, .slice A_139 fr.length c_140), (4, .pointer (some ⟨w52.heap.size, 0, none⟩)), (3, .slice (some ⟨w1.heap.size, 0, none⟩) ((List.replicate (((g.ow.length : Nat) : Int) : Int).toNat ((⟨false, 0, 0, 0, 0⟩ : Tup) : Tup) : List Tup).length) ((((g.ow.length : Nat) : Int) : Int).toNat)), (2, .slice none 0 0), (1, .pointer (some ⟨w.heap.size, 0, none⟩))]) ⟨rfl, rfl, rfl, rfl, rfl, rfl, rfl, trivial⟩
   refine loop_g (fun (m_ : Nat) a_ w_ => ∃ (l : List Tup) (A_346 : Option Addr) (c_347 : Nat) (td2 : List Int) (A_348 : Option Addr) (c_349 : Nat) (nn2 : List Bool) (A_350 : Option Addr) (c_351 : Nat), m_ = farG g l * 40401 + td2.length ∧ (Frm 128 a_ [(6, .slice A_348 td2.length c_349), (7, .slice A_350 nn2.length c_351), (5, .slice A_139 fr.length c_140), (4, .pointer (some ⟨w52.heap.size, 0, none⟩)), (3, .slice A_346 l.length c_347), (2, .slice none 0 0), (1, .pointer (some ⟨w.heap.size, 0, none⟩))]) ∧ (Ext w w_) ∧ (RdG w_ 0 w.heap.size Ag0 Ag1 Ag2 cg0 cg1 cg2 g) ∧ (Bx w_ (w.heap.size) [.slice Ag0 g.ow.length cg0, .slice Ag1 g.pr.length cg1, .slice Ag2 g.mv.length cg2] 25) ∧ (OwnR w_ (Sx (w1.heap.size) [obk (A_350), obk (A_348), obk (A_139), some (w52.heap.size)]) A_346 c_347 41 (l : List Tup)) ∧ (Bx w_ (w52.heap.size) [.int .i64 (cnt g.pr 1), .int .i64 (cnt g.pr 3), .int .i64 (cnt g.pr 5), .int .i64 (cnt g.pr 7)] 38) ∧ (OwnLL w_ (w71.heap.size) [obk (A_350), obk (A_348), obk (A_346)] A_139 c_140 22 3 (fr : List (List Int))) ∧ (OwnR w_ (Sx (w83.heap.size) [obk (A_350), obk (A_346), obk (A_139)]) A_348 c_349 3 (td2 : List Int)) ∧ (OwnR w_ (Sx (w101.heap.size) [obk (A_346), obk (A_139), obk (A_348)]) A_350 c_351 4 (nn2 : List Bool)) ∧ (WorkT g l td2 nn2 []) ∧ (FromT g fr (g.ow.length : Int) 0) ∧ (w1.heap.size ≤ w_.heap.size) ∧ (w71.heap.size ≤ w_.heap.size) ∧ (w83.heap.size ≤ w_.heap.size) ∧ (w101.heap.size ≤ w_.heap.size)) _ ⟨(List.replicate (((g.ow.length : Nat) : Int) : Int).toNat ((⟨false, 0, 0, 0, 0⟩ : Tup) : Tup) : List Tup), some ⟨w1.heap.size, 0, none⟩, (((g.ow.length : Nat) : Int) : Int).toNat, (td : List Int), A_141, c_142, (nn : List Bool), A_143, c_144, rfl, f352, e151, r154, bx155, ow156, bx157, r158, ow159, ow160, (work_start (bnd_zero g) (low_zero g) (by omega) (by omega) (fun j a b => hfl j a (by omega))), (by have e_ : i = (g.ow.length : Int) := (by omega); rw [← e_]; exact hfr), (by omega), (by omega), (by omega), (by omega)⟩ ?_
   clear f352 f355
   clear r154
   clear bx155
   clear ow156
   clear bx157
   clear r158
   clear ow159
   clear ow160
   clear e151
   intro m_ act356 w357 ⟨l, A_346, c_347, td2, A_348, c_349, nn2, A_350, c_351, hm359, f360, e358, r361, bx362, ow363, bx364, r365, ow366, ow367, hwk, hfrE, i368, i369, i370, i371⟩
   have szw357 := e358.size
   have := bx362.lt
   have := bx364.lt
   have hbl := hwk.bnd.1
   have hok := bnd_ok hwk.bnd
   have hwl0 := work_len hG hwk
   refine wp_seq ?_
   refine wp_seq ?_
   refine At.start ?_
   refine At.rd f360 3 [[], [], []] [(71, .bool (decide ((((td2.length : Nat) : Int) : Int) > 0))), (70, .int .i64 (((td2.length : Nat) : Int))), (69, .slice A_348 td2.length c_349)] [] (by kernel_rfl) trivial (fun act373 f372 => ?_)
   clear f360
   refine At.done rfl ?_
   refine t_n ?_
   have f374 := f372.sub (r := [(71, .bool (decide ((((td2.length : Nat) : Int) : Int) > 0))), (6, .slice A_348 td2.length c_349), (7, .slice A_350 nn2.length c_351), (5, .slice A_139 fr.length c_140), (4, .pointer (some ⟨w52.heap.size, 0, none⟩)), (3, .slice A_346 l.length c_347), (2, .slice none 0 0), (1, .pointer (some ⟨w.heap.size, 0, none⟩))]) ⟨rfl, rfl, rfl, rfl, rfl, rfl, rfl, rfl, trivial⟩
   clear f372
   refine cond_S f374 (t := decide ((((td2.length : Nat) : Int) : Int) > 0)) rfl (fun h375 => ?_) (fun h375 => ?_)
   ·have q376 := of_decide_eq_true h375
    refine wp_skip ?_
    refine t_n ?_
    have f377 := f374.sub (r := [(6, .slice A_348 td2.length c_349), (7, .slice A_350 nn2.length c_351), (5, .slice A_139 fr.length c_140), (4, .pointer (some ⟨w52.heap.size, 0, none⟩)), (3, .slice A_346 l.length c_347), (2, .slice none 0 0), (1, .pointer (some ⟨w.heap.size, 0, none⟩))]) ⟨rfl, rfl, rfl, rfl, rfl, rfl, rfl, trivial⟩
    clear f374
    refine wp_block ?_
    refine wp_seq ?_
    have hsp := last_split (l := td2) (k := ((td2.length : Nat) : Int) - 1) (by omega) rfl
    have hwk2 := hwk
    rw [hsp] at hwk2
    obtain ⟨hi, hni, hri, hnd, hnl, hnm⟩ := work_pop hwk2
    have hil := hwk.il
    refine At.start ?_
    obtain ⟨ad378, hA379, hb382, hc381, hc380⟩ := ow366.get (((td2.length : Nat) : Int) - 1) (by omega) (by omega) (sz := 1) rfl
    refine At.rd f377 7 [[], [], [], [.as_ (.int .i64 (((td2.length : Nat) : Int) - 1))], [.ad ad378], [.ld (.int .i64 (gI td2 (((td2.length : Nat) : Int) - 1)))], []] [(12, .int .i64 (gI td2 (((td2.length : Nat) : Int) - 1))), (77, .int .i64 (gI td2 (((td2.length : Nat) : Int) - 1))), (76, .pointer (some (ad378.add ((((td2.length : Nat) : Int) - 1 : Int).toNat * 1)))), (75, .int .i64 (((td2.length : Nat) : Int) - 1)), (74, .int .i64 (((td2.length : Nat) : Int))), (73, .slice A_348 td2.length c_349), (72, .slice A_348 td2.length c_349)] [((.int .i64 (IntKind.i64.wrap (((td2.length : Nat) : Int) - 1)) : Value) = .int .i64 (((td2.length : Nat) : Int) - 1)), (A_348 = some ad378), (0 ≤ (((td2.length : Nat) : Int) - 1 : Int)), ((((td2.length : Nat) : Int) - 1 : Int) < (td2.length : Nat)), (w357.cell? (ad378.add ((((td2.length : Nat) : Int) - 1 : Int).toNat * 1)) = some (.int .i64 (gI td2 (((td2.length : Nat) : Int) - 1))))] (by kernel_rfl) ⟨(w64 (by omega) (by omega)), hA379, (by omega), (by omega), hc381, trivial⟩ (fun act384 f383 => ?_)
    clear f377
    refine At.done rfl ?_
    refine t_n ?_
    have f385 := f383.sub (r := [(12, .int .i64 (gI td2 (((td2.length : Nat) : Int) - 1))), (6, .slice A_348 td2.length c_349), (7, .slice A_350 nn2.length c_351), (5, .slice A_139 fr.length c_140), (4, .pointer (some ⟨w52.heap.size, 0, none⟩)), (3, .slice A_346 l.length c_347), (2, .slice none 0 0), (1, .pointer (some ⟨w.heap.size, 0, none⟩))]) ⟨rfl, rfl, rfl, rfl, rfl, rfl, rfl, rfl, trivial⟩
    clear f383
    refine wp_seq ?_
    refine At.start ?_
    have := ow366.cap
    have ow386 := ow366.take ((((td2.length : Nat) : Int) - 1 : Int).toNat) (by omega)
    have : ((td2).take (((td2.length : Nat) : Int) - 1 : Int).toNat).length = (((td2.length : Nat) : Int) - 1 : Int).toNat := by rw [List.length_take]; omega
    clear ow366
    obtain ⟨ad387, hA388, hb391, hc390, hc389⟩ := ow367.get (gI td2 (((td2.length : Nat) : Int) - 1)) (by omega) (by omega) (sz := 1) rfl
    refine At.rd f385 9 [[], [], [], [], [], [.as_ (.int .i64 (((td2.length : Nat) : Int) - 1))], [], [], [.ad ad387]] [(85, .pointer (some (ad387.add ((gI td2 (((td2.length : Nat) : Int) - 1) : Int).toNat * 1)))), (6, .slice A_348 ((((td2.length : Nat) : Int) - 1 : Int).toNat) c_349), (84, .slice A_348 ((((td2.length : Nat) : Int) - 1 : Int).toNat) c_349), (83, .int .i64 (((td2.length : Nat) : Int) - 1)), (82, .int .i64 (((td2.length : Nat) : Int))), (81, .slice A_348 td2.length c_349), (80, .slice A_348 td2.length c_349), (79, .int .i64 (gI td2 (((td2.length : Nat) : Int) - 1))), (78, .slice A_350 nn2.length c_351)] [((.int .i64 (IntKind.i64.wrap (((td2.length : Nat) : Int) - 1)) : Value) = .int .i64 (((td2.length : Nat) : Int) - 1)), (0 ≤ (((td2.length : Nat) : Int) - 1 : Int)), ((((td2.length : Nat) : Int) - 1 : Int) ≤ (c_349 : Nat)), (A_350 = some ad387), (0 ≤ (gI td2 (((td2.length : Nat) : Int) - 1) : Int)), ((gI td2 (((td2.length : Nat) : Int) - 1) : Int) < (nn2.length : Nat))] (by kernel_rfl) ⟨(w64 (by omega) (by omega)), (by omega), (by omega), hA388, (by omega), (by omega), trivial⟩ (fun act393 f392 => ?_)
    clear f385
    refine At.act f392 (storeR (α := Bool) (t := 4) (i := gI td2 (((td2.length : Nat) : Int) - 1)) (ad := ad387) (v := .bool false) (false) (by kernel_rfl) rfl rfl (by kernel_rfl) hA388 ow367 (by omega) (by omega)) ?_
    rintro d_ v_ w394 ⟨rfl, g395, ow396⟩
    refine ⟨_, rfl, fun act399 f398 => ?_⟩
    clear f392
    have hl397 : ((nn2).set (gI td2 (((td2.length : Nat) : Int) - 1) : Int).toNat false).length = (nn2).length := List.length_set
    have szw394 := g395.size
    have e400 := e358.gr g395 (fun k hk => by have := ow367.ge k hk; omega)
    clear e358
    have r401 := r361.gr g395 (fun k hk => by have := ow367.ge k hk; omega)
    clear r361
    have bx402 := bx362.gr g395 (fun e => by have := ow367.ge _ e; omega)
    clear bx362
    have ow403 := ow363.gr g395 (fun k hk => hk.1)
    clear ow363
    have bx404 := bx364.gr g395 (fun e => by have := ow367.ge _ e; omega)
    clear bx364
    have ow405 := r365.gr g395 (fun k hk => hk.1)
    clear r365
    have ow406 := ow386.gr g395 (fun k hk => hk.1)
    clear ow386
    clear ow367 g395
    refine At.done rfl ?_
    refine t_n ?_
    have f407 := f398.sub (r := [(6, .slice A_348 ((((td2.length : Nat) : Int) - 1 : Int).toNat) c_349), (12, .int .i64 (gI td2 (((td2.length : Nat) : Int) - 1))), (7, .slice A_350 nn2.length c_351), (5, .slice A_139 fr.length c_140), (4, .pointer (some ⟨w52.heap.size, 0, none⟩)), (3, .slice A_346 l.length c_347), (2, .slice none 0 0), (1, .pointer (some ⟨w.heap.size, 0, none⟩))]) ⟨rfl, rfl, rfl, rfl, rfl, rfl, rfl, rfl, trivial⟩
    clear f398
    refine wp_seq ?_
    refine At.start ?_
    refine At.rd f407 4 [[.ld (.slice Ag0 g.ow.length cg0), .ld (.slice Ag1 g.pr.length cg1), .ld (.slice Ag2 g.mv.length cg2)], [.ld (.int .i64 (cnt g.pr 1)), .ld (.int .i64 (cnt g.pr 3)), .ld (.int .i64 (cnt g.pr 5)), .ld (.int .i64 (cnt g.pr 7))], [], []] [(90, .int .i64 (gI td2 (((td2.length : Nat) : Int) - 1))), (89, .slice A_346 l.length c_347), (88, .agg #[.int .i64 (cnt g.pr 1), .int .i64 (cnt g.pr 3), .int .i64 (cnt g.pr 5), .int .i64 (cnt g.pr 7)]), (87, .agg #[.slice Ag0 g.ow.length cg0, .slice Ag1 g.pr.length cg1, .slice Ag2 g.mv.length cg2])] [(w394.cell? ⟨w.heap.size, 0, none⟩ = some (.slice Ag0 g.ow.length cg0)), (w394.cell? ⟨w.heap.size, 1, none⟩ = some (.slice Ag1 g.pr.length cg1)), (w394.cell? ⟨w.heap.size, 2, none⟩ = some (.slice Ag2 g.mv.length cg2)), (w394.cell? ⟨w52.heap.size, 0, none⟩ = some (.int .i64 (cnt g.pr 1))), (w394.cell? ⟨w52.heap.size, 1, none⟩ = some (.int .i64 (cnt g.pr 3))), (w394.cell? ⟨w52.heap.size, 2, none⟩ = some (.int .i64 (cnt g.pr 5))), (w394.cell? ⟨w52.heap.size, 3, none⟩ = some (.int .i64 (cnt g.pr 7)))] (by kernel_rfl) ⟨(bx402.cell (i := 0) rfl), (bx402.cell (i := 1) rfl), (bx402.cell (i := 2) rfl), (bx404.cell (i := 0) rfl), (bx404.cell (i := 1) rfl), (bx404.cell (i := 2) rfl), (bx404.cell (i := 3) rfl), trivial⟩ (fun act409 f408 => ?_)
    clear f407
    refine At.call f408 47 #[.agg #[.slice Ag0 g.ow.length cg0, .slice Ag1 g.pr.length cg1, .slice Ag2 g.mv.length cg2], .agg #[.int .i64 (cnt g.pr 1), .int .i64 (cnt g.pr 3), .int .i64 (cnt g.pr 5), .int .i64 (cnt g.pr 7)], .slice A_346 l.length c_347, .int .i64 (gI td2 (((td2.length : Nat) : Int) - 1))] (some 91) (by kernel_rfl) (best_any (ls := l) (at_ := gI td2 (((td2.length : Nat) : Int) - 1)) (r401.wide (Nat.zero_le _) (by omega)) ((ow403.rdR (by simp only [Enc.bytes]; omega)).wide (Nat.zero_le _) (by omega)) hG (by omega) (by assumption) (by omega) (by omega)) ?_
    rintro e_ w410 ⟨rfl, he⟩
    refine ⟨_, rfl, _, rfl, fun act411 f412 => ?_⟩
    clear f408
    have g413 := gr_ext he
    have szw410 := g413.size
    have e414 := e400.gr g413 no_row
    clear e400
    have r415 := r401.gr g413 (fun _ h => by cases h)
    clear r401
    have bx416 := bx402.gr g413 (by simp)
    clear bx402
    have ow417 := ow403.gr g413 (fun _ _ h => by cases h)
    clear ow403
    have bx418 := bx404.gr g413 (by simp)
    clear bx404
    have ow419 := ow405.gr g413 (fun _ _ h => by cases h)
    clear ow405
    have ow420 := ow406.gr g413 (fun _ _ h => by cases h)
    clear ow406
    have ow421 := ow396.gr g413 (fun _ _ h => by cases h)
    clear ow396
    clear g413 he
    refine At.rd f412 3 [[], [], []] [(93, .int .i64 ((bestB (upG g l (gI td2 (((td2.length : Nat) : Int) - 1))) (gI g.ow (gI td2 (((td2.length : Nat) : Int) - 1))) (gL g.mv (gI td2 (((td2.length : Nat) : Int) - 1)))).2)), (92, tupV ((bestB (upG g l (gI td2 (((td2.length : Nat) : Int) - 1))) (gI g.ow (gI td2 (((td2.length : Nat) : Int) - 1))) (gL g.mv (gI td2 (((td2.length : Nat) : Int) - 1)))).1)), (86, .tuple #[tupV ((bestB (upG g l (gI td2 (((td2.length : Nat) : Int) - 1))) (gI g.ow (gI td2 (((td2.length : Nat) : Int) - 1))) (gL g.mv (gI td2 (((td2.length : Nat) : Int) - 1)))).1), .int .i64 ((bestB (upG g l (gI td2 (((td2.length : Nat) : Int) - 1))) (gI g.ow (gI td2 (((td2.length : Nat) : Int) - 1))) (gL g.mv (gI td2 (((td2.length : Nat) : Int) - 1)))).2)])] [] (by kernel_rfl) trivial (fun act423 f422 => ?_)
    clear f412
    refine At.seq f422 1 [[]] [(13, .pointer (some ⟨w410.heap.size, 0, none⟩))] (w410.alloc (.cells #[.bool false, .int .i64 (0), .int .i64 (0), .int .i64 (0), .int .i64 (0)] 41 (0, 0))) [] (by kernel_rfl) trivial (fun act427 w424 hw425 f426 => ?_)
    clear f422
    have g428 := gr_alloc hw425
    have szw424 := g428.size
    have e430 := e414.gr g428 no_row
    clear e414
    have r431 := r415.gr g428 (fun _ h => by cases h)
    clear r415
    have bx432 := bx416.gr g428 (by simp)
    clear bx416
    have ow433 : OwnR w424 (Sx (w1.heap.size) [some (w410.heap.size), obk (A_350), obk (A_348), obk (A_139), some (w52.heap.size)]) A_346 c_347 41 (l : List Tup) := ow417.grA g428 (fun _ _ h => by cases h) (fun k hk hs => ⟨(fun e => by injection e; omega), hs.1, hs.2.1, hs.2.2.1, hs.2.2.2.1, hs.2.2.2.2⟩)
    clear ow417
    have bx434 := bx418.gr g428 (by simp)
    clear bx418
    have ow435 : OwnLL w424 (w71.heap.size) [some (w410.heap.size), obk (A_350), obk (A_348), obk (A_346)] A_139 c_140 22 3 (fr : List (List Int)) := ow419.grA g428 (fun _ _ h => by cases h) (fun k hk hs => ⟨(fun e => by injection e; omega), hs.1, hs.2.1, hs.2.2.1, hs.2.2.2⟩)
    clear ow419
    have ow436 : OwnR w424 (Sx (w83.heap.size) [some (w410.heap.size), obk (A_350), obk (A_346), obk (A_139)]) A_348 c_349 3 ((td2).take (((td2.length : Nat) : Int) - 1 : Int).toNat : List Int) := ow420.grA g428 (fun _ _ h => by cases h) (fun k hk hs => ⟨(fun e => by injection e; omega), hs.1, hs.2.1, hs.2.2.1, hs.2.2.2⟩)
    clear ow420
    have ow437 : OwnR w424 (Sx (w101.heap.size) [some (w410.heap.size), obk (A_346), obk (A_139), obk (A_348)]) A_350 c_351 4 ((nn2).set (gI td2 (((td2.length : Nat) : Int) - 1) : Int).toNat false : List Bool) := ow421.grA g428 (fun _ _ h => by cases h) (fun k hk hs => ⟨(fun e => by injection e; omega), hs.1, hs.2.1, hs.2.2.1, hs.2.2.2⟩)
    clear ow421
    have bx438 : Bx w424 (w410.heap.size) [.bool false, .int .i64 (0), .int .i64 (0), .int .i64 (0), .int .i64 (0)] 41 := Bx.new hw425
    have := bx438.lt
    clear g428 hw425
    refine At.store f426 (t := 41) (b := w410.heap.size) (off := 0) (v := tupV ((bestB (upG g l (gI td2 (((td2.length : Nat) : Int) - 1))) (gI g.ow (gI td2 (((td2.length : Nat) : Int) - 1))) (gL g.mv (gI td2 (((td2.length : Nat) : Int) - 1)))).1)) (by kernel_rfl) bx438 (by kernel_rfl) (fun act443 w439 g440 bx441 f442 => ?_)
    clear f426
    replace bx441 : Bx w439 (w410.heap.size) (tupC ((bestB (upG g l (gI td2 (((td2.length : Nat) : Int) - 1))) (gI g.ow (gI td2 (((td2.length : Nat) : Int) - 1))) (gL g.mv (gI td2 (((td2.length : Nat) : Int) - 1)))).1)) 41 := bx441
    have szw439 := g440.size
    have e444 := e430.gr g440 (fun k h => by injection h; omega)
    clear e430
    have r445 := r431.gr g440 (fun k h => by injection h; omega)
    clear r431
    have bx446 := bx432.gr g440 (fun h => by injection h; omega)
    clear bx432
    have ow447 := ow433.gr g440 (fun k hk => hk.1)
    clear ow433
    have bx448 := bx434.gr g440 (fun h => by injection h; omega)
    clear bx434
    have ow449 := ow435.gr g440 (fun k hk => hk.1)
    clear ow435
    have ow450 := ow436.gr g440 (fun k hk => hk.1)
    clear ow436
    have ow451 := ow437.gr g440 (fun k hk => hk.1)
    clear ow437
    clear bx438 g440
    refine At.rd f442 1 [[]] [(14, .int .i64 ((bestB (upG g l (gI td2 (((td2.length : Nat) : Int) - 1))) (gI g.ow (gI td2 (((td2.length : Nat) : Int) - 1))) (gL g.mv (gI td2 (((td2.length : Nat) : Int) - 1)))).2))] [] (by kernel_rfl) trivial (fun act453 f452 => ?_)
    clear f442
    refine At.done rfl ?_
    refine t_n ?_
    have f454 := f452.sub (r := [(13, .pointer (some ⟨w410.heap.size, 0, none⟩)), (6, .slice A_348 ((((td2.length : Nat) : Int) - 1 : Int).toNat) c_349), (12, .int .i64 (gI td2 (((td2.length : Nat) : Int) - 1))), (7, .slice A_350 nn2.length c_351), (5, .slice A_139 fr.length c_140), (4, .pointer (some ⟨w52.heap.size, 0, none⟩)), (3, .slice A_346 l.length c_347), (2, .slice none 0 0), (1, .pointer (some ⟨w.heap.size, 0, none⟩))]) ⟨rfl, rfl, rfl, rfl, rfl, rfl, rfl, rfl, rfl, trivial⟩
    clear f452
    refine wp_seq ?_
    refine wp_seq ?_
    obtain ⟨ad455, hA456, hb459, hc458, hc457⟩ := ow447.get (gI td2 (((td2.length : Nat) : Int) - 1)) (by omega) (by omega) (sz := 5) rfl
    obtain ⟨Cs460, hCs461⟩ : ∃ c : List (Addr × Value), c = [(⟨w410.heap.size, 0, none⟩, (.bool ((bestB (upG g l (gI td2 (((td2.length : Nat) : Int) - 1))) (gI g.ow (gI td2 (((td2.length : Nat) : Int) - 1))) (gL g.mv (gI td2 (((td2.length : Nat) : Int) - 1)))).1.top))), (⟨w410.heap.size, 1, none⟩, (.int .i64 ((bestB (upG g l (gI td2 (((td2.length : Nat) : Int) - 1))) (gI g.ow (gI td2 (((td2.length : Nat) : Int) - 1))) (gL g.mv (gI td2 (((td2.length : Nat) : Int) - 1)))).1.c0))), (⟨w410.heap.size, 2, none⟩, (.int .i64 ((bestB (upG g l (gI td2 (((td2.length : Nat) : Int) - 1))) (gI g.ow (gI td2 (((td2.length : Nat) : Int) - 1))) (gL g.mv (gI td2 (((td2.length : Nat) : Int) - 1)))).1.c1))), (⟨w410.heap.size, 3, none⟩, (.int .i64 ((bestB (upG g l (gI td2 (((td2.length : Nat) : Int) - 1))) (gI g.ow (gI td2 (((td2.length : Nat) : Int) - 1))) (gL g.mv (gI td2 (((td2.length : Nat) : Int) - 1)))).1.c2))), (⟨w410.heap.size, 4, none⟩, (.int .i64 ((bestB (upG g l (gI td2 (((td2.length : Nat) : Int) - 1))) (gI g.ow (gI td2 (((td2.length : Nat) : Int) - 1))) (gL g.mv (gI td2 (((td2.length : Nat) : Int) - 1)))).1.c3))), ((ad455.add ((gI td2 (((td2.length : Nat) : Int) - 1) : Int).toNat * 5)), (.bool ((gT l (gI td2 (((td2.length : Nat) : Int) - 1))).top))), (((ad455.add ((gI td2 (((td2.length : Nat) : Int) - 1) : Int).toNat * 5)).add 1), (.int .i64 ((gT l (gI td2 (((td2.length : Nat) : Int) - 1))).c0))), (((ad455.add ((gI td2 (((td2.length : Nat) : Int) - 1) : Int).toNat * 5)).add 2), (.int .i64 ((gT l (gI td2 (((td2.length : Nat) : Int) - 1))).c1))), (((ad455.add ((gI td2 (((td2.length : Nat) : Int) - 1) : Int).toNat * 5)).add 3), (.int .i64 ((gT l (gI td2 (((td2.length : Nat) : Int) - 1))).c2))), (((ad455.add ((gI td2 (((td2.length : Nat) : Int) - 1) : Int).toNat * 5)).add 4), (.int .i64 ((gT l (gI td2 (((td2.length : Nat) : Int) - 1))).c3)))] := ⟨_, rfl⟩
    have hS462 : HoldsC Cs460 w439 := by rw [hCs461]; exact ⟨(bx441.cell (i := 0) rfl), (bx441.cell (i := 1) rfl), (bx441.cell (i := 2) rfl), (bx441.cell (i := 3) rfl), (bx441.cell (i := 4) rfl), hc458, (hc457 1 _ rfl), (hc457 2 _ rfl), (hc457 3 _ rfl), (hc457 4 _ rfl), trivial⟩
    refine AtH.start Cs460 7 #[false, false, false, false, false, false, false] (by kernel_rfl) rfl rfl (fun w464 hw465 => ?_)
    have g463 := gr_drew hw465
    have hS466 := hS462.gr g463
    have szw464 := g463.size
    have e467 := e444.gr g463 no_row
    clear e444
    have r468 := r445.gr g463 (fun _ h => by cases h)
    clear r445
    have bx469 := bx446.gr g463 (by simp)
    clear bx446
    have ow470 := ow447.gr g463 (fun _ _ h => by cases h)
    clear ow447
    have bx471 := bx448.gr g463 (by simp)
    clear bx448
    have ow472 := ow449.gr g463 (fun _ _ h => by cases h)
    clear ow449
    have ow473 := ow450.gr g463 (fun _ _ h => by cases h)
    clear ow450
    have ow474 := ow451.gr g463 (fun _ _ h => by cases h)
    clear ow451
    have bx475 := bx441.gr g463 (by simp)
    clear bx441
    clear g463 hw465 hS462
    refine AtH.rd (by kernel_rfl) (fun d v c a w h => by cases d <;> exact h) hS466 [0, 1, 2, 3, 4] [[.ld (.bool ((bestB (upG g l (gI td2 (((td2.length : Nat) : Int) - 1))) (gI g.ow (gI td2 (((td2.length : Nat) : Int) - 1))) (gL g.mv (gI td2 (((td2.length : Nat) : Int) - 1)))).1.top)), .ld (.int .i64 ((bestB (upG g l (gI td2 (((td2.length : Nat) : Int) - 1))) (gI g.ow (gI td2 (((td2.length : Nat) : Int) - 1))) (gL g.mv (gI td2 (((td2.length : Nat) : Int) - 1)))).1.c0)), .ld (.int .i64 ((bestB (upG g l (gI td2 (((td2.length : Nat) : Int) - 1))) (gI g.ow (gI td2 (((td2.length : Nat) : Int) - 1))) (gL g.mv (gI td2 (((td2.length : Nat) : Int) - 1)))).1.c1)), .ld (.int .i64 ((bestB (upG g l (gI td2 (((td2.length : Nat) : Int) - 1))) (gI g.ow (gI td2 (((td2.length : Nat) : Int) - 1))) (gL g.mv (gI td2 (((td2.length : Nat) : Int) - 1)))).1.c2)), .ld (.int .i64 ((bestB (upG g l (gI td2 (((td2.length : Nat) : Int) - 1))) (gI g.ow (gI td2 (((td2.length : Nat) : Int) - 1))) (gL g.mv (gI td2 (((td2.length : Nat) : Int) - 1)))).1.c3))], [], [], [.ad ad455], [.ld (.bool ((gT l (gI td2 (((td2.length : Nat) : Int) - 1))).top)), .ld (.int .i64 ((gT l (gI td2 (((td2.length : Nat) : Int) - 1))).c0)), .ld (.int .i64 ((gT l (gI td2 (((td2.length : Nat) : Int) - 1))).c1)), .ld (.int .i64 ((gT l (gI td2 (((td2.length : Nat) : Int) - 1))).c2)), .ld (.int .i64 ((gT l (gI td2 (((td2.length : Nat) : Int) - 1))).c3))]] [(98, tupV (gT l (gI td2 (((td2.length : Nat) : Int) - 1)))), (97, .pointer (some (ad455.add ((gI td2 (((td2.length : Nat) : Int) - 1) : Int).toNat * 5)))), (96, .int .i64 (gI td2 (((td2.length : Nat) : Int) - 1))), (95, .slice A_346 l.length c_347), (94, tupV ((bestB (upG g l (gI td2 (((td2.length : Nat) : Int) - 1))) (gI g.ow (gI td2 (((td2.length : Nat) : Int) - 1))) (gL g.mv (gI td2 (((td2.length : Nat) : Int) - 1)))).1))] #[true, true, true, true, true, false, false] [(∃ j_ : Nat, Cs460[j_]? = some (⟨w410.heap.size, 0, none⟩, (.bool ((bestB (upG g l (gI td2 (((td2.length : Nat) : Int) - 1))) (gI g.ow (gI td2 (((td2.length : Nat) : Int) - 1))) (gL g.mv (gI td2 (((td2.length : Nat) : Int) - 1)))).1.top)))), (∃ j_ : Nat, Cs460[j_]? = some (⟨w410.heap.size, 1, none⟩, (.int .i64 ((bestB (upG g l (gI td2 (((td2.length : Nat) : Int) - 1))) (gI g.ow (gI td2 (((td2.length : Nat) : Int) - 1))) (gL g.mv (gI td2 (((td2.length : Nat) : Int) - 1)))).1.c0)))), (∃ j_ : Nat, Cs460[j_]? = some (⟨w410.heap.size, 2, none⟩, (.int .i64 ((bestB (upG g l (gI td2 (((td2.length : Nat) : Int) - 1))) (gI g.ow (gI td2 (((td2.length : Nat) : Int) - 1))) (gL g.mv (gI td2 (((td2.length : Nat) : Int) - 1)))).1.c1)))), (∃ j_ : Nat, Cs460[j_]? = some (⟨w410.heap.size, 3, none⟩, (.int .i64 ((bestB (upG g l (gI td2 (((td2.length : Nat) : Int) - 1))) (gI g.ow (gI td2 (((td2.length : Nat) : Int) - 1))) (gL g.mv (gI td2 (((td2.length : Nat) : Int) - 1)))).1.c2)))), (∃ j_ : Nat, Cs460[j_]? = some (⟨w410.heap.size, 4, none⟩, (.int .i64 ((bestB (upG g l (gI td2 (((td2.length : Nat) : Int) - 1))) (gI g.ow (gI td2 (((td2.length : Nat) : Int) - 1))) (gL g.mv (gI td2 (((td2.length : Nat) : Int) - 1)))).1.c3)))), (A_346 = some ad455), (0 ≤ (gI td2 (((td2.length : Nat) : Int) - 1) : Int)), ((gI td2 (((td2.length : Nat) : Int) - 1) : Int) < (l.length : Nat)), (∃ j_ : Nat, Cs460[j_]? = some ((ad455.add ((gI td2 (((td2.length : Nat) : Int) - 1) : Int).toNat * 5)), (.bool ((gT l (gI td2 (((td2.length : Nat) : Int) - 1))).top)))), (∃ j_ : Nat, Cs460[j_]? = some (((ad455.add ((gI td2 (((td2.length : Nat) : Int) - 1) : Int).toNat * 5)).add 1), (.int .i64 ((gT l (gI td2 (((td2.length : Nat) : Int) - 1))).c0)))), (∃ j_ : Nat, Cs460[j_]? = some (((ad455.add ((gI td2 (((td2.length : Nat) : Int) - 1) : Int).toNat * 5)).add 2), (.int .i64 ((gT l (gI td2 (((td2.length : Nat) : Int) - 1))).c1)))), (∃ j_ : Nat, Cs460[j_]? = some (((ad455.add ((gI td2 (((td2.length : Nat) : Int) - 1) : Int).toNat * 5)).add 3), (.int .i64 ((gT l (gI td2 (((td2.length : Nat) : Int) - 1))).c2)))), (∃ j_ : Nat, Cs460[j_]? = some (((ad455.add ((gI td2 (((td2.length : Nat) : Int) - 1) : Int).toNat * 5)).add 4), (.int .i64 ((gT l (gI td2 (((td2.length : Nat) : Int) - 1))).c3))))] 2 f454 (by kernel_rfl) ⟨⟨0, by rw [hCs461]; rfl⟩, ⟨1, by rw [hCs461]; rfl⟩, ⟨2, by rw [hCs461]; rfl⟩, ⟨3, by rw [hCs461]; rfl⟩, ⟨4, by rw [hCs461]; rfl⟩, hA456, (by omega), (by omega), ⟨5, by rw [hCs461]; rfl⟩, ⟨6, by rw [hCs461]; rfl⟩, ⟨7, by rw [hCs461]; rfl⟩, ⟨8, by rw [hCs461]; rfl⟩, ⟨9, by rw [hCs461]; rfl⟩, trivial⟩ (fun act477 f476 => ?_)
    clear f454
    refine AtH.all [5] 1 (by kernel_rfl) (by simp) ⟨?_, trivial⟩
    refine OneH.call f476 23 #[tupV ((bestB (upG g l (gI td2 (((td2.length : Nat) : Int) - 1))) (gI g.ow (gI td2 (((td2.length : Nat) : Int) - 1))) (gL g.mv (gI td2 (((td2.length : Nat) : Int) - 1)))).1), tupV (gT l (gI td2 (((td2.length : Nat) : Int) - 1))), .int .i64 (0)] (some 99) #[true, true, true, true, true, true, false] (by kernel_rfl) (by kernel_rfl) (cmpM_any (a := (bestB (upG g l (gI td2 (((td2.length : Nat) : Int) - 1))) (gI g.ow (gI td2 (((td2.length : Nat) : Int) - 1))) (gL g.mv (gI td2 (((td2.length : Nat) : Int) - 1)))).1) (b := (gT l (gI td2 (((td2.length : Nat) : Int) - 1)))) (p := 0)) ?_
    rintro e_ w479 ⟨rfl, he⟩
    have := cmp_rng ((bestB (upG g l (gI td2 (((td2.length : Nat) : Int) - 1))) (gI g.ow (gI td2 (((td2.length : Nat) : Int) - 1))) (gL g.mv (gI td2 (((td2.length : Nat) : Int) - 1)))).1) (gT l (gI td2 (((td2.length : Nat) : Int) - 1))) 0
    refine ⟨_, rfl, _, rfl, fun act480 f481 => ?_⟩
    clear f476
    have g482 := gr_ext he
    have hS478 := hS466.gr g482
    have szw479 := g482.size
    have e483 := e467.gr g482 no_row
    clear e467
    have r484 := r468.gr g482 (fun _ h => by cases h)
    clear r468
    have bx485 := bx469.gr g482 (by simp)
    clear bx469
    have ow486 := ow470.gr g482 (fun _ _ h => by cases h)
    clear ow470
    have bx487 := bx471.gr g482 (by simp)
    clear bx471
    have ow488 := ow472.gr g482 (fun _ _ h => by cases h)
    clear ow472
    have ow489 := ow473.gr g482 (fun _ _ h => by cases h)
    clear ow473
    have ow490 := ow474.gr g482 (fun _ _ h => by cases h)
    clear ow474
    have bx491 := bx475.gr g482 (by simp)
    clear bx475
    clear g482 he
    refine ⟨hS478, ?_⟩
    refine AtH.rd (by kernel_rfl) (fun d v c a w h => by cases d <;> exact h) hS478 [6] [[]] [(100, .bool (decide ((cmpT ((bestB (upG g l (gI td2 (((td2.length : Nat) : Int) - 1))) (gI g.ow (gI td2 (((td2.length : Nat) : Int) - 1))) (gL g.mv (gI td2 (((td2.length : Nat) : Int) - 1)))).1) (gT l (gI td2 (((td2.length : Nat) : Int) - 1))) 0 : Int) ≤ 0)))] #[true, true, true, true, true, true, true] [] 0 f481 (by kernel_rfl) trivial (fun act493 f492 => ?_)
    clear f481
    refine AtH.done (by kernel_rfl) ?_
    clear hS478
    refine t_n ?_
    have f494 := f492.sub (r := [(100, .bool (decide ((cmpT ((bestB (upG g l (gI td2 (((td2.length : Nat) : Int) - 1))) (gI g.ow (gI td2 (((td2.length : Nat) : Int) - 1))) (gL g.mv (gI td2 (((td2.length : Nat) : Int) - 1)))).1) (gT l (gI td2 (((td2.length : Nat) : Int) - 1))) 0 : Int) ≤ 0))), (13, .pointer (some ⟨w410.heap.size, 0, none⟩)), (6, .slice A_348 ((((td2.length : Nat) : Int) - 1 : Int).toNat) c_349), (12, .int .i64 (gI td2 (((td2.length : Nat) : Int) - 1))), (7, .slice A_350 nn2.length c_351), (5, .slice A_139 fr.length c_140), (4, .pointer (some ⟨w52.heap.size, 0, none⟩)), (3, .slice A_346 l.length c_347), (2, .slice none 0 0), (1, .pointer (some ⟨w.heap.size, 0, none⟩))]) ⟨rfl, rfl, rfl, rfl, rfl, rfl, rfl, rfl, rfl, rfl, trivial⟩
    clear f492
    refine cond_S f494 (t := decide ((cmpT ((bestB (upG g l (gI td2 (((td2.length : Nat) : Int) - 1))) (gI g.ow (gI td2 (((td2.length : Nat) : Int) - 1))) (gL g.mv (gI td2 (((td2.length : Nat) : Int) - 1)))).1) (gT l (gI td2 (((td2.length : Nat) : Int) - 1))) 0 : Int) ≤ 0)) rfl (fun h495 => ?_) (fun h495 => ?_)
    ·have q496 := of_decide_eq_true h495
     refine wp_exit ?_
     refine t_e ?_
     refine b_e ?_
     refine t_n ?_
     have f497 := f494.as 6 (.slice A_348 ((((td2.length : Nat) : Int) - 1 : Int).toNat) c_349) (.slice A_348 (((td2).take (((td2.length : Nat) : Int) - 1 : Int).toNat : List Int).length) c_349) rfl (slice_len (by first | rfl | omega | (simp; done) | (simp; omega)))
     clear f494
     have f498 := f497.as 7 (.slice A_350 nn2.length c_351) (.slice A_350 (((nn2).set (gI td2 (((td2.length : Nat) : Int) - 1) : Int).toNat false : List Bool).length) c_351) rfl (slice_len (by first | rfl | omega | (simp; done) | (simp; omega)))
     clear f497
     have f499 := f498.as 3 (.slice A_346 l.length c_347) (.slice A_346 ((l : List Tup).length) c_347) rfl (slice_len (by first | rfl | omega | (simp; done) | (simp; omega)))
     clear f498
     have f500 := f499.sub (r := [(6, .slice A_348 (((td2).take (((td2.length : Nat) : Int) - 1 : Int).toNat : List Int).length) c_349), (7, .slice A_350 (((nn2).set (gI td2 (((td2.length : Nat) : Int) - 1) : Int).toNat false : List Bool).length) c_351), (5, .slice A_139 fr.length c_140), (4, .pointer (some ⟨w52.heap.size, 0, none⟩)), (3, .slice A_346 ((l : List Tup).length) c_347), (2, .slice none 0 0), (1, .pointer (some ⟨w.heap.size, 0, none⟩))]) ⟨rfl, rfl, rfl, rfl, rfl, rfl, rfl, trivial⟩
     exact ⟨_, (by rw [hm359]; first | omega | (simp only [liftT] at hfar; omega)), (l : List Tup), A_346, c_347, ((td2).take (((td2.length : Nat) : Int) - 1 : Int).toNat : List Int), A_348, c_349, ((nn2).set (gI td2 (((td2.length : Nat) : Int) - 1) : Int).toNat false : List Bool), A_350, c_351, rfl, f500, e483, r484, bx485, (ow486.imp (fun g _ hs => ⟨hs.2.1, hs.2.2.1, hs.2.2.2.1, hs.2.2.2.2.1, hs.2.2.2.2.2⟩)), bx487, (ow488.imp (fun g _ hs => ⟨hs.2.1, hs.2.2.1, hs.2.2.2.1, hs.2.2.2.2⟩)), (ow489.imp (fun g _ hs => ⟨hs.2.1, hs.2.2.1, hs.2.2.2.1, hs.2.2.2.2⟩)), (ow490.imp (fun g _ hs => ⟨hs.2.1, hs.2.2.1, hs.2.2.2.1, hs.2.2.2.2⟩)), (work_keep hwk2 (by simp only [liftT]; omega)), hfrE, (by omega), (by omega), (by omega), (by omega)⟩
    ·have q501 := of_decide_eq_false h495
     refine wp_skip ?_
     refine t_n ?_
     have f502 := f494.sub (r := [(13, .pointer (some ⟨w410.heap.size, 0, none⟩)), (6, .slice A_348 ((((td2.length : Nat) : Int) - 1 : Int).toNat) c_349), (12, .int .i64 (gI td2 (((td2.length : Nat) : Int) - 1))), (7, .slice A_350 nn2.length c_351), (5, .slice A_139 fr.length c_140), (4, .pointer (some ⟨w52.heap.size, 0, none⟩)), (3, .slice A_346 l.length c_347), (2, .slice none 0 0), (1, .pointer (some ⟨w.heap.size, 0, none⟩))]) ⟨rfl, rfl, rfl, rfl, rfl, rfl, rfl, rfl, rfl, trivial⟩
     clear f494
     refine wp_seq ?_
     have hfar := farG_lt hG hwk.bnd hi.1 hi.2 (by simp only [liftT]; omega)
     refine At.start ?_
     obtain ⟨ad503, hA504, hb507, hc506, hc505⟩ := ow486.get (gI td2 (((td2.length : Nat) : Int) - 1)) (by omega) (by omega) (sz := 5) rfl
     refine At.rd f502 4 [[], [], [.ld (.bool ((bestB (upG g l (gI td2 (((td2.length : Nat) : Int) - 1))) (gI g.ow (gI td2 (((td2.length : Nat) : Int) - 1))) (gL g.mv (gI td2 (((td2.length : Nat) : Int) - 1)))).1.top)), .ld (.int .i64 ((bestB (upG g l (gI td2 (((td2.length : Nat) : Int) - 1))) (gI g.ow (gI td2 (((td2.length : Nat) : Int) - 1))) (gL g.mv (gI td2 (((td2.length : Nat) : Int) - 1)))).1.c0)), .ld (.int .i64 ((bestB (upG g l (gI td2 (((td2.length : Nat) : Int) - 1))) (gI g.ow (gI td2 (((td2.length : Nat) : Int) - 1))) (gL g.mv (gI td2 (((td2.length : Nat) : Int) - 1)))).1.c1)), .ld (.int .i64 ((bestB (upG g l (gI td2 (((td2.length : Nat) : Int) - 1))) (gI g.ow (gI td2 (((td2.length : Nat) : Int) - 1))) (gL g.mv (gI td2 (((td2.length : Nat) : Int) - 1)))).1.c2)), .ld (.int .i64 ((bestB (upG g l (gI td2 (((td2.length : Nat) : Int) - 1))) (gI g.ow (gI td2 (((td2.length : Nat) : Int) - 1))) (gL g.mv (gI td2 (((td2.length : Nat) : Int) - 1)))).1.c3))], [.ad ad503]] [(104, .pointer (some (ad503.add ((gI td2 (((td2.length : Nat) : Int) - 1) : Int).toNat * 5)))), (103, tupV ((bestB (upG g l (gI td2 (((td2.length : Nat) : Int) - 1))) (gI g.ow (gI td2 (((td2.length : Nat) : Int) - 1))) (gL g.mv (gI td2 (((td2.length : Nat) : Int) - 1)))).1)), (102, .int .i64 (gI td2 (((td2.length : Nat) : Int) - 1))), (101, .slice A_346 l.length c_347)] [(w479.cell? ⟨w410.heap.size, 0, none⟩ = some (.bool ((bestB (upG g l (gI td2 (((td2.length : Nat) : Int) - 1))) (gI g.ow (gI td2 (((td2.length : Nat) : Int) - 1))) (gL g.mv (gI td2 (((td2.length : Nat) : Int) - 1)))).1.top))), (w479.cell? ⟨w410.heap.size, 1, none⟩ = some (.int .i64 ((bestB (upG g l (gI td2 (((td2.length : Nat) : Int) - 1))) (gI g.ow (gI td2 (((td2.length : Nat) : Int) - 1))) (gL g.mv (gI td2 (((td2.length : Nat) : Int) - 1)))).1.c0))), (w479.cell? ⟨w410.heap.size, 2, none⟩ = some (.int .i64 ((bestB (upG g l (gI td2 (((td2.length : Nat) : Int) - 1))) (gI g.ow (gI td2 (((td2.length : Nat) : Int) - 1))) (gL g.mv (gI td2 (((td2.length : Nat) : Int) - 1)))).1.c1))), (w479.cell? ⟨w410.heap.size, 3, none⟩ = some (.int .i64 ((bestB (upG g l (gI td2 (((td2.length : Nat) : Int) - 1))) (gI g.ow (gI td2 (((td2.length : Nat) : Int) - 1))) (gL g.mv (gI td2 (((td2.length : Nat) : Int) - 1)))).1.c2))), (w479.cell? ⟨w410.heap.size, 4, none⟩ = some (.int .i64 ((bestB (upG g l (gI td2 (((td2.length : Nat) : Int) - 1))) (gI g.ow (gI td2 (((td2.length : Nat) : Int) - 1))) (gL g.mv (gI td2 (((td2.length : Nat) : Int) - 1)))).1.c3))), (A_346 = some ad503), (0 ≤ (gI td2 (((td2.length : Nat) : Int) - 1) : Int)), ((gI td2 (((td2.length : Nat) : Int) - 1) : Int) < (l.length : Nat))] (by kernel_rfl) ⟨(bx491.cell (i := 0) rfl), (bx491.cell (i := 1) rfl), (bx491.cell (i := 2) rfl), (bx491.cell (i := 3) rfl), (bx491.cell (i := 4) rfl), hA504, (by omega), (by omega), trivial⟩ (fun act509 f508 => ?_)
     clear f502
     refine At.act f508 (storeR (α := Tup) (t := 41) (i := gI td2 (((td2.length : Nat) : Int) - 1)) (ad := ad503) (v := tupV ((bestB (upG g l (gI td2 (((td2.length : Nat) : Int) - 1))) (gI g.ow (gI td2 (((td2.length : Nat) : Int) - 1))) (gL g.mv (gI td2 (((td2.length : Nat) : Int) - 1)))).1)) ((bestB (upG g l (gI td2 (((td2.length : Nat) : Int) - 1))) (gI g.ow (gI td2 (((td2.length : Nat) : Int) - 1))) (gL g.mv (gI td2 (((td2.length : Nat) : Int) - 1)))).1) (by kernel_rfl) rfl rfl (by kernel_rfl) hA504 ow486 (by omega) (by omega)) ?_
     rintro d_ v_ w510 ⟨rfl, g511, ow512⟩
     refine ⟨_, rfl, fun act515 f514 => ?_⟩
     clear f508
     have hl513 : ((l).set (gI td2 (((td2.length : Nat) : Int) - 1) : Int).toNat ((bestB (upG g l (gI td2 (((td2.length : Nat) : Int) - 1))) (gI g.ow (gI td2 (((td2.length : Nat) : Int) - 1))) (gL g.mv (gI td2 (((td2.length : Nat) : Int) - 1)))).1)).length = (l).length := List.length_set
     have szw510 := g511.size
     have e516 := e483.gr g511 (fun k hk => by have := ow486.ge k hk; omega)
     clear e483
     have r517 := r484.gr g511 (fun k hk => by have := ow486.ge k hk; omega)
     clear r484
     have bx518 := bx485.gr g511 (fun e => by have := ow486.ge _ e; omega)
     clear bx485
     have bx519 := bx487.gr g511 (ow486.neb (fun g hs => hs.2.2.2.2.1))
     clear bx487
     have ow520 := ow488.gr g511 (fun k hk => hk.2.2.2.1)
     clear ow488
     have ow521 := ow489.gr g511 (fun k hk => hk.2.2.1)
     clear ow489
     have ow522 := ow490.gr g511 (fun k hk => hk.2.1)
     clear ow490
     have bx523 := bx491.gr g511 (ow486.neb (fun g hs => hs.1))
     clear bx491
     clear ow486 g511
     refine At.done rfl ?_
     refine t_n ?_
     have f524 := f514.sub (r := [(6, .slice A_348 ((((td2.length : Nat) : Int) - 1 : Int).toNat) c_349), (12, .int .i64 (gI td2 (((td2.length : Nat) : Int) - 1))), (7, .slice A_350 nn2.length c_351), (5, .slice A_139 fr.length c_140), (4, .pointer (some ⟨w52.heap.size, 0, none⟩)), (3, .slice A_346 l.length c_347), (2, .slice none 0 0), (1, .pointer (some ⟨w.heap.size, 0, none⟩))]) ⟨rfl, rfl, rfl, rfl, rfl, rfl, rfl, rfl, trivial⟩
     clear f514
     refine wp_seq ?_
     have hfrl := hfrE.len
     have hfrc := hfrE.cnt _ hi.1 hi.2
     refine At.start ?_
     obtain ⟨ad525, R528, C529, hA526, hb530, hc527, ow531, ow532⟩ := ow520.get (gI td2 (((td2.length : Nat) : Int) - 1)) (by omega) (by omega)
     refine At.rd f524 6 [[], [], [.ad ad525], [.ld (.slice R528 ((gL fr (gI td2 (((td2.length : Nat) : Int) - 1))).length) C529)], [], []] [(110, .int .i64 (0)), (109, .int .i64 ((((gL fr (gI td2 (((td2.length : Nat) : Int) - 1))).length : Nat) : Int))), (108, .slice R528 ((gL fr (gI td2 (((td2.length : Nat) : Int) - 1))).length) C529), (107, .pointer (some (ad525.add ((gI td2 (((td2.length : Nat) : Int) - 1) : Int).toNat * 1)))), (106, .int .i64 (gI td2 (((td2.length : Nat) : Int) - 1))), (105, .slice A_139 fr.length c_140)] [(A_139 = some ad525), (0 ≤ (gI td2 (((td2.length : Nat) : Int) - 1) : Int)), ((gI td2 (((td2.length : Nat) : Int) - 1) : Int) < (fr.length : Nat)), (w510.cell? (ad525.add ((gI td2 (((td2.length : Nat) : Int) - 1) : Int).toNat * 1)) = some (.slice R528 ((gL fr (gI td2 (((td2.length : Nat) : Int) - 1))).length) C529))] (by kernel_rfl) ⟨hA526, (by omega), (by omega), hc527, trivial⟩ (fun act536 f535 => ?_)
     clear f524
     refine At.done rfl ?_
     refine t_n ?_
     have f537 := f535.sub (r := [(110, .int .i64 (0)), (109, .int .i64 ((((gL fr (gI td2 (((td2.length : Nat) : Int) - 1))).length : Nat) : Int))), (108, .slice R528 ((gL fr (gI td2 (((td2.length : Nat) : Int) - 1))).length) C529), (6, .slice A_348 ((((td2.length : Nat) : Int) - 1 : Int).toNat) c_349), (7, .slice A_350 nn2.length c_351), (5, .slice A_139 fr.length c_140), (4, .pointer (some ⟨w52.heap.size, 0, none⟩)), (3, .slice A_346 l.length c_347), (2, .slice none 0 0), (1, .pointer (some ⟨w.heap.size, 0, none⟩))]) ⟨rfl, rfl, rfl, rfl, rfl, rfl, rfl, rfl, rfl, rfl, trivial⟩
     clear f535
     refine wp_block ?_
     have f543 := f537.as 6 (.slice A_348 ((((td2.length : Nat) : Int) - 1 : Int).toNat) c_349) (.slice A_348 (((td2).take (((td2.length : Nat) : Int) - 1 : Int).toNat : List Int).length) c_349) rfl (slice_len (by first | rfl | omega | (simp; done) | (simp; omega)))
     clear f537
     have f544 := f543.as 7 (.slice A_350 nn2.length c_351) (.slice A_350 (((nn2).set (gI td2 (((td2.length : Nat) : Int) - 1) : Int).toNat false : List Bool).length) c_351) rfl (slice_len (by first | rfl | omega | (simp; done) | (simp; omega)))
     clear f543
     have f542 := f544.sub (r := [(6, .slice A_348 (((td2).take (((td2.length : Nat) : Int) - 1 : Int).toNat : List Int).length) c_349), (110, .int .i64 (0)), (109, .int .i64 ((((gL fr (gI td2 (((td2.length : Nat) : Int) - 1))).length : Nat) : Int))), (108, .slice R528 ((gL fr (gI td2 (((td2.length : Nat) : Int) - 1))).length) C529), (7, .slice A_350 (((nn2).set (gI td2 (((td2.length : Nat) : Int) - 1) : Int).toNat false : List Bool).length) c_351), (5, .slice A_139 fr.length c_140), (4, .pointer (some ⟨w52.heap.size, 0, none⟩)), (3, .slice A_346 l.length c_347), (2, .slice none 0 0), (1, .pointer (some ⟨w.heap.size, 0, none⟩))]) ⟨rfl, rfl, rfl, rfl, rfl, rfl, rfl, rfl, rfl, rfl, trivial⟩
     refine loop_g (fun (m_ : Nat) a_ w_ => ∃ (q : Int) (td3 : List Int) (A_538 : Option Addr) (c_539 : Nat) (nn3 : List Bool) (A_540 : Option Addr) (c_541 : Nat), m_ = (((gL fr (gI td2 (((td2.length : Nat) : Int) - 1))).length : Int) - q).toNat ∧ (Frm 128 a_ [(6, .slice A_538 td3.length c_539), (110, .int .i64 (q)), (109, .int .i64 ((((gL fr (gI td2 (((td2.length : Nat) : Int) - 1))).length : Nat) : Int))), (108, .slice R528 ((gL fr (gI td2 (((td2.length : Nat) : Int) - 1))).length) C529), (7, .slice A_540 nn3.length c_541), (5, .slice A_139 fr.length c_140), (4, .pointer (some ⟨w52.heap.size, 0, none⟩)), (3, .slice A_346 l.length c_347), (2, .slice none 0 0), (1, .pointer (some ⟨w.heap.size, 0, none⟩))]) ∧ (Ext w w_) ∧ (RdG w_ 0 w.heap.size Ag0 Ag1 Ag2 cg0 cg1 cg2 g) ∧ (Bx w_ (w.heap.size) [.slice Ag0 g.ow.length cg0, .slice Ag1 g.pr.length cg1, .slice Ag2 g.mv.length cg2] 25) ∧ (OwnR w_ (Sx (w1.heap.size) [some (w410.heap.size), obk (A_540), obk (A_538), obk (A_139), some (w52.heap.size)]) A_346 c_347 41 ((l).set (gI td2 (((td2.length : Nat) : Int) - 1) : Int).toNat ((bestB (upG g l (gI td2 (((td2.length : Nat) : Int) - 1))) (gI g.ow (gI td2 (((td2.length : Nat) : Int) - 1))) (gL g.mv (gI td2 (((td2.length : Nat) : Int) - 1)))).1) : List Tup)) ∧ (Bx w_ (w52.heap.size) [.int .i64 (cnt g.pr 1), .int .i64 (cnt g.pr 3), .int .i64 (cnt g.pr 5), .int .i64 (cnt g.pr 7)] 38) ∧ (OwnLL w_ (w71.heap.size) [some (w410.heap.size), obk (A_540), obk (A_538), obk (A_346)] A_139 c_140 22 3 (fr : List (List Int))) ∧ (OwnR w_ (Sx (w83.heap.size) [some (w410.heap.size), obk (A_540), obk (A_346), obk (A_139)]) A_538 c_539 3 (td3 : List Int)) ∧ (OwnR w_ (Sx (w101.heap.size) [some (w410.heap.size), obk (A_346), obk (A_139), obk (A_538)]) A_540 c_541 4 (nn3 : List Bool)) ∧ (Bx w_ (w410.heap.size) (tupC ((bestB (upG g l (gI td2 (((td2.length : Nat) : Int) - 1))) (gI g.ow (gI td2 (((td2.length : Nat) : Int) - 1))) (gL g.mv (gI td2 (((td2.length : Nat) : Int) - 1)))).1)) 41) ∧ (OwnR w_ (Sx (w71.heap.size) [obk (A_139), some (w410.heap.size), obk (A_540), obk (A_538), obk (A_346)]) R528 C529 3 (gL fr (gI td2 (((td2.length : Nat) : Int) - 1)) : List Int)) ∧ (0 ≤ q) ∧ (q ≤ ((gL fr (gI td2 (((td2.length : Nat) : Int) - 1))).length : Int)) ∧ (WorkT g ((l).set (gI td2 (((td2.length : Nat) : Int) - 1) : Int).toNat ((bestB (upG g l (gI td2 (((td2.length : Nat) : Int) - 1))) (gI g.ow (gI td2 (((td2.length : Nat) : Int) - 1))) (gL g.mv (gI td2 (((td2.length : Nat) : Int) - 1)))).1)) td3 nn3 ((gL fr (gI td2 (((td2.length : Nat) : Int) - 1))).drop q.toNat)) ∧ (w1.heap.size ≤ w_.heap.size) ∧ (w71.heap.size ≤ w_.heap.size) ∧ (w83.heap.size ≤ w_.heap.size) ∧ (w101.heap.size ≤ w_.heap.size)) _ ⟨0, ((td2).take (((td2.length : Nat) : Int) - 1 : Int).toNat : List Int), A_348, c_349, ((nn2).set (gI td2 (((td2.length : Nat) : Int) - 1) : Int).toNat false : List Bool), A_350, c_351, rfl, f542, e516, r517, bx518, ow512, bx519, ow520, ow521, ow522, bx523, ow531, (by omega), (by omega), (work_lift hG hwk2 hfrE), (by omega), (by omega), (by omega), (by omega)⟩ ?_
     clear f542 f544
     clear r517
     clear bx518
     clear ow512
     clear bx519
     clear ow520
     clear ow521
     clear ow522
     clear bx523
     clear ow531
     clear e516
     intro m_ act545 w546 ⟨q, td3, A_538, c_539, nn3, A_540, c_541, hm548, f549, e547, r550, bx551, ow552, bx553, r554, ow555, ow556, bx557, ow558, i559, i560, hwr, i561, i562, i563, i564⟩
     have szw546 := e547.size
     have := bx551.lt
     have := bx553.lt
     have := bx557.lt
     have hwl := work_len hG hwr
     refine wp_seq ?_
     refine At.start ?_
     refine At.rd f549 1 [[]] [(111, .bool (decide ((q : Int) < (((gL fr (gI td2 (((td2.length : Nat) : Int) - 1))).length : Nat) : Int))))] [] (by kernel_rfl) trivial (fun act566 f565 => ?_)
     clear f549
     refine At.done rfl ?_
     refine t_n ?_
     refine wp_seq ?_
     refine cond_S f565 (t := decide ((q : Int) < (((gL fr (gI td2 (((td2.length : Nat) : Int) - 1))).length : Nat) : Int))) rfl (fun h567 => ?_) (fun h567 => ?_)
     ·have q568 := of_decide_eq_true h567
      refine wp_skip ?_
      refine t_n ?_
      have f569 := f565.sub (r := [(6, .slice A_538 td3.length c_539), (110, .int .i64 (q)), (109, .int .i64 ((((gL fr (gI td2 (((td2.length : Nat) : Int) - 1))).length : Nat) : Int))), (108, .slice R528 ((gL fr (gI td2 (((td2.length : Nat) : Int) - 1))).length) C529), (7, .slice A_540 nn3.length c_541), (5, .slice A_139 fr.length c_140), (4, .pointer (some ⟨w52.heap.size, 0, none⟩)), (3, .slice A_346 l.length c_347), (2, .slice none 0 0), (1, .pointer (some ⟨w.heap.size, 0, none⟩))]) ⟨rfl, rfl, rfl, rfl, rfl, rfl, rfl, rfl, rfl, rfl, trivial⟩
      clear f565
      refine wp_seq ?_
      refine wp_block ?_
      refine wp_seq ?_
      have hdr := drop_split (l := gL fr (gI td2 (((td2.length : Nat) : Int) - 1))) (k := q) (by omega) (by omega)
      have hwr2 := hwr
      rw [hdr] at hwr2
      have hrf := hfrE.rng _ _ hi.1 hi.2 (mem_of_gI (l := gL fr (gI td2 (((td2.length : Nat) : Int) - 1))) (k := q) (by omega) (by omega))
      have hrl := hwr.il
      refine At.start ?_
      obtain ⟨ad570, hA571, hb574, hc573, hc572⟩ := ow558.get (q) (by omega) (by omega) (sz := 1) rfl
      refine At.rd f569 3 [[.ad ad570], [.ld (.int .i64 (gI (gL fr (gI td2 (((td2.length : Nat) : Int) - 1))) q))], []] [(16, .int .i64 (gI (gL fr (gI td2 (((td2.length : Nat) : Int) - 1))) q)), (113, .int .i64 (gI (gL fr (gI td2 (((td2.length : Nat) : Int) - 1))) q)), (112, .pointer (some (ad570.add ((q : Int).toNat * 1))))] [(R528 = some ad570), (0 ≤ (q : Int)), ((q : Int) < ((gL fr (gI td2 (((td2.length : Nat) : Int) - 1))).length : Nat)), (w546.cell? (ad570.add ((q : Int).toNat * 1)) = some (.int .i64 (gI (gL fr (gI td2 (((td2.length : Nat) : Int) - 1))) q)))] (by kernel_rfl) ⟨hA571, (by omega), (by omega), hc573, trivial⟩ (fun act576 f575 => ?_)
      clear f569
      refine At.done rfl ?_
      refine t_n ?_
      have f577 := f575.sub (r := [(16, .int .i64 (gI (gL fr (gI td2 (((td2.length : Nat) : Int) - 1))) q)), (6, .slice A_538 td3.length c_539), (110, .int .i64 (q)), (109, .int .i64 ((((gL fr (gI td2 (((td2.length : Nat) : Int) - 1))).length : Nat) : Int))), (108, .slice R528 ((gL fr (gI td2 (((td2.length : Nat) : Int) - 1))).length) C529), (7, .slice A_540 nn3.length c_541), (5, .slice A_139 fr.length c_140), (4, .pointer (some ⟨w52.heap.size, 0, none⟩)), (3, .slice A_346 l.length c_347), (2, .slice none 0 0), (1, .pointer (some ⟨w.heap.size, 0, none⟩))]) ⟨rfl, rfl, rfl, rfl, rfl, rfl, rfl, rfl, rfl, rfl, rfl, trivial⟩
      clear f575
      refine wp_seq ?_
      refine At.start ?_
      obtain ⟨ad578, hA579, hb582, hc581, hc580⟩ := ow556.get (gI (gL fr (gI td2 (((td2.length : Nat) : Int) - 1))) q) (by omega) (by omega) (sz := 1) rfl
      refine At.rd f577 5 [[], [], [.ad ad578], [.ld (.bool (gB nn3 (gI (gL fr (gI td2 (((td2.length : Nat) : Int) - 1))) q)))], []] [(118, .bool (!(gB nn3 (gI (gL fr (gI td2 (((td2.length : Nat) : Int) - 1))) q)))), (117, .bool (gB nn3 (gI (gL fr (gI td2 (((td2.length : Nat) : Int) - 1))) q))), (116, .pointer (some (ad578.add ((gI (gL fr (gI td2 (((td2.length : Nat) : Int) - 1))) q : Int).toNat * 1)))), (115, .int .i64 (gI (gL fr (gI td2 (((td2.length : Nat) : Int) - 1))) q)), (114, .slice A_540 nn3.length c_541)] [(A_540 = some ad578), (0 ≤ (gI (gL fr (gI td2 (((td2.length : Nat) : Int) - 1))) q : Int)), ((gI (gL fr (gI td2 (((td2.length : Nat) : Int) - 1))) q : Int) < (nn3.length : Nat)), (w546.cell? (ad578.add ((gI (gL fr (gI td2 (((td2.length : Nat) : Int) - 1))) q : Int).toNat * 1)) = some (.bool (gB nn3 (gI (gL fr (gI td2 (((td2.length : Nat) : Int) - 1))) q))))] (by kernel_rfl) ⟨hA579, (by omega), (by omega), hc581, trivial⟩ (fun act584 f583 => ?_)
      clear f577
      refine At.done rfl ?_
      refine t_n ?_
      have f585 := f583.sub (r := [(118, .bool (!(gB nn3 (gI (gL fr (gI td2 (((td2.length : Nat) : Int) - 1))) q)))), (16, .int .i64 (gI (gL fr (gI td2 (((td2.length : Nat) : Int) - 1))) q)), (6, .slice A_538 td3.length c_539), (110, .int .i64 (q)), (109, .int .i64 ((((gL fr (gI td2 (((td2.length : Nat) : Int) - 1))).length : Nat) : Int))), (108, .slice R528 ((gL fr (gI td2 (((td2.length : Nat) : Int) - 1))).length) C529), (7, .slice A_540 nn3.length c_541), (5, .slice A_139 fr.length c_140), (4, .pointer (some ⟨w52.heap.size, 0, none⟩)), (3, .slice A_346 l.length c_347), (2, .slice none 0 0), (1, .pointer (some ⟨w.heap.size, 0, none⟩))]) ⟨rfl, rfl, rfl, rfl, rfl, rfl, rfl, rfl, rfl, rfl, rfl, rfl, trivial⟩
      clear f583
      refine cond_S f585 (t := !(gB nn3 (gI (gL fr (gI td2 (((td2.length : Nat) : Int) - 1))) q))) rfl (fun h586 => ?_) (fun h586 => ?_)
      ·have q587 : (gB nn3 (gI (gL fr (gI td2 (((td2.length : Nat) : Int) - 1))) q)) = false := by first | exact Eq.mp (Bool.not_eq_true' _) h586 | exact Eq.mp (Bool.not_eq_false' _) h586 | simpa using h586
       refine At.start ?_
       refine At.rd f585 4 [[], [], [], []] [(122, .int .i64 (gI (gL fr (gI td2 (((td2.length : Nat) : Int) - 1))) q)), (121, .slice A_538 td3.length c_539), (120, .int .i64 (gI (gL fr (gI td2 (((td2.length : Nat) : Int) - 1))) q)), (119, .slice A_540 nn3.length c_541)] [] (by kernel_rfl) trivial (fun act590 f589 => ?_)
       clear f585
       refine At.seq f589 1 [[]] [(123, .slice (some ⟨w546.heap.size, 0, none⟩) 1 1)] (w546.alloc (.cells #[.int .i64 (gI (gL fr (gI td2 (((td2.length : Nat) : Int) - 1))) q)] 3 (0, 0))) [] (by kernel_rfl) trivial (fun act594 w591 hw592 f593 => ?_)
       clear f589
       have g595 := gr_alloc hw592
       have szw591 := g595.size
       have e598 := e547.gr g595 no_row
       clear e547
       have r599 := r550.gr g595 (fun _ h => by cases h)
       clear r550
       have bx600 := bx551.gr g595 (by simp)
       clear bx551
       have ow601 : OwnR w591 (Sx (w1.heap.size) [some (w546.heap.size), some (w410.heap.size), obk (A_540), obk (A_538), obk (A_139), some (w52.heap.size)]) A_346 c_347 41 ((l).set (gI td2 (((td2.length : Nat) : Int) - 1) : Int).toNat ((bestB (upG g l (gI td2 (((td2.length : Nat) : Int) - 1))) (gI g.ow (gI td2 (((td2.length : Nat) : Int) - 1))) (gL g.mv (gI td2 (((td2.length : Nat) : Int) - 1)))).1) : List Tup) := ow552.grA g595 (fun _ _ h => by cases h) (fun k hk hs => ⟨(fun e => by injection e; omega), hs.1, hs.2.1, hs.2.2.1, hs.2.2.2.1, hs.2.2.2.2.1, hs.2.2.2.2.2⟩)
       clear ow552
       have bx602 := bx553.gr g595 (by simp)
       clear bx553
       have ow603 : OwnLL w591 (w71.heap.size) [some (w546.heap.size), some (w410.heap.size), obk (A_540), obk (A_538), obk (A_346)] A_139 c_140 22 3 (fr : List (List Int)) := r554.grA g595 (fun _ _ h => by cases h) (fun k hk hs => ⟨(fun e => by injection e; omega), hs.1, hs.2.1, hs.2.2.1, hs.2.2.2.1, hs.2.2.2.2⟩)
       clear r554
       have ow604 : OwnR w591 (Sx (w83.heap.size) [some (w546.heap.size), some (w410.heap.size), obk (A_540), obk (A_346), obk (A_139)]) A_538 c_539 3 (td3 : List Int) := ow555.grA g595 (fun _ _ h => by cases h) (fun k hk hs => ⟨(fun e => by injection e; omega), hs.1, hs.2.1, hs.2.2.1, hs.2.2.2.1, hs.2.2.2.2⟩)
       clear ow555
       have ow605 : OwnR w591 (Sx (w101.heap.size) [some (w546.heap.size), some (w410.heap.size), obk (A_346), obk (A_139), obk (A_538)]) A_540 c_541 4 (nn3 : List Bool) := ow556.grA g595 (fun _ _ h => by cases h) (fun k hk hs => ⟨(fun e => by injection e; omega), hs.1, hs.2.1, hs.2.2.1, hs.2.2.2.1, hs.2.2.2.2⟩)
       clear ow556
       have bx606 := bx557.gr g595 (by simp)
       clear bx557
       have ow607 : OwnR w591 (Sx (w71.heap.size) [some (w546.heap.size), obk (A_139), some (w410.heap.size), obk (A_540), obk (A_538), obk (A_346)]) R528 C529 3 (gL fr (gI td2 (((td2.length : Nat) : Int) - 1)) : List Int) := ow558.grA g595 (fun _ _ h => by cases h) (fun k hk hs => ⟨(fun e => by injection e; omega), hs.1, hs.2.1, hs.2.2.1, hs.2.2.2.1, hs.2.2.2.2.1, hs.2.2.2.2.2⟩)
       clear ow558
       have bx597 : Bx w591 (w546.heap.size) [.int .i64 (gI (gL fr (gI td2 (((td2.length : Nat) : Int) - 1))) q)] 3 := Bx.new hw592
       have := bx597.lt
       clear g595 hw592
       have hl612 : (td3 ++ ([gI (gL fr (gI td2 (((td2.length : Nat) : Int) - 1))) q])).length = (td3).length + ([gI (gL fr (gI td2 (((td2.length : Nat) : Int) - 1))) q] : List Int).length := List.length_append
       simp only [List.length_cons, List.length_nil] at hl612
       refine At.act f593 (appendR (α := Int) (t := 22) (d := 124) (n := td3.length) (m := 1) (cc := 1) (xs := td3) (ys := [gI (gL fr (gI td2 (((td2.length : Nat) : Int) - 1))) q]) (bytes := 8) (by first | rfl | omega | (simp; done) | (simp; omega)) (by first | rfl | omega | (simp; done) | (simp; omega)) (by kernel_rfl) rfl (by kernel_rfl) ow604 (Bx.srcR (l := ([gI (gL fr (gI td2 (((td2.length : Nat) : Int) - 1))) q] : List Int)) bx597 rfl) (by simp only [List.length_cons, List.length_nil]; omega) (by simp only [List.length_cons, List.length_nil]; omega)) ?_
       rintro d_ v_ w611 ⟨rfl, A608, c609, ha610⟩
       obtain rfl := ha610.val
       have g613 := ha610.gr
       refine ⟨_, rfl, fun act615 f614 => ?_⟩
       clear f593
       clear bx597
       have ow616 := ha610.own (Sx (w83.heap.size) [some (w410.heap.size), obk (A_540), obk (A_346), obk (A_139)]) (fun g _ hs => ⟨hs.2.1, hs.2.2.1, hs.2.2.2.1, hs.2.2.2.2.1, hs.2.2.2.2.2⟩) ⟨(fun e => by injection e; omega), ow605.ne_new, ow601.ne_new, ow603.ne_new, (show w83.heap.size ≤ w591.heap.size by omega)⟩
       have szw611 := g613.size
       have e617 := e598.gr g613 (fun k hk => by have := ow604.ge k hk; omega)
       clear e598
       have r618 := r599.gr g613 (fun k hk => by have := ow604.ge k hk; omega)
       clear r599
       have bx619 := bx600.gr g613 (fun e => by have := ow604.ge _ e; omega)
       clear bx600
       have ow620 : OwnR w611 (Sx (w1.heap.size) [some (w546.heap.size), some (w410.heap.size), obk (A_540), obk (A608), obk (A_139), some (w52.heap.size)]) A_346 c_347 41 ((l).set (gI td2 (((td2.length : Nat) : Int) - 1) : Int).toNat ((bestB (upG g l (gI td2 (((td2.length : Nat) : Int) - 1))) (gI g.ow (gI td2 (((td2.length : Nat) : Int) - 1))) (gL g.mv (gI td2 (((td2.length : Nat) : Int) - 1)))).1) : List Tup) := ow601.grA g613 (fun k hk => hk.2.2.2.1) (fun k hk hs => ⟨hs.1, hs.2.1, hs.2.2.1, own_repl ha610.at_ hs.2.2.2.1 hk, hs.2.2.2.2.1, hs.2.2.2.2.2.1, hs.2.2.2.2.2.2⟩)
       clear ow601
       have bx621 := bx602.gr g613 (fun e => by have := ow604.ge _ e; omega)
       clear bx602
       have ow622 : OwnLL w611 (w71.heap.size) [some (w546.heap.size), some (w410.heap.size), obk (A_540), obk (A608), obk (A_346)] A_139 c_140 22 3 (fr : List (List Int)) := ow603.grA g613 (fun k hk => hk.2.2.2.1) (fun k hk hs => ⟨hs.1, hs.2.1, hs.2.2.1, own_repl ha610.at_ hs.2.2.2.1 hk, hs.2.2.2.2.1, hs.2.2.2.2.2⟩)
       clear ow603
       have ow623 : OwnR w611 (Sx (w101.heap.size) [some (w546.heap.size), some (w410.heap.size), obk (A_346), obk (A_139), obk (A608)]) A_540 c_541 4 (nn3 : List Bool) := ow605.grA g613 (fun k hk => hk.2.2.2.2.1) (fun k hk hs => ⟨hs.1, hs.2.1, hs.2.2.1, hs.2.2.2.1, own_repl ha610.at_ hs.2.2.2.2.1 hk, hs.2.2.2.2.2⟩)
       clear ow605
       have bx624 := bx606.gr g613 (ow604.neb (fun g hs => hs.2.1))
       clear bx606
       have ow625 : OwnR w611 (Sx (w71.heap.size) [some (w546.heap.size), obk (A_139), some (w410.heap.size), obk (A_540), obk (A608), obk (A_346)]) R528 C529 3 (gL fr (gI td2 (((td2.length : Nat) : Int) - 1)) : List Int) := ow607.grA g613 (fun k hk => hk.2.2.2.2.1) (fun k hk hs => ⟨hs.1, hs.2.1, hs.2.2.1, hs.2.2.2.1, own_repl ha610.at_ hs.2.2.2.2.1 hk, hs.2.2.2.2.2.1, hs.2.2.2.2.2.2⟩)
       clear ow607
       clear ow604 g613 ha610
       obtain ⟨ad626, hA627, hb630, hc629, hc628⟩ := ow623.get (gI (gL fr (gI td2 (((td2.length : Nat) : Int) - 1))) q) (by omega) (by omega) (sz := 1) rfl
       refine At.rd f614 2 [[], [.ad ad626]] [(125, .pointer (some (ad626.add ((gI (gL fr (gI td2 (((td2.length : Nat) : Int) - 1))) q : Int).toNat * 1)))), (6, .slice A608 ((td3 ++ ([gI (gL fr (gI td2 (((td2.length : Nat) : Int) - 1))) q])).length) c609)] [(A_540 = some ad626), (0 ≤ (gI (gL fr (gI td2 (((td2.length : Nat) : Int) - 1))) q : Int)), ((gI (gL fr (gI td2 (((td2.length : Nat) : Int) - 1))) q : Int) < (nn3.length : Nat))] (by kernel_rfl) ⟨hA627, (by omega), (by omega), trivial⟩ (fun act632 f631 => ?_)
       clear f614
       refine At.act f631 (storeR (α := Bool) (t := 4) (i := gI (gL fr (gI td2 (((td2.length : Nat) : Int) - 1))) q) (ad := ad626) (v := .bool true) (true) (by kernel_rfl) rfl rfl (by kernel_rfl) hA627 ow623 (by omega) (by omega)) ?_
       rintro d_ v_ w633 ⟨rfl, g634, ow635⟩
       refine ⟨_, rfl, fun act638 f637 => ?_⟩
       clear f631
       have hl636 : ((nn3).set (gI (gL fr (gI td2 (((td2.length : Nat) : Int) - 1))) q : Int).toNat true).length = (nn3).length := List.length_set
       have szw633 := g634.size
       have e639 := e617.gr g634 (fun k hk => by have := ow623.ge k hk; omega)
       clear e617
       have r640 := r618.gr g634 (fun k hk => by have := ow623.ge k hk; omega)
       clear r618
       have bx641 := bx619.gr g634 (fun e => by have := ow623.ge _ e; omega)
       clear bx619
       have ow642 := ow620.gr g634 (fun k hk => hk.2.2.1)
       clear ow620
       have bx643 := bx621.gr g634 (fun e => by have := ow623.ge _ e; omega)
       clear bx621
       have ow644 := ow622.gr g634 (fun k hk => hk.2.2.1)
       clear ow622
       have ow645 := ow616.gr g634 (fun k hk => hk.2.1)
       clear ow616
       have bx646 := bx624.gr g634 (ow623.neb (fun g hs => hs.2.1))
       clear bx624
       have ow647 := ow625.gr g634 (fun k hk => hk.2.2.2.1)
       clear ow625
       clear ow623 g634
       refine At.done rfl ?_
       refine b_n ?_
       refine t_n ?_
       have f648 := f637.sub (r := [(6, .slice A608 ((td3 ++ ([gI (gL fr (gI td2 (((td2.length : Nat) : Int) - 1))) q])).length) c609), (110, .int .i64 (q)), (109, .int .i64 ((((gL fr (gI td2 (((td2.length : Nat) : Int) - 1))).length : Nat) : Int))), (108, .slice R528 ((gL fr (gI td2 (((td2.length : Nat) : Int) - 1))).length) C529), (7, .slice A_540 nn3.length c_541), (5, .slice A_139 fr.length c_140), (4, .pointer (some ⟨w52.heap.size, 0, none⟩)), (3, .slice A_346 l.length c_347), (2, .slice none 0 0), (1, .pointer (some ⟨w.heap.size, 0, none⟩))]) ⟨rfl, rfl, rfl, rfl, rfl, rfl, rfl, rfl, rfl, rfl, trivial⟩
       clear f637
       refine At.start ?_
       refine At.rd f648 2 [[.as_ (.int .i64 (q + 1))], []] [(110, .int .i64 (q + 1)), (126, .int .i64 (q + 1))] [((.int .i64 (IntKind.i64.wrap (q + 1)) : Value) = .int .i64 (q + 1))] (by kernel_rfl) ⟨(w64 (by omega) (by omega)), trivial⟩ (fun act650 f649 => ?_)
       clear f648
       refine At.done rfl ?_
       refine t_n ?_
       have f651 := f649.as 6 (.slice A608 ((td3 ++ ([gI (gL fr (gI td2 (((td2.length : Nat) : Int) - 1))) q])).length) c609) (.slice A608 ((td3 ++ ([gI (gL fr (gI td2 (((td2.length : Nat) : Int) - 1))) q]) : List Int).length) c609) rfl (slice_len (by first | rfl | omega | (simp; done) | (simp; omega)))
       clear f649
       have f652 := f651.as 7 (.slice A_540 nn3.length c_541) (.slice A_540 (((nn3).set (gI (gL fr (gI td2 (((td2.length : Nat) : Int) - 1))) q : Int).toNat true : List Bool).length) c_541) rfl (slice_len (by first | rfl | omega | (simp; done) | (simp; omega)))
       clear f651
       have f653 := f652.sub (r := [(6, .slice A608 ((td3 ++ ([gI (gL fr (gI td2 (((td2.length : Nat) : Int) - 1))) q]) : List Int).length) c609), (110, .int .i64 (q + 1)), (109, .int .i64 ((((gL fr (gI td2 (((td2.length : Nat) : Int) - 1))).length : Nat) : Int))), (108, .slice R528 ((gL fr (gI td2 (((td2.length : Nat) : Int) - 1))).length) C529), (7, .slice A_540 (((nn3).set (gI (gL fr (gI td2 (((td2.length : Nat) : Int) - 1))) q : Int).toNat true : List Bool).length) c_541), (5, .slice A_139 fr.length c_140), (4, .pointer (some ⟨w52.heap.size, 0, none⟩)), (3, .slice A_346 l.length c_347), (2, .slice none 0 0), (1, .pointer (some ⟨w.heap.size, 0, none⟩))]) ⟨rfl, rfl, rfl, rfl, rfl, rfl, rfl, rfl, rfl, rfl, trivial⟩
       exact ⟨_, (by omega), (q + 1), (td3 ++ ([gI (gL fr (gI td2 (((td2.length : Nat) : Int) - 1))) q]) : List Int), A608, c609, ((nn3).set (gI (gL fr (gI td2 (((td2.length : Nat) : Int) - 1))) q : Int).toNat true : List Bool), A_540, c_541, rfl, f653, e639, r640, bx641, (ow642.imp (fun g _ hs => ⟨hs.2.1, hs.2.2.1, hs.2.2.2.1, hs.2.2.2.2.1, hs.2.2.2.2.2.1, hs.2.2.2.2.2.2⟩)), bx643, (ow644.imp (fun g _ hs => ⟨hs.2.1, hs.2.2.1, hs.2.2.2.1, hs.2.2.2.2.1, hs.2.2.2.2.2⟩)), ow645, (ow635.imp (fun g _ hs => ⟨hs.2.1, hs.2.2.1, hs.2.2.2.1, hs.2.2.2.2.1, hs.2.2.2.2.2⟩)), bx646, (ow647.imp (fun g _ hs => ⟨hs.2.1, hs.2.2.1, hs.2.2.2.1, hs.2.2.2.2.1, hs.2.2.2.2.2.1, hs.2.2.2.2.2.2⟩)), (by omega), (by omega), (work_push hwr2 hrf.1 hrf.2 (by assumption)), (by omega), (by omega), (by omega), (by omega)⟩
      ·have q654 : (gB nn3 (gI (gL fr (gI td2 (((td2.length : Nat) : Int) - 1))) q)) = true := by first | exact Eq.mp (Bool.not_eq_true' _) h586 | exact Eq.mp (Bool.not_eq_false' _) h586 | simpa using h586
       refine wp_skip ?_
       refine b_n ?_
       refine t_n ?_
       have f656 := f585.sub (r := [(6, .slice A_538 td3.length c_539), (110, .int .i64 (q)), (109, .int .i64 ((((gL fr (gI td2 (((td2.length : Nat) : Int) - 1))).length : Nat) : Int))), (108, .slice R528 ((gL fr (gI td2 (((td2.length : Nat) : Int) - 1))).length) C529), (7, .slice A_540 nn3.length c_541), (5, .slice A_139 fr.length c_140), (4, .pointer (some ⟨w52.heap.size, 0, none⟩)), (3, .slice A_346 l.length c_347), (2, .slice none 0 0), (1, .pointer (some ⟨w.heap.size, 0, none⟩))]) ⟨rfl, rfl, rfl, rfl, rfl, rfl, rfl, rfl, rfl, rfl, trivial⟩
       clear f585
       refine At.start ?_
       refine At.rd f656 2 [[.as_ (.int .i64 (q + 1))], []] [(110, .int .i64 (q + 1)), (126, .int .i64 (q + 1))] [((.int .i64 (IntKind.i64.wrap (q + 1)) : Value) = .int .i64 (q + 1))] (by kernel_rfl) ⟨(w64 (by omega) (by omega)), trivial⟩ (fun act658 f657 => ?_)
       clear f656
       refine At.done rfl ?_
       refine t_n ?_
       have f659 := f657.as 6 (.slice A_538 td3.length c_539) (.slice A_538 ((td3 : List Int).length) c_539) rfl (slice_len (by first | rfl | omega | (simp; done) | (simp; omega)))
       clear f657
       have f660 := f659.as 7 (.slice A_540 nn3.length c_541) (.slice A_540 ((nn3 : List Bool).length) c_541) rfl (slice_len (by first | rfl | omega | (simp; done) | (simp; omega)))
       clear f659
       have f661 := f660.sub (r := [(6, .slice A_538 ((td3 : List Int).length) c_539), (110, .int .i64 (q + 1)), (109, .int .i64 ((((gL fr (gI td2 (((td2.length : Nat) : Int) - 1))).length : Nat) : Int))), (108, .slice R528 ((gL fr (gI td2 (((td2.length : Nat) : Int) - 1))).length) C529), (7, .slice A_540 ((nn3 : List Bool).length) c_541), (5, .slice A_139 fr.length c_140), (4, .pointer (some ⟨w52.heap.size, 0, none⟩)), (3, .slice A_346 l.length c_347), (2, .slice none 0 0), (1, .pointer (some ⟨w.heap.size, 0, none⟩))]) ⟨rfl, rfl, rfl, rfl, rfl, rfl, rfl, rfl, rfl, rfl, trivial⟩
       exact ⟨_, (by omega), (q + 1), (td3 : List Int), A_538, c_539, (nn3 : List Bool), A_540, c_541, rfl, f661, e547, r550, bx551, ow552, bx553, r554, ow555, ow556, bx557, ow558, (by omega), (by omega), (work_skip hwr2 hrf.1 hrf.2 (by assumption)), (by omega), (by omega), (by omega), (by omega)⟩
     ·have q662 := of_decide_eq_false h567
      refine wp_exit ?_
      refine t_e ?_
      refine t_e ?_
      refine b_e ?_
      refine b_n ?_
      refine t_n ?_
      have f663 := f565.as 6 (.slice A_538 td3.length c_539) (.slice A_538 ((td3 : List Int).length) c_539) rfl (slice_len (by first | rfl | omega | (simp; done) | (simp; omega)))
      clear f565
      have f664 := f663.as 7 (.slice A_540 nn3.length c_541) (.slice A_540 ((nn3 : List Bool).length) c_541) rfl (slice_len (by first | rfl | omega | (simp; done) | (simp; omega)))
      clear f663
      have f665 := f664.as 3 (.slice A_346 l.length c_347) (.slice A_346 (((l).set (gI td2 (((td2.length : Nat) : Int) - 1) : Int).toNat ((bestB (upG g l (gI td2 (((td2.length : Nat) : Int) - 1))) (gI g.ow (gI td2 (((td2.length : Nat) : Int) - 1))) (gL g.mv (gI td2 (((td2.length : Nat) : Int) - 1)))).1) : List Tup).length) c_347) rfl (slice_len (by first | rfl | omega | (simp; done) | (simp; omega)))
      clear f664
      have f666 := f665.sub (r := [(6, .slice A_538 ((td3 : List Int).length) c_539), (7, .slice A_540 ((nn3 : List Bool).length) c_541), (5, .slice A_139 fr.length c_140), (4, .pointer (some ⟨w52.heap.size, 0, none⟩)), (3, .slice A_346 (((l).set (gI td2 (((td2.length : Nat) : Int) - 1) : Int).toNat ((bestB (upG g l (gI td2 (((td2.length : Nat) : Int) - 1))) (gI g.ow (gI td2 (((td2.length : Nat) : Int) - 1))) (gL g.mv (gI td2 (((td2.length : Nat) : Int) - 1)))).1) : List Tup).length) c_347), (2, .slice none 0 0), (1, .pointer (some ⟨w.heap.size, 0, none⟩))]) ⟨rfl, rfl, rfl, rfl, rfl, rfl, rfl, trivial⟩
      exact ⟨_, (by rw [hm359]; first | omega | (simp only [liftT] at hfar; omega)), ((l).set (gI td2 (((td2.length : Nat) : Int) - 1) : Int).toNat ((bestB (upG g l (gI td2 (((td2.length : Nat) : Int) - 1))) (gI g.ow (gI td2 (((td2.length : Nat) : Int) - 1))) (gL g.mv (gI td2 (((td2.length : Nat) : Int) - 1)))).1) : List Tup), A_346, c_347, (td3 : List Int), A_538, c_539, (nn3 : List Bool), A_540, c_541, rfl, f666, e547, r550, bx551, (ow552.imp (fun g _ hs => ⟨hs.2.1, hs.2.2.1, hs.2.2.2.1, hs.2.2.2.2.1, hs.2.2.2.2.2⟩)), bx553, (r554.imp (fun g _ hs => ⟨hs.2.1, hs.2.2.1, hs.2.2.2.1, hs.2.2.2.2⟩)), (ow555.imp (fun g _ hs => ⟨hs.2.1, hs.2.2.1, hs.2.2.2.1, hs.2.2.2.2⟩)), (ow556.imp (fun g _ hs => ⟨hs.2.1, hs.2.2.1, hs.2.2.2.1, hs.2.2.2.2⟩)), (by have e_ : (gL fr (gI td2 (((td2.length : Nat) : Int) - 1))).drop q.toNat = [] := List.drop_of_length_le (by omega); rw [e_] at hwr; exact hwr), hfrE, (by omega), (by omega), (by omega), (by omega)⟩
   ·have q667 := of_decide_eq_false h375
    refine wp_exit ?_
    refine t_e ?_
    refine t_e ?_
    refine b_e ?_
    refine t_n ?_
    have f668 := f374.sub (r := [(3, .slice A_346 l.length c_347)]) ⟨rfl, trivial⟩
    clear f374
    refine wp_seq ?_
    have hnil : td2 = [] := List.length_eq_zero_iff.1 (by omega)
    rw [hnil] at hwk
    have solved_ : LeastT g l := work_end hwk
    refine At.start ?_
    refine At.rd f668 2 [[], []] [(2, .slice A_346 l.length c_347), (127, .slice A_346 l.length c_347)] [] (by kernel_rfl) trivial (fun act670 f669 => ?_)
    clear f668
    refine At.done rfl ?_
    refine t_n ?_
    have f671 := f669.sub (r := [(2, .slice A_346 l.length c_347)]) ⟨rfl, trivial⟩
    clear f669
    refine wp_ret ?_
    refine ret_ f671 [] [.slice A_346 l.length c_347] [] (by kernel_rfl) trivial ?_
    exact ⟨A_346, c_347, _, rfl, e358, (ow363.imp (fun g _ hs => by have := Sx_base hs; show w.heap.size ≤ g; omega)), .inr ⟨by assumption, solved_⟩⟩

end Go.Proofs.Ytklbpajmoklheaa
