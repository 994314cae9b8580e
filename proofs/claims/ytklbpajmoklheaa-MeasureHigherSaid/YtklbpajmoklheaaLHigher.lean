/-
  A walk of a Go function, printed by a program of this repo. Conditions: what the theorems name.
-/
import Derived.Test.YtklbpajmoklheaaWShown
import Derived.Test.YtklbpajmoklheaaWCopyM
import Derived.Test.YtklbpajmoklheaaWHeavy
import Derived.Test.YtklbpajmoklheaaWSame
import Derived.Test.YtklbpajmoklheaaPureHigher
set_option linter.unusedVariables false
set_option linter.unusedSimpArgs false
namespace Go.Proofs.Ytklbpajmoklheaa
open Go Go.RowKit

set_option maxHeartbeats 4000000 in
theorem higher_any {Ag0 Ag1 Ag2 : Option Addr} {cg0 cg1 cg2 : Nat} {g : GameL} {w : World} (rg : RdG w 0 w.heap.size Ag0 Ag1 Ag2 cg0 cg1 cg2 g) :
    Calls Try.prog 13 #[.agg #[.slice Ag0 g.ow.length cg0, .slice Ag1 g.pr.length cg1, .slice Ag2 g.mv.length cg2]] w fun e w' => e = .returned (.bool true) ∧ Ext w w' := by
 have hlg0 := rg.ow.len
 have hlg1 := rg.pr.len
 have hlg2 := rg.mv.len
 have hkg0 := rg.k0
 have hkg1 := rg.k1
 have hkg2 := rg.k2
 refine enter_ (args := [.agg #[.slice Ag0 g.ow.length cg0, .slice Ag1 g.pr.length cg1, .slice Ag2 g.mv.length cg2]]) Try.func13 rfl Try.ntmps13 (Nat.le_of_ble_eq_true rfl) (fun act0 f0 => ?_)
 have e0 := Ext.refl w
 refine wp_seq ?_
 refine At.start ?_
 refine At.seq f0 1 [[]] [(1, .pointer (some ⟨w.heap.size, 0, none⟩))] (w.alloc (.cells #[.slice Ag0 g.ow.length cg0, .slice Ag1 g.pr.length cg1, .slice Ag2 g.mv.length cg2] 25 (0, 0))) [] (by kernel_rfl) trivial (fun act4 w1 hw2 f3 => ?_)
 clear f0
 have g5 := gr_alloc hw2
 have szw1 := g5.size
 have e7 := e0.gr g5 no_row
 clear e0
 have r8 := rg.gr g5 (fun _ h => by cases h)
 clear rg
 have bx9 : Bx w1 (w.heap.size) [.slice Ag0 g.ow.length cg0, .slice Ag1 g.pr.length cg1, .slice Ag2 g.mv.length cg2] 25 := Bx.new hw2
 have := bx9.lt
 clear g5 hw2
 refine At.rd f3 1 [[]] [(2, .bool false)] [] (by kernel_rfl) trivial (fun act11 f10 => ?_)
 clear f3
 refine At.done rfl ?_
 refine t_n ?_
 have f12 := f10.sub (r := [(2, .bool false), (1, .pointer (some ⟨w.heap.size, 0, none⟩))]) ⟨rfl, rfl, trivial⟩
 clear f10
 refine wp_seq ?_
 refine At.start ?_
 refine At.call f12 22 #[] (some 14) (by kernel_rfl) (shown_any) ?_
 rintro e_ w13 ⟨rfl, he⟩
 refine ⟨_, rfl, _, rfl, fun act14 f15 => ?_⟩
 clear f12
 have g16 := gr_ext he
 have szw13 := g16.size
 have e17 := e7.gr g16 no_row
 clear e7
 have r18 := r8.gr g16 (fun _ h => by cases h)
 clear r8
 have bx19 := bx9.gr g16 (by simp)
 clear bx9
 clear g16 he
 refine At.rd f15 1 [[]] [(3, .bool true)] [] (by kernel_rfl) trivial (fun act21 f20 => ?_)
 clear f15
 refine At.done rfl ?_
 refine t_n ?_
 have f22 := f20.sub (r := [(3, .bool true), (2, .bool false), (1, .pointer (some ⟨w.heap.size, 0, none⟩))]) ⟨rfl, rfl, rfl, trivial⟩
 clear f20
 refine wp_seq ?_
 refine At.start ?_
 refine At.rd f22 1 [[.ld (.slice Ag0 g.ow.length cg0), .ld (.slice Ag1 g.pr.length cg1), .ld (.slice Ag2 g.mv.length cg2)]] [(16, .agg #[.slice Ag0 g.ow.length cg0, .slice Ag1 g.pr.length cg1, .slice Ag2 g.mv.length cg2])] [(w13.cell? ⟨w.heap.size, 0, none⟩ = some (.slice Ag0 g.ow.length cg0)), (w13.cell? ⟨w.heap.size, 1, none⟩ = some (.slice Ag1 g.pr.length cg1)), (w13.cell? ⟨w.heap.size, 2, none⟩ = some (.slice Ag2 g.mv.length cg2))] (by kernel_rfl) ⟨(bx19.cell (i := 0) rfl), (bx19.cell (i := 1) rfl), (bx19.cell (i := 2) rfl), trivial⟩ (fun act24 f23 => ?_)
 clear f22
 refine At.call f23 36 #[.agg #[.slice Ag0 g.ow.length cg0, .slice Ag1 g.pr.length cg1, .slice Ag2 g.mv.length cg2]] (some 17) (by kernel_rfl) (right_any (r18.wide (Nat.zero_le _) (by omega))) ?_
 rintro e_ w25 ⟨rfl, he⟩
 refine ⟨_, rfl, _, rfl, fun act26 f27 => ?_⟩
 clear f23
 have g28 := gr_ext he
 have szw25 := g28.size
 have e29 := e17.gr g28 no_row
 clear e17
 have r30 := r18.gr g28 (fun _ h => by cases h)
 clear r18
 have bx31 := bx19.gr g28 (by simp)
 clear bx19
 clear g28 he
 refine At.rd f27 5 [[], [], [], [], []] [(5, .int .i64 ((rightP g).2)), (4, .int .i64 ((rightP g).1)), (19, .int .i64 ((rightP g).2)), (18, .int .i64 ((rightP g).1)), (15, .tuple #[.int .i64 ((rightP g).1), .int .i64 ((rightP g).2)])] [] (by kernel_rfl) trivial (fun act33 f32 => ?_)
 clear f27
 refine At.done rfl ?_
 refine t_n ?_
 have f34 := f32.sub (r := [(5, .int .i64 ((rightP g).2)), (3, .bool true), (2, .bool false), (1, .pointer (some ⟨w.heap.size, 0, none⟩))]) ⟨rfl, rfl, rfl, rfl, trivial⟩
 clear f32
 refine wp_seq ?_
 refine At.start ?_
 refine At.rd f34 1 [[.ld (.slice Ag0 g.ow.length cg0), .ld (.slice Ag1 g.pr.length cg1), .ld (.slice Ag2 g.mv.length cg2)]] [(20, .agg #[.slice Ag0 g.ow.length cg0, .slice Ag1 g.pr.length cg1, .slice Ag2 g.mv.length cg2])] [(w25.cell? ⟨w.heap.size, 0, none⟩ = some (.slice Ag0 g.ow.length cg0)), (w25.cell? ⟨w.heap.size, 1, none⟩ = some (.slice Ag1 g.pr.length cg1)), (w25.cell? ⟨w.heap.size, 2, none⟩ = some (.slice Ag2 g.mv.length cg2))] (by kernel_rfl) ⟨(bx31.cell (i := 0) rfl), (bx31.cell (i := 1) rfl), (bx31.cell (i := 2) rfl), trivial⟩ (fun act36 f35 => ?_)
 clear f34
 refine At.call f35 25 #[.agg #[.slice Ag0 g.ow.length cg0, .slice Ag1 g.pr.length cg1, .slice Ag2 g.mv.length cg2]] (some 21) (by kernel_rfl) (heavy_any (g := g) (r30.wide (Nat.zero_le _) (by omega))) ?_
 rintro e_ w38 ⟨b37, rfl, he⟩
 refine ⟨_, rfl, _, rfl, fun act39 f40 => ?_⟩
 clear f35
 have g41 := gr_ext he
 have szw38 := g41.size
 have e42 := e29.gr g41 no_row
 clear e29
 have r43 := r30.gr g41 (fun _ h => by cases h)
 clear r30
 have bx44 := bx31.gr g41 (by simp)
 clear bx31
 clear g41 he
 refine At.rd f40 1 [[]] [(6, .bool (b37))] [] (by kernel_rfl) trivial (fun act46 f45 => ?_)
 clear f40
 refine At.done rfl ?_
 refine t_n ?_
 have f47 := f45.sub (r := [(6, .bool (b37)), (5, .int .i64 ((rightP g).2)), (3, .bool true), (2, .bool false), (1, .pointer (some ⟨w.heap.size, 0, none⟩))]) ⟨rfl, rfl, rfl, rfl, rfl, trivial⟩
 clear f45
 refine wp_seq ?_
 refine wp_seq ?_
 refine At.start ?_
 rcases Bool.eq_false_or_eq_true (((rightP g).2 : Int) != 0) with h48 | h48
 ·have q49 := bne_iff_ne.1 h48
  refine At.rd f47 9 [[], [], [], [], [], [], [.as_ (.bool true)], [], []] [(30, .bool true), (29, undef), (28, .bool true), (27, .bool (((rightP g).2 : Int) != 0)), (26, .bool (((rightP g).2 : Int) != 0)), (25, .int .i64 ((rightP g).2)), (24, .bool false), (23, .bool false), (22, .bool true)] [((.bool (((rightP g).2 : Int) != 0) : Value) = .bool true)] (by kernel_rfl) ⟨(congrArg Value.bool h48), trivial⟩ (fun act51 f50 => ?_)
  clear f47
  refine At.done rfl ?_
  refine t_n ?_
  have f52 := f50.sub (r := [(30, .bool true), (3, .bool true), (2, .bool false), (1, .pointer (some ⟨w.heap.size, 0, none⟩))]) ⟨rfl, rfl, rfl, rfl, trivial⟩
  clear f50
  refine cond_T f52 rfl ?_
  refine wp_seq ?_
  refine At.start ?_
  refine At.rd f52 2 [[], []] [(2, .bool true), (31, .bool true)] [] (by kernel_rfl) trivial (fun act54 f53 => ?_)
  clear f52
  refine At.done rfl ?_
  refine t_n ?_
  have f55 := f53.sub (r := [(2, .bool true)]) ⟨rfl, trivial⟩
  clear f53
  refine wp_ret ?_
  refine t_r ?_
  refine ret_ f55 [] [.bool true] [] (by kernel_rfl) trivial ?_
  exact ⟨rfl, e42⟩
 ·have q56 := bne_eq_false_iff_eq.1 h48
  refine At.rd f47 9 [[], [], [], [], [], [], [.as_ (.bool false)], [], []] [(30, .bool (b37)), (29, .bool (b37)), (28, .bool false), (27, .bool (((rightP g).2 : Int) != 0)), (26, .bool (((rightP g).2 : Int) != 0)), (25, .int .i64 ((rightP g).2)), (24, .bool false), (23, .bool false), (22, .bool true)] [((.bool (((rightP g).2 : Int) != 0) : Value) = .bool false)] (by kernel_rfl) ⟨(congrArg Value.bool h48), trivial⟩ (fun act58 f57 => ?_)
  clear f47
  refine At.done rfl ?_
  refine t_n ?_
  have f59 := f57.sub (r := [(30, .bool (b37)), (3, .bool true), (2, .bool false), (1, .pointer (some ⟨w.heap.size, 0, none⟩))]) ⟨rfl, rfl, rfl, rfl, trivial⟩
  clear f57
  refine cond_S f59 (t := b37) rfl (fun h60 => ?_) (fun h60 => ?_)
  ·refine wp_seq ?_
   refine At.start ?_
   refine At.rd f59 2 [[], []] [(2, .bool true), (31, .bool true)] [] (by kernel_rfl) trivial (fun act63 f62 => ?_)
   clear f59
   refine At.done rfl ?_
   refine t_n ?_
   have f64 := f62.sub (r := [(2, .bool true)]) ⟨rfl, trivial⟩
   clear f62
   refine wp_ret ?_
   refine t_r ?_
   refine ret_ f64 [] [.bool true] [] (by kernel_rfl) trivial ?_
   exact ⟨rfl, e42⟩
  ·refine wp_skip ?_
   refine t_n ?_
   have f66 := f59.sub (r := [(2, .bool false), (1, .pointer (some ⟨w.heap.size, 0, none⟩))]) ⟨rfl, rfl, trivial⟩
   clear f59
   refine wp_seq ?_
   have hR : isR g = true := right_of (by omega)
   have hG := isR_ok hR
   have hn1 := hG.n1
   have hn0 := hG.n0
   have hpl := hG.pl
   have hml := hG.ml
   refine At.start ?_
   refine At.rd f66 1 [[.ld (.slice Ag0 g.ow.length cg0), .ld (.slice Ag1 g.pr.length cg1), .ld (.slice Ag2 g.mv.length cg2)]] [(32, .agg #[.slice Ag0 g.ow.length cg0, .slice Ag1 g.pr.length cg1, .slice Ag2 g.mv.length cg2])] [(w38.cell? ⟨w.heap.size, 0, none⟩ = some (.slice Ag0 g.ow.length cg0)), (w38.cell? ⟨w.heap.size, 1, none⟩ = some (.slice Ag1 g.pr.length cg1)), (w38.cell? ⟨w.heap.size, 2, none⟩ = some (.slice Ag2 g.mv.length cg2))] (by kernel_rfl) ⟨(bx44.cell (i := 0) rfl), (bx44.cell (i := 1) rfl), (bx44.cell (i := 2) rfl), trivial⟩ (fun act68 f67 => ?_)
   clear f66
   refine At.call f67 38 #[.agg #[.slice Ag0 g.ow.length cg0, .slice Ag1 g.pr.length cg1, .slice Ag2 g.mv.length cg2]] (some 33) (by kernel_rfl) (copyM_any (g := g) (r43.wide (Nat.zero_le _) (by omega))) ?_
   rintro e_ w82 ⟨A69, c70, A71, c72, A73, c74, rfl, he, ow75, ow76, ow77⟩
   have hip81 := inner_len (RdG.mv (r43.wide (Nat.zero_le _) (by omega)))
   refine ⟨_, rfl, _, rfl, fun act83 f84 => ?_⟩
   clear f67
   have g85 := gr_ext he
   have szw82 := g85.size
   have e86 := e42.gr g85 no_row
   clear e42
   have r87 := r43.gr g85 (fun _ h => by cases h)
   clear r43
   have bx88 := bx44.gr g85 (by simp)
   clear bx44
   clear g85 he
   refine At.seq f84 1 [[]] [(7, .pointer (some ⟨w82.heap.size, 0, none⟩))] (w82.alloc (.cells #[.slice none 0 0, .slice none 0 0, .slice none 0 0] 25 (0, 0))) [] (by kernel_rfl) trivial (fun act92 w89 hw90 f91 => ?_)
   clear f84
   have g93 := gr_alloc hw90
   have szw89 := g93.size
   have e95 := e86.gr g93 no_row
   clear e86
   have r96 := r87.gr g93 (fun _ h => by cases h)
   clear r87
   have bx97 := bx88.gr g93 (by simp)
   clear bx88
   have ow98 : OwnR w89 (Sx (w38.heap.size) [some (w82.heap.size), obk (A71), obk (A73)]) A69 c70 3 (g.ow : List Int) := ow75.grA g93 (fun _ _ h => by cases h) (fun k hk hs => ⟨(fun e => by injection e; omega), hs.1, hs.2.1, hs.2.2⟩)
   clear ow75
   have ow99 : OwnR w89 (Sx (w38.heap.size) [some (w82.heap.size), obk (A69), obk (A73)]) A71 c72 3 (g.pr : List Int) := ow76.grA g93 (fun _ _ h => by cases h) (fun k hk hs => ⟨(fun e => by injection e; omega), hs.1, hs.2.1, hs.2.2⟩)
   clear ow76
   have ow100 : OwnLL w89 (w38.heap.size) [some (w82.heap.size), obk (A69), obk (A71)] A73 c74 22 3 (g.mv : List (List Int)) := ow77.grA g93 (fun _ _ h => by cases h) (fun k hk hs => ⟨(fun e => by injection e; omega), hs.1, hs.2.1, hs.2.2⟩)
   clear ow77
   have bx101 : Bx w89 (w82.heap.size) [.slice none 0 0, .slice none 0 0, .slice none 0 0] 25 := Bx.new hw90
   have := bx101.lt
   clear g93 hw90
   refine At.store f91 (t := 25) (b := w82.heap.size) (off := 0) (v := .agg #[.slice A69 g.ow.length c70, .slice A71 g.pr.length c72, .slice A73 g.mv.length c74]) (by kernel_rfl) bx101 (by kernel_rfl) (fun act106 w102 g103 bx104 f105 => ?_)
   clear f91
   replace bx104 : Bx w102 (w82.heap.size) [.slice A69 g.ow.length c70, .slice A71 g.pr.length c72, .slice A73 g.mv.length c74] 25 := bx104
   have szw102 := g103.size
   have e107 := e95.gr g103 (fun k h => by injection h; omega)
   clear e95
   have r108 := r96.gr g103 (fun k h => by injection h; omega)
   clear r96
   have bx109 := bx97.gr g103 (fun h => by injection h; omega)
   clear bx97
   have ow110 := ow98.gr g103 (fun k hk => hk.1)
   clear ow98
   have ow111 := ow99.gr g103 (fun k hk => hk.1)
   clear ow99
   have ow112 := ow100.gr g103 (fun k hk => hk.1)
   clear ow100
   clear bx101 g103
   refine At.done rfl ?_
   refine t_n ?_
   have f113 := f105.sub (r := [(7, .pointer (some ⟨w82.heap.size, 0, none⟩)), (2, .bool false), (1, .pointer (some ⟨w.heap.size, 0, none⟩))]) ⟨rfl, rfl, rfl, trivial⟩
   clear f105
   refine wp_seq ?_
   refine wp_seq ?_
   refine At.start ?_
   refine At.rd f113 1 [[]] [(8, .int .i64 (0))] [] (by kernel_rfl) trivial (fun act115 f114 => ?_)
   clear f113
   refine At.done rfl ?_
   refine t_n ?_
   refine wp_block ?_
   have f118 := f114.sub (r := [(8, .int .i64 (0)), (7, .pointer (some ⟨w82.heap.size, 0, none⟩)), (1, .pointer (some ⟨w.heap.size, 0, none⟩))]) ⟨rfl, rfl, rfl, trivial⟩
   refine loop_g (fun (m_ : Nat) a_ w_ => ∃ (i : Int) (xs : List Int) (A_116 : Option Addr) (c_117 : Nat), m_ = ((g.pr.length : Int) - i).toNat ∧ (Frm 82 a_ [(8, .int .i64 (i)), (7, .pointer (some ⟨w82.heap.size, 0, none⟩)), (1, .pointer (some ⟨w.heap.size, 0, none⟩))]) ∧ (Ext w w_) ∧ (RdG w_ 0 w.heap.size Ag0 Ag1 Ag2 cg0 cg1 cg2 g) ∧ (Bx w_ (w.heap.size) [.slice Ag0 g.ow.length cg0, .slice Ag1 g.pr.length cg1, .slice Ag2 g.mv.length cg2] 25) ∧ (OwnR w_ (Sx (w38.heap.size) [some (w82.heap.size), obk (A_116), obk (A73)]) A69 c70 3 (g.ow : List Int)) ∧ (OwnR w_ (Sx (w38.heap.size) [some (w82.heap.size), obk (A69), obk (A73)]) A_116 c_117 3 (xs : List Int)) ∧ (OwnLL w_ (w38.heap.size) [some (w82.heap.size), obk (A69), obk (A_116)] A73 c74 22 3 (g.mv : List (List Int))) ∧ (Bx w_ (w82.heap.size) [.slice A69 g.ow.length c70, .slice A_116 xs.length c_117, .slice A73 g.mv.length c74] 25) ∧ (0 ≤ i) ∧ (i ≤ (g.pr.length : Int)) ∧ (PlusT g.pr xs i) ∧ (xs.length = g.pr.length) ∧ (w38.heap.size ≤ w_.heap.size)) _ ⟨0, (g.pr : List Int), A71, c72, rfl, f118, e107, r108, bx109, ow110, ow111, ow112, bx104, (by omega), (by omega), plus_0, (by omega), (by omega)⟩ ?_
   clear f118 f114
   clear r108
   clear bx109
   clear ow110
   clear ow111
   clear ow112
   clear bx104
   clear e107
   intro m_ act119 w120 ⟨i, xs, A_116, c_117, hm122, f123, e121, r124, bx125, ow126, ow127, r128, bx129, i130, i131, hxs, i132, i133⟩
   have szw120 := e121.size
   have := bx125.lt
   have := bx129.lt
   refine wp_seq ?_
   refine wp_seq ?_
   refine At.start ?_
   refine At.rd f123 5 [[], [], [.ld (.slice A_116 xs.length c_117)], [], []] [(38, .bool (decide ((i : Int) < ((xs.length : Nat) : Int)))), (37, .int .i64 (((xs.length : Nat) : Int))), (36, .slice A_116 xs.length c_117), (35, .pointer (some ⟨w82.heap.size, 1, none⟩)), (34, .int .i64 (i))] [(w120.cell? ⟨w82.heap.size, 1, none⟩ = some (.slice A_116 xs.length c_117))] (by kernel_rfl) ⟨(bx129.cell (i := 1) rfl), trivial⟩ (fun act135 f134 => ?_)
   clear f123
   refine At.done rfl ?_
   refine t_n ?_
   have f136 := f134.sub (r := [(38, .bool (decide ((i : Int) < ((xs.length : Nat) : Int)))), (8, .int .i64 (i)), (7, .pointer (some ⟨w82.heap.size, 0, none⟩)), (1, .pointer (some ⟨w.heap.size, 0, none⟩))]) ⟨rfl, rfl, rfl, rfl, trivial⟩
   clear f134
   refine cond_S f136 (t := decide ((i : Int) < ((xs.length : Nat) : Int))) rfl (fun h137 => ?_) (fun h137 => ?_)
   ·have q138 := of_decide_eq_true h137
    refine wp_skip ?_
    refine t_n ?_
    have f139 := f136.sub (r := [(8, .int .i64 (i)), (7, .pointer (some ⟨w82.heap.size, 0, none⟩)), (1, .pointer (some ⟨w.heap.size, 0, none⟩))]) ⟨rfl, rfl, rfl, trivial⟩
    clear f136
    refine wp_seq ?_
    refine wp_block ?_
    have hpx := plus_at hxs (by omega) (by omega)
    have hpr := hG.pr i (by omega) (by omega)
    have hxl := hxs.1
    refine wp_seq ?_
    obtain ⟨ad140, hA141, hb144, hc143, hc142⟩ := ow127.get (i) (by omega) (by omega) (sz := 1) rfl
    obtain ⟨Cs145, hCs146⟩ : ∃ c : List (Addr × Value), c = [(⟨w82.heap.size, 1, none⟩, (.slice A_116 xs.length c_117)), (⟨w82.heap.size, 1, none⟩, (.slice A_116 xs.length c_117))] := ⟨_, rfl⟩
    have hS147 : HoldsC Cs145 w120 := by rw [hCs146]; exact ⟨(bx129.cell (i := 1) rfl), (bx129.cell (i := 1) rfl), trivial⟩
    refine AtH.start Cs145 11 #[false, false, false, false, false, false, false, false, false, false, false] (by kernel_rfl) rfl rfl (fun w149 hw150 => ?_)
    have g148 := gr_drew hw150
    have hS151 := hS147.gr g148
    have szw149 := g148.size
    have e152 := e121.gr g148 no_row
    clear e121
    have r153 := r124.gr g148 (fun _ h => by cases h)
    clear r124
    have bx154 := bx125.gr g148 (by simp)
    clear bx125
    have ow155 := ow126.gr g148 (fun _ _ h => by cases h)
    clear ow126
    have ow156 := ow127.gr g148 (fun _ _ h => by cases h)
    clear ow127
    have ow157 := r128.gr g148 (fun _ _ h => by cases h)
    clear r128
    have bx158 := bx129.gr g148 (by simp)
    clear bx129
    clear g148 hw150 hS147
    refine AtH.rd (by kernel_rfl) (fun d v c a w h => by cases d <;> exact h) hS151 [0, 1, 2, 3, 4, 5, 6] [[], [.ld (.slice A_116 xs.length c_117)], [], [], [.ld (.slice A_116 xs.length c_117)], [], [.ad ad140]] [(47, .pointer (some (ad140.add ((i : Int).toNat * 1)))), (46, .int .i64 (i)), (45, .slice A_116 xs.length c_117), (44, .pointer (some ⟨w82.heap.size, 1, none⟩)), (43, .int .i64 (i)), (42, .slice A_116 xs.length c_117), (41, .pointer (some ⟨w82.heap.size, 1, none⟩))] #[true, true, true, true, true, true, true, false, false, false, false] [(∃ j_ : Nat, Cs145[j_]? = some (⟨w82.heap.size, 1, none⟩, (.slice A_116 xs.length c_117))), (∃ j_ : Nat, Cs145[j_]? = some (⟨w82.heap.size, 1, none⟩, (.slice A_116 xs.length c_117))), (A_116 = some ad140), (0 ≤ (i : Int)), ((i : Int) < (xs.length : Nat))] 4 f139 (by kernel_rfl) ⟨⟨0, by rw [hCs146]; rfl⟩, ⟨1, by rw [hCs146]; rfl⟩, hA141, (by omega), (by omega), trivial⟩ (fun act160 f159 => ?_)
    clear f139
    refine AtH.all [7] 3 (by kernel_rfl) (by simp) ⟨?_, trivial⟩
    obtain ⟨ad161, hA162, hb163, hc164, hc165⟩ := ow156.get (i) (by omega) (by omega) (sz := 1) rfl
    rw [show ad161 = ad140 from Option.some.inj (hA162.symm.trans hA141)] at hc164 hc165
    refine OneH.seq f159 [[.ld (.int .i64 (gI xs i))]] [(48, .int .i64 (gI xs i))] w149 [(w149.cell? (ad140.add ((i : Int).toNat * 1)) = some (.int .i64 (gI xs i)))] #[true, true, true, true, true, true, true, true, false, false, false] (by kernel_rfl) (by kernel_rfl) (by kernel_rfl) ⟨hc164, trivial⟩ (fun act167 w168 hw169 f166 => ?_)
    obtain rfl : w149 = w168 := hw169.symm
    clear f159
    refine ⟨hS151, ?_⟩
    refine AtH.rd (by kernel_rfl) (fun d v c a w h => by cases d <;> exact h) hS151 [8] [[.as_ (.int .i64 ((gI xs i) + 2))]] [(49, .int .i64 ((gI xs i) + 2))] #[true, true, true, true, true, true, true, true, true, false, false] [((.int .i64 (IntKind.i64.wrap ((gI xs i) + 2)) : Value) = .int .i64 ((gI xs i) + 2))] 2 f166 (by kernel_rfl) ⟨(w64 (by omega) (by omega)), trivial⟩ (fun act171 f170 => ?_)
    clear f166
    obtain ⟨ad172, hA173, hb176, hc175, hc174⟩ := ow156.get (i) (by omega) (by omega) (sz := 1) rfl
    refine AtH.rd (by kernel_rfl) (fun d v c a w h => by cases d <;> exact h) hS151 [9] [[.ad ad172]] [(50, .pointer (some (ad172.add ((i : Int).toNat * 1))))] #[true, true, true, true, true, true, true, true, true, true, false] [(A_116 = some ad172), (0 ≤ (i : Int)), ((i : Int) < (xs.length : Nat))] 1 f170 (by kernel_rfl) ⟨hA173, (by omega), (by omega), trivial⟩ (fun act178 f177 => ?_)
    clear f170
    refine AtH.all [10] 0 (by kernel_rfl) (by simp) ⟨?_, trivial⟩
    refine OneH.act f177 #[true, true, true, true, true, true, true, true, true, true, true] (by kernel_rfl) (storeR (α := Int) (t := 3) (i := i) (ad := ad172) (v := .int .i64 ((gI xs i) + 2)) ((gI xs i) + 2) (by kernel_rfl) rfl rfl (by kernel_rfl) hA173 ow156 (by omega) (by omega)) ?_
    rintro d_ v_ w180 ⟨rfl, g181, ow182⟩
    have hS186 := hS151.grO g181 (by rw [hCs146]; exact ⟨(ow156.neb (fun g hs => hs.1)), (ow156.neb (fun g hs => hs.1)), trivial⟩)
    refine ⟨_, rfl, fun act185 f184 => ⟨hS186, ?_⟩⟩
    clear f177
    have hl183 : ((xs).set (i : Int).toNat ((gI xs i) + 2)).length = (xs).length := List.length_set
    have szw180 := g181.size
    have e187 := e152.gr g181 (fun k hk => by have := ow156.ge k hk; omega)
    clear e152
    have r188 := r153.gr g181 (fun k hk => by have := ow156.ge k hk; omega)
    clear r153
    have bx189 := bx154.gr g181 (fun e => by have := ow156.ge _ e; omega)
    clear bx154
    have ow190 := ow155.gr g181 (fun k hk => hk.2.1)
    clear ow155
    have ow191 := ow157.gr g181 (fun k hk => hk.2.2.1)
    clear ow157
    have bx192 := bx158.gr g181 (ow156.neb (fun g hs => hs.1))
    clear bx158
    clear ow156 g181
    refine AtH.done (by kernel_rfl) ?_
    clear hS186
    refine t_n ?_
    have f193 := f184.sub (r := [(8, .int .i64 (i)), (7, .pointer (some ⟨w82.heap.size, 0, none⟩)), (1, .pointer (some ⟨w.heap.size, 0, none⟩))]) ⟨rfl, rfl, rfl, trivial⟩
    clear f184
    refine wp_seq ?_
    have hgs : gI ((xs).set (i : Int).toNat (gI xs (i) + 2)) (i) = gI xs (i) + 2 := by rw [gI_set (by omega) (by omega) (by omega), if_pos rfl]
    refine At.start ?_
    obtain ⟨ad194, hA195, hb198, hc197, hc196⟩ := ow182.get (i) (by omega) (by omega) (sz := 1) rfl
    refine At.rd f193 6 [[], [.ld (.slice A_116 xs.length c_117)], [], [.ad ad194], [.ld (.int .i64 (gI ((xs).set (i : Int).toNat ((gI xs i) + 2)) i))], []] [(56, .bool (decide ((gI ((xs).set (i : Int).toNat ((gI xs i) + 2)) i : Int) > 7))), (55, .int .i64 (gI ((xs).set (i : Int).toNat ((gI xs i) + 2)) i)), (54, .pointer (some (ad194.add ((i : Int).toNat * 1)))), (53, .int .i64 (i)), (52, .slice A_116 xs.length c_117), (51, .pointer (some ⟨w82.heap.size, 1, none⟩))] [(w180.cell? ⟨w82.heap.size, 1, none⟩ = some (.slice A_116 xs.length c_117)), (A_116 = some ad194), (0 ≤ (i : Int)), ((i : Int) < (xs.length : Nat)), (w180.cell? (ad194.add ((i : Int).toNat * 1)) = some (.int .i64 (gI ((xs).set (i : Int).toNat ((gI xs i) + 2)) i)))] (by kernel_rfl) ⟨(bx192.cell (i := 1) rfl), hA195, (by omega), (by omega), hc197, trivial⟩ (fun act200 f199 => ?_)
    clear f193
    refine At.done rfl ?_
    refine t_n ?_
    have f201 := f199.sub (r := [(56, .bool (decide ((gI ((xs).set (i : Int).toNat ((gI xs i) + 2)) i : Int) > 7))), (8, .int .i64 (i)), (7, .pointer (some ⟨w82.heap.size, 0, none⟩)), (1, .pointer (some ⟨w.heap.size, 0, none⟩))]) ⟨rfl, rfl, rfl, rfl, trivial⟩
    clear f199
    refine cond_S f201 (t := decide ((gI ((xs).set (i : Int).toNat ((gI xs i) + 2)) i : Int) > 7)) rfl (fun h202 => ?_) (fun h202 => ?_)
    ·have q203 := of_decide_eq_true h202
     refine wp_seq ?_
     refine At.start ?_
     refine At.rd f201 1 [[]] [(2, .bool true)] [] (by kernel_rfl) trivial (fun act205 f204 => ?_)
     clear f201
     refine At.done rfl ?_
     refine t_n ?_
     have f206 := f204.sub (r := [(2, .bool true)]) ⟨rfl, trivial⟩
     clear f204
     refine wp_ret ?_
     refine b_r ?_
     refine t_r ?_
     refine t_r ?_
     refine b_r ?_
     refine t_r ?_
     refine ret_ f206 [] [.bool true] [] (by kernel_rfl) trivial ?_
     exact ⟨rfl, e187⟩
    ·have q207 := of_decide_eq_false h202
     refine wp_skip ?_
     refine b_n ?_
     refine t_n ?_
     have f208 := f201.sub (r := [(8, .int .i64 (i)), (7, .pointer (some ⟨w82.heap.size, 0, none⟩)), (1, .pointer (some ⟨w.heap.size, 0, none⟩))]) ⟨rfl, rfl, rfl, trivial⟩
     clear f201
     refine At.start ?_
     refine At.rd f208 3 [[], [.as_ (.int .i64 (i + 1))], []] [(8, .int .i64 (i + 1)), (40, .int .i64 (i + 1)), (39, .int .i64 (i))] [((.int .i64 (IntKind.i64.wrap (i + 1)) : Value) = .int .i64 (i + 1))] (by kernel_rfl) ⟨(w64 (by omega) (by omega)), trivial⟩ (fun act210 f209 => ?_)
     clear f208
     refine At.done rfl ?_
     refine t_n ?_
     have f211 := f209.sub (r := [(8, .int .i64 (i + 1)), (7, .pointer (some ⟨w82.heap.size, 0, none⟩)), (1, .pointer (some ⟨w.heap.size, 0, none⟩))]) ⟨rfl, rfl, rfl, trivial⟩
     exact ⟨_, (by omega), (i + 1), ((xs).set (i : Int).toNat ((gI xs i) + 2) : List Int), A_116, c_117, rfl, f211, e187, r188, bx189, ow190, ow182, ow191, (bx192.as (by first | rfl | (simp only [List.length_set]; done) | (simp; done))), (by omega), (by omega), (plus_next hxs (by omega) (by omega) (by omega) (by omega)), (by omega), (by omega)⟩
   ·have q212 := of_decide_eq_false h137
    refine wp_exit ?_
    refine t_e ?_
    refine t_e ?_
    refine b_e ?_
    refine t_n ?_
    have f213 := f136.sub (r := [(7, .pointer (some ⟨w82.heap.size, 0, none⟩)), (1, .pointer (some ⟨w.heap.size, 0, none⟩))]) ⟨rfl, rfl, trivial⟩
    clear f136
    have hxl := hxs.1
    refine wp_seq ?_
    obtain ⟨Cs214, hCs215⟩ : ∃ c : List (Addr × Value), c = [(⟨w.heap.size, 0, none⟩, (.slice Ag0 g.ow.length cg0)), (⟨w.heap.size, 1, none⟩, (.slice Ag1 g.pr.length cg1)), (⟨w.heap.size, 2, none⟩, (.slice Ag2 g.mv.length cg2)), (⟨w.heap.size, 0, none⟩, (.slice Ag0 g.ow.length cg0)), (⟨w.heap.size, 1, none⟩, (.slice Ag1 g.pr.length cg1)), (⟨w.heap.size, 2, none⟩, (.slice Ag2 g.mv.length cg2))] := ⟨_, rfl⟩
    have hS216 : HoldsC Cs214 w120 := by rw [hCs215]; exact ⟨(bx125.cell (i := 0) rfl), (bx125.cell (i := 1) rfl), (bx125.cell (i := 2) rfl), (bx125.cell (i := 0) rfl), (bx125.cell (i := 1) rfl), (bx125.cell (i := 2) rfl), trivial⟩
    refine AtH.start Cs214 9 #[false, false, false, false, false, false, false, false, false] (by kernel_rfl) rfl rfl (fun w218 hw219 => ?_)
    have g217 := gr_drew hw219
    have hS220 := hS216.gr g217
    have szw218 := g217.size
    have e221 := e121.gr g217 no_row
    clear e121
    have r222 := r124.gr g217 (fun _ h => by cases h)
    clear r124
    have bx223 := bx125.gr g217 (by simp)
    clear bx125
    have ow224 := ow126.gr g217 (fun _ _ h => by cases h)
    clear ow126
    have ow225 := ow127.gr g217 (fun _ _ h => by cases h)
    clear ow127
    have ow226 := r128.gr g217 (fun _ _ h => by cases h)
    clear r128
    have bx227 := bx129.gr g217 (by simp)
    clear bx129
    clear g217 hw219 hS216
    refine AtH.rd (by kernel_rfl) (fun d v c a w h => by cases d <;> exact h) hS220 [0, 1] [[.ld (.slice Ag0 g.ow.length cg0), .ld (.slice Ag1 g.pr.length cg1), .ld (.slice Ag2 g.mv.length cg2)], [.ld (.slice Ag0 g.ow.length cg0), .ld (.slice Ag1 g.pr.length cg1), .ld (.slice Ag2 g.mv.length cg2)]] [(59, .agg #[.slice Ag0 g.ow.length cg0, .slice Ag1 g.pr.length cg1, .slice Ag2 g.mv.length cg2]), (58, .agg #[.slice Ag0 g.ow.length cg0, .slice Ag1 g.pr.length cg1, .slice Ag2 g.mv.length cg2])] #[true, true, false, false, false, false, false, false, false] [(∃ j_ : Nat, Cs214[j_]? = some (⟨w.heap.size, 0, none⟩, (.slice Ag0 g.ow.length cg0))), (∃ j_ : Nat, Cs214[j_]? = some (⟨w.heap.size, 1, none⟩, (.slice Ag1 g.pr.length cg1))), (∃ j_ : Nat, Cs214[j_]? = some (⟨w.heap.size, 2, none⟩, (.slice Ag2 g.mv.length cg2))), (∃ j_ : Nat, Cs214[j_]? = some (⟨w.heap.size, 0, none⟩, (.slice Ag0 g.ow.length cg0))), (∃ j_ : Nat, Cs214[j_]? = some (⟨w.heap.size, 1, none⟩, (.slice Ag1 g.pr.length cg1))), (∃ j_ : Nat, Cs214[j_]? = some (⟨w.heap.size, 2, none⟩, (.slice Ag2 g.mv.length cg2)))] 7 f213 (by kernel_rfl) ⟨⟨0, by rw [hCs215]; rfl⟩, ⟨1, by rw [hCs215]; rfl⟩, ⟨2, by rw [hCs215]; rfl⟩, ⟨3, by rw [hCs215]; rfl⟩, ⟨4, by rw [hCs215]; rfl⟩, ⟨5, by rw [hCs215]; rfl⟩, trivial⟩ (fun act229 f228 => ?_)
    clear f213
    refine AtH.all [2] 6 (by kernel_rfl) (by simp) ⟨?_, trivial⟩
    refine OneH.call f228 28 #[.agg #[.slice Ag0 g.ow.length cg0, .slice Ag1 g.pr.length cg1, .slice Ag2 g.mv.length cg2]] (some 60) #[true, true, true, false, false, false, false, false, false] (by kernel_rfl) (by kernel_rfl) (solveM_any (g := g) (r222.wide (Nat.zero_le _) (by omega)) (by first | omega | assumption | decide)) ?_
    rintro e_ w237 ⟨A231, c232, sl, rfl, he, ow234, hsv235⟩
    have hsv_Msl := hsv235
    have := solved_len hsv235
    refine ⟨_, rfl, _, rfl, fun act238 f239 => ?_⟩
    clear f228
    have g240 := gr_ext he
    have hS230 := hS220.gr g240
    have lt241 := ow224.lt
    have lt242 := ow225.lt
    have lt243 := ow226.lt
    have szw237 := g240.size
    have e244 := e221.gr g240 no_row
    clear e221
    have r245 := r222.gr g240 (fun _ h => by cases h)
    clear r222
    have bx246 := bx223.gr g240 (by simp)
    clear bx223
    have ow247 : OwnR w237 (Sx (w38.heap.size) [obk (A231), some (w82.heap.size), obk (A_116), obk (A73)]) A69 c70 3 (g.ow : List Int) := ow224.grA g240 (fun _ _ h => by cases h) (fun k hk hs => ⟨(fun e => by have := ow234.ge _ e; omega), hs.1, hs.2.1, hs.2.2.1, hs.2.2.2⟩)
    clear ow224
    have ow248 : OwnR w237 (Sx (w38.heap.size) [obk (A231), some (w82.heap.size), obk (A69), obk (A73)]) A_116 c_117 3 (xs : List Int) := ow225.grA g240 (fun _ _ h => by cases h) (fun k hk hs => ⟨(fun e => by have := ow234.ge _ e; omega), hs.1, hs.2.1, hs.2.2.1, hs.2.2.2⟩)
    clear ow225
    have ow249 : OwnLL w237 (w38.heap.size) [obk (A231), some (w82.heap.size), obk (A69), obk (A_116)] A73 c74 22 3 (g.mv : List (List Int)) := ow226.grA g240 (fun _ _ h => by cases h) (fun k hk hs => ⟨(fun e => by have := ow234.ge _ e; omega), hs.1, hs.2.1, hs.2.2.1, hs.2.2.2⟩)
    clear ow226
    have bx250 := bx227.gr g240 (by simp)
    clear bx227
    have ow251 : OwnR w237 (Sx (w218.heap.size) [obk (A69), obk (A_116), obk (A73)]) A231 c232 41 (sl : List Tup) := ow234.imp (fun g _ hs => ⟨(fun e => by have := lt241 _ e; have := Sx_base hs; omega), (fun e => by have := lt242 _ e; have := Sx_base hs; omega), (fun e => by have := lt243 _ e; have := Sx_base hs; omega), hs⟩)
    clear ow234
    clear lt241 lt242 lt243
    clear g240 he
    refine ⟨hS230, ?_⟩
    refine AtH.all [3] 5 (by kernel_rfl) (by simp) ⟨?_, trivial⟩
    refine OneH.call f239 30 #[.agg #[.slice Ag0 g.ow.length cg0, .slice Ag1 g.pr.length cg1, .slice Ag2 g.mv.length cg2], .slice A231 sl.length c232] (some 61) #[true, true, true, true, false, false, false, false, false] (by kernel_rfl) (by kernel_rfl) (evenM_any (g := g) (ls := sl) (r245.wide (Nat.zero_le _) (by omega)) ((ow251.rdR (by simp only [Enc.bytes]; omega)).wide (Nat.zero_le _) (by omega)) (solved_ok (by assumption))) ?_
    rintro e_ w264 ⟨A253, c254, A255, c256, ea, eb, rfl, he, ow259, ow260, hev263⟩
    have hel_hev263 := even_len hev263
    have hEv_Mea := hev263
    refine ⟨_, rfl, _, rfl, fun act265 f266 => ?_⟩
    clear f239
    have g267 := gr_ext he
    have hS252 := hS230.gr g267
    have lt268 := ow247.lt
    have lt269 := ow248.lt
    have lt270 := ow249.lt
    have lt271 := ow251.lt
    have szw264 := g267.size
    have e272 := e244.gr g267 no_row
    clear e244
    have r273 := r245.gr g267 (fun _ h => by cases h)
    clear r245
    have bx274 := bx246.gr g267 (by simp)
    clear bx246
    have ow275 : OwnR w264 (Sx (w38.heap.size) [obk (A253), obk (A255), obk (A231), some (w82.heap.size), obk (A_116), obk (A73)]) A69 c70 3 (g.ow : List Int) := ow247.grA g267 (fun _ _ h => by cases h) (fun k hk hs => ⟨(fun e => by have := ow259.ge _ e; omega), (fun e => by have := ow260.ge _ e; omega), hs.1, hs.2.1, hs.2.2.1, hs.2.2.2.1, hs.2.2.2.2⟩)
    clear ow247
    have ow276 : OwnR w264 (Sx (w38.heap.size) [obk (A253), obk (A255), obk (A231), some (w82.heap.size), obk (A69), obk (A73)]) A_116 c_117 3 (xs : List Int) := ow248.grA g267 (fun _ _ h => by cases h) (fun k hk hs => ⟨(fun e => by have := ow259.ge _ e; omega), (fun e => by have := ow260.ge _ e; omega), hs.1, hs.2.1, hs.2.2.1, hs.2.2.2.1, hs.2.2.2.2⟩)
    clear ow248
    have ow277 : OwnLL w264 (w38.heap.size) [obk (A253), obk (A255), obk (A231), some (w82.heap.size), obk (A69), obk (A_116)] A73 c74 22 3 (g.mv : List (List Int)) := ow249.grA g267 (fun _ _ h => by cases h) (fun k hk hs => ⟨(fun e => by have := ow259.ge _ e; omega), (fun e => by have := ow260.ge _ e; omega), hs.1, hs.2.1, hs.2.2.1, hs.2.2.2.1, hs.2.2.2.2⟩)
    clear ow249
    have bx278 := bx250.gr g267 (by simp)
    clear bx250
    have ow279 : OwnR w264 (Sx (w218.heap.size) [obk (A253), obk (A255), obk (A69), obk (A_116), obk (A73)]) A231 c232 41 (sl : List Tup) := ow251.grA g267 (fun _ _ h => by cases h) (fun k hk hs => ⟨(fun e => by have := ow259.ge _ e; omega), (fun e => by have := ow260.ge _ e; omega), hs.1, hs.2.1, hs.2.2.1, hs.2.2.2⟩)
    clear ow251
    have ow280 : OwnR w264 (Sx (w237.heap.size) [obk (A69), obk (A_116), obk (A73), obk (A231), obk (A255)]) A253 c254 3 (ea : List Int) := ow259.imp (fun g _ hs => ⟨(fun e => by have := lt268 _ e; have := Sx_base hs; omega), (fun e => by have := lt269 _ e; have := Sx_base hs; omega), (fun e => by have := lt270 _ e; have := Sx_base hs; omega), (fun e => by have := lt271 _ e; have := Sx_base hs; omega), hs⟩)
    clear ow259
    have ow281 : OwnR w264 (Sx (w237.heap.size) [obk (A69), obk (A_116), obk (A73), obk (A231), obk (A253)]) A255 c256 3 (eb : List Int) := ow260.imp (fun g _ hs => ⟨(fun e => by have := lt268 _ e; have := Sx_base hs; omega), (fun e => by have := lt269 _ e; have := Sx_base hs; omega), (fun e => by have := lt270 _ e; have := Sx_base hs; omega), (fun e => by have := lt271 _ e; have := Sx_base hs; omega), hs⟩)
    clear ow260
    clear lt268 lt269 lt270 lt271
    clear g267 he
    refine ⟨hS252, ?_⟩
    refine AtH.rd (by kernel_rfl) (fun d v c a w h => by cases d <;> exact h) hS252 [4] [[]] [(57, .tuple #[.slice A253 ea.length c254, .slice A255 eb.length c256])] #[true, true, true, true, true, false, false, false, false] [] 4 f266 (by kernel_rfl) trivial (fun act283 f282 => ?_)
    clear f266
    refine AtH.rd (by kernel_rfl) (fun d v c a w h => by cases d <;> exact h) hS252 [5] [[]] [(62, .slice A253 ea.length c254)] #[true, true, true, true, true, true, false, false, false] [] 3 f282 (by kernel_rfl) trivial (fun act285 f284 => ?_)
    clear f282
    refine AtH.rd (by kernel_rfl) (fun d v c a w h => by cases d <;> exact h) hS252 [6] [[]] [(63, .slice A255 eb.length c256)] #[true, true, true, true, true, true, true, false, false] [] 2 f284 (by kernel_rfl) trivial (fun act287 f286 => ?_)
    clear f284
    refine AtH.rd (by kernel_rfl) (fun d v c a w h => by cases d <;> exact h) hS252 [7] [[]] [(9, .slice A253 ea.length c254)] #[true, true, true, true, true, true, true, true, false] [] 1 f286 (by kernel_rfl) trivial (fun act289 f288 => ?_)
    clear f286
    refine AtH.rd (by kernel_rfl) (fun d v c a w h => by cases d <;> exact h) hS252 [8] [[]] [(10, .slice A255 eb.length c256)] #[true, true, true, true, true, true, true, true, true] [] 0 f288 (by kernel_rfl) trivial (fun act291 f290 => ?_)
    clear f288
    refine AtH.done (by kernel_rfl) ?_
    clear hS252
    refine t_n ?_
    have f292 := f290.sub (r := [(10, .slice A255 eb.length c256), (9, .slice A253 ea.length c254), (7, .pointer (some ⟨w82.heap.size, 0, none⟩))]) ⟨rfl, rfl, rfl, trivial⟩
    clear f290
    have hsm2 : (⟨g.ow, xs, g.mv⟩ : GameL).ow.length ≤ 1000000000000 := (show g.ow.length ≤ 1000000000000 by omega)
    refine wp_seq ?_
    obtain ⟨Cs293, hCs294⟩ : ∃ c : List (Addr × Value), c = [(⟨w82.heap.size, 0, none⟩, (.slice A69 g.ow.length c70)), (⟨w82.heap.size, 1, none⟩, (.slice A_116 xs.length c_117)), (⟨w82.heap.size, 2, none⟩, (.slice A73 g.mv.length c74)), (⟨w82.heap.size, 0, none⟩, (.slice A69 g.ow.length c70)), (⟨w82.heap.size, 1, none⟩, (.slice A_116 xs.length c_117)), (⟨w82.heap.size, 2, none⟩, (.slice A73 g.mv.length c74))] := ⟨_, rfl⟩
    have hS295 : HoldsC Cs293 w264 := by rw [hCs294]; exact ⟨(bx278.cell (i := 0) rfl), (bx278.cell (i := 1) rfl), (bx278.cell (i := 2) rfl), (bx278.cell (i := 0) rfl), (bx278.cell (i := 1) rfl), (bx278.cell (i := 2) rfl), trivial⟩
    refine AtH.start Cs293 9 #[false, false, false, false, false, false, false, false, false] (by kernel_rfl) rfl rfl (fun w297 hw298 => ?_)
    have g296 := gr_drew hw298
    have hS299 := hS295.gr g296
    have szw297 := g296.size
    have e300 := e272.gr g296 no_row
    clear e272
    have r301 := r273.gr g296 (fun _ h => by cases h)
    clear r273
    have bx302 := bx274.gr g296 (by simp)
    clear bx274
    have ow303 := ow275.gr g296 (fun _ _ h => by cases h)
    clear ow275
    have ow304 := ow276.gr g296 (fun _ _ h => by cases h)
    clear ow276
    have ow305 := ow277.gr g296 (fun _ _ h => by cases h)
    clear ow277
    have bx306 := bx278.gr g296 (by simp)
    clear bx278
    have ow307 := ow279.gr g296 (fun _ _ h => by cases h)
    clear ow279
    have ow308 := ow280.gr g296 (fun _ _ h => by cases h)
    clear ow280
    have ow309 := ow281.gr g296 (fun _ _ h => by cases h)
    clear ow281
    clear g296 hw298 hS295
    refine AtH.rd (by kernel_rfl) (fun d v c a w h => by cases d <;> exact h) hS299 [0, 1] [[.ld (.slice A69 g.ow.length c70), .ld (.slice A_116 xs.length c_117), .ld (.slice A73 g.mv.length c74)], [.ld (.slice A69 g.ow.length c70), .ld (.slice A_116 xs.length c_117), .ld (.slice A73 g.mv.length c74)]] [(66, .agg #[.slice A69 g.ow.length c70, .slice A_116 xs.length c_117, .slice A73 g.mv.length c74]), (65, .agg #[.slice A69 g.ow.length c70, .slice A_116 xs.length c_117, .slice A73 g.mv.length c74])] #[true, true, false, false, false, false, false, false, false] [(∃ j_ : Nat, Cs293[j_]? = some (⟨w82.heap.size, 0, none⟩, (.slice A69 g.ow.length c70))), (∃ j_ : Nat, Cs293[j_]? = some (⟨w82.heap.size, 1, none⟩, (.slice A_116 xs.length c_117))), (∃ j_ : Nat, Cs293[j_]? = some (⟨w82.heap.size, 2, none⟩, (.slice A73 g.mv.length c74))), (∃ j_ : Nat, Cs293[j_]? = some (⟨w82.heap.size, 0, none⟩, (.slice A69 g.ow.length c70))), (∃ j_ : Nat, Cs293[j_]? = some (⟨w82.heap.size, 1, none⟩, (.slice A_116 xs.length c_117))), (∃ j_ : Nat, Cs293[j_]? = some (⟨w82.heap.size, 2, none⟩, (.slice A73 g.mv.length c74)))] 7 f292 (by kernel_rfl) ⟨⟨0, by rw [hCs294]; rfl⟩, ⟨1, by rw [hCs294]; rfl⟩, ⟨2, by rw [hCs294]; rfl⟩, ⟨3, by rw [hCs294]; rfl⟩, ⟨4, by rw [hCs294]; rfl⟩, ⟨5, by rw [hCs294]; rfl⟩, trivial⟩ (fun act311 f310 => ?_)
    clear f292
    refine AtH.all [2] 6 (by kernel_rfl) (by simp) ⟨?_, trivial⟩
    refine OneH.call f310 28 #[.agg #[.slice A69 g.ow.length c70, .slice A_116 xs.length c_117, .slice A73 g.mv.length c74]] (some 67) #[true, true, true, false, false, false, false, false, false] (by kernel_rfl) (by kernel_rfl) (solveM_any (g := (⟨g.ow, xs, g.mv⟩ : GameL)) (RdG.mk (G := (⟨g.ow, xs, g.mv⟩ : GameL)) (ow303.rdI0 (by first | omega | (simp only [List.length_cons, List.length_nil]; omega) | (simp; done) | (simp; omega))) (ow304.rdI0 (by first | omega | (simp only [List.length_cons, List.length_nil]; omega) | (simp; done) | (simp; omega))) (ow305.rdII0 (by first | omega | (simp only [List.length_cons, List.length_nil]; omega) | (simp; done) | (simp; omega)) hip81) ow303.cap ow304.cap ow305.cap) (by first | omega | assumption | decide)) ?_
    rintro e_ w319 ⟨A313, c314, sl2, rfl, he, ow316, hsv317⟩
    have hsv_Msl2 := hsv317
    have := solved_len hsv317
    refine ⟨_, rfl, _, rfl, fun act320 f321 => ?_⟩
    clear f310
    have g322 := gr_ext he
    have hS312 := hS299.gr g322
    have lt323 := ow303.lt
    have lt324 := ow304.lt
    have lt325 := ow305.lt
    have lt326 := ow307.lt
    have lt327 := ow308.lt
    have lt328 := ow309.lt
    have szw319 := g322.size
    have e329 := e300.gr g322 no_row
    clear e300
    have r330 := r301.gr g322 (fun _ h => by cases h)
    clear r301
    have bx331 := bx302.gr g322 (by simp)
    clear bx302
    have ow332 : OwnR w319 (Sx (w38.heap.size) [obk (A313), obk (A253), obk (A255), obk (A231), some (w82.heap.size), obk (A_116), obk (A73)]) A69 c70 3 (g.ow : List Int) := ow303.grA g322 (fun _ _ h => by cases h) (fun k hk hs => ⟨(fun e => by have := ow316.ge _ e; omega), hs.1, hs.2.1, hs.2.2.1, hs.2.2.2.1, hs.2.2.2.2.1, hs.2.2.2.2.2.1, hs.2.2.2.2.2.2⟩)
    clear ow303
    have ow333 : OwnR w319 (Sx (w38.heap.size) [obk (A313), obk (A253), obk (A255), obk (A231), some (w82.heap.size), obk (A69), obk (A73)]) A_116 c_117 3 (xs : List Int) := ow304.grA g322 (fun _ _ h => by cases h) (fun k hk hs => ⟨(fun e => by have := ow316.ge _ e; omega), hs.1, hs.2.1, hs.2.2.1, hs.2.2.2.1, hs.2.2.2.2.1, hs.2.2.2.2.2.1, hs.2.2.2.2.2.2⟩)
    clear ow304
    have ow334 : OwnLL w319 (w38.heap.size) [obk (A313), obk (A253), obk (A255), obk (A231), some (w82.heap.size), obk (A69), obk (A_116)] A73 c74 22 3 (g.mv : List (List Int)) := ow305.grA g322 (fun _ _ h => by cases h) (fun k hk hs => ⟨(fun e => by have := ow316.ge _ e; omega), hs.1, hs.2.1, hs.2.2.1, hs.2.2.2.1, hs.2.2.2.2.1, hs.2.2.2.2.2.1, hs.2.2.2.2.2.2⟩)
    clear ow305
    have bx335 := bx306.gr g322 (by simp)
    clear bx306
    have ow336 : OwnR w319 (Sx (w218.heap.size) [obk (A313), obk (A253), obk (A255), obk (A69), obk (A_116), obk (A73)]) A231 c232 41 (sl : List Tup) := ow307.grA g322 (fun _ _ h => by cases h) (fun k hk hs => ⟨(fun e => by have := ow316.ge _ e; omega), hs.1, hs.2.1, hs.2.2.1, hs.2.2.2.1, hs.2.2.2.2.1, hs.2.2.2.2.2⟩)
    clear ow307
    have ow337 : OwnR w319 (Sx (w237.heap.size) [obk (A313), obk (A69), obk (A_116), obk (A73), obk (A231), obk (A255)]) A253 c254 3 (ea : List Int) := ow308.grA g322 (fun _ _ h => by cases h) (fun k hk hs => ⟨(fun e => by have := ow316.ge _ e; omega), hs.1, hs.2.1, hs.2.2.1, hs.2.2.2.1, hs.2.2.2.2.1, hs.2.2.2.2.2⟩)
    clear ow308
    have ow338 : OwnR w319 (Sx (w237.heap.size) [obk (A313), obk (A69), obk (A_116), obk (A73), obk (A231), obk (A253)]) A255 c256 3 (eb : List Int) := ow309.grA g322 (fun _ _ h => by cases h) (fun k hk hs => ⟨(fun e => by have := ow316.ge _ e; omega), hs.1, hs.2.1, hs.2.2.1, hs.2.2.2.1, hs.2.2.2.2.1, hs.2.2.2.2.2⟩)
    clear ow309
    have ow339 : OwnR w319 (Sx (w297.heap.size) [obk (A69), obk (A_116), obk (A73), obk (A231), obk (A253), obk (A255)]) A313 c314 41 (sl2 : List Tup) := ow316.imp (fun g _ hs => ⟨(fun e => by have := lt323 _ e; have := Sx_base hs; omega), (fun e => by have := lt324 _ e; have := Sx_base hs; omega), (fun e => by have := lt325 _ e; have := Sx_base hs; omega), (fun e => by have := lt326 _ e; have := Sx_base hs; omega), (fun e => by have := lt327 _ e; have := Sx_base hs; omega), (fun e => by have := lt328 _ e; have := Sx_base hs; omega), hs⟩)
    clear ow316
    clear lt323 lt324 lt325 lt326 lt327 lt328
    clear g322 he
    refine ⟨hS312, ?_⟩
    refine AtH.all [3] 5 (by kernel_rfl) (by simp) ⟨?_, trivial⟩
    refine OneH.call f321 30 #[.agg #[.slice A69 g.ow.length c70, .slice A_116 xs.length c_117, .slice A73 g.mv.length c74], .slice A313 sl2.length c314] (some 68) #[true, true, true, true, false, false, false, false, false] (by kernel_rfl) (by kernel_rfl) (evenM_any (g := (⟨g.ow, xs, g.mv⟩ : GameL)) (ls := sl2) (RdG.mk (G := (⟨g.ow, xs, g.mv⟩ : GameL)) (ow332.rdI0 (by first | omega | (simp only [List.length_cons, List.length_nil]; omega) | (simp; done) | (simp; omega))) (ow333.rdI0 (by first | omega | (simp only [List.length_cons, List.length_nil]; omega) | (simp; done) | (simp; omega))) (ow334.rdII0 (by first | omega | (simp only [List.length_cons, List.length_nil]; omega) | (simp; done) | (simp; omega)) hip81) ow332.cap ow333.cap ow334.cap) ((ow339.rdR (by simp only [Enc.bytes]; omega)).wide (Nat.zero_le _) (by omega)) (solved_ok (by assumption))) ?_
    rintro e_ w352 ⟨A341, c342, A343, c344, fa, fb, rfl, he, ow347, ow348, hev351⟩
    have hel_hev351 := even_len hev351
    have hEv_Mfa := hev351
    refine ⟨_, rfl, _, rfl, fun act353 f354 => ?_⟩
    clear f321
    have g355 := gr_ext he
    have hS340 := hS312.gr g355
    have lt356 := ow332.lt
    have lt357 := ow333.lt
    have lt358 := ow334.lt
    have lt359 := ow336.lt
    have lt360 := ow337.lt
    have lt361 := ow338.lt
    have lt362 := ow339.lt
    have szw352 := g355.size
    have e363 := e329.gr g355 no_row
    clear e329
    have r364 := r330.gr g355 (fun _ h => by cases h)
    clear r330
    have bx365 := bx331.gr g355 (by simp)
    clear bx331
    have ow366 : OwnR w352 (Sx (w38.heap.size) [obk (A341), obk (A343), obk (A313), obk (A253), obk (A255), obk (A231), some (w82.heap.size), obk (A_116), obk (A73)]) A69 c70 3 (g.ow : List Int) := ow332.grA g355 (fun _ _ h => by cases h) (fun k hk hs => ⟨(fun e => by have := ow347.ge _ e; omega), (fun e => by have := ow348.ge _ e; omega), hs.1, hs.2.1, hs.2.2.1, hs.2.2.2.1, hs.2.2.2.2.1, hs.2.2.2.2.2.1, hs.2.2.2.2.2.2.1, hs.2.2.2.2.2.2.2⟩)
    clear ow332
    have ow367 : OwnR w352 (Sx (w38.heap.size) [obk (A341), obk (A343), obk (A313), obk (A253), obk (A255), obk (A231), some (w82.heap.size), obk (A69), obk (A73)]) A_116 c_117 3 (xs : List Int) := ow333.grA g355 (fun _ _ h => by cases h) (fun k hk hs => ⟨(fun e => by have := ow347.ge _ e; omega), (fun e => by have := ow348.ge _ e; omega), hs.1, hs.2.1, hs.2.2.1, hs.2.2.2.1, hs.2.2.2.2.1, hs.2.2.2.2.2.1, hs.2.2.2.2.2.2.1, hs.2.2.2.2.2.2.2⟩)
    clear ow333
    have ow368 : OwnLL w352 (w38.heap.size) [obk (A341), obk (A343), obk (A313), obk (A253), obk (A255), obk (A231), some (w82.heap.size), obk (A69), obk (A_116)] A73 c74 22 3 (g.mv : List (List Int)) := ow334.grA g355 (fun _ _ h => by cases h) (fun k hk hs => ⟨(fun e => by have := ow347.ge _ e; omega), (fun e => by have := ow348.ge _ e; omega), hs.1, hs.2.1, hs.2.2.1, hs.2.2.2.1, hs.2.2.2.2.1, hs.2.2.2.2.2.1, hs.2.2.2.2.2.2.1, hs.2.2.2.2.2.2.2⟩)
    clear ow334
    have bx369 := bx335.gr g355 (by simp)
    clear bx335
    have ow370 : OwnR w352 (Sx (w218.heap.size) [obk (A341), obk (A343), obk (A313), obk (A253), obk (A255), obk (A69), obk (A_116), obk (A73)]) A231 c232 41 (sl : List Tup) := ow336.grA g355 (fun _ _ h => by cases h) (fun k hk hs => ⟨(fun e => by have := ow347.ge _ e; omega), (fun e => by have := ow348.ge _ e; omega), hs.1, hs.2.1, hs.2.2.1, hs.2.2.2.1, hs.2.2.2.2.1, hs.2.2.2.2.2.1, hs.2.2.2.2.2.2⟩)
    clear ow336
    have ow371 : OwnR w352 (Sx (w237.heap.size) [obk (A341), obk (A343), obk (A313), obk (A69), obk (A_116), obk (A73), obk (A231), obk (A255)]) A253 c254 3 (ea : List Int) := ow337.grA g355 (fun _ _ h => by cases h) (fun k hk hs => ⟨(fun e => by have := ow347.ge _ e; omega), (fun e => by have := ow348.ge _ e; omega), hs.1, hs.2.1, hs.2.2.1, hs.2.2.2.1, hs.2.2.2.2.1, hs.2.2.2.2.2.1, hs.2.2.2.2.2.2⟩)
    clear ow337
    have ow372 : OwnR w352 (Sx (w237.heap.size) [obk (A341), obk (A343), obk (A313), obk (A69), obk (A_116), obk (A73), obk (A231), obk (A253)]) A255 c256 3 (eb : List Int) := ow338.grA g355 (fun _ _ h => by cases h) (fun k hk hs => ⟨(fun e => by have := ow347.ge _ e; omega), (fun e => by have := ow348.ge _ e; omega), hs.1, hs.2.1, hs.2.2.1, hs.2.2.2.1, hs.2.2.2.2.1, hs.2.2.2.2.2.1, hs.2.2.2.2.2.2⟩)
    clear ow338
    have ow373 : OwnR w352 (Sx (w297.heap.size) [obk (A341), obk (A343), obk (A69), obk (A_116), obk (A73), obk (A231), obk (A253), obk (A255)]) A313 c314 41 (sl2 : List Tup) := ow339.grA g355 (fun _ _ h => by cases h) (fun k hk hs => ⟨(fun e => by have := ow347.ge _ e; omega), (fun e => by have := ow348.ge _ e; omega), hs.1, hs.2.1, hs.2.2.1, hs.2.2.2.1, hs.2.2.2.2.1, hs.2.2.2.2.2.1, hs.2.2.2.2.2.2⟩)
    clear ow339
    have ow374 : OwnR w352 (Sx (w319.heap.size) [obk (A69), obk (A_116), obk (A73), obk (A231), obk (A253), obk (A255), obk (A313), obk (A343)]) A341 c342 3 (fa : List Int) := ow347.imp (fun g _ hs => ⟨(fun e => by have := lt356 _ e; have := Sx_base hs; omega), (fun e => by have := lt357 _ e; have := Sx_base hs; omega), (fun e => by have := lt358 _ e; have := Sx_base hs; omega), (fun e => by have := lt359 _ e; have := Sx_base hs; omega), (fun e => by have := lt360 _ e; have := Sx_base hs; omega), (fun e => by have := lt361 _ e; have := Sx_base hs; omega), (fun e => by have := lt362 _ e; have := Sx_base hs; omega), hs⟩)
    clear ow347
    have ow375 : OwnR w352 (Sx (w319.heap.size) [obk (A69), obk (A_116), obk (A73), obk (A231), obk (A253), obk (A255), obk (A313), obk (A341)]) A343 c344 3 (fb : List Int) := ow348.imp (fun g _ hs => ⟨(fun e => by have := lt356 _ e; have := Sx_base hs; omega), (fun e => by have := lt357 _ e; have := Sx_base hs; omega), (fun e => by have := lt358 _ e; have := Sx_base hs; omega), (fun e => by have := lt359 _ e; have := Sx_base hs; omega), (fun e => by have := lt360 _ e; have := Sx_base hs; omega), (fun e => by have := lt361 _ e; have := Sx_base hs; omega), (fun e => by have := lt362 _ e; have := Sx_base hs; omega), hs⟩)
    clear ow348
    clear lt356 lt357 lt358 lt359 lt360 lt361 lt362
    clear g355 he
    refine ⟨hS340, ?_⟩
    refine AtH.rd (by kernel_rfl) (fun d v c a w h => by cases d <;> exact h) hS340 [4] [[]] [(64, .tuple #[.slice A341 fa.length c342, .slice A343 fb.length c344])] #[true, true, true, true, true, false, false, false, false] [] 4 f354 (by kernel_rfl) trivial (fun act377 f376 => ?_)
    clear f354
    refine AtH.rd (by kernel_rfl) (fun d v c a w h => by cases d <;> exact h) hS340 [5] [[]] [(69, .slice A341 fa.length c342)] #[true, true, true, true, true, true, false, false, false] [] 3 f376 (by kernel_rfl) trivial (fun act379 f378 => ?_)
    clear f376
    refine AtH.rd (by kernel_rfl) (fun d v c a w h => by cases d <;> exact h) hS340 [6] [[]] [(70, .slice A343 fb.length c344)] #[true, true, true, true, true, true, true, false, false] [] 2 f378 (by kernel_rfl) trivial (fun act381 f380 => ?_)
    clear f378
    refine AtH.rd (by kernel_rfl) (fun d v c a w h => by cases d <;> exact h) hS340 [7] [[]] [(11, .slice A341 fa.length c342)] #[true, true, true, true, true, true, true, true, false] [] 1 f380 (by kernel_rfl) trivial (fun act383 f382 => ?_)
    clear f380
    refine AtH.rd (by kernel_rfl) (fun d v c a w h => by cases d <;> exact h) hS340 [8] [[]] [(12, .slice A343 fb.length c344)] #[true, true, true, true, true, true, true, true, true] [] 0 f382 (by kernel_rfl) trivial (fun act385 f384 => ?_)
    clear f382
    refine AtH.done (by kernel_rfl) ?_
    clear hS340
    refine t_n ?_
    have f386 := f384.sub (r := [(12, .slice A343 fb.length c344), (11, .slice A341 fa.length c342), (10, .slice A255 eb.length c256), (9, .slice A253 ea.length c254)]) ⟨rfl, rfl, rfl, rfl, trivial⟩
    clear f384
    refine wp_seq ?_
    obtain ⟨hea, heb⟩ := higher_even hR hxs (by omega) (by omega) hsv_Msl hsv_Msl2 hEv_Mea hEv_Mfa
    refine At.start ?_
    refine At.rd f386 2 [[], []] [(72, .slice A341 fa.length c342), (71, .slice A253 ea.length c254)] [] (by kernel_rfl) trivial (fun act388 f387 => ?_)
    clear f386
    refine At.call f387 20 #[.slice A253 ea.length c254, .slice A341 fa.length c342] (some 73) (by kernel_rfl) (sameInts_any (la := ea) (lb := fa) (ow371.rdI0 (by first | omega | (simp only [List.length_cons, List.length_nil]; omega) | (simp; done) | (simp; omega))) (ow374.rdI0 (by first | omega | (simp only [List.length_cons, List.length_nil]; omega) | (simp; done) | (simp; omega)))) ?_
    rintro e_ w389 ⟨rfl, he⟩
    refine ⟨_, rfl, _, rfl, fun act390 f391 => ?_⟩
    clear f387
    have g392 := gr_ext he
    have szw389 := g392.size
    have e393 := e363.gr g392 no_row
    clear e363
    have r394 := r364.gr g392 (fun _ h => by cases h)
    clear r364
    have bx395 := bx365.gr g392 (by simp)
    clear bx365
    have ow396 := ow366.gr g392 (fun _ _ h => by cases h)
    clear ow366
    have ow397 := ow367.gr g392 (fun _ _ h => by cases h)
    clear ow367
    have ow398 := ow368.gr g392 (fun _ _ h => by cases h)
    clear ow368
    have bx399 := bx369.gr g392 (by simp)
    clear bx369
    have ow400 := ow370.gr g392 (fun _ _ h => by cases h)
    clear ow370
    have ow401 := ow371.gr g392 (fun _ _ h => by cases h)
    clear ow371
    have ow402 := ow372.gr g392 (fun _ _ h => by cases h)
    clear ow372
    have ow403 := ow373.gr g392 (fun _ _ h => by cases h)
    clear ow373
    have ow404 := ow374.gr g392 (fun _ _ h => by cases h)
    clear ow374
    have ow405 := ow375.gr g392 (fun _ _ h => by cases h)
    clear ow375
    clear g392 he
    refine At.rd f391 1 [[]] [(13, .bool (decide (ea = fa)))] [] (by kernel_rfl) trivial (fun act407 f406 => ?_)
    clear f391
    refine At.done rfl ?_
    refine t_n ?_
    have f408 := f406.sub (r := [(13, .bool (decide (ea = fa))), (12, .slice A343 fb.length c344), (10, .slice A255 eb.length c256)]) ⟨rfl, rfl, rfl, trivial⟩
    clear f406
    refine wp_seq ?_
    refine At.start ?_
    rcases Bool.eq_false_or_eq_true (decide (ea = fa)) with h409 | h409
    ·have q410 := of_decide_eq_true h409
     refine At.rd f408 9 [[], [.as_ (.bool true)], [], [], [], [], [], [], []] [(2, .bool ((((eb.length : Nat) : Int) : Int) == ((fb.length : Nat) : Int))), (81, .bool ((((eb.length : Nat) : Int) : Int) == ((fb.length : Nat) : Int))), (80, .bool ((((eb.length : Nat) : Int) : Int) == ((fb.length : Nat) : Int))), (79, .int .i64 (((fb.length : Nat) : Int))), (78, .slice A343 fb.length c344), (77, .int .i64 (((eb.length : Nat) : Int))), (76, .slice A255 eb.length c256), (75, .bool true), (74, .bool (decide (ea = fa)))] [((.bool (decide (ea = fa)) : Value) = .bool true)] (by kernel_rfl) ⟨(congrArg Value.bool h409), trivial⟩ (fun act412 f411 => ?_)
     clear f408
     refine At.done rfl ?_
     refine t_n ?_
     have f413 := f411.sub (r := [(2, .bool ((((eb.length : Nat) : Int) : Int) == ((fb.length : Nat) : Int)))]) ⟨rfl, trivial⟩
     clear f411
     refine wp_ret ?_
     refine ret_ f413 [] [.bool ((((eb.length : Nat) : Int) : Int) == ((fb.length : Nat) : Int))] [] (by kernel_rfl) trivial ?_
     exact ⟨ret_eq (congrArg Value.bool (by first | omega | exact absurd hea (of_decide_eq_false (by assumption)) | simp [heb])), e393⟩
    ·have q414 := of_decide_eq_false h409
     refine At.rd f408 9 [[], [.as_ (.bool false)], [], [], [], [], [], [], []] [(2, .bool false), (81, .bool false), (80, undef), (79, undef), (78, undef), (77, undef), (76, undef), (75, .bool false), (74, .bool (decide (ea = fa)))] [((.bool (decide (ea = fa)) : Value) = .bool false)] (by kernel_rfl) ⟨(congrArg Value.bool h409), trivial⟩ (fun act416 f415 => ?_)
     clear f408
     refine At.done rfl ?_
     refine t_n ?_
     have f417 := f415.sub (r := [(2, .bool false)]) ⟨rfl, trivial⟩
     clear f415
     refine wp_ret ?_
     refine ret_ f417 [] [.bool false] [] (by kernel_rfl) trivial ?_
     exfalso; first | omega | exact absurd hea (of_decide_eq_false (by assumption)) | simp [heb]

end Go.Proofs.Ytklbpajmoklheaa
