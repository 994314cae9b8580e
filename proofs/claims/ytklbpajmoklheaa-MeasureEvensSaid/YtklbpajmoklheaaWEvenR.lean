/-
  A walk of a Go function, printed by a program of this repo. Conditions: what the theorems name.
-/
import Derived.Test.YtklbpajmoklheaaPureFirst
import Derived.Test.YtklbpajmoklheaaWBest2
import Derived.Test.YtklbpajmoklheaaWIs
import Derived.Test.YtklbpajmoklheaaFs
set_option linter.unusedVariables false
set_option linter.unusedSimpArgs false
namespace Go.Proofs.Ytklbpajmoklheaa
open Go Go.RowKit

set_option maxHeartbeats 4000000 in
theorem evenR_any {Ag0 Ag1 Ag2 : Option Addr} {cg0 cg1 cg2 : Nat} {g : GameL} {As : Option Addr} {cs : Nat} {ls : List Tup} {w : World} (rg : RdG w 0 w.heap.size Ag0 Ag1 Ag2 cg0 cg1 cg2 g) (rs : RdR w 0 w.heap.size As ls) (hok : okL ls) :
    Calls Try.prog 31 #[.agg #[.slice Ag0 g.ow.length cg0, .slice Ag1 g.pr.length cg1, .slice Ag2 g.mv.length cg2], .slice As ls.length cs] w fun e w' => ∃ A1 c1 A2 c2 a b, e = .returned (.tuple #[.slice A1 a.length c1, .slice A2 b.length c2]) ∧ Ext w w' ∧ OwnR w' (Sx w.heap.size [obk A2]) A1 c1 3 (a : List Int) ∧ OwnR w' (Sx w.heap.size [obk A1]) A2 c2 3 (b : List Int) ∧ EvenT g ls a b := by
 have hlg0 := rg.ow.len
 have hlg1 := rg.pr.len
 have hlg2 := rg.mv.len
 have hkg0 := rg.k0
 have hkg1 := rg.k1
 have hkg2 := rg.k2
 have hls := rs.len
 simp only [Enc.bytes] at hls
 refine enter_ (args := [.agg #[.slice Ag0 g.ow.length cg0, .slice Ag1 g.pr.length cg1, .slice Ag2 g.mv.length cg2], .slice As ls.length cs]) Try.func31 rfl Try.ntmps31 (Nat.le_of_ble_eq_true rfl) (fun act0 f0 => ?_)
 have e0 := Ext.refl w
 refine wp_seq ?_
 refine At.start ?_
 refine At.seq f0 1 [[]] [(2, .pointer (some ⟨w.heap.size, 0, none⟩))] (w.alloc (.cells #[.slice Ag0 g.ow.length cg0, .slice Ag1 g.pr.length cg1, .slice Ag2 g.mv.length cg2] 25 (0, 0))) [] (by kernel_rfl) trivial (fun act4 w1 hw2 f3 => ?_)
 clear f0
 have g5 := gr_alloc hw2
 have szw1 := g5.size
 have e7 := e0.gr g5 no_row
 clear e0
 have r8 := rg.gr g5 (fun _ h => by cases h)
 clear rg
 have r9 := rs.gr g5 (fun _ h => by cases h)
 clear rs
 have bx10 : Bx w1 (w.heap.size) [.slice Ag0 g.ow.length cg0, .slice Ag1 g.pr.length cg1, .slice Ag2 g.mv.length cg2] 25 := Bx.new hw2
 have := bx10.lt
 clear g5 hw2
 refine At.rd f3 2 [[], []] [(5, .slice none 0 0), (4, .slice none 0 0)] [] (by kernel_rfl) trivial (fun act12 f11 => ?_)
 clear f3
 refine At.done rfl ?_
 refine t_n ?_
 have f13 := f11.sub (r := [(5, .slice none 0 0), (4, .slice none 0 0), (2, .pointer (some ⟨w.heap.size, 0, none⟩)), (1, .slice As ls.length cs)]) ⟨rfl, rfl, rfl, rfl, trivial⟩
 clear f11
 refine wp_seq ?_
 refine At.start ?_
 refine At.rd f13 1 [[.ld (.slice Ag0 g.ow.length cg0), .ld (.slice Ag1 g.pr.length cg1), .ld (.slice Ag2 g.mv.length cg2)]] [(14, .agg #[.slice Ag0 g.ow.length cg0, .slice Ag1 g.pr.length cg1, .slice Ag2 g.mv.length cg2])] [(w1.cell? ⟨w.heap.size, 0, none⟩ = some (.slice Ag0 g.ow.length cg0)), (w1.cell? ⟨w.heap.size, 1, none⟩ = some (.slice Ag1 g.pr.length cg1)), (w1.cell? ⟨w.heap.size, 2, none⟩ = some (.slice Ag2 g.mv.length cg2))] (by kernel_rfl) ⟨(bx10.cell (i := 0) rfl), (bx10.cell (i := 1) rfl), (bx10.cell (i := 2) rfl), trivial⟩ (fun act15 f14 => ?_)
 clear f13
 refine At.call f14 32 #[.agg #[.slice Ag0 g.ow.length cg0, .slice Ag1 g.pr.length cg1, .slice Ag2 g.mv.length cg2]] (some 15) (by kernel_rfl) (isR_any (r8.wide (Nat.zero_le _) (by omega))) ?_
 rintro e_ w16 ⟨rfl, he⟩
 refine ⟨_, rfl, _, rfl, fun act17 f18 => ?_⟩
 clear f14
 have g19 := gr_ext he
 have szw16 := g19.size
 have e20 := e7.gr g19 no_row
 clear e7
 have r21 := r8.gr g19 (fun _ h => by cases h)
 clear r8
 have r22 := r9.gr g19 (fun _ h => by cases h)
 clear r9
 have bx23 := bx10.gr g19 (by simp)
 clear bx10
 clear g19 he
 refine At.rd f18 1 [[]] [(6, .bool (isR g))] [] (by kernel_rfl) trivial (fun act25 f24 => ?_)
 clear f18
 refine At.done rfl ?_
 refine t_n ?_
 have f26 := f24.sub (r := [(6, .bool (isR g)), (5, .slice none 0 0), (4, .slice none 0 0), (2, .pointer (some ⟨w.heap.size, 0, none⟩)), (1, .slice As ls.length cs)]) ⟨rfl, rfl, rfl, rfl, rfl, trivial⟩
 clear f24
 refine wp_seq ?_
 refine wp_seq ?_
 refine At.start ?_
 rcases Bool.eq_false_or_eq_true (!(isR g)) with h27 | h27
 ·have q28 : (isR g) = false := by first | exact Eq.mp (Bool.not_eq_true' _) h27 | exact Eq.mp (Bool.not_eq_false' _) h27 | simpa using h27
  refine At.rd f26 10 [[], [], [.as_ (.bool true)], [], [], [], [], [], [], []] [(25, .bool true), (24, undef), (23, undef), (22, undef), (21, undef), (20, undef), (19, undef), (18, .bool true), (17, .bool (!(isR g))), (16, .bool (isR g))] [((.bool (!(isR g)) : Value) = .bool true)] (by kernel_rfl) ⟨(congrArg Value.bool h27), trivial⟩ (fun act31 f30 => ?_)
  clear f26
  refine At.done rfl ?_
  refine t_n ?_
  have f32 := f30.sub (r := [(25, .bool true), (5, .slice none 0 0), (4, .slice none 0 0), (2, .pointer (some ⟨w.heap.size, 0, none⟩)), (1, .slice As ls.length cs)]) ⟨rfl, rfl, rfl, rfl, rfl, trivial⟩
  clear f30
  refine cond_T f32 rfl ?_
  refine wp_seq ?_
  refine At.start ?_
  refine At.rd f32 2 [[], []] [(5, .slice none 0 0), (4, .slice none 0 0)] [] (by kernel_rfl) trivial (fun act34 f33 => ?_)
  clear f32
  refine At.done rfl ?_
  refine t_n ?_
  have f35 := f33.sub (r := [(5, .slice none 0 0), (4, .slice none 0 0)]) ⟨rfl, rfl, trivial⟩
  clear f33
  refine wp_ret ?_
  refine t_r ?_
  refine ret_ f35 [] [.slice none 0 0, .slice none 0 0] [] (by kernel_rfl) trivial ?_
  exact ⟨none, 0, none, 0, [], [], rfl, e20, OwnR.nil, OwnR.nil, .inl ⟨by first | exact and_f1 (by assumption) | exact and_f2 (by omega), rfl, rfl⟩⟩
 ·have q36 : (isR g) = true := by first | exact Eq.mp (Bool.not_eq_true' _) h27 | exact Eq.mp (Bool.not_eq_false' _) h27 | simpa using h27
  refine At.rd f26 10 [[], [], [.as_ (.bool false)], [], [], [], [.ld (.slice Ag0 g.ow.length cg0)], [], [], []] [(25, .bool ((((ls.length : Nat) : Int) : Int) != ((g.ow.length : Nat) : Int))), (24, .bool ((((ls.length : Nat) : Int) : Int) != ((g.ow.length : Nat) : Int))), (23, .int .i64 (((g.ow.length : Nat) : Int))), (22, .slice Ag0 g.ow.length cg0), (21, .pointer (some ⟨w.heap.size, 0, none⟩)), (20, .int .i64 (((ls.length : Nat) : Int))), (19, .slice As ls.length cs), (18, .bool false), (17, .bool (!(isR g))), (16, .bool (isR g))] [((.bool (!(isR g)) : Value) = .bool false), (w16.cell? ⟨w.heap.size, 0, none⟩ = some (.slice Ag0 g.ow.length cg0))] (by kernel_rfl) ⟨(congrArg Value.bool h27), (bx23.cell (i := 0) rfl), trivial⟩ (fun act39 f38 => ?_)
  clear f26
  refine At.done rfl ?_
  refine t_n ?_
  have f40 := f38.sub (r := [(25, .bool ((((ls.length : Nat) : Int) : Int) != ((g.ow.length : Nat) : Int))), (5, .slice none 0 0), (4, .slice none 0 0), (2, .pointer (some ⟨w.heap.size, 0, none⟩)), (1, .slice As ls.length cs)]) ⟨rfl, rfl, rfl, rfl, rfl, trivial⟩
  clear f38
  refine cond_S f40 (t := (((ls.length : Nat) : Int) : Int) != ((g.ow.length : Nat) : Int)) rfl (fun h41 => ?_) (fun h41 => ?_)
  ·have q42 := bne_iff_ne.1 h41
   refine wp_seq ?_
   refine At.start ?_
   refine At.rd f40 2 [[], []] [(5, .slice none 0 0), (4, .slice none 0 0)] [] (by kernel_rfl) trivial (fun act44 f43 => ?_)
   clear f40
   refine At.done rfl ?_
   refine t_n ?_
   have f45 := f43.sub (r := [(5, .slice none 0 0), (4, .slice none 0 0)]) ⟨rfl, rfl, trivial⟩
   clear f43
   refine wp_ret ?_
   refine t_r ?_
   refine ret_ f45 [] [.slice none 0 0, .slice none 0 0] [] (by kernel_rfl) trivial ?_
   exact ⟨none, 0, none, 0, [], [], rfl, e20, OwnR.nil, OwnR.nil, .inl ⟨by first | exact and_f1 (by assumption) | exact and_f2 (by omega), rfl, rfl⟩⟩
  ·have q46 := bne_eq_false_iff_eq.1 h41
   refine wp_skip ?_
   refine t_n ?_
   have f47 := f40.sub (r := [(5, .slice none 0 0), (4, .slice none 0 0), (2, .pointer (some ⟨w.heap.size, 0, none⟩)), (1, .slice As ls.length cs)]) ⟨rfl, rfl, rfl, rfl, trivial⟩
   clear f40
   refine wp_seq ?_
   have hRR : (isR g && decide (ls.length = g.ow.length)) = true := and_t (by assumption) (by omega)
   have hG := isR_ok (right_yes2 hRR)
   have hln := right_len hRR
   have hn1 := hG.n1
   have hpl := hG.pl
   have hml := hG.ml
   refine At.start ?_
   refine At.rd f47 1 [[]] [(7, .slice none 0 0)] [] (by kernel_rfl) trivial (fun act49 f48 => ?_)
   clear f47
   refine At.done rfl ?_
   refine t_n ?_
   refine wp_seq ?_
   refine At.start ?_
   refine At.rd f48 1 [[]] [(8, .slice none 0 0)] [] (by kernel_rfl) trivial (fun act51 f50 => ?_)
   clear f48
   refine At.done rfl ?_
   refine t_n ?_
   refine wp_seq ?_
   refine wp_seq ?_
   refine At.start ?_
   refine At.rd f50 1 [[]] [(9, .int .i64 (0))] [] (by kernel_rfl) trivial (fun act53 f52 => ?_)
   clear f50
   refine At.done rfl ?_
   refine t_n ?_
   refine wp_block ?_
   have ow55 : OwnR w16 (Sx (w16.heap.size) []) none 0 3 ([] : List Int) := OwnR.nil
   have ow59 : OwnR w16 (Sx (w16.heap.size) [obk (none)]) none 0 3 ([] : List Int) := OwnR.nil
   have ow60 : OwnR w16 (Sx (w16.heap.size) [obk none]) none 0 3 ([] : List Int) := ow55.imp (fun g _ hs => ⟨by simp [obk], hs⟩)
   clear ow55
   have f64 := f52.as 8 (.slice none 0 0) (.slice none (([] : List Int).length) 0) rfl (slice_len (by first | rfl | omega | (simp; done) | (simp; omega)))
   clear f52
   have f65 := f64.as 7 (.slice none 0 0) (.slice none (([] : List Int).length) 0) rfl (slice_len (by first | rfl | omega | (simp; done) | (simp; omega)))
   clear f64
   have f63 := f65.sub (r := [(8, .slice none (([] : List Int).length) 0), (7, .slice none (([] : List Int).length) 0), (9, .int .i64 (0)), (5, .slice none 0 0), (4, .slice none 0 0), (2, .pointer (some ⟨w.heap.size, 0, none⟩)), (1, .slice As ls.length cs)]) ⟨rfl, rfl, rfl, rfl, rfl, rfl, rfl, trivial⟩
   refine loop_g (fun (m_ : Nat) a_ w_ => ∃ (i : Int) (xa : List Int) (A_56 : Option Addr) (c_57 : Nat) (xb : List Int) (A_61 : Option Addr) (c_62 : Nat), m_ = ((ls.length : Int) - i).toNat ∧ (Frm 99 a_ [(8, .slice A_61 xb.length c_62), (7, .slice A_56 xa.length c_57), (9, .int .i64 (i)), (5, .slice none 0 0), (4, .slice none 0 0), (2, .pointer (some ⟨w.heap.size, 0, none⟩)), (1, .slice As ls.length cs)]) ∧ (Ext w w_) ∧ (RdG w_ 0 w.heap.size Ag0 Ag1 Ag2 cg0 cg1 cg2 g) ∧ (RdR w_ 0 w.heap.size As (ls : List Tup)) ∧ (Bx w_ (w.heap.size) [.slice Ag0 g.ow.length cg0, .slice Ag1 g.pr.length cg1, .slice Ag2 g.mv.length cg2] 25) ∧ (OwnR w_ (Sx (w16.heap.size) [obk (A_61)]) A_56 c_57 3 (xa : List Int)) ∧ (OwnR w_ (Sx (w16.heap.size) [obk (A_56)]) A_61 c_62 3 (xb : List Int)) ∧ (0 ≤ i) ∧ (i ≤ (ls.length : Int)) ∧ (xa = evA ls i.toNat) ∧ (xb = evB g ls i.toNat) ∧ (w16.heap.size ≤ w_.heap.size)) _ ⟨0, ([] : List Int), none, 0, ([] : List Int), none, 0, rfl, f63, e20, r21, r22, bx23, ow60, ow59, (by omega), (by omega), rfl, rfl, (by omega)⟩ ?_
   clear f63 f65
   clear r21
   clear r22
   clear bx23
   clear ow60
   clear ow59
   clear e20
   intro m_ act66 w67 ⟨i, xa, A_56, c_57, xb, A_61, c_62, hm69, f70, e68, r71, r72, bx73, ow74, ow75, i76, i77, hxa, hxb, i78⟩
   have szw67 := e68.size
   have := bx73.lt
   have hal := evA_len ls i.toNat
   have hbl := evB_len g ls i.toNat
   rw [← hxa] at hal
   rw [← hxb] at hbl
   refine wp_seq ?_
   refine wp_seq ?_
   refine At.start ?_
   refine At.rd f70 4 [[], [], [], []] [(29, .bool (decide ((i : Int) < ((ls.length : Nat) : Int)))), (28, .int .i64 (((ls.length : Nat) : Int))), (27, .slice As ls.length cs), (26, .int .i64 (i))] [] (by kernel_rfl) trivial (fun act80 f79 => ?_)
   clear f70
   refine At.done rfl ?_
   refine t_n ?_
   have f81 := f79.sub (r := [(29, .bool (decide ((i : Int) < ((ls.length : Nat) : Int)))), (8, .slice A_61 xb.length c_62), (7, .slice A_56 xa.length c_57), (9, .int .i64 (i)), (5, .slice none 0 0), (4, .slice none 0 0), (2, .pointer (some ⟨w.heap.size, 0, none⟩)), (1, .slice As ls.length cs)]) ⟨rfl, rfl, rfl, rfl, rfl, rfl, rfl, rfl, trivial⟩
   clear f79
   refine cond_S f81 (t := decide ((i : Int) < ((ls.length : Nat) : Int))) rfl (fun h82 => ?_) (fun h82 => ?_)
   ·have q83 := of_decide_eq_true h82
    refine wp_skip ?_
    refine t_n ?_
    have f84 := f81.sub (r := [(8, .slice A_61 xb.length c_62), (7, .slice A_56 xa.length c_57), (9, .int .i64 (i)), (5, .slice none 0 0), (4, .slice none 0 0), (2, .pointer (some ⟨w.heap.size, 0, none⟩)), (1, .slice As ls.length cs)]) ⟨rfl, rfl, rfl, rfl, rfl, rfl, rfl, trivial⟩
    clear f81
    refine wp_seq ?_
    refine wp_block ?_
    refine wp_seq ?_
    refine At.start ?_
    refine At.rd f84 1 [[]] [(10, .int .i64 (-1))] [] (by kernel_rfl) trivial (fun act86 f85 => ?_)
    clear f84
    refine At.done rfl ?_
    refine t_n ?_
    refine wp_seq ?_
    refine wp_seq ?_
    refine At.start ?_
    obtain ⟨ad87, hA88, hb91, hc90, hc89⟩ := r72.get (i) (by omega) (by omega) (sz := 5) rfl
    refine At.rd f85 6 [[], [], [.ad ad87], [], [.ld (.bool ((gT ls i).top))], []] [(37, .bool (!((gT ls i).top))), (36, .bool ((gT ls i).top)), (35, .pointer (some (ad87.add ((i : Int).toNat * 5)))), (34, .pointer (some (ad87.add ((i : Int).toNat * 5)))), (33, .int .i64 (i)), (32, .slice As ls.length cs)] [(As = some ad87), (0 ≤ (i : Int)), ((i : Int) < (ls.length : Nat)), (w67.cell? (ad87.add ((i : Int).toNat * 5)) = some (.bool ((gT ls i).top)))] (by kernel_rfl) ⟨hA88, (by omega), (by omega), hc90, trivial⟩ (fun act93 f92 => ?_)
    clear f85
    refine At.done rfl ?_
    refine t_n ?_
    have f94 := f92.sub (r := [(37, .bool (!((gT ls i).top))), (10, .int .i64 (-1)), (8, .slice A_61 xb.length c_62), (7, .slice A_56 xa.length c_57), (9, .int .i64 (i)), (5, .slice none 0 0), (4, .slice none 0 0), (2, .pointer (some ⟨w.heap.size, 0, none⟩)), (1, .slice As ls.length cs)]) ⟨rfl, rfl, rfl, rfl, rfl, rfl, rfl, rfl, rfl, trivial⟩
    clear f92
    refine cond_S f94 (t := !((gT ls i).top)) rfl (fun h95 => ?_) (fun h95 => ?_)
    ·have q96 : ((gT ls i).top) = false := by first | exact Eq.mp (Bool.not_eq_true' _) h95 | exact Eq.mp (Bool.not_eq_false' _) h95 | simpa using h95
     refine wp_seq ?_
     refine At.start ?_
     refine At.rd f94 2 [[], []] [(39, .int .i64 (i)), (38, .slice A_56 xa.length c_57)] [] (by kernel_rfl) trivial (fun act99 f98 => ?_)
     clear f94
     refine At.seq f98 1 [[]] [(40, .slice (some ⟨w67.heap.size, 0, none⟩) 1 1)] (w67.alloc (.cells #[.int .i64 (i)] 3 (0, 0))) [] (by kernel_rfl) trivial (fun act103 w100 hw101 f102 => ?_)
     clear f98
     have g104 := gr_alloc hw101
     have szw100 := g104.size
     have e107 := e68.gr g104 no_row
     clear e68
     have r108 := r71.gr g104 (fun _ h => by cases h)
     clear r71
     have r109 := r72.gr g104 (fun _ h => by cases h)
     clear r72
     have bx110 := bx73.gr g104 (by simp)
     clear bx73
     have ow111 : OwnR w100 (Sx (w16.heap.size) [some (w67.heap.size), obk (A_61)]) A_56 c_57 3 (xa : List Int) := ow74.grA g104 (fun _ _ h => by cases h) (fun k hk hs => ⟨(fun e => by injection e; omega), hs.1, hs.2⟩)
     clear ow74
     have ow112 : OwnR w100 (Sx (w16.heap.size) [some (w67.heap.size), obk (A_56)]) A_61 c_62 3 (xb : List Int) := ow75.grA g104 (fun _ _ h => by cases h) (fun k hk hs => ⟨(fun e => by injection e; omega), hs.1, hs.2⟩)
     clear ow75
     have bx106 : Bx w100 (w67.heap.size) [.int .i64 (i)] 3 := Bx.new hw101
     have := bx106.lt
     clear g104 hw101
     have hl117 : (xa ++ ([i])).length = (xa).length + ([i] : List Int).length := List.length_append
     simp only [List.length_cons, List.length_nil] at hl117
     refine At.act f102 (appendR (α := Int) (t := 22) (d := 41) (n := xa.length) (m := 1) (cc := 1) (xs := xa) (ys := [i]) (bytes := 8) (by first | rfl | omega | (simp; done) | (simp; omega)) (by first | rfl | omega | (simp; done) | (simp; omega)) (by kernel_rfl) rfl (by kernel_rfl) ow111 (Bx.srcR (l := ([i] : List Int)) bx106 rfl) (by simp only [List.length_cons, List.length_nil]; omega) (by simp only [List.length_cons, List.length_nil]; omega)) ?_
     rintro d_ v_ w116 ⟨rfl, A113, c114, ha115⟩
     obtain rfl := ha115.val
     have g118 := ha115.gr
     refine ⟨_, rfl, fun act120 f119 => ?_⟩
     clear f102
     clear bx106
     have ow121 := ha115.own (Sx (w16.heap.size) [obk (A_61)]) (fun g _ hs => ⟨hs.2.1, hs.2.2⟩) ⟨ow112.ne_new, (show w16.heap.size ≤ w100.heap.size by omega)⟩
     have szw116 := g118.size
     have e122 := e107.gr g118 (fun k hk => by have := ow111.ge k hk; omega)
     clear e107
     have r123 := r108.gr g118 (fun k hk => by have := ow111.ge k hk; omega)
     clear r108
     have r124 := r109.gr g118 (fun k hk => by have := ow111.ge k hk; omega)
     clear r109
     have bx125 := bx110.gr g118 (fun e => by have := ow111.ge _ e; omega)
     clear bx110
     have ow126 : OwnR w116 (Sx (w16.heap.size) [some (w67.heap.size), obk (A113)]) A_61 c_62 3 (xb : List Int) := ow112.grA g118 (fun k hk => hk.2.1) (fun k hk hs => ⟨hs.1, own_repl ha115.at_ hs.2.1 hk, hs.2.2⟩)
     clear ow112
     clear ow111 g118 ha115
     refine At.rd f119 1 [[]] [(7, .slice A113 ((xa ++ ([i])).length) c114)] [] (by kernel_rfl) trivial (fun act128 f127 => ?_)
     clear f119
     refine At.done rfl ?_
     refine t_n ?_
     have f129 := f127.sub (r := [(7, .slice A113 ((xa ++ ([i])).length) c114), (10, .int .i64 (-1)), (8, .slice A_61 xb.length c_62), (9, .int .i64 (i)), (5, .slice none 0 0), (4, .slice none 0 0), (2, .pointer (some ⟨w.heap.size, 0, none⟩)), (1, .slice As ls.length cs)]) ⟨rfl, rfl, rfl, rfl, rfl, rfl, rfl, rfl, trivial⟩
     clear f127
     refine wp_seq ?_
     refine At.start ?_
     obtain ⟨ad130, hA131, _, _, hc132⟩ := RdI.get r123.ow (i) (by omega) (by omega)
     refine At.rd f129 6 [[], [.ld (.slice Ag0 g.ow.length cg0)], [], [.ad ad130], [.ld (.int .i64 (gI g.ow (i)))], []] [(47, .bool ((gI g.ow (i) : Int) == 0)), (46, .int .i64 (gI g.ow (i))), (45, .pointer (some (ad130.add ((i : Int).toNat * 1)))), (44, .int .i64 (i)), (43, .slice Ag0 g.ow.length cg0), (42, .pointer (some ⟨w.heap.size, 0, none⟩))] [(w116.cell? ⟨w.heap.size, 0, none⟩ = some (.slice Ag0 g.ow.length cg0)), (Ag0 = some ad130), (0 ≤ (i : Int)), ((i : Int) < (g.ow.length : Nat)), (w116.cell? (ad130.add ((i : Int).toNat * 1)) = some (.int .i64 (gI g.ow (i))))] (by kernel_rfl) ⟨(bx125.cell (i := 0) rfl), hA131, (by omega), (by omega), hc132, trivial⟩ (fun act134 f133 => ?_)
     clear f129
     refine At.done rfl ?_
     refine t_n ?_
     have f135 := f133.sub (r := [(47, .bool ((gI g.ow (i) : Int) == 0)), (7, .slice A113 ((xa ++ ([i])).length) c114), (10, .int .i64 (-1)), (8, .slice A_61 xb.length c_62), (9, .int .i64 (i)), (5, .slice none 0 0), (4, .slice none 0 0), (2, .pointer (some ⟨w.heap.size, 0, none⟩)), (1, .slice As ls.length cs)]) ⟨rfl, rfl, rfl, rfl, rfl, rfl, rfl, rfl, rfl, trivial⟩
     clear f133
     refine cond_S f135 (t := (gI g.ow (i) : Int) == 0) rfl (fun h136 => ?_) (fun h136 => ?_)
     ·have q137 := eq_of_beq h136
      refine wp_seq ?_
      have hne := hG.ne i (by omega) (by omega)
      have hmv := hG.mv i (by omega) (by omega)
      refine At.start ?_
      refine At.rd f135 3 [[.ld (.slice Ag0 g.ow.length cg0), .ld (.slice Ag1 g.pr.length cg1), .ld (.slice Ag2 g.mv.length cg2)], [], []] [(50, .int .i64 (i)), (49, .slice As ls.length cs), (48, .agg #[.slice Ag0 g.ow.length cg0, .slice Ag1 g.pr.length cg1, .slice Ag2 g.mv.length cg2])] [(w116.cell? ⟨w.heap.size, 0, none⟩ = some (.slice Ag0 g.ow.length cg0)), (w116.cell? ⟨w.heap.size, 1, none⟩ = some (.slice Ag1 g.pr.length cg1)), (w116.cell? ⟨w.heap.size, 2, none⟩ = some (.slice Ag2 g.mv.length cg2))] (by kernel_rfl) ⟨(bx125.cell (i := 0) rfl), (bx125.cell (i := 1) rfl), (bx125.cell (i := 2) rfl), trivial⟩ (fun act139 f138 => ?_)
      clear f135
      refine At.call f138 44 #[.agg #[.slice Ag0 g.ow.length cg0, .slice Ag1 g.pr.length cg1, .slice Ag2 g.mv.length cg2], .slice As ls.length cs, .int .i64 (i)] (some 51) (by kernel_rfl) (bestR_any (ls := ls) (at_ := i) (r123.wide (Nat.zero_le _) (by omega)) (r124.wide (Nat.zero_le _) (by omega)) hG (by omega) (by assumption) (by omega) (by omega)) ?_
      rintro e_ w140 ⟨rfl, he⟩
      refine ⟨_, rfl, _, rfl, fun act141 f142 => ?_⟩
      clear f138
      have g143 := gr_ext he
      have szw140 := g143.size
      have e144 := e122.gr g143 no_row
      clear e122
      have r145 := r123.gr g143 (fun _ h => by cases h)
      clear r123
      have r146 := r124.gr g143 (fun _ h => by cases h)
      clear r124
      have bx147 := bx125.gr g143 (by simp)
      clear bx125
      have ow148 := ow121.gr g143 (fun _ _ h => by cases h)
      clear ow121
      have ow149 := ow126.gr g143 (fun _ _ h => by cases h)
      clear ow126
      clear g143 he
      refine At.seq f142 1 [[]] [(11, .pointer (some ⟨w140.heap.size, 0, none⟩))] (w140.alloc (.cells #[.bool false, .int .i64 (0), .int .i64 (0), .int .i64 (0), .int .i64 (0)] 40 (0, 0))) [] (by kernel_rfl) trivial (fun act153 w150 hw151 f152 => ?_)
      clear f142
      have g154 := gr_alloc hw151
      have szw150 := g154.size
      have e156 := e144.gr g154 no_row
      clear e144
      have r157 := r145.gr g154 (fun _ h => by cases h)
      clear r145
      have r158 := r146.gr g154 (fun _ h => by cases h)
      clear r146
      have bx159 := bx147.gr g154 (by simp)
      clear bx147
      have ow160 : OwnR w150 (Sx (w16.heap.size) [some (w140.heap.size), obk (A_61)]) A113 c114 3 (xa ++ ([i]) : List Int) := ow148.grA g154 (fun _ _ h => by cases h) (fun k hk hs => ⟨(fun e => by injection e; omega), hs.1, hs.2⟩)
      clear ow148
      have ow161 : OwnR w150 (Sx (w16.heap.size) [some (w140.heap.size), some (w67.heap.size), obk (A113)]) A_61 c_62 3 (xb : List Int) := ow149.grA g154 (fun _ _ h => by cases h) (fun k hk hs => ⟨(fun e => by injection e; omega), hs.1, hs.2.1, hs.2.2⟩)
      clear ow149
      have bx162 : Bx w150 (w140.heap.size) [.bool false, .int .i64 (0), .int .i64 (0), .int .i64 (0), .int .i64 (0)] 40 := Bx.new hw151
      have := bx162.lt
      clear g154 hw151
      refine At.store f152 (t := 40) (b := w140.heap.size) (off := 0) (v := tupV ((bestB (upG g ls i) (gI g.ow i) (gL g.mv i)).1)) (by kernel_rfl) bx162 (by kernel_rfl) (fun act167 w163 g164 bx165 f166 => ?_)
      clear f152
      replace bx165 : Bx w163 (w140.heap.size) (tupC ((bestB (upG g ls i) (gI g.ow i) (gL g.mv i)).1)) 40 := bx165
      have szw163 := g164.size
      have e168 := e156.gr g164 (fun k h => by injection h; omega)
      clear e156
      have r169 := r157.gr g164 (fun k h => by injection h; omega)
      clear r157
      have r170 := r158.gr g164 (fun k h => by injection h; omega)
      clear r158
      have bx171 := bx159.gr g164 (fun h => by injection h; omega)
      clear bx159
      have ow172 := ow160.gr g164 (fun k hk => hk.1)
      clear ow160
      have ow173 := ow161.gr g164 (fun k hk => hk.1)
      clear ow161
      clear bx162 g164
      refine At.done rfl ?_
      refine t_n ?_
      have f174 := f166.sub (r := [(11, .pointer (some ⟨w140.heap.size, 0, none⟩)), (7, .slice A113 ((xa ++ ([i])).length) c114), (10, .int .i64 (-1)), (8, .slice A_61 xb.length c_62), (9, .int .i64 (i)), (5, .slice none 0 0), (4, .slice none 0 0), (2, .pointer (some ⟨w.heap.size, 0, none⟩)), (1, .slice As ls.length cs)]) ⟨rfl, rfl, rfl, rfl, rfl, rfl, rfl, rfl, rfl, trivial⟩
      clear f166
      refine wp_seq ?_
      refine At.start ?_
      obtain ⟨ad175, R178, C179, hA176, _, _, hc177, hC180, r181⟩ := RdII.get r169.mv (i) (by omega) (by omega)
      have hl182 := r181.len
      refine At.rd f174 8 [[], [.ld (.slice Ag2 g.mv.length cg2)], [], [.ad ad175], [.ld (.slice R178 ((gL g.mv (i)).length) C179)], [], [.as_ (.int .i64 ((((gL g.mv (i)).length : Nat) : Int) - 1))], []] [(12, .int .i64 ((((gL g.mv (i)).length : Nat) : Int) - 1)), (58, .int .i64 ((((gL g.mv (i)).length : Nat) : Int) - 1)), (57, .int .i64 ((((gL g.mv (i)).length : Nat) : Int))), (56, .slice R178 ((gL g.mv (i)).length) C179), (55, .pointer (some (ad175.add ((i : Int).toNat * 1)))), (54, .int .i64 (i)), (53, .slice Ag2 g.mv.length cg2), (52, .pointer (some ⟨w.heap.size, 2, none⟩))] [(w163.cell? ⟨w.heap.size, 2, none⟩ = some (.slice Ag2 g.mv.length cg2)), (Ag2 = some ad175), (0 ≤ (i : Int)), ((i : Int) < (g.mv.length : Nat)), (w163.cell? (ad175.add ((i : Int).toNat * 1)) = some (.slice R178 ((gL g.mv (i)).length) C179)), ((.int .i64 (IntKind.i64.wrap ((((gL g.mv (i)).length : Nat) : Int) - 1)) : Value) = .int .i64 ((((gL g.mv (i)).length : Nat) : Int) - 1))] (by kernel_rfl) ⟨(bx171.cell (i := 2) rfl), hA176, (by omega), (by omega), hc177, (w64 (by omega) (by omega)), trivial⟩ (fun act185 f184 => ?_)
      clear f174
      refine At.done rfl ?_
      refine t_n ?_
      have f186 := f184.sub (r := [(12, .int .i64 ((((gL g.mv (i)).length : Nat) : Int) - 1)), (11, .pointer (some ⟨w140.heap.size, 0, none⟩)), (7, .slice A113 ((xa ++ ([i])).length) c114), (10, .int .i64 (-1)), (8, .slice A_61 xb.length c_62), (9, .int .i64 (i)), (5, .slice none 0 0), (4, .slice none 0 0), (2, .pointer (some ⟨w.heap.size, 0, none⟩)), (1, .slice As ls.length cs)]) ⟨rfl, rfl, rfl, rfl, rfl, rfl, rfl, rfl, rfl, rfl, trivial⟩
      clear f184
      refine wp_block ?_
      have f187 := f186.sub (r := [(12, .int .i64 ((((gL g.mv (i)).length : Nat) : Int) - 1)), (10, .int .i64 (-1)), (11, .pointer (some ⟨w140.heap.size, 0, none⟩)), (7, .slice A113 ((xa ++ ([i])).length) c114), (8, .slice A_61 xb.length c_62), (9, .int .i64 (i)), (5, .slice none 0 0), (4, .slice none 0 0), (2, .pointer (some ⟨w.heap.size, 0, none⟩)), (1, .slice As ls.length cs)]) ⟨rfl, rfl, rfl, rfl, rfl, rfl, rfl, rfl, rfl, rfl, trivial⟩
      refine loop_g (fun (m_ : Nat) a_ w_ => ∃ (k : Int) (mv : Int), m_ = (k + 1).toNat ∧ (Frm 99 a_ [(12, .int .i64 (k)), (10, .int .i64 (mv)), (11, .pointer (some ⟨w140.heap.size, 0, none⟩)), (7, .slice A113 ((xa ++ ([i])).length) c114), (8, .slice A_61 xb.length c_62), (9, .int .i64 (i)), (5, .slice none 0 0), (4, .slice none 0 0), (2, .pointer (some ⟨w.heap.size, 0, none⟩)), (1, .slice As ls.length cs)]) ∧ (Ext w w_) ∧ (RdG w_ 0 w.heap.size Ag0 Ag1 Ag2 cg0 cg1 cg2 g) ∧ (RdR w_ 0 w.heap.size As (ls : List Tup)) ∧ (Bx w_ (w.heap.size) [.slice Ag0 g.ow.length cg0, .slice Ag1 g.pr.length cg1, .slice Ag2 g.mv.length cg2] 25) ∧ (OwnR w_ (Sx (w16.heap.size) [some (w140.heap.size), obk (A_61)]) A113 c114 3 (xa ++ ([i]) : List Int)) ∧ (OwnR w_ (Sx (w16.heap.size) [some (w140.heap.size), obk (A113)]) A_61 c_62 3 (xb : List Int)) ∧ (Bx w_ (w140.heap.size) (tupC ((bestB (upG g ls i) (gI g.ow i) (gL g.mv i)).1)) 40) ∧ (-1 ≤ k) ∧ (k < ((gL g.mv i).length : Int)) ∧ (FirstT (upG g ls i) (bestB (upG g ls i) (gI g.ow i) (gL g.mv i)).1 (gL g.mv i) k mv) ∧ (w16.heap.size ≤ w_.heap.size)) _ ⟨(((gL g.mv i).length : Nat) : Int) - 1, -1, rfl, f187, e168, r169, r170, bx171, ow172, (ow173.imp (fun g _ hs => ⟨hs.1, hs.2.2.1, hs.2.2.2⟩)), bx165, (by omega), (by omega), first_0, (by omega)⟩ ?_
      clear f187 f186
      clear r169
      clear r170
      clear bx171
      clear ow172
      clear ow173
      clear bx165
      clear e168
      intro m_ act188 w189 ⟨k, mv, hm191, f192, e190, r193, r194, bx195, ow196, ow197, bx198, i199, i200, hfi, i201⟩
      have szw189 := e190.size
      have := bx195.lt
      have := bx198.lt
      refine wp_seq ?_
      refine wp_seq ?_
      refine At.start ?_
      refine At.rd f192 2 [[], []] [(60, .bool (decide ((k : Int) ≥ 0))), (59, .int .i64 (k))] [] (by kernel_rfl) trivial (fun act203 f202 => ?_)
      clear f192
      refine At.done rfl ?_
      refine t_n ?_
      have f204 := f202.sub (r := [(60, .bool (decide ((k : Int) ≥ 0))), (12, .int .i64 (k)), (10, .int .i64 (mv)), (11, .pointer (some ⟨w140.heap.size, 0, none⟩)), (7, .slice A113 ((xa ++ ([i])).length) c114), (8, .slice A_61 xb.length c_62), (9, .int .i64 (i)), (5, .slice none 0 0), (4, .slice none 0 0), (2, .pointer (some ⟨w.heap.size, 0, none⟩)), (1, .slice As ls.length cs)]) ⟨rfl, rfl, rfl, rfl, rfl, rfl, rfl, rfl, rfl, rfl, rfl, trivial⟩
      clear f202
      refine cond_S f204 (t := decide ((k : Int) ≥ 0)) rfl (fun h205 => ?_) (fun h205 => ?_)
      ·have q206 := of_decide_eq_true h205
       refine wp_skip ?_
       refine t_n ?_
       have f207 := f204.sub (r := [(12, .int .i64 (k)), (10, .int .i64 (mv)), (11, .pointer (some ⟨w140.heap.size, 0, none⟩)), (7, .slice A113 ((xa ++ ([i])).length) c114), (8, .slice A_61 xb.length c_62), (9, .int .i64 (i)), (5, .slice none 0 0), (4, .slice none 0 0), (2, .pointer (some ⟨w.heap.size, 0, none⟩)), (1, .slice As ls.length cs)]) ⟨rfl, rfl, rfl, rfl, rfl, rfl, rfl, rfl, rfl, rfl, trivial⟩
       clear f204
       refine wp_seq ?_
       refine wp_block ?_
       have hmk := hmv k (by omega) (by omega)
       refine wp_seq (cut (fun a_ w_ => ∃ (b_208 : Nat), (Frm 99 a_ [(13, .pointer (some ⟨b_208, 0, none⟩)), (12, .int .i64 (k)), (10, .int .i64 (mv)), (11, .pointer (some ⟨w140.heap.size, 0, none⟩)), (7, .slice A113 ((xa ++ ([i])).length) c114), (8, .slice A_61 xb.length c_62), (9, .int .i64 (i)), (5, .slice none 0 0), (4, .slice none 0 0), (2, .pointer (some ⟨w.heap.size, 0, none⟩)), (1, .slice As ls.length cs)]) ∧ (Ext w w_) ∧ (RdG w_ 0 w.heap.size Ag0 Ag1 Ag2 cg0 cg1 cg2 g) ∧ (RdR w_ 0 w.heap.size As (ls : List Tup)) ∧ (Bx w_ (w.heap.size) [.slice Ag0 g.ow.length cg0, .slice Ag1 g.pr.length cg1, .slice Ag2 g.mv.length cg2] 25) ∧ (OwnR w_ (Sx (w16.heap.size) [some (w140.heap.size), obk (A_61), some (b_208)]) A113 c114 3 (xa ++ ([i]) : List Int)) ∧ (OwnR w_ (Sx (w16.heap.size) [some (w140.heap.size), obk (A113), some (b_208)]) A_61 c_62 3 (xb : List Int)) ∧ (Bx w_ (w140.heap.size) (tupC ((bestB (upG g ls i) (gI g.ow i) (gL g.mv i)).1)) 40) ∧ (Bx w_ (b_208) (tupC (upG g ls i (gI (gL g.mv (i)) (k)))) 40) ∧ (w189.heap.size ≤ b_208) ∧ (w189.heap.size ≤ w_.heap.size)) ?_ ?_)
       ·obtain ⟨ad209, hA210, _, _, hc211⟩ := RdI.get r193.pr (i) (by omega) (by omega)
        obtain ⟨ad212, R215, C216, hA213, _, _, hc214, hC217, r218⟩ := RdII.get r193.mv (i) (by omega) (by omega)
        have hl219 := r218.len
        obtain ⟨ad221, hA222, _, _, hc223⟩ := RdI.get r218 (k) (by omega) (by omega)
        obtain ⟨ad224, hA225, hb228, hc227, hc226⟩ := r194.get (gI (gL g.mv (i)) (k)) (by omega) (by omega) (sz := 5) rfl
        obtain ⟨Cs229, hCs230⟩ : ∃ c : List (Addr × Value), c = [(⟨w.heap.size, 0, none⟩, (.slice Ag0 g.ow.length cg0)), (⟨w.heap.size, 1, none⟩, (.slice Ag1 g.pr.length cg1)), (⟨w.heap.size, 2, none⟩, (.slice Ag2 g.mv.length cg2)), (⟨w.heap.size, 1, none⟩, (.slice Ag1 g.pr.length cg1)), ((ad209.add ((i : Int).toNat * 1)), (.int .i64 (gI g.pr (i)))), (⟨w.heap.size, 2, none⟩, (.slice Ag2 g.mv.length cg2)), ((ad212.add ((i : Int).toNat * 1)), (.slice R215 ((gL g.mv (i)).length) C216)), ((ad221.add ((k : Int).toNat * 1)), (.int .i64 (gI (gL g.mv (i)) (k)))), ((ad224.add ((gI (gL g.mv (i)) (k) : Int).toNat * 5)), (.bool ((gT ls (gI (gL g.mv (i)) (k))).top))), (((ad224.add ((gI (gL g.mv (i)) (k) : Int).toNat * 5)).add 1), (.int .i64 ((gT ls (gI (gL g.mv (i)) (k))).c0))), (((ad224.add ((gI (gL g.mv (i)) (k) : Int).toNat * 5)).add 2), (.int .i64 ((gT ls (gI (gL g.mv (i)) (k))).c1))), (((ad224.add ((gI (gL g.mv (i)) (k) : Int).toNat * 5)).add 3), (.int .i64 ((gT ls (gI (gL g.mv (i)) (k))).c2))), (((ad224.add ((gI (gL g.mv (i)) (k) : Int).toNat * 5)).add 4), (.int .i64 ((gT ls (gI (gL g.mv (i)) (k))).c3)))] := ⟨_, rfl⟩
        have hS231 : HoldsC Cs229 w189 := by rw [hCs230]; exact ⟨(bx195.cell (i := 0) rfl), (bx195.cell (i := 1) rfl), (bx195.cell (i := 2) rfl), (bx195.cell (i := 1) rfl), hc211, (bx195.cell (i := 2) rfl), hc214, hc223, hc227, (hc226 1 _ rfl), (hc226 2 _ rfl), (hc226 3 _ rfl), (hc226 4 _ rfl), trivial⟩
        refine AtH.start Cs229 20 #[false, false, false, false, false, false, false, false, false, false, false, false, false, false, false, false, false, false, false, false] (by kernel_rfl) rfl rfl (fun w233 hw234 => ?_)
        have g232 := gr_drew hw234
        have hS235 := hS231.gr g232
        have szw233 := g232.size
        have e236 := e190.gr g232 no_row
        clear e190
        have r237 := r193.gr g232 (fun _ h => by cases h)
        clear r193
        have r238 := r194.gr g232 (fun _ h => by cases h)
        clear r194
        have bx239 := bx195.gr g232 (by simp)
        clear bx195
        have ow240 := ow196.gr g232 (fun _ _ h => by cases h)
        clear ow196
        have ow241 := ow197.gr g232 (fun _ _ h => by cases h)
        clear ow197
        have bx242 := bx198.gr g232 (by simp)
        clear bx198
        have r243 := r218.gr g232 (fun _ h => by cases h)
        clear r218
        clear g232 hw234 hS231
        refine AtH.rd (by kernel_rfl) (fun d v c a w h => by cases d <;> exact h) hS235 [0, 1, 2, 3, 4, 5, 6, 7, 8, 9, 10, 11, 12, 13, 14, 15, 16] [[.ld (.slice Ag0 g.ow.length cg0), .ld (.slice Ag1 g.pr.length cg1), .ld (.slice Ag2 g.mv.length cg2)], [], [.ld (.slice Ag1 g.pr.length cg1)], [], [.ad ad209], [.ld (.int .i64 (gI g.pr (i)))], [], [], [.ld (.slice Ag2 g.mv.length cg2)], [], [.ad ad212], [.ld (.slice R215 ((gL g.mv (i)).length) C216)], [], [.ad ad221], [.ld (.int .i64 (gI (gL g.mv (i)) (k)))], [.ad ad224], [.ld (.bool ((gT ls (gI (gL g.mv (i)) (k))).top)), .ld (.int .i64 ((gT ls (gI (gL g.mv (i)) (k))).c0)), .ld (.int .i64 ((gT ls (gI (gL g.mv (i)) (k))).c1)), .ld (.int .i64 ((gT ls (gI (gL g.mv (i)) (k))).c2)), .ld (.int .i64 ((gT ls (gI (gL g.mv (i)) (k))).c3))]] [(79, tupV (gT ls (gI (gL g.mv (i)) (k)))), (78, .pointer (some (ad224.add ((gI (gL g.mv (i)) (k) : Int).toNat * 5)))), (77, .int .i64 (gI (gL g.mv (i)) (k))), (76, .pointer (some (ad221.add ((k : Int).toNat * 1)))), (75, .int .i64 (k)), (74, .slice R215 ((gL g.mv (i)).length) C216), (73, .pointer (some (ad212.add ((i : Int).toNat * 1)))), (72, .int .i64 (i)), (71, .slice Ag2 g.mv.length cg2), (70, .pointer (some ⟨w.heap.size, 2, none⟩)), (69, .slice As ls.length cs), (68, .int .i64 (gI g.pr (i))), (67, .pointer (some (ad209.add ((i : Int).toNat * 1)))), (66, .int .i64 (i)), (65, .slice Ag1 g.pr.length cg1), (64, .pointer (some ⟨w.heap.size, 1, none⟩)), (63, .agg #[.slice Ag0 g.ow.length cg0, .slice Ag1 g.pr.length cg1, .slice Ag2 g.mv.length cg2])] #[true, true, true, true, true, true, true, true, true, true, true, true, true, true, true, true, true, false, false, false] [(∃ j_ : Nat, Cs229[j_]? = some (⟨w.heap.size, 0, none⟩, (.slice Ag0 g.ow.length cg0))), (∃ j_ : Nat, Cs229[j_]? = some (⟨w.heap.size, 1, none⟩, (.slice Ag1 g.pr.length cg1))), (∃ j_ : Nat, Cs229[j_]? = some (⟨w.heap.size, 2, none⟩, (.slice Ag2 g.mv.length cg2))), (∃ j_ : Nat, Cs229[j_]? = some (⟨w.heap.size, 1, none⟩, (.slice Ag1 g.pr.length cg1))), (Ag1 = some ad209), (0 ≤ (i : Int)), ((i : Int) < (g.pr.length : Nat)), (∃ j_ : Nat, Cs229[j_]? = some ((ad209.add ((i : Int).toNat * 1)), (.int .i64 (gI g.pr (i))))), (∃ j_ : Nat, Cs229[j_]? = some (⟨w.heap.size, 2, none⟩, (.slice Ag2 g.mv.length cg2))), (Ag2 = some ad212), (0 ≤ (i : Int)), ((i : Int) < (g.mv.length : Nat)), (∃ j_ : Nat, Cs229[j_]? = some ((ad212.add ((i : Int).toNat * 1)), (.slice R215 ((gL g.mv (i)).length) C216))), (R215 = some ad221), (0 ≤ (k : Int)), ((k : Int) < ((gL g.mv (i)).length : Nat)), (∃ j_ : Nat, Cs229[j_]? = some ((ad221.add ((k : Int).toNat * 1)), (.int .i64 (gI (gL g.mv (i)) (k))))), (As = some ad224), (0 ≤ (gI (gL g.mv (i)) (k) : Int)), ((gI (gL g.mv (i)) (k) : Int) < (ls.length : Nat)), (∃ j_ : Nat, Cs229[j_]? = some ((ad224.add ((gI (gL g.mv (i)) (k) : Int).toNat * 5)), (.bool ((gT ls (gI (gL g.mv (i)) (k))).top)))), (∃ j_ : Nat, Cs229[j_]? = some (((ad224.add ((gI (gL g.mv (i)) (k) : Int).toNat * 5)).add 1), (.int .i64 ((gT ls (gI (gL g.mv (i)) (k))).c0)))), (∃ j_ : Nat, Cs229[j_]? = some (((ad224.add ((gI (gL g.mv (i)) (k) : Int).toNat * 5)).add 2), (.int .i64 ((gT ls (gI (gL g.mv (i)) (k))).c1)))), (∃ j_ : Nat, Cs229[j_]? = some (((ad224.add ((gI (gL g.mv (i)) (k) : Int).toNat * 5)).add 3), (.int .i64 ((gT ls (gI (gL g.mv (i)) (k))).c2)))), (∃ j_ : Nat, Cs229[j_]? = some (((ad224.add ((gI (gL g.mv (i)) (k) : Int).toNat * 5)).add 4), (.int .i64 ((gT ls (gI (gL g.mv (i)) (k))).c3))))] 3 f207 (by kernel_rfl) ⟨⟨0, by rw [hCs230]; rfl⟩, ⟨1, by rw [hCs230]; rfl⟩, ⟨2, by rw [hCs230]; rfl⟩, ⟨3, by rw [hCs230]; rfl⟩, hA210, (by omega), (by omega), ⟨4, by rw [hCs230]; rfl⟩, ⟨5, by rw [hCs230]; rfl⟩, hA213, (by omega), (by omega), ⟨6, by rw [hCs230]; rfl⟩, hA222, (by omega), (by omega), ⟨7, by rw [hCs230]; rfl⟩, hA225, (by omega), (by omega), ⟨8, by rw [hCs230]; rfl⟩, ⟨9, by rw [hCs230]; rfl⟩, ⟨10, by rw [hCs230]; rfl⟩, ⟨11, by rw [hCs230]; rfl⟩, ⟨12, by rw [hCs230]; rfl⟩, trivial⟩ (fun act245 f244 => ?_)
        clear f207
        refine AtH.all [17, 18] 2 (by kernel_rfl) (by simp) ⟨?_, ?_, trivial⟩
        ·refine OneH.call f244 48 #[.agg #[.slice Ag0 g.ow.length cg0, .slice Ag1 g.pr.length cg1, .slice Ag2 g.mv.length cg2], .int .i64 (gI g.pr (i)), tupV (gT ls (gI (gL g.mv (i)) (k)))] (some 80) #[true, true, true, true, true, true, true, true, true, true, true, true, true, true, true, true, true, true, false, false] (by kernel_rfl) (by kernel_rfl) (upR_any (p := gI g.pr (i)) (t := (gT ls (gI (gL g.mv (i)) (k)))) (r237.wide (Nat.zero_le _) (by omega)) (by first | assumption | exact hok _)) ?_
         rintro e_ w247 ⟨rfl, he⟩
         refine ⟨_, rfl, _, rfl, fun act248 f249 => ?_⟩
         clear f244
         have g250 := gr_ext he
         have hS246 := hS235.gr g250
         have szw247 := g250.size
         have e251 := e236.gr g250 no_row
         clear e236
         have r252 := r237.gr g250 (fun _ h => by cases h)
         clear r237
         have r253 := r238.gr g250 (fun _ h => by cases h)
         clear r238
         have bx254 := bx239.gr g250 (by simp)
         clear bx239
         have ow255 := ow240.gr g250 (fun _ _ h => by cases h)
         clear ow240
         have ow256 := ow241.gr g250 (fun _ _ h => by cases h)
         clear ow241
         have bx257 := bx242.gr g250 (by simp)
         clear bx242
         have r258 := r243.gr g250 (fun _ h => by cases h)
         clear r243
         clear g250 he
         refine ⟨hS246, ?_⟩
         refine AtH.all [18] 1 (by kernel_rfl) (by simp) ⟨?_, trivial⟩
         refine OneH.seq f249 [[]] [(13, .pointer (some ⟨w247.heap.size, 0, none⟩))] (w247.alloc (.cells #[.bool false, .int .i64 (0), .int .i64 (0), .int .i64 (0), .int .i64 (0)] 40 (0, 0))) [] #[true, true, true, true, true, true, true, true, true, true, true, true, true, true, true, true, true, true, true, false] (by kernel_rfl) (by kernel_rfl) (by kernel_rfl) trivial (fun act263 w260 hw261 f262 => ?_)
         clear f249
         have g264 := gr_alloc hw261
         have hS259 := hS246.gr g264
         have szw260 := g264.size
         have e266 := e251.gr g264 no_row
         clear e251
         have r267 := r252.gr g264 (fun _ h => by cases h)
         clear r252
         have r268 := r253.gr g264 (fun _ h => by cases h)
         clear r253
         have bx269 := bx254.gr g264 (by simp)
         clear bx254
         have ow270 : OwnR w260 (Sx (w16.heap.size) [some (w247.heap.size), some (w140.heap.size), obk (A_61)]) A113 c114 3 (xa ++ ([i]) : List Int) := ow255.grA g264 (fun _ _ h => by cases h) (fun k hk hs => ⟨(fun e => by injection e; omega), hs.1, hs.2.1, hs.2.2⟩)
         clear ow255
         have ow271 : OwnR w260 (Sx (w16.heap.size) [some (w247.heap.size), some (w140.heap.size), obk (A113)]) A_61 c_62 3 (xb : List Int) := ow256.grA g264 (fun _ _ h => by cases h) (fun k hk hs => ⟨(fun e => by injection e; omega), hs.1, hs.2.1, hs.2.2⟩)
         clear ow256
         have bx272 := bx257.gr g264 (by simp)
         clear bx257
         have r273 := r258.gr g264 (fun _ h => by cases h)
         clear r258
         have bx274 : Bx w260 (w247.heap.size) [.bool false, .int .i64 (0), .int .i64 (0), .int .i64 (0), .int .i64 (0)] 40 := Bx.new hw261
         have := bx274.lt
         clear g264 hw261
         refine ⟨hS259, ?_⟩
         refine AtH.all [19] 0 (by kernel_rfl) (by simp) ⟨?_, trivial⟩
         refine OneH.store f262 (t := 40) (b := w247.heap.size) (off := 0) (v := tupV (upG g ls i (gI (gL g.mv (i)) (k)))) #[true, true, true, true, true, true, true, true, true, true, true, true, true, true, true, true, true, true, true, true] (by kernel_rfl) (by kernel_rfl) bx274 (by kernel_rfl) (fun act280 w276 g277 bx278 f279 => ?_)
         clear f262
         replace bx278 : Bx w276 (w247.heap.size) (tupC (upG g ls i (gI (gL g.mv (i)) (k)))) 40 := bx278
         have hS275 := hS259.gr' g277 (by rw [hCs230]; exact ⟨(by simp only [add_block]; omega), (by simp only [add_block]; omega), (by simp only [add_block]; omega), (by simp only [add_block]; omega), (by simp only [add_block]; omega), (by simp only [add_block]; omega), (by simp only [add_block]; omega), (by simp only [add_block]; omega), (by simp only [add_block]; omega), (by simp only [add_block]; omega), (by simp only [add_block]; omega), (by simp only [add_block]; omega), (by simp only [add_block]; omega), trivial⟩)
         have szw276 := g277.size
         have e281 := e266.gr g277 (fun k h => by injection h; omega)
         clear e266
         have r282 := r267.gr g277 (fun k h => by injection h; omega)
         clear r267
         have r283 := r268.gr g277 (fun k h => by injection h; omega)
         clear r268
         have bx284 := bx269.gr g277 (fun h => by injection h; omega)
         clear bx269
         have ow285 := ow270.gr g277 (fun k hk => hk.1)
         clear ow270
         have ow286 := ow271.gr g277 (fun k hk => hk.1)
         clear ow271
         have bx287 := bx272.gr g277 (fun h => by injection h; omega)
         clear bx272
         have r288 := r273.gr g277 (fun k h => by injection h; omega)
         clear r273
         clear bx274 g277
         refine ⟨hS275, ?_⟩
         refine AtH.done (by kernel_rfl) ?_
         clear hS275
         refine t_n ?_
         have f289 := f279.sub (r := [(13, .pointer (some ⟨w247.heap.size, 0, none⟩)), (12, .int .i64 (k)), (10, .int .i64 (mv)), (11, .pointer (some ⟨w140.heap.size, 0, none⟩)), (7, .slice A113 ((xa ++ ([i])).length) c114), (8, .slice A_61 xb.length c_62), (9, .int .i64 (i)), (5, .slice none 0 0), (4, .slice none 0 0), (2, .pointer (some ⟨w.heap.size, 0, none⟩)), (1, .slice As ls.length cs)]) ⟨rfl, rfl, rfl, rfl, rfl, rfl, rfl, rfl, rfl, rfl, rfl, trivial⟩
         exact ⟨w247.heap.size, f289, e281, r282, r283, bx284, (ow285.imp (fun g _ hs => ⟨hs.2.1, hs.2.2.1, hs.1, (by have := Sx_base hs; show w16.heap.size ≤ g; omega)⟩)), (ow286.imp (fun g _ hs => ⟨hs.2.1, hs.2.2.1, hs.1, (by have := Sx_base hs; show w16.heap.size ≤ g; omega)⟩)), bx287, bx278, (by omega), (by omega)⟩
        ·refine OneH.seq f244 [[]] [(13, .pointer (some ⟨w233.heap.size, 0, none⟩))] (w233.alloc (.cells #[.bool false, .int .i64 (0), .int .i64 (0), .int .i64 (0), .int .i64 (0)] 40 (0, 0))) [] #[true, true, true, true, true, true, true, true, true, true, true, true, true, true, true, true, true, false, true, false] (by kernel_rfl) (by kernel_rfl) (by kernel_rfl) trivial (fun act294 w291 hw292 f293 => ?_)
         clear f244
         have g295 := gr_alloc hw292
         have hS290 := hS235.gr g295
         have szw291 := g295.size
         have e297 := e236.gr g295 no_row
         clear e236
         have r298 := r237.gr g295 (fun _ h => by cases h)
         clear r237
         have r299 := r238.gr g295 (fun _ h => by cases h)
         clear r238
         have bx300 := bx239.gr g295 (by simp)
         clear bx239
         have ow301 : OwnR w291 (Sx (w16.heap.size) [some (w233.heap.size), some (w140.heap.size), obk (A_61)]) A113 c114 3 (xa ++ ([i]) : List Int) := ow240.grA g295 (fun _ _ h => by cases h) (fun k hk hs => ⟨(fun e => by injection e; omega), hs.1, hs.2.1, hs.2.2⟩)
         clear ow240
         have ow302 : OwnR w291 (Sx (w16.heap.size) [some (w233.heap.size), some (w140.heap.size), obk (A113)]) A_61 c_62 3 (xb : List Int) := ow241.grA g295 (fun _ _ h => by cases h) (fun k hk hs => ⟨(fun e => by injection e; omega), hs.1, hs.2.1, hs.2.2⟩)
         clear ow241
         have bx303 := bx242.gr g295 (by simp)
         clear bx242
         have r304 := r243.gr g295 (fun _ h => by cases h)
         clear r243
         have bx305 : Bx w291 (w233.heap.size) [.bool false, .int .i64 (0), .int .i64 (0), .int .i64 (0), .int .i64 (0)] 40 := Bx.new hw292
         have := bx305.lt
         clear g295 hw292
         refine ⟨hS290, ?_⟩
         refine AtH.all [17] 1 (by kernel_rfl) (by simp) ⟨?_, trivial⟩
         refine OneH.call f293 48 #[.agg #[.slice Ag0 g.ow.length cg0, .slice Ag1 g.pr.length cg1, .slice Ag2 g.mv.length cg2], .int .i64 (gI g.pr (i)), tupV (gT ls (gI (gL g.mv (i)) (k)))] (some 80) #[true, true, true, true, true, true, true, true, true, true, true, true, true, true, true, true, true, true, true, false] (by kernel_rfl) (by kernel_rfl) (upR_any (p := gI g.pr (i)) (t := (gT ls (gI (gL g.mv (i)) (k)))) (r298.wide (Nat.zero_le _) (by omega)) (by first | assumption | exact hok _)) ?_
         rintro e_ w307 ⟨rfl, he⟩
         refine ⟨_, rfl, _, rfl, fun act308 f309 => ?_⟩
         clear f293
         have g310 := gr_ext he
         have hS306 := hS290.gr g310
         have szw307 := g310.size
         have e311 := e297.gr g310 no_row
         clear e297
         have r312 := r298.gr g310 (fun _ h => by cases h)
         clear r298
         have r313 := r299.gr g310 (fun _ h => by cases h)
         clear r299
         have bx314 := bx300.gr g310 (by simp)
         clear bx300
         have ow315 := ow301.gr g310 (fun _ _ h => by cases h)
         clear ow301
         have ow316 := ow302.gr g310 (fun _ _ h => by cases h)
         clear ow302
         have bx317 := bx303.gr g310 (by simp)
         clear bx303
         have r318 := r304.gr g310 (fun _ h => by cases h)
         clear r304
         have bx319 := bx305.gr g310 (by simp)
         clear bx305
         clear g310 he
         refine ⟨hS306, ?_⟩
         refine AtH.all [19] 0 (by kernel_rfl) (by simp) ⟨?_, trivial⟩
         refine OneH.store f309 (t := 40) (b := w233.heap.size) (off := 0) (v := tupV (upG g ls i (gI (gL g.mv (i)) (k)))) #[true, true, true, true, true, true, true, true, true, true, true, true, true, true, true, true, true, true, true, true] (by kernel_rfl) (by kernel_rfl) bx319 (by kernel_rfl) (fun act325 w321 g322 bx323 f324 => ?_)
         clear f309
         replace bx323 : Bx w321 (w233.heap.size) (tupC (upG g ls i (gI (gL g.mv (i)) (k)))) 40 := bx323
         have hS320 := hS306.gr' g322 (by rw [hCs230]; exact ⟨(by simp only [add_block]; omega), (by simp only [add_block]; omega), (by simp only [add_block]; omega), (by simp only [add_block]; omega), (by simp only [add_block]; omega), (by simp only [add_block]; omega), (by simp only [add_block]; omega), (by simp only [add_block]; omega), (by simp only [add_block]; omega), (by simp only [add_block]; omega), (by simp only [add_block]; omega), (by simp only [add_block]; omega), (by simp only [add_block]; omega), trivial⟩)
         have szw321 := g322.size
         have e326 := e311.gr g322 (fun k h => by injection h; omega)
         clear e311
         have r327 := r312.gr g322 (fun k h => by injection h; omega)
         clear r312
         have r328 := r313.gr g322 (fun k h => by injection h; omega)
         clear r313
         have bx329 := bx314.gr g322 (fun h => by injection h; omega)
         clear bx314
         have ow330 := ow315.gr g322 (fun k hk => hk.1)
         clear ow315
         have ow331 := ow316.gr g322 (fun k hk => hk.1)
         clear ow316
         have bx332 := bx317.gr g322 (fun h => by injection h; omega)
         clear bx317
         have r333 := r318.gr g322 (fun k h => by injection h; omega)
         clear r318
         clear bx319 g322
         refine ⟨hS320, ?_⟩
         refine AtH.done (by kernel_rfl) ?_
         clear hS320
         refine t_n ?_
         have f334 := f324.sub (r := [(13, .pointer (some ⟨w233.heap.size, 0, none⟩)), (12, .int .i64 (k)), (10, .int .i64 (mv)), (11, .pointer (some ⟨w140.heap.size, 0, none⟩)), (7, .slice A113 ((xa ++ ([i])).length) c114), (8, .slice A_61 xb.length c_62), (9, .int .i64 (i)), (5, .slice none 0 0), (4, .slice none 0 0), (2, .pointer (some ⟨w.heap.size, 0, none⟩)), (1, .slice As ls.length cs)]) ⟨rfl, rfl, rfl, rfl, rfl, rfl, rfl, rfl, rfl, rfl, rfl, trivial⟩
         exact ⟨w233.heap.size, f334, e326, r327, r328, bx329, (ow330.imp (fun g _ hs => ⟨hs.2.1, hs.2.2.1, hs.1, (by have := Sx_base hs; show w16.heap.size ≤ g; omega)⟩)), (ow331.imp (fun g _ hs => ⟨hs.2.1, hs.2.2.1, hs.1, (by have := Sx_base hs; show w16.heap.size ≤ g; omega)⟩)), bx332, bx323, (by omega), (by omega)⟩
       ·clear r193
        clear r194
        clear bx195
        clear ow196
        clear ow197
        clear bx198
        clear f207 e190
        intro act335 w336 ⟨b_208, f337, e338, r339, r340, bx341, ow342, ow343, bx344, bx345, hb346, szz347⟩
        have szw336 := e338.size
        have := bx341.lt
        have := bx344.lt
        have := bx345.lt
        refine wp_seq ?_
        refine At.start ?_
        refine At.rd f337 2 [[.ld (.bool ((upG g ls i (gI (gL g.mv (i)) (k))).top)), .ld (.int .i64 ((upG g ls i (gI (gL g.mv (i)) (k))).c0)), .ld (.int .i64 ((upG g ls i (gI (gL g.mv (i)) (k))).c1)), .ld (.int .i64 ((upG g ls i (gI (gL g.mv (i)) (k))).c2)), .ld (.int .i64 ((upG g ls i (gI (gL g.mv (i)) (k))).c3))], [.ld (.bool ((bestB (upG g ls i) (gI g.ow i) (gL g.mv i)).1.top)), .ld (.int .i64 ((bestB (upG g ls i) (gI g.ow i) (gL g.mv i)).1.c0)), .ld (.int .i64 ((bestB (upG g ls i) (gI g.ow i) (gL g.mv i)).1.c1)), .ld (.int .i64 ((bestB (upG g ls i) (gI g.ow i) (gL g.mv i)).1.c2)), .ld (.int .i64 ((bestB (upG g ls i) (gI g.ow i) (gL g.mv i)).1.c3))]] [(82, tupV ((bestB (upG g ls i) (gI g.ow i) (gL g.mv i)).1)), (81, tupV (upG g ls i (gI (gL g.mv (i)) (k))))] [(w336.cell? ⟨b_208, 0, none⟩ = some (.bool ((upG g ls i (gI (gL g.mv (i)) (k))).top))), (w336.cell? ⟨b_208, 1, none⟩ = some (.int .i64 ((upG g ls i (gI (gL g.mv (i)) (k))).c0))), (w336.cell? ⟨b_208, 2, none⟩ = some (.int .i64 ((upG g ls i (gI (gL g.mv (i)) (k))).c1))), (w336.cell? ⟨b_208, 3, none⟩ = some (.int .i64 ((upG g ls i (gI (gL g.mv (i)) (k))).c2))), (w336.cell? ⟨b_208, 4, none⟩ = some (.int .i64 ((upG g ls i (gI (gL g.mv (i)) (k))).c3))), (w336.cell? ⟨w140.heap.size, 0, none⟩ = some (.bool ((bestB (upG g ls i) (gI g.ow i) (gL g.mv i)).1.top))), (w336.cell? ⟨w140.heap.size, 1, none⟩ = some (.int .i64 ((bestB (upG g ls i) (gI g.ow i) (gL g.mv i)).1.c0))), (w336.cell? ⟨w140.heap.size, 2, none⟩ = some (.int .i64 ((bestB (upG g ls i) (gI g.ow i) (gL g.mv i)).1.c1))), (w336.cell? ⟨w140.heap.size, 3, none⟩ = some (.int .i64 ((bestB (upG g ls i) (gI g.ow i) (gL g.mv i)).1.c2))), (w336.cell? ⟨w140.heap.size, 4, none⟩ = some (.int .i64 ((bestB (upG g ls i) (gI g.ow i) (gL g.mv i)).1.c3)))] (by kernel_rfl) ⟨(bx345.cell (i := 0) rfl), (bx345.cell (i := 1) rfl), (bx345.cell (i := 2) rfl), (bx345.cell (i := 3) rfl), (bx345.cell (i := 4) rfl), (bx344.cell (i := 0) rfl), (bx344.cell (i := 1) rfl), (bx344.cell (i := 2) rfl), (bx344.cell (i := 3) rfl), (bx344.cell (i := 4) rfl), trivial⟩ (fun act350 f349 => ?_)
        clear f337
        refine At.call f349 24 #[tupV (upG g ls i (gI (gL g.mv (i)) (k))), tupV ((bestB (upG g ls i) (gI g.ow i) (gL g.mv i)).1), .int .i64 (0)] (some 83) (by kernel_rfl) (cmpR_any (a := (upG g ls i (gI (gL g.mv (i)) (k)))) (b := (bestB (upG g ls i) (gI g.ow i) (gL g.mv i)).1) (p := 0)) ?_
        rintro e_ w351 ⟨rfl, he⟩
        have := cmp_rng (upG g ls i (gI (gL g.mv (i)) (k))) ((bestB (upG g ls i) (gI g.ow i) (gL g.mv i)).1) 0
        refine ⟨_, rfl, _, rfl, fun act352 f353 => ?_⟩
        clear f349
        have g354 := gr_ext he
        have szw351 := g354.size
        have e355 := e338.gr g354 no_row
        clear e338
        have r356 := r339.gr g354 (fun _ h => by cases h)
        clear r339
        have r357 := r340.gr g354 (fun _ h => by cases h)
        clear r340
        have bx358 := bx341.gr g354 (by simp)
        clear bx341
        have ow359 := ow342.gr g354 (fun _ _ h => by cases h)
        clear ow342
        have ow360 := ow343.gr g354 (fun _ _ h => by cases h)
        clear ow343
        have bx361 := bx344.gr g354 (by simp)
        clear bx344
        have bx362 := bx345.gr g354 (by simp)
        clear bx345
        clear g354 he
        refine At.rd f353 1 [[]] [(84, .bool ((cmpT (upG g ls i (gI (gL g.mv (i)) (k))) ((bestB (upG g ls i) (gI g.ow i) (gL g.mv i)).1) 0 : Int) == 0))] [] (by kernel_rfl) trivial (fun act364 f363 => ?_)
        clear f353
        refine At.done rfl ?_
        refine t_n ?_
        have f365 := f363.sub (r := [(84, .bool ((cmpT (upG g ls i (gI (gL g.mv (i)) (k))) ((bestB (upG g ls i) (gI g.ow i) (gL g.mv i)).1) 0 : Int) == 0)), (12, .int .i64 (k)), (10, .int .i64 (mv)), (11, .pointer (some ⟨w140.heap.size, 0, none⟩)), (7, .slice A113 ((xa ++ ([i])).length) c114), (8, .slice A_61 xb.length c_62), (9, .int .i64 (i)), (5, .slice none 0 0), (4, .slice none 0 0), (2, .pointer (some ⟨w.heap.size, 0, none⟩)), (1, .slice As ls.length cs)]) ⟨rfl, rfl, rfl, rfl, rfl, rfl, rfl, rfl, rfl, rfl, rfl, trivial⟩
        clear f363
        refine cond_S f365 (t := (cmpT (upG g ls i (gI (gL g.mv (i)) (k))) ((bestB (upG g ls i) (gI g.ow i) (gL g.mv i)).1) 0 : Int) == 0) rfl (fun h366 => ?_) (fun h366 => ?_)
        ·have q367 := eq_of_beq h366
         refine At.start ?_
         obtain ⟨ad368, R371, C372, hA369, _, _, hc370, hC373, r374⟩ := RdII.get r356.mv (i) (by omega) (by omega)
         have hl375 := r374.len
         obtain ⟨ad377, hA378, _, _, hc379⟩ := RdI.get r374 (k) (by omega) (by omega)
         refine At.rd f365 9 [[], [.ld (.slice Ag2 g.mv.length cg2)], [], [.ad ad368], [.ld (.slice R371 ((gL g.mv (i)).length) C372)], [], [.ad ad377], [.ld (.int .i64 (gI (gL g.mv (i)) (k)))], []] [(10, .int .i64 (gI (gL g.mv (i)) (k))), (92, .int .i64 (gI (gL g.mv (i)) (k))), (91, .pointer (some (ad377.add ((k : Int).toNat * 1)))), (90, .int .i64 (k)), (89, .slice R371 ((gL g.mv (i)).length) C372), (88, .pointer (some (ad368.add ((i : Int).toNat * 1)))), (87, .int .i64 (i)), (86, .slice Ag2 g.mv.length cg2), (85, .pointer (some ⟨w.heap.size, 2, none⟩))] [(w351.cell? ⟨w.heap.size, 2, none⟩ = some (.slice Ag2 g.mv.length cg2)), (Ag2 = some ad368), (0 ≤ (i : Int)), ((i : Int) < (g.mv.length : Nat)), (w351.cell? (ad368.add ((i : Int).toNat * 1)) = some (.slice R371 ((gL g.mv (i)).length) C372)), (R371 = some ad377), (0 ≤ (k : Int)), ((k : Int) < ((gL g.mv (i)).length : Nat)), (w351.cell? (ad377.add ((k : Int).toNat * 1)) = some (.int .i64 (gI (gL g.mv (i)) (k))))] (by kernel_rfl) ⟨(bx358.cell (i := 2) rfl), hA369, (by omega), (by omega), hc370, hA378, (by omega), (by omega), hc379, trivial⟩ (fun act381 f380 => ?_)
         clear f365
         refine At.done rfl ?_
         refine b_n ?_
         refine t_n ?_
         have f382 := f380.sub (r := [(10, .int .i64 (gI (gL g.mv (i)) (k))), (12, .int .i64 (k)), (11, .pointer (some ⟨w140.heap.size, 0, none⟩)), (7, .slice A113 ((xa ++ ([i])).length) c114), (8, .slice A_61 xb.length c_62), (9, .int .i64 (i)), (5, .slice none 0 0), (4, .slice none 0 0), (2, .pointer (some ⟨w.heap.size, 0, none⟩)), (1, .slice As ls.length cs)]) ⟨rfl, rfl, rfl, rfl, rfl, rfl, rfl, rfl, rfl, rfl, trivial⟩
         clear f380
         refine At.start ?_
         refine At.rd f382 3 [[], [.as_ (.int .i64 (k - 1))], []] [(12, .int .i64 (k - 1)), (62, .int .i64 (k - 1)), (61, .int .i64 (k))] [((.int .i64 (IntKind.i64.wrap (k - 1)) : Value) = .int .i64 (k - 1))] (by kernel_rfl) ⟨(w64 (by omega) (by omega)), trivial⟩ (fun act384 f383 => ?_)
         clear f382
         refine At.done rfl ?_
         refine t_n ?_
         have f385 := f383.sub (r := [(12, .int .i64 (k - 1)), (10, .int .i64 (gI (gL g.mv (i)) (k))), (11, .pointer (some ⟨w140.heap.size, 0, none⟩)), (7, .slice A113 ((xa ++ ([i])).length) c114), (8, .slice A_61 xb.length c_62), (9, .int .i64 (i)), (5, .slice none 0 0), (4, .slice none 0 0), (2, .pointer (some ⟨w.heap.size, 0, none⟩)), (1, .slice As ls.length cs)]) ⟨rfl, rfl, rfl, rfl, rfl, rfl, rfl, rfl, rfl, rfl, trivial⟩
         exact ⟨_, (by omega), (k - 1), gI (gL g.mv (i)) (k), rfl, f385, e355, r356, r357, bx358, (ow359.imp (fun g _ hs => ⟨hs.1, hs.2.1, hs.2.2.2⟩)), (ow360.imp (fun g _ hs => ⟨hs.1, hs.2.1, hs.2.2.2⟩)), bx361, (by omega), (by omega), (first_yes hfi (by omega) (by omega)), (by omega)⟩
        ·have q386 := ne_of_beq_false h366
         refine wp_skip ?_
         refine b_n ?_
         refine t_n ?_
         have f387 := f365.sub (r := [(12, .int .i64 (k)), (10, .int .i64 (mv)), (11, .pointer (some ⟨w140.heap.size, 0, none⟩)), (7, .slice A113 ((xa ++ ([i])).length) c114), (8, .slice A_61 xb.length c_62), (9, .int .i64 (i)), (5, .slice none 0 0), (4, .slice none 0 0), (2, .pointer (some ⟨w.heap.size, 0, none⟩)), (1, .slice As ls.length cs)]) ⟨rfl, rfl, rfl, rfl, rfl, rfl, rfl, rfl, rfl, rfl, trivial⟩
         clear f365
         refine At.start ?_
         refine At.rd f387 3 [[], [.as_ (.int .i64 (k - 1))], []] [(12, .int .i64 (k - 1)), (62, .int .i64 (k - 1)), (61, .int .i64 (k))] [((.int .i64 (IntKind.i64.wrap (k - 1)) : Value) = .int .i64 (k - 1))] (by kernel_rfl) ⟨(w64 (by omega) (by omega)), trivial⟩ (fun act389 f388 => ?_)
         clear f387
         refine At.done rfl ?_
         refine t_n ?_
         have f390 := f388.sub (r := [(12, .int .i64 (k - 1)), (10, .int .i64 (mv)), (11, .pointer (some ⟨w140.heap.size, 0, none⟩)), (7, .slice A113 ((xa ++ ([i])).length) c114), (8, .slice A_61 xb.length c_62), (9, .int .i64 (i)), (5, .slice none 0 0), (4, .slice none 0 0), (2, .pointer (some ⟨w.heap.size, 0, none⟩)), (1, .slice As ls.length cs)]) ⟨rfl, rfl, rfl, rfl, rfl, rfl, rfl, rfl, rfl, rfl, trivial⟩
         exact ⟨_, (by omega), (k - 1), mv, rfl, f390, e355, r356, r357, bx358, (ow359.imp (fun g _ hs => ⟨hs.1, hs.2.1, hs.2.2.2⟩)), (ow360.imp (fun g _ hs => ⟨hs.1, hs.2.1, hs.2.2.2⟩)), bx361, (by omega), (by omega), (first_no hfi (by omega)), (by omega)⟩
      ·have q391 := of_decide_eq_false h205
       refine wp_exit ?_
       refine t_e ?_
       refine t_e ?_
       refine b_e ?_
       refine t_n ?_
       have f392 := f204.sub (r := [(10, .int .i64 (mv)), (7, .slice A113 ((xa ++ ([i])).length) c114), (8, .slice A_61 xb.length c_62), (9, .int .i64 (i)), (5, .slice none 0 0), (4, .slice none 0 0), (2, .pointer (some ⟨w.heap.size, 0, none⟩)), (1, .slice As ls.length cs)]) ⟨rfl, rfl, rfl, rfl, rfl, rfl, rfl, rfl, trivial⟩
       clear f204
       refine At.start ?_
       refine At.rd f392 2 [[], []] [(94, .int .i64 (mv)), (93, .slice A_61 xb.length c_62)] [] (by kernel_rfl) trivial (fun act394 f393 => ?_)
       clear f392
       refine At.seq f393 1 [[]] [(95, .slice (some ⟨w189.heap.size, 0, none⟩) 1 1)] (w189.alloc (.cells #[.int .i64 (mv)] 3 (0, 0))) [] (by kernel_rfl) trivial (fun act398 w395 hw396 f397 => ?_)
       clear f393
       have g399 := gr_alloc hw396
       have szw395 := g399.size
       have e402 := e190.gr g399 no_row
       clear e190
       have r403 := r193.gr g399 (fun _ h => by cases h)
       clear r193
       have r404 := r194.gr g399 (fun _ h => by cases h)
       clear r194
       have bx405 := bx195.gr g399 (by simp)
       clear bx195
       have ow406 : OwnR w395 (Sx (w16.heap.size) [some (w189.heap.size), some (w140.heap.size), obk (A_61)]) A113 c114 3 (xa ++ ([i]) : List Int) := ow196.grA g399 (fun _ _ h => by cases h) (fun k hk hs => ⟨(fun e => by injection e; omega), hs.1, hs.2.1, hs.2.2⟩)
       clear ow196
       have ow407 : OwnR w395 (Sx (w16.heap.size) [some (w189.heap.size), some (w140.heap.size), obk (A113)]) A_61 c_62 3 (xb : List Int) := ow197.grA g399 (fun _ _ h => by cases h) (fun k hk hs => ⟨(fun e => by injection e; omega), hs.1, hs.2.1, hs.2.2⟩)
       clear ow197
       have bx408 := bx198.gr g399 (by simp)
       clear bx198
       have bx401 : Bx w395 (w189.heap.size) [.int .i64 (mv)] 3 := Bx.new hw396
       have := bx401.lt
       clear g399 hw396
       have hl413 : (xb ++ ([mv])).length = (xb).length + ([mv] : List Int).length := List.length_append
       simp only [List.length_cons, List.length_nil] at hl413
       refine At.act f397 (appendR (α := Int) (t := 22) (d := 96) (n := xb.length) (m := 1) (cc := 1) (xs := xb) (ys := [mv]) (bytes := 8) (by first | rfl | omega | (simp; done) | (simp; omega)) (by first | rfl | omega | (simp; done) | (simp; omega)) (by kernel_rfl) rfl (by kernel_rfl) ow407 (Bx.srcR (l := ([mv] : List Int)) bx401 rfl) (by simp only [List.length_cons, List.length_nil]; omega) (by simp only [List.length_cons, List.length_nil]; omega)) ?_
       rintro d_ v_ w412 ⟨rfl, A409, c410, ha411⟩
       obtain rfl := ha411.val
       have g414 := ha411.gr
       refine ⟨_, rfl, fun act416 f415 => ?_⟩
       clear f397
       clear bx401
       have ow417 := ha411.own (Sx (w16.heap.size) [some (w140.heap.size), obk (A113)]) (fun g _ hs => ⟨hs.2.1, hs.2.2.1, hs.2.2.2⟩) ⟨(fun e => by injection e; omega), ow406.ne_new, (show w16.heap.size ≤ w395.heap.size by omega)⟩
       have szw412 := g414.size
       have e418 := e402.gr g414 (fun k hk => by have := ow407.ge k hk; omega)
       clear e402
       have r419 := r403.gr g414 (fun k hk => by have := ow407.ge k hk; omega)
       clear r403
       have r420 := r404.gr g414 (fun k hk => by have := ow407.ge k hk; omega)
       clear r404
       have bx421 := bx405.gr g414 (fun e => by have := ow407.ge _ e; omega)
       clear bx405
       have ow422 : OwnR w412 (Sx (w16.heap.size) [some (w189.heap.size), some (w140.heap.size), obk (A409)]) A113 c114 3 (xa ++ ([i]) : List Int) := ow406.grA g414 (fun k hk => hk.2.2.1) (fun k hk hs => ⟨hs.1, hs.2.1, own_repl ha411.at_ hs.2.2.1 hk, hs.2.2.2⟩)
       clear ow406
       have bx423 := bx408.gr g414 (ow407.neb (fun g hs => hs.2.1))
       clear bx408
       clear ow407 g414 ha411
       refine At.rd f415 1 [[]] [(8, .slice A409 ((xb ++ ([mv])).length) c410)] [] (by kernel_rfl) trivial (fun act425 f424 => ?_)
       clear f415
       refine At.done rfl ?_
       refine b_n ?_
       refine t_n ?_
       have f426 := f424.sub (r := [(8, .slice A409 ((xb ++ ([mv])).length) c410), (7, .slice A113 ((xa ++ ([i])).length) c114), (9, .int .i64 (i)), (5, .slice none 0 0), (4, .slice none 0 0), (2, .pointer (some ⟨w.heap.size, 0, none⟩)), (1, .slice As ls.length cs)]) ⟨rfl, rfl, rfl, rfl, rfl, rfl, rfl, trivial⟩
       clear f424
       refine At.start ?_
       refine At.rd f426 3 [[], [.as_ (.int .i64 (i + 1))], []] [(9, .int .i64 (i + 1)), (31, .int .i64 (i + 1)), (30, .int .i64 (i))] [((.int .i64 (IntKind.i64.wrap (i + 1)) : Value) = .int .i64 (i + 1))] (by kernel_rfl) ⟨(w64 (by omega) (by omega)), trivial⟩ (fun act428 f427 => ?_)
       clear f426
       refine At.done rfl ?_
       refine t_n ?_
       have f429 := f427.as 8 (.slice A409 ((xb ++ ([mv])).length) c410) (.slice A409 ((xb ++ ([mv]) : List Int).length) c410) rfl (slice_len (by first | rfl | omega | (simp; done) | (simp; omega)))
       clear f427
       have f430 := f429.as 7 (.slice A113 ((xa ++ ([i])).length) c114) (.slice A113 ((xa ++ ([i]) : List Int).length) c114) rfl (slice_len (by first | rfl | omega | (simp; done) | (simp; omega)))
       clear f429
       have f431 := f430.sub (r := [(8, .slice A409 ((xb ++ ([mv]) : List Int).length) c410), (7, .slice A113 ((xa ++ ([i]) : List Int).length) c114), (9, .int .i64 (i + 1)), (5, .slice none 0 0), (4, .slice none 0 0), (2, .pointer (some ⟨w.heap.size, 0, none⟩)), (1, .slice As ls.length cs)]) ⟨rfl, rfl, rfl, rfl, rfl, rfl, rfl, trivial⟩
       exact ⟨_, (by omega), (i + 1), (xa ++ ([i]) : List Int), A113, c114, (xb ++ ([mv]) : List Int), A409, c410, rfl, f431, e418, r419, r420, bx421, (ow422.imp (fun g _ hs => ⟨hs.2.2.1, hs.2.2.2⟩)), (ow417.imp (fun g _ hs => ⟨hs.2.1, hs.2.2⟩)), (by omega), (by omega), (evA_yes hxa (by omega) (by assumption)), (evB_next hxb (by omega) (by first | exact mvT_top (by assumption) | exact (first_end (fun k a b => (hmv k a b).1) hne hfi (by omega)).trans (mvT_own (by assumption) (by omega)) | exact mvT_oth (by assumption) (by omega))), (by omega)⟩
     ·have q432 := ne_of_beq_false h136
      refine wp_skip ?_
      refine t_n ?_
      have f433 := f135.sub (r := [(7, .slice A113 ((xa ++ ([i])).length) c114), (10, .int .i64 (-1)), (8, .slice A_61 xb.length c_62), (9, .int .i64 (i)), (5, .slice none 0 0), (4, .slice none 0 0), (2, .pointer (some ⟨w.heap.size, 0, none⟩)), (1, .slice As ls.length cs)]) ⟨rfl, rfl, rfl, rfl, rfl, rfl, rfl, rfl, trivial⟩
      clear f135
      refine At.start ?_
      refine At.rd f433 2 [[], []] [(94, .int .i64 (-1)), (93, .slice A_61 xb.length c_62)] [] (by kernel_rfl) trivial (fun act435 f434 => ?_)
      clear f433
      refine At.seq f434 1 [[]] [(95, .slice (some ⟨w116.heap.size, 0, none⟩) 1 1)] (w116.alloc (.cells #[.int .i64 (-1)] 3 (0, 0))) [] (by kernel_rfl) trivial (fun act439 w436 hw437 f438 => ?_)
      clear f434
      have g440 := gr_alloc hw437
      have szw436 := g440.size
      have e443 := e122.gr g440 no_row
      clear e122
      have r444 := r123.gr g440 (fun _ h => by cases h)
      clear r123
      have r445 := r124.gr g440 (fun _ h => by cases h)
      clear r124
      have bx446 := bx125.gr g440 (by simp)
      clear bx125
      have ow447 : OwnR w436 (Sx (w16.heap.size) [some (w116.heap.size), obk (A_61)]) A113 c114 3 (xa ++ ([i]) : List Int) := ow121.grA g440 (fun _ _ h => by cases h) (fun k hk hs => ⟨(fun e => by injection e; omega), hs.1, hs.2⟩)
      clear ow121
      have ow448 : OwnR w436 (Sx (w16.heap.size) [some (w116.heap.size), some (w67.heap.size), obk (A113)]) A_61 c_62 3 (xb : List Int) := ow126.grA g440 (fun _ _ h => by cases h) (fun k hk hs => ⟨(fun e => by injection e; omega), hs.1, hs.2.1, hs.2.2⟩)
      clear ow126
      have bx442 : Bx w436 (w116.heap.size) [.int .i64 (-1)] 3 := Bx.new hw437
      have := bx442.lt
      clear g440 hw437
      have hl453 : (xb ++ ([-1])).length = (xb).length + ([-1] : List Int).length := List.length_append
      simp only [List.length_cons, List.length_nil] at hl453
      refine At.act f438 (appendR (α := Int) (t := 22) (d := 96) (n := xb.length) (m := 1) (cc := 1) (xs := xb) (ys := [-1]) (bytes := 8) (by first | rfl | omega | (simp; done) | (simp; omega)) (by first | rfl | omega | (simp; done) | (simp; omega)) (by kernel_rfl) rfl (by kernel_rfl) ow448 (Bx.srcR (l := ([-1] : List Int)) bx442 rfl) (by simp only [List.length_cons, List.length_nil]; omega) (by simp only [List.length_cons, List.length_nil]; omega)) ?_
      rintro d_ v_ w452 ⟨rfl, A449, c450, ha451⟩
      obtain rfl := ha451.val
      have g454 := ha451.gr
      refine ⟨_, rfl, fun act456 f455 => ?_⟩
      clear f438
      clear bx442
      have ow457 := ha451.own (Sx (w16.heap.size) [obk (A113)]) (fun g _ hs => ⟨hs.2.2.1, hs.2.2.2⟩) ⟨ow447.ne_new, (show w16.heap.size ≤ w436.heap.size by omega)⟩
      have szw452 := g454.size
      have e458 := e443.gr g454 (fun k hk => by have := ow448.ge k hk; omega)
      clear e443
      have r459 := r444.gr g454 (fun k hk => by have := ow448.ge k hk; omega)
      clear r444
      have r460 := r445.gr g454 (fun k hk => by have := ow448.ge k hk; omega)
      clear r445
      have bx461 := bx446.gr g454 (fun e => by have := ow448.ge _ e; omega)
      clear bx446
      have ow462 : OwnR w452 (Sx (w16.heap.size) [some (w116.heap.size), obk (A449)]) A113 c114 3 (xa ++ ([i]) : List Int) := ow447.grA g454 (fun k hk => hk.2.1) (fun k hk hs => ⟨hs.1, own_repl ha451.at_ hs.2.1 hk, hs.2.2⟩)
      clear ow447
      clear ow448 g454 ha451
      refine At.rd f455 1 [[]] [(8, .slice A449 ((xb ++ ([-1])).length) c450)] [] (by kernel_rfl) trivial (fun act464 f463 => ?_)
      clear f455
      refine At.done rfl ?_
      refine b_n ?_
      refine t_n ?_
      have f465 := f463.sub (r := [(8, .slice A449 ((xb ++ ([-1])).length) c450), (7, .slice A113 ((xa ++ ([i])).length) c114), (9, .int .i64 (i)), (5, .slice none 0 0), (4, .slice none 0 0), (2, .pointer (some ⟨w.heap.size, 0, none⟩)), (1, .slice As ls.length cs)]) ⟨rfl, rfl, rfl, rfl, rfl, rfl, rfl, trivial⟩
      clear f463
      refine At.start ?_
      refine At.rd f465 3 [[], [.as_ (.int .i64 (i + 1))], []] [(9, .int .i64 (i + 1)), (31, .int .i64 (i + 1)), (30, .int .i64 (i))] [((.int .i64 (IntKind.i64.wrap (i + 1)) : Value) = .int .i64 (i + 1))] (by kernel_rfl) ⟨(w64 (by omega) (by omega)), trivial⟩ (fun act467 f466 => ?_)
      clear f465
      refine At.done rfl ?_
      refine t_n ?_
      have f468 := f466.as 8 (.slice A449 ((xb ++ ([-1])).length) c450) (.slice A449 ((xb ++ ([-1]) : List Int).length) c450) rfl (slice_len (by first | rfl | omega | (simp; done) | (simp; omega)))
      clear f466
      have f469 := f468.as 7 (.slice A113 ((xa ++ ([i])).length) c114) (.slice A113 ((xa ++ ([i]) : List Int).length) c114) rfl (slice_len (by first | rfl | omega | (simp; done) | (simp; omega)))
      clear f468
      have f470 := f469.sub (r := [(8, .slice A449 ((xb ++ ([-1]) : List Int).length) c450), (7, .slice A113 ((xa ++ ([i]) : List Int).length) c114), (9, .int .i64 (i + 1)), (5, .slice none 0 0), (4, .slice none 0 0), (2, .pointer (some ⟨w.heap.size, 0, none⟩)), (1, .slice As ls.length cs)]) ⟨rfl, rfl, rfl, rfl, rfl, rfl, rfl, trivial⟩
      exact ⟨_, (by omega), (i + 1), (xa ++ ([i]) : List Int), A113, c114, (xb ++ ([-1]) : List Int), A449, c450, rfl, f470, e458, r459, r460, bx461, (ow462.imp (fun g _ hs => ⟨hs.2.1, hs.2.2⟩)), ow457, (by omega), (by omega), (evA_yes hxa (by omega) (by assumption)), (evB_next hxb (by omega) (by first | exact mvT_top (by assumption) | exact (first_end (fun k a b => (hmv k a b).1) hne hfi (by omega)).trans (mvT_own (by assumption) (by omega)) | exact mvT_oth (by assumption) (by omega))), (by omega)⟩
    ·have q471 : ((gT ls i).top) = true := by first | exact Eq.mp (Bool.not_eq_true' _) h95 | exact Eq.mp (Bool.not_eq_false' _) h95 | simpa using h95
     refine wp_skip ?_
     refine t_n ?_
     have f473 := f94.sub (r := [(10, .int .i64 (-1)), (8, .slice A_61 xb.length c_62), (7, .slice A_56 xa.length c_57), (9, .int .i64 (i)), (5, .slice none 0 0), (4, .slice none 0 0), (2, .pointer (some ⟨w.heap.size, 0, none⟩)), (1, .slice As ls.length cs)]) ⟨rfl, rfl, rfl, rfl, rfl, rfl, rfl, rfl, trivial⟩
     clear f94
     refine At.start ?_
     refine At.rd f473 2 [[], []] [(94, .int .i64 (-1)), (93, .slice A_61 xb.length c_62)] [] (by kernel_rfl) trivial (fun act475 f474 => ?_)
     clear f473
     refine At.seq f474 1 [[]] [(95, .slice (some ⟨w67.heap.size, 0, none⟩) 1 1)] (w67.alloc (.cells #[.int .i64 (-1)] 3 (0, 0))) [] (by kernel_rfl) trivial (fun act479 w476 hw477 f478 => ?_)
     clear f474
     have g480 := gr_alloc hw477
     have szw476 := g480.size
     have e483 := e68.gr g480 no_row
     clear e68
     have r484 := r71.gr g480 (fun _ h => by cases h)
     clear r71
     have r485 := r72.gr g480 (fun _ h => by cases h)
     clear r72
     have bx486 := bx73.gr g480 (by simp)
     clear bx73
     have ow487 : OwnR w476 (Sx (w16.heap.size) [some (w67.heap.size), obk (A_61)]) A_56 c_57 3 (xa : List Int) := ow74.grA g480 (fun _ _ h => by cases h) (fun k hk hs => ⟨(fun e => by injection e; omega), hs.1, hs.2⟩)
     clear ow74
     have ow488 : OwnR w476 (Sx (w16.heap.size) [some (w67.heap.size), obk (A_56)]) A_61 c_62 3 (xb : List Int) := ow75.grA g480 (fun _ _ h => by cases h) (fun k hk hs => ⟨(fun e => by injection e; omega), hs.1, hs.2⟩)
     clear ow75
     have bx482 : Bx w476 (w67.heap.size) [.int .i64 (-1)] 3 := Bx.new hw477
     have := bx482.lt
     clear g480 hw477
     have hl493 : (xb ++ ([-1])).length = (xb).length + ([-1] : List Int).length := List.length_append
     simp only [List.length_cons, List.length_nil] at hl493
     refine At.act f478 (appendR (α := Int) (t := 22) (d := 96) (n := xb.length) (m := 1) (cc := 1) (xs := xb) (ys := [-1]) (bytes := 8) (by first | rfl | omega | (simp; done) | (simp; omega)) (by first | rfl | omega | (simp; done) | (simp; omega)) (by kernel_rfl) rfl (by kernel_rfl) ow488 (Bx.srcR (l := ([-1] : List Int)) bx482 rfl) (by simp only [List.length_cons, List.length_nil]; omega) (by simp only [List.length_cons, List.length_nil]; omega)) ?_
     rintro d_ v_ w492 ⟨rfl, A489, c490, ha491⟩
     obtain rfl := ha491.val
     have g494 := ha491.gr
     refine ⟨_, rfl, fun act496 f495 => ?_⟩
     clear f478
     clear bx482
     have ow497 := ha491.own (Sx (w16.heap.size) [obk (A_56)]) (fun g _ hs => ⟨hs.2.1, hs.2.2⟩) ⟨ow487.ne_new, (show w16.heap.size ≤ w476.heap.size by omega)⟩
     have szw492 := g494.size
     have e498 := e483.gr g494 (fun k hk => by have := ow488.ge k hk; omega)
     clear e483
     have r499 := r484.gr g494 (fun k hk => by have := ow488.ge k hk; omega)
     clear r484
     have r500 := r485.gr g494 (fun k hk => by have := ow488.ge k hk; omega)
     clear r485
     have bx501 := bx486.gr g494 (fun e => by have := ow488.ge _ e; omega)
     clear bx486
     have ow502 : OwnR w492 (Sx (w16.heap.size) [some (w67.heap.size), obk (A489)]) A_56 c_57 3 (xa : List Int) := ow487.grA g494 (fun k hk => hk.2.1) (fun k hk hs => ⟨hs.1, own_repl ha491.at_ hs.2.1 hk, hs.2.2⟩)
     clear ow487
     clear ow488 g494 ha491
     refine At.rd f495 1 [[]] [(8, .slice A489 ((xb ++ ([-1])).length) c490)] [] (by kernel_rfl) trivial (fun act504 f503 => ?_)
     clear f495
     refine At.done rfl ?_
     refine b_n ?_
     refine t_n ?_
     have f505 := f503.sub (r := [(8, .slice A489 ((xb ++ ([-1])).length) c490), (7, .slice A_56 xa.length c_57), (9, .int .i64 (i)), (5, .slice none 0 0), (4, .slice none 0 0), (2, .pointer (some ⟨w.heap.size, 0, none⟩)), (1, .slice As ls.length cs)]) ⟨rfl, rfl, rfl, rfl, rfl, rfl, rfl, trivial⟩
     clear f503
     refine At.start ?_
     refine At.rd f505 3 [[], [.as_ (.int .i64 (i + 1))], []] [(9, .int .i64 (i + 1)), (31, .int .i64 (i + 1)), (30, .int .i64 (i))] [((.int .i64 (IntKind.i64.wrap (i + 1)) : Value) = .int .i64 (i + 1))] (by kernel_rfl) ⟨(w64 (by omega) (by omega)), trivial⟩ (fun act507 f506 => ?_)
     clear f505
     refine At.done rfl ?_
     refine t_n ?_
     have f508 := f506.as 8 (.slice A489 ((xb ++ ([-1])).length) c490) (.slice A489 ((xb ++ ([-1]) : List Int).length) c490) rfl (slice_len (by first | rfl | omega | (simp; done) | (simp; omega)))
     clear f506
     have f509 := f508.as 7 (.slice A_56 xa.length c_57) (.slice A_56 ((xa : List Int).length) c_57) rfl (slice_len (by first | rfl | omega | (simp; done) | (simp; omega)))
     clear f508
     have f510 := f509.sub (r := [(8, .slice A489 ((xb ++ ([-1]) : List Int).length) c490), (7, .slice A_56 ((xa : List Int).length) c_57), (9, .int .i64 (i + 1)), (5, .slice none 0 0), (4, .slice none 0 0), (2, .pointer (some ⟨w.heap.size, 0, none⟩)), (1, .slice As ls.length cs)]) ⟨rfl, rfl, rfl, rfl, rfl, rfl, rfl, trivial⟩
     exact ⟨_, (by omega), (i + 1), (xa : List Int), A_56, c_57, (xb ++ ([-1]) : List Int), A489, c490, rfl, f510, e498, r499, r500, bx501, (ow502.imp (fun g _ hs => ⟨hs.2.1, hs.2.2⟩)), ow497, (by omega), (by omega), (evA_no hxa (by omega) (by assumption)), (evB_next hxb (by omega) (by first | exact mvT_top (by assumption) | exact (first_end (fun k a b => (hmv k a b).1) hne hfi (by omega)).trans (mvT_own (by assumption) (by omega)) | exact mvT_oth (by assumption) (by omega))), (by omega)⟩
   ·have q511 := of_decide_eq_false h82
    refine wp_exit ?_
    refine t_e ?_
    refine t_e ?_
    refine b_e ?_
    refine t_n ?_
    have f512 := f81.sub (r := [(8, .slice A_61 xb.length c_62), (7, .slice A_56 xa.length c_57)]) ⟨rfl, rfl, trivial⟩
    clear f81
    refine wp_seq ?_
    refine At.start ?_
    refine At.rd f512 4 [[], [], [], []] [(5, .slice A_61 xb.length c_62), (4, .slice A_56 xa.length c_57), (98, .slice A_61 xb.length c_62), (97, .slice A_56 xa.length c_57)] [] (by kernel_rfl) trivial (fun act514 f513 => ?_)
    clear f512
    refine At.done rfl ?_
    refine t_n ?_
    have f515 := f513.sub (r := [(5, .slice A_61 xb.length c_62), (4, .slice A_56 xa.length c_57)]) ⟨rfl, rfl, trivial⟩
    clear f513
    refine wp_ret ?_
    refine ret_ f515 [] [.slice A_56 xa.length c_57, .slice A_61 xb.length c_62] [] (by kernel_rfl) trivial ?_
    exact ⟨A_56, c_57, A_61, c_62, _, _, rfl, e68, (ow74.imp (fun g _ hs => ⟨hs.1, (by have := Sx_base hs; show w.heap.size ≤ g; omega)⟩)), (ow75.imp (fun g _ hs => ⟨hs.1, (by have := Sx_base hs; show w.heap.size ≤ g; omega)⟩)), (evT_end hRR hxa hxb (by omega) (by omega))⟩

end Go.Proofs.Ytklbpajmoklheaa
