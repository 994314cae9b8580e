/-
  A walk of a Go function, printed by a program of this repo. Conditions: what the theorems name.
-/
import Derived.Test.YtklbpajmoklheaaPureEven
import Derived.Test.YtklbpajmoklheaaWBest
import Derived.Test.YtklbpajmoklheaaWIs
import Derived.Test.YtklbpajmoklheaaFs
set_option linter.unusedVariables false
set_option linter.unusedSimpArgs false
namespace Go.Proofs.Ytklbpajmoklheaa
open Go Go.RowKit

set_option maxHeartbeats 4000000 in
theorem evenM_any {Ag0 Ag1 Ag2 : Option Addr} {cg0 cg1 cg2 : Nat} {g : GameL} {As : Option Addr} {cs : Nat} {ls : List Tup} {w : World} (rg : RdG w 0 w.heap.size Ag0 Ag1 Ag2 cg0 cg1 cg2 g) (rs : RdR w 0 w.heap.size As ls) (hok : okL ls) :
    Calls Try.prog 30 #[.agg #[.slice Ag0 g.ow.length cg0, .slice Ag1 g.pr.length cg1, .slice Ag2 g.mv.length cg2], .slice As ls.length cs] w fun e w' => ∃ A1 c1 A2 c2 a b, e = .returned (.tuple #[.slice A1 a.length c1, .slice A2 b.length c2]) ∧ Ext w w' ∧ OwnR w' (Sx w.heap.size [obk A2]) A1 c1 3 (a : List Int) ∧ OwnR w' (Sx w.heap.size [obk A1]) A2 c2 3 (b : List Int) ∧ EvenT g ls a b := by
 have hlg0 := rg.ow.len
 have hlg1 := rg.pr.len
 have hlg2 := rg.mv.len
 have hkg0 := rg.k0
 have hkg1 := rg.k1
 have hkg2 := rg.k2
 have hls := rs.len
 simp only [Enc.bytes] at hls
 refine enter_ (args := [.agg #[.slice Ag0 g.ow.length cg0, .slice Ag1 g.pr.length cg1, .slice Ag2 g.mv.length cg2], .slice As ls.length cs]) Try.func30 rfl Try.ntmps30 (Nat.le_of_ble_eq_true rfl) (fun act0 f0 => ?_)
 have e0 := Ext.refl w
 refine wp_seq ?_
 refine At.start ?_
 refine At.seq f0 1 [[]] [(2, .pointer (some ⟨w.heap.size, 0, none⟩))] (w.alloc (.cells #[.slice Ag0 g.ow.length cg0, .slice Ag1 g.pr.length cg1, .slice Ag2 g.mv.length cg2] 25 (0, 0))) [] (by kernel_rfl) trivial (fun act4 w1 hw2 f3 => ?_)
 clear f0
 have g5 := gr_alloc hw2
 have szw1 := g5.size
 have e7 := e0.gr g5 no_row
 clear e0
 have r8 := rg.gr g5 (fun _ h => by cases h)
 clear rg
 have r9 := rs.gr g5 (fun _ h => by cases h)
 clear rs
 have bx10 : Bx w1 (w.heap.size) [.slice Ag0 g.ow.length cg0, .slice Ag1 g.pr.length cg1, .slice Ag2 g.mv.length cg2] 25 := Bx.new hw2
 have := bx10.lt
 clear g5 hw2
 refine At.rd f3 2 [[], []] [(5, .slice none 0 0), (4, .slice none 0 0)] [] (by kernel_rfl) trivial (fun act12 f11 => ?_)
 clear f3
 refine At.done rfl ?_
 refine t_n ?_
 have f13 := f11.sub (r := [(5, .slice none 0 0), (4, .slice none 0 0), (2, .pointer (some ⟨w.heap.size, 0, none⟩)), (1, .slice As ls.length cs)]) ⟨rfl, rfl, rfl, rfl, trivial⟩
 clear f11
 refine wp_seq ?_
 refine wp_seq ?_
 refine At.start ?_
 refine At.rd f13 2 [[.ld (.slice Ag0 g.ow.length cg0), .ld (.slice Ag1 g.pr.length cg1), .ld (.slice Ag2 g.mv.length cg2)], []] [(13, .slice As ls.length cs), (12, .agg #[.slice Ag0 g.ow.length cg0, .slice Ag1 g.pr.length cg1, .slice Ag2 g.mv.length cg2])] [(w1.cell? ⟨w.heap.size, 0, none⟩ = some (.slice Ag0 g.ow.length cg0)), (w1.cell? ⟨w.heap.size, 1, none⟩ = some (.slice Ag1 g.pr.length cg1)), (w1.cell? ⟨w.heap.size, 2, none⟩ = some (.slice Ag2 g.mv.length cg2))] (by kernel_rfl) ⟨(bx10.cell (i := 0) rfl), (bx10.cell (i := 1) rfl), (bx10.cell (i := 2) rfl), trivial⟩ (fun act15 f14 => ?_)
 clear f13
 refine At.call f14 45 #[.agg #[.slice Ag0 g.ow.length cg0, .slice Ag1 g.pr.length cg1, .slice Ag2 g.mv.length cg2], .slice As ls.length cs] (some 14) (by kernel_rfl) (rightM_any (ls := ls) (r8.wide (Nat.zero_le _) (by omega)) (r9.wide (Nat.zero_le _) (by omega))) ?_
 rintro e_ w16 ⟨rfl, he⟩
 refine ⟨_, rfl, _, rfl, fun act17 f18 => ?_⟩
 clear f14
 have g19 := gr_ext he
 have szw16 := g19.size
 have e20 := e7.gr g19 no_row
 clear e7
 have r21 := r8.gr g19 (fun _ h => by cases h)
 clear r8
 have r22 := r9.gr g19 (fun _ h => by cases h)
 clear r9
 have bx23 := bx10.gr g19 (by simp)
 clear bx10
 clear g19 he
 refine At.rd f18 1 [[]] [(15, .bool (!(isR g && decide ((ls).length = g.ow.length))))] [] (by kernel_rfl) trivial (fun act25 f24 => ?_)
 clear f18
 refine At.done rfl ?_
 refine t_n ?_
 have f26 := f24.sub (r := [(15, .bool (!(isR g && decide ((ls).length = g.ow.length)))), (5, .slice none 0 0), (4, .slice none 0 0), (2, .pointer (some ⟨w.heap.size, 0, none⟩)), (1, .slice As ls.length cs)]) ⟨rfl, rfl, rfl, rfl, rfl, trivial⟩
 clear f24
 refine cond_S f26 (t := !(isR g && decide ((ls).length = g.ow.length))) rfl (fun h27 => ?_) (fun h27 => ?_)
 ·have q28 : (isR g && decide ((ls).length = g.ow.length)) = false := by first | exact Eq.mp (Bool.not_eq_true' _) h27 | exact Eq.mp (Bool.not_eq_false' _) h27 | simpa using h27
  refine wp_seq ?_
  refine At.start ?_
  refine At.rd f26 2 [[], []] [(5, .slice none 0 0), (4, .slice none 0 0)] [] (by kernel_rfl) trivial (fun act31 f30 => ?_)
  clear f26
  refine At.done rfl ?_
  refine t_n ?_
  have f32 := f30.sub (r := [(5, .slice none 0 0), (4, .slice none 0 0)]) ⟨rfl, rfl, trivial⟩
  clear f30
  refine wp_ret ?_
  refine t_r ?_
  refine ret_ f32 [] [.slice none 0 0, .slice none 0 0] [] (by kernel_rfl) trivial ?_
  exact ⟨none, 0, none, 0, [], [], rfl, e20, OwnR.nil, OwnR.nil, .inl ⟨by assumption, rfl, rfl⟩⟩
 ·have q33 : (isR g && decide ((ls).length = g.ow.length)) = true := by first | exact Eq.mp (Bool.not_eq_true' _) h27 | exact Eq.mp (Bool.not_eq_false' _) h27 | simpa using h27
  refine wp_skip ?_
  refine t_n ?_
  have f35 := f26.sub (r := [(5, .slice none 0 0), (4, .slice none 0 0), (2, .pointer (some ⟨w.heap.size, 0, none⟩)), (1, .slice As ls.length cs)]) ⟨rfl, rfl, rfl, rfl, trivial⟩
  clear f26
  refine wp_seq ?_
  have hRR : (isR g && decide (ls.length = g.ow.length)) = true := by assumption
  have hG := isR_ok (right_yes2 hRR)
  have hln := right_len hRR
  have hn1 := hG.n1
  have hpl := hG.pl
  have hml := hG.ml
  refine At.start ?_
  refine At.rd f35 1 [[.ld (.slice Ag0 g.ow.length cg0), .ld (.slice Ag1 g.pr.length cg1), .ld (.slice Ag2 g.mv.length cg2)]] [(16, .agg #[.slice Ag0 g.ow.length cg0, .slice Ag1 g.pr.length cg1, .slice Ag2 g.mv.length cg2])] [(w16.cell? ⟨w.heap.size, 0, none⟩ = some (.slice Ag0 g.ow.length cg0)), (w16.cell? ⟨w.heap.size, 1, none⟩ = some (.slice Ag1 g.pr.length cg1)), (w16.cell? ⟨w.heap.size, 2, none⟩ = some (.slice Ag2 g.mv.length cg2))] (by kernel_rfl) ⟨(bx23.cell (i := 0) rfl), (bx23.cell (i := 1) rfl), (bx23.cell (i := 2) rfl), trivial⟩ (fun act37 f36 => ?_)
  clear f35
  refine At.call f36 46 #[.agg #[.slice Ag0 g.ow.length cg0, .slice Ag1 g.pr.length cg1, .slice Ag2 g.mv.length cg2]] (some 17) (by kernel_rfl) (counts_any (r21.wide (Nat.zero_le _) (by omega))) ?_
  rintro e_ w38 ⟨rfl, he⟩
  refine ⟨_, rfl, _, rfl, fun act39 f40 => ?_⟩
  clear f36
  have g41 := gr_ext he
  have szw38 := g41.size
  have e42 := e20.gr g41 no_row
  clear e20
  have r43 := r21.gr g41 (fun _ h => by cases h)
  clear r21
  have r44 := r22.gr g41 (fun _ h => by cases h)
  clear r22
  have bx45 := bx23.gr g41 (by simp)
  clear bx23
  clear g41 he
  refine At.seq f40 1 [[]] [(6, .pointer (some ⟨w38.heap.size, 0, none⟩))] (w38.alloc (.cells #[.int .i64 (0), .int .i64 (0), .int .i64 (0), .int .i64 (0)] 38 (0, 0))) [] (by kernel_rfl) trivial (fun act49 w46 hw47 f48 => ?_)
  clear f40
  have g50 := gr_alloc hw47
  have szw46 := g50.size
  have e52 := e42.gr g50 no_row
  clear e42
  have r53 := r43.gr g50 (fun _ h => by cases h)
  clear r43
  have r54 := r44.gr g50 (fun _ h => by cases h)
  clear r44
  have bx55 := bx45.gr g50 (by simp)
  clear bx45
  have bx56 : Bx w46 (w38.heap.size) [.int .i64 (0), .int .i64 (0), .int .i64 (0), .int .i64 (0)] 38 := Bx.new hw47
  have := bx56.lt
  clear g50 hw47
  refine At.store f48 (t := 38) (b := w38.heap.size) (off := 0) (v := .agg #[.int .i64 (cnt g.pr 1), .int .i64 (cnt g.pr 3), .int .i64 (cnt g.pr 5), .int .i64 (cnt g.pr 7)]) (by kernel_rfl) bx56 (by kernel_rfl) (fun act61 w57 g58 bx59 f60 => ?_)
  clear f48
  replace bx59 : Bx w57 (w38.heap.size) [.int .i64 (cnt g.pr 1), .int .i64 (cnt g.pr 3), .int .i64 (cnt g.pr 5), .int .i64 (cnt g.pr 7)] 38 := bx59
  have szw57 := g58.size
  have e62 := e52.gr g58 (fun k h => by injection h; omega)
  clear e52
  have r63 := r53.gr g58 (fun k h => by injection h; omega)
  clear r53
  have r64 := r54.gr g58 (fun k h => by injection h; omega)
  clear r54
  have bx65 := bx55.gr g58 (fun h => by injection h; omega)
  clear bx55
  clear bx56 g58
  refine At.done rfl ?_
  refine t_n ?_
  have f66 := f60.sub (r := [(6, .pointer (some ⟨w38.heap.size, 0, none⟩)), (5, .slice none 0 0), (4, .slice none 0 0), (2, .pointer (some ⟨w.heap.size, 0, none⟩)), (1, .slice As ls.length cs)]) ⟨rfl, rfl, rfl, rfl, rfl, trivial⟩
  clear f60
  refine wp_seq ?_
  refine At.start ?_
  refine At.rd f66 2 [[], []] [(8, .slice none 0 0), (7, .slice none 0 0)] [] (by kernel_rfl) trivial (fun act68 f67 => ?_)
  clear f66
  refine At.done rfl ?_
  refine t_n ?_
  refine wp_seq ?_
  refine wp_seq ?_
  refine At.start ?_
  refine At.rd f67 3 [[], [], []] [(20, .int .i64 (0)), (19, .int .i64 (((ls.length : Nat) : Int))), (18, .slice As ls.length cs)] [] (by kernel_rfl) trivial (fun act70 f69 => ?_)
  clear f67
  refine At.done rfl ?_
  refine t_n ?_
  refine wp_block ?_
  have ow72 : OwnR w57 (Sx (w57.heap.size) []) none 0 3 ([] : List Int) := OwnR.nil
  have ow76 : OwnR w57 (Sx (w57.heap.size) [obk (none)]) none 0 3 ([] : List Int) := OwnR.nil
  have ow77 : OwnR w57 (Sx (w57.heap.size) [obk none]) none 0 3 ([] : List Int) := ow72.imp (fun g _ hs => ⟨by simp [obk], hs⟩)
  clear ow72
  have f81 := f69.as 8 (.slice none 0 0) (.slice none (([] : List Int).length) 0) rfl (slice_len (by first | rfl | omega | (simp; done) | (simp; omega)))
  clear f69
  have f82 := f81.as 7 (.slice none 0 0) (.slice none (([] : List Int).length) 0) rfl (slice_len (by first | rfl | omega | (simp; done) | (simp; omega)))
  clear f81
  have f80 := f82.sub (r := [(8, .slice none (([] : List Int).length) 0), (7, .slice none (([] : List Int).length) 0), (20, .int .i64 (0)), (19, .int .i64 (((ls.length : Nat) : Int))), (18, .slice As ls.length cs), (6, .pointer (some ⟨w38.heap.size, 0, none⟩)), (5, .slice none 0 0), (4, .slice none 0 0), (2, .pointer (some ⟨w.heap.size, 0, none⟩)), (1, .slice As ls.length cs)]) ⟨rfl, rfl, rfl, rfl, rfl, rfl, rfl, rfl, rfl, rfl, trivial⟩
  refine loop_g (fun (m_ : Nat) a_ w_ => ∃ (i : Int) (xa : List Int) (A_73 : Option Addr) (c_74 : Nat) (xb : List Int) (A_78 : Option Addr) (c_79 : Nat), m_ = ((ls.length : Int) - i).toNat ∧ (Frm 53 a_ [(8, .slice A_78 xb.length c_79), (7, .slice A_73 xa.length c_74), (20, .int .i64 (i)), (19, .int .i64 (((ls.length : Nat) : Int))), (18, .slice As ls.length cs), (6, .pointer (some ⟨w38.heap.size, 0, none⟩)), (5, .slice none 0 0), (4, .slice none 0 0), (2, .pointer (some ⟨w.heap.size, 0, none⟩)), (1, .slice As ls.length cs)]) ∧ (Ext w w_) ∧ (RdG w_ 0 w.heap.size Ag0 Ag1 Ag2 cg0 cg1 cg2 g) ∧ (RdR w_ 0 w.heap.size As (ls : List Tup)) ∧ (Bx w_ (w.heap.size) [.slice Ag0 g.ow.length cg0, .slice Ag1 g.pr.length cg1, .slice Ag2 g.mv.length cg2] 25) ∧ (Bx w_ (w38.heap.size) [.int .i64 (cnt g.pr 1), .int .i64 (cnt g.pr 3), .int .i64 (cnt g.pr 5), .int .i64 (cnt g.pr 7)] 38) ∧ (OwnR w_ (Sx (w57.heap.size) [obk (A_78)]) A_73 c_74 3 (xa : List Int)) ∧ (OwnR w_ (Sx (w57.heap.size) [obk (A_73)]) A_78 c_79 3 (xb : List Int)) ∧ (0 ≤ i) ∧ (i ≤ (ls.length : Int)) ∧ (xa = evA ls i.toNat) ∧ (xb = evB g ls i.toNat) ∧ (w57.heap.size ≤ w_.heap.size)) _ ⟨0, ([] : List Int), none, 0, ([] : List Int), none, 0, rfl, f80, e62, r63, r64, bx65, bx59, ow77, ow76, (by omega), (by omega), rfl, rfl, (by omega)⟩ ?_
  clear f80 f82
  clear r63
  clear r64
  clear bx65
  clear bx59
  clear ow77
  clear ow76
  clear e62
  intro m_ act83 w84 ⟨i, xa, A_73, c_74, xb, A_78, c_79, hm86, f87, e85, r88, r89, bx90, bx91, ow92, ow93, i94, i95, hxa, hxb, i96⟩
  have szw84 := e85.size
  have := bx90.lt
  have := bx91.lt
  have hal := evA_len ls i.toNat
  have hbl := evB_len g ls i.toNat
  rw [← hxa] at hal
  rw [← hxb] at hbl
  refine wp_seq ?_
  refine At.start ?_
  refine At.rd f87 1 [[]] [(21, .bool (decide ((i : Int) < ((ls.length : Nat) : Int))))] [] (by kernel_rfl) trivial (fun act98 f97 => ?_)
  clear f87
  refine At.done rfl ?_
  refine t_n ?_
  refine wp_seq ?_
  refine cond_S f97 (t := decide ((i : Int) < ((ls.length : Nat) : Int))) rfl (fun h99 => ?_) (fun h99 => ?_)
  ·have q100 := of_decide_eq_true h99
   refine wp_skip ?_
   refine t_n ?_
   have f101 := f97.sub (r := [(8, .slice A_78 xb.length c_79), (7, .slice A_73 xa.length c_74), (20, .int .i64 (i)), (19, .int .i64 (((ls.length : Nat) : Int))), (18, .slice As ls.length cs), (6, .pointer (some ⟨w38.heap.size, 0, none⟩)), (5, .slice none 0 0), (4, .slice none 0 0), (2, .pointer (some ⟨w.heap.size, 0, none⟩)), (1, .slice As ls.length cs)]) ⟨rfl, rfl, rfl, rfl, rfl, rfl, rfl, rfl, rfl, rfl, trivial⟩
   clear f97
   refine wp_seq ?_
   refine wp_block ?_
   refine wp_seq ?_
   refine At.start ?_
   obtain ⟨ad102, hA103, hb106, hc105, hc104⟩ := r89.get (i) (by omega) (by omega) (sz := 5) rfl
   refine At.rd f101 3 [[], [.ad ad102], [.ld (.bool ((gT ls i).top)), .ld (.int .i64 ((gT ls i).c0)), .ld (.int .i64 ((gT ls i).c1)), .ld (.int .i64 ((gT ls i).c2)), .ld (.int .i64 ((gT ls i).c3))]] [(24, tupV (gT ls i)), (23, .pointer (some (ad102.add ((i : Int).toNat * 5)))), (22, .int .i64 (i))] [(As = some ad102), (0 ≤ (i : Int)), ((i : Int) < (ls.length : Nat)), (w84.cell? (ad102.add ((i : Int).toNat * 5)) = some (.bool ((gT ls i).top))), (w84.cell? ((ad102.add ((i : Int).toNat * 5)).add 1) = some (.int .i64 ((gT ls i).c0))), (w84.cell? ((ad102.add ((i : Int).toNat * 5)).add 2) = some (.int .i64 ((gT ls i).c1))), (w84.cell? ((ad102.add ((i : Int).toNat * 5)).add 3) = some (.int .i64 ((gT ls i).c2))), (w84.cell? ((ad102.add ((i : Int).toNat * 5)).add 4) = some (.int .i64 ((gT ls i).c3)))] (by kernel_rfl) ⟨hA103, (by omega), (by omega), hc105, (hc104 1 _ rfl), (hc104 2 _ rfl), (hc104 3 _ rfl), (hc104 4 _ rfl), trivial⟩ (fun act108 f107 => ?_)
   clear f101
   refine At.seq f107 1 [[]] [(10, .pointer (some ⟨w84.heap.size, 0, none⟩))] (w84.alloc (.cells #[.bool false, .int .i64 (0), .int .i64 (0), .int .i64 (0), .int .i64 (0)] 41 (0, 0))) [] (by kernel_rfl) trivial (fun act112 w109 hw110 f111 => ?_)
   clear f107
   have g113 := gr_alloc hw110
   have szw109 := g113.size
   have e115 := e85.gr g113 no_row
   clear e85
   have r116 := r88.gr g113 (fun _ h => by cases h)
   clear r88
   have r117 := r89.gr g113 (fun _ h => by cases h)
   clear r89
   have bx118 := bx90.gr g113 (by simp)
   clear bx90
   have bx119 := bx91.gr g113 (by simp)
   clear bx91
   have ow120 : OwnR w109 (Sx (w57.heap.size) [some (w84.heap.size), obk (A_78)]) A_73 c_74 3 (xa : List Int) := ow92.grA g113 (fun _ _ h => by cases h) (fun k hk hs => ⟨(fun e => by injection e; omega), hs.1, hs.2⟩)
   clear ow92
   have ow121 : OwnR w109 (Sx (w57.heap.size) [some (w84.heap.size), obk (A_73)]) A_78 c_79 3 (xb : List Int) := ow93.grA g113 (fun _ _ h => by cases h) (fun k hk hs => ⟨(fun e => by injection e; omega), hs.1, hs.2⟩)
   clear ow93
   have bx122 : Bx w109 (w84.heap.size) [.bool false, .int .i64 (0), .int .i64 (0), .int .i64 (0), .int .i64 (0)] 41 := Bx.new hw110
   have := bx122.lt
   clear g113 hw110
   refine At.rd f111 1 [[]] [(9, .int .i64 (i))] [] (by kernel_rfl) trivial (fun act124 f123 => ?_)
   clear f111
   refine At.store f123 (t := 41) (b := w84.heap.size) (off := 0) (v := tupV (gT ls i)) (by kernel_rfl) bx122 (by kernel_rfl) (fun act129 w125 g126 bx127 f128 => ?_)
   clear f123
   replace bx127 : Bx w125 (w84.heap.size) (tupC (gT ls i)) 41 := bx127
   have szw125 := g126.size
   have e130 := e115.gr g126 (fun k h => by injection h; omega)
   clear e115
   have r131 := r116.gr g126 (fun k h => by injection h; omega)
   clear r116
   have r132 := r117.gr g126 (fun k h => by injection h; omega)
   clear r117
   have bx133 := bx118.gr g126 (fun h => by injection h; omega)
   clear bx118
   have bx134 := bx119.gr g126 (fun h => by injection h; omega)
   clear bx119
   have ow135 := ow120.gr g126 (fun k hk => hk.1)
   clear ow120
   have ow136 := ow121.gr g126 (fun k hk => hk.1)
   clear ow121
   clear bx122 g126
   refine At.done rfl ?_
   refine t_n ?_
   have f137 := f128.sub (r := [(9, .int .i64 (i)), (10, .pointer (some ⟨w84.heap.size, 0, none⟩)), (8, .slice A_78 xb.length c_79), (7, .slice A_73 xa.length c_74), (20, .int .i64 (i)), (19, .int .i64 (((ls.length : Nat) : Int))), (18, .slice As ls.length cs), (6, .pointer (some ⟨w38.heap.size, 0, none⟩)), (5, .slice none 0 0), (4, .slice none 0 0), (2, .pointer (some ⟨w.heap.size, 0, none⟩)), (1, .slice As ls.length cs)]) ⟨rfl, rfl, rfl, rfl, rfl, rfl, rfl, rfl, rfl, rfl, rfl, rfl, trivial⟩
   clear f128
   refine wp_seq ?_
   refine At.start ?_
   refine At.rd f137 1 [[]] [(11, .int .i64 (-1))] [] (by kernel_rfl) trivial (fun act139 f138 => ?_)
   clear f137
   refine At.done rfl ?_
   refine t_n ?_
   refine wp_seq ?_
   refine wp_seq ?_
   refine At.start ?_
   refine At.rd f138 3 [[], [.ld (.bool ((gT ls i).top))], []] [(27, .bool (!((gT ls i).top))), (26, .bool ((gT ls i).top)), (25, .pointer (some ⟨w84.heap.size, 0, none⟩))] [(w125.cell? ⟨w84.heap.size, 0, none⟩ = some (.bool ((gT ls i).top)))] (by kernel_rfl) ⟨(bx127.cell (i := 0) rfl), trivial⟩ (fun act141 f140 => ?_)
   clear f138
   refine At.done rfl ?_
   refine t_n ?_
   have f142 := f140.sub (r := [(27, .bool (!((gT ls i).top))), (11, .int .i64 (-1)), (9, .int .i64 (i)), (8, .slice A_78 xb.length c_79), (7, .slice A_73 xa.length c_74), (20, .int .i64 (i)), (19, .int .i64 (((ls.length : Nat) : Int))), (18, .slice As ls.length cs), (6, .pointer (some ⟨w38.heap.size, 0, none⟩)), (5, .slice none 0 0), (4, .slice none 0 0), (2, .pointer (some ⟨w.heap.size, 0, none⟩)), (1, .slice As ls.length cs)]) ⟨rfl, rfl, rfl, rfl, rfl, rfl, rfl, rfl, rfl, rfl, rfl, rfl, rfl, trivial⟩
   clear f140
   refine cond_S f142 (t := !((gT ls i).top)) rfl (fun h143 => ?_) (fun h143 => ?_)
   ·have q144 : ((gT ls i).top) = false := by first | exact Eq.mp (Bool.not_eq_true' _) h143 | exact Eq.mp (Bool.not_eq_false' _) h143 | simpa using h143
    refine wp_seq ?_
    refine At.start ?_
    refine At.rd f142 2 [[], []] [(29, .int .i64 (i)), (28, .slice A_73 xa.length c_74)] [] (by kernel_rfl) trivial (fun act147 f146 => ?_)
    clear f142
    refine At.seq f146 1 [[]] [(30, .slice (some ⟨w125.heap.size, 0, none⟩) 1 1)] (w125.alloc (.cells #[.int .i64 (i)] 3 (0, 0))) [] (by kernel_rfl) trivial (fun act151 w148 hw149 f150 => ?_)
    clear f146
    have g152 := gr_alloc hw149
    have szw148 := g152.size
    have e155 := e130.gr g152 no_row
    clear e130
    have r156 := r131.gr g152 (fun _ h => by cases h)
    clear r131
    have r157 := r132.gr g152 (fun _ h => by cases h)
    clear r132
    have bx158 := bx133.gr g152 (by simp)
    clear bx133
    have bx159 := bx134.gr g152 (by simp)
    clear bx134
    have ow160 : OwnR w148 (Sx (w57.heap.size) [some (w125.heap.size), some (w84.heap.size), obk (A_78)]) A_73 c_74 3 (xa : List Int) := ow135.grA g152 (fun _ _ h => by cases h) (fun k hk hs => ⟨(fun e => by injection e; omega), hs.1, hs.2.1, hs.2.2⟩)
    clear ow135
    have ow161 : OwnR w148 (Sx (w57.heap.size) [some (w125.heap.size), some (w84.heap.size), obk (A_73)]) A_78 c_79 3 (xb : List Int) := ow136.grA g152 (fun _ _ h => by cases h) (fun k hk hs => ⟨(fun e => by injection e; omega), hs.1, hs.2.1, hs.2.2⟩)
    clear ow136
    have bx162 := bx127.gr g152 (by simp)
    clear bx127
    have bx154 : Bx w148 (w125.heap.size) [.int .i64 (i)] 3 := Bx.new hw149
    have := bx154.lt
    clear g152 hw149
    have hl167 : (xa ++ ([i])).length = (xa).length + ([i] : List Int).length := List.length_append
    simp only [List.length_cons, List.length_nil] at hl167
    refine At.act f150 (appendR (α := Int) (t := 22) (d := 31) (n := xa.length) (m := 1) (cc := 1) (xs := xa) (ys := [i]) (bytes := 8) (by first | rfl | omega | (simp; done) | (simp; omega)) (by first | rfl | omega | (simp; done) | (simp; omega)) (by kernel_rfl) rfl (by kernel_rfl) ow160 (Bx.srcR (l := ([i] : List Int)) bx154 rfl) (by simp only [List.length_cons, List.length_nil]; omega) (by simp only [List.length_cons, List.length_nil]; omega)) ?_
    rintro d_ v_ w166 ⟨rfl, A163, c164, ha165⟩
    obtain rfl := ha165.val
    have g168 := ha165.gr
    refine ⟨_, rfl, fun act170 f169 => ?_⟩
    clear f150
    clear bx154
    have ow171 := ha165.own (Sx (w57.heap.size) [some (w84.heap.size), obk (A_78)]) (fun g _ hs => ⟨hs.2.1, hs.2.2.1, hs.2.2.2⟩) ⟨(fun e => by injection e; omega), ow161.ne_new, (show w57.heap.size ≤ w148.heap.size by omega)⟩
    have szw166 := g168.size
    have e172 := e155.gr g168 (fun k hk => by have := ow160.ge k hk; omega)
    clear e155
    have r173 := r156.gr g168 (fun k hk => by have := ow160.ge k hk; omega)
    clear r156
    have r174 := r157.gr g168 (fun k hk => by have := ow160.ge k hk; omega)
    clear r157
    have bx175 := bx158.gr g168 (fun e => by have := ow160.ge _ e; omega)
    clear bx158
    have bx176 := bx159.gr g168 (fun e => by have := ow160.ge _ e; omega)
    clear bx159
    have ow177 : OwnR w166 (Sx (w57.heap.size) [some (w125.heap.size), some (w84.heap.size), obk (A163)]) A_78 c_79 3 (xb : List Int) := ow161.grA g168 (fun k hk => hk.2.2.1) (fun k hk hs => ⟨hs.1, hs.2.1, own_repl ha165.at_ hs.2.2.1 hk, hs.2.2.2⟩)
    clear ow161
    have bx178 := bx162.gr g168 (ow160.neb (fun g hs => hs.2.1))
    clear bx162
    clear ow160 g168 ha165
    refine At.rd f169 1 [[]] [(7, .slice A163 ((xa ++ ([i])).length) c164)] [] (by kernel_rfl) trivial (fun act180 f179 => ?_)
    clear f169
    refine At.done rfl ?_
    refine t_n ?_
    have f181 := f179.sub (r := [(7, .slice A163 ((xa ++ ([i])).length) c164), (11, .int .i64 (-1)), (9, .int .i64 (i)), (8, .slice A_78 xb.length c_79), (20, .int .i64 (i)), (19, .int .i64 (((ls.length : Nat) : Int))), (18, .slice As ls.length cs), (6, .pointer (some ⟨w38.heap.size, 0, none⟩)), (5, .slice none 0 0), (4, .slice none 0 0), (2, .pointer (some ⟨w.heap.size, 0, none⟩)), (1, .slice As ls.length cs)]) ⟨rfl, rfl, rfl, rfl, rfl, rfl, rfl, rfl, rfl, rfl, rfl, rfl, trivial⟩
    clear f179
    refine wp_seq ?_
    refine At.start ?_
    obtain ⟨ad182, hA183, _, _, hc184⟩ := RdI.get r173.ow (i) (by omega) (by omega)
    refine At.rd f181 6 [[], [.ld (.slice Ag0 g.ow.length cg0)], [], [.ad ad182], [.ld (.int .i64 (gI g.ow (i)))], []] [(37, .bool ((gI g.ow (i) : Int) == 0)), (36, .int .i64 (gI g.ow (i))), (35, .pointer (some (ad182.add ((i : Int).toNat * 1)))), (34, .int .i64 (i)), (33, .slice Ag0 g.ow.length cg0), (32, .pointer (some ⟨w.heap.size, 0, none⟩))] [(w166.cell? ⟨w.heap.size, 0, none⟩ = some (.slice Ag0 g.ow.length cg0)), (Ag0 = some ad182), (0 ≤ (i : Int)), ((i : Int) < (g.ow.length : Nat)), (w166.cell? (ad182.add ((i : Int).toNat * 1)) = some (.int .i64 (gI g.ow (i))))] (by kernel_rfl) ⟨(bx175.cell (i := 0) rfl), hA183, (by omega), (by omega), hc184, trivial⟩ (fun act186 f185 => ?_)
    clear f181
    refine At.done rfl ?_
    refine t_n ?_
    have f187 := f185.sub (r := [(37, .bool ((gI g.ow (i) : Int) == 0)), (7, .slice A163 ((xa ++ ([i])).length) c164), (11, .int .i64 (-1)), (9, .int .i64 (i)), (8, .slice A_78 xb.length c_79), (20, .int .i64 (i)), (19, .int .i64 (((ls.length : Nat) : Int))), (18, .slice As ls.length cs), (6, .pointer (some ⟨w38.heap.size, 0, none⟩)), (5, .slice none 0 0), (4, .slice none 0 0), (2, .pointer (some ⟨w.heap.size, 0, none⟩)), (1, .slice As ls.length cs)]) ⟨rfl, rfl, rfl, rfl, rfl, rfl, rfl, rfl, rfl, rfl, rfl, rfl, rfl, trivial⟩
    clear f185
    refine cond_S f187 (t := (gI g.ow (i) : Int) == 0) rfl (fun h188 => ?_) (fun h188 => ?_)
    ·have q189 := eq_of_beq h188
     refine At.start ?_
     refine At.rd f187 4 [[.ld (.slice Ag0 g.ow.length cg0), .ld (.slice Ag1 g.pr.length cg1), .ld (.slice Ag2 g.mv.length cg2)], [.ld (.int .i64 (cnt g.pr 1)), .ld (.int .i64 (cnt g.pr 3)), .ld (.int .i64 (cnt g.pr 5)), .ld (.int .i64 (cnt g.pr 7))], [], []] [(42, .int .i64 (i)), (41, .slice As ls.length cs), (40, .agg #[.int .i64 (cnt g.pr 1), .int .i64 (cnt g.pr 3), .int .i64 (cnt g.pr 5), .int .i64 (cnt g.pr 7)]), (39, .agg #[.slice Ag0 g.ow.length cg0, .slice Ag1 g.pr.length cg1, .slice Ag2 g.mv.length cg2])] [(w166.cell? ⟨w.heap.size, 0, none⟩ = some (.slice Ag0 g.ow.length cg0)), (w166.cell? ⟨w.heap.size, 1, none⟩ = some (.slice Ag1 g.pr.length cg1)), (w166.cell? ⟨w.heap.size, 2, none⟩ = some (.slice Ag2 g.mv.length cg2)), (w166.cell? ⟨w38.heap.size, 0, none⟩ = some (.int .i64 (cnt g.pr 1))), (w166.cell? ⟨w38.heap.size, 1, none⟩ = some (.int .i64 (cnt g.pr 3))), (w166.cell? ⟨w38.heap.size, 2, none⟩ = some (.int .i64 (cnt g.pr 5))), (w166.cell? ⟨w38.heap.size, 3, none⟩ = some (.int .i64 (cnt g.pr 7)))] (by kernel_rfl) ⟨(bx175.cell (i := 0) rfl), (bx175.cell (i := 1) rfl), (bx175.cell (i := 2) rfl), (bx176.cell (i := 0) rfl), (bx176.cell (i := 1) rfl), (bx176.cell (i := 2) rfl), (bx176.cell (i := 3) rfl), trivial⟩ (fun act191 f190 => ?_)
     clear f187
     refine At.call f190 47 #[.agg #[.slice Ag0 g.ow.length cg0, .slice Ag1 g.pr.length cg1, .slice Ag2 g.mv.length cg2], .agg #[.int .i64 (cnt g.pr 1), .int .i64 (cnt g.pr 3), .int .i64 (cnt g.pr 5), .int .i64 (cnt g.pr 7)], .slice As ls.length cs, .int .i64 (i)] (some 43) (by kernel_rfl) (best_any (ls := ls) (at_ := i) (r173.wide (Nat.zero_le _) (by omega)) (r174.wide (Nat.zero_le _) (by omega)) hG (by omega) (by assumption) (by omega) (by omega)) ?_
     rintro e_ w192 ⟨rfl, he⟩
     refine ⟨_, rfl, _, rfl, fun act193 f194 => ?_⟩
     clear f190
     have g195 := gr_ext he
     have szw192 := g195.size
     have e196 := e172.gr g195 no_row
     clear e172
     have r197 := r173.gr g195 (fun _ h => by cases h)
     clear r173
     have r198 := r174.gr g195 (fun _ h => by cases h)
     clear r174
     have bx199 := bx175.gr g195 (by simp)
     clear bx175
     have bx200 := bx176.gr g195 (by simp)
     clear bx176
     have ow201 := ow171.gr g195 (fun _ _ h => by cases h)
     clear ow171
     have ow202 := ow177.gr g195 (fun _ _ h => by cases h)
     clear ow177
     have bx203 := bx178.gr g195 (by simp)
     clear bx178
     clear g195 he
     refine At.rd f194 4 [[], [], [], []] [(11, .int .i64 ((bestB (upG g ls i) (gI g.ow i) (gL g.mv i)).2)), (45, .int .i64 ((bestB (upG g ls i) (gI g.ow i) (gL g.mv i)).2)), (44, tupV ((bestB (upG g ls i) (gI g.ow i) (gL g.mv i)).1)), (38, .tuple #[tupV ((bestB (upG g ls i) (gI g.ow i) (gL g.mv i)).1), .int .i64 ((bestB (upG g ls i) (gI g.ow i) (gL g.mv i)).2)])] [] (by kernel_rfl) trivial (fun act205 f204 => ?_)
     clear f194
     refine At.done rfl ?_
     refine t_n ?_
     have f206 := f204.sub (r := [(11, .int .i64 ((bestB (upG g ls i) (gI g.ow i) (gL g.mv i)).2)), (7, .slice A163 ((xa ++ ([i])).length) c164), (8, .slice A_78 xb.length c_79), (20, .int .i64 (i)), (19, .int .i64 (((ls.length : Nat) : Int))), (18, .slice As ls.length cs), (6, .pointer (some ⟨w38.heap.size, 0, none⟩)), (5, .slice none 0 0), (4, .slice none 0 0), (2, .pointer (some ⟨w.heap.size, 0, none⟩)), (1, .slice As ls.length cs)]) ⟨rfl, rfl, rfl, rfl, rfl, rfl, rfl, rfl, rfl, rfl, rfl, trivial⟩
     clear f204
     refine At.start ?_
     refine At.rd f206 2 [[], []] [(47, .int .i64 ((bestB (upG g ls i) (gI g.ow i) (gL g.mv i)).2)), (46, .slice A_78 xb.length c_79)] [] (by kernel_rfl) trivial (fun act208 f207 => ?_)
     clear f206
     refine At.seq f207 1 [[]] [(48, .slice (some ⟨w192.heap.size, 0, none⟩) 1 1)] (w192.alloc (.cells #[.int .i64 ((bestB (upG g ls i) (gI g.ow i) (gL g.mv i)).2)] 3 (0, 0))) [] (by kernel_rfl) trivial (fun act212 w209 hw210 f211 => ?_)
     clear f207
     have g213 := gr_alloc hw210
     have szw209 := g213.size
     have e216 := e196.gr g213 no_row
     clear e196
     have r217 := r197.gr g213 (fun _ h => by cases h)
     clear r197
     have r218 := r198.gr g213 (fun _ h => by cases h)
     clear r198
     have bx219 := bx199.gr g213 (by simp)
     clear bx199
     have bx220 := bx200.gr g213 (by simp)
     clear bx200
     have ow221 : OwnR w209 (Sx (w57.heap.size) [some (w192.heap.size), some (w84.heap.size), obk (A_78)]) A163 c164 3 (xa ++ ([i]) : List Int) := ow201.grA g213 (fun _ _ h => by cases h) (fun k hk hs => ⟨(fun e => by injection e; omega), hs.1, hs.2.1, hs.2.2⟩)
     clear ow201
     have ow222 : OwnR w209 (Sx (w57.heap.size) [some (w192.heap.size), some (w125.heap.size), some (w84.heap.size), obk (A163)]) A_78 c_79 3 (xb : List Int) := ow202.grA g213 (fun _ _ h => by cases h) (fun k hk hs => ⟨(fun e => by injection e; omega), hs.1, hs.2.1, hs.2.2.1, hs.2.2.2⟩)
     clear ow202
     have bx223 := bx203.gr g213 (by simp)
     clear bx203
     have bx215 : Bx w209 (w192.heap.size) [.int .i64 ((bestB (upG g ls i) (gI g.ow i) (gL g.mv i)).2)] 3 := Bx.new hw210
     have := bx215.lt
     clear g213 hw210
     have hl228 : (xb ++ ([(bestB (upG g ls i) (gI g.ow i) (gL g.mv i)).2])).length = (xb).length + ([(bestB (upG g ls i) (gI g.ow i) (gL g.mv i)).2] : List Int).length := List.length_append
     simp only [List.length_cons, List.length_nil] at hl228
     refine At.act f211 (appendR (α := Int) (t := 22) (d := 49) (n := xb.length) (m := 1) (cc := 1) (xs := xb) (ys := [(bestB (upG g ls i) (gI g.ow i) (gL g.mv i)).2]) (bytes := 8) (by first | rfl | omega | (simp; done) | (simp; omega)) (by first | rfl | omega | (simp; done) | (simp; omega)) (by kernel_rfl) rfl (by kernel_rfl) ow222 (Bx.srcR (l := ([(bestB (upG g ls i) (gI g.ow i) (gL g.mv i)).2] : List Int)) bx215 rfl) (by simp only [List.length_cons, List.length_nil]; omega) (by simp only [List.length_cons, List.length_nil]; omega)) ?_
     rintro d_ v_ w227 ⟨rfl, A224, c225, ha226⟩
     obtain rfl := ha226.val
     have g229 := ha226.gr
     refine ⟨_, rfl, fun act231 f230 => ?_⟩
     clear f211
     clear bx215
     have ow232 := ha226.own (Sx (w57.heap.size) [some (w84.heap.size), obk (A163)]) (fun g _ hs => ⟨hs.2.2.1, hs.2.2.2.1, hs.2.2.2.2⟩) ⟨(fun e => by injection e; omega), ow221.ne_new, (show w57.heap.size ≤ w209.heap.size by omega)⟩
     have szw227 := g229.size
     have e233 := e216.gr g229 (fun k hk => by have := ow222.ge k hk; omega)
     clear e216
     have r234 := r217.gr g229 (fun k hk => by have := ow222.ge k hk; omega)
     clear r217
     have r235 := r218.gr g229 (fun k hk => by have := ow222.ge k hk; omega)
     clear r218
     have bx236 := bx219.gr g229 (fun e => by have := ow222.ge _ e; omega)
     clear bx219
     have bx237 := bx220.gr g229 (fun e => by have := ow222.ge _ e; omega)
     clear bx220
     have ow238 : OwnR w227 (Sx (w57.heap.size) [some (w192.heap.size), some (w84.heap.size), obk (A224)]) A163 c164 3 (xa ++ ([i]) : List Int) := ow221.grA g229 (fun k hk => hk.2.2.1) (fun k hk hs => ⟨hs.1, hs.2.1, own_repl ha226.at_ hs.2.2.1 hk, hs.2.2.2⟩)
     clear ow221
     have bx239 := bx223.gr g229 (ow222.neb (fun g hs => hs.2.2.1))
     clear bx223
     clear ow222 g229 ha226
     refine At.rd f230 1 [[]] [(8, .slice A224 ((xb ++ ([(bestB (upG g ls i) (gI g.ow i) (gL g.mv i)).2])).length) c225)] [] (by kernel_rfl) trivial (fun act241 f240 => ?_)
     clear f230
     refine At.done rfl ?_
     refine b_n ?_
     refine t_n ?_
     have f242 := f240.sub (r := [(8, .slice A224 ((xb ++ ([(bestB (upG g ls i) (gI g.ow i) (gL g.mv i)).2])).length) c225), (7, .slice A163 ((xa ++ ([i])).length) c164), (20, .int .i64 (i)), (19, .int .i64 (((ls.length : Nat) : Int))), (18, .slice As ls.length cs), (6, .pointer (some ⟨w38.heap.size, 0, none⟩)), (5, .slice none 0 0), (4, .slice none 0 0), (2, .pointer (some ⟨w.heap.size, 0, none⟩)), (1, .slice As ls.length cs)]) ⟨rfl, rfl, rfl, rfl, rfl, rfl, rfl, rfl, rfl, rfl, trivial⟩
     clear f240
     refine At.start ?_
     refine At.rd f242 2 [[.as_ (.int .i64 (i + 1))], []] [(20, .int .i64 (i + 1)), (50, .int .i64 (i + 1))] [((.int .i64 (IntKind.i64.wrap (i + 1)) : Value) = .int .i64 (i + 1))] (by kernel_rfl) ⟨(w64 (by omega) (by omega)), trivial⟩ (fun act244 f243 => ?_)
     clear f242
     refine At.done rfl ?_
     refine t_n ?_
     have f245 := f243.as 8 (.slice A224 ((xb ++ ([(bestB (upG g ls i) (gI g.ow i) (gL g.mv i)).2])).length) c225) (.slice A224 ((xb ++ ([(bestB (upG g ls i) (gI g.ow i) (gL g.mv i)).2]) : List Int).length) c225) rfl (slice_len (by first | rfl | omega | (simp; done) | (simp; omega)))
     clear f243
     have f246 := f245.as 7 (.slice A163 ((xa ++ ([i])).length) c164) (.slice A163 ((xa ++ ([i]) : List Int).length) c164) rfl (slice_len (by first | rfl | omega | (simp; done) | (simp; omega)))
     clear f245
     have f247 := f246.sub (r := [(8, .slice A224 ((xb ++ ([(bestB (upG g ls i) (gI g.ow i) (gL g.mv i)).2]) : List Int).length) c225), (7, .slice A163 ((xa ++ ([i]) : List Int).length) c164), (20, .int .i64 (i + 1)), (19, .int .i64 (((ls.length : Nat) : Int))), (18, .slice As ls.length cs), (6, .pointer (some ⟨w38.heap.size, 0, none⟩)), (5, .slice none 0 0), (4, .slice none 0 0), (2, .pointer (some ⟨w.heap.size, 0, none⟩)), (1, .slice As ls.length cs)]) ⟨rfl, rfl, rfl, rfl, rfl, rfl, rfl, rfl, rfl, rfl, trivial⟩
     exact ⟨_, (by omega), (i + 1), (xa ++ ([i]) : List Int), A163, c164, (xb ++ ([(bestB (upG g ls i) (gI g.ow i) (gL g.mv i)).2]) : List Int), A224, c225, rfl, f247, e233, r234, r235, bx236, bx237, (ow238.imp (fun g _ hs => ⟨hs.2.2.1, hs.2.2.2⟩)), (ow232.imp (fun g _ hs => ⟨hs.2.1, hs.2.2⟩)), (by omega), (by omega), (evA_yes hxa (by omega) (by assumption)), (evB_next hxb (by omega) (by first | exact mvT_top (by assumption) | exact mvT_own (by assumption) (by omega) | exact mvT_oth (by assumption) (by omega))), (by omega)⟩
    ·have q248 := ne_of_beq_false h188
     refine wp_skip ?_
     refine t_n ?_
     have f249 := f187.sub (r := [(7, .slice A163 ((xa ++ ([i])).length) c164), (11, .int .i64 (-1)), (8, .slice A_78 xb.length c_79), (20, .int .i64 (i)), (19, .int .i64 (((ls.length : Nat) : Int))), (18, .slice As ls.length cs), (6, .pointer (some ⟨w38.heap.size, 0, none⟩)), (5, .slice none 0 0), (4, .slice none 0 0), (2, .pointer (some ⟨w.heap.size, 0, none⟩)), (1, .slice As ls.length cs)]) ⟨rfl, rfl, rfl, rfl, rfl, rfl, rfl, rfl, rfl, rfl, rfl, trivial⟩
     clear f187
     refine At.start ?_
     refine At.rd f249 2 [[], []] [(47, .int .i64 (-1)), (46, .slice A_78 xb.length c_79)] [] (by kernel_rfl) trivial (fun act251 f250 => ?_)
     clear f249
     refine At.seq f250 1 [[]] [(48, .slice (some ⟨w166.heap.size, 0, none⟩) 1 1)] (w166.alloc (.cells #[.int .i64 (-1)] 3 (0, 0))) [] (by kernel_rfl) trivial (fun act255 w252 hw253 f254 => ?_)
     clear f250
     have g256 := gr_alloc hw253
     have szw252 := g256.size
     have e259 := e172.gr g256 no_row
     clear e172
     have r260 := r173.gr g256 (fun _ h => by cases h)
     clear r173
     have r261 := r174.gr g256 (fun _ h => by cases h)
     clear r174
     have bx262 := bx175.gr g256 (by simp)
     clear bx175
     have bx263 := bx176.gr g256 (by simp)
     clear bx176
     have ow264 : OwnR w252 (Sx (w57.heap.size) [some (w166.heap.size), some (w84.heap.size), obk (A_78)]) A163 c164 3 (xa ++ ([i]) : List Int) := ow171.grA g256 (fun _ _ h => by cases h) (fun k hk hs => ⟨(fun e => by injection e; omega), hs.1, hs.2.1, hs.2.2⟩)
     clear ow171
     have ow265 : OwnR w252 (Sx (w57.heap.size) [some (w166.heap.size), some (w125.heap.size), some (w84.heap.size), obk (A163)]) A_78 c_79 3 (xb : List Int) := ow177.grA g256 (fun _ _ h => by cases h) (fun k hk hs => ⟨(fun e => by injection e; omega), hs.1, hs.2.1, hs.2.2.1, hs.2.2.2⟩)
     clear ow177
     have bx266 := bx178.gr g256 (by simp)
     clear bx178
     have bx258 : Bx w252 (w166.heap.size) [.int .i64 (-1)] 3 := Bx.new hw253
     have := bx258.lt
     clear g256 hw253
     have hl271 : (xb ++ ([-1])).length = (xb).length + ([-1] : List Int).length := List.length_append
     simp only [List.length_cons, List.length_nil] at hl271
     refine At.act f254 (appendR (α := Int) (t := 22) (d := 49) (n := xb.length) (m := 1) (cc := 1) (xs := xb) (ys := [-1]) (bytes := 8) (by first | rfl | omega | (simp; done) | (simp; omega)) (by first | rfl | omega | (simp; done) | (simp; omega)) (by kernel_rfl) rfl (by kernel_rfl) ow265 (Bx.srcR (l := ([-1] : List Int)) bx258 rfl) (by simp only [List.length_cons, List.length_nil]; omega) (by simp only [List.length_cons, List.length_nil]; omega)) ?_
     rintro d_ v_ w270 ⟨rfl, A267, c268, ha269⟩
     obtain rfl := ha269.val
     have g272 := ha269.gr
     refine ⟨_, rfl, fun act274 f273 => ?_⟩
     clear f254
     clear bx258
     have ow275 := ha269.own (Sx (w57.heap.size) [some (w84.heap.size), obk (A163)]) (fun g _ hs => ⟨hs.2.2.1, hs.2.2.2.1, hs.2.2.2.2⟩) ⟨(fun e => by injection e; omega), ow264.ne_new, (show w57.heap.size ≤ w252.heap.size by omega)⟩
     have szw270 := g272.size
     have e276 := e259.gr g272 (fun k hk => by have := ow265.ge k hk; omega)
     clear e259
     have r277 := r260.gr g272 (fun k hk => by have := ow265.ge k hk; omega)
     clear r260
     have r278 := r261.gr g272 (fun k hk => by have := ow265.ge k hk; omega)
     clear r261
     have bx279 := bx262.gr g272 (fun e => by have := ow265.ge _ e; omega)
     clear bx262
     have bx280 := bx263.gr g272 (fun e => by have := ow265.ge _ e; omega)
     clear bx263
     have ow281 : OwnR w270 (Sx (w57.heap.size) [some (w166.heap.size), some (w84.heap.size), obk (A267)]) A163 c164 3 (xa ++ ([i]) : List Int) := ow264.grA g272 (fun k hk => hk.2.2.1) (fun k hk hs => ⟨hs.1, hs.2.1, own_repl ha269.at_ hs.2.2.1 hk, hs.2.2.2⟩)
     clear ow264
     have bx282 := bx266.gr g272 (ow265.neb (fun g hs => hs.2.2.1))
     clear bx266
     clear ow265 g272 ha269
     refine At.rd f273 1 [[]] [(8, .slice A267 ((xb ++ ([-1])).length) c268)] [] (by kernel_rfl) trivial (fun act284 f283 => ?_)
     clear f273
     refine At.done rfl ?_
     refine b_n ?_
     refine t_n ?_
     have f285 := f283.sub (r := [(8, .slice A267 ((xb ++ ([-1])).length) c268), (7, .slice A163 ((xa ++ ([i])).length) c164), (20, .int .i64 (i)), (19, .int .i64 (((ls.length : Nat) : Int))), (18, .slice As ls.length cs), (6, .pointer (some ⟨w38.heap.size, 0, none⟩)), (5, .slice none 0 0), (4, .slice none 0 0), (2, .pointer (some ⟨w.heap.size, 0, none⟩)), (1, .slice As ls.length cs)]) ⟨rfl, rfl, rfl, rfl, rfl, rfl, rfl, rfl, rfl, rfl, trivial⟩
     clear f283
     refine At.start ?_
     refine At.rd f285 2 [[.as_ (.int .i64 (i + 1))], []] [(20, .int .i64 (i + 1)), (50, .int .i64 (i + 1))] [((.int .i64 (IntKind.i64.wrap (i + 1)) : Value) = .int .i64 (i + 1))] (by kernel_rfl) ⟨(w64 (by omega) (by omega)), trivial⟩ (fun act287 f286 => ?_)
     clear f285
     refine At.done rfl ?_
     refine t_n ?_
     have f288 := f286.as 8 (.slice A267 ((xb ++ ([-1])).length) c268) (.slice A267 ((xb ++ ([-1]) : List Int).length) c268) rfl (slice_len (by first | rfl | omega | (simp; done) | (simp; omega)))
     clear f286
     have f289 := f288.as 7 (.slice A163 ((xa ++ ([i])).length) c164) (.slice A163 ((xa ++ ([i]) : List Int).length) c164) rfl (slice_len (by first | rfl | omega | (simp; done) | (simp; omega)))
     clear f288
     have f290 := f289.sub (r := [(8, .slice A267 ((xb ++ ([-1]) : List Int).length) c268), (7, .slice A163 ((xa ++ ([i]) : List Int).length) c164), (20, .int .i64 (i + 1)), (19, .int .i64 (((ls.length : Nat) : Int))), (18, .slice As ls.length cs), (6, .pointer (some ⟨w38.heap.size, 0, none⟩)), (5, .slice none 0 0), (4, .slice none 0 0), (2, .pointer (some ⟨w.heap.size, 0, none⟩)), (1, .slice As ls.length cs)]) ⟨rfl, rfl, rfl, rfl, rfl, rfl, rfl, rfl, rfl, rfl, trivial⟩
     exact ⟨_, (by omega), (i + 1), (xa ++ ([i]) : List Int), A163, c164, (xb ++ ([-1]) : List Int), A267, c268, rfl, f290, e276, r277, r278, bx279, bx280, (ow281.imp (fun g _ hs => ⟨hs.2.2.1, hs.2.2.2⟩)), (ow275.imp (fun g _ hs => ⟨hs.2.1, hs.2.2⟩)), (by omega), (by omega), (evA_yes hxa (by omega) (by assumption)), (evB_next hxb (by omega) (by first | exact mvT_top (by assumption) | exact mvT_own (by assumption) (by omega) | exact mvT_oth (by assumption) (by omega))), (by omega)⟩
   ·have q291 : ((gT ls i).top) = true := by first | exact Eq.mp (Bool.not_eq_true' _) h143 | exact Eq.mp (Bool.not_eq_false' _) h143 | simpa using h143
    refine wp_skip ?_
    refine t_n ?_
    have f293 := f142.sub (r := [(11, .int .i64 (-1)), (8, .slice A_78 xb.length c_79), (7, .slice A_73 xa.length c_74), (20, .int .i64 (i)), (19, .int .i64 (((ls.length : Nat) : Int))), (18, .slice As ls.length cs), (6, .pointer (some ⟨w38.heap.size, 0, none⟩)), (5, .slice none 0 0), (4, .slice none 0 0), (2, .pointer (some ⟨w.heap.size, 0, none⟩)), (1, .slice As ls.length cs)]) ⟨rfl, rfl, rfl, rfl, rfl, rfl, rfl, rfl, rfl, rfl, rfl, trivial⟩
    clear f142
    refine At.start ?_
    refine At.rd f293 2 [[], []] [(47, .int .i64 (-1)), (46, .slice A_78 xb.length c_79)] [] (by kernel_rfl) trivial (fun act295 f294 => ?_)
    clear f293
    refine At.seq f294 1 [[]] [(48, .slice (some ⟨w125.heap.size, 0, none⟩) 1 1)] (w125.alloc (.cells #[.int .i64 (-1)] 3 (0, 0))) [] (by kernel_rfl) trivial (fun act299 w296 hw297 f298 => ?_)
    clear f294
    have g300 := gr_alloc hw297
    have szw296 := g300.size
    have e303 := e130.gr g300 no_row
    clear e130
    have r304 := r131.gr g300 (fun _ h => by cases h)
    clear r131
    have r305 := r132.gr g300 (fun _ h => by cases h)
    clear r132
    have bx306 := bx133.gr g300 (by simp)
    clear bx133
    have bx307 := bx134.gr g300 (by simp)
    clear bx134
    have ow308 : OwnR w296 (Sx (w57.heap.size) [some (w125.heap.size), some (w84.heap.size), obk (A_78)]) A_73 c_74 3 (xa : List Int) := ow135.grA g300 (fun _ _ h => by cases h) (fun k hk hs => ⟨(fun e => by injection e; omega), hs.1, hs.2.1, hs.2.2⟩)
    clear ow135
    have ow309 : OwnR w296 (Sx (w57.heap.size) [some (w125.heap.size), some (w84.heap.size), obk (A_73)]) A_78 c_79 3 (xb : List Int) := ow136.grA g300 (fun _ _ h => by cases h) (fun k hk hs => ⟨(fun e => by injection e; omega), hs.1, hs.2.1, hs.2.2⟩)
    clear ow136
    have bx310 := bx127.gr g300 (by simp)
    clear bx127
    have bx302 : Bx w296 (w125.heap.size) [.int .i64 (-1)] 3 := Bx.new hw297
    have := bx302.lt
    clear g300 hw297
    have hl315 : (xb ++ ([-1])).length = (xb).length + ([-1] : List Int).length := List.length_append
    simp only [List.length_cons, List.length_nil] at hl315
    refine At.act f298 (appendR (α := Int) (t := 22) (d := 49) (n := xb.length) (m := 1) (cc := 1) (xs := xb) (ys := [-1]) (bytes := 8) (by first | rfl | omega | (simp; done) | (simp; omega)) (by first | rfl | omega | (simp; done) | (simp; omega)) (by kernel_rfl) rfl (by kernel_rfl) ow309 (Bx.srcR (l := ([-1] : List Int)) bx302 rfl) (by simp only [List.length_cons, List.length_nil]; omega) (by simp only [List.length_cons, List.length_nil]; omega)) ?_
    rintro d_ v_ w314 ⟨rfl, A311, c312, ha313⟩
    obtain rfl := ha313.val
    have g316 := ha313.gr
    refine ⟨_, rfl, fun act318 f317 => ?_⟩
    clear f298
    clear bx302
    have ow319 := ha313.own (Sx (w57.heap.size) [some (w84.heap.size), obk (A_73)]) (fun g _ hs => ⟨hs.2.1, hs.2.2.1, hs.2.2.2⟩) ⟨(fun e => by injection e; omega), ow308.ne_new, (show w57.heap.size ≤ w296.heap.size by omega)⟩
    have szw314 := g316.size
    have e320 := e303.gr g316 (fun k hk => by have := ow309.ge k hk; omega)
    clear e303
    have r321 := r304.gr g316 (fun k hk => by have := ow309.ge k hk; omega)
    clear r304
    have r322 := r305.gr g316 (fun k hk => by have := ow309.ge k hk; omega)
    clear r305
    have bx323 := bx306.gr g316 (fun e => by have := ow309.ge _ e; omega)
    clear bx306
    have bx324 := bx307.gr g316 (fun e => by have := ow309.ge _ e; omega)
    clear bx307
    have ow325 : OwnR w314 (Sx (w57.heap.size) [some (w125.heap.size), some (w84.heap.size), obk (A311)]) A_73 c_74 3 (xa : List Int) := ow308.grA g316 (fun k hk => hk.2.2.1) (fun k hk hs => ⟨hs.1, hs.2.1, own_repl ha313.at_ hs.2.2.1 hk, hs.2.2.2⟩)
    clear ow308
    have bx326 := bx310.gr g316 (ow309.neb (fun g hs => hs.2.1))
    clear bx310
    clear ow309 g316 ha313
    refine At.rd f317 1 [[]] [(8, .slice A311 ((xb ++ ([-1])).length) c312)] [] (by kernel_rfl) trivial (fun act328 f327 => ?_)
    clear f317
    refine At.done rfl ?_
    refine b_n ?_
    refine t_n ?_
    have f329 := f327.sub (r := [(8, .slice A311 ((xb ++ ([-1])).length) c312), (7, .slice A_73 xa.length c_74), (20, .int .i64 (i)), (19, .int .i64 (((ls.length : Nat) : Int))), (18, .slice As ls.length cs), (6, .pointer (some ⟨w38.heap.size, 0, none⟩)), (5, .slice none 0 0), (4, .slice none 0 0), (2, .pointer (some ⟨w.heap.size, 0, none⟩)), (1, .slice As ls.length cs)]) ⟨rfl, rfl, rfl, rfl, rfl, rfl, rfl, rfl, rfl, rfl, trivial⟩
    clear f327
    refine At.start ?_
    refine At.rd f329 2 [[.as_ (.int .i64 (i + 1))], []] [(20, .int .i64 (i + 1)), (50, .int .i64 (i + 1))] [((.int .i64 (IntKind.i64.wrap (i + 1)) : Value) = .int .i64 (i + 1))] (by kernel_rfl) ⟨(w64 (by omega) (by omega)), trivial⟩ (fun act331 f330 => ?_)
    clear f329
    refine At.done rfl ?_
    refine t_n ?_
    have f332 := f330.as 8 (.slice A311 ((xb ++ ([-1])).length) c312) (.slice A311 ((xb ++ ([-1]) : List Int).length) c312) rfl (slice_len (by first | rfl | omega | (simp; done) | (simp; omega)))
    clear f330
    have f333 := f332.as 7 (.slice A_73 xa.length c_74) (.slice A_73 ((xa : List Int).length) c_74) rfl (slice_len (by first | rfl | omega | (simp; done) | (simp; omega)))
    clear f332
    have f334 := f333.sub (r := [(8, .slice A311 ((xb ++ ([-1]) : List Int).length) c312), (7, .slice A_73 ((xa : List Int).length) c_74), (20, .int .i64 (i + 1)), (19, .int .i64 (((ls.length : Nat) : Int))), (18, .slice As ls.length cs), (6, .pointer (some ⟨w38.heap.size, 0, none⟩)), (5, .slice none 0 0), (4, .slice none 0 0), (2, .pointer (some ⟨w.heap.size, 0, none⟩)), (1, .slice As ls.length cs)]) ⟨rfl, rfl, rfl, rfl, rfl, rfl, rfl, rfl, rfl, rfl, trivial⟩
    exact ⟨_, (by omega), (i + 1), (xa : List Int), A_73, c_74, (xb ++ ([-1]) : List Int), A311, c312, rfl, f334, e320, r321, r322, bx323, bx324, (ow325.imp (fun g _ hs => ⟨hs.2.2.1, hs.2.2.2⟩)), (ow319.imp (fun g _ hs => ⟨hs.2.1, hs.2.2⟩)), (by omega), (by omega), (evA_no hxa (by omega) (by assumption)), (evB_next hxb (by omega) (by first | exact mvT_top (by assumption) | exact mvT_own (by assumption) (by omega) | exact mvT_oth (by assumption) (by omega))), (by omega)⟩
  ·have q335 := of_decide_eq_false h99
   refine wp_exit ?_
   refine t_e ?_
   refine t_e ?_
   refine b_e ?_
   refine t_n ?_
   have f336 := f97.sub (r := [(8, .slice A_78 xb.length c_79), (7, .slice A_73 xa.length c_74)]) ⟨rfl, rfl, trivial⟩
   clear f97
   refine wp_seq ?_
   refine At.start ?_
   refine At.rd f336 4 [[], [], [], []] [(5, .slice A_78 xb.length c_79), (4, .slice A_73 xa.length c_74), (52, .slice A_78 xb.length c_79), (51, .slice A_73 xa.length c_74)] [] (by kernel_rfl) trivial (fun act338 f337 => ?_)
   clear f336
   refine At.done rfl ?_
   refine t_n ?_
   have f339 := f337.sub (r := [(5, .slice A_78 xb.length c_79), (4, .slice A_73 xa.length c_74)]) ⟨rfl, rfl, trivial⟩
   clear f337
   refine wp_ret ?_
   refine ret_ f339 [] [.slice A_73 xa.length c_74, .slice A_78 xb.length c_79] [] (by kernel_rfl) trivial ?_
   exact ⟨A_73, c_74, A_78, c_79, _, _, rfl, e85, (ow92.imp (fun g _ hs => ⟨hs.1, (by have := Sx_base hs; show w.heap.size ≤ g; omega)⟩)), (ow93.imp (fun g _ hs => ⟨hs.1, (by have := Sx_base hs; show w.heap.size ≤ g; omega)⟩)), (evT_end hRR hxa hxb (by omega) (by omega))⟩

end Go.Proofs.Ytklbpajmoklheaa
