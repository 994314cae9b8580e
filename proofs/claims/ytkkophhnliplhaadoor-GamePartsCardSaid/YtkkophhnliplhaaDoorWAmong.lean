/-
  A walk of a Go function, printed by a program of this repo. Conditions: what the theorems name.
-/
import Derived.Test.YtkkophhnliplhaaDoorPureGame9
import Derived.Test.YtkkophhnliplhaaDoorWSetsP
import Derived.Test.YtkkophhnliplhaaDoorLem
import Derived.Test.YtkkophhnliplhaaDoorWIs
set_option linter.unusedVariables false
set_option linter.unusedSimpArgs false
namespace Go.Proofs.YtkkophhnliplhaaDoor
open Go Go.RowKit

attribute [local irreducible] ofZ fromW wordsD ofD ofW lsD lenW lenN fullW withW lessW hasW hasD inW inD leastD putD onI tzI orS andS minusS orD andD minusD fullD emptyD
set_option maxHeartbeats 4000000 in
theorem among_any {Aa : Option Addr} {ca : Nat} {la : List Int} {n : Int} {w : World} (ra : RdI w 0 w.heap.size Aa la) :
    Calls Tryd.prog 43 #[.slice Aa la.length ca, .int .i64 (n)] w fun e w' => e = .returned (.agg (((wordsD (amoD la n) : List Int)).map wV).toArray) ∧ Ext w w' := by
 have hla := ra.len
 refine enter_ (args := [.slice Aa la.length ca, .int .i64 (n)]) Tryd.func43 rfl Tryd.ntmps43 (Nat.le_of_ble_eq_true rfl) (fun act0 f0 => ?_)
 have e0 : Ext w w := Ext.refl w
 refine wp_seq ?_
 refine At.start ?_
 refine At.seq f0 1 [[]] [(4, .pointer (some ⟨w.heap.size, 0, none⟩))] (w.alloc (.cells ((List.replicate 4 (0 : Int) : List Int).map wV).toArray 47 (0, 0))) [] (by kernel_rfl) trivial (fun act4 w1 hw2 f3 => ?_)
 clear f0
 have g5 := gr_alloc hw2
 have szw1 := g5.size
 replace e0 := e0.gr g5 no_row
 have r8 := ra.gr g5 (fun _ h => by cases h)
 clear ra
 have bx9 : Bx w1 (w.heap.size) ((List.replicate 4 (0 : Int) : List Int).map wV) 47 := Bx.new hw2
 have := bx9.lt
 clear g5 hw2
 refine At.done rfl ?_
 refine t_n ?_
 refine wp_seq ?_
 refine At.start ?_
 refine At.seq f3 1 [[]] [(5, .pointer (some ⟨w1.heap.size, 0, none⟩))] (w1.alloc (.cells ((List.replicate 4 (0 : Int) : List Int).map wV).toArray 47 (0, 0))) [] (by kernel_rfl) trivial (fun act13 w10 hw11 f12 => ?_)
 clear f3
 have g14 := gr_alloc hw11
 have szw10 := g14.size
 replace e0 := e0.gr g14 no_row
 replace r8 := r8.gr g14 (fun _ h => by cases h)
 replace bx9 := bx9.gr g14 (by simp)
 have bx19 : Bx w10 (w1.heap.size) ((List.replicate 4 (0 : Int) : List Int).map wV) 47 := Bx.new hw11
 have := bx19.lt
 clear g14 hw11
 refine At.done rfl ?_
 refine t_n ?_
 refine wp_seq ?_
 refine wp_seq ?_
 refine At.start ?_
 refine At.rd f12 3 [[], [], []] [(10, .int .i64 (0)), (9, .int .i64 (((la.length : Nat) : Int))), (8, .slice Aa la.length ca)] [] (by kernel_rfl) trivial (fun act21 f20 => ?_)
 clear f12
 refine At.done rfl ?_
 refine t_n ?_
 have f22 := f20.sub (r := [(10, .int .i64 (0)), (9, .int .i64 (((la.length : Nat) : Int))), (8, .slice Aa la.length ca), (5, .pointer (some ⟨w1.heap.size, 0, none⟩)), (4, .pointer (some ⟨w.heap.size, 0, none⟩)), (1, .int .i64 (n))]) ⟨rfl, rfl, rfl, rfl, rfl, rfl, trivial⟩
 clear f20
 refine wp_block ?_
 have f23 := f22.sub (r := [(10, .int .i64 (0)), (9, .int .i64 (((la.length : Nat) : Int))), (8, .slice Aa la.length ca), (5, .pointer (some ⟨w1.heap.size, 0, none⟩)), (4, .pointer (some ⟨w.heap.size, 0, none⟩)), (1, .int .i64 (n))]) ⟨rfl, rfl, rfl, rfl, rfl, rfl, trivial⟩
 refine loop_g (fun (m_ : Nat) a_ w_ => ∃ (k : Int) (xs : List Int), m_ = ((la.length : Int) - k).toNat ∧ (Frm 23 a_ [(10, .int .i64 (k)), (9, .int .i64 (((la.length : Nat) : Int))), (8, .slice Aa la.length ca), (5, .pointer (some ⟨w1.heap.size, 0, none⟩)), (4, .pointer (some ⟨w.heap.size, 0, none⟩)), (1, .int .i64 (n))]) ∧ (Ext w w_) ∧ (RdI w_ 0 w.heap.size Aa la) ∧ (Bx w_ (w.heap.size) ((List.replicate 4 (0 : Int) : List Int).map wV) 47) ∧ (Bx w_ (w1.heap.size) ((xs : List Int).map wV) 47) ∧ (0 ≤ k) ∧ (k ≤ (la.length : Int)) ∧ (AmoT la n xs k) ∧ (xs.length = 4)) _ ⟨0, List.replicate 4 (0 : Int), rfl, f23, e0, r8, bx9, bx19, (by omega), (by omega), amo_0, rfl⟩ ?_
 clear f23 f22
 clear r8
 clear bx9
 clear bx19
 clear e0
 intro m_ act24 w25 ⟨k, xs, hm27, f28, e26, r29, bx30, bx31, i32, i33, hat, i34⟩
 have szw25 := e26.size
 have := bx30.lt
 have := bx31.lt
 have hok_ := hat.ok
 refine wp_seq ?_
 refine At.start ?_
 refine At.rd f28 1 [[]] [(11, .bool (decide ((k : Int) < ((la.length : Nat) : Int))))] [] (by kernel_rfl) trivial (fun act36 f35 => ?_)
 clear f28
 refine At.done rfl ?_
 refine t_n ?_
 refine wp_seq ?_
 refine cond_S f35 (t := decide ((k : Int) < ((la.length : Nat) : Int))) rfl (fun h37 => ?_) (fun h37 => ?_)
 ·have q38 := of_decide_eq_true h37
  refine wp_skip ?_
  refine t_n ?_
  have f39 := f35.sub (r := [(10, .int .i64 (k)), (9, .int .i64 (((la.length : Nat) : Int))), (8, .slice Aa la.length ca), (5, .pointer (some ⟨w1.heap.size, 0, none⟩)), (4, .pointer (some ⟨w.heap.size, 0, none⟩)), (1, .int .i64 (n))]) ⟨rfl, rfl, rfl, rfl, rfl, rfl, trivial⟩
  clear f35
  refine wp_seq ?_
  refine wp_block ?_
  refine wp_seq ?_
  refine At.start ?_
  obtain ⟨ad40, hA41, _, _, hc42⟩ := RdI.get r29 (k) (by omega) (by omega)
  refine At.rd f39 5 [[], [.ad ad40], [.ld (.int .i64 (gI la (k)))], [], []] [(7, .int .i64 (gI la (k))), (6, .int .i64 (k)), (14, .int .i64 (gI la (k))), (13, .pointer (some (ad40.add ((k : Int).toNat * 1)))), (12, .int .i64 (k))] [(Aa = some ad40), (0 ≤ (k : Int)), ((k : Int) < (la.length : Nat)), (w25.cell? (ad40.add ((k : Int).toNat * 1)) = some (.int .i64 (gI la (k))))] (by kernel_rfl) ⟨hA41, (by omega), (by omega), hc42, trivial⟩ (fun act44 f43 => ?_)
  clear f39
  refine At.done rfl ?_
  refine t_n ?_
  have f45 := f43.sub (r := [(7, .int .i64 (gI la (k))), (6, .int .i64 (k)), (10, .int .i64 (k)), (9, .int .i64 (((la.length : Nat) : Int))), (8, .slice Aa la.length ca), (5, .pointer (some ⟨w1.heap.size, 0, none⟩)), (4, .pointer (some ⟨w.heap.size, 0, none⟩)), (1, .int .i64 (n))]) ⟨rfl, rfl, rfl, rfl, rfl, rfl, rfl, rfl, trivial⟩
  clear f43
  refine wp_seq ?_
  refine At.start ?_
  refine At.rd f45 3 [[], [], []] [(17, .bool ((gI la (k) : Int) == n)), (16, .int .i64 (n)), (15, .int .i64 (gI la (k)))] [] (by kernel_rfl) trivial (fun act47 f46 => ?_)
  clear f45
  refine At.done rfl ?_
  refine t_n ?_
  have f48 := f46.sub (r := [(17, .bool ((gI la (k) : Int) == n)), (6, .int .i64 (k)), (10, .int .i64 (k)), (9, .int .i64 (((la.length : Nat) : Int))), (8, .slice Aa la.length ca), (5, .pointer (some ⟨w1.heap.size, 0, none⟩)), (4, .pointer (some ⟨w.heap.size, 0, none⟩)), (1, .int .i64 (n))]) ⟨rfl, rfl, rfl, rfl, rfl, rfl, rfl, rfl, trivial⟩
  clear f46
  refine cond_S f48 (t := (gI la (k) : Int) == n) rfl (fun h49 => ?_) (fun h49 => ?_)
  ·have q50 := eq_of_beq h49
   refine At.start ?_
   refine At.rd f48 2 [[.cs ((xs : List Int).map wV)], []] [(19, .int .i64 (k)), (18, .agg ((xs : List Int).map wV).toArray)] [(((xs : List Int).map wV).length = 4), (∀ (j : Nat) (v : Value), ((xs : List Int).map wV)[j]? = some v → w25.cell? ((⟨w1.heap.size, 0, none⟩ : Addr).add j) = some v)] (by kernel_rfl) ⟨((List.length_map _).trans (by assumption)), bx31.whole, trivial⟩ (fun act52 f51 => ?_)
   clear f48
   refine At.call f51 44 #[.agg ((xs : List Int).map wV).toArray, .int .i64 (k)] (some 20) (by kernel_rfl) (with_any (s := xs) (n := k) (by assumption)) ?_
   rintro e_ w53 ⟨rfl, he⟩
   refine ⟨_, rfl, _, rfl, fun act54 f55 => ?_⟩
   clear f51
   have g56 := gr_ext he
   have szw53 := g56.size
   replace e26 := e26.gr g56 no_row
   replace r29 := r29.gr g56 (fun _ h => by cases h)
   replace bx30 := bx30.gr g56 (by simp)
   replace bx31 := bx31.gr g56 (by simp)
   clear g56 he
   refine At.act f55 (storeBlk (t := 47) (b := w1.heap.size) (n := 4) (cs' := ((withW xs k : List Int).map wV)) (by kernel_rfl) (by kernel_rfl) ((List.length_map _).trans (okLen (okW_with (by assumption)))) oneW_ ((show ((withW xs k : List Int).map wV).length = 4 from ((List.length_map _).trans (okLen (okW_with (by assumption))))).trans (show ((xs : List Int).map wV).length = 4 from ((List.length_map _).trans (by assumption))).symm) bx31) ?_
   rintro d_ v_ w61 ⟨rfl, g62, bx63⟩
   refine ⟨_, rfl, fun act65 f64 => ?_⟩
   clear f55
   have szw61 := g62.size
   replace e26 := e26.gr g62 (fun k h => by injection h; omega)
   replace r29 := r29.gr g62 (fun k h => by injection h; omega)
   replace bx30 := bx30.gr g62 (fun h => by injection h; omega)
   clear bx31 g62
   refine At.done rfl ?_
   refine b_n ?_
   refine t_n ?_
   have f69 := f64.sub (r := [(10, .int .i64 (k)), (9, .int .i64 (((la.length : Nat) : Int))), (8, .slice Aa la.length ca), (5, .pointer (some ⟨w1.heap.size, 0, none⟩)), (4, .pointer (some ⟨w.heap.size, 0, none⟩)), (1, .int .i64 (n))]) ⟨rfl, rfl, rfl, rfl, rfl, rfl, trivial⟩
   clear f64
   refine At.start ?_
   refine At.rd f69 2 [[.as_ (.int .i64 (k + 1))], []] [(10, .int .i64 (k + 1)), (21, .int .i64 (k + 1))] [((.int .i64 (IntKind.i64.wrap (k + 1)) : Value) = .int .i64 (k + 1))] (by kernel_rfl) ⟨(w64 (by omega) (by omega)), trivial⟩ (fun act71 f70 => ?_)
   clear f69
   refine At.done rfl ?_
   refine t_n ?_
   have f72 := f70.sub (r := [(10, .int .i64 (k + 1)), (9, .int .i64 (((la.length : Nat) : Int))), (8, .slice Aa la.length ca), (5, .pointer (some ⟨w1.heap.size, 0, none⟩)), (4, .pointer (some ⟨w.heap.size, 0, none⟩)), (1, .int .i64 (n))]) ⟨rfl, rfl, rfl, rfl, rfl, rfl, trivial⟩
   exact ⟨_, (by omega), (k + 1), withW xs k, rfl, f72, e26, r29, bx30, bx63, (by omega), (by omega), (amo_yes hat (by omega) (by omega) (by omega)), (okW_with hat.ok).1⟩
  ·have q73 := ne_of_beq_false h49
   refine wp_skip ?_
   refine b_n ?_
   refine t_n ?_
   have f74 := f48.sub (r := [(10, .int .i64 (k)), (9, .int .i64 (((la.length : Nat) : Int))), (8, .slice Aa la.length ca), (5, .pointer (some ⟨w1.heap.size, 0, none⟩)), (4, .pointer (some ⟨w.heap.size, 0, none⟩)), (1, .int .i64 (n))]) ⟨rfl, rfl, rfl, rfl, rfl, rfl, trivial⟩
   clear f48
   refine At.start ?_
   refine At.rd f74 2 [[.as_ (.int .i64 (k + 1))], []] [(10, .int .i64 (k + 1)), (21, .int .i64 (k + 1))] [((.int .i64 (IntKind.i64.wrap (k + 1)) : Value) = .int .i64 (k + 1))] (by kernel_rfl) ⟨(w64 (by omega) (by omega)), trivial⟩ (fun act76 f75 => ?_)
   clear f74
   refine At.done rfl ?_
   refine t_n ?_
   have f77 := f75.sub (r := [(10, .int .i64 (k + 1)), (9, .int .i64 (((la.length : Nat) : Int))), (8, .slice Aa la.length ca), (5, .pointer (some ⟨w1.heap.size, 0, none⟩)), (4, .pointer (some ⟨w.heap.size, 0, none⟩)), (1, .int .i64 (n))]) ⟨rfl, rfl, rfl, rfl, rfl, rfl, trivial⟩
   exact ⟨_, (by omega), (k + 1), xs, rfl, f77, e26, r29, bx30, bx31, (by omega), (by omega), (amo_no hat (by omega)), hat.ok.1⟩
 ·have q78 := of_decide_eq_false h37
  refine wp_exit ?_
  refine t_e ?_
  refine t_e ?_
  refine b_e ?_
  refine t_n ?_
  have f79 := f35.sub (r := [(5, .pointer (some ⟨w1.heap.size, 0, none⟩)), (4, .pointer (some ⟨w.heap.size, 0, none⟩))]) ⟨rfl, rfl, trivial⟩
  clear f35
  refine wp_seq ?_
  refine At.start ?_
  refine At.rd f79 1 [[.cs ((xs : List Int).map wV)]] [(22, .agg ((xs : List Int).map wV).toArray)] [(((xs : List Int).map wV).length = 4), (∀ (j : Nat) (v : Value), ((xs : List Int).map wV)[j]? = some v → w25.cell? ((⟨w1.heap.size, 0, none⟩ : Addr).add j) = some v)] (by kernel_rfl) ⟨((List.length_map _).trans (by assumption)), bx31.whole, trivial⟩ (fun act81 f80 => ?_)
  clear f79
  refine At.act f80 (storeBlk (t := 47) (b := w.heap.size) (n := 4) (cs' := ((xs : List Int).map wV)) (by kernel_rfl) (by kernel_rfl) ((List.length_map _).trans (by assumption)) oneW_ ((show ((xs : List Int).map wV).length = 4 from ((List.length_map _).trans (by assumption))).trans (show ((List.replicate 4 (0 : Int) : List Int).map wV).length = 4 from (by simp only [List.length_map, List.length_set, List.length_replicate, List.length_cons, List.length_nil]; first | done | assumption | exact from_len _ | exact of_len _ | exact ofZ_len _ | exact (ofW_ok _).1 | exact (fullW_W _).1 | exact (okW_with (by assumption)).1 | exact (okW_less (by assumption)).1 | exact put_len (from_len _) | exact orD_len _ _ | exact andD_len _ _ | exact minusD_len _ _ | exact fullD_len _ | (refine okLen ?_; (repeat (first | assumption | exact ofW_ok _ | exact fullW_W _ | apply okW_with | apply okW_less | refine okW_orS ?_ ?_ | refine okW_andS ?_ ?_ | refine okW_minusS ?_ ?_)); done) | omega | rfl)).symm) bx30) ?_
  rintro d_ v_ w82 ⟨rfl, g83, bx84⟩
  refine ⟨_, rfl, fun act86 f85 => ?_⟩
  clear f80
  have szw82 := g83.size
  replace e26 := e26.gr g83 (fun k h => by injection h; omega)
  replace r29 := r29.gr g83 (fun k h => by injection h; omega)
  replace bx31 := bx31.gr g83 (fun h => by injection h; omega)
  clear bx30 g83
  refine At.done rfl ?_
  refine t_n ?_
  have f90 := f85.sub (r := [(4, .pointer (some ⟨w.heap.size, 0, none⟩))]) ⟨rfl, trivial⟩
  clear f85
  refine wp_ret ?_
  refine retB_ f90 (sl := 4) (cs := ((xs : List Int).map wV)) (m := 4) rfl (by kernel_rfl) (by kernel_rfl) ((List.length_map _).trans (by assumption)) bx84 ?_
  exact ⟨ret_map (amo_end hat (by omega)), e26⟩

set_option maxHeartbeats 4000000 in
theorem ownG_any {Ag0 Ag1 Ag2 : Option Addr} {cg0 cg1 cg2 : Nat} {g : GameL} {p : Int} {w : World} (rg : RdG w 0 w.heap.size Ag0 Ag1 Ag2 cg0 cg1 cg2 g) :
    Calls Tryd.prog 27 #[.agg #[.slice Ag0 g.ow.length cg0, .slice Ag1 g.pr.length cg1, .slice Ag2 g.mv.length cg2], .int .i64 (p)] w fun e w' => e = .returned (.agg (((wordsD (amoD g.ow p) : List Int)).map wV).toArray) ∧ Ext w w' := by
 have hlg0 := rg.ow.len
 have hlg1 := rg.pr.len
 have hlg2 := rg.mv.len
 have hkg0 := rg.k0
 have hkg1 := rg.k1
 have hkg2 := rg.k2
 refine enter_ (args := [.agg #[.slice Ag0 g.ow.length cg0, .slice Ag1 g.pr.length cg1, .slice Ag2 g.mv.length cg2], .int .i64 (p)]) Tryd.func27 rfl Tryd.ntmps27 (Nat.le_of_ble_eq_true rfl) (fun act0 f0 => ?_)
 have e0 : Ext w w := Ext.refl w
 refine wp_seq ?_
 refine At.start ?_
 refine At.seq f0 1 [[]] [(2, .pointer (some ⟨w.heap.size, 0, none⟩))] (w.alloc (.cells #[.slice Ag0 g.ow.length cg0, .slice Ag1 g.pr.length cg1, .slice Ag2 g.mv.length cg2] 25 (0, 0))) [] (by kernel_rfl) trivial (fun act4 w1 hw2 f3 => ?_)
 clear f0
 have g5 := gr_alloc hw2
 have szw1 := g5.size
 replace e0 := e0.gr g5 no_row
 have r8 := rg.gr g5 (fun _ h => by cases h)
 clear rg
 have bx9 : Bx w1 (w.heap.size) [.slice Ag0 g.ow.length cg0, .slice Ag1 g.pr.length cg1, .slice Ag2 g.mv.length cg2] 25 := Bx.new hw2
 have := bx9.lt
 clear g5 hw2
 refine At.seq f3 1 [[]] [(4, .pointer (some ⟨w1.heap.size, 0, none⟩))] (w1.alloc (.cells ((List.replicate 4 (0 : Int) : List Int).map wV).toArray 47 (0, 0))) [] (by kernel_rfl) trivial (fun act13 w10 hw11 f12 => ?_)
 clear f3
 have g14 := gr_alloc hw11
 have szw10 := g14.size
 replace e0 := e0.gr g14 no_row
 replace r8 := r8.gr g14 (fun _ h => by cases h)
 replace bx9 := bx9.gr g14 (by simp)
 have bx19 : Bx w10 (w1.heap.size) ((List.replicate 4 (0 : Int) : List Int).map wV) 47 := Bx.new hw11
 have := bx19.lt
 clear g14 hw11
 refine At.done rfl ?_
 refine t_n ?_
 have f20 := f12.sub (r := [(4, .pointer (some ⟨w1.heap.size, 0, none⟩)), (2, .pointer (some ⟨w.heap.size, 0, none⟩)), (1, .int .i64 (p))]) ⟨rfl, rfl, rfl, trivial⟩
 clear f12
 refine wp_seq ?_
 refine At.start ?_
 refine At.rd f20 3 [[], [.ld (.slice Ag0 g.ow.length cg0)], []] [(7, .int .i64 (p)), (6, .slice Ag0 g.ow.length cg0), (5, .pointer (some ⟨w.heap.size, 0, none⟩))] [(w10.cell? ⟨w.heap.size, 0, none⟩ = some (.slice Ag0 g.ow.length cg0))] (by kernel_rfl) ⟨(bx9.cell (i := 0) rfl), trivial⟩ (fun act22 f21 => ?_)
 clear f20
 refine At.call f21 43 #[.slice Ag0 g.ow.length cg0, .int .i64 (p)] (some 8) (by kernel_rfl) (among_any (la := g.ow) (n := p) (r8.ow.wide (Nat.zero_le _) (by omega))) ?_
 rintro e_ w23 ⟨rfl, he⟩
 refine ⟨_, rfl, _, rfl, fun act24 f25 => ?_⟩
 clear f21
 have g26 := gr_ext he
 have szw23 := g26.size
 replace e0 := e0.gr g26 no_row
 replace r8 := r8.gr g26 (fun _ h => by cases h)
 replace bx9 := bx9.gr g26 (by simp)
 replace bx19 := bx19.gr g26 (by simp)
 clear g26 he
 refine At.act f25 (storeBlk (t := 47) (b := w1.heap.size) (n := 4) (cs' := ((wordsD (amoD g.ow p) : List Int).map wV)) (by kernel_rfl) (by kernel_rfl) ((List.length_map _).trans (okLen (wordsD_W _))) oneW_ ((show ((wordsD (amoD g.ow p) : List Int).map wV).length = 4 from ((List.length_map _).trans (okLen (wordsD_W _)))).trans (show ((List.replicate 4 (0 : Int) : List Int).map wV).length = 4 from (by simp only [List.length_map, List.length_set, List.length_replicate, List.length_cons, List.length_nil]; first | done | assumption | exact from_len _ | exact of_len _ | exact ofZ_len _ | exact (ofW_ok _).1 | exact (fullW_W _).1 | exact (okW_with (by assumption)).1 | exact (okW_less (by assumption)).1 | exact put_len (from_len _) | exact orD_len _ _ | exact andD_len _ _ | exact minusD_len _ _ | exact fullD_len _ | (refine okLen ?_; (repeat (first | assumption | exact ofW_ok _ | exact fullW_W _ | apply okW_with | apply okW_less | refine okW_orS ?_ ?_ | refine okW_andS ?_ ?_ | refine okW_minusS ?_ ?_)); done) | omega | rfl)).symm) bx19) ?_
 rintro d_ v_ w31 ⟨rfl, g32, bx33⟩
 refine ⟨_, rfl, fun act35 f34 => ?_⟩
 clear f25
 have szw31 := g32.size
 replace e0 := e0.gr g32 (fun k h => by injection h; omega)
 replace r8 := r8.gr g32 (fun k h => by injection h; omega)
 replace bx9 := bx9.gr g32 (fun h => by injection h; omega)
 clear bx19 g32
 refine At.done rfl ?_
 refine t_n ?_
 have f39 := f34.sub (r := [(4, .pointer (some ⟨w1.heap.size, 0, none⟩))]) ⟨rfl, trivial⟩
 clear f34
 refine wp_ret ?_
 refine retB_ f39 (sl := 4) (cs := ((wordsD (amoD g.ow p) : List Int).map wV)) (m := 4) rfl (by kernel_rfl) (by kernel_rfl) ((List.length_map _).trans (okLen (wordsD_W _))) bx33 ?_
 exact ⟨rfl, e0⟩

set_option maxHeartbeats 4000000 in
theorem atG_any {Ag0 Ag1 Ag2 : Option Addr} {cg0 cg1 cg2 : Nat} {g : GameL} {p : Int} {w : World} (rg : RdG w 0 w.heap.size Ag0 Ag1 Ag2 cg0 cg1 cg2 g) :
    Calls Tryd.prog 28 #[.agg #[.slice Ag0 g.ow.length cg0, .slice Ag1 g.pr.length cg1, .slice Ag2 g.mv.length cg2], .int .i64 (p)] w fun e w' => e = .returned (.agg (((wordsD (amoD g.pr p) : List Int)).map wV).toArray) ∧ Ext w w' := by
 have hlg0 := rg.ow.len
 have hlg1 := rg.pr.len
 have hlg2 := rg.mv.len
 have hkg0 := rg.k0
 have hkg1 := rg.k1
 have hkg2 := rg.k2
 refine enter_ (args := [.agg #[.slice Ag0 g.ow.length cg0, .slice Ag1 g.pr.length cg1, .slice Ag2 g.mv.length cg2], .int .i64 (p)]) Tryd.func28 rfl Tryd.ntmps28 (Nat.le_of_ble_eq_true rfl) (fun act0 f0 => ?_)
 have e0 : Ext w w := Ext.refl w
 refine wp_seq ?_
 refine At.start ?_
 refine At.seq f0 1 [[]] [(2, .pointer (some ⟨w.heap.size, 0, none⟩))] (w.alloc (.cells #[.slice Ag0 g.ow.length cg0, .slice Ag1 g.pr.length cg1, .slice Ag2 g.mv.length cg2] 25 (0, 0))) [] (by kernel_rfl) trivial (fun act4 w1 hw2 f3 => ?_)
 clear f0
 have g5 := gr_alloc hw2
 have szw1 := g5.size
 replace e0 := e0.gr g5 no_row
 have r8 := rg.gr g5 (fun _ h => by cases h)
 clear rg
 have bx9 : Bx w1 (w.heap.size) [.slice Ag0 g.ow.length cg0, .slice Ag1 g.pr.length cg1, .slice Ag2 g.mv.length cg2] 25 := Bx.new hw2
 have := bx9.lt
 clear g5 hw2
 refine At.seq f3 1 [[]] [(4, .pointer (some ⟨w1.heap.size, 0, none⟩))] (w1.alloc (.cells ((List.replicate 4 (0 : Int) : List Int).map wV).toArray 47 (0, 0))) [] (by kernel_rfl) trivial (fun act13 w10 hw11 f12 => ?_)
 clear f3
 have g14 := gr_alloc hw11
 have szw10 := g14.size
 replace e0 := e0.gr g14 no_row
 replace r8 := r8.gr g14 (fun _ h => by cases h)
 replace bx9 := bx9.gr g14 (by simp)
 have bx19 : Bx w10 (w1.heap.size) ((List.replicate 4 (0 : Int) : List Int).map wV) 47 := Bx.new hw11
 have := bx19.lt
 clear g14 hw11
 refine At.done rfl ?_
 refine t_n ?_
 have f20 := f12.sub (r := [(4, .pointer (some ⟨w1.heap.size, 0, none⟩)), (2, .pointer (some ⟨w.heap.size, 0, none⟩)), (1, .int .i64 (p))]) ⟨rfl, rfl, rfl, trivial⟩
 clear f12
 refine wp_seq ?_
 refine At.start ?_
 refine At.rd f20 3 [[], [.ld (.slice Ag1 g.pr.length cg1)], []] [(7, .int .i64 (p)), (6, .slice Ag1 g.pr.length cg1), (5, .pointer (some ⟨w.heap.size, 1, none⟩))] [(w10.cell? ⟨w.heap.size, 1, none⟩ = some (.slice Ag1 g.pr.length cg1))] (by kernel_rfl) ⟨(bx9.cell (i := 1) rfl), trivial⟩ (fun act22 f21 => ?_)
 clear f20
 refine At.call f21 43 #[.slice Ag1 g.pr.length cg1, .int .i64 (p)] (some 8) (by kernel_rfl) (among_any (la := g.pr) (n := p) (r8.pr.wide (Nat.zero_le _) (by omega))) ?_
 rintro e_ w23 ⟨rfl, he⟩
 refine ⟨_, rfl, _, rfl, fun act24 f25 => ?_⟩
 clear f21
 have g26 := gr_ext he
 have szw23 := g26.size
 replace e0 := e0.gr g26 no_row
 replace r8 := r8.gr g26 (fun _ h => by cases h)
 replace bx9 := bx9.gr g26 (by simp)
 replace bx19 := bx19.gr g26 (by simp)
 clear g26 he
 refine At.act f25 (storeBlk (t := 47) (b := w1.heap.size) (n := 4) (cs' := ((wordsD (amoD g.pr p) : List Int).map wV)) (by kernel_rfl) (by kernel_rfl) ((List.length_map _).trans (okLen (wordsD_W _))) oneW_ ((show ((wordsD (amoD g.pr p) : List Int).map wV).length = 4 from ((List.length_map _).trans (okLen (wordsD_W _)))).trans (show ((List.replicate 4 (0 : Int) : List Int).map wV).length = 4 from (by simp only [List.length_map, List.length_set, List.length_replicate, List.length_cons, List.length_nil]; first | done | assumption | exact from_len _ | exact of_len _ | exact ofZ_len _ | exact (ofW_ok _).1 | exact (fullW_W _).1 | exact (okW_with (by assumption)).1 | exact (okW_less (by assumption)).1 | exact put_len (from_len _) | exact orD_len _ _ | exact andD_len _ _ | exact minusD_len _ _ | exact fullD_len _ | (refine okLen ?_; (repeat (first | assumption | exact ofW_ok _ | exact fullW_W _ | apply okW_with | apply okW_less | refine okW_orS ?_ ?_ | refine okW_andS ?_ ?_ | refine okW_minusS ?_ ?_)); done) | omega | rfl)).symm) bx19) ?_
 rintro d_ v_ w31 ⟨rfl, g32, bx33⟩
 refine ⟨_, rfl, fun act35 f34 => ?_⟩
 clear f25
 have szw31 := g32.size
 replace e0 := e0.gr g32 (fun k h => by injection h; omega)
 replace r8 := r8.gr g32 (fun k h => by injection h; omega)
 replace bx9 := bx9.gr g32 (fun h => by injection h; omega)
 clear bx19 g32
 refine At.done rfl ?_
 refine t_n ?_
 have f39 := f34.sub (r := [(4, .pointer (some ⟨w1.heap.size, 0, none⟩))]) ⟨rfl, trivial⟩
 clear f34
 refine wp_ret ?_
 refine retB_ f39 (sl := 4) (cs := ((wordsD (amoD g.pr p) : List Int).map wV)) (m := 4) rfl (by kernel_rfl) (by kernel_rfl) ((List.length_map _).trans (okLen (wordsD_W _))) bx33 ?_
 exact ⟨rfl, e0⟩

set_option maxHeartbeats 4000000 in
theorem amongR_any {Aa : Option Addr} {ca : Nat} {la : List Int} {n : Int} {w : World} (ra : RdI w 0 w.heap.size Aa la) :
    Calls Tryd.prog 26 #[.slice Aa la.length ca, .int .i64 (n)] w fun e w' => e = .returned (.agg (((amoD la n : List Bool)).map Value.bool).toArray) ∧ Ext w w' := by
 have hla := ra.len
 refine enter_ (args := [.slice Aa la.length ca, .int .i64 (n)]) Tryd.func26 rfl Tryd.ntmps26 (Nat.le_of_ble_eq_true rfl) (fun act0 f0 => ?_)
 have e0 : Ext w w := Ext.refl w
 refine wp_seq ?_
 refine At.start ?_
 refine At.seq f0 1 [[]] [(4, .pointer (some ⟨w.heap.size, 0, none⟩))] (w.alloc (.cells ((List.replicate 256 false : List Bool).map Value.bool).toArray 36 (0, 0))) [] (by kernel_rfl) trivial (fun act4 w1 hw2 f3 => ?_)
 clear f0
 have g5 := gr_alloc hw2
 have szw1 := g5.size
 replace e0 := e0.gr g5 no_row
 have r8 := ra.gr g5 (fun _ h => by cases h)
 clear ra
 have bx9 : Bx w1 (w.heap.size) ((List.replicate 256 false : List Bool).map Value.bool) 36 := Bx.new hw2
 have := bx9.lt
 clear g5 hw2
 refine At.done rfl ?_
 refine t_n ?_
 refine wp_seq ?_
 refine At.start ?_
 refine At.seq f3 1 [[]] [(5, .pointer (some ⟨w1.heap.size, 0, none⟩))] (w1.alloc (.cells ((List.replicate 256 false : List Bool).map Value.bool).toArray 36 (0, 0))) [] (by kernel_rfl) trivial (fun act13 w10 hw11 f12 => ?_)
 clear f3
 have g14 := gr_alloc hw11
 have szw10 := g14.size
 replace e0 := e0.gr g14 no_row
 replace r8 := r8.gr g14 (fun _ h => by cases h)
 replace bx9 := bx9.gr g14 (by simp)
 have bx19 : Bx w10 (w1.heap.size) ((List.replicate 256 false : List Bool).map Value.bool) 36 := Bx.new hw11
 have := bx19.lt
 clear g14 hw11
 refine At.done rfl ?_
 refine t_n ?_
 refine wp_seq ?_
 refine wp_seq ?_
 refine At.start ?_
 refine At.rd f12 1 [[]] [(6, .int .i64 (0))] [] (by kernel_rfl) trivial (fun act21 f20 => ?_)
 clear f12
 refine At.done rfl ?_
 refine t_n ?_
 refine wp_block ?_
 have f22 := f20.sub (r := [(6, .int .i64 (0)), (5, .pointer (some ⟨w1.heap.size, 0, none⟩)), (4, .pointer (some ⟨w.heap.size, 0, none⟩)), (0, .slice Aa la.length ca), (1, .int .i64 (n))]) ⟨rfl, rfl, rfl, rfl, rfl, trivial⟩
 refine loop_g (fun (m_ : Nat) a_ w_ => ∃ (k : Int) (xs : List Bool), m_ = ((la.length : Int) - k).toNat ∧ (Frm 26 a_ [(6, .int .i64 (k)), (5, .pointer (some ⟨w1.heap.size, 0, none⟩)), (4, .pointer (some ⟨w.heap.size, 0, none⟩)), (0, .slice Aa la.length ca), (1, .int .i64 (n))]) ∧ (Ext w w_) ∧ (RdI w_ 0 w.heap.size Aa la) ∧ (Bx w_ (w.heap.size) ((List.replicate 256 false : List Bool).map Value.bool) 36) ∧ (Bx w_ (w1.heap.size) ((xs : List Bool).map Value.bool) 36) ∧ (0 ≤ k) ∧ (k ≤ (la.length : Int)) ∧ (k ≤ 256) ∧ (xs.length = 256) ∧ (MixL (List.replicate 256 false) xs (fun j => decide (gI la j = n)) k)) _ ⟨0, List.replicate 256 false, rfl, f22, e0, r8, bx9, bx19, (by omega), (by omega), (by omega), List.length_replicate, (mix_0 List.length_replicate)⟩ ?_
 clear f22 f20
 clear r8
 clear bx9
 clear bx19
 clear e0
 intro m_ act23 w24 ⟨k, xs, hm26, f27, e25, r28, bx29, bx30, i31, i32, i33, i34, hmx⟩
 have szw24 := e25.size
 have := bx29.lt
 have := bx30.lt
 refine wp_seq ?_
 refine wp_seq ?_
 refine At.start ?_
 rcases Bool.eq_false_or_eq_true (decide ((k : Int) < ((la.length : Nat) : Int))) with h35 | h35
 ·have q36 := of_decide_eq_true h35
  refine At.rd f27 8 [[], [], [], [], [.as_ (.bool true)], [], [], []] [(14, .bool (decide ((k : Int) < 256))), (13, .bool (decide ((k : Int) < 256))), (12, .int .i64 (k)), (11, .bool true), (10, .bool (decide ((k : Int) < ((la.length : Nat) : Int)))), (9, .int .i64 (((la.length : Nat) : Int))), (8, .slice Aa la.length ca), (7, .int .i64 (k))] [((.bool (decide ((k : Int) < ((la.length : Nat) : Int))) : Value) = .bool true)] (by kernel_rfl) ⟨(congrArg Value.bool h35), trivial⟩ (fun act38 f37 => ?_)
  clear f27
  refine At.done rfl ?_
  refine t_n ?_
  have f39 := f37.sub (r := [(14, .bool (decide ((k : Int) < 256))), (13, .bool (decide ((k : Int) < 256))), (12, .int .i64 (k)), (6, .int .i64 (k)), (5, .pointer (some ⟨w1.heap.size, 0, none⟩)), (4, .pointer (some ⟨w.heap.size, 0, none⟩)), (0, .slice Aa la.length ca), (1, .int .i64 (n))]) ⟨rfl, rfl, rfl, rfl, rfl, rfl, rfl, rfl, trivial⟩
  clear f37
  refine cond_S f39 (t := decide ((k : Int) < 256)) rfl (fun h40 => ?_) (fun h40 => ?_)
  ·have q41 := of_decide_eq_true h40
   refine wp_skip ?_
   refine t_n ?_
   have f42 := f39.sub (r := [(13, .bool (decide ((k : Int) < 256))), (12, .int .i64 (k)), (6, .int .i64 (k)), (5, .pointer (some ⟨w1.heap.size, 0, none⟩)), (4, .pointer (some ⟨w.heap.size, 0, none⟩)), (0, .slice Aa la.length ca), (1, .int .i64 (n))]) ⟨rfl, rfl, rfl, rfl, rfl, rfl, rfl, trivial⟩
   clear f39
   refine wp_seq ?_
   refine wp_block ?_
   refine At.start ?_
   obtain ⟨ad43, hA44, _, _, hc45⟩ := RdI.get r28 (k) (by omega) (by omega)
   refine At.rd f42 8 [[], [], [], [.ad ad43], [.ld (.int .i64 (gI la (k)))], [], [], []] [(24, .pointer (some ((⟨w1.heap.size, 0, none⟩ : Addr).add ((k : Int).toNat * 1)))), (23, .bool ((gI la (k) : Int) == n)), (22, .int .i64 (n)), (21, .int .i64 (gI la (k))), (20, .pointer (some (ad43.add ((k : Int).toNat * 1)))), (19, .int .i64 (k)), (18, .slice Aa la.length ca), (17, .int .i64 (k))] [(Aa = some ad43), (0 ≤ (k : Int)), ((k : Int) < (la.length : Nat)), (w24.cell? (ad43.add ((k : Int).toNat * 1)) = some (.int .i64 (gI la (k)))), (0 ≤ (k : Int)), ((k : Int) < (256 : Nat))] (by kernel_rfl) ⟨hA44, (by omega), (by omega), hc45, (by omega), (by omega), trivial⟩ (fun act47 f46 => ?_)
   clear f42
   refine At.act f46 (storeArrM (f := Value.bool) (t := 4) (b := w1.heap.size) (i := k) (x := (gI la (k) : Int) == n) (v := .bool ((gI la (k) : Int) == n)) (by kernel_rfl) rfl rfl (by kernel_rfl) bx30 (by omega) (by omega)) ?_
   rintro d_ v_ w48 ⟨rfl, g49, bx50⟩
   refine ⟨_, rfl, fun act53 f52 => ?_⟩
   clear f46
   have hl51 : ((xs).set (k : Int).toNat ((gI la (k) : Int) == n)).length = (xs : List Bool).length := List.length_set
   have szw48 := g49.size
   replace e25 := e25.gr g49 (fun k h => by injection h; omega)
   replace r28 := r28.gr g49 (fun k h => by injection h; omega)
   replace bx29 := bx29.gr g49 (fun h => by injection h; omega)
   clear bx30 g49
   refine At.done rfl ?_
   refine b_n ?_
   refine t_n ?_
   have f57 := f52.sub (r := [(13, .bool (decide ((k : Int) < 256))), (12, .int .i64 (k)), (6, .int .i64 (k)), (5, .pointer (some ⟨w1.heap.size, 0, none⟩)), (4, .pointer (some ⟨w.heap.size, 0, none⟩)), (0, .slice Aa la.length ca), (1, .int .i64 (n))]) ⟨rfl, rfl, rfl, rfl, rfl, rfl, rfl, trivial⟩
   clear f52
   refine At.start ?_
   refine At.rd f57 3 [[], [.as_ (.int .i64 (k + 1))], []] [(6, .int .i64 (k + 1)), (16, .int .i64 (k + 1)), (15, .int .i64 (k))] [((.int .i64 (IntKind.i64.wrap (k + 1)) : Value) = .int .i64 (k + 1))] (by kernel_rfl) ⟨(w64 (by omega) (by omega)), trivial⟩ (fun act59 f58 => ?_)
   clear f57
   refine At.done rfl ?_
   refine t_n ?_
   have f60 := f58.sub (r := [(6, .int .i64 (k + 1)), (5, .pointer (some ⟨w1.heap.size, 0, none⟩)), (4, .pointer (some ⟨w.heap.size, 0, none⟩)), (0, .slice Aa la.length ca), (1, .int .i64 (n))]) ⟨rfl, rfl, rfl, rfl, rfl, trivial⟩
   exact ⟨_, (by omega), (k + 1), (xs).set (k : Int).toNat ((gI la (k) : Int) == n), rfl, f60, e25, r28, bx29, bx50, (by omega), (by omega), (by omega), (by rw [List.length_set]; assumption), (mix_next hmx (by omega) (by omega) (Bool.beq_eq_decide_eq _ _))⟩
  ·have q61 := of_decide_eq_false h40
   refine wp_exit ?_
   refine t_e ?_
   refine t_e ?_
   refine b_e ?_
   refine t_n ?_
   have f62 := f39.sub (r := [(5, .pointer (some ⟨w1.heap.size, 0, none⟩)), (4, .pointer (some ⟨w.heap.size, 0, none⟩))]) ⟨rfl, rfl, trivial⟩
   clear f39
   refine wp_seq ?_
   refine At.start ?_
   refine At.rd f62 1 [[.cs ((xs : List Bool).map Value.bool)]] [(25, .agg ((xs : List Bool).map Value.bool).toArray)] [(((xs : List Bool).map Value.bool).length = 256), (∀ (j : Nat) (v : Value), ((xs : List Bool).map Value.bool)[j]? = some v → w24.cell? ((⟨w1.heap.size, 0, none⟩ : Addr).add j) = some v)] (by kernel_rfl) ⟨((List.length_map _).trans (by assumption)), bx30.whole, trivial⟩ (fun act64 f63 => ?_)
   clear f62
   refine At.act f63 (storeBlk (t := 36) (b := w.heap.size) (n := 256) (cs' := ((xs : List Bool).map Value.bool)) (by kernel_rfl) (by kernel_rfl) ((List.length_map _).trans (by assumption)) oneB ((show ((xs : List Bool).map Value.bool).length = 256 from ((List.length_map _).trans (by assumption))).trans (show ((List.replicate 256 false : List Bool).map Value.bool).length = 256 from (by simp only [List.length_map, List.length_set, List.length_replicate, List.length_cons, List.length_nil]; first | done | assumption | exact from_len _ | exact of_len _ | exact ofZ_len _ | exact (ofW_ok _).1 | exact (fullW_W _).1 | exact (okW_with (by assumption)).1 | exact (okW_less (by assumption)).1 | exact put_len (from_len _) | exact orD_len _ _ | exact andD_len _ _ | exact minusD_len _ _ | exact fullD_len _ | (refine okLen ?_; (repeat (first | assumption | exact ofW_ok _ | exact fullW_W _ | apply okW_with | apply okW_less | refine okW_orS ?_ ?_ | refine okW_andS ?_ ?_ | refine okW_minusS ?_ ?_)); done) | omega | rfl)).symm) bx29) ?_
   rintro d_ v_ w65 ⟨rfl, g66, bx67⟩
   refine ⟨_, rfl, fun act69 f68 => ?_⟩
   clear f63
   have szw65 := g66.size
   replace e25 := e25.gr g66 (fun k h => by injection h; omega)
   replace r28 := r28.gr g66 (fun k h => by injection h; omega)
   replace bx30 := bx30.gr g66 (fun h => by injection h; omega)
   clear bx29 g66
   refine At.done rfl ?_
   refine t_n ?_
   have f73 := f68.sub (r := [(4, .pointer (some ⟨w.heap.size, 0, none⟩))]) ⟨rfl, trivial⟩
   clear f68
   refine wp_ret ?_
   refine retB_ f73 (sl := 4) (cs := ((xs : List Bool).map Value.bool)) (m := 256) rfl (by kernel_rfl) (by kernel_rfl) ((List.length_map _).trans (by assumption)) bx67 ?_
   exact ⟨ret_map (amoR_end hmx (by omega) (by omega)), e25⟩
 ·have q74 := of_decide_eq_false h35
  refine At.rd f27 8 [[], [], [], [], [.as_ (.bool false)], [], [], []] [(14, .bool false), (13, undef), (12, undef), (11, .bool false), (10, .bool (decide ((k : Int) < ((la.length : Nat) : Int)))), (9, .int .i64 (((la.length : Nat) : Int))), (8, .slice Aa la.length ca), (7, .int .i64 (k))] [((.bool (decide ((k : Int) < ((la.length : Nat) : Int))) : Value) = .bool false)] (by kernel_rfl) ⟨(congrArg Value.bool h35), trivial⟩ (fun act76 f75 => ?_)
  clear f27
  refine At.done rfl ?_
  refine t_n ?_
  have f77 := f75.sub (r := [(14, .bool false), (6, .int .i64 (k)), (5, .pointer (some ⟨w1.heap.size, 0, none⟩)), (4, .pointer (some ⟨w.heap.size, 0, none⟩)), (0, .slice Aa la.length ca), (1, .int .i64 (n))]) ⟨rfl, rfl, rfl, rfl, rfl, rfl, trivial⟩
  clear f75
  refine cond_F f77 rfl ?_
  refine wp_exit ?_
  refine t_e ?_
  refine t_e ?_
  refine b_e ?_
  refine t_n ?_
  have f78 := f77.sub (r := [(5, .pointer (some ⟨w1.heap.size, 0, none⟩)), (4, .pointer (some ⟨w.heap.size, 0, none⟩))]) ⟨rfl, rfl, trivial⟩
  clear f77
  refine wp_seq ?_
  refine At.start ?_
  refine At.rd f78 1 [[.cs ((xs : List Bool).map Value.bool)]] [(25, .agg ((xs : List Bool).map Value.bool).toArray)] [(((xs : List Bool).map Value.bool).length = 256), (∀ (j : Nat) (v : Value), ((xs : List Bool).map Value.bool)[j]? = some v → w24.cell? ((⟨w1.heap.size, 0, none⟩ : Addr).add j) = some v)] (by kernel_rfl) ⟨((List.length_map _).trans (by assumption)), bx30.whole, trivial⟩ (fun act80 f79 => ?_)
  clear f78
  refine At.act f79 (storeBlk (t := 36) (b := w.heap.size) (n := 256) (cs' := ((xs : List Bool).map Value.bool)) (by kernel_rfl) (by kernel_rfl) ((List.length_map _).trans (by assumption)) oneB ((show ((xs : List Bool).map Value.bool).length = 256 from ((List.length_map _).trans (by assumption))).trans (show ((List.replicate 256 false : List Bool).map Value.bool).length = 256 from (by simp only [List.length_map, List.length_set, List.length_replicate, List.length_cons, List.length_nil]; first | done | assumption | exact from_len _ | exact of_len _ | exact ofZ_len _ | exact (ofW_ok _).1 | exact (fullW_W _).1 | exact (okW_with (by assumption)).1 | exact (okW_less (by assumption)).1 | exact put_len (from_len _) | exact orD_len _ _ | exact andD_len _ _ | exact minusD_len _ _ | exact fullD_len _ | (refine okLen ?_; (repeat (first | assumption | exact ofW_ok _ | exact fullW_W _ | apply okW_with | apply okW_less | refine okW_orS ?_ ?_ | refine okW_andS ?_ ?_ | refine okW_minusS ?_ ?_)); done) | omega | rfl)).symm) bx29) ?_
  rintro d_ v_ w81 ⟨rfl, g82, bx83⟩
  refine ⟨_, rfl, fun act85 f84 => ?_⟩
  clear f79
  have szw81 := g82.size
  replace e25 := e25.gr g82 (fun k h => by injection h; omega)
  replace r28 := r28.gr g82 (fun k h => by injection h; omega)
  replace bx30 := bx30.gr g82 (fun h => by injection h; omega)
  clear bx29 g82
  refine At.done rfl ?_
  refine t_n ?_
  have f89 := f84.sub (r := [(4, .pointer (some ⟨w.heap.size, 0, none⟩))]) ⟨rfl, trivial⟩
  clear f84
  refine wp_ret ?_
  refine retB_ f89 (sl := 4) (cs := ((xs : List Bool).map Value.bool)) (m := 256) rfl (by kernel_rfl) (by kernel_rfl) ((List.length_map _).trans (by assumption)) bx83 ?_
  exact ⟨ret_map (amoR_end hmx (by omega) (by omega)), e25⟩

set_option maxHeartbeats 4000000 in
theorem hasL_any {Aa : Option Addr} {ca : Nat} {la : List Int} {v : Int} {w : World} (ra : RdI w 0 w.heap.size Aa la) :
    Calls Tryd.prog 41 #[.slice Aa la.length ca, .int .i64 (v)] w fun e w' => e = .returned (.bool (decide (v ∈ la))) ∧ Ext w w' := by
 have hla := ra.len
 refine enter_ (args := [.slice Aa la.length ca, .int .i64 (v)]) Tryd.func41 rfl Tryd.ntmps41 (Nat.le_of_ble_eq_true rfl) (fun act0 f0 => ?_)
 have e0 : Ext w w := Ext.refl w
 refine wp_seq ?_
 refine At.start ?_
 refine At.rd f0 1 [[]] [(4, .bool false)] [] (by kernel_rfl) trivial (fun act2 f1 => ?_)
 clear f0
 refine At.done rfl ?_
 refine t_n ?_
 refine wp_seq ?_
 refine wp_seq ?_
 refine At.start ?_
 refine At.rd f1 1 [[]] [(5, .int .i64 (0))] [] (by kernel_rfl) trivial (fun act4 f3 => ?_)
 clear f1
 refine At.done rfl ?_
 refine t_n ?_
 refine wp_block ?_
 have f5 := f3.sub (r := [(5, .int .i64 (0)), (0, .slice Aa la.length ca), (1, .int .i64 (v))]) ⟨rfl, rfl, rfl, trivial⟩
 refine loop_g (fun (m_ : Nat) a_ w_ => ∃ (k : Int), m_ = ((la.length : Int) - k).toNat ∧ (Frm 18 a_ [(5, .int .i64 (k)), (0, .slice Aa la.length ca), (1, .int .i64 (v))]) ∧ (Ext w w_) ∧ (RdI w_ 0 w.heap.size Aa la) ∧ (0 ≤ k) ∧ (k ≤ (la.length : Int)) ∧ (v ∉ la.take k.toNat)) _ ⟨0, rfl, f5, e0, ra, (by omega), (by omega), (notin_zero _ _)⟩ ?_
 clear f5 f3
 clear ra
 clear e0
 intro m_ act6 w7 ⟨k, hm9, f10, e8, r11, i12, i13, i14⟩
 have szw7 := e8.size
 refine wp_seq ?_
 refine wp_seq ?_
 refine At.start ?_
 refine At.rd f10 4 [[], [], [], []] [(9, .bool (decide ((k : Int) < ((la.length : Nat) : Int)))), (8, .int .i64 (((la.length : Nat) : Int))), (7, .slice Aa la.length ca), (6, .int .i64 (k))] [] (by kernel_rfl) trivial (fun act16 f15 => ?_)
 clear f10
 refine At.done rfl ?_
 refine t_n ?_
 have f17 := f15.sub (r := [(9, .bool (decide ((k : Int) < ((la.length : Nat) : Int)))), (5, .int .i64 (k)), (0, .slice Aa la.length ca), (1, .int .i64 (v))]) ⟨rfl, rfl, rfl, rfl, trivial⟩
 clear f15
 refine cond_S f17 (t := decide ((k : Int) < ((la.length : Nat) : Int))) rfl (fun h18 => ?_) (fun h18 => ?_)
 ·have q19 := of_decide_eq_true h18
  refine wp_skip ?_
  refine t_n ?_
  have f20 := f17.sub (r := [(5, .int .i64 (k)), (0, .slice Aa la.length ca), (1, .int .i64 (v))]) ⟨rfl, rfl, rfl, trivial⟩
  clear f17
  refine wp_seq ?_
  refine wp_block ?_
  refine wp_seq ?_
  refine At.start ?_
  obtain ⟨ad21, hA22, _, _, hc23⟩ := RdI.get r11 (k) (by omega) (by omega)
  refine At.rd f20 6 [[], [], [.ad ad21], [.ld (.int .i64 (gI la (k)))], [], []] [(17, .bool ((gI la (k) : Int) == v)), (16, .int .i64 (v)), (15, .int .i64 (gI la (k))), (14, .pointer (some (ad21.add ((k : Int).toNat * 1)))), (13, .int .i64 (k)), (12, .slice Aa la.length ca)] [(Aa = some ad21), (0 ≤ (k : Int)), ((k : Int) < (la.length : Nat)), (w7.cell? (ad21.add ((k : Int).toNat * 1)) = some (.int .i64 (gI la (k))))] (by kernel_rfl) ⟨hA22, (by omega), (by omega), hc23, trivial⟩ (fun act25 f24 => ?_)
  clear f20
  refine At.done rfl ?_
  refine t_n ?_
  have f26 := f24.sub (r := [(17, .bool ((gI la (k) : Int) == v)), (5, .int .i64 (k)), (0, .slice Aa la.length ca), (1, .int .i64 (v))]) ⟨rfl, rfl, rfl, rfl, trivial⟩
  clear f24
  refine cond_S f26 (t := (gI la (k) : Int) == v) rfl (fun h27 => ?_) (fun h27 => ?_)
  ·have q28 := eq_of_beq h27
   refine wp_seq ?_
   refine At.start ?_
   refine At.rd f26 1 [[]] [(4, .bool true)] [] (by kernel_rfl) trivial (fun act30 f29 => ?_)
   clear f26
   refine At.done rfl ?_
   refine t_n ?_
   have f31 := f29.sub (r := [(4, .bool true)]) ⟨rfl, trivial⟩
   clear f29
   refine wp_ret ?_
   refine b_r ?_
   refine t_r ?_
   refine t_r ?_
   refine b_r ?_
   refine t_r ?_
   refine ret_ f31 [] [.bool true] [] (by kernel_rfl) trivial ?_
   exact ⟨ret_eq (congrArg Value.bool (decide_eq_true (in_at (k := k) (by omega) (by omega) (by omega))).symm), e8⟩
  ·have q32 := ne_of_beq_false h27
   refine wp_skip ?_
   refine b_n ?_
   refine t_n ?_
   have f33 := f26.sub (r := [(5, .int .i64 (k)), (0, .slice Aa la.length ca), (1, .int .i64 (v))]) ⟨rfl, rfl, rfl, trivial⟩
   clear f26
   refine At.start ?_
   refine At.rd f33 3 [[], [.as_ (.int .i64 (k + 1))], []] [(5, .int .i64 (k + 1)), (11, .int .i64 (k + 1)), (10, .int .i64 (k))] [((.int .i64 (IntKind.i64.wrap (k + 1)) : Value) = .int .i64 (k + 1))] (by kernel_rfl) ⟨(w64 (by omega) (by omega)), trivial⟩ (fun act35 f34 => ?_)
   clear f33
   refine At.done rfl ?_
   refine t_n ?_
   have f36 := f34.sub (r := [(5, .int .i64 (k + 1)), (0, .slice Aa la.length ca), (1, .int .i64 (v))]) ⟨rfl, rfl, rfl, trivial⟩
   exact ⟨_, (by omega), (k + 1), rfl, f36, e8, r11, (by omega), (by omega), (notin_next (by omega) (by omega) (by assumption) (by omega))⟩
 ·have q37 := of_decide_eq_false h18
  refine wp_exit ?_
  refine t_e ?_
  refine t_e ?_
  refine b_e ?_
  refine t_n ?_
  have f38 := f17.sub (r := []) trivial
  clear f17
  refine wp_seq ?_
  refine At.start ?_
  refine At.rd f38 1 [[]] [(4, .bool false)] [] (by kernel_rfl) trivial (fun act40 f39 => ?_)
  clear f38
  refine At.done rfl ?_
  refine t_n ?_
  refine wp_ret ?_
  refine ret_ f39 [] [.bool false] [] (by kernel_rfl) trivial ?_
  exact ⟨ret_eq (congrArg Value.bool (decide_eq_false (notin_all (k := k) (by assumption) (by omega))).symm), e8⟩

end Go.Proofs.YtkkophhnliplhaaDoor
