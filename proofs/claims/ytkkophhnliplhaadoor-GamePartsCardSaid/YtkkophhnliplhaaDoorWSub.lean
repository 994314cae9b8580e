/-
  A walk of a Go function, printed by a program of this repo. Conditions: what the theorems name.
-/
import Derived.Test.YtkkophhnliplhaaDoorWAmong
import Derived.Test.YtkkophhnliplhaaDoorWDual
set_option linter.unusedVariables false
set_option linter.unusedSimpArgs false
namespace Go.Proofs.YtkkophhnliplhaaDoor
open Go Go.RowKit

attribute [local irreducible] ofZ fromW wordsD ofD ofW lsD lenW lenN fullW withW lessW hasW hasD inW inD leastD putD onI tzI orS andS minusS orD andD minusD fullD emptyD
set_option maxHeartbeats 4000000 in
theorem subM_any {Ag0 Ag1 Ag2 : Option Addr} {cg0 cg1 cg2 : Nat} {g : GameL} {s : List Int} {w : World} (rg : RdG w 0 w.heap.size Ag0 Ag1 Ag2 cg0 cg1 cg2 g) (hs : OkW s) (rT : RdT w 0 w.heap.size) :
    Calls Tryd.prog 22 #[.agg #[.slice Ag0 g.ow.length cg0, .slice Ag1 g.pr.length cg1, .slice Ag2 g.mv.length cg2], .agg ((s : List Int).map wV).toArray] w fun e w' => ∃ A0 c0 A1 c1 A2 c2 A3 c3, e = .returned (.tuple #[.agg #[.slice A0 (subG g (inT g s)).ow.length c0, .slice A1 (subG g (inT g s)).pr.length c1, .slice A2 (subG g (inT g s)).mv.length c2], .slice A3 (subO g (inT g s)).length c3, .bool (subB g (inT g s))]) ∧ Ext w w' ∧ OwnR w' (Sx w.heap.size [obk A1, obk A2, obk A3]) A0 c0 3 (subG g (inT g s)).ow ∧ OwnR w' (Sx w.heap.size [obk A0, obk A2, obk A3]) A1 c1 3 (subG g (inT g s)).pr ∧ OwnLL w' w.heap.size [obk A0, obk A1, obk A3] A2 c2 22 3 (subG g (inT g s)).mv ∧ OwnR w' (Sx w.heap.size [obk A0, obk A1, obk A2]) A3 c3 3 (subO g (inT g s)) := by
 have hlg0 := rg.ow.len
 have hlg1 := rg.pr.len
 have hlg2 := rg.mv.len
 have hkg0 := rg.k0
 have hkg1 := rg.k1
 have hkg2 := rg.k2
 have hls := hs.1
 refine enter_ (args := [.agg #[.slice Ag0 g.ow.length cg0, .slice Ag1 g.pr.length cg1, .slice Ag2 g.mv.length cg2], .agg ((s : List Int).map wV).toArray]) Tryd.func22 rfl Tryd.ntmps22 (Nat.le_of_ble_eq_true rfl) (fun act0 f0 => ?_)
 have e0 : Ext w w := Ext.refl w
 refine wp_seq ?_
 refine At.start ?_
 refine At.seq f0 1 [[]] [(2, .pointer (some ⟨w.heap.size, 0, none⟩))] (w.alloc (.cells #[.slice Ag0 g.ow.length cg0, .slice Ag1 g.pr.length cg1, .slice Ag2 g.mv.length cg2] 25 (0, 0))) [] (by kernel_rfl) trivial (fun act4 w1 hw2 f3 => ?_)
 clear f0
 have g5 := gr_alloc hw2
 have szw1 := g5.size
 replace e0 := e0.gr g5 no_row
 have r8 := rg.gr g5 (fun _ h => by cases h)
 clear rg
 have r9 := rT.gr g5 (fun _ h => by cases h)
 clear rT
 have bx10 : Bx w1 (w.heap.size) [.slice Ag0 g.ow.length cg0, .slice Ag1 g.pr.length cg1, .slice Ag2 g.mv.length cg2] 25 := Bx.new hw2
 have := bx10.lt
 clear g5 hw2
 refine At.seq f3 1 [[]] [(3, .pointer (some ⟨w1.heap.size, 0, none⟩))] (w1.alloc (.cells ((s : List Int).map wV).toArray 47 (0, 0))) [] (by kernel_rfl) trivial (fun act14 w11 hw12 f13 => ?_)
 clear f3
 have g15 := gr_alloc hw12
 have szw11 := g15.size
 replace e0 := e0.gr g15 no_row
 replace r8 := r8.gr g15 (fun _ h => by cases h)
 replace r9 := r9.gr g15 (fun _ h => by cases h)
 replace bx10 := bx10.gr g15 (by simp)
 have bx21 : Bx w11 (w1.heap.size) ((s : List Int).map wV) 47 := Bx.new hw12
 have := bx21.lt
 clear g15 hw12
 refine At.seq f13 1 [[]] [(4, .pointer (some ⟨w11.heap.size, 0, none⟩))] (w11.alloc (.cells #[.slice none 0 0, .slice none 0 0, .slice none 0 0] 25 (0, 0))) [] (by kernel_rfl) trivial (fun act25 w22 hw23 f24 => ?_)
 clear f13
 have g26 := gr_alloc hw23
 have szw22 := g26.size
 replace e0 := e0.gr g26 no_row
 replace r8 := r8.gr g26 (fun _ h => by cases h)
 replace r9 := r9.gr g26 (fun _ h => by cases h)
 replace bx10 := bx10.gr g26 (by simp)
 replace bx21 := bx21.gr g26 (by simp)
 have bx33 : Bx w22 (w11.heap.size) [.slice none 0 0, .slice none 0 0, .slice none 0 0] 25 := Bx.new hw23
 have := bx33.lt
 clear g26 hw23
 refine At.rd f24 2 [[], []] [(6, .bool false), (5, .slice none 0 0)] [] (by kernel_rfl) trivial (fun act35 f34 => ?_)
 clear f24
 refine At.done rfl ?_
 refine t_n ?_
 refine wp_seq ?_
 refine wp_seq ?_
 refine At.start ?_
 refine At.rd f34 1 [[.ld (.slice Ag0 g.ow.length cg0), .ld (.slice Ag1 g.pr.length cg1), .ld (.slice Ag2 g.mv.length cg2)]] [(17, .agg #[.slice Ag0 g.ow.length cg0, .slice Ag1 g.pr.length cg1, .slice Ag2 g.mv.length cg2])] [(w22.cell? ⟨w.heap.size, 0, none⟩ = some (.slice Ag0 g.ow.length cg0)), (w22.cell? ⟨w.heap.size, 1, none⟩ = some (.slice Ag1 g.pr.length cg1)), (w22.cell? ⟨w.heap.size, 2, none⟩ = some (.slice Ag2 g.mv.length cg2))] (by kernel_rfl) ⟨(bx10.cell (i := 0) rfl), (bx10.cell (i := 1) rfl), (bx10.cell (i := 2) rfl), trivial⟩ (fun act37 f36 => ?_)
 clear f34
 refine At.call f36 39 #[.agg #[.slice Ag0 g.ow.length cg0, .slice Ag1 g.pr.length cg1, .slice Ag2 g.mv.length cg2]] (some 18) (by kernel_rfl) (isM_any (r8.wide (Nat.zero_le _) (by omega))) ?_
 rintro e_ w38 ⟨rfl, he⟩
 refine ⟨_, rfl, _, rfl, fun act39 f40 => ?_⟩
 clear f36
 have g41 := gr_ext he
 have szw38 := g41.size
 replace e0 := e0.gr g41 no_row
 replace r8 := r8.gr g41 (fun _ h => by cases h)
 replace r9 := r9.gr g41 (fun _ h => by cases h)
 replace bx10 := bx10.gr g41 (by simp)
 replace bx21 := bx21.gr g41 (by simp)
 replace bx33 := bx33.gr g41 (by simp)
 clear g41 he
 refine At.rd f40 1 [[]] [(19, .bool (!(isR g)))] [] (by kernel_rfl) trivial (fun act49 f48 => ?_)
 clear f40
 refine At.done rfl ?_
 refine t_n ?_
 refine cond_S f48 (t := !(isR g)) rfl (fun h50 => ?_) (fun h50 => ?_)
 ·have q51 : (isR g) = false := by first | exact Eq.mp (Bool.not_eq_true' _) h50 | exact Eq.mp (Bool.not_eq_false' _) h50 | simpa using h50
  refine wp_seq ?_
  refine At.start ?_
  refine At.rd f48 1 [[]] [(20, .agg #[.slice none 0 0, .slice none 0 0, .slice none 0 0])] [] (by kernel_rfl) trivial (fun act54 f53 => ?_)
  clear f48
  refine At.store f53 (t := 25) (b := w11.heap.size) (off := 0) (v := .agg #[.slice none 0 0, .slice none 0 0, .slice none 0 0]) (by kernel_rfl) bx33 (by kernel_rfl) (fun act59 w55 g56 bx57 f58 => ?_)
  clear f53
  replace bx57 : Bx w55 (w11.heap.size) [.slice none 0 0, .slice none 0 0, .slice none 0 0] 25 := bx57
  have szw55 := g56.size
  replace e0 := e0.gr g56 (fun k h => by injection h; omega)
  replace r8 := r8.gr g56 (fun k h => by injection h; omega)
  replace r9 := r9.gr g56 (fun k h => by injection h; omega)
  replace bx10 := bx10.gr g56 (fun h => by injection h; omega)
  replace bx21 := bx21.gr g56 (fun h => by injection h; omega)
  clear bx33 g56
  refine At.rd f58 2 [[], []] [(6, .bool false), (5, .slice none 0 0)] [] (by kernel_rfl) trivial (fun act66 f65 => ?_)
  clear f58
  refine At.done rfl ?_
  refine t_n ?_
  refine wp_ret ?_
  refine t_r ?_
  refine ret_ f65 [[.slice none 0 0, .slice none 0 0, .slice none 0 0]] [.agg #[.slice none 0 0, .slice none 0 0, .slice none 0 0], .slice none 0 0, .bool false] [(w55.cell? ⟨w11.heap.size, 0, none⟩ = some (.slice none 0 0)), (w55.cell? ⟨w11.heap.size, 1, none⟩ = some (.slice none 0 0)), (w55.cell? ⟨w11.heap.size, 2, none⟩ = some (.slice none 0 0))] (by kernel_rfl) ⟨(bx57.cell (i := 0) rfl), (bx57.cell (i := 1) rfl), (bx57.cell (i := 2) rfl), trivial⟩ ?_
  obtain ⟨e1_, e2_, e3_⟩ := sub_no (g := g) (I := inT g s) (by first | exact .inl (by assumption) | exact .inr hbad)
  rw [e1_, e2_, e3_]
  exact ⟨none, 0, none, 0, none, 0, none, 0, rfl, e0, OwnR.nil, OwnR.nil, OwnLL.nil, OwnR.nil⟩
 ·have q67 : (isR g) = true := by first | exact Eq.mp (Bool.not_eq_true' _) h50 | exact Eq.mp (Bool.not_eq_false' _) h50 | simpa using h50
  refine wp_skip ?_
  refine t_n ?_
  have hR : isR g = true := by assumption
  have hG := isR_ok hR
  have hn1 := hG.n1
  have hpl := hG.pl
  have hml := hG.ml
  have hOl := ls_len (inT g s) 256
  refine wp_seq (cut (fun a_ w_ => (Frm 102 a_ [(6, .bool false), (5, .slice none 0 0), (4, .pointer (some ⟨w11.heap.size, 0, none⟩)), (3, .pointer (some ⟨w1.heap.size, 0, none⟩)), (2, .pointer (some ⟨w.heap.size, 0, none⟩))]) ∧ (Ext w w_) ∧ (RdG w_ 0 w.heap.size Ag0 Ag1 Ag2 cg0 cg1 cg2 g) ∧ (RdT w_ 0 w.heap.size) ∧ (Bx w_ (w.heap.size) [.slice Ag0 g.ow.length cg0, .slice Ag1 g.pr.length cg1, .slice Ag2 g.mv.length cg2] 25) ∧ (Bx w_ (w1.heap.size) (((inS g s : List Int) : List Int).map wV) 47) ∧ (Bx w_ (w11.heap.size) [.slice none 0 0, .slice none 0 0, .slice none 0 0] 25) ∧ (w38.heap.size ≤ w_.heap.size)) ?_ ?_)
  ·obtain ⟨Cs69, hCs70⟩ : ∃ c : List (Addr × Value), c = [(⟨w.heap.size, 0, none⟩, (.slice Ag0 g.ow.length cg0))] := ⟨_, rfl⟩
   have hS71 : HoldsC Cs69 w38 := by rw [hCs70]; exact ⟨(bx10.cell (i := 0) rfl), trivial⟩
   refine AtH.start Cs69 7 #[false, false, false, false, false, false, false] (by kernel_rfl) rfl rfl (fun w73 hw74 => ?_)
   have g72 := gr_drew hw74
   have hS75 := hS71.gr g72
   have szw73 := g72.size
   replace e0 := e0.gr g72 no_row
   replace r8 := r8.gr g72 (fun _ h => by cases h)
   replace r9 := r9.gr g72 (fun _ h => by cases h)
   replace bx10 := bx10.gr g72 (by simp)
   replace bx21 := bx21.gr g72 (by simp)
   replace bx33 := bx33.gr g72 (by simp)
   clear g72 hw74 hS71
   refine AtH.rd (by kernel_rfl) (fun d v c a w h => by cases d <;> exact h) hS75 [1, 2, 3] [[], [.ld (.slice Ag0 g.ow.length cg0)], []] [(24, .int .i64 (((g.ow.length : Nat) : Int))), (23, .slice Ag0 g.ow.length cg0), (22, .pointer (some ⟨w.heap.size, 0, none⟩))] #[false, true, true, true, false, false, false] [(∃ j_ : Nat, Cs69[j_]? = some (⟨w.heap.size, 0, none⟩, (.slice Ag0 g.ow.length cg0)))] 4 f48 (by kernel_rfl) ⟨⟨0, by rw [hCs70]; rfl⟩, trivial⟩ (fun act83 f82 => ?_)
   clear f48
   refine AtH.all [0, 4] 3 (by kernel_rfl) (by simp) ⟨?_, ?_, trivial⟩
   ·refine OneH.seq f82 [[.cs ((s : List Int).map wV)]] [(21, .agg ((s : List Int).map wV).toArray)] w73 [(((s : List Int).map wV).length = 4), (∀ (j : Nat) (v : Value), ((s : List Int).map wV)[j]? = some v → w73.cell? ((⟨w1.heap.size, 0, none⟩ : Addr).add j) = some v)] #[true, true, true, true, false, false, false] (by kernel_rfl) (by kernel_rfl) (by kernel_rfl) ⟨((List.length_map _).trans (by assumption)), bx21.whole, trivial⟩ (fun act85 w86 hw87 f84 => ?_)
    obtain rfl : w73 = w86 := hw87.symm
    clear f82
    refine ⟨hS75, ?_⟩
    refine AtH.all [4] 2 (by kernel_rfl) (by simp) ⟨?_, trivial⟩
    refine OneH.call f84 30 #[.int .i64 (((g.ow.length : Nat) : Int))] (some 25) #[true, true, true, true, true, false, false] (by kernel_rfl) (by kernel_rfl) (full_any (n := ((g.ow.length : Nat) : Int)) (by omega)) ?_
    rintro e_ w89 ⟨rfl, he⟩
    refine ⟨_, rfl, _, rfl, fun act90 f91 => ?_⟩
    clear f84
    have g92 := gr_ext he
    have hS88 := hS75.gr g92
    have szw89 := g92.size
    replace e0 := e0.gr g92 no_row
    replace r8 := r8.gr g92 (fun _ h => by cases h)
    replace r9 := r9.gr g92 (fun _ h => by cases h)
    replace bx10 := bx10.gr g92 (by simp)
    replace bx21 := bx21.gr g92 (by simp)
    replace bx33 := bx33.gr g92 (by simp)
    clear g92 he
    refine ⟨hS88, ?_⟩
    refine AtH.all [5] 1 (by kernel_rfl) (by simp) ⟨?_, trivial⟩
    refine OneH.call f91 31 #[.agg ((s : List Int).map wV).toArray, .agg ((fullW ((g.ow.length : Nat) : Int) : List Int).map wV).toArray] (some 26) #[true, true, true, true, true, true, false] (by kernel_rfl) (by kernel_rfl) ((andS_any (s := s) (t := fullW ((g.ow.length : Nat) : Int)) (by assumption) (fullW_W _)).mono (R' := fun e w' => e = .returned (.agg (((inS g s : List Int) : List Int).map wV).toArray) ∧ Ext _ w') (fun e_ w_ h_ => by rw [show (andS s (fullW ((g.ow.length : Nat) : Int)) : List Int) = (inS g s : List Int) from rfl] at h_; exact h_)) ?_
    rintro e_ w100 ⟨rfl, he⟩
    refine ⟨_, rfl, _, rfl, fun act101 f102 => ?_⟩
    clear f91
    have g103 := gr_ext he
    have hS99 := hS88.gr g103
    have szw100 := g103.size
    replace e0 := e0.gr g103 no_row
    replace r8 := r8.gr g103 (fun _ h => by cases h)
    replace r9 := r9.gr g103 (fun _ h => by cases h)
    replace bx10 := bx10.gr g103 (by simp)
    replace bx21 := bx21.gr g103 (by simp)
    replace bx33 := bx33.gr g103 (by simp)
    clear g103 he
    refine ⟨hS99, ?_⟩
    refine AtH.all [6] 0 (by kernel_rfl) (by simp) ⟨?_, trivial⟩
    refine OneH.act f102 #[true, true, true, true, true, true, true] (by kernel_rfl) (storeBlk (t := 47) (b := w1.heap.size) (n := 4) (cs' := (((inS g s : List Int) : List Int).map wV)) (by kernel_rfl) (by kernel_rfl) ((List.length_map _).trans (okLen (inS_ok (by assumption)))) oneW_ ((show (((inS g s : List Int) : List Int).map wV).length = 4 from ((List.length_map _).trans (okLen (inS_ok (by assumption))))).trans (show ((s : List Int).map wV).length = 4 from ((List.length_map _).trans (by assumption))).symm) bx21) ?_
    rintro d_ v_ w111 ⟨rfl, g112, bx113⟩
    have hS116 := hS99.gr' g112 (by rw [hCs70]; exact ⟨(by simp only [add_block]; omega), trivial⟩)
    refine ⟨_, rfl, fun act115 f114 => ⟨hS116, ?_⟩⟩
    clear f102
    have szw111 := g112.size
    replace e0 := e0.gr g112 (fun k h => by injection h; omega)
    replace r8 := r8.gr g112 (fun k h => by injection h; omega)
    replace r9 := r9.gr g112 (fun k h => by injection h; omega)
    replace bx10 := bx10.gr g112 (fun h => by injection h; omega)
    replace bx33 := bx33.gr g112 (fun h => by injection h; omega)
    clear bx21 g112
    refine AtH.done (by kernel_rfl) ?_
    clear hS116
    refine t_n ?_
    have f122 := f114.sub (r := [(6, .bool false), (5, .slice none 0 0), (4, .pointer (some ⟨w11.heap.size, 0, none⟩)), (3, .pointer (some ⟨w1.heap.size, 0, none⟩)), (2, .pointer (some ⟨w.heap.size, 0, none⟩))]) ⟨rfl, rfl, rfl, rfl, rfl, trivial⟩
    exact ⟨f122, e0, r8, r9, bx10, bx113, bx33, (by omega)⟩
   ·refine OneH.call f82 30 #[.int .i64 (((g.ow.length : Nat) : Int))] (some 25) #[false, true, true, true, true, false, false] (by kernel_rfl) (by kernel_rfl) (full_any (n := ((g.ow.length : Nat) : Int)) (by omega)) ?_
    rintro e_ w124 ⟨rfl, he⟩
    refine ⟨_, rfl, _, rfl, fun act125 f126 => ?_⟩
    clear f82
    have g127 := gr_ext he
    have hS123 := hS75.gr g127
    have szw124 := g127.size
    replace e0 := e0.gr g127 no_row
    replace r8 := r8.gr g127 (fun _ h => by cases h)
    replace r9 := r9.gr g127 (fun _ h => by cases h)
    replace bx10 := bx10.gr g127 (by simp)
    replace bx21 := bx21.gr g127 (by simp)
    replace bx33 := bx33.gr g127 (by simp)
    clear g127 he
    refine ⟨hS123, ?_⟩
    refine AtH.all [0] 2 (by kernel_rfl) (by simp) ⟨?_, trivial⟩
    refine OneH.seq f126 [[.cs ((s : List Int).map wV)]] [(21, .agg ((s : List Int).map wV).toArray)] w124 [(((s : List Int).map wV).length = 4), (∀ (j : Nat) (v : Value), ((s : List Int).map wV)[j]? = some v → w124.cell? ((⟨w1.heap.size, 0, none⟩ : Addr).add j) = some v)] #[true, true, true, true, true, false, false] (by kernel_rfl) (by kernel_rfl) (by kernel_rfl) ⟨((List.length_map _).trans (by assumption)), bx21.whole, trivial⟩ (fun act135 w136 hw137 f134 => ?_)
    obtain rfl : w124 = w136 := hw137.symm
    clear f126
    refine ⟨hS123, ?_⟩
    refine AtH.all [5] 1 (by kernel_rfl) (by simp) ⟨?_, trivial⟩
    refine OneH.call f134 31 #[.agg ((s : List Int).map wV).toArray, .agg ((fullW ((g.ow.length : Nat) : Int) : List Int).map wV).toArray] (some 26) #[true, true, true, true, true, true, false] (by kernel_rfl) (by kernel_rfl) ((andS_any (s := s) (t := fullW ((g.ow.length : Nat) : Int)) (by assumption) (fullW_W _)).mono (R' := fun e w' => e = .returned (.agg (((inS g s : List Int) : List Int).map wV).toArray) ∧ Ext _ w') (fun e_ w_ h_ => by rw [show (andS s (fullW ((g.ow.length : Nat) : Int)) : List Int) = (inS g s : List Int) from rfl] at h_; exact h_)) ?_
    rintro e_ w139 ⟨rfl, he⟩
    refine ⟨_, rfl, _, rfl, fun act140 f141 => ?_⟩
    clear f134
    have g142 := gr_ext he
    have hS138 := hS123.gr g142
    have szw139 := g142.size
    replace e0 := e0.gr g142 no_row
    replace r8 := r8.gr g142 (fun _ h => by cases h)
    replace r9 := r9.gr g142 (fun _ h => by cases h)
    replace bx10 := bx10.gr g142 (by simp)
    replace bx21 := bx21.gr g142 (by simp)
    replace bx33 := bx33.gr g142 (by simp)
    clear g142 he
    refine ⟨hS138, ?_⟩
    refine AtH.all [6] 0 (by kernel_rfl) (by simp) ⟨?_, trivial⟩
    refine OneH.act f141 #[true, true, true, true, true, true, true] (by kernel_rfl) (storeBlk (t := 47) (b := w1.heap.size) (n := 4) (cs' := (((inS g s : List Int) : List Int).map wV)) (by kernel_rfl) (by kernel_rfl) ((List.length_map _).trans (okLen (inS_ok (by assumption)))) oneW_ ((show (((inS g s : List Int) : List Int).map wV).length = 4 from ((List.length_map _).trans (okLen (inS_ok (by assumption))))).trans (show ((s : List Int).map wV).length = 4 from ((List.length_map _).trans (by assumption))).symm) bx21) ?_
    rintro d_ v_ w150 ⟨rfl, g151, bx152⟩
    have hS155 := hS138.gr' g151 (by rw [hCs70]; exact ⟨(by simp only [add_block]; omega), trivial⟩)
    refine ⟨_, rfl, fun act154 f153 => ⟨hS155, ?_⟩⟩
    clear f141
    have szw150 := g151.size
    replace e0 := e0.gr g151 (fun k h => by injection h; omega)
    replace r8 := r8.gr g151 (fun k h => by injection h; omega)
    replace r9 := r9.gr g151 (fun k h => by injection h; omega)
    replace bx10 := bx10.gr g151 (fun h => by injection h; omega)
    replace bx33 := bx33.gr g151 (fun h => by injection h; omega)
    clear bx21 g151
    refine AtH.done (by kernel_rfl) ?_
    clear hS155
    refine t_n ?_
    have f161 := f153.sub (r := [(6, .bool false), (5, .slice none 0 0), (4, .pointer (some ⟨w11.heap.size, 0, none⟩)), (3, .pointer (some ⟨w1.heap.size, 0, none⟩)), (2, .pointer (some ⟨w.heap.size, 0, none⟩))]) ⟨rfl, rfl, rfl, rfl, rfl, trivial⟩
    exact ⟨f161, e0, r8, r9, bx10, bx152, bx33, (by omega)⟩
  ·clear r8
   clear r9
   clear bx10
   clear bx21
   clear bx33
   clear f48 e0
   intro act162 w163 ⟨f164, e165, r166, r167, bx168, bx169, bx170, szz171⟩
   have szw163 := e165.size
   have := bx168.lt
   have := bx169.lt
   have := bx170.lt
   refine wp_seq ?_
   refine At.start ?_
   refine At.seq f164 1 [[]] [(7, .pointer (some ⟨w163.heap.size, 0, none⟩))] (w163.alloc (.cells ((List.replicate 256 (0 : Int) : List Int).map iV).toArray 61 (0, 0))) [] (by kernel_rfl) trivial (fun act175 w172 hw173 f174 => ?_)
   clear f164
   have g176 := gr_alloc hw173
   have szw172 := g176.size
   replace e165 := e165.gr g176 no_row
   replace r166 := r166.gr g176 (fun _ h => by cases h)
   replace r167 := r167.gr g176 (fun _ h => by cases h)
   replace bx168 := bx168.gr g176 (by simp)
   replace bx169 := bx169.gr g176 (by simp)
   replace bx170 := bx170.gr g176 (by simp)
   have bx184 : Bx w172 (w163.heap.size) ((List.replicate 256 (0 : Int) : List Int).map iV) 61 := Bx.new hw173
   have := bx184.lt
   clear g176 hw173
   refine At.done rfl ?_
   refine t_n ?_
   refine wp_seq ?_
   refine At.start ?_
   refine At.rd f174 1 [[.cs (((inS g s : List Int) : List Int).map wV)]] [(27, .agg (((inS g s : List Int) : List Int).map wV).toArray)] [((((inS g s : List Int) : List Int).map wV).length = 4), (∀ (j : Nat) (v : Value), (((inS g s : List Int) : List Int).map wV)[j]? = some v → w172.cell? ((⟨w1.heap.size, 0, none⟩ : Addr).add j) = some v)] (by kernel_rfl) ⟨((List.length_map _).trans (okLen (inS_ok (by assumption)))), bx169.whole, trivial⟩ (fun act186 f185 => ?_)
   clear f174
   refine At.call f185 42 #[.agg (((inS g s : List Int) : List Int).map wV).toArray] (some 28) (by kernel_rfl) ((list_any (s := (inS g s : List Int)) (inS_ok (by assumption)) (r167.wide (Nat.zero_le _) (by omega))).mono (fun e_ w_ h_ => by rw [show ((lsD (fromW (inS g s : List Int)) 256) : List Int) = (lsD (inT g s) 256 : List Int) from rfl] at h_; exact h_)) ?_
   rintro e_ w191 ⟨A187, c188, rfl, he, ow189⟩
   have := ls_len (fromW (inS g s : List Int)) 256
   refine ⟨_, rfl, _, rfl, fun act192 f193 => ?_⟩
   clear f185
   have g194 := gr_ext he
   have szw191 := g194.size
   replace e165 := e165.gr g194 no_row
   replace r166 := r166.gr g194 (fun _ h => by cases h)
   replace r167 := r167.gr g194 (fun _ h => by cases h)
   replace bx168 := bx168.gr g194 (by simp)
   replace bx169 := bx169.gr g194 (by simp)
   replace bx170 := bx170.gr g194 (by simp)
   replace bx184 := bx184.gr g194 (by simp)
   clear g194 he
   refine At.rd f193 1 [[]] [(8, .slice A187 ((lsD (inT g s) 256 : List Int).length) c188)] [] (by kernel_rfl) trivial (fun act203 f202 => ?_)
   clear f193
   refine At.done rfl ?_
   refine t_n ?_
   refine wp_seq ?_
   refine wp_seq ?_
   refine At.start ?_
   refine At.rd f202 3 [[], [], []] [(31, .int .i64 (0)), (30, .int .i64 ((((lsD (inT g s) 256 : List Int).length : Nat) : Int))), (29, .slice A187 ((lsD (inT g s) 256 : List Int).length) c188)] [] (by kernel_rfl) trivial (fun act205 f204 => ?_)
   clear f202
   refine At.done rfl ?_
   refine t_n ?_
   refine wp_block ?_
   have f206 := f204.sub (r := [(31, .int .i64 (0)), (30, .int .i64 ((((lsD (inT g s) 256 : List Int).length : Nat) : Int))), (29, .slice A187 ((lsD (inT g s) 256 : List Int).length) c188), (8, .slice A187 ((lsD (inT g s) 256 : List Int).length) c188), (7, .pointer (some ⟨w163.heap.size, 0, none⟩)), (6, .bool false), (5, .slice none 0 0), (4, .pointer (some ⟨w11.heap.size, 0, none⟩)), (3, .pointer (some ⟨w1.heap.size, 0, none⟩)), (2, .pointer (some ⟨w.heap.size, 0, none⟩))]) ⟨rfl, rfl, rfl, rfl, rfl, rfl, rfl, rfl, rfl, rfl, trivial⟩
   refine loop_g (fun (m_ : Nat) a_ w_ => ∃ (k0 : Int) (nw : List Int), m_ = (((lsD (inT g s) 256).length : Int) - k0).toNat ∧ (Frm 102 a_ [(31, .int .i64 (k0)), (30, .int .i64 ((((lsD (inT g s) 256 : List Int).length : Nat) : Int))), (29, .slice A187 ((lsD (inT g s) 256 : List Int).length) c188), (8, .slice A187 ((lsD (inT g s) 256 : List Int).length) c188), (7, .pointer (some ⟨w163.heap.size, 0, none⟩)), (6, .bool false), (5, .slice none 0 0), (4, .pointer (some ⟨w11.heap.size, 0, none⟩)), (3, .pointer (some ⟨w1.heap.size, 0, none⟩)), (2, .pointer (some ⟨w.heap.size, 0, none⟩))]) ∧ (Ext w w_) ∧ (RdG w_ 0 w.heap.size Ag0 Ag1 Ag2 cg0 cg1 cg2 g) ∧ (RdT w_ 0 w.heap.size) ∧ (Bx w_ (w.heap.size) [.slice Ag0 g.ow.length cg0, .slice Ag1 g.pr.length cg1, .slice Ag2 g.mv.length cg2] 25) ∧ (Bx w_ (w1.heap.size) (((inS g s : List Int) : List Int).map wV) 47) ∧ (Bx w_ (w11.heap.size) [.slice none 0 0, .slice none 0 0, .slice none 0 0] 25) ∧ (Bx w_ (w163.heap.size) ((nw : List Int).map iV) 61) ∧ (OwnR w_ (Sx (w172.heap.size) []) A187 c188 3 ((lsD (inT g s) 256 : List Int) : List Int)) ∧ (0 ≤ k0) ∧ (k0 ≤ ((lsD (inT g s) 256).length : Int)) ∧ (NowT (inT g s) nw k0) ∧ (nw.length = 256) ∧ (w172.heap.size ≤ w_.heap.size)) _ ⟨0, List.replicate 256 (0 : Int), rfl, f206, e165, r166, r167, bx168, bx169, bx170, bx184, ow189, (by omega), (by omega), now_0, List.length_replicate, (by omega)⟩ ?_
   clear f206 f204
   clear r166
   clear r167
   clear bx168
   clear bx169
   clear bx170
   clear bx184
   clear ow189
   clear e165
   intro m_ act207 w208 ⟨k0, nw, hm210, f211, e209, r212, r213, bx214, bx215, bx216, bx217, ow218, i219, i220, hnw, i221, i222⟩
   have szw208 := e209.size
   have := bx214.lt
   have := bx215.lt
   have := bx216.lt
   have := bx217.lt
   refine wp_seq ?_
   refine At.start ?_
   refine At.rd f211 1 [[]] [(32, .bool (decide ((k0 : Int) < (((lsD (inT g s) 256 : List Int).length : Nat) : Int))))] [] (by kernel_rfl) trivial (fun act224 f223 => ?_)
   clear f211
   refine At.done rfl ?_
   refine t_n ?_
   refine wp_seq ?_
   refine cond_S f223 (t := decide ((k0 : Int) < (((lsD (inT g s) 256 : List Int).length : Nat) : Int))) rfl (fun h225 => ?_) (fun h225 => ?_)
   ·have q226 := of_decide_eq_true h225
    refine wp_skip ?_
    refine t_n ?_
    refine wp_seq ?_
    refine wp_block ?_
    refine wp_seq ?_
    refine At.start ?_
    obtain ⟨ad227, hA228, hb231, hc230, hc229⟩ := ow218.get (k0) (by omega) (by omega) (sz := 1) rfl
    refine At.rd f223 5 [[], [.ad ad227], [.ld (.int .i64 (gI (lsD (inT g s) 256 : List Int) k0))], [], []] [(10, .int .i64 (gI (lsD (inT g s) 256 : List Int) k0)), (9, .int .i64 (k0)), (35, .int .i64 (gI (lsD (inT g s) 256 : List Int) k0)), (34, .pointer (some (ad227.add ((k0 : Int).toNat * 1)))), (33, .int .i64 (k0))] [(A187 = some ad227), (0 ≤ (k0 : Int)), ((k0 : Int) < ((lsD (inT g s) 256 : List Int).length : Nat)), (w208.cell? (ad227.add ((k0 : Int).toNat * 1)) = some (.int .i64 (gI (lsD (inT g s) 256 : List Int) k0)))] (by kernel_rfl) ⟨hA228, (by omega), (by omega), hc230, trivial⟩ (fun act233 f232 => ?_)
    clear f223
    refine At.done rfl ?_
    refine t_n ?_
    have hir := ls_rng (l := inT g s) (k := k0) (by omega) (by omega)
    have hi1 := hir.1
    have hi2 := hir.2.1
    refine At.start ?_
    refine At.rd f232 3 [[], [], []] [(38, .pointer (some ((⟨w163.heap.size, 0, none⟩ : Addr).add ((gI (lsD (inT g s) 256 : List Int) k0 : Int).toNat * 1)))), (37, .int .i64 (k0)), (36, .int .i64 (gI (lsD (inT g s) 256 : List Int) k0))] [(0 ≤ (gI (lsD (inT g s) 256 : List Int) k0 : Int)), ((gI (lsD (inT g s) 256 : List Int) k0 : Int) < (256 : Nat))] (by kernel_rfl) ⟨(by omega), (by omega), trivial⟩ (fun act235 f234 => ?_)
    clear f232
    refine At.act f234 (storeArrM (f := iV) (t := 3) (b := w163.heap.size) (i := gI (lsD (inT g s) 256 : List Int) k0) (x := k0) (v := .int .i64 (k0)) (by kernel_rfl) rfl rfl (by kernel_rfl) bx217 (by omega) (by omega)) ?_
    rintro d_ v_ w236 ⟨rfl, g237, bx238⟩
    refine ⟨_, rfl, fun act241 f240 => ?_⟩
    clear f234
    have hl239 : ((nw).set (gI (lsD (inT g s) 256 : List Int) k0 : Int).toNat k0).length = (nw : List Int).length := List.length_set
    have szw236 := g237.size
    replace e209 := e209.gr g237 (fun k h => by injection h; omega)
    replace r212 := r212.gr g237 (fun k h => by injection h; omega)
    replace r213 := r213.gr g237 (fun k h => by injection h; omega)
    replace bx214 := bx214.gr g237 (fun h => by injection h; omega)
    replace bx215 := bx215.gr g237 (fun h => by injection h; omega)
    replace bx216 := bx216.gr g237 (fun h => by injection h; omega)
    replace ow218 := ow218.gr g237 (fun k hk e => by have := Sx_base hk; injection e; omega)
    clear bx217 g237
    refine At.done rfl ?_
    refine b_n ?_
    refine t_n ?_
    refine At.start ?_
    refine At.rd f240 2 [[.as_ (.int .i64 (k0 + 1))], []] [(31, .int .i64 (k0 + 1)), (39, .int .i64 (k0 + 1))] [((.int .i64 (IntKind.i64.wrap (k0 + 1)) : Value) = .int .i64 (k0 + 1))] (by kernel_rfl) ⟨(w64 (by omega) (by omega)), trivial⟩ (fun act250 f249 => ?_)
    clear f240
    refine At.done rfl ?_
    refine t_n ?_
    have f251 := f249.sub (r := [(31, .int .i64 (k0 + 1)), (30, .int .i64 ((((lsD (inT g s) 256 : List Int).length : Nat) : Int))), (29, .slice A187 ((lsD (inT g s) 256 : List Int).length) c188), (8, .slice A187 ((lsD (inT g s) 256 : List Int).length) c188), (7, .pointer (some ⟨w163.heap.size, 0, none⟩)), (6, .bool false), (5, .slice none 0 0), (4, .pointer (some ⟨w11.heap.size, 0, none⟩)), (3, .pointer (some ⟨w1.heap.size, 0, none⟩)), (2, .pointer (some ⟨w.heap.size, 0, none⟩))]) ⟨rfl, rfl, rfl, rfl, rfl, rfl, rfl, rfl, rfl, rfl, trivial⟩
    exact ⟨_, (by omega), (k0 + 1), (nw).set (gI (lsD (inT g s) 256 : List Int) k0 : Int).toNat k0, rfl, f251, e209, r212, r213, bx214, bx215, bx216, bx238, ow218, (by omega), (by omega), (now_next hnw (by omega) (by omega)), (by rw [List.length_set]; assumption), (by omega)⟩
   ·have q252 := of_decide_eq_false h225
    refine wp_exit ?_
    refine t_e ?_
    refine t_e ?_
    refine b_e ?_
    refine t_n ?_
    refine wp_seq ?_
    refine At.start ?_
    refine At.seq f223 1 [[]] [(11, .pointer (some ⟨w208.heap.size, 0, none⟩))] (w208.alloc (.cells #[.slice none 0 0, .slice none 0 0, .slice none 0 0] 25 (0, 0))) [] (by kernel_rfl) trivial (fun act256 w253 hw254 f255 => ?_)
    clear f223
    have g257 := gr_alloc hw254
    have szw253 := g257.size
    replace e209 := e209.gr g257 no_row
    replace r212 := r212.gr g257 (fun _ h => by cases h)
    replace r213 := r213.gr g257 (fun _ h => by cases h)
    replace bx214 := bx214.gr g257 (by simp)
    replace bx215 := bx215.gr g257 (by simp)
    replace bx216 := bx216.gr g257 (by simp)
    replace bx217 := bx217.gr g257 (by simp)
    replace ow218 : OwnR w253 (Sx (w172.heap.size) [some (w208.heap.size)]) A187 c188 3 ((lsD (inT g s) 256 : List Int) : List Int) := ow218.grA g257 (fun _ _ h => by cases h) (fun k hk hs => ⟨(fun e => by injection e; omega), hs⟩)
    have bx267 : Bx w253 (w208.heap.size) [.slice none 0 0, .slice none 0 0, .slice none 0 0] 25 := Bx.new hw254
    have := bx267.lt
    clear g257 hw254
    refine At.done rfl ?_
    refine t_n ?_
    refine wp_seq ?_
    refine wp_seq ?_
    refine At.start ?_
    refine At.rd f255 3 [[], [], []] [(42, .int .i64 (0)), (41, .int .i64 ((((lsD (inT g s) 256 : List Int).length : Nat) : Int))), (40, .slice A187 ((lsD (inT g s) 256 : List Int).length) c188)] [] (by kernel_rfl) trivial (fun act269 f268 => ?_)
    clear f255
    refine At.done rfl ?_
    refine t_n ?_
    refine wp_block ?_
    have ow271 : OwnR w253 (Sx (w253.heap.size) [obk (A187)]) none 0 3 ([] : List Int) := OwnR.nil
    replace ow218 : OwnR w253 (Sx (w172.heap.size) [obk none, some (w208.heap.size)]) A187 c188 3 ((lsD (inT g s) 256 : List Int) : List Int) := ow218.imp (fun g _ hs => ⟨by simp [obk], hs⟩)
    have ow276 : OwnR w253 (Sx (w253.heap.size) [obk (A187), obk (none)]) none 0 3 ([] : List Int) := OwnR.nil
    replace ow218 : OwnR w253 (Sx (w172.heap.size) [obk none, obk none, some (w208.heap.size)]) A187 c188 3 ((lsD (inT g s) 256 : List Int) : List Int) := ow218.imp (fun g _ hs => ⟨by simp [obk], hs⟩)
    replace ow271 : OwnR w253 (Sx (w253.heap.size) [obk none, obk (A187)]) none 0 3 ([] : List Int) := ow271.imp (fun g _ hs => ⟨by simp [obk], hs⟩)
    have ow282 : OwnLL w253 (w253.heap.size) [obk (A187), obk (none), obk (none)] none 0 22 3 ([] : List (List Int)) := OwnLL.nil
    replace ow218 : OwnR w253 (Sx (w172.heap.size) [obk none, obk none, obk none, some (w208.heap.size)]) A187 c188 3 ((lsD (inT g s) 256 : List Int) : List Int) := ow218.imp (fun g _ hs => ⟨by simp [obk], hs⟩)
    replace ow271 : OwnR w253 (Sx (w253.heap.size) [obk none, obk none, obk (A187)]) none 0 3 ([] : List Int) := ow271.imp (fun g _ hs => ⟨by simp [obk], hs⟩)
    replace ow276 : OwnR w253 (Sx (w253.heap.size) [obk none, obk (A187), obk (none)]) none 0 3 ([] : List Int) := ow276.imp (fun g _ hs => ⟨by simp [obk], hs⟩)
    have f288 := f268.sub (r := [(42, .int .i64 (0)), (41, .int .i64 ((((lsD (inT g s) 256 : List Int).length : Nat) : Int))), (40, .slice A187 ((lsD (inT g s) 256 : List Int).length) c188), (11, .pointer (some ⟨w208.heap.size, 0, none⟩)), (8, .slice A187 ((lsD (inT g s) 256 : List Int).length) c188), (7, .pointer (some ⟨w163.heap.size, 0, none⟩)), (4, .pointer (some ⟨w11.heap.size, 0, none⟩)), (3, .pointer (some ⟨w1.heap.size, 0, none⟩)), (2, .pointer (some ⟨w.heap.size, 0, none⟩))]) ⟨rfl, rfl, rfl, rfl, rfl, rfl, rfl, rfl, rfl, trivial⟩
    refine loop_g (fun (m_ : Nat) a_ w_ => ∃ (k : Int) (xo : List Int) (A_273 : Option Addr) (c_274 : Nat) (xp : List Int) (A_279 : Option Addr) (c_280 : Nat) (xm : List (List Int)) (A_286 : Option Addr) (c_287 : Nat), m_ = (((lsD (inT g s) 256).length : Int) - k).toNat ∧ (Frm 102 a_ [(42, .int .i64 (k)), (41, .int .i64 ((((lsD (inT g s) 256 : List Int).length : Nat) : Int))), (40, .slice A187 ((lsD (inT g s) 256 : List Int).length) c188), (11, .pointer (some ⟨w208.heap.size, 0, none⟩)), (8, .slice A187 ((lsD (inT g s) 256 : List Int).length) c188), (7, .pointer (some ⟨w163.heap.size, 0, none⟩)), (4, .pointer (some ⟨w11.heap.size, 0, none⟩)), (3, .pointer (some ⟨w1.heap.size, 0, none⟩)), (2, .pointer (some ⟨w.heap.size, 0, none⟩))]) ∧ (Ext w w_) ∧ (RdG w_ 0 w.heap.size Ag0 Ag1 Ag2 cg0 cg1 cg2 g) ∧ (RdT w_ 0 w.heap.size) ∧ (Bx w_ (w.heap.size) [.slice Ag0 g.ow.length cg0, .slice Ag1 g.pr.length cg1, .slice Ag2 g.mv.length cg2] 25) ∧ (Bx w_ (w1.heap.size) (((inS g s : List Int) : List Int).map wV) 47) ∧ (Bx w_ (w11.heap.size) [.slice none 0 0, .slice none 0 0, .slice none 0 0] 25) ∧ (Bx w_ (w163.heap.size) ((nw : List Int).map iV) 61) ∧ (OwnR w_ (Sx (w172.heap.size) [obk (A_286), obk (A_279), obk (A_273), some (w208.heap.size)]) A187 c188 3 ((lsD (inT g s) 256 : List Int) : List Int)) ∧ (Bx w_ (w208.heap.size) [.slice A_273 xo.length c_274, .slice A_279 xp.length c_280, .slice A_286 xm.length c_287] 25) ∧ (OwnR w_ (Sx (w253.heap.size) [obk (A_286), obk (A_279), obk (A187)]) A_273 c_274 3 (xo : List Int)) ∧ (OwnR w_ (Sx (w253.heap.size) [obk (A_286), obk (A187), obk (A_273)]) A_279 c_280 3 (xp : List Int)) ∧ (OwnLL w_ (w253.heap.size) [obk (A187), obk (A_273), obk (A_279)] A_286 c_287 22 3 (xm : List (List Int))) ∧ (0 ≤ k) ∧ (k ≤ ((lsD (inT g s) 256).length : Int)) ∧ (xo = ((lsD (inT g s) 256).take k.toNat).map (gI g.ow)) ∧ (xp = ((lsD (inT g s) 256).take k.toNat).map (gI g.pr)) ∧ (xm = ((lsD (inT g s) 256).take k.toNat).map (subR g (inT g s))) ∧ (GoneT g (inT g s) k) ∧ (w172.heap.size ≤ w_.heap.size) ∧ (w253.heap.size ≤ w_.heap.size)) _ ⟨0, ([] : List Int), none, 0, ([] : List Int), none, 0, ([] : List (List Int)), none, 0, rfl, f288, e209, r212, r213, bx214, bx215, bx216, bx217, ow218, bx267, ow271, ow276, ow282, (by omega), (by omega), rfl, rfl, rfl, (fun j a b => by omega), (by omega), (by omega)⟩ ?_
    clear f288 f268
    clear r212
    clear r213
    clear bx214
    clear bx215
    clear bx216
    clear bx217
    clear ow218
    clear bx267
    clear ow271
    clear ow276
    clear ow282
    clear e209
    intro m_ act289 w290 ⟨k, xo, A_273, c_274, xp, A_279, c_280, xm, A_286, c_287, hm292, f293, e291, r294, r295, bx296, bx297, bx298, bx299, ow300, bx301, ow302, ow303, r304, i305, i306, hxo, hxp, hxm, hgo, i307, i308⟩
    have szw290 := e291.size
    have := bx296.lt
    have := bx297.lt
    have := bx298.lt
    have := bx299.lt
    have := bx301.lt
    refine wp_seq ?_
    refine At.start ?_
    refine At.rd f293 1 [[]] [(43, .bool (decide ((k : Int) < (((lsD (inT g s) 256 : List Int).length : Nat) : Int))))] [] (by kernel_rfl) trivial (fun act310 f309 => ?_)
    clear f293
    refine At.done rfl ?_
    refine t_n ?_
    refine wp_seq ?_
    refine cond_S f309 (t := decide ((k : Int) < (((lsD (inT g s) 256 : List Int).length : Nat) : Int))) rfl (fun h311 => ?_) (fun h311 => ?_)
    ·have q312 := of_decide_eq_true h311
     refine wp_skip ?_
     refine t_n ?_
     refine wp_seq ?_
     refine wp_block ?_
     refine wp_seq ?_
     refine At.start ?_
     obtain ⟨ad313, hA314, hb317, hc316, hc315⟩ := ow300.get (k) (by omega) (by omega) (sz := 1) rfl
     refine At.rd f309 3 [[.ad ad313], [.ld (.int .i64 (gI (lsD (inT g s) 256 : List Int) k))], []] [(13, .int .i64 (gI (lsD (inT g s) 256 : List Int) k)), (45, .int .i64 (gI (lsD (inT g s) 256 : List Int) k)), (44, .pointer (some (ad313.add ((k : Int).toNat * 1))))] [(A187 = some ad313), (0 ≤ (k : Int)), ((k : Int) < ((lsD (inT g s) 256 : List Int).length : Nat)), (w290.cell? (ad313.add ((k : Int).toNat * 1)) = some (.int .i64 (gI (lsD (inT g s) 256 : List Int) k)))] (by kernel_rfl) ⟨hA314, (by omega), (by omega), hc316, trivial⟩ (fun act319 f318 => ?_)
     clear f309
     refine At.done rfl ?_
     refine t_n ?_
     refine wp_seq ?_
     have hir := ls_rng (l := inT g s) (k := k) (by omega) (by omega)
     have hi1 := hir.1
     have hi2 := inT_lt _ hi1 hir.2.1 hir.2.2
     have hrl := row_len hG hi1 hi2
     refine At.start ?_
     refine At.rd f318 1 [[]] [(14, .slice none 0 0)] [] (by kernel_rfl) trivial (fun act321 f320 => ?_)
     clear f318
     refine At.done rfl ?_
     refine t_n ?_
     refine wp_seq ?_
     refine wp_seq ?_
     refine At.start ?_
     obtain ⟨ad322, R325, C326, hA323, _, _, hc324, hC327, r328⟩ := RdII.get r294.mv (gI (lsD (inT g s) 256 : List Int) k) (by omega) (by omega)
     have hl329 := r328.len
     refine At.rd f320 7 [[], [.ld (.slice Ag2 g.mv.length cg2)], [], [.ad ad322], [.ld (.slice R325 ((gL g.mv (gI (lsD (inT g s) 256 : List Int) k)).length) C326)], [], []] [(52, .int .i64 (0)), (51, .int .i64 ((((gL g.mv (gI (lsD (inT g s) 256 : List Int) k)).length : Nat) : Int))), (50, .slice R325 ((gL g.mv (gI (lsD (inT g s) 256 : List Int) k)).length) C326), (49, .pointer (some (ad322.add ((gI (lsD (inT g s) 256 : List Int) k : Int).toNat * 1)))), (48, .int .i64 (gI (lsD (inT g s) 256 : List Int) k)), (47, .slice Ag2 g.mv.length cg2), (46, .pointer (some ⟨w.heap.size, 2, none⟩))] [(w290.cell? ⟨w.heap.size, 2, none⟩ = some (.slice Ag2 g.mv.length cg2)), (Ag2 = some ad322), (0 ≤ (gI (lsD (inT g s) 256 : List Int) k : Int)), ((gI (lsD (inT g s) 256 : List Int) k : Int) < (g.mv.length : Nat)), (w290.cell? (ad322.add ((gI (lsD (inT g s) 256 : List Int) k : Int).toNat * 1)) = some (.slice R325 ((gL g.mv (gI (lsD (inT g s) 256 : List Int) k)).length) C326))] (by kernel_rfl) ⟨(bx296.cell (i := 2) rfl), hA323, (by omega), (by omega), hc324, trivial⟩ (fun act332 f331 => ?_)
     clear f320
     refine At.done rfl ?_
     refine t_n ?_
     refine wp_block ?_
     have ow334 : OwnR w290 (Sx (w290.heap.size) [obk (A187), obk (A_273), obk (A_279), obk (A_286)]) none 0 3 ([] : List Int) := OwnR.nil
     replace ow300 : OwnR w290 (Sx (w172.heap.size) [obk none, obk (A_286), obk (A_279), obk (A_273), some (w208.heap.size)]) A187 c188 3 ((lsD (inT g s) 256 : List Int) : List Int) := ow300.imp (fun g _ hs => ⟨by simp [obk], hs⟩)
     replace ow302 : OwnR w290 (Sx (w253.heap.size) [obk none, obk (A_286), obk (A_279), obk (A187)]) A_273 c_274 3 (xo : List Int) := ow302.imp (fun g _ hs => ⟨by simp [obk], hs⟩)
     replace ow303 : OwnR w290 (Sx (w253.heap.size) [obk none, obk (A_286), obk (A187), obk (A_273)]) A_279 c_280 3 (xp : List Int) := ow303.imp (fun g _ hs => ⟨by simp [obk], hs⟩)
     have ow338 : OwnLL w290 (w253.heap.size) [obk none, obk (A187), obk (A_273), obk (A_279)] A_286 c_287 22 3 (xm : List (List Int)) := r304.imp (fun g _ hs => ⟨by simp [obk], hs⟩)
     clear r304
     have f342 := f331.as 14 (.slice none 0 0) (.slice none (([] : List Int).length) 0) rfl (slice_len (by first | rfl | omega | (simp; done) | (simp; omega)))
     clear f331
     have f341 := f342.sub (r := [(14, .slice none (([] : List Int).length) 0), (52, .int .i64 (0)), (51, .int .i64 ((((gL g.mv (gI (lsD (inT g s) 256 : List Int) k)).length : Nat) : Int))), (50, .slice R325 ((gL g.mv (gI (lsD (inT g s) 256 : List Int) k)).length) C326), (13, .int .i64 (gI (lsD (inT g s) 256 : List Int) k)), (42, .int .i64 (k)), (41, .int .i64 ((((lsD (inT g s) 256 : List Int).length : Nat) : Int))), (40, .slice A187 ((lsD (inT g s) 256 : List Int).length) c188), (11, .pointer (some ⟨w208.heap.size, 0, none⟩)), (8, .slice A187 ((lsD (inT g s) 256 : List Int).length) c188), (7, .pointer (some ⟨w163.heap.size, 0, none⟩)), (4, .pointer (some ⟨w11.heap.size, 0, none⟩)), (3, .pointer (some ⟨w1.heap.size, 0, none⟩)), (2, .pointer (some ⟨w.heap.size, 0, none⟩))]) ⟨rfl, rfl, rfl, rfl, rfl, rfl, rfl, rfl, rfl, rfl, rfl, rfl, rfl, rfl, trivial⟩
     refine loop_g (fun (m_ : Nat) a_ w_ => ∃ (q : Int) (xl : List Int) (A_339 : Option Addr) (c_340 : Nat), m_ = (((gL g.mv (gI (lsD (inT g s) 256) k)).length : Int) - q).toNat ∧ (Frm 102 a_ [(14, .slice A_339 xl.length c_340), (52, .int .i64 (q)), (51, .int .i64 ((((gL g.mv (gI (lsD (inT g s) 256 : List Int) k)).length : Nat) : Int))), (50, .slice R325 ((gL g.mv (gI (lsD (inT g s) 256 : List Int) k)).length) C326), (13, .int .i64 (gI (lsD (inT g s) 256 : List Int) k)), (42, .int .i64 (k)), (41, .int .i64 ((((lsD (inT g s) 256 : List Int).length : Nat) : Int))), (40, .slice A187 ((lsD (inT g s) 256 : List Int).length) c188), (11, .pointer (some ⟨w208.heap.size, 0, none⟩)), (8, .slice A187 ((lsD (inT g s) 256 : List Int).length) c188), (7, .pointer (some ⟨w163.heap.size, 0, none⟩)), (4, .pointer (some ⟨w11.heap.size, 0, none⟩)), (3, .pointer (some ⟨w1.heap.size, 0, none⟩)), (2, .pointer (some ⟨w.heap.size, 0, none⟩))]) ∧ (Ext w w_) ∧ (RdG w_ 0 w.heap.size Ag0 Ag1 Ag2 cg0 cg1 cg2 g) ∧ (RdT w_ 0 w.heap.size) ∧ (Bx w_ (w.heap.size) [.slice Ag0 g.ow.length cg0, .slice Ag1 g.pr.length cg1, .slice Ag2 g.mv.length cg2] 25) ∧ (Bx w_ (w1.heap.size) (((inS g s : List Int) : List Int).map wV) 47) ∧ (Bx w_ (w11.heap.size) [.slice none 0 0, .slice none 0 0, .slice none 0 0] 25) ∧ (Bx w_ (w163.heap.size) ((nw : List Int).map iV) 61) ∧ (OwnR w_ (Sx (w172.heap.size) [obk (A_339), obk (A_286), obk (A_279), obk (A_273), some (w208.heap.size)]) A187 c188 3 ((lsD (inT g s) 256 : List Int) : List Int)) ∧ (Bx w_ (w208.heap.size) [.slice A_273 xo.length c_274, .slice A_279 xp.length c_280, .slice A_286 xm.length c_287] 25) ∧ (OwnR w_ (Sx (w253.heap.size) [obk (A_339), obk (A_286), obk (A_279), obk (A187)]) A_273 c_274 3 (xo : List Int)) ∧ (OwnR w_ (Sx (w253.heap.size) [obk (A_339), obk (A_286), obk (A187), obk (A_273)]) A_279 c_280 3 (xp : List Int)) ∧ (OwnLL w_ (w253.heap.size) [obk (A_339), obk (A187), obk (A_273), obk (A_279)] A_286 c_287 22 3 (xm : List (List Int))) ∧ (RdI w_ 0 w.heap.size R325 (gL g.mv (gI (lsD (inT g s) 256 : List Int) k))) ∧ (OwnR w_ (Sx (w290.heap.size) [obk (A187), obk (A_273), obk (A_279), obk (A_286)]) A_339 c_340 3 (xl : List Int)) ∧ (0 ≤ q) ∧ (q ≤ ((gL g.mv (gI (lsD (inT g s) 256) k)).length : Int)) ∧ (xl = (((gL g.mv (gI (lsD (inT g s) 256) k)).take q.toNat).filter (fun m => gB (inT g s) m)).map (posI (inT g s))) ∧ (w172.heap.size ≤ w_.heap.size) ∧ (w253.heap.size ≤ w_.heap.size) ∧ (w290.heap.size ≤ w_.heap.size)) _ ⟨0, ([] : List Int), none, 0, rfl, f341, e291, r294, r295, bx296, bx297, bx298, bx299, ow300, bx301, ow302, ow303, ow338, r328, ow334, (by omega), (Int.natCast_nonneg _), row_0, (by omega), (by omega), (by omega)⟩ ?_
     clear f341 f342
     clear r294
     clear r295
     clear bx296
     clear bx297
     clear bx298
     clear bx299
     clear ow300
     clear bx301
     clear ow302
     clear ow303
     clear ow338
     clear r328
     clear ow334
     clear e291
     intro m_ act343 w344 ⟨q, xl, A_339, c_340, hm346, f347, e345, r348, r349, bx350, bx351, bx352, bx353, ow354, bx355, ow356, ow357, r358, r359, ow360, i361, i362, hxl, i363, i364, i365⟩
     have szw344 := e345.size
     have := bx350.lt
     have := bx351.lt
     have := bx352.lt
     have := bx353.lt
     have := bx355.lt
     refine wp_seq ?_
     refine At.start ?_
     refine At.rd f347 1 [[]] [(53, .bool (decide ((q : Int) < (((gL g.mv (gI (lsD (inT g s) 256 : List Int) k)).length : Nat) : Int))))] [] (by kernel_rfl) trivial (fun act367 f366 => ?_)
     clear f347
     refine At.done rfl ?_
     refine t_n ?_
     refine wp_seq ?_
     refine cond_S f366 (t := decide ((q : Int) < (((gL g.mv (gI (lsD (inT g s) 256 : List Int) k)).length : Nat) : Int))) rfl (fun h368 => ?_) (fun h368 => ?_)
     ·have q369 := of_decide_eq_true h368
      refine wp_skip ?_
      refine t_n ?_
      refine wp_seq ?_
      refine wp_block ?_
      refine wp_seq ?_
      refine At.start ?_
      obtain ⟨ad370, hA371, _, _, hc372⟩ := RdI.get r359 (q) (by omega) (by omega)
      refine At.rd f366 3 [[.ad ad370], [.ld (.int .i64 (gI (gL g.mv (gI (lsD (inT g s) 256 : List Int) k)) (q)))], []] [(16, .int .i64 (gI (gL g.mv (gI (lsD (inT g s) 256 : List Int) k)) (q))), (55, .int .i64 (gI (gL g.mv (gI (lsD (inT g s) 256 : List Int) k)) (q))), (54, .pointer (some (ad370.add ((q : Int).toNat * 1))))] [(R325 = some ad370), (0 ≤ (q : Int)), ((q : Int) < ((gL g.mv (gI (lsD (inT g s) 256 : List Int) k)).length : Nat)), (w344.cell? (ad370.add ((q : Int).toNat * 1)) = some (.int .i64 (gI (gL g.mv (gI (lsD (inT g s) 256 : List Int) k)) (q))))] (by kernel_rfl) ⟨hA371, (by omega), (by omega), hc372, trivial⟩ (fun act374 f373 => ?_)
      clear f366
      refine At.done rfl ?_
      refine t_n ?_
      refine wp_seq ?_
      have hmk := hG.mv (gI (lsD (inT g s) 256) k) hi1 hi2 q (by omega) (by omega)
      have hxll := row_lenS hxl (by omega)
      refine At.start ?_
      refine At.rd f373 2 [[.cs (((inS g s : List Int) : List Int).map wV)], []] [(57, .int .i64 (gI (gL g.mv (gI (lsD (inT g s) 256 : List Int) k)) (q))), (56, .agg (((inS g s : List Int) : List Int).map wV).toArray)] [((((inS g s : List Int) : List Int).map wV).length = 4), (∀ (j : Nat) (v : Value), (((inS g s : List Int) : List Int).map wV)[j]? = some v → w344.cell? ((⟨w1.heap.size, 0, none⟩ : Addr).add j) = some v)] (by kernel_rfl) ⟨((List.length_map _).trans (okLen (inS_ok (by assumption)))), bx351.whole, trivial⟩ (fun act376 f375 => ?_)
      clear f373
      refine At.call f375 33 #[.agg (((inS g s : List Int) : List Int).map wV).toArray, .int .i64 (gI (gL g.mv (gI (lsD (inT g s) 256 : List Int) k)) (q))] (some 58) (by kernel_rfl) (has_any (s := (inS g s : List Int)) (n := gI (gL g.mv (gI (lsD (inT g s) 256 : List Int) k)) (q)) (inS_ok (by assumption))) ?_
      rintro e_ w377 ⟨rfl, he⟩
      refine ⟨_, rfl, _, rfl, fun act378 f379 => ?_⟩
      clear f375
      have g380 := gr_ext he
      have szw377 := g380.size
      replace e345 := e345.gr g380 no_row
      replace r348 := r348.gr g380 (fun _ h => by cases h)
      replace r349 := r349.gr g380 (fun _ h => by cases h)
      replace bx350 := bx350.gr g380 (by simp)
      replace bx351 := bx351.gr g380 (by simp)
      replace bx352 := bx352.gr g380 (by simp)
      replace bx353 := bx353.gr g380 (by simp)
      replace ow354 := ow354.gr g380 (fun _ _ h => by cases h)
      replace bx355 := bx355.gr g380 (by simp)
      replace ow356 := ow356.gr g380 (fun _ _ h => by cases h)
      replace ow357 := ow357.gr g380 (fun _ _ h => by cases h)
      have ow392 := r358.gr g380 (fun _ _ h => by cases h)
      clear r358
      replace r359 := r359.gr g380 (fun _ h => by cases h)
      replace ow360 := ow360.gr g380 (fun _ _ h => by cases h)
      clear g380 he
      refine At.done rfl ?_
      refine t_n ?_
      refine cond_S f379 (t := hasW (inS g s : List Int) (gI (gL g.mv (gI (lsD (inT g s) 256 : List Int) k)) (q))) rfl (fun h395 => ?_) (fun h395 => ?_)
      ·refine At.start ?_
       refine At.rd f379 4 [[], [], [], [.ld (.int .i64 (gI nw (gI (gL g.mv (gI (lsD (inT g s) 256 : List Int) k)) (q))))]] [(62, .int .i64 (gI nw (gI (gL g.mv (gI (lsD (inT g s) 256 : List Int) k)) (q)))), (61, .pointer (some ((⟨w163.heap.size, 0, none⟩ : Addr).add ((gI (gL g.mv (gI (lsD (inT g s) 256 : List Int) k)) (q) : Int).toNat * 1)))), (60, .int .i64 (gI (gL g.mv (gI (lsD (inT g s) 256 : List Int) k)) (q))), (59, .slice A_339 xl.length c_340)] [(0 ≤ (gI (gL g.mv (gI (lsD (inT g s) 256 : List Int) k)) (q) : Int)), ((gI (gL g.mv (gI (lsD (inT g s) 256 : List Int) k)) (q) : Int) < (256 : Nat)), (w377.cell? ((⟨w163.heap.size, 0, none⟩ : Addr).add ((gI (gL g.mv (gI (lsD (inT g s) 256 : List Int) k)) (q) : Int).toNat * 1)) = some (.int .i64 (gI nw (gI (gL g.mv (gI (lsD (inT g s) 256 : List Int) k)) (q)))))] (by kernel_rfl) ⟨(by omega), (by omega), (Bx.arrM (f := iV) (0 : Int) bx353 (gI (gL g.mv (gI (lsD (inT g s) 256 : List Int) k)) (q)) (by omega) (by omega)), trivial⟩ (fun act398 f397 => ?_)
       clear f379
       refine At.seq f397 1 [[]] [(63, .slice (some ⟨w377.heap.size, 0, none⟩) 1 1)] (w377.alloc (.cells #[.int .i64 (gI nw (gI (gL g.mv (gI (lsD (inT g s) 256 : List Int) k)) (q)))] 3 (0, 0))) [] (by kernel_rfl) trivial (fun act402 w399 hw400 f401 => ?_)
       clear f397
       have g403 := gr_alloc hw400
       have szw399 := g403.size
       replace e345 := e345.gr g403 no_row
       replace r348 := r348.gr g403 (fun _ h => by cases h)
       replace r349 := r349.gr g403 (fun _ h => by cases h)
       replace bx350 := bx350.gr g403 (by simp)
       replace bx351 := bx351.gr g403 (by simp)
       replace bx352 := bx352.gr g403 (by simp)
       replace bx353 := bx353.gr g403 (by simp)
       replace ow354 : OwnR w399 (Sx (w172.heap.size) [some (w377.heap.size), obk (A_339), obk (A_286), obk (A_279), obk (A_273), some (w208.heap.size)]) A187 c188 3 ((lsD (inT g s) 256 : List Int) : List Int) := ow354.grA g403 (fun _ _ h => by cases h) (fun k hk hs => ⟨(fun e => by injection e; omega), hs.1, hs.2.1, hs.2.2.1, hs.2.2.2.1, hs.2.2.2.2.1, hs.2.2.2.2.2⟩)
       replace bx355 := bx355.gr g403 (by simp)
       replace ow356 : OwnR w399 (Sx (w253.heap.size) [some (w377.heap.size), obk (A_339), obk (A_286), obk (A_279), obk (A187)]) A_273 c_274 3 (xo : List Int) := ow356.grA g403 (fun _ _ h => by cases h) (fun k hk hs => ⟨(fun e => by injection e; omega), hs.1, hs.2.1, hs.2.2.1, hs.2.2.2.1, hs.2.2.2.2⟩)
       replace ow357 : OwnR w399 (Sx (w253.heap.size) [some (w377.heap.size), obk (A_339), obk (A_286), obk (A187), obk (A_273)]) A_279 c_280 3 (xp : List Int) := ow357.grA g403 (fun _ _ h => by cases h) (fun k hk hs => ⟨(fun e => by injection e; omega), hs.1, hs.2.1, hs.2.2.1, hs.2.2.2.1, hs.2.2.2.2⟩)
       replace ow392 : OwnLL w399 (w253.heap.size) [some (w377.heap.size), obk (A_339), obk (A187), obk (A_273), obk (A_279)] A_286 c_287 22 3 (xm : List (List Int)) := ow392.grA g403 (fun _ _ h => by cases h) (fun k hk hs => ⟨(fun e => by injection e; omega), hs.1, hs.2.1, hs.2.2.1, hs.2.2.2.1, hs.2.2.2.2⟩)
       replace r359 := r359.gr g403 (fun _ h => by cases h)
       replace ow360 : OwnR w399 (Sx (w290.heap.size) [some (w377.heap.size), obk (A187), obk (A_273), obk (A_279), obk (A_286)]) A_339 c_340 3 (xl : List Int) := ow360.grA g403 (fun _ _ h => by cases h) (fun k hk hs => ⟨(fun e => by injection e; omega), hs.1, hs.2.1, hs.2.2.1, hs.2.2.2.1, hs.2.2.2.2⟩)
       have bx405 : Bx w399 (w377.heap.size) [.int .i64 (gI nw (gI (gL g.mv (gI (lsD (inT g s) 256 : List Int) k)) (q)))] 3 := Bx.new hw400
       have := bx405.lt
       clear g403 hw400
       have hl424 : (xl ++ ([gI nw (gI (gL g.mv (gI (lsD (inT g s) 256 : List Int) k)) (q))])).length = (xl).length + ([gI nw (gI (gL g.mv (gI (lsD (inT g s) 256 : List Int) k)) (q))] : List Int).length := List.length_append
       simp only [List.length_cons, List.length_nil] at hl424
       refine At.act f401 (appendR (α := Int) (t := 22) (d := 64) (n := xl.length) (m := 1) (cc := 1) (xs := xl) (ys := [gI nw (gI (gL g.mv (gI (lsD (inT g s) 256 : List Int) k)) (q))]) (bytes := 8) (by first | rfl | omega | (simp; done) | (simp; omega)) (by first | rfl | omega | (simp; done) | (simp; omega)) (by kernel_rfl) rfl (by kernel_rfl) ow360 (Bx.srcR (l := ([gI nw (gI (gL g.mv (gI (lsD (inT g s) 256 : List Int) k)) (q))] : List Int)) bx405 rfl) (by simp only [List.length_cons, List.length_nil]; omega) (by simp only [List.length_cons, List.length_nil]; omega)) ?_
       rintro d_ v_ w423 ⟨rfl, A420, c421, ha422⟩
       obtain rfl := ha422.val
       have g425 := ha422.gr
       refine ⟨_, rfl, fun act427 f426 => ?_⟩
       clear f401
       clear bx405
       have ow428 := ha422.own (Sx (w290.heap.size) [obk (A187), obk (A_273), obk (A_279), obk (A_286)]) (fun g _ hs => ⟨hs.2.1, hs.2.2.1, hs.2.2.2.1, hs.2.2.2.2.1, hs.2.2.2.2.2⟩) ⟨ow354.ne_new, ow356.ne_new, ow357.ne_new, ow392.ne_new, (show w290.heap.size ≤ w399.heap.size by omega)⟩
       have szw423 := g425.size
       replace e345 := e345.gr g425 (fun k hk => by have := ow360.ge k hk; omega)
       replace r348 := r348.gr g425 (fun k hk => by have := ow360.ge k hk; omega)
       replace r349 := r349.gr g425 (fun k hk => by have := ow360.ge k hk; omega)
       replace bx350 := bx350.gr g425 (fun e => by have := ow360.ge _ e; omega)
       replace bx351 := bx351.gr g425 (fun e => by have := ow360.ge _ e; omega)
       replace bx352 := bx352.gr g425 (fun e => by have := ow360.ge _ e; omega)
       replace bx353 := bx353.gr g425 (fun e => by have := ow360.ge _ e; omega)
       replace ow354 : OwnR w423 (Sx (w172.heap.size) [some (w377.heap.size), obk (A420), obk (A_286), obk (A_279), obk (A_273), some (w208.heap.size)]) A187 c188 3 ((lsD (inT g s) 256 : List Int) : List Int) := ow354.grA g425 (fun k hk => hk.2.1) (fun k hk hs => ⟨hs.1, own_repl ha422.at_ hs.2.1 hk, hs.2.2.1, hs.2.2.2.1, hs.2.2.2.2.1, hs.2.2.2.2.2.1, hs.2.2.2.2.2.2⟩)
       replace bx355 := bx355.gr g425 (fun e => by have := ow360.ge _ e; omega)
       replace ow356 : OwnR w423 (Sx (w253.heap.size) [some (w377.heap.size), obk (A420), obk (A_286), obk (A_279), obk (A187)]) A_273 c_274 3 (xo : List Int) := ow356.grA g425 (fun k hk => hk.2.1) (fun k hk hs => ⟨hs.1, own_repl ha422.at_ hs.2.1 hk, hs.2.2.1, hs.2.2.2.1, hs.2.2.2.2.1, hs.2.2.2.2.2⟩)
       replace ow357 : OwnR w423 (Sx (w253.heap.size) [some (w377.heap.size), obk (A420), obk (A_286), obk (A187), obk (A_273)]) A_279 c_280 3 (xp : List Int) := ow357.grA g425 (fun k hk => hk.2.1) (fun k hk hs => ⟨hs.1, own_repl ha422.at_ hs.2.1 hk, hs.2.2.1, hs.2.2.2.1, hs.2.2.2.2.1, hs.2.2.2.2.2⟩)
       replace ow392 : OwnLL w423 (w253.heap.size) [some (w377.heap.size), obk (A420), obk (A187), obk (A_273), obk (A_279)] A_286 c_287 22 3 (xm : List (List Int)) := ow392.grA g425 (fun k hk => hk.2.1) (fun k hk hs => ⟨hs.1, own_repl ha422.at_ hs.2.1 hk, hs.2.2.1, hs.2.2.2.1, hs.2.2.2.2.1, hs.2.2.2.2.2⟩)
       replace r359 := r359.gr g425 (fun k hk => by have := ow360.ge k hk; omega)
       clear ow360 g425 ha422
       refine At.rd f426 1 [[]] [(14, .slice A420 ((xl ++ ([gI nw (gI (gL g.mv (gI (lsD (inT g s) 256 : List Int) k)) (q))])).length) c421)] [] (by kernel_rfl) trivial (fun act443 f442 => ?_)
       clear f426
       refine At.done rfl ?_
       refine b_n ?_
       refine t_n ?_
       refine At.start ?_
       refine At.rd f442 2 [[.as_ (.int .i64 (q + 1))], []] [(52, .int .i64 (q + 1)), (65, .int .i64 (q + 1))] [((.int .i64 (IntKind.i64.wrap (q + 1)) : Value) = .int .i64 (q + 1))] (by kernel_rfl) ⟨(w64 (by omega) (by omega)), trivial⟩ (fun act445 f444 => ?_)
       clear f442
       refine At.done rfl ?_
       refine t_n ?_
       have f446 := f444.as 14 (.slice A420 ((xl ++ ([gI nw (gI (gL g.mv (gI (lsD (inT g s) 256 : List Int) k)) (q))])).length) c421) (.slice A420 ((xl ++ ([gI nw (gI (gL g.mv (gI (lsD (inT g s) 256 : List Int) k)) (q))]) : List Int).length) c421) rfl (slice_len (by first | rfl | omega | (simp; done) | (simp; omega)))
       clear f444
       have f447 := f446.sub (r := [(14, .slice A420 ((xl ++ ([gI nw (gI (gL g.mv (gI (lsD (inT g s) 256 : List Int) k)) (q))]) : List Int).length) c421), (52, .int .i64 (q + 1)), (51, .int .i64 ((((gL g.mv (gI (lsD (inT g s) 256 : List Int) k)).length : Nat) : Int))), (50, .slice R325 ((gL g.mv (gI (lsD (inT g s) 256 : List Int) k)).length) C326), (13, .int .i64 (gI (lsD (inT g s) 256 : List Int) k)), (42, .int .i64 (k)), (41, .int .i64 ((((lsD (inT g s) 256 : List Int).length : Nat) : Int))), (40, .slice A187 ((lsD (inT g s) 256 : List Int).length) c188), (11, .pointer (some ⟨w208.heap.size, 0, none⟩)), (8, .slice A187 ((lsD (inT g s) 256 : List Int).length) c188), (7, .pointer (some ⟨w163.heap.size, 0, none⟩)), (4, .pointer (some ⟨w11.heap.size, 0, none⟩)), (3, .pointer (some ⟨w1.heap.size, 0, none⟩)), (2, .pointer (some ⟨w.heap.size, 0, none⟩))]) ⟨rfl, rfl, rfl, rfl, rfl, rfl, rfl, rfl, rfl, rfl, rfl, rfl, rfl, rfl, trivial⟩
       exact ⟨_, (by omega), (q + 1), (xl ++ ([gI nw (gI (gL g.mv (gI (lsD (inT g s) 256 : List Int) k)) (q))]) : List Int), A420, c421, rfl, f447, e345, r348, r349, bx350, bx351, bx352, bx353, (ow354.imp (fun g _ hs => ⟨hs.2.1, hs.2.2.1, hs.2.2.2.1, hs.2.2.2.2.1, hs.2.2.2.2.2.1, hs.2.2.2.2.2.2⟩)), bx355, (ow356.imp (fun g _ hs => ⟨hs.2.1, hs.2.2.1, hs.2.2.2.1, hs.2.2.2.2.1, hs.2.2.2.2.2⟩)), (ow357.imp (fun g _ hs => ⟨hs.2.1, hs.2.2.1, hs.2.2.2.1, hs.2.2.2.2.1, hs.2.2.2.2.2⟩)), (ow392.imp (fun g _ hs => ⟨hs.2.1, hs.2.2.1, hs.2.2.2.1, hs.2.2.2.2.1, hs.2.2.2.2.2⟩)), r359, ow428, (by omega), (by omega), (row_push hxl (by omega) (by omega) (by rw [← has_inT (by omega) (by omega)]; assumption) (now_pos hnw (by omega) (by omega) (by omega) (by rw [← has_inT (by omega) (by omega)]; assumption))), (by omega), (by omega), (by omega)⟩
      ·refine wp_skip ?_
       refine b_n ?_
       refine t_n ?_
       refine At.start ?_
       refine At.rd f379 2 [[.as_ (.int .i64 (q + 1))], []] [(52, .int .i64 (q + 1)), (65, .int .i64 (q + 1))] [((.int .i64 (IntKind.i64.wrap (q + 1)) : Value) = .int .i64 (q + 1))] (by kernel_rfl) ⟨(w64 (by omega) (by omega)), trivial⟩ (fun act450 f449 => ?_)
       clear f379
       refine At.done rfl ?_
       refine t_n ?_
       have f451 := f449.as 14 (.slice A_339 xl.length c_340) (.slice A_339 ((xl : List Int).length) c_340) rfl (slice_len (by first | rfl | omega | (simp; done) | (simp; omega)))
       clear f449
       have f452 := f451.sub (r := [(14, .slice A_339 ((xl : List Int).length) c_340), (52, .int .i64 (q + 1)), (51, .int .i64 ((((gL g.mv (gI (lsD (inT g s) 256 : List Int) k)).length : Nat) : Int))), (50, .slice R325 ((gL g.mv (gI (lsD (inT g s) 256 : List Int) k)).length) C326), (13, .int .i64 (gI (lsD (inT g s) 256 : List Int) k)), (42, .int .i64 (k)), (41, .int .i64 ((((lsD (inT g s) 256 : List Int).length : Nat) : Int))), (40, .slice A187 ((lsD (inT g s) 256 : List Int).length) c188), (11, .pointer (some ⟨w208.heap.size, 0, none⟩)), (8, .slice A187 ((lsD (inT g s) 256 : List Int).length) c188), (7, .pointer (some ⟨w163.heap.size, 0, none⟩)), (4, .pointer (some ⟨w11.heap.size, 0, none⟩)), (3, .pointer (some ⟨w1.heap.size, 0, none⟩)), (2, .pointer (some ⟨w.heap.size, 0, none⟩))]) ⟨rfl, rfl, rfl, rfl, rfl, rfl, rfl, rfl, rfl, rfl, rfl, rfl, rfl, rfl, trivial⟩
       exact ⟨_, (by omega), (q + 1), (xl : List Int), A_339, c_340, rfl, f452, e345, r348, r349, bx350, bx351, bx352, bx353, ow354, bx355, ow356, ow357, ow392, r359, ow360, (by omega), (by omega), (row_skip hxl (by omega) (by omega) (by rw [← has_inT (by omega) (by omega)]; assumption)), (by omega), (by omega), (by omega)⟩
     ·have q453 := of_decide_eq_false h368
      refine wp_exit ?_
      refine t_e ?_
      refine t_e ?_
      refine b_e ?_
      refine t_n ?_
      refine wp_seq ?_
      refine wp_seq ?_
      have hxe := row_end hxl (by omega)
      have hxll := row_lenS hxl (by omega)
      refine At.start ?_
      refine At.rd f366 3 [[], [], []] [(68, .bool ((((xl.length : Nat) : Int) : Int) == 0)), (67, .int .i64 (((xl.length : Nat) : Int))), (66, .slice A_339 xl.length c_340)] [] (by kernel_rfl) trivial (fun act455 f454 => ?_)
      clear f366
      refine At.done rfl ?_
      refine t_n ?_
      refine cond_S f454 (t := (((xl.length : Nat) : Int) : Int) == 0) rfl (fun h456 => ?_) (fun h456 => ?_)
      ·have q457 := eq_of_beq h456
       refine wp_seq ?_
       have hbad : subAll g (inT g s) = false := gone_bad (k := k) (by omega) (by omega) (by rw [← hxe]; exact List.length_eq_zero_iff.1 (by omega))
       refine At.start ?_
       refine At.rd f454 1 [[]] [(69, .agg #[.slice none 0 0, .slice none 0 0, .slice none 0 0])] [] (by kernel_rfl) trivial (fun act459 f458 => ?_)
       clear f454
       refine At.store f458 (t := 25) (b := w11.heap.size) (off := 0) (v := .agg #[.slice none 0 0, .slice none 0 0, .slice none 0 0]) (by kernel_rfl) bx352 (by kernel_rfl) (fun act464 w460 g461 bx462 f463 => ?_)
       clear f458
       replace bx462 : Bx w460 (w11.heap.size) [.slice none 0 0, .slice none 0 0, .slice none 0 0] 25 := bx462
       have szw460 := g461.size
       replace e345 := e345.gr g461 (fun k h => by injection h; omega)
       replace r348 := r348.gr g461 (fun k h => by injection h; omega)
       replace r349 := r349.gr g461 (fun k h => by injection h; omega)
       replace bx350 := bx350.gr g461 (fun h => by injection h; omega)
       replace bx351 := bx351.gr g461 (fun h => by injection h; omega)
       replace bx353 := bx353.gr g461 (fun h => by injection h; omega)
       replace ow354 := ow354.gr g461 (fun k hk e => by have := Sx_base hk; injection e; omega)
       replace bx355 := bx355.gr g461 (fun h => by injection h; omega)
       replace ow356 := ow356.gr g461 (fun k hk e => by have := Sx_base hk; injection e; omega)
       replace ow357 := ow357.gr g461 (fun k hk e => by have := Sx_base hk; injection e; omega)
       have ow475 := r358.gr g461 (fun k hk e => by have := Sx_base hk; injection e; omega)
       clear r358
       replace r359 := r359.gr g461 (fun k h => by injection h; omega)
       replace ow360 := ow360.gr g461 (fun k hk e => by have := Sx_base hk; injection e; omega)
       clear bx352 g461
       refine At.rd f463 2 [[], []] [(6, .bool false), (5, .slice none 0 0)] [] (by kernel_rfl) trivial (fun act479 f478 => ?_)
       clear f463
       refine At.done rfl ?_
       refine t_n ?_
       have f480 := f478.sub (r := [(6, .bool false), (5, .slice none 0 0), (4, .pointer (some ⟨w11.heap.size, 0, none⟩))]) ⟨rfl, rfl, rfl, trivial⟩
       clear f478
       refine wp_ret ?_
       refine t_r ?_
       refine b_r ?_
       refine t_r ?_
       refine t_r ?_
       refine b_r ?_
       refine t_r ?_
       refine ret_ f480 [[.slice none 0 0, .slice none 0 0, .slice none 0 0]] [.agg #[.slice none 0 0, .slice none 0 0, .slice none 0 0], .slice none 0 0, .bool false] [(w460.cell? ⟨w11.heap.size, 0, none⟩ = some (.slice none 0 0)), (w460.cell? ⟨w11.heap.size, 1, none⟩ = some (.slice none 0 0)), (w460.cell? ⟨w11.heap.size, 2, none⟩ = some (.slice none 0 0))] (by kernel_rfl) ⟨(bx462.cell (i := 0) rfl), (bx462.cell (i := 1) rfl), (bx462.cell (i := 2) rfl), trivial⟩ ?_
       obtain ⟨e1_, e2_, e3_⟩ := sub_no (g := g) (I := inT g s) (by first | exact .inl (by assumption) | exact .inr hbad)
       rw [e1_, e2_, e3_]
       exact ⟨none, 0, none, 0, none, 0, none, 0, rfl, e345, OwnR.nil, OwnR.nil, OwnLL.nil, OwnR.nil⟩
      ·have q481 := ne_of_beq_false h456
       refine wp_skip ?_
       refine t_n ?_
       have hxol := congrArg List.length hxo
       have hxpl := congrArg List.length hxp
       have hxml := congrArg List.length hxm
       rw [List.length_map, List.length_take] at hxol hxpl hxml
       have hne : xl ≠ [] := fun h_ => absurd (show (xl.length : Int) = 0 by rw [h_]; rfl) (by omega)
       refine wp_seq ?_
       obtain ⟨ad482, hA483, _, _, hc484⟩ := RdI.get r348.ow (gI (lsD (inT g s) 256 : List Int) k) (by omega) (by omega)
       obtain ⟨Cs485, hCs486⟩ : ∃ c : List (Addr × Value), c = [(⟨w.heap.size, 0, none⟩, (.slice Ag0 g.ow.length cg0)), ((ad482.add ((gI (lsD (inT g s) 256 : List Int) k : Int).toNat * 1)), (.int .i64 (gI g.ow (gI (lsD (inT g s) 256 : List Int) k))))] := ⟨_, rfl⟩
       have hS487 : HoldsC Cs485 w344 := by rw [hCs486]; exact ⟨(bx350.cell (i := 0) rfl), hc484, trivial⟩
       refine AtH.start Cs485 11 #[false, false, false, false, false, false, false, false, false, false, false] (by kernel_rfl) rfl rfl (fun w489 hw490 => ?_)
       have g488 := gr_drew hw490
       have hS491 := hS487.gr g488
       have szw489 := g488.size
       replace e345 := e345.gr g488 no_row
       replace r348 := r348.gr g488 (fun _ h => by cases h)
       replace r349 := r349.gr g488 (fun _ h => by cases h)
       replace bx350 := bx350.gr g488 (by simp)
       replace bx351 := bx351.gr g488 (by simp)
       replace bx352 := bx352.gr g488 (by simp)
       replace bx353 := bx353.gr g488 (by simp)
       replace ow354 := ow354.gr g488 (fun _ _ h => by cases h)
       replace bx355 := bx355.gr g488 (by simp)
       replace ow356 := ow356.gr g488 (fun _ _ h => by cases h)
       replace ow357 := ow357.gr g488 (fun _ _ h => by cases h)
       have ow503 := r358.gr g488 (fun _ _ h => by cases h)
       clear r358
       replace r359 := r359.gr g488 (fun _ h => by cases h)
       replace ow360 := ow360.gr g488 (fun _ _ h => by cases h)
       clear g488 hw490 hS487
       refine AtH.rd (by kernel_rfl) (fun d v c a w h => by cases d <;> exact h) hS491 [0, 2, 3, 4, 5, 6] [[], [], [.ld (.slice Ag0 g.ow.length cg0)], [], [.ad ad482], [.ld (.int .i64 (gI g.ow (gI (lsD (inT g s) 256 : List Int) k)))]] [(76, .int .i64 (gI g.ow (gI (lsD (inT g s) 256 : List Int) k))), (75, .pointer (some (ad482.add ((gI (lsD (inT g s) 256 : List Int) k : Int).toNat * 1)))), (74, .int .i64 (gI (lsD (inT g s) 256 : List Int) k)), (73, .slice Ag0 g.ow.length cg0), (72, .pointer (some ⟨w.heap.size, 0, none⟩)), (70, .pointer (some ⟨w208.heap.size, 0, none⟩))] #[true, false, true, true, true, true, true, false, false, false, false] [(∃ j_ : Nat, Cs485[j_]? = some (⟨w.heap.size, 0, none⟩, (.slice Ag0 g.ow.length cg0))), (Ag0 = some ad482), (0 ≤ (gI (lsD (inT g s) 256 : List Int) k : Int)), ((gI (lsD (inT g s) 256 : List Int) k : Int) < (g.ow.length : Nat)), (∃ j_ : Nat, Cs485[j_]? = some ((ad482.add ((gI (lsD (inT g s) 256 : List Int) k : Int).toNat * 1)), (.int .i64 (gI g.ow (gI (lsD (inT g s) 256 : List Int) k)))))] 5 f454 (by kernel_rfl) ⟨⟨0, by rw [hCs486]; rfl⟩, hA483, (by omega), (by omega), ⟨1, by rw [hCs486]; rfl⟩, trivial⟩ (fun act507 f506 => ?_)
       clear f454
       refine AtH.all [1, 7] 4 (by kernel_rfl) (by simp) ⟨?_, ?_, trivial⟩
       ·refine OneH.seq f506 [[.ld (.slice A_273 xo.length c_274)]] [(71, .slice A_273 xo.length c_274)] w489 [(w489.cell? ⟨w208.heap.size, 0, none⟩ = some (.slice A_273 xo.length c_274))] #[true, true, true, true, true, true, true, false, false, false, false] (by kernel_rfl) (by kernel_rfl) (by kernel_rfl) ⟨(bx355.cell (i := 0) rfl), trivial⟩ (fun act509 w510 hw511 f508 => ?_)
        obtain rfl : w489 = w510 := hw511.symm
        clear f506
        refine ⟨hS491, ?_⟩
        refine AtH.all [7] 3 (by kernel_rfl) (by simp) ⟨?_, trivial⟩
        refine OneH.seq f508 [[]] [(77, .slice (some ⟨w489.heap.size, 0, none⟩) 1 1)] (w489.alloc (.cells #[.int .i64 (gI g.ow (gI (lsD (inT g s) 256 : List Int) k))] 3 (0, 0))) [] #[true, true, true, true, true, true, true, true, false, false, false] (by kernel_rfl) (by kernel_rfl) (by kernel_rfl) trivial (fun act516 w513 hw514 f515 => ?_)
        clear f508
        have g517 := gr_alloc hw514
        have hS520 := hS491.gr g517
        refine ⟨hS520, ?_⟩
        have szw513 := g517.size
        replace e345 := e345.gr g517 no_row
        replace r348 := r348.gr g517 (fun _ h => by cases h)
        replace r349 := r349.gr g517 (fun _ h => by cases h)
        replace bx350 := bx350.gr g517 (by simp)
        replace bx351 := bx351.gr g517 (by simp)
        replace bx352 := bx352.gr g517 (by simp)
        replace bx353 := bx353.gr g517 (by simp)
        replace ow354 : OwnR w513 (Sx (w172.heap.size) [some (w489.heap.size), obk (A_339), obk (A_286), obk (A_279), obk (A_273), some (w208.heap.size)]) A187 c188 3 ((lsD (inT g s) 256 : List Int) : List Int) := ow354.grA g517 (fun _ _ h => by cases h) (fun k hk hs => ⟨(fun e => by injection e; omega), hs.1, hs.2.1, hs.2.2.1, hs.2.2.2.1, hs.2.2.2.2.1, hs.2.2.2.2.2⟩)
        replace bx355 := bx355.gr g517 (by simp)
        replace ow356 : OwnR w513 (Sx (w253.heap.size) [some (w489.heap.size), obk (A_339), obk (A_286), obk (A_279), obk (A187)]) A_273 c_274 3 (xo : List Int) := ow356.grA g517 (fun _ _ h => by cases h) (fun k hk hs => ⟨(fun e => by injection e; omega), hs.1, hs.2.1, hs.2.2.1, hs.2.2.2.1, hs.2.2.2.2⟩)
        replace ow357 : OwnR w513 (Sx (w253.heap.size) [some (w489.heap.size), obk (A_339), obk (A_286), obk (A187), obk (A_273)]) A_279 c_280 3 (xp : List Int) := ow357.grA g517 (fun _ _ h => by cases h) (fun k hk hs => ⟨(fun e => by injection e; omega), hs.1, hs.2.1, hs.2.2.1, hs.2.2.2.1, hs.2.2.2.2⟩)
        replace ow503 : OwnLL w513 (w253.heap.size) [some (w489.heap.size), obk (A_339), obk (A187), obk (A_273), obk (A_279)] A_286 c_287 22 3 (xm : List (List Int)) := ow503.grA g517 (fun _ _ h => by cases h) (fun k hk hs => ⟨(fun e => by injection e; omega), hs.1, hs.2.1, hs.2.2.1, hs.2.2.2.1, hs.2.2.2.2⟩)
        replace r359 := r359.gr g517 (fun _ h => by cases h)
        replace ow360 : OwnR w513 (Sx (w290.heap.size) [some (w489.heap.size), obk (A187), obk (A_273), obk (A_279), obk (A_286)]) A_339 c_340 3 (xl : List Int) := ow360.grA g517 (fun _ _ h => by cases h) (fun k hk hs => ⟨(fun e => by injection e; omega), hs.1, hs.2.1, hs.2.2.1, hs.2.2.2.1, hs.2.2.2.2⟩)
        have bx519 : Bx w513 (w489.heap.size) [.int .i64 (gI g.ow (gI (lsD (inT g s) 256 : List Int) k))] 3 := Bx.new hw514
        have := bx519.lt
        clear g517 hw514
        refine AtH.all [8] 2 (by kernel_rfl) (by simp) ⟨?_, trivial⟩
        have hl540 : (xo ++ ([gI g.ow (gI (lsD (inT g s) 256 : List Int) k)])).length = (xo).length + ([gI g.ow (gI (lsD (inT g s) 256 : List Int) k)] : List Int).length := List.length_append
        simp only [List.length_cons, List.length_nil] at hl540
        refine OneH.act f515 #[true, true, true, true, true, true, true, true, true, false, false] (by kernel_rfl) (appendR (α := Int) (t := 22) (d := 78) (n := xo.length) (m := 1) (cc := 1) (xs := xo) (ys := [gI g.ow (gI (lsD (inT g s) 256 : List Int) k)]) (bytes := 8) (by first | rfl | omega | (simp; done) | (simp; omega)) (by first | rfl | omega | (simp; done) | (simp; omega)) (by kernel_rfl) rfl (by kernel_rfl) ow356 (Bx.srcR (l := ([gI g.ow (gI (lsD (inT g s) 256 : List Int) k)] : List Int)) bx519 rfl) (by simp only [List.length_cons, List.length_nil]; omega) (by simp only [List.length_cons, List.length_nil]; omega)) ?_
        rintro d_ v_ w539 ⟨rfl, A536, c537, ha538⟩
        obtain rfl := ha538.val
        have g541 := ha538.gr
        have hS544 := hS520.grO g541 (by rw [hCs486]; exact ⟨(fun e => by have := ow356.ge _ e; simp only [add_block] at this; omega), (fun e => by have := ow356.ge _ e; simp only [add_block] at this; omega), trivial⟩)
        refine ⟨_, rfl, fun act543 f542 => ⟨hS544, ?_⟩⟩
        clear f515
        clear bx519
        have ow545 := ha538.own (Sx (w253.heap.size) [obk (A_339), obk (A_286), obk (A_279), obk (A187)]) (fun g _ hs => ⟨hs.2.1, hs.2.2.1, hs.2.2.2.1, hs.2.2.2.2.1, hs.2.2.2.2.2⟩) ⟨ow360.ne_new, ow503.ne_new, ow357.ne_new, ow354.ne_new, (show w253.heap.size ≤ w513.heap.size by omega)⟩
        have szw539 := g541.size
        replace e345 := e345.gr g541 (fun k hk => by have := ow356.ge k hk; omega)
        replace r348 := r348.gr g541 (fun k hk => by have := ow356.ge k hk; omega)
        replace r349 := r349.gr g541 (fun k hk => by have := ow356.ge k hk; omega)
        replace bx350 := bx350.gr g541 (fun e => by have := ow356.ge _ e; omega)
        replace bx351 := bx351.gr g541 (fun e => by have := ow356.ge _ e; omega)
        replace bx352 := bx352.gr g541 (fun e => by have := ow356.ge _ e; omega)
        replace bx353 := bx353.gr g541 (fun e => by have := ow356.ge _ e; omega)
        replace ow354 : OwnR w539 (Sx (w172.heap.size) [some (w489.heap.size), obk (A_339), obk (A_286), obk (A_279), obk (A536), some (w208.heap.size)]) A187 c188 3 ((lsD (inT g s) 256 : List Int) : List Int) := ow354.grA g541 (fun k hk => hk.2.2.2.2.1) (fun k hk hs => ⟨hs.1, hs.2.1, hs.2.2.1, hs.2.2.2.1, own_repl ha538.at_ hs.2.2.2.2.1 hk, hs.2.2.2.2.2.1, hs.2.2.2.2.2.2⟩)
        replace bx355 := bx355.gr g541 (fun e => by have := ow356.ge _ e; omega)
        replace ow357 : OwnR w539 (Sx (w253.heap.size) [some (w489.heap.size), obk (A_339), obk (A_286), obk (A187), obk (A536)]) A_279 c_280 3 (xp : List Int) := ow357.grA g541 (fun k hk => hk.2.2.2.2.1) (fun k hk hs => ⟨hs.1, hs.2.1, hs.2.2.1, hs.2.2.2.1, own_repl ha538.at_ hs.2.2.2.2.1 hk, hs.2.2.2.2.2⟩)
        replace ow503 : OwnLL w539 (w253.heap.size) [some (w489.heap.size), obk (A_339), obk (A187), obk (A536), obk (A_279)] A_286 c_287 22 3 (xm : List (List Int)) := ow503.grA g541 (fun k hk => hk.2.2.2.1) (fun k hk hs => ⟨hs.1, hs.2.1, hs.2.2.1, own_repl ha538.at_ hs.2.2.2.1 hk, hs.2.2.2.2.1, hs.2.2.2.2.2⟩)
        replace r359 := r359.gr g541 (fun k hk => by have := ow356.ge k hk; omega)
        replace ow360 : OwnR w539 (Sx (w290.heap.size) [some (w489.heap.size), obk (A187), obk (A536), obk (A_279), obk (A_286)]) A_339 c_340 3 (xl : List Int) := ow360.grA g541 (fun k hk => hk.2.2.1) (fun k hk hs => ⟨hs.1, hs.2.1, own_repl ha538.at_ hs.2.2.1 hk, hs.2.2.2.1, hs.2.2.2.2.1, hs.2.2.2.2.2⟩)
        clear ow356 g541 ha538
        refine AtH.rd (by kernel_rfl) (fun d v c a w h => by cases d <;> exact h) hS544 [9] [[]] [(79, .pointer (some ⟨w208.heap.size, 0, none⟩))] #[true, true, true, true, true, true, true, true, true, true, false] [] 1 f542 (by kernel_rfl) trivial (fun act560 f559 => ?_)
        clear f542
        refine AtH.all [10] 0 (by kernel_rfl) (by simp) ⟨?_, trivial⟩
        refine OneH.store f559 (t := 22) (b := w208.heap.size) (off := 0) (v := .slice A536 ((xo ++ ([gI g.ow (gI (lsD (inT g s) 256 : List Int) k)])).length) c537) #[true, true, true, true, true, true, true, true, true, true, true] (by kernel_rfl) (by kernel_rfl) bx355 (by kernel_rfl) (fun act566 w562 g563 bx564 f565 => ?_)
        clear f559
        replace bx564 : Bx w562 (w208.heap.size) [.slice A536 ((xo ++ ([gI g.ow (gI (lsD (inT g s) 256 : List Int) k)])).length) c537, .slice A_279 xp.length c_280, .slice A_286 xm.length c_287] 25 := bx564
        have hS561 := hS544.gr' g563 (by rw [hCs486]; exact ⟨(by simp only [add_block]; omega), (by simp only [add_block]; omega), trivial⟩)
        have szw562 := g563.size
        replace e345 := e345.gr g563 (fun k h => by injection h; omega)
        replace r348 := r348.gr g563 (fun k h => by injection h; omega)
        replace r349 := r349.gr g563 (fun k h => by injection h; omega)
        replace bx350 := bx350.gr g563 (fun h => by injection h; omega)
        replace bx351 := bx351.gr g563 (fun h => by injection h; omega)
        replace bx352 := bx352.gr g563 (fun h => by injection h; omega)
        replace bx353 := bx353.gr g563 (fun h => by injection h; omega)
        replace ow354 := ow354.gr g563 (fun k hk => hk.2.2.2.2.2.1)
        replace ow545 := ow545.gr g563 (fun k hk e => by have := Sx_base hk; injection e; omega)
        replace ow357 := ow357.gr g563 (fun k hk e => by have := Sx_base hk; injection e; omega)
        replace ow503 := ow503.gr g563 (fun k hk e => by have := Sx_base hk; injection e; omega)
        replace r359 := r359.gr g563 (fun k h => by injection h; omega)
        replace ow360 := ow360.gr g563 (fun k hk e => by have := Sx_base hk; injection e; omega)
        clear bx355 g563
        refine ⟨hS561, ?_⟩
        refine AtH.done (by kernel_rfl) ?_
        clear hS561
        refine t_n ?_
        have f580 := f565.sub (r := [(14, .slice A_339 xl.length c_340), (13, .int .i64 (gI (lsD (inT g s) 256 : List Int) k)), (42, .int .i64 (k)), (41, .int .i64 ((((lsD (inT g s) 256 : List Int).length : Nat) : Int))), (40, .slice A187 ((lsD (inT g s) 256 : List Int).length) c188), (11, .pointer (some ⟨w208.heap.size, 0, none⟩)), (8, .slice A187 ((lsD (inT g s) 256 : List Int).length) c188), (7, .pointer (some ⟨w163.heap.size, 0, none⟩)), (4, .pointer (some ⟨w11.heap.size, 0, none⟩)), (3, .pointer (some ⟨w1.heap.size, 0, none⟩)), (2, .pointer (some ⟨w.heap.size, 0, none⟩))]) ⟨rfl, rfl, rfl, rfl, rfl, rfl, rfl, rfl, rfl, rfl, rfl, trivial⟩
        clear f565
        refine wp_seq ?_
        obtain ⟨ad581, hA582, _, _, hc583⟩ := RdI.get r348.pr (gI (lsD (inT g s) 256 : List Int) k) (by omega) (by omega)
        obtain ⟨Cs584, hCs585⟩ : ∃ c : List (Addr × Value), c = [(⟨w.heap.size, 1, none⟩, (.slice Ag1 g.pr.length cg1)), ((ad581.add ((gI (lsD (inT g s) 256 : List Int) k : Int).toNat * 1)), (.int .i64 (gI g.pr (gI (lsD (inT g s) 256 : List Int) k))))] := ⟨_, rfl⟩
        have hS586 : HoldsC Cs584 w562 := by rw [hCs585]; exact ⟨(bx350.cell (i := 1) rfl), hc583, trivial⟩
        refine AtH.start Cs584 11 #[false, false, false, false, false, false, false, false, false, false, false] (by kernel_rfl) rfl rfl (fun w588 hw589 => ?_)
        have g587 := gr_drew hw589
        have hS590 := hS586.gr g587
        have szw588 := g587.size
        replace e345 := e345.gr g587 no_row
        replace r348 := r348.gr g587 (fun _ h => by cases h)
        replace r349 := r349.gr g587 (fun _ h => by cases h)
        replace bx350 := bx350.gr g587 (by simp)
        replace bx351 := bx351.gr g587 (by simp)
        replace bx352 := bx352.gr g587 (by simp)
        replace bx353 := bx353.gr g587 (by simp)
        replace ow354 := ow354.gr g587 (fun _ _ h => by cases h)
        replace bx564 := bx564.gr g587 (by simp)
        replace ow545 := ow545.gr g587 (fun _ _ h => by cases h)
        replace ow357 := ow357.gr g587 (fun _ _ h => by cases h)
        replace ow503 := ow503.gr g587 (fun _ _ h => by cases h)
        replace r359 := r359.gr g587 (fun _ h => by cases h)
        replace ow360 := ow360.gr g587 (fun _ _ h => by cases h)
        clear g587 hw589 hS586
        refine AtH.rd (by kernel_rfl) (fun d v c a w h => by cases d <;> exact h) hS590 [0, 2, 3, 4, 5, 6] [[], [], [.ld (.slice Ag1 g.pr.length cg1)], [], [.ad ad581], [.ld (.int .i64 (gI g.pr (gI (lsD (inT g s) 256 : List Int) k)))]] [(86, .int .i64 (gI g.pr (gI (lsD (inT g s) 256 : List Int) k))), (85, .pointer (some (ad581.add ((gI (lsD (inT g s) 256 : List Int) k : Int).toNat * 1)))), (84, .int .i64 (gI (lsD (inT g s) 256 : List Int) k)), (83, .slice Ag1 g.pr.length cg1), (82, .pointer (some ⟨w.heap.size, 1, none⟩)), (80, .pointer (some ⟨w208.heap.size, 1, none⟩))] #[true, false, true, true, true, true, true, false, false, false, false] [(∃ j_ : Nat, Cs584[j_]? = some (⟨w.heap.size, 1, none⟩, (.slice Ag1 g.pr.length cg1))), (Ag1 = some ad581), (0 ≤ (gI (lsD (inT g s) 256 : List Int) k : Int)), ((gI (lsD (inT g s) 256 : List Int) k : Int) < (g.pr.length : Nat)), (∃ j_ : Nat, Cs584[j_]? = some ((ad581.add ((gI (lsD (inT g s) 256 : List Int) k : Int).toNat * 1)), (.int .i64 (gI g.pr (gI (lsD (inT g s) 256 : List Int) k)))))] 5 f580 (by kernel_rfl) ⟨⟨0, by rw [hCs585]; rfl⟩, hA582, (by omega), (by omega), ⟨1, by rw [hCs585]; rfl⟩, trivial⟩ (fun act606 f605 => ?_)
        clear f580
        refine AtH.all [1, 7] 4 (by kernel_rfl) (by simp) ⟨?_, ?_, trivial⟩
        ·refine OneH.seq f605 [[.ld (.slice A_279 xp.length c_280)]] [(81, .slice A_279 xp.length c_280)] w588 [(w588.cell? ⟨w208.heap.size, 1, none⟩ = some (.slice A_279 xp.length c_280))] #[true, true, true, true, true, true, true, false, false, false, false] (by kernel_rfl) (by kernel_rfl) (by kernel_rfl) ⟨(bx564.cell (i := 1) rfl), trivial⟩ (fun act608 w609 hw610 f607 => ?_)
         obtain rfl : w588 = w609 := hw610.symm
         clear f605
         refine ⟨hS590, ?_⟩
         refine AtH.all [7] 3 (by kernel_rfl) (by simp) ⟨?_, trivial⟩
         refine OneH.seq f607 [[]] [(87, .slice (some ⟨w588.heap.size, 0, none⟩) 1 1)] (w588.alloc (.cells #[.int .i64 (gI g.pr (gI (lsD (inT g s) 256 : List Int) k))] 3 (0, 0))) [] #[true, true, true, true, true, true, true, true, false, false, false] (by kernel_rfl) (by kernel_rfl) (by kernel_rfl) trivial (fun act615 w612 hw613 f614 => ?_)
         clear f607
         have g616 := gr_alloc hw613
         have hS619 := hS590.gr g616
         refine ⟨hS619, ?_⟩
         have szw612 := g616.size
         replace e345 := e345.gr g616 no_row
         replace r348 := r348.gr g616 (fun _ h => by cases h)
         replace r349 := r349.gr g616 (fun _ h => by cases h)
         replace bx350 := bx350.gr g616 (by simp)
         replace bx351 := bx351.gr g616 (by simp)
         replace bx352 := bx352.gr g616 (by simp)
         replace bx353 := bx353.gr g616 (by simp)
         replace ow354 : OwnR w612 (Sx (w172.heap.size) [some (w588.heap.size), some (w489.heap.size), obk (A_339), obk (A_286), obk (A_279), obk (A536), some (w208.heap.size)]) A187 c188 3 ((lsD (inT g s) 256 : List Int) : List Int) := ow354.grA g616 (fun _ _ h => by cases h) (fun k hk hs => ⟨(fun e => by injection e; omega), hs.1, hs.2.1, hs.2.2.1, hs.2.2.2.1, hs.2.2.2.2.1, hs.2.2.2.2.2.1, hs.2.2.2.2.2.2⟩)
         replace bx564 := bx564.gr g616 (by simp)
         replace ow545 : OwnR w612 (Sx (w253.heap.size) [some (w588.heap.size), obk (A_339), obk (A_286), obk (A_279), obk (A187)]) A536 c537 3 (xo ++ ([gI g.ow (gI (lsD (inT g s) 256 : List Int) k)]) : List Int) := ow545.grA g616 (fun _ _ h => by cases h) (fun k hk hs => ⟨(fun e => by injection e; omega), hs.1, hs.2.1, hs.2.2.1, hs.2.2.2.1, hs.2.2.2.2⟩)
         replace ow357 : OwnR w612 (Sx (w253.heap.size) [some (w588.heap.size), some (w489.heap.size), obk (A_339), obk (A_286), obk (A187), obk (A536)]) A_279 c_280 3 (xp : List Int) := ow357.grA g616 (fun _ _ h => by cases h) (fun k hk hs => ⟨(fun e => by injection e; omega), hs.1, hs.2.1, hs.2.2.1, hs.2.2.2.1, hs.2.2.2.2.1, hs.2.2.2.2.2⟩)
         replace ow503 : OwnLL w612 (w253.heap.size) [some (w588.heap.size), some (w489.heap.size), obk (A_339), obk (A187), obk (A536), obk (A_279)] A_286 c_287 22 3 (xm : List (List Int)) := ow503.grA g616 (fun _ _ h => by cases h) (fun k hk hs => ⟨(fun e => by injection e; omega), hs.1, hs.2.1, hs.2.2.1, hs.2.2.2.1, hs.2.2.2.2.1, hs.2.2.2.2.2⟩)
         replace r359 := r359.gr g616 (fun _ h => by cases h)
         replace ow360 : OwnR w612 (Sx (w290.heap.size) [some (w588.heap.size), some (w489.heap.size), obk (A187), obk (A536), obk (A_279), obk (A_286)]) A_339 c_340 3 (xl : List Int) := ow360.grA g616 (fun _ _ h => by cases h) (fun k hk hs => ⟨(fun e => by injection e; omega), hs.1, hs.2.1, hs.2.2.1, hs.2.2.2.1, hs.2.2.2.2.1, hs.2.2.2.2.2⟩)
         have bx618 : Bx w612 (w588.heap.size) [.int .i64 (gI g.pr (gI (lsD (inT g s) 256 : List Int) k))] 3 := Bx.new hw613
         have := bx618.lt
         clear g616 hw613
         refine AtH.all [8] 2 (by kernel_rfl) (by simp) ⟨?_, trivial⟩
         have hl639 : (xp ++ ([gI g.pr (gI (lsD (inT g s) 256 : List Int) k)])).length = (xp).length + ([gI g.pr (gI (lsD (inT g s) 256 : List Int) k)] : List Int).length := List.length_append
         simp only [List.length_cons, List.length_nil] at hl639
         refine OneH.act f614 #[true, true, true, true, true, true, true, true, true, false, false] (by kernel_rfl) (appendR (α := Int) (t := 22) (d := 88) (n := xp.length) (m := 1) (cc := 1) (xs := xp) (ys := [gI g.pr (gI (lsD (inT g s) 256 : List Int) k)]) (bytes := 8) (by first | rfl | omega | (simp; done) | (simp; omega)) (by first | rfl | omega | (simp; done) | (simp; omega)) (by kernel_rfl) rfl (by kernel_rfl) ow357 (Bx.srcR (l := ([gI g.pr (gI (lsD (inT g s) 256 : List Int) k)] : List Int)) bx618 rfl) (by simp only [List.length_cons, List.length_nil]; omega) (by simp only [List.length_cons, List.length_nil]; omega)) ?_
         rintro d_ v_ w638 ⟨rfl, A635, c636, ha637⟩
         obtain rfl := ha637.val
         have g640 := ha637.gr
         have hS643 := hS619.grO g640 (by rw [hCs585]; exact ⟨(fun e => by have := ow357.ge _ e; simp only [add_block] at this; omega), (fun e => by have := ow357.ge _ e; simp only [add_block] at this; omega), trivial⟩)
         refine ⟨_, rfl, fun act642 f641 => ⟨hS643, ?_⟩⟩
         clear f614
         clear bx618
         have ow644 := ha637.own (Sx (w253.heap.size) [obk (A_339), obk (A_286), obk (A187), obk (A536)]) (fun g _ hs => ⟨hs.2.2.1, hs.2.2.2.1, hs.2.2.2.2.1, hs.2.2.2.2.2.1, hs.2.2.2.2.2.2⟩) ⟨ow360.ne_new, ow503.ne_new, ow354.ne_new, ow545.ne_new, (show w253.heap.size ≤ w612.heap.size by omega)⟩
         have szw638 := g640.size
         replace e345 := e345.gr g640 (fun k hk => by have := ow357.ge k hk; omega)
         replace r348 := r348.gr g640 (fun k hk => by have := ow357.ge k hk; omega)
         replace r349 := r349.gr g640 (fun k hk => by have := ow357.ge k hk; omega)
         replace bx350 := bx350.gr g640 (fun e => by have := ow357.ge _ e; omega)
         replace bx351 := bx351.gr g640 (fun e => by have := ow357.ge _ e; omega)
         replace bx352 := bx352.gr g640 (fun e => by have := ow357.ge _ e; omega)
         replace bx353 := bx353.gr g640 (fun e => by have := ow357.ge _ e; omega)
         replace ow354 : OwnR w638 (Sx (w172.heap.size) [some (w588.heap.size), some (w489.heap.size), obk (A_339), obk (A_286), obk (A635), obk (A536), some (w208.heap.size)]) A187 c188 3 ((lsD (inT g s) 256 : List Int) : List Int) := ow354.grA g640 (fun k hk => hk.2.2.2.2.1) (fun k hk hs => ⟨hs.1, hs.2.1, hs.2.2.1, hs.2.2.2.1, own_repl ha637.at_ hs.2.2.2.2.1 hk, hs.2.2.2.2.2.1, hs.2.2.2.2.2.2.1, hs.2.2.2.2.2.2.2⟩)
         replace bx564 := bx564.gr g640 (fun e => by have := ow357.ge _ e; omega)
         replace ow545 : OwnR w638 (Sx (w253.heap.size) [some (w588.heap.size), obk (A_339), obk (A_286), obk (A635), obk (A187)]) A536 c537 3 (xo ++ ([gI g.ow (gI (lsD (inT g s) 256 : List Int) k)]) : List Int) := ow545.grA g640 (fun k hk => hk.2.2.2.1) (fun k hk hs => ⟨hs.1, hs.2.1, hs.2.2.1, own_repl ha637.at_ hs.2.2.2.1 hk, hs.2.2.2.2.1, hs.2.2.2.2.2⟩)
         replace ow503 : OwnLL w638 (w253.heap.size) [some (w588.heap.size), some (w489.heap.size), obk (A_339), obk (A187), obk (A536), obk (A635)] A_286 c_287 22 3 (xm : List (List Int)) := ow503.grA g640 (fun k hk => hk.2.2.2.2.2.1) (fun k hk hs => ⟨hs.1, hs.2.1, hs.2.2.1, hs.2.2.2.1, hs.2.2.2.2.1, own_repl ha637.at_ hs.2.2.2.2.2.1 hk, hs.2.2.2.2.2.2⟩)
         replace r359 := r359.gr g640 (fun k hk => by have := ow357.ge k hk; omega)
         replace ow360 : OwnR w638 (Sx (w290.heap.size) [some (w588.heap.size), some (w489.heap.size), obk (A187), obk (A536), obk (A635), obk (A_286)]) A_339 c_340 3 (xl : List Int) := ow360.grA g640 (fun k hk => hk.2.2.2.2.1) (fun k hk hs => ⟨hs.1, hs.2.1, hs.2.2.1, hs.2.2.2.1, own_repl ha637.at_ hs.2.2.2.2.1 hk, hs.2.2.2.2.2.1, hs.2.2.2.2.2.2⟩)
         clear ow357 g640 ha637
         refine AtH.rd (by kernel_rfl) (fun d v c a w h => by cases d <;> exact h) hS643 [9] [[]] [(89, .pointer (some ⟨w208.heap.size, 1, none⟩))] #[true, true, true, true, true, true, true, true, true, true, false] [] 1 f641 (by kernel_rfl) trivial (fun act659 f658 => ?_)
         clear f641
         refine AtH.all [10] 0 (by kernel_rfl) (by simp) ⟨?_, trivial⟩
         refine OneH.store f658 (t := 22) (b := w208.heap.size) (off := 1) (v := .slice A635 ((xp ++ ([gI g.pr (gI (lsD (inT g s) 256 : List Int) k)])).length) c636) #[true, true, true, true, true, true, true, true, true, true, true] (by kernel_rfl) (by kernel_rfl) bx564 (by kernel_rfl) (fun act665 w661 g662 bx663 f664 => ?_)
         clear f658
         replace bx663 : Bx w661 (w208.heap.size) [.slice A536 ((xo ++ ([gI g.ow (gI (lsD (inT g s) 256 : List Int) k)])).length) c537, .slice A635 ((xp ++ ([gI g.pr (gI (lsD (inT g s) 256 : List Int) k)])).length) c636, .slice A_286 xm.length c_287] 25 := bx663
         have hS660 := hS643.gr' g662 (by rw [hCs585]; exact ⟨(by simp only [add_block]; omega), (by simp only [add_block]; omega), trivial⟩)
         have szw661 := g662.size
         replace e345 := e345.gr g662 (fun k h => by injection h; omega)
         replace r348 := r348.gr g662 (fun k h => by injection h; omega)
         replace r349 := r349.gr g662 (fun k h => by injection h; omega)
         replace bx350 := bx350.gr g662 (fun h => by injection h; omega)
         replace bx351 := bx351.gr g662 (fun h => by injection h; omega)
         replace bx352 := bx352.gr g662 (fun h => by injection h; omega)
         replace bx353 := bx353.gr g662 (fun h => by injection h; omega)
         replace ow354 := ow354.gr g662 (fun k hk => hk.2.2.2.2.2.2.1)
         replace ow545 := ow545.gr g662 (fun k hk e => by have := Sx_base hk; injection e; omega)
         replace ow644 := ow644.gr g662 (fun k hk e => by have := Sx_base hk; injection e; omega)
         replace ow503 := ow503.gr g662 (fun k hk e => by have := Sx_base hk; injection e; omega)
         replace r359 := r359.gr g662 (fun k h => by injection h; omega)
         replace ow360 := ow360.gr g662 (fun k hk e => by have := Sx_base hk; injection e; omega)
         clear bx564 g662
         refine ⟨hS660, ?_⟩
         refine AtH.done (by kernel_rfl) ?_
         clear hS660
         refine t_n ?_
         refine At.start ?_
         refine At.rd f664 3 [[], [.ld (.slice A_286 xm.length c_287)], []] [(92, .slice A_339 xl.length c_340), (91, .slice A_286 xm.length c_287), (90, .pointer (some ⟨w208.heap.size, 2, none⟩))] [(w661.cell? ⟨w208.heap.size, 2, none⟩ = some (.slice A_286 xm.length c_287))] (by kernel_rfl) ⟨(bx663.cell (i := 2) rfl), trivial⟩ (fun act680 f679 => ?_)
         clear f664
         refine At.seq f679 1 [[]] [(93, .slice (some ⟨w661.heap.size, 0, none⟩) 1 1)] (w661.alloc (.cells #[.slice A_339 xl.length c_340] 22 (0, 0))) [] (by kernel_rfl) trivial (fun act684 w681 hw682 f683 => ?_)
         clear f679
         have g685 := gr_alloc hw682
         have szw681 := g685.size
         replace e345 := e345.gr g685 no_row
         replace r348 := r348.gr g685 (fun _ h => by cases h)
         replace r349 := r349.gr g685 (fun _ h => by cases h)
         replace bx350 := bx350.gr g685 (by simp)
         replace bx351 := bx351.gr g685 (by simp)
         replace bx352 := bx352.gr g685 (by simp)
         replace bx353 := bx353.gr g685 (by simp)
         replace ow354 : OwnR w681 (Sx (w172.heap.size) [some (w661.heap.size), some (w588.heap.size), some (w489.heap.size), obk (A_339), obk (A_286), obk (A635), obk (A536), some (w208.heap.size)]) A187 c188 3 ((lsD (inT g s) 256 : List Int) : List Int) := ow354.grA g685 (fun _ _ h => by cases h) (fun k hk hs => ⟨(fun e => by injection e; omega), hs.1, hs.2.1, hs.2.2.1, hs.2.2.2.1, hs.2.2.2.2.1, hs.2.2.2.2.2.1, hs.2.2.2.2.2.2.1, hs.2.2.2.2.2.2.2⟩)
         replace bx663 := bx663.gr g685 (by simp)
         replace ow545 : OwnR w681 (Sx (w253.heap.size) [some (w661.heap.size), some (w588.heap.size), obk (A_339), obk (A_286), obk (A635), obk (A187)]) A536 c537 3 (xo ++ ([gI g.ow (gI (lsD (inT g s) 256 : List Int) k)]) : List Int) := ow545.grA g685 (fun _ _ h => by cases h) (fun k hk hs => ⟨(fun e => by injection e; omega), hs.1, hs.2.1, hs.2.2.1, hs.2.2.2.1, hs.2.2.2.2.1, hs.2.2.2.2.2⟩)
         replace ow644 : OwnR w681 (Sx (w253.heap.size) [some (w661.heap.size), obk (A_339), obk (A_286), obk (A187), obk (A536)]) A635 c636 3 (xp ++ ([gI g.pr (gI (lsD (inT g s) 256 : List Int) k)]) : List Int) := ow644.grA g685 (fun _ _ h => by cases h) (fun k hk hs => ⟨(fun e => by injection e; omega), hs.1, hs.2.1, hs.2.2.1, hs.2.2.2.1, hs.2.2.2.2⟩)
         replace ow503 : OwnLL w681 (w253.heap.size) [some (w661.heap.size), some (w588.heap.size), some (w489.heap.size), obk (A_339), obk (A187), obk (A536), obk (A635)] A_286 c_287 22 3 (xm : List (List Int)) := ow503.grA g685 (fun _ _ h => by cases h) (fun k hk hs => ⟨(fun e => by injection e; omega), hs.1, hs.2.1, hs.2.2.1, hs.2.2.2.1, hs.2.2.2.2.1, hs.2.2.2.2.2.1, hs.2.2.2.2.2.2⟩)
         replace r359 := r359.gr g685 (fun _ h => by cases h)
         replace ow360 : OwnR w681 (Sx (w290.heap.size) [some (w661.heap.size), some (w588.heap.size), some (w489.heap.size), obk (A187), obk (A536), obk (A635), obk (A_286)]) A_339 c_340 3 (xl : List Int) := ow360.grA g685 (fun _ _ h => by cases h) (fun k hk hs => ⟨(fun e => by injection e; omega), hs.1, hs.2.1, hs.2.2.1, hs.2.2.2.1, hs.2.2.2.2.1, hs.2.2.2.2.2.1, hs.2.2.2.2.2.2⟩)
         have bx687 : Bx w681 (w661.heap.size) [.slice A_339 xl.length c_340] 22 := Bx.new hw682
         have := bx687.lt
         clear g685 hw682
         have ow702 : OwnR w681 (Sx (w253.heap.size) [obk (A187), obk (A536), obk (A635)]) A_339 c_340 3 (xl : List Int) := ow360.imp (fun g _ hs => ⟨hs.2.2.2.1, hs.2.2.2.2.1, hs.2.2.2.2.2.1, (by have := Sx_base hs; show w253.heap.size ≤ g; omega)⟩)
         have ow703 : OwnLL w681 (w253.heap.size) [obk (A_339), obk (A187), obk (A536), obk (A635)] A_286 c_287 22 3 (xm : List (List Int)) := (ow503.imp (fun g _ hs => ⟨hs.2.2.2.1, hs.2.2.2.2.1, hs.2.2.2.2.2.1, hs.2.2.2.2.2.2.1, hs.2.2.2.2.2.2.2⟩))
         have hl704 : (xm ++ [xl]).length = (xm).length + 1 := by simp
         refine At.act f683 (appendLL (t := 23) (d := 94) (n := xm.length) (m := 1) (cc := 1) (ls := xm) (xs := xl) (bytes := 24) (by first | rfl | omega | (simp; done) | (simp; omega)) (by kernel_rfl) (by kernel_rfl) (bx687.as (by first | rfl | (simp; done))) ow703 ow702 ⟨ow354.ne_new, ow545.ne_new, ow644.ne_new, (show w253.heap.size ≤ w681.heap.size by omega)⟩ (by omega) (by omega)) ?_
         rintro d_ v_ w705 ⟨rfl, A706, c707, rfl, g708, ha709, ow710⟩
         refine ⟨_, rfl, fun act712 f711 => ?_⟩
         clear f683
         clear bx687 ow360 ow702 ow703
         have szw705 := g708.size
         replace e345 := e345.gr g708 (fun k hk => by have := ow503.ge k hk; omega)
         replace r348 := r348.gr g708 (fun k hk => by have := ow503.ge k hk; omega)
         replace r349 := r349.gr g708 (fun k hk => by have := ow503.ge k hk; omega)
         replace bx350 := bx350.gr g708 (fun e => by have := ow503.ge _ e; omega)
         replace bx351 := bx351.gr g708 (fun e => by have := ow503.ge _ e; omega)
         replace bx352 := bx352.gr g708 (fun e => by have := ow503.ge _ e; omega)
         replace bx353 := bx353.gr g708 (fun e => by have := ow503.ge _ e; omega)
         replace ow354 : OwnR w705 (Sx (w172.heap.size) [some (w661.heap.size), some (w588.heap.size), some (w489.heap.size), obk (A_339), obk (A706), obk (A635), obk (A536), some (w208.heap.size)]) A187 c188 3 ((lsD (inT g s) 256 : List Int) : List Int) := ow354.grA g708 (fun k hk => hk.2.2.2.2.1) (fun k hk hs => ⟨hs.1, hs.2.1, hs.2.2.1, hs.2.2.2.1, own_repl ha709 hs.2.2.2.2.1 hk, hs.2.2.2.2.2.1, hs.2.2.2.2.2.2.1, hs.2.2.2.2.2.2.2.1, hs.2.2.2.2.2.2.2.2⟩)
         replace bx663 := bx663.gr g708 (fun e => by have := ow503.ge _ e; omega)
         replace ow545 : OwnR w705 (Sx (w253.heap.size) [some (w661.heap.size), some (w588.heap.size), obk (A_339), obk (A706), obk (A635), obk (A187)]) A536 c537 3 (xo ++ ([gI g.ow (gI (lsD (inT g s) 256 : List Int) k)]) : List Int) := ow545.grA g708 (fun k hk => hk.2.2.2.1) (fun k hk hs => ⟨hs.1, hs.2.1, hs.2.2.1, own_repl ha709 hs.2.2.2.1 hk, hs.2.2.2.2.1, hs.2.2.2.2.2.1, hs.2.2.2.2.2.2⟩)
         replace ow644 : OwnR w705 (Sx (w253.heap.size) [some (w661.heap.size), obk (A_339), obk (A706), obk (A187), obk (A536)]) A635 c636 3 (xp ++ ([gI g.pr (gI (lsD (inT g s) 256 : List Int) k)]) : List Int) := ow644.grA g708 (fun k hk => hk.2.2.1) (fun k hk hs => ⟨hs.1, hs.2.1, own_repl ha709 hs.2.2.1 hk, hs.2.2.2.1, hs.2.2.2.2.1, hs.2.2.2.2.2⟩)
         replace r359 := r359.gr g708 (fun k hk => by have := ow503.ge k hk; omega)
         clear ow503 g708 ha709
         refine At.rd f711 1 [[]] [(95, .pointer (some ⟨w208.heap.size, 2, none⟩))] [] (by kernel_rfl) trivial (fun act726 f725 => ?_)
         clear f711
         refine At.store f725 (t := 23) (b := w208.heap.size) (off := 2) (v := .slice A706 ((xm ++ [xl]).length) c707) (by kernel_rfl) bx663 (by kernel_rfl) (fun act731 w727 g728 bx729 f730 => ?_)
         clear f725
         replace bx729 : Bx w727 (w208.heap.size) [.slice A536 ((xo ++ ([gI g.ow (gI (lsD (inT g s) 256 : List Int) k)])).length) c537, .slice A635 ((xp ++ ([gI g.pr (gI (lsD (inT g s) 256 : List Int) k)])).length) c636, .slice A706 ((xm ++ [xl]).length) c707] 25 := bx729
         have szw727 := g728.size
         replace e345 := e345.gr g728 (fun k h => by injection h; omega)
         replace r348 := r348.gr g728 (fun k h => by injection h; omega)
         replace r349 := r349.gr g728 (fun k h => by injection h; omega)
         replace bx350 := bx350.gr g728 (fun h => by injection h; omega)
         replace bx351 := bx351.gr g728 (fun h => by injection h; omega)
         replace bx352 := bx352.gr g728 (fun h => by injection h; omega)
         replace bx353 := bx353.gr g728 (fun h => by injection h; omega)
         replace ow354 := ow354.gr g728 (fun k hk => hk.2.2.2.2.2.2.2.1)
         replace ow545 := ow545.gr g728 (fun k hk e => by have := Sx_base hk; injection e; omega)
         replace ow644 := ow644.gr g728 (fun k hk e => by have := Sx_base hk; injection e; omega)
         replace r359 := r359.gr g728 (fun k h => by injection h; omega)
         replace ow710 := ow710.gr g728 (fun k hk e => by have := Sx_base hk; injection e; omega)
         clear bx663 g728
         refine At.done rfl ?_
         refine b_n ?_
         refine t_n ?_
         have f744 := f730.sub (r := [(42, .int .i64 (k)), (41, .int .i64 ((((lsD (inT g s) 256 : List Int).length : Nat) : Int))), (40, .slice A187 ((lsD (inT g s) 256 : List Int).length) c188), (11, .pointer (some ⟨w208.heap.size, 0, none⟩)), (8, .slice A187 ((lsD (inT g s) 256 : List Int).length) c188), (7, .pointer (some ⟨w163.heap.size, 0, none⟩)), (4, .pointer (some ⟨w11.heap.size, 0, none⟩)), (3, .pointer (some ⟨w1.heap.size, 0, none⟩)), (2, .pointer (some ⟨w.heap.size, 0, none⟩))]) ⟨rfl, rfl, rfl, rfl, rfl, rfl, rfl, rfl, rfl, trivial⟩
         clear f730
         refine At.start ?_
         refine At.rd f744 2 [[.as_ (.int .i64 (k + 1))], []] [(42, .int .i64 (k + 1)), (96, .int .i64 (k + 1))] [((.int .i64 (IntKind.i64.wrap (k + 1)) : Value) = .int .i64 (k + 1))] (by kernel_rfl) ⟨(w64 (by omega) (by omega)), trivial⟩ (fun act746 f745 => ?_)
         clear f744
         refine At.done rfl ?_
         refine t_n ?_
         have f747 := f745.sub (r := [(42, .int .i64 (k + 1)), (41, .int .i64 ((((lsD (inT g s) 256 : List Int).length : Nat) : Int))), (40, .slice A187 ((lsD (inT g s) 256 : List Int).length) c188), (11, .pointer (some ⟨w208.heap.size, 0, none⟩)), (8, .slice A187 ((lsD (inT g s) 256 : List Int).length) c188), (7, .pointer (some ⟨w163.heap.size, 0, none⟩)), (4, .pointer (some ⟨w11.heap.size, 0, none⟩)), (3, .pointer (some ⟨w1.heap.size, 0, none⟩)), (2, .pointer (some ⟨w.heap.size, 0, none⟩))]) ⟨rfl, rfl, rfl, rfl, rfl, rfl, rfl, rfl, rfl, trivial⟩
         exact ⟨_, (by omega), (k + 1), (xo ++ ([gI g.ow (gI (lsD (inT g s) 256 : List Int) k)]) : List Int), A536, c537, (xp ++ ([gI g.pr (gI (lsD (inT g s) 256 : List Int) k)]) : List Int), A635, c636, (xm ++ [xl] : List (List Int)), A706, c707, rfl, f747, e345, r348, r349, bx350, bx351, bx352, bx353, (ow354.imp (fun g _ hs => ⟨hs.2.2.2.2.1, hs.2.2.2.2.2.1, hs.2.2.2.2.2.2.1, hs.2.2.2.2.2.2.2.1, hs.2.2.2.2.2.2.2.2⟩)), bx729, (ow545.imp (fun g _ hs => ⟨hs.2.2.2.1, hs.2.2.2.2.1, hs.2.2.2.2.2.1, hs.2.2.2.2.2.2⟩)), (ow644.imp (fun g _ hs => ⟨hs.2.2.1, hs.2.2.2.1, hs.2.2.2.2.1, hs.2.2.2.2.2⟩)), ow710, (by omega), (by omega), (map_push hxo (by omega) (by omega)), (map_push hxp (by omega) (by omega)), (by rw [hxe]; exact map_push hxm (by omega) (by omega)), (gone_next hgo (by rw [← hxe]; exact hne)), (by omega), (by omega)⟩
        ·refine OneH.seq f605 [[]] [(87, .slice (some ⟨w588.heap.size, 0, none⟩) 1 1)] (w588.alloc (.cells #[.int .i64 (gI g.pr (gI (lsD (inT g s) 256 : List Int) k))] 3 (0, 0))) [] #[true, false, true, true, true, true, true, true, false, false, false] (by kernel_rfl) (by kernel_rfl) (by kernel_rfl) trivial (fun act752 w749 hw750 f751 => ?_)
         clear f605
         have g753 := gr_alloc hw750
         have hS756 := hS590.gr g753
         refine ⟨hS756, ?_⟩
         have szw749 := g753.size
         replace e345 := e345.gr g753 no_row
         replace r348 := r348.gr g753 (fun _ h => by cases h)
         replace r349 := r349.gr g753 (fun _ h => by cases h)
         replace bx350 := bx350.gr g753 (by simp)
         replace bx351 := bx351.gr g753 (by simp)
         replace bx352 := bx352.gr g753 (by simp)
         replace bx353 := bx353.gr g753 (by simp)
         replace ow354 : OwnR w749 (Sx (w172.heap.size) [some (w588.heap.size), some (w489.heap.size), obk (A_339), obk (A_286), obk (A_279), obk (A536), some (w208.heap.size)]) A187 c188 3 ((lsD (inT g s) 256 : List Int) : List Int) := ow354.grA g753 (fun _ _ h => by cases h) (fun k hk hs => ⟨(fun e => by injection e; omega), hs.1, hs.2.1, hs.2.2.1, hs.2.2.2.1, hs.2.2.2.2.1, hs.2.2.2.2.2.1, hs.2.2.2.2.2.2⟩)
         replace bx564 := bx564.gr g753 (by simp)
         replace ow545 : OwnR w749 (Sx (w253.heap.size) [some (w588.heap.size), obk (A_339), obk (A_286), obk (A_279), obk (A187)]) A536 c537 3 (xo ++ ([gI g.ow (gI (lsD (inT g s) 256 : List Int) k)]) : List Int) := ow545.grA g753 (fun _ _ h => by cases h) (fun k hk hs => ⟨(fun e => by injection e; omega), hs.1, hs.2.1, hs.2.2.1, hs.2.2.2.1, hs.2.2.2.2⟩)
         replace ow357 : OwnR w749 (Sx (w253.heap.size) [some (w588.heap.size), some (w489.heap.size), obk (A_339), obk (A_286), obk (A187), obk (A536)]) A_279 c_280 3 (xp : List Int) := ow357.grA g753 (fun _ _ h => by cases h) (fun k hk hs => ⟨(fun e => by injection e; omega), hs.1, hs.2.1, hs.2.2.1, hs.2.2.2.1, hs.2.2.2.2.1, hs.2.2.2.2.2⟩)
         replace ow503 : OwnLL w749 (w253.heap.size) [some (w588.heap.size), some (w489.heap.size), obk (A_339), obk (A187), obk (A536), obk (A_279)] A_286 c_287 22 3 (xm : List (List Int)) := ow503.grA g753 (fun _ _ h => by cases h) (fun k hk hs => ⟨(fun e => by injection e; omega), hs.1, hs.2.1, hs.2.2.1, hs.2.2.2.1, hs.2.2.2.2.1, hs.2.2.2.2.2⟩)
         replace r359 := r359.gr g753 (fun _ h => by cases h)
         replace ow360 : OwnR w749 (Sx (w290.heap.size) [some (w588.heap.size), some (w489.heap.size), obk (A187), obk (A536), obk (A_279), obk (A_286)]) A_339 c_340 3 (xl : List Int) := ow360.grA g753 (fun _ _ h => by cases h) (fun k hk hs => ⟨(fun e => by injection e; omega), hs.1, hs.2.1, hs.2.2.1, hs.2.2.2.1, hs.2.2.2.2.1, hs.2.2.2.2.2⟩)
         have bx755 : Bx w749 (w588.heap.size) [.int .i64 (gI g.pr (gI (lsD (inT g s) 256 : List Int) k))] 3 := Bx.new hw750
         have := bx755.lt
         clear g753 hw750
         refine AtH.all [1] 3 (by kernel_rfl) (by simp) ⟨?_, trivial⟩
         refine OneH.seq f751 [[.ld (.slice A_279 xp.length c_280)]] [(81, .slice A_279 xp.length c_280)] w749 [(w749.cell? ⟨w208.heap.size, 1, none⟩ = some (.slice A_279 xp.length c_280))] #[true, true, true, true, true, true, true, true, false, false, false] (by kernel_rfl) (by kernel_rfl) (by kernel_rfl) ⟨(bx564.cell (i := 1) rfl), trivial⟩ (fun act772 w773 hw774 f771 => ?_)
         obtain rfl : w749 = w773 := hw774.symm
         clear f751
         refine ⟨hS756, ?_⟩
         refine AtH.all [8] 2 (by kernel_rfl) (by simp) ⟨?_, trivial⟩
         have hl780 : (xp ++ ([gI g.pr (gI (lsD (inT g s) 256 : List Int) k)])).length = (xp).length + ([gI g.pr (gI (lsD (inT g s) 256 : List Int) k)] : List Int).length := List.length_append
         simp only [List.length_cons, List.length_nil] at hl780
         refine OneH.act f771 #[true, true, true, true, true, true, true, true, true, false, false] (by kernel_rfl) (appendR (α := Int) (t := 22) (d := 88) (n := xp.length) (m := 1) (cc := 1) (xs := xp) (ys := [gI g.pr (gI (lsD (inT g s) 256 : List Int) k)]) (bytes := 8) (by first | rfl | omega | (simp; done) | (simp; omega)) (by first | rfl | omega | (simp; done) | (simp; omega)) (by kernel_rfl) rfl (by kernel_rfl) ow357 (Bx.srcR (l := ([gI g.pr (gI (lsD (inT g s) 256 : List Int) k)] : List Int)) bx755 rfl) (by simp only [List.length_cons, List.length_nil]; omega) (by simp only [List.length_cons, List.length_nil]; omega)) ?_
         rintro d_ v_ w779 ⟨rfl, A776, c777, ha778⟩
         obtain rfl := ha778.val
         have g781 := ha778.gr
         have hS784 := hS756.grO g781 (by rw [hCs585]; exact ⟨(fun e => by have := ow357.ge _ e; simp only [add_block] at this; omega), (fun e => by have := ow357.ge _ e; simp only [add_block] at this; omega), trivial⟩)
         refine ⟨_, rfl, fun act783 f782 => ⟨hS784, ?_⟩⟩
         clear f771
         clear bx755
         have ow785 := ha778.own (Sx (w253.heap.size) [obk (A_339), obk (A_286), obk (A187), obk (A536)]) (fun g _ hs => ⟨hs.2.2.1, hs.2.2.2.1, hs.2.2.2.2.1, hs.2.2.2.2.2.1, hs.2.2.2.2.2.2⟩) ⟨ow360.ne_new, ow503.ne_new, ow354.ne_new, ow545.ne_new, (show w253.heap.size ≤ w749.heap.size by omega)⟩
         have szw779 := g781.size
         replace e345 := e345.gr g781 (fun k hk => by have := ow357.ge k hk; omega)
         replace r348 := r348.gr g781 (fun k hk => by have := ow357.ge k hk; omega)
         replace r349 := r349.gr g781 (fun k hk => by have := ow357.ge k hk; omega)
         replace bx350 := bx350.gr g781 (fun e => by have := ow357.ge _ e; omega)
         replace bx351 := bx351.gr g781 (fun e => by have := ow357.ge _ e; omega)
         replace bx352 := bx352.gr g781 (fun e => by have := ow357.ge _ e; omega)
         replace bx353 := bx353.gr g781 (fun e => by have := ow357.ge _ e; omega)
         replace ow354 : OwnR w779 (Sx (w172.heap.size) [some (w588.heap.size), some (w489.heap.size), obk (A_339), obk (A_286), obk (A776), obk (A536), some (w208.heap.size)]) A187 c188 3 ((lsD (inT g s) 256 : List Int) : List Int) := ow354.grA g781 (fun k hk => hk.2.2.2.2.1) (fun k hk hs => ⟨hs.1, hs.2.1, hs.2.2.1, hs.2.2.2.1, own_repl ha778.at_ hs.2.2.2.2.1 hk, hs.2.2.2.2.2.1, hs.2.2.2.2.2.2.1, hs.2.2.2.2.2.2.2⟩)
         replace bx564 := bx564.gr g781 (fun e => by have := ow357.ge _ e; omega)
         replace ow545 : OwnR w779 (Sx (w253.heap.size) [some (w588.heap.size), obk (A_339), obk (A_286), obk (A776), obk (A187)]) A536 c537 3 (xo ++ ([gI g.ow (gI (lsD (inT g s) 256 : List Int) k)]) : List Int) := ow545.grA g781 (fun k hk => hk.2.2.2.1) (fun k hk hs => ⟨hs.1, hs.2.1, hs.2.2.1, own_repl ha778.at_ hs.2.2.2.1 hk, hs.2.2.2.2.1, hs.2.2.2.2.2⟩)
         replace ow503 : OwnLL w779 (w253.heap.size) [some (w588.heap.size), some (w489.heap.size), obk (A_339), obk (A187), obk (A536), obk (A776)] A_286 c_287 22 3 (xm : List (List Int)) := ow503.grA g781 (fun k hk => hk.2.2.2.2.2.1) (fun k hk hs => ⟨hs.1, hs.2.1, hs.2.2.1, hs.2.2.2.1, hs.2.2.2.2.1, own_repl ha778.at_ hs.2.2.2.2.2.1 hk, hs.2.2.2.2.2.2⟩)
         replace r359 := r359.gr g781 (fun k hk => by have := ow357.ge k hk; omega)
         replace ow360 : OwnR w779 (Sx (w290.heap.size) [some (w588.heap.size), some (w489.heap.size), obk (A187), obk (A536), obk (A776), obk (A_286)]) A_339 c_340 3 (xl : List Int) := ow360.grA g781 (fun k hk => hk.2.2.2.2.1) (fun k hk hs => ⟨hs.1, hs.2.1, hs.2.2.1, hs.2.2.2.1, own_repl ha778.at_ hs.2.2.2.2.1 hk, hs.2.2.2.2.2.1, hs.2.2.2.2.2.2⟩)
         clear ow357 g781 ha778
         refine AtH.rd (by kernel_rfl) (fun d v c a w h => by cases d <;> exact h) hS784 [9] [[]] [(89, .pointer (some ⟨w208.heap.size, 1, none⟩))] #[true, true, true, true, true, true, true, true, true, true, false] [] 1 f782 (by kernel_rfl) trivial (fun act800 f799 => ?_)
         clear f782
         refine AtH.all [10] 0 (by kernel_rfl) (by simp) ⟨?_, trivial⟩
         refine OneH.store f799 (t := 22) (b := w208.heap.size) (off := 1) (v := .slice A776 ((xp ++ ([gI g.pr (gI (lsD (inT g s) 256 : List Int) k)])).length) c777) #[true, true, true, true, true, true, true, true, true, true, true] (by kernel_rfl) (by kernel_rfl) bx564 (by kernel_rfl) (fun act806 w802 g803 bx804 f805 => ?_)
         clear f799
         replace bx804 : Bx w802 (w208.heap.size) [.slice A536 ((xo ++ ([gI g.ow (gI (lsD (inT g s) 256 : List Int) k)])).length) c537, .slice A776 ((xp ++ ([gI g.pr (gI (lsD (inT g s) 256 : List Int) k)])).length) c777, .slice A_286 xm.length c_287] 25 := bx804
         have hS801 := hS784.gr' g803 (by rw [hCs585]; exact ⟨(by simp only [add_block]; omega), (by simp only [add_block]; omega), trivial⟩)
         have szw802 := g803.size
         replace e345 := e345.gr g803 (fun k h => by injection h; omega)
         replace r348 := r348.gr g803 (fun k h => by injection h; omega)
         replace r349 := r349.gr g803 (fun k h => by injection h; omega)
         replace bx350 := bx350.gr g803 (fun h => by injection h; omega)
         replace bx351 := bx351.gr g803 (fun h => by injection h; omega)
         replace bx352 := bx352.gr g803 (fun h => by injection h; omega)
         replace bx353 := bx353.gr g803 (fun h => by injection h; omega)
         replace ow354 := ow354.gr g803 (fun k hk => hk.2.2.2.2.2.2.1)
         replace ow545 := ow545.gr g803 (fun k hk e => by have := Sx_base hk; injection e; omega)
         replace ow785 := ow785.gr g803 (fun k hk e => by have := Sx_base hk; injection e; omega)
         replace ow503 := ow503.gr g803 (fun k hk e => by have := Sx_base hk; injection e; omega)
         replace r359 := r359.gr g803 (fun k h => by injection h; omega)
         replace ow360 := ow360.gr g803 (fun k hk e => by have := Sx_base hk; injection e; omega)
         clear bx564 g803
         refine ⟨hS801, ?_⟩
         refine AtH.done (by kernel_rfl) ?_
         clear hS801
         refine t_n ?_
         refine At.start ?_
         refine At.rd f805 3 [[], [.ld (.slice A_286 xm.length c_287)], []] [(92, .slice A_339 xl.length c_340), (91, .slice A_286 xm.length c_287), (90, .pointer (some ⟨w208.heap.size, 2, none⟩))] [(w802.cell? ⟨w208.heap.size, 2, none⟩ = some (.slice A_286 xm.length c_287))] (by kernel_rfl) ⟨(bx804.cell (i := 2) rfl), trivial⟩ (fun act821 f820 => ?_)
         clear f805
         refine At.seq f820 1 [[]] [(93, .slice (some ⟨w802.heap.size, 0, none⟩) 1 1)] (w802.alloc (.cells #[.slice A_339 xl.length c_340] 22 (0, 0))) [] (by kernel_rfl) trivial (fun act825 w822 hw823 f824 => ?_)
         clear f820
         have g826 := gr_alloc hw823
         have szw822 := g826.size
         replace e345 := e345.gr g826 no_row
         replace r348 := r348.gr g826 (fun _ h => by cases h)
         replace r349 := r349.gr g826 (fun _ h => by cases h)
         replace bx350 := bx350.gr g826 (by simp)
         replace bx351 := bx351.gr g826 (by simp)
         replace bx352 := bx352.gr g826 (by simp)
         replace bx353 := bx353.gr g826 (by simp)
         replace ow354 : OwnR w822 (Sx (w172.heap.size) [some (w802.heap.size), some (w588.heap.size), some (w489.heap.size), obk (A_339), obk (A_286), obk (A776), obk (A536), some (w208.heap.size)]) A187 c188 3 ((lsD (inT g s) 256 : List Int) : List Int) := ow354.grA g826 (fun _ _ h => by cases h) (fun k hk hs => ⟨(fun e => by injection e; omega), hs.1, hs.2.1, hs.2.2.1, hs.2.2.2.1, hs.2.2.2.2.1, hs.2.2.2.2.2.1, hs.2.2.2.2.2.2.1, hs.2.2.2.2.2.2.2⟩)
         replace bx804 := bx804.gr g826 (by simp)
         replace ow545 : OwnR w822 (Sx (w253.heap.size) [some (w802.heap.size), some (w588.heap.size), obk (A_339), obk (A_286), obk (A776), obk (A187)]) A536 c537 3 (xo ++ ([gI g.ow (gI (lsD (inT g s) 256 : List Int) k)]) : List Int) := ow545.grA g826 (fun _ _ h => by cases h) (fun k hk hs => ⟨(fun e => by injection e; omega), hs.1, hs.2.1, hs.2.2.1, hs.2.2.2.1, hs.2.2.2.2.1, hs.2.2.2.2.2⟩)
         replace ow785 : OwnR w822 (Sx (w253.heap.size) [some (w802.heap.size), obk (A_339), obk (A_286), obk (A187), obk (A536)]) A776 c777 3 (xp ++ ([gI g.pr (gI (lsD (inT g s) 256 : List Int) k)]) : List Int) := ow785.grA g826 (fun _ _ h => by cases h) (fun k hk hs => ⟨(fun e => by injection e; omega), hs.1, hs.2.1, hs.2.2.1, hs.2.2.2.1, hs.2.2.2.2⟩)
         replace ow503 : OwnLL w822 (w253.heap.size) [some (w802.heap.size), some (w588.heap.size), some (w489.heap.size), obk (A_339), obk (A187), obk (A536), obk (A776)] A_286 c_287 22 3 (xm : List (List Int)) := ow503.grA g826 (fun _ _ h => by cases h) (fun k hk hs => ⟨(fun e => by injection e; omega), hs.1, hs.2.1, hs.2.2.1, hs.2.2.2.1, hs.2.2.2.2.1, hs.2.2.2.2.2.1, hs.2.2.2.2.2.2⟩)
         replace r359 := r359.gr g826 (fun _ h => by cases h)
         replace ow360 : OwnR w822 (Sx (w290.heap.size) [some (w802.heap.size), some (w588.heap.size), some (w489.heap.size), obk (A187), obk (A536), obk (A776), obk (A_286)]) A_339 c_340 3 (xl : List Int) := ow360.grA g826 (fun _ _ h => by cases h) (fun k hk hs => ⟨(fun e => by injection e; omega), hs.1, hs.2.1, hs.2.2.1, hs.2.2.2.1, hs.2.2.2.2.1, hs.2.2.2.2.2.1, hs.2.2.2.2.2.2⟩)
         have bx828 : Bx w822 (w802.heap.size) [.slice A_339 xl.length c_340] 22 := Bx.new hw823
         have := bx828.lt
         clear g826 hw823
         have ow843 : OwnR w822 (Sx (w253.heap.size) [obk (A187), obk (A536), obk (A776)]) A_339 c_340 3 (xl : List Int) := ow360.imp (fun g _ hs => ⟨hs.2.2.2.1, hs.2.2.2.2.1, hs.2.2.2.2.2.1, (by have := Sx_base hs; show w253.heap.size ≤ g; omega)⟩)
         have ow844 : OwnLL w822 (w253.heap.size) [obk (A_339), obk (A187), obk (A536), obk (A776)] A_286 c_287 22 3 (xm : List (List Int)) := (ow503.imp (fun g _ hs => ⟨hs.2.2.2.1, hs.2.2.2.2.1, hs.2.2.2.2.2.1, hs.2.2.2.2.2.2.1, hs.2.2.2.2.2.2.2⟩))
         have hl845 : (xm ++ [xl]).length = (xm).length + 1 := by simp
         refine At.act f824 (appendLL (t := 23) (d := 94) (n := xm.length) (m := 1) (cc := 1) (ls := xm) (xs := xl) (bytes := 24) (by first | rfl | omega | (simp; done) | (simp; omega)) (by kernel_rfl) (by kernel_rfl) (bx828.as (by first | rfl | (simp; done))) ow844 ow843 ⟨ow354.ne_new, ow545.ne_new, ow785.ne_new, (show w253.heap.size ≤ w822.heap.size by omega)⟩ (by omega) (by omega)) ?_
         rintro d_ v_ w846 ⟨rfl, A847, c848, rfl, g849, ha850, ow851⟩
         refine ⟨_, rfl, fun act853 f852 => ?_⟩
         clear f824
         clear bx828 ow360 ow843 ow844
         have szw846 := g849.size
         replace e345 := e345.gr g849 (fun k hk => by have := ow503.ge k hk; omega)
         replace r348 := r348.gr g849 (fun k hk => by have := ow503.ge k hk; omega)
         replace r349 := r349.gr g849 (fun k hk => by have := ow503.ge k hk; omega)
         replace bx350 := bx350.gr g849 (fun e => by have := ow503.ge _ e; omega)
         replace bx351 := bx351.gr g849 (fun e => by have := ow503.ge _ e; omega)
         replace bx352 := bx352.gr g849 (fun e => by have := ow503.ge _ e; omega)
         replace bx353 := bx353.gr g849 (fun e => by have := ow503.ge _ e; omega)
         replace ow354 : OwnR w846 (Sx (w172.heap.size) [some (w802.heap.size), some (w588.heap.size), some (w489.heap.size), obk (A_339), obk (A847), obk (A776), obk (A536), some (w208.heap.size)]) A187 c188 3 ((lsD (inT g s) 256 : List Int) : List Int) := ow354.grA g849 (fun k hk => hk.2.2.2.2.1) (fun k hk hs => ⟨hs.1, hs.2.1, hs.2.2.1, hs.2.2.2.1, own_repl ha850 hs.2.2.2.2.1 hk, hs.2.2.2.2.2.1, hs.2.2.2.2.2.2.1, hs.2.2.2.2.2.2.2.1, hs.2.2.2.2.2.2.2.2⟩)
         replace bx804 := bx804.gr g849 (fun e => by have := ow503.ge _ e; omega)
         replace ow545 : OwnR w846 (Sx (w253.heap.size) [some (w802.heap.size), some (w588.heap.size), obk (A_339), obk (A847), obk (A776), obk (A187)]) A536 c537 3 (xo ++ ([gI g.ow (gI (lsD (inT g s) 256 : List Int) k)]) : List Int) := ow545.grA g849 (fun k hk => hk.2.2.2.1) (fun k hk hs => ⟨hs.1, hs.2.1, hs.2.2.1, own_repl ha850 hs.2.2.2.1 hk, hs.2.2.2.2.1, hs.2.2.2.2.2.1, hs.2.2.2.2.2.2⟩)
         replace ow785 : OwnR w846 (Sx (w253.heap.size) [some (w802.heap.size), obk (A_339), obk (A847), obk (A187), obk (A536)]) A776 c777 3 (xp ++ ([gI g.pr (gI (lsD (inT g s) 256 : List Int) k)]) : List Int) := ow785.grA g849 (fun k hk => hk.2.2.1) (fun k hk hs => ⟨hs.1, hs.2.1, own_repl ha850 hs.2.2.1 hk, hs.2.2.2.1, hs.2.2.2.2.1, hs.2.2.2.2.2⟩)
         replace r359 := r359.gr g849 (fun k hk => by have := ow503.ge k hk; omega)
         clear ow503 g849 ha850
         refine At.rd f852 1 [[]] [(95, .pointer (some ⟨w208.heap.size, 2, none⟩))] [] (by kernel_rfl) trivial (fun act867 f866 => ?_)
         clear f852
         refine At.store f866 (t := 23) (b := w208.heap.size) (off := 2) (v := .slice A847 ((xm ++ [xl]).length) c848) (by kernel_rfl) bx804 (by kernel_rfl) (fun act872 w868 g869 bx870 f871 => ?_)
         clear f866
         replace bx870 : Bx w868 (w208.heap.size) [.slice A536 ((xo ++ ([gI g.ow (gI (lsD (inT g s) 256 : List Int) k)])).length) c537, .slice A776 ((xp ++ ([gI g.pr (gI (lsD (inT g s) 256 : List Int) k)])).length) c777, .slice A847 ((xm ++ [xl]).length) c848] 25 := bx870
         have szw868 := g869.size
         replace e345 := e345.gr g869 (fun k h => by injection h; omega)
         replace r348 := r348.gr g869 (fun k h => by injection h; omega)
         replace r349 := r349.gr g869 (fun k h => by injection h; omega)
         replace bx350 := bx350.gr g869 (fun h => by injection h; omega)
         replace bx351 := bx351.gr g869 (fun h => by injection h; omega)
         replace bx352 := bx352.gr g869 (fun h => by injection h; omega)
         replace bx353 := bx353.gr g869 (fun h => by injection h; omega)
         replace ow354 := ow354.gr g869 (fun k hk => hk.2.2.2.2.2.2.2.1)
         replace ow545 := ow545.gr g869 (fun k hk e => by have := Sx_base hk; injection e; omega)
         replace ow785 := ow785.gr g869 (fun k hk e => by have := Sx_base hk; injection e; omega)
         replace r359 := r359.gr g869 (fun k h => by injection h; omega)
         replace ow851 := ow851.gr g869 (fun k hk e => by have := Sx_base hk; injection e; omega)
         clear bx804 g869
         refine At.done rfl ?_
         refine b_n ?_
         refine t_n ?_
         have f885 := f871.sub (r := [(42, .int .i64 (k)), (41, .int .i64 ((((lsD (inT g s) 256 : List Int).length : Nat) : Int))), (40, .slice A187 ((lsD (inT g s) 256 : List Int).length) c188), (11, .pointer (some ⟨w208.heap.size, 0, none⟩)), (8, .slice A187 ((lsD (inT g s) 256 : List Int).length) c188), (7, .pointer (some ⟨w163.heap.size, 0, none⟩)), (4, .pointer (some ⟨w11.heap.size, 0, none⟩)), (3, .pointer (some ⟨w1.heap.size, 0, none⟩)), (2, .pointer (some ⟨w.heap.size, 0, none⟩))]) ⟨rfl, rfl, rfl, rfl, rfl, rfl, rfl, rfl, rfl, trivial⟩
         clear f871
         refine At.start ?_
         refine At.rd f885 2 [[.as_ (.int .i64 (k + 1))], []] [(42, .int .i64 (k + 1)), (96, .int .i64 (k + 1))] [((.int .i64 (IntKind.i64.wrap (k + 1)) : Value) = .int .i64 (k + 1))] (by kernel_rfl) ⟨(w64 (by omega) (by omega)), trivial⟩ (fun act887 f886 => ?_)
         clear f885
         refine At.done rfl ?_
         refine t_n ?_
         have f888 := f886.sub (r := [(42, .int .i64 (k + 1)), (41, .int .i64 ((((lsD (inT g s) 256 : List Int).length : Nat) : Int))), (40, .slice A187 ((lsD (inT g s) 256 : List Int).length) c188), (11, .pointer (some ⟨w208.heap.size, 0, none⟩)), (8, .slice A187 ((lsD (inT g s) 256 : List Int).length) c188), (7, .pointer (some ⟨w163.heap.size, 0, none⟩)), (4, .pointer (some ⟨w11.heap.size, 0, none⟩)), (3, .pointer (some ⟨w1.heap.size, 0, none⟩)), (2, .pointer (some ⟨w.heap.size, 0, none⟩))]) ⟨rfl, rfl, rfl, rfl, rfl, rfl, rfl, rfl, rfl, trivial⟩
         exact ⟨_, (by omega), (k + 1), (xo ++ ([gI g.ow (gI (lsD (inT g s) 256 : List Int) k)]) : List Int), A536, c537, (xp ++ ([gI g.pr (gI (lsD (inT g s) 256 : List Int) k)]) : List Int), A776, c777, (xm ++ [xl] : List (List Int)), A847, c848, rfl, f888, e345, r348, r349, bx350, bx351, bx352, bx353, (ow354.imp (fun g _ hs => ⟨hs.2.2.2.2.1, hs.2.2.2.2.2.1, hs.2.2.2.2.2.2.1, hs.2.2.2.2.2.2.2.1, hs.2.2.2.2.2.2.2.2⟩)), bx870, (ow545.imp (fun g _ hs => ⟨hs.2.2.2.1, hs.2.2.2.2.1, hs.2.2.2.2.2.1, hs.2.2.2.2.2.2⟩)), (ow785.imp (fun g _ hs => ⟨hs.2.2.1, hs.2.2.2.1, hs.2.2.2.2.1, hs.2.2.2.2.2⟩)), ow851, (by omega), (by omega), (map_push hxo (by omega) (by omega)), (map_push hxp (by omega) (by omega)), (by rw [hxe]; exact map_push hxm (by omega) (by omega)), (gone_next hgo (by rw [← hxe]; exact hne)), (by omega), (by omega)⟩
       ·refine OneH.seq f506 [[]] [(77, .slice (some ⟨w489.heap.size, 0, none⟩) 1 1)] (w489.alloc (.cells #[.int .i64 (gI g.ow (gI (lsD (inT g s) 256 : List Int) k))] 3 (0, 0))) [] #[true, false, true, true, true, true, true, true, false, false, false] (by kernel_rfl) (by kernel_rfl) (by kernel_rfl) trivial (fun act893 w890 hw891 f892 => ?_)
        clear f506
        have g894 := gr_alloc hw891
        have hS897 := hS491.gr g894
        refine ⟨hS897, ?_⟩
        have szw890 := g894.size
        replace e345 := e345.gr g894 no_row
        replace r348 := r348.gr g894 (fun _ h => by cases h)
        replace r349 := r349.gr g894 (fun _ h => by cases h)
        replace bx350 := bx350.gr g894 (by simp)
        replace bx351 := bx351.gr g894 (by simp)
        replace bx352 := bx352.gr g894 (by simp)
        replace bx353 := bx353.gr g894 (by simp)
        replace ow354 : OwnR w890 (Sx (w172.heap.size) [some (w489.heap.size), obk (A_339), obk (A_286), obk (A_279), obk (A_273), some (w208.heap.size)]) A187 c188 3 ((lsD (inT g s) 256 : List Int) : List Int) := ow354.grA g894 (fun _ _ h => by cases h) (fun k hk hs => ⟨(fun e => by injection e; omega), hs.1, hs.2.1, hs.2.2.1, hs.2.2.2.1, hs.2.2.2.2.1, hs.2.2.2.2.2⟩)
        replace bx355 := bx355.gr g894 (by simp)
        replace ow356 : OwnR w890 (Sx (w253.heap.size) [some (w489.heap.size), obk (A_339), obk (A_286), obk (A_279), obk (A187)]) A_273 c_274 3 (xo : List Int) := ow356.grA g894 (fun _ _ h => by cases h) (fun k hk hs => ⟨(fun e => by injection e; omega), hs.1, hs.2.1, hs.2.2.1, hs.2.2.2.1, hs.2.2.2.2⟩)
        replace ow357 : OwnR w890 (Sx (w253.heap.size) [some (w489.heap.size), obk (A_339), obk (A_286), obk (A187), obk (A_273)]) A_279 c_280 3 (xp : List Int) := ow357.grA g894 (fun _ _ h => by cases h) (fun k hk hs => ⟨(fun e => by injection e; omega), hs.1, hs.2.1, hs.2.2.1, hs.2.2.2.1, hs.2.2.2.2⟩)
        replace ow503 : OwnLL w890 (w253.heap.size) [some (w489.heap.size), obk (A_339), obk (A187), obk (A_273), obk (A_279)] A_286 c_287 22 3 (xm : List (List Int)) := ow503.grA g894 (fun _ _ h => by cases h) (fun k hk hs => ⟨(fun e => by injection e; omega), hs.1, hs.2.1, hs.2.2.1, hs.2.2.2.1, hs.2.2.2.2⟩)
        replace r359 := r359.gr g894 (fun _ h => by cases h)
        replace ow360 : OwnR w890 (Sx (w290.heap.size) [some (w489.heap.size), obk (A187), obk (A_273), obk (A_279), obk (A_286)]) A_339 c_340 3 (xl : List Int) := ow360.grA g894 (fun _ _ h => by cases h) (fun k hk hs => ⟨(fun e => by injection e; omega), hs.1, hs.2.1, hs.2.2.1, hs.2.2.2.1, hs.2.2.2.2⟩)
        have bx896 : Bx w890 (w489.heap.size) [.int .i64 (gI g.ow (gI (lsD (inT g s) 256 : List Int) k))] 3 := Bx.new hw891
        have := bx896.lt
        clear g894 hw891
        refine AtH.all [1] 3 (by kernel_rfl) (by simp) ⟨?_, trivial⟩
        refine OneH.seq f892 [[.ld (.slice A_273 xo.length c_274)]] [(71, .slice A_273 xo.length c_274)] w890 [(w890.cell? ⟨w208.heap.size, 0, none⟩ = some (.slice A_273 xo.length c_274))] #[true, true, true, true, true, true, true, true, false, false, false] (by kernel_rfl) (by kernel_rfl) (by kernel_rfl) ⟨(bx355.cell (i := 0) rfl), trivial⟩ (fun act913 w914 hw915 f912 => ?_)
        obtain rfl : w890 = w914 := hw915.symm
        clear f892
        refine ⟨hS897, ?_⟩
        refine AtH.all [8] 2 (by kernel_rfl) (by simp) ⟨?_, trivial⟩
        have hl921 : (xo ++ ([gI g.ow (gI (lsD (inT g s) 256 : List Int) k)])).length = (xo).length + ([gI g.ow (gI (lsD (inT g s) 256 : List Int) k)] : List Int).length := List.length_append
        simp only [List.length_cons, List.length_nil] at hl921
        refine OneH.act f912 #[true, true, true, true, true, true, true, true, true, false, false] (by kernel_rfl) (appendR (α := Int) (t := 22) (d := 78) (n := xo.length) (m := 1) (cc := 1) (xs := xo) (ys := [gI g.ow (gI (lsD (inT g s) 256 : List Int) k)]) (bytes := 8) (by first | rfl | omega | (simp; done) | (simp; omega)) (by first | rfl | omega | (simp; done) | (simp; omega)) (by kernel_rfl) rfl (by kernel_rfl) ow356 (Bx.srcR (l := ([gI g.ow (gI (lsD (inT g s) 256 : List Int) k)] : List Int)) bx896 rfl) (by simp only [List.length_cons, List.length_nil]; omega) (by simp only [List.length_cons, List.length_nil]; omega)) ?_
        rintro d_ v_ w920 ⟨rfl, A917, c918, ha919⟩
        obtain rfl := ha919.val
        have g922 := ha919.gr
        have hS925 := hS897.grO g922 (by rw [hCs486]; exact ⟨(fun e => by have := ow356.ge _ e; simp only [add_block] at this; omega), (fun e => by have := ow356.ge _ e; simp only [add_block] at this; omega), trivial⟩)
        refine ⟨_, rfl, fun act924 f923 => ⟨hS925, ?_⟩⟩
        clear f912
        clear bx896
        have ow926 := ha919.own (Sx (w253.heap.size) [obk (A_339), obk (A_286), obk (A_279), obk (A187)]) (fun g _ hs => ⟨hs.2.1, hs.2.2.1, hs.2.2.2.1, hs.2.2.2.2.1, hs.2.2.2.2.2⟩) ⟨ow360.ne_new, ow503.ne_new, ow357.ne_new, ow354.ne_new, (show w253.heap.size ≤ w890.heap.size by omega)⟩
        have szw920 := g922.size
        replace e345 := e345.gr g922 (fun k hk => by have := ow356.ge k hk; omega)
        replace r348 := r348.gr g922 (fun k hk => by have := ow356.ge k hk; omega)
        replace r349 := r349.gr g922 (fun k hk => by have := ow356.ge k hk; omega)
        replace bx350 := bx350.gr g922 (fun e => by have := ow356.ge _ e; omega)
        replace bx351 := bx351.gr g922 (fun e => by have := ow356.ge _ e; omega)
        replace bx352 := bx352.gr g922 (fun e => by have := ow356.ge _ e; omega)
        replace bx353 := bx353.gr g922 (fun e => by have := ow356.ge _ e; omega)
        replace ow354 : OwnR w920 (Sx (w172.heap.size) [some (w489.heap.size), obk (A_339), obk (A_286), obk (A_279), obk (A917), some (w208.heap.size)]) A187 c188 3 ((lsD (inT g s) 256 : List Int) : List Int) := ow354.grA g922 (fun k hk => hk.2.2.2.2.1) (fun k hk hs => ⟨hs.1, hs.2.1, hs.2.2.1, hs.2.2.2.1, own_repl ha919.at_ hs.2.2.2.2.1 hk, hs.2.2.2.2.2.1, hs.2.2.2.2.2.2⟩)
        replace bx355 := bx355.gr g922 (fun e => by have := ow356.ge _ e; omega)
        replace ow357 : OwnR w920 (Sx (w253.heap.size) [some (w489.heap.size), obk (A_339), obk (A_286), obk (A187), obk (A917)]) A_279 c_280 3 (xp : List Int) := ow357.grA g922 (fun k hk => hk.2.2.2.2.1) (fun k hk hs => ⟨hs.1, hs.2.1, hs.2.2.1, hs.2.2.2.1, own_repl ha919.at_ hs.2.2.2.2.1 hk, hs.2.2.2.2.2⟩)
        replace ow503 : OwnLL w920 (w253.heap.size) [some (w489.heap.size), obk (A_339), obk (A187), obk (A917), obk (A_279)] A_286 c_287 22 3 (xm : List (List Int)) := ow503.grA g922 (fun k hk => hk.2.2.2.1) (fun k hk hs => ⟨hs.1, hs.2.1, hs.2.2.1, own_repl ha919.at_ hs.2.2.2.1 hk, hs.2.2.2.2.1, hs.2.2.2.2.2⟩)
        replace r359 := r359.gr g922 (fun k hk => by have := ow356.ge k hk; omega)
        replace ow360 : OwnR w920 (Sx (w290.heap.size) [some (w489.heap.size), obk (A187), obk (A917), obk (A_279), obk (A_286)]) A_339 c_340 3 (xl : List Int) := ow360.grA g922 (fun k hk => hk.2.2.1) (fun k hk hs => ⟨hs.1, hs.2.1, own_repl ha919.at_ hs.2.2.1 hk, hs.2.2.2.1, hs.2.2.2.2.1, hs.2.2.2.2.2⟩)
        clear ow356 g922 ha919
        refine AtH.rd (by kernel_rfl) (fun d v c a w h => by cases d <;> exact h) hS925 [9] [[]] [(79, .pointer (some ⟨w208.heap.size, 0, none⟩))] #[true, true, true, true, true, true, true, true, true, true, false] [] 1 f923 (by kernel_rfl) trivial (fun act941 f940 => ?_)
        clear f923
        refine AtH.all [10] 0 (by kernel_rfl) (by simp) ⟨?_, trivial⟩
        refine OneH.store f940 (t := 22) (b := w208.heap.size) (off := 0) (v := .slice A917 ((xo ++ ([gI g.ow (gI (lsD (inT g s) 256 : List Int) k)])).length) c918) #[true, true, true, true, true, true, true, true, true, true, true] (by kernel_rfl) (by kernel_rfl) bx355 (by kernel_rfl) (fun act947 w943 g944 bx945 f946 => ?_)
        clear f940
        replace bx945 : Bx w943 (w208.heap.size) [.slice A917 ((xo ++ ([gI g.ow (gI (lsD (inT g s) 256 : List Int) k)])).length) c918, .slice A_279 xp.length c_280, .slice A_286 xm.length c_287] 25 := bx945
        have hS942 := hS925.gr' g944 (by rw [hCs486]; exact ⟨(by simp only [add_block]; omega), (by simp only [add_block]; omega), trivial⟩)
        have szw943 := g944.size
        replace e345 := e345.gr g944 (fun k h => by injection h; omega)
        replace r348 := r348.gr g944 (fun k h => by injection h; omega)
        replace r349 := r349.gr g944 (fun k h => by injection h; omega)
        replace bx350 := bx350.gr g944 (fun h => by injection h; omega)
        replace bx351 := bx351.gr g944 (fun h => by injection h; omega)
        replace bx352 := bx352.gr g944 (fun h => by injection h; omega)
        replace bx353 := bx353.gr g944 (fun h => by injection h; omega)
        replace ow354 := ow354.gr g944 (fun k hk => hk.2.2.2.2.2.1)
        replace ow926 := ow926.gr g944 (fun k hk e => by have := Sx_base hk; injection e; omega)
        replace ow357 := ow357.gr g944 (fun k hk e => by have := Sx_base hk; injection e; omega)
        replace ow503 := ow503.gr g944 (fun k hk e => by have := Sx_base hk; injection e; omega)
        replace r359 := r359.gr g944 (fun k h => by injection h; omega)
        replace ow360 := ow360.gr g944 (fun k hk e => by have := Sx_base hk; injection e; omega)
        clear bx355 g944
        refine ⟨hS942, ?_⟩
        refine AtH.done (by kernel_rfl) ?_
        clear hS942
        refine t_n ?_
        have f961 := f946.sub (r := [(14, .slice A_339 xl.length c_340), (13, .int .i64 (gI (lsD (inT g s) 256 : List Int) k)), (42, .int .i64 (k)), (41, .int .i64 ((((lsD (inT g s) 256 : List Int).length : Nat) : Int))), (40, .slice A187 ((lsD (inT g s) 256 : List Int).length) c188), (11, .pointer (some ⟨w208.heap.size, 0, none⟩)), (8, .slice A187 ((lsD (inT g s) 256 : List Int).length) c188), (7, .pointer (some ⟨w163.heap.size, 0, none⟩)), (4, .pointer (some ⟨w11.heap.size, 0, none⟩)), (3, .pointer (some ⟨w1.heap.size, 0, none⟩)), (2, .pointer (some ⟨w.heap.size, 0, none⟩))]) ⟨rfl, rfl, rfl, rfl, rfl, rfl, rfl, rfl, rfl, rfl, rfl, trivial⟩
        clear f946
        refine wp_seq ?_
        obtain ⟨ad962, hA963, _, _, hc964⟩ := RdI.get r348.pr (gI (lsD (inT g s) 256 : List Int) k) (by omega) (by omega)
        obtain ⟨Cs965, hCs966⟩ : ∃ c : List (Addr × Value), c = [(⟨w.heap.size, 1, none⟩, (.slice Ag1 g.pr.length cg1)), ((ad962.add ((gI (lsD (inT g s) 256 : List Int) k : Int).toNat * 1)), (.int .i64 (gI g.pr (gI (lsD (inT g s) 256 : List Int) k))))] := ⟨_, rfl⟩
        have hS967 : HoldsC Cs965 w943 := by rw [hCs966]; exact ⟨(bx350.cell (i := 1) rfl), hc964, trivial⟩
        refine AtH.start Cs965 11 #[false, false, false, false, false, false, false, false, false, false, false] (by kernel_rfl) rfl rfl (fun w969 hw970 => ?_)
        have g968 := gr_drew hw970
        have hS971 := hS967.gr g968
        have szw969 := g968.size
        replace e345 := e345.gr g968 no_row
        replace r348 := r348.gr g968 (fun _ h => by cases h)
        replace r349 := r349.gr g968 (fun _ h => by cases h)
        replace bx350 := bx350.gr g968 (by simp)
        replace bx351 := bx351.gr g968 (by simp)
        replace bx352 := bx352.gr g968 (by simp)
        replace bx353 := bx353.gr g968 (by simp)
        replace ow354 := ow354.gr g968 (fun _ _ h => by cases h)
        replace bx945 := bx945.gr g968 (by simp)
        replace ow926 := ow926.gr g968 (fun _ _ h => by cases h)
        replace ow357 := ow357.gr g968 (fun _ _ h => by cases h)
        replace ow503 := ow503.gr g968 (fun _ _ h => by cases h)
        replace r359 := r359.gr g968 (fun _ h => by cases h)
        replace ow360 := ow360.gr g968 (fun _ _ h => by cases h)
        clear g968 hw970 hS967
        refine AtH.rd (by kernel_rfl) (fun d v c a w h => by cases d <;> exact h) hS971 [0, 2, 3, 4, 5, 6] [[], [], [.ld (.slice Ag1 g.pr.length cg1)], [], [.ad ad962], [.ld (.int .i64 (gI g.pr (gI (lsD (inT g s) 256 : List Int) k)))]] [(86, .int .i64 (gI g.pr (gI (lsD (inT g s) 256 : List Int) k))), (85, .pointer (some (ad962.add ((gI (lsD (inT g s) 256 : List Int) k : Int).toNat * 1)))), (84, .int .i64 (gI (lsD (inT g s) 256 : List Int) k)), (83, .slice Ag1 g.pr.length cg1), (82, .pointer (some ⟨w.heap.size, 1, none⟩)), (80, .pointer (some ⟨w208.heap.size, 1, none⟩))] #[true, false, true, true, true, true, true, false, false, false, false] [(∃ j_ : Nat, Cs965[j_]? = some (⟨w.heap.size, 1, none⟩, (.slice Ag1 g.pr.length cg1))), (Ag1 = some ad962), (0 ≤ (gI (lsD (inT g s) 256 : List Int) k : Int)), ((gI (lsD (inT g s) 256 : List Int) k : Int) < (g.pr.length : Nat)), (∃ j_ : Nat, Cs965[j_]? = some ((ad962.add ((gI (lsD (inT g s) 256 : List Int) k : Int).toNat * 1)), (.int .i64 (gI g.pr (gI (lsD (inT g s) 256 : List Int) k)))))] 5 f961 (by kernel_rfl) ⟨⟨0, by rw [hCs966]; rfl⟩, hA963, (by omega), (by omega), ⟨1, by rw [hCs966]; rfl⟩, trivial⟩ (fun act987 f986 => ?_)
        clear f961
        refine AtH.all [1, 7] 4 (by kernel_rfl) (by simp) ⟨?_, ?_, trivial⟩
        ·refine OneH.seq f986 [[.ld (.slice A_279 xp.length c_280)]] [(81, .slice A_279 xp.length c_280)] w969 [(w969.cell? ⟨w208.heap.size, 1, none⟩ = some (.slice A_279 xp.length c_280))] #[true, true, true, true, true, true, true, false, false, false, false] (by kernel_rfl) (by kernel_rfl) (by kernel_rfl) ⟨(bx945.cell (i := 1) rfl), trivial⟩ (fun act989 w990 hw991 f988 => ?_)
         obtain rfl : w969 = w990 := hw991.symm
         clear f986
         refine ⟨hS971, ?_⟩
         refine AtH.all [7] 3 (by kernel_rfl) (by simp) ⟨?_, trivial⟩
         refine OneH.seq f988 [[]] [(87, .slice (some ⟨w969.heap.size, 0, none⟩) 1 1)] (w969.alloc (.cells #[.int .i64 (gI g.pr (gI (lsD (inT g s) 256 : List Int) k))] 3 (0, 0))) [] #[true, true, true, true, true, true, true, true, false, false, false] (by kernel_rfl) (by kernel_rfl) (by kernel_rfl) trivial (fun act996 w993 hw994 f995 => ?_)
         clear f988
         have g997 := gr_alloc hw994
         have hS1000 := hS971.gr g997
         refine ⟨hS1000, ?_⟩
         have szw993 := g997.size
         replace e345 := e345.gr g997 no_row
         replace r348 := r348.gr g997 (fun _ h => by cases h)
         replace r349 := r349.gr g997 (fun _ h => by cases h)
         replace bx350 := bx350.gr g997 (by simp)
         replace bx351 := bx351.gr g997 (by simp)
         replace bx352 := bx352.gr g997 (by simp)
         replace bx353 := bx353.gr g997 (by simp)
         replace ow354 : OwnR w993 (Sx (w172.heap.size) [some (w969.heap.size), some (w489.heap.size), obk (A_339), obk (A_286), obk (A_279), obk (A917), some (w208.heap.size)]) A187 c188 3 ((lsD (inT g s) 256 : List Int) : List Int) := ow354.grA g997 (fun _ _ h => by cases h) (fun k hk hs => ⟨(fun e => by injection e; omega), hs.1, hs.2.1, hs.2.2.1, hs.2.2.2.1, hs.2.2.2.2.1, hs.2.2.2.2.2.1, hs.2.2.2.2.2.2⟩)
         replace bx945 := bx945.gr g997 (by simp)
         replace ow926 : OwnR w993 (Sx (w253.heap.size) [some (w969.heap.size), obk (A_339), obk (A_286), obk (A_279), obk (A187)]) A917 c918 3 (xo ++ ([gI g.ow (gI (lsD (inT g s) 256 : List Int) k)]) : List Int) := ow926.grA g997 (fun _ _ h => by cases h) (fun k hk hs => ⟨(fun e => by injection e; omega), hs.1, hs.2.1, hs.2.2.1, hs.2.2.2.1, hs.2.2.2.2⟩)
         replace ow357 : OwnR w993 (Sx (w253.heap.size) [some (w969.heap.size), some (w489.heap.size), obk (A_339), obk (A_286), obk (A187), obk (A917)]) A_279 c_280 3 (xp : List Int) := ow357.grA g997 (fun _ _ h => by cases h) (fun k hk hs => ⟨(fun e => by injection e; omega), hs.1, hs.2.1, hs.2.2.1, hs.2.2.2.1, hs.2.2.2.2.1, hs.2.2.2.2.2⟩)
         replace ow503 : OwnLL w993 (w253.heap.size) [some (w969.heap.size), some (w489.heap.size), obk (A_339), obk (A187), obk (A917), obk (A_279)] A_286 c_287 22 3 (xm : List (List Int)) := ow503.grA g997 (fun _ _ h => by cases h) (fun k hk hs => ⟨(fun e => by injection e; omega), hs.1, hs.2.1, hs.2.2.1, hs.2.2.2.1, hs.2.2.2.2.1, hs.2.2.2.2.2⟩)
         replace r359 := r359.gr g997 (fun _ h => by cases h)
         replace ow360 : OwnR w993 (Sx (w290.heap.size) [some (w969.heap.size), some (w489.heap.size), obk (A187), obk (A917), obk (A_279), obk (A_286)]) A_339 c_340 3 (xl : List Int) := ow360.grA g997 (fun _ _ h => by cases h) (fun k hk hs => ⟨(fun e => by injection e; omega), hs.1, hs.2.1, hs.2.2.1, hs.2.2.2.1, hs.2.2.2.2.1, hs.2.2.2.2.2⟩)
         have bx999 : Bx w993 (w969.heap.size) [.int .i64 (gI g.pr (gI (lsD (inT g s) 256 : List Int) k))] 3 := Bx.new hw994
         have := bx999.lt
         clear g997 hw994
         refine AtH.all [8] 2 (by kernel_rfl) (by simp) ⟨?_, trivial⟩
         have hl1020 : (xp ++ ([gI g.pr (gI (lsD (inT g s) 256 : List Int) k)])).length = (xp).length + ([gI g.pr (gI (lsD (inT g s) 256 : List Int) k)] : List Int).length := List.length_append
         simp only [List.length_cons, List.length_nil] at hl1020
         refine OneH.act f995 #[true, true, true, true, true, true, true, true, true, false, false] (by kernel_rfl) (appendR (α := Int) (t := 22) (d := 88) (n := xp.length) (m := 1) (cc := 1) (xs := xp) (ys := [gI g.pr (gI (lsD (inT g s) 256 : List Int) k)]) (bytes := 8) (by first | rfl | omega | (simp; done) | (simp; omega)) (by first | rfl | omega | (simp; done) | (simp; omega)) (by kernel_rfl) rfl (by kernel_rfl) ow357 (Bx.srcR (l := ([gI g.pr (gI (lsD (inT g s) 256 : List Int) k)] : List Int)) bx999 rfl) (by simp only [List.length_cons, List.length_nil]; omega) (by simp only [List.length_cons, List.length_nil]; omega)) ?_
         rintro d_ v_ w1019 ⟨rfl, A1016, c1017, ha1018⟩
         obtain rfl := ha1018.val
         have g1021 := ha1018.gr
         have hS1024 := hS1000.grO g1021 (by rw [hCs966]; exact ⟨(fun e => by have := ow357.ge _ e; simp only [add_block] at this; omega), (fun e => by have := ow357.ge _ e; simp only [add_block] at this; omega), trivial⟩)
         refine ⟨_, rfl, fun act1023 f1022 => ⟨hS1024, ?_⟩⟩
         clear f995
         clear bx999
         have ow1025 := ha1018.own (Sx (w253.heap.size) [obk (A_339), obk (A_286), obk (A187), obk (A917)]) (fun g _ hs => ⟨hs.2.2.1, hs.2.2.2.1, hs.2.2.2.2.1, hs.2.2.2.2.2.1, hs.2.2.2.2.2.2⟩) ⟨ow360.ne_new, ow503.ne_new, ow354.ne_new, ow926.ne_new, (show w253.heap.size ≤ w993.heap.size by omega)⟩
         have szw1019 := g1021.size
         replace e345 := e345.gr g1021 (fun k hk => by have := ow357.ge k hk; omega)
         replace r348 := r348.gr g1021 (fun k hk => by have := ow357.ge k hk; omega)
         replace r349 := r349.gr g1021 (fun k hk => by have := ow357.ge k hk; omega)
         replace bx350 := bx350.gr g1021 (fun e => by have := ow357.ge _ e; omega)
         replace bx351 := bx351.gr g1021 (fun e => by have := ow357.ge _ e; omega)
         replace bx352 := bx352.gr g1021 (fun e => by have := ow357.ge _ e; omega)
         replace bx353 := bx353.gr g1021 (fun e => by have := ow357.ge _ e; omega)
         replace ow354 : OwnR w1019 (Sx (w172.heap.size) [some (w969.heap.size), some (w489.heap.size), obk (A_339), obk (A_286), obk (A1016), obk (A917), some (w208.heap.size)]) A187 c188 3 ((lsD (inT g s) 256 : List Int) : List Int) := ow354.grA g1021 (fun k hk => hk.2.2.2.2.1) (fun k hk hs => ⟨hs.1, hs.2.1, hs.2.2.1, hs.2.2.2.1, own_repl ha1018.at_ hs.2.2.2.2.1 hk, hs.2.2.2.2.2.1, hs.2.2.2.2.2.2.1, hs.2.2.2.2.2.2.2⟩)
         replace bx945 := bx945.gr g1021 (fun e => by have := ow357.ge _ e; omega)
         replace ow926 : OwnR w1019 (Sx (w253.heap.size) [some (w969.heap.size), obk (A_339), obk (A_286), obk (A1016), obk (A187)]) A917 c918 3 (xo ++ ([gI g.ow (gI (lsD (inT g s) 256 : List Int) k)]) : List Int) := ow926.grA g1021 (fun k hk => hk.2.2.2.1) (fun k hk hs => ⟨hs.1, hs.2.1, hs.2.2.1, own_repl ha1018.at_ hs.2.2.2.1 hk, hs.2.2.2.2.1, hs.2.2.2.2.2⟩)
         replace ow503 : OwnLL w1019 (w253.heap.size) [some (w969.heap.size), some (w489.heap.size), obk (A_339), obk (A187), obk (A917), obk (A1016)] A_286 c_287 22 3 (xm : List (List Int)) := ow503.grA g1021 (fun k hk => hk.2.2.2.2.2.1) (fun k hk hs => ⟨hs.1, hs.2.1, hs.2.2.1, hs.2.2.2.1, hs.2.2.2.2.1, own_repl ha1018.at_ hs.2.2.2.2.2.1 hk, hs.2.2.2.2.2.2⟩)
         replace r359 := r359.gr g1021 (fun k hk => by have := ow357.ge k hk; omega)
         replace ow360 : OwnR w1019 (Sx (w290.heap.size) [some (w969.heap.size), some (w489.heap.size), obk (A187), obk (A917), obk (A1016), obk (A_286)]) A_339 c_340 3 (xl : List Int) := ow360.grA g1021 (fun k hk => hk.2.2.2.2.1) (fun k hk hs => ⟨hs.1, hs.2.1, hs.2.2.1, hs.2.2.2.1, own_repl ha1018.at_ hs.2.2.2.2.1 hk, hs.2.2.2.2.2.1, hs.2.2.2.2.2.2⟩)
         clear ow357 g1021 ha1018
         refine AtH.rd (by kernel_rfl) (fun d v c a w h => by cases d <;> exact h) hS1024 [9] [[]] [(89, .pointer (some ⟨w208.heap.size, 1, none⟩))] #[true, true, true, true, true, true, true, true, true, true, false] [] 1 f1022 (by kernel_rfl) trivial (fun act1040 f1039 => ?_)
         clear f1022
         refine AtH.all [10] 0 (by kernel_rfl) (by simp) ⟨?_, trivial⟩
         refine OneH.store f1039 (t := 22) (b := w208.heap.size) (off := 1) (v := .slice A1016 ((xp ++ ([gI g.pr (gI (lsD (inT g s) 256 : List Int) k)])).length) c1017) #[true, true, true, true, true, true, true, true, true, true, true] (by kernel_rfl) (by kernel_rfl) bx945 (by kernel_rfl) (fun act1046 w1042 g1043 bx1044 f1045 => ?_)
         clear f1039
         replace bx1044 : Bx w1042 (w208.heap.size) [.slice A917 ((xo ++ ([gI g.ow (gI (lsD (inT g s) 256 : List Int) k)])).length) c918, .slice A1016 ((xp ++ ([gI g.pr (gI (lsD (inT g s) 256 : List Int) k)])).length) c1017, .slice A_286 xm.length c_287] 25 := bx1044
         have hS1041 := hS1024.gr' g1043 (by rw [hCs966]; exact ⟨(by simp only [add_block]; omega), (by simp only [add_block]; omega), trivial⟩)
         have szw1042 := g1043.size
         replace e345 := e345.gr g1043 (fun k h => by injection h; omega)
         replace r348 := r348.gr g1043 (fun k h => by injection h; omega)
         replace r349 := r349.gr g1043 (fun k h => by injection h; omega)
         replace bx350 := bx350.gr g1043 (fun h => by injection h; omega)
         replace bx351 := bx351.gr g1043 (fun h => by injection h; omega)
         replace bx352 := bx352.gr g1043 (fun h => by injection h; omega)
         replace bx353 := bx353.gr g1043 (fun h => by injection h; omega)
         replace ow354 := ow354.gr g1043 (fun k hk => hk.2.2.2.2.2.2.1)
         replace ow926 := ow926.gr g1043 (fun k hk e => by have := Sx_base hk; injection e; omega)
         replace ow1025 := ow1025.gr g1043 (fun k hk e => by have := Sx_base hk; injection e; omega)
         replace ow503 := ow503.gr g1043 (fun k hk e => by have := Sx_base hk; injection e; omega)
         replace r359 := r359.gr g1043 (fun k h => by injection h; omega)
         replace ow360 := ow360.gr g1043 (fun k hk e => by have := Sx_base hk; injection e; omega)
         clear bx945 g1043
         refine ⟨hS1041, ?_⟩
         refine AtH.done (by kernel_rfl) ?_
         clear hS1041
         refine t_n ?_
         refine At.start ?_
         refine At.rd f1045 3 [[], [.ld (.slice A_286 xm.length c_287)], []] [(92, .slice A_339 xl.length c_340), (91, .slice A_286 xm.length c_287), (90, .pointer (some ⟨w208.heap.size, 2, none⟩))] [(w1042.cell? ⟨w208.heap.size, 2, none⟩ = some (.slice A_286 xm.length c_287))] (by kernel_rfl) ⟨(bx1044.cell (i := 2) rfl), trivial⟩ (fun act1061 f1060 => ?_)
         clear f1045
         refine At.seq f1060 1 [[]] [(93, .slice (some ⟨w1042.heap.size, 0, none⟩) 1 1)] (w1042.alloc (.cells #[.slice A_339 xl.length c_340] 22 (0, 0))) [] (by kernel_rfl) trivial (fun act1065 w1062 hw1063 f1064 => ?_)
         clear f1060
         have g1066 := gr_alloc hw1063
         have szw1062 := g1066.size
         replace e345 := e345.gr g1066 no_row
         replace r348 := r348.gr g1066 (fun _ h => by cases h)
         replace r349 := r349.gr g1066 (fun _ h => by cases h)
         replace bx350 := bx350.gr g1066 (by simp)
         replace bx351 := bx351.gr g1066 (by simp)
         replace bx352 := bx352.gr g1066 (by simp)
         replace bx353 := bx353.gr g1066 (by simp)
         replace ow354 : OwnR w1062 (Sx (w172.heap.size) [some (w1042.heap.size), some (w969.heap.size), some (w489.heap.size), obk (A_339), obk (A_286), obk (A1016), obk (A917), some (w208.heap.size)]) A187 c188 3 ((lsD (inT g s) 256 : List Int) : List Int) := ow354.grA g1066 (fun _ _ h => by cases h) (fun k hk hs => ⟨(fun e => by injection e; omega), hs.1, hs.2.1, hs.2.2.1, hs.2.2.2.1, hs.2.2.2.2.1, hs.2.2.2.2.2.1, hs.2.2.2.2.2.2.1, hs.2.2.2.2.2.2.2⟩)
         replace bx1044 := bx1044.gr g1066 (by simp)
         replace ow926 : OwnR w1062 (Sx (w253.heap.size) [some (w1042.heap.size), some (w969.heap.size), obk (A_339), obk (A_286), obk (A1016), obk (A187)]) A917 c918 3 (xo ++ ([gI g.ow (gI (lsD (inT g s) 256 : List Int) k)]) : List Int) := ow926.grA g1066 (fun _ _ h => by cases h) (fun k hk hs => ⟨(fun e => by injection e; omega), hs.1, hs.2.1, hs.2.2.1, hs.2.2.2.1, hs.2.2.2.2.1, hs.2.2.2.2.2⟩)
         replace ow1025 : OwnR w1062 (Sx (w253.heap.size) [some (w1042.heap.size), obk (A_339), obk (A_286), obk (A187), obk (A917)]) A1016 c1017 3 (xp ++ ([gI g.pr (gI (lsD (inT g s) 256 : List Int) k)]) : List Int) := ow1025.grA g1066 (fun _ _ h => by cases h) (fun k hk hs => ⟨(fun e => by injection e; omega), hs.1, hs.2.1, hs.2.2.1, hs.2.2.2.1, hs.2.2.2.2⟩)
         replace ow503 : OwnLL w1062 (w253.heap.size) [some (w1042.heap.size), some (w969.heap.size), some (w489.heap.size), obk (A_339), obk (A187), obk (A917), obk (A1016)] A_286 c_287 22 3 (xm : List (List Int)) := ow503.grA g1066 (fun _ _ h => by cases h) (fun k hk hs => ⟨(fun e => by injection e; omega), hs.1, hs.2.1, hs.2.2.1, hs.2.2.2.1, hs.2.2.2.2.1, hs.2.2.2.2.2.1, hs.2.2.2.2.2.2⟩)
         replace r359 := r359.gr g1066 (fun _ h => by cases h)
         replace ow360 : OwnR w1062 (Sx (w290.heap.size) [some (w1042.heap.size), some (w969.heap.size), some (w489.heap.size), obk (A187), obk (A917), obk (A1016), obk (A_286)]) A_339 c_340 3 (xl : List Int) := ow360.grA g1066 (fun _ _ h => by cases h) (fun k hk hs => ⟨(fun e => by injection e; omega), hs.1, hs.2.1, hs.2.2.1, hs.2.2.2.1, hs.2.2.2.2.1, hs.2.2.2.2.2.1, hs.2.2.2.2.2.2⟩)
         have bx1068 : Bx w1062 (w1042.heap.size) [.slice A_339 xl.length c_340] 22 := Bx.new hw1063
         have := bx1068.lt
         clear g1066 hw1063
         have ow1083 : OwnR w1062 (Sx (w253.heap.size) [obk (A187), obk (A917), obk (A1016)]) A_339 c_340 3 (xl : List Int) := ow360.imp (fun g _ hs => ⟨hs.2.2.2.1, hs.2.2.2.2.1, hs.2.2.2.2.2.1, (by have := Sx_base hs; show w253.heap.size ≤ g; omega)⟩)
         have ow1084 : OwnLL w1062 (w253.heap.size) [obk (A_339), obk (A187), obk (A917), obk (A1016)] A_286 c_287 22 3 (xm : List (List Int)) := (ow503.imp (fun g _ hs => ⟨hs.2.2.2.1, hs.2.2.2.2.1, hs.2.2.2.2.2.1, hs.2.2.2.2.2.2.1, hs.2.2.2.2.2.2.2⟩))
         have hl1085 : (xm ++ [xl]).length = (xm).length + 1 := by simp
         refine At.act f1064 (appendLL (t := 23) (d := 94) (n := xm.length) (m := 1) (cc := 1) (ls := xm) (xs := xl) (bytes := 24) (by first | rfl | omega | (simp; done) | (simp; omega)) (by kernel_rfl) (by kernel_rfl) (bx1068.as (by first | rfl | (simp; done))) ow1084 ow1083 ⟨ow354.ne_new, ow926.ne_new, ow1025.ne_new, (show w253.heap.size ≤ w1062.heap.size by omega)⟩ (by omega) (by omega)) ?_
         rintro d_ v_ w1086 ⟨rfl, A1087, c1088, rfl, g1089, ha1090, ow1091⟩
         refine ⟨_, rfl, fun act1093 f1092 => ?_⟩
         clear f1064
         clear bx1068 ow360 ow1083 ow1084
         have szw1086 := g1089.size
         replace e345 := e345.gr g1089 (fun k hk => by have := ow503.ge k hk; omega)
         replace r348 := r348.gr g1089 (fun k hk => by have := ow503.ge k hk; omega)
         replace r349 := r349.gr g1089 (fun k hk => by have := ow503.ge k hk; omega)
         replace bx350 := bx350.gr g1089 (fun e => by have := ow503.ge _ e; omega)
         replace bx351 := bx351.gr g1089 (fun e => by have := ow503.ge _ e; omega)
         replace bx352 := bx352.gr g1089 (fun e => by have := ow503.ge _ e; omega)
         replace bx353 := bx353.gr g1089 (fun e => by have := ow503.ge _ e; omega)
         replace ow354 : OwnR w1086 (Sx (w172.heap.size) [some (w1042.heap.size), some (w969.heap.size), some (w489.heap.size), obk (A_339), obk (A1087), obk (A1016), obk (A917), some (w208.heap.size)]) A187 c188 3 ((lsD (inT g s) 256 : List Int) : List Int) := ow354.grA g1089 (fun k hk => hk.2.2.2.2.1) (fun k hk hs => ⟨hs.1, hs.2.1, hs.2.2.1, hs.2.2.2.1, own_repl ha1090 hs.2.2.2.2.1 hk, hs.2.2.2.2.2.1, hs.2.2.2.2.2.2.1, hs.2.2.2.2.2.2.2.1, hs.2.2.2.2.2.2.2.2⟩)
         replace bx1044 := bx1044.gr g1089 (fun e => by have := ow503.ge _ e; omega)
         replace ow926 : OwnR w1086 (Sx (w253.heap.size) [some (w1042.heap.size), some (w969.heap.size), obk (A_339), obk (A1087), obk (A1016), obk (A187)]) A917 c918 3 (xo ++ ([gI g.ow (gI (lsD (inT g s) 256 : List Int) k)]) : List Int) := ow926.grA g1089 (fun k hk => hk.2.2.2.1) (fun k hk hs => ⟨hs.1, hs.2.1, hs.2.2.1, own_repl ha1090 hs.2.2.2.1 hk, hs.2.2.2.2.1, hs.2.2.2.2.2.1, hs.2.2.2.2.2.2⟩)
         replace ow1025 : OwnR w1086 (Sx (w253.heap.size) [some (w1042.heap.size), obk (A_339), obk (A1087), obk (A187), obk (A917)]) A1016 c1017 3 (xp ++ ([gI g.pr (gI (lsD (inT g s) 256 : List Int) k)]) : List Int) := ow1025.grA g1089 (fun k hk => hk.2.2.1) (fun k hk hs => ⟨hs.1, hs.2.1, own_repl ha1090 hs.2.2.1 hk, hs.2.2.2.1, hs.2.2.2.2.1, hs.2.2.2.2.2⟩)
         replace r359 := r359.gr g1089 (fun k hk => by have := ow503.ge k hk; omega)
         clear ow503 g1089 ha1090
         refine At.rd f1092 1 [[]] [(95, .pointer (some ⟨w208.heap.size, 2, none⟩))] [] (by kernel_rfl) trivial (fun act1107 f1106 => ?_)
         clear f1092
         refine At.store f1106 (t := 23) (b := w208.heap.size) (off := 2) (v := .slice A1087 ((xm ++ [xl]).length) c1088) (by kernel_rfl) bx1044 (by kernel_rfl) (fun act1112 w1108 g1109 bx1110 f1111 => ?_)
         clear f1106
         replace bx1110 : Bx w1108 (w208.heap.size) [.slice A917 ((xo ++ ([gI g.ow (gI (lsD (inT g s) 256 : List Int) k)])).length) c918, .slice A1016 ((xp ++ ([gI g.pr (gI (lsD (inT g s) 256 : List Int) k)])).length) c1017, .slice A1087 ((xm ++ [xl]).length) c1088] 25 := bx1110
         have szw1108 := g1109.size
         replace e345 := e345.gr g1109 (fun k h => by injection h; omega)
         replace r348 := r348.gr g1109 (fun k h => by injection h; omega)
         replace r349 := r349.gr g1109 (fun k h => by injection h; omega)
         replace bx350 := bx350.gr g1109 (fun h => by injection h; omega)
         replace bx351 := bx351.gr g1109 (fun h => by injection h; omega)
         replace bx352 := bx352.gr g1109 (fun h => by injection h; omega)
         replace bx353 := bx353.gr g1109 (fun h => by injection h; omega)
         replace ow354 := ow354.gr g1109 (fun k hk => hk.2.2.2.2.2.2.2.1)
         replace ow926 := ow926.gr g1109 (fun k hk e => by have := Sx_base hk; injection e; omega)
         replace ow1025 := ow1025.gr g1109 (fun k hk e => by have := Sx_base hk; injection e; omega)
         replace r359 := r359.gr g1109 (fun k h => by injection h; omega)
         replace ow1091 := ow1091.gr g1109 (fun k hk e => by have := Sx_base hk; injection e; omega)
         clear bx1044 g1109
         refine At.done rfl ?_
         refine b_n ?_
         refine t_n ?_
         have f1125 := f1111.sub (r := [(42, .int .i64 (k)), (41, .int .i64 ((((lsD (inT g s) 256 : List Int).length : Nat) : Int))), (40, .slice A187 ((lsD (inT g s) 256 : List Int).length) c188), (11, .pointer (some ⟨w208.heap.size, 0, none⟩)), (8, .slice A187 ((lsD (inT g s) 256 : List Int).length) c188), (7, .pointer (some ⟨w163.heap.size, 0, none⟩)), (4, .pointer (some ⟨w11.heap.size, 0, none⟩)), (3, .pointer (some ⟨w1.heap.size, 0, none⟩)), (2, .pointer (some ⟨w.heap.size, 0, none⟩))]) ⟨rfl, rfl, rfl, rfl, rfl, rfl, rfl, rfl, rfl, trivial⟩
         clear f1111
         refine At.start ?_
         refine At.rd f1125 2 [[.as_ (.int .i64 (k + 1))], []] [(42, .int .i64 (k + 1)), (96, .int .i64 (k + 1))] [((.int .i64 (IntKind.i64.wrap (k + 1)) : Value) = .int .i64 (k + 1))] (by kernel_rfl) ⟨(w64 (by omega) (by omega)), trivial⟩ (fun act1127 f1126 => ?_)
         clear f1125
         refine At.done rfl ?_
         refine t_n ?_
         have f1128 := f1126.sub (r := [(42, .int .i64 (k + 1)), (41, .int .i64 ((((lsD (inT g s) 256 : List Int).length : Nat) : Int))), (40, .slice A187 ((lsD (inT g s) 256 : List Int).length) c188), (11, .pointer (some ⟨w208.heap.size, 0, none⟩)), (8, .slice A187 ((lsD (inT g s) 256 : List Int).length) c188), (7, .pointer (some ⟨w163.heap.size, 0, none⟩)), (4, .pointer (some ⟨w11.heap.size, 0, none⟩)), (3, .pointer (some ⟨w1.heap.size, 0, none⟩)), (2, .pointer (some ⟨w.heap.size, 0, none⟩))]) ⟨rfl, rfl, rfl, rfl, rfl, rfl, rfl, rfl, rfl, trivial⟩
         exact ⟨_, (by omega), (k + 1), (xo ++ ([gI g.ow (gI (lsD (inT g s) 256 : List Int) k)]) : List Int), A917, c918, (xp ++ ([gI g.pr (gI (lsD (inT g s) 256 : List Int) k)]) : List Int), A1016, c1017, (xm ++ [xl] : List (List Int)), A1087, c1088, rfl, f1128, e345, r348, r349, bx350, bx351, bx352, bx353, (ow354.imp (fun g _ hs => ⟨hs.2.2.2.2.1, hs.2.2.2.2.2.1, hs.2.2.2.2.2.2.1, hs.2.2.2.2.2.2.2.1, hs.2.2.2.2.2.2.2.2⟩)), bx1110, (ow926.imp (fun g _ hs => ⟨hs.2.2.2.1, hs.2.2.2.2.1, hs.2.2.2.2.2.1, hs.2.2.2.2.2.2⟩)), (ow1025.imp (fun g _ hs => ⟨hs.2.2.1, hs.2.2.2.1, hs.2.2.2.2.1, hs.2.2.2.2.2⟩)), ow1091, (by omega), (by omega), (map_push hxo (by omega) (by omega)), (map_push hxp (by omega) (by omega)), (by rw [hxe]; exact map_push hxm (by omega) (by omega)), (gone_next hgo (by rw [← hxe]; exact hne)), (by omega), (by omega)⟩
        ·refine OneH.seq f986 [[]] [(87, .slice (some ⟨w969.heap.size, 0, none⟩) 1 1)] (w969.alloc (.cells #[.int .i64 (gI g.pr (gI (lsD (inT g s) 256 : List Int) k))] 3 (0, 0))) [] #[true, false, true, true, true, true, true, true, false, false, false] (by kernel_rfl) (by kernel_rfl) (by kernel_rfl) trivial (fun act1133 w1130 hw1131 f1132 => ?_)
         clear f986
         have g1134 := gr_alloc hw1131
         have hS1137 := hS971.gr g1134
         refine ⟨hS1137, ?_⟩
         have szw1130 := g1134.size
         replace e345 := e345.gr g1134 no_row
         replace r348 := r348.gr g1134 (fun _ h => by cases h)
         replace r349 := r349.gr g1134 (fun _ h => by cases h)
         replace bx350 := bx350.gr g1134 (by simp)
         replace bx351 := bx351.gr g1134 (by simp)
         replace bx352 := bx352.gr g1134 (by simp)
         replace bx353 := bx353.gr g1134 (by simp)
         replace ow354 : OwnR w1130 (Sx (w172.heap.size) [some (w969.heap.size), some (w489.heap.size), obk (A_339), obk (A_286), obk (A_279), obk (A917), some (w208.heap.size)]) A187 c188 3 ((lsD (inT g s) 256 : List Int) : List Int) := ow354.grA g1134 (fun _ _ h => by cases h) (fun k hk hs => ⟨(fun e => by injection e; omega), hs.1, hs.2.1, hs.2.2.1, hs.2.2.2.1, hs.2.2.2.2.1, hs.2.2.2.2.2.1, hs.2.2.2.2.2.2⟩)
         replace bx945 := bx945.gr g1134 (by simp)
         replace ow926 : OwnR w1130 (Sx (w253.heap.size) [some (w969.heap.size), obk (A_339), obk (A_286), obk (A_279), obk (A187)]) A917 c918 3 (xo ++ ([gI g.ow (gI (lsD (inT g s) 256 : List Int) k)]) : List Int) := ow926.grA g1134 (fun _ _ h => by cases h) (fun k hk hs => ⟨(fun e => by injection e; omega), hs.1, hs.2.1, hs.2.2.1, hs.2.2.2.1, hs.2.2.2.2⟩)
         replace ow357 : OwnR w1130 (Sx (w253.heap.size) [some (w969.heap.size), some (w489.heap.size), obk (A_339), obk (A_286), obk (A187), obk (A917)]) A_279 c_280 3 (xp : List Int) := ow357.grA g1134 (fun _ _ h => by cases h) (fun k hk hs => ⟨(fun e => by injection e; omega), hs.1, hs.2.1, hs.2.2.1, hs.2.2.2.1, hs.2.2.2.2.1, hs.2.2.2.2.2⟩)
         replace ow503 : OwnLL w1130 (w253.heap.size) [some (w969.heap.size), some (w489.heap.size), obk (A_339), obk (A187), obk (A917), obk (A_279)] A_286 c_287 22 3 (xm : List (List Int)) := ow503.grA g1134 (fun _ _ h => by cases h) (fun k hk hs => ⟨(fun e => by injection e; omega), hs.1, hs.2.1, hs.2.2.1, hs.2.2.2.1, hs.2.2.2.2.1, hs.2.2.2.2.2⟩)
         replace r359 := r359.gr g1134 (fun _ h => by cases h)
         replace ow360 : OwnR w1130 (Sx (w290.heap.size) [some (w969.heap.size), some (w489.heap.size), obk (A187), obk (A917), obk (A_279), obk (A_286)]) A_339 c_340 3 (xl : List Int) := ow360.grA g1134 (fun _ _ h => by cases h) (fun k hk hs => ⟨(fun e => by injection e; omega), hs.1, hs.2.1, hs.2.2.1, hs.2.2.2.1, hs.2.2.2.2.1, hs.2.2.2.2.2⟩)
         have bx1136 : Bx w1130 (w969.heap.size) [.int .i64 (gI g.pr (gI (lsD (inT g s) 256 : List Int) k))] 3 := Bx.new hw1131
         have := bx1136.lt
         clear g1134 hw1131
         refine AtH.all [1] 3 (by kernel_rfl) (by simp) ⟨?_, trivial⟩
         refine OneH.seq f1132 [[.ld (.slice A_279 xp.length c_280)]] [(81, .slice A_279 xp.length c_280)] w1130 [(w1130.cell? ⟨w208.heap.size, 1, none⟩ = some (.slice A_279 xp.length c_280))] #[true, true, true, true, true, true, true, true, false, false, false] (by kernel_rfl) (by kernel_rfl) (by kernel_rfl) ⟨(bx945.cell (i := 1) rfl), trivial⟩ (fun act1153 w1154 hw1155 f1152 => ?_)
         obtain rfl : w1130 = w1154 := hw1155.symm
         clear f1132
         refine ⟨hS1137, ?_⟩
         refine AtH.all [8] 2 (by kernel_rfl) (by simp) ⟨?_, trivial⟩
         have hl1161 : (xp ++ ([gI g.pr (gI (lsD (inT g s) 256 : List Int) k)])).length = (xp).length + ([gI g.pr (gI (lsD (inT g s) 256 : List Int) k)] : List Int).length := List.length_append
         simp only [List.length_cons, List.length_nil] at hl1161
         refine OneH.act f1152 #[true, true, true, true, true, true, true, true, true, false, false] (by kernel_rfl) (appendR (α := Int) (t := 22) (d := 88) (n := xp.length) (m := 1) (cc := 1) (xs := xp) (ys := [gI g.pr (gI (lsD (inT g s) 256 : List Int) k)]) (bytes := 8) (by first | rfl | omega | (simp; done) | (simp; omega)) (by first | rfl | omega | (simp; done) | (simp; omega)) (by kernel_rfl) rfl (by kernel_rfl) ow357 (Bx.srcR (l := ([gI g.pr (gI (lsD (inT g s) 256 : List Int) k)] : List Int)) bx1136 rfl) (by simp only [List.length_cons, List.length_nil]; omega) (by simp only [List.length_cons, List.length_nil]; omega)) ?_
         rintro d_ v_ w1160 ⟨rfl, A1157, c1158, ha1159⟩
         obtain rfl := ha1159.val
         have g1162 := ha1159.gr
         have hS1165 := hS1137.grO g1162 (by rw [hCs966]; exact ⟨(fun e => by have := ow357.ge _ e; simp only [add_block] at this; omega), (fun e => by have := ow357.ge _ e; simp only [add_block] at this; omega), trivial⟩)
         refine ⟨_, rfl, fun act1164 f1163 => ⟨hS1165, ?_⟩⟩
         clear f1152
         clear bx1136
         have ow1166 := ha1159.own (Sx (w253.heap.size) [obk (A_339), obk (A_286), obk (A187), obk (A917)]) (fun g _ hs => ⟨hs.2.2.1, hs.2.2.2.1, hs.2.2.2.2.1, hs.2.2.2.2.2.1, hs.2.2.2.2.2.2⟩) ⟨ow360.ne_new, ow503.ne_new, ow354.ne_new, ow926.ne_new, (show w253.heap.size ≤ w1130.heap.size by omega)⟩
         have szw1160 := g1162.size
         replace e345 := e345.gr g1162 (fun k hk => by have := ow357.ge k hk; omega)
         replace r348 := r348.gr g1162 (fun k hk => by have := ow357.ge k hk; omega)
         replace r349 := r349.gr g1162 (fun k hk => by have := ow357.ge k hk; omega)
         replace bx350 := bx350.gr g1162 (fun e => by have := ow357.ge _ e; omega)
         replace bx351 := bx351.gr g1162 (fun e => by have := ow357.ge _ e; omega)
         replace bx352 := bx352.gr g1162 (fun e => by have := ow357.ge _ e; omega)
         replace bx353 := bx353.gr g1162 (fun e => by have := ow357.ge _ e; omega)
         replace ow354 : OwnR w1160 (Sx (w172.heap.size) [some (w969.heap.size), some (w489.heap.size), obk (A_339), obk (A_286), obk (A1157), obk (A917), some (w208.heap.size)]) A187 c188 3 ((lsD (inT g s) 256 : List Int) : List Int) := ow354.grA g1162 (fun k hk => hk.2.2.2.2.1) (fun k hk hs => ⟨hs.1, hs.2.1, hs.2.2.1, hs.2.2.2.1, own_repl ha1159.at_ hs.2.2.2.2.1 hk, hs.2.2.2.2.2.1, hs.2.2.2.2.2.2.1, hs.2.2.2.2.2.2.2⟩)
         replace bx945 := bx945.gr g1162 (fun e => by have := ow357.ge _ e; omega)
         replace ow926 : OwnR w1160 (Sx (w253.heap.size) [some (w969.heap.size), obk (A_339), obk (A_286), obk (A1157), obk (A187)]) A917 c918 3 (xo ++ ([gI g.ow (gI (lsD (inT g s) 256 : List Int) k)]) : List Int) := ow926.grA g1162 (fun k hk => hk.2.2.2.1) (fun k hk hs => ⟨hs.1, hs.2.1, hs.2.2.1, own_repl ha1159.at_ hs.2.2.2.1 hk, hs.2.2.2.2.1, hs.2.2.2.2.2⟩)
         replace ow503 : OwnLL w1160 (w253.heap.size) [some (w969.heap.size), some (w489.heap.size), obk (A_339), obk (A187), obk (A917), obk (A1157)] A_286 c_287 22 3 (xm : List (List Int)) := ow503.grA g1162 (fun k hk => hk.2.2.2.2.2.1) (fun k hk hs => ⟨hs.1, hs.2.1, hs.2.2.1, hs.2.2.2.1, hs.2.2.2.2.1, own_repl ha1159.at_ hs.2.2.2.2.2.1 hk, hs.2.2.2.2.2.2⟩)
         replace r359 := r359.gr g1162 (fun k hk => by have := ow357.ge k hk; omega)
         replace ow360 : OwnR w1160 (Sx (w290.heap.size) [some (w969.heap.size), some (w489.heap.size), obk (A187), obk (A917), obk (A1157), obk (A_286)]) A_339 c_340 3 (xl : List Int) := ow360.grA g1162 (fun k hk => hk.2.2.2.2.1) (fun k hk hs => ⟨hs.1, hs.2.1, hs.2.2.1, hs.2.2.2.1, own_repl ha1159.at_ hs.2.2.2.2.1 hk, hs.2.2.2.2.2.1, hs.2.2.2.2.2.2⟩)
         clear ow357 g1162 ha1159
         refine AtH.rd (by kernel_rfl) (fun d v c a w h => by cases d <;> exact h) hS1165 [9] [[]] [(89, .pointer (some ⟨w208.heap.size, 1, none⟩))] #[true, true, true, true, true, true, true, true, true, true, false] [] 1 f1163 (by kernel_rfl) trivial (fun act1181 f1180 => ?_)
         clear f1163
         refine AtH.all [10] 0 (by kernel_rfl) (by simp) ⟨?_, trivial⟩
         refine OneH.store f1180 (t := 22) (b := w208.heap.size) (off := 1) (v := .slice A1157 ((xp ++ ([gI g.pr (gI (lsD (inT g s) 256 : List Int) k)])).length) c1158) #[true, true, true, true, true, true, true, true, true, true, true] (by kernel_rfl) (by kernel_rfl) bx945 (by kernel_rfl) (fun act1187 w1183 g1184 bx1185 f1186 => ?_)
         clear f1180
         replace bx1185 : Bx w1183 (w208.heap.size) [.slice A917 ((xo ++ ([gI g.ow (gI (lsD (inT g s) 256 : List Int) k)])).length) c918, .slice A1157 ((xp ++ ([gI g.pr (gI (lsD (inT g s) 256 : List Int) k)])).length) c1158, .slice A_286 xm.length c_287] 25 := bx1185
         have hS1182 := hS1165.gr' g1184 (by rw [hCs966]; exact ⟨(by simp only [add_block]; omega), (by simp only [add_block]; omega), trivial⟩)
         have szw1183 := g1184.size
         replace e345 := e345.gr g1184 (fun k h => by injection h; omega)
         replace r348 := r348.gr g1184 (fun k h => by injection h; omega)
         replace r349 := r349.gr g1184 (fun k h => by injection h; omega)
         replace bx350 := bx350.gr g1184 (fun h => by injection h; omega)
         replace bx351 := bx351.gr g1184 (fun h => by injection h; omega)
         replace bx352 := bx352.gr g1184 (fun h => by injection h; omega)
         replace bx353 := bx353.gr g1184 (fun h => by injection h; omega)
         replace ow354 := ow354.gr g1184 (fun k hk => hk.2.2.2.2.2.2.1)
         replace ow926 := ow926.gr g1184 (fun k hk e => by have := Sx_base hk; injection e; omega)
         replace ow1166 := ow1166.gr g1184 (fun k hk e => by have := Sx_base hk; injection e; omega)
         replace ow503 := ow503.gr g1184 (fun k hk e => by have := Sx_base hk; injection e; omega)
         replace r359 := r359.gr g1184 (fun k h => by injection h; omega)
         replace ow360 := ow360.gr g1184 (fun k hk e => by have := Sx_base hk; injection e; omega)
         clear bx945 g1184
         refine ⟨hS1182, ?_⟩
         refine AtH.done (by kernel_rfl) ?_
         clear hS1182
         refine t_n ?_
         refine At.start ?_
         refine At.rd f1186 3 [[], [.ld (.slice A_286 xm.length c_287)], []] [(92, .slice A_339 xl.length c_340), (91, .slice A_286 xm.length c_287), (90, .pointer (some ⟨w208.heap.size, 2, none⟩))] [(w1183.cell? ⟨w208.heap.size, 2, none⟩ = some (.slice A_286 xm.length c_287))] (by kernel_rfl) ⟨(bx1185.cell (i := 2) rfl), trivial⟩ (fun act1202 f1201 => ?_)
         clear f1186
         refine At.seq f1201 1 [[]] [(93, .slice (some ⟨w1183.heap.size, 0, none⟩) 1 1)] (w1183.alloc (.cells #[.slice A_339 xl.length c_340] 22 (0, 0))) [] (by kernel_rfl) trivial (fun act1206 w1203 hw1204 f1205 => ?_)
         clear f1201
         have g1207 := gr_alloc hw1204
         have szw1203 := g1207.size
         replace e345 := e345.gr g1207 no_row
         replace r348 := r348.gr g1207 (fun _ h => by cases h)
         replace r349 := r349.gr g1207 (fun _ h => by cases h)
         replace bx350 := bx350.gr g1207 (by simp)
         replace bx351 := bx351.gr g1207 (by simp)
         replace bx352 := bx352.gr g1207 (by simp)
         replace bx353 := bx353.gr g1207 (by simp)
         replace ow354 : OwnR w1203 (Sx (w172.heap.size) [some (w1183.heap.size), some (w969.heap.size), some (w489.heap.size), obk (A_339), obk (A_286), obk (A1157), obk (A917), some (w208.heap.size)]) A187 c188 3 ((lsD (inT g s) 256 : List Int) : List Int) := ow354.grA g1207 (fun _ _ h => by cases h) (fun k hk hs => ⟨(fun e => by injection e; omega), hs.1, hs.2.1, hs.2.2.1, hs.2.2.2.1, hs.2.2.2.2.1, hs.2.2.2.2.2.1, hs.2.2.2.2.2.2.1, hs.2.2.2.2.2.2.2⟩)
         replace bx1185 := bx1185.gr g1207 (by simp)
         replace ow926 : OwnR w1203 (Sx (w253.heap.size) [some (w1183.heap.size), some (w969.heap.size), obk (A_339), obk (A_286), obk (A1157), obk (A187)]) A917 c918 3 (xo ++ ([gI g.ow (gI (lsD (inT g s) 256 : List Int) k)]) : List Int) := ow926.grA g1207 (fun _ _ h => by cases h) (fun k hk hs => ⟨(fun e => by injection e; omega), hs.1, hs.2.1, hs.2.2.1, hs.2.2.2.1, hs.2.2.2.2.1, hs.2.2.2.2.2⟩)
         replace ow1166 : OwnR w1203 (Sx (w253.heap.size) [some (w1183.heap.size), obk (A_339), obk (A_286), obk (A187), obk (A917)]) A1157 c1158 3 (xp ++ ([gI g.pr (gI (lsD (inT g s) 256 : List Int) k)]) : List Int) := ow1166.grA g1207 (fun _ _ h => by cases h) (fun k hk hs => ⟨(fun e => by injection e; omega), hs.1, hs.2.1, hs.2.2.1, hs.2.2.2.1, hs.2.2.2.2⟩)
         replace ow503 : OwnLL w1203 (w253.heap.size) [some (w1183.heap.size), some (w969.heap.size), some (w489.heap.size), obk (A_339), obk (A187), obk (A917), obk (A1157)] A_286 c_287 22 3 (xm : List (List Int)) := ow503.grA g1207 (fun _ _ h => by cases h) (fun k hk hs => ⟨(fun e => by injection e; omega), hs.1, hs.2.1, hs.2.2.1, hs.2.2.2.1, hs.2.2.2.2.1, hs.2.2.2.2.2.1, hs.2.2.2.2.2.2⟩)
         replace r359 := r359.gr g1207 (fun _ h => by cases h)
         replace ow360 : OwnR w1203 (Sx (w290.heap.size) [some (w1183.heap.size), some (w969.heap.size), some (w489.heap.size), obk (A187), obk (A917), obk (A1157), obk (A_286)]) A_339 c_340 3 (xl : List Int) := ow360.grA g1207 (fun _ _ h => by cases h) (fun k hk hs => ⟨(fun e => by injection e; omega), hs.1, hs.2.1, hs.2.2.1, hs.2.2.2.1, hs.2.2.2.2.1, hs.2.2.2.2.2.1, hs.2.2.2.2.2.2⟩)
         have bx1209 : Bx w1203 (w1183.heap.size) [.slice A_339 xl.length c_340] 22 := Bx.new hw1204
         have := bx1209.lt
         clear g1207 hw1204
         have ow1224 : OwnR w1203 (Sx (w253.heap.size) [obk (A187), obk (A917), obk (A1157)]) A_339 c_340 3 (xl : List Int) := ow360.imp (fun g _ hs => ⟨hs.2.2.2.1, hs.2.2.2.2.1, hs.2.2.2.2.2.1, (by have := Sx_base hs; show w253.heap.size ≤ g; omega)⟩)
         have ow1225 : OwnLL w1203 (w253.heap.size) [obk (A_339), obk (A187), obk (A917), obk (A1157)] A_286 c_287 22 3 (xm : List (List Int)) := (ow503.imp (fun g _ hs => ⟨hs.2.2.2.1, hs.2.2.2.2.1, hs.2.2.2.2.2.1, hs.2.2.2.2.2.2.1, hs.2.2.2.2.2.2.2⟩))
         have hl1226 : (xm ++ [xl]).length = (xm).length + 1 := by simp
         refine At.act f1205 (appendLL (t := 23) (d := 94) (n := xm.length) (m := 1) (cc := 1) (ls := xm) (xs := xl) (bytes := 24) (by first | rfl | omega | (simp; done) | (simp; omega)) (by kernel_rfl) (by kernel_rfl) (bx1209.as (by first | rfl | (simp; done))) ow1225 ow1224 ⟨ow354.ne_new, ow926.ne_new, ow1166.ne_new, (show w253.heap.size ≤ w1203.heap.size by omega)⟩ (by omega) (by omega)) ?_
         rintro d_ v_ w1227 ⟨rfl, A1228, c1229, rfl, g1230, ha1231, ow1232⟩
         refine ⟨_, rfl, fun act1234 f1233 => ?_⟩
         clear f1205
         clear bx1209 ow360 ow1224 ow1225
         have szw1227 := g1230.size
         replace e345 := e345.gr g1230 (fun k hk => by have := ow503.ge k hk; omega)
         replace r348 := r348.gr g1230 (fun k hk => by have := ow503.ge k hk; omega)
         replace r349 := r349.gr g1230 (fun k hk => by have := ow503.ge k hk; omega)
         replace bx350 := bx350.gr g1230 (fun e => by have := ow503.ge _ e; omega)
         replace bx351 := bx351.gr g1230 (fun e => by have := ow503.ge _ e; omega)
         replace bx352 := bx352.gr g1230 (fun e => by have := ow503.ge _ e; omega)
         replace bx353 := bx353.gr g1230 (fun e => by have := ow503.ge _ e; omega)
         replace ow354 : OwnR w1227 (Sx (w172.heap.size) [some (w1183.heap.size), some (w969.heap.size), some (w489.heap.size), obk (A_339), obk (A1228), obk (A1157), obk (A917), some (w208.heap.size)]) A187 c188 3 ((lsD (inT g s) 256 : List Int) : List Int) := ow354.grA g1230 (fun k hk => hk.2.2.2.2.1) (fun k hk hs => ⟨hs.1, hs.2.1, hs.2.2.1, hs.2.2.2.1, own_repl ha1231 hs.2.2.2.2.1 hk, hs.2.2.2.2.2.1, hs.2.2.2.2.2.2.1, hs.2.2.2.2.2.2.2.1, hs.2.2.2.2.2.2.2.2⟩)
         replace bx1185 := bx1185.gr g1230 (fun e => by have := ow503.ge _ e; omega)
         replace ow926 : OwnR w1227 (Sx (w253.heap.size) [some (w1183.heap.size), some (w969.heap.size), obk (A_339), obk (A1228), obk (A1157), obk (A187)]) A917 c918 3 (xo ++ ([gI g.ow (gI (lsD (inT g s) 256 : List Int) k)]) : List Int) := ow926.grA g1230 (fun k hk => hk.2.2.2.1) (fun k hk hs => ⟨hs.1, hs.2.1, hs.2.2.1, own_repl ha1231 hs.2.2.2.1 hk, hs.2.2.2.2.1, hs.2.2.2.2.2.1, hs.2.2.2.2.2.2⟩)
         replace ow1166 : OwnR w1227 (Sx (w253.heap.size) [some (w1183.heap.size), obk (A_339), obk (A1228), obk (A187), obk (A917)]) A1157 c1158 3 (xp ++ ([gI g.pr (gI (lsD (inT g s) 256 : List Int) k)]) : List Int) := ow1166.grA g1230 (fun k hk => hk.2.2.1) (fun k hk hs => ⟨hs.1, hs.2.1, own_repl ha1231 hs.2.2.1 hk, hs.2.2.2.1, hs.2.2.2.2.1, hs.2.2.2.2.2⟩)
         replace r359 := r359.gr g1230 (fun k hk => by have := ow503.ge k hk; omega)
         clear ow503 g1230 ha1231
         refine At.rd f1233 1 [[]] [(95, .pointer (some ⟨w208.heap.size, 2, none⟩))] [] (by kernel_rfl) trivial (fun act1248 f1247 => ?_)
         clear f1233
         refine At.store f1247 (t := 23) (b := w208.heap.size) (off := 2) (v := .slice A1228 ((xm ++ [xl]).length) c1229) (by kernel_rfl) bx1185 (by kernel_rfl) (fun act1253 w1249 g1250 bx1251 f1252 => ?_)
         clear f1247
         replace bx1251 : Bx w1249 (w208.heap.size) [.slice A917 ((xo ++ ([gI g.ow (gI (lsD (inT g s) 256 : List Int) k)])).length) c918, .slice A1157 ((xp ++ ([gI g.pr (gI (lsD (inT g s) 256 : List Int) k)])).length) c1158, .slice A1228 ((xm ++ [xl]).length) c1229] 25 := bx1251
         have szw1249 := g1250.size
         replace e345 := e345.gr g1250 (fun k h => by injection h; omega)
         replace r348 := r348.gr g1250 (fun k h => by injection h; omega)
         replace r349 := r349.gr g1250 (fun k h => by injection h; omega)
         replace bx350 := bx350.gr g1250 (fun h => by injection h; omega)
         replace bx351 := bx351.gr g1250 (fun h => by injection h; omega)
         replace bx352 := bx352.gr g1250 (fun h => by injection h; omega)
         replace bx353 := bx353.gr g1250 (fun h => by injection h; omega)
         replace ow354 := ow354.gr g1250 (fun k hk => hk.2.2.2.2.2.2.2.1)
         replace ow926 := ow926.gr g1250 (fun k hk e => by have := Sx_base hk; injection e; omega)
         replace ow1166 := ow1166.gr g1250 (fun k hk e => by have := Sx_base hk; injection e; omega)
         replace r359 := r359.gr g1250 (fun k h => by injection h; omega)
         replace ow1232 := ow1232.gr g1250 (fun k hk e => by have := Sx_base hk; injection e; omega)
         clear bx1185 g1250
         refine At.done rfl ?_
         refine b_n ?_
         refine t_n ?_
         have f1266 := f1252.sub (r := [(42, .int .i64 (k)), (41, .int .i64 ((((lsD (inT g s) 256 : List Int).length : Nat) : Int))), (40, .slice A187 ((lsD (inT g s) 256 : List Int).length) c188), (11, .pointer (some ⟨w208.heap.size, 0, none⟩)), (8, .slice A187 ((lsD (inT g s) 256 : List Int).length) c188), (7, .pointer (some ⟨w163.heap.size, 0, none⟩)), (4, .pointer (some ⟨w11.heap.size, 0, none⟩)), (3, .pointer (some ⟨w1.heap.size, 0, none⟩)), (2, .pointer (some ⟨w.heap.size, 0, none⟩))]) ⟨rfl, rfl, rfl, rfl, rfl, rfl, rfl, rfl, rfl, trivial⟩
         clear f1252
         refine At.start ?_
         refine At.rd f1266 2 [[.as_ (.int .i64 (k + 1))], []] [(42, .int .i64 (k + 1)), (96, .int .i64 (k + 1))] [((.int .i64 (IntKind.i64.wrap (k + 1)) : Value) = .int .i64 (k + 1))] (by kernel_rfl) ⟨(w64 (by omega) (by omega)), trivial⟩ (fun act1268 f1267 => ?_)
         clear f1266
         refine At.done rfl ?_
         refine t_n ?_
         have f1269 := f1267.sub (r := [(42, .int .i64 (k + 1)), (41, .int .i64 ((((lsD (inT g s) 256 : List Int).length : Nat) : Int))), (40, .slice A187 ((lsD (inT g s) 256 : List Int).length) c188), (11, .pointer (some ⟨w208.heap.size, 0, none⟩)), (8, .slice A187 ((lsD (inT g s) 256 : List Int).length) c188), (7, .pointer (some ⟨w163.heap.size, 0, none⟩)), (4, .pointer (some ⟨w11.heap.size, 0, none⟩)), (3, .pointer (some ⟨w1.heap.size, 0, none⟩)), (2, .pointer (some ⟨w.heap.size, 0, none⟩))]) ⟨rfl, rfl, rfl, rfl, rfl, rfl, rfl, rfl, rfl, trivial⟩
         exact ⟨_, (by omega), (k + 1), (xo ++ ([gI g.ow (gI (lsD (inT g s) 256 : List Int) k)]) : List Int), A917, c918, (xp ++ ([gI g.pr (gI (lsD (inT g s) 256 : List Int) k)]) : List Int), A1157, c1158, (xm ++ [xl] : List (List Int)), A1228, c1229, rfl, f1269, e345, r348, r349, bx350, bx351, bx352, bx353, (ow354.imp (fun g _ hs => ⟨hs.2.2.2.2.1, hs.2.2.2.2.2.1, hs.2.2.2.2.2.2.1, hs.2.2.2.2.2.2.2.1, hs.2.2.2.2.2.2.2.2⟩)), bx1251, (ow926.imp (fun g _ hs => ⟨hs.2.2.2.1, hs.2.2.2.2.1, hs.2.2.2.2.2.1, hs.2.2.2.2.2.2⟩)), (ow1166.imp (fun g _ hs => ⟨hs.2.2.1, hs.2.2.2.1, hs.2.2.2.2.1, hs.2.2.2.2.2⟩)), ow1232, (by omega), (by omega), (map_push hxo (by omega) (by omega)), (map_push hxp (by omega) (by omega)), (by rw [hxe]; exact map_push hxm (by omega) (by omega)), (gone_next hgo (by rw [← hxe]; exact hne)), (by omega), (by omega)⟩
    ·have q1270 := of_decide_eq_false h311
     refine wp_exit ?_
     refine t_e ?_
     refine t_e ?_
     refine b_e ?_
     refine t_n ?_
     refine wp_seq ?_
     refine At.start ?_
     refine At.rd f309 5 [[.ld (.slice A_273 xo.length c_274), .ld (.slice A_279 xp.length c_280), .ld (.slice A_286 xm.length c_287)], [], [], [], []] [(101, .bool (decide (((((lsD (inT g s) 256 : List Int).length : Nat) : Int) : Int) > 0))), (100, .int .i64 ((((lsD (inT g s) 256 : List Int).length : Nat) : Int))), (99, .slice A187 ((lsD (inT g s) 256 : List Int).length) c188), (98, .slice A187 ((lsD (inT g s) 256 : List Int).length) c188), (97, .agg #[.slice A_273 xo.length c_274, .slice A_279 xp.length c_280, .slice A_286 xm.length c_287])] [(w290.cell? ⟨w208.heap.size, 0, none⟩ = some (.slice A_273 xo.length c_274)), (w290.cell? ⟨w208.heap.size, 1, none⟩ = some (.slice A_279 xp.length c_280)), (w290.cell? ⟨w208.heap.size, 2, none⟩ = some (.slice A_286 xm.length c_287))] (by kernel_rfl) ⟨(bx301.cell (i := 0) rfl), (bx301.cell (i := 1) rfl), (bx301.cell (i := 2) rfl), trivial⟩ (fun act1272 f1271 => ?_)
     clear f309
     refine At.store f1271 (t := 25) (b := w11.heap.size) (off := 0) (v := .agg #[.slice A_273 xo.length c_274, .slice A_279 xp.length c_280, .slice A_286 xm.length c_287]) (by kernel_rfl) bx298 (by kernel_rfl) (fun act1277 w1273 g1274 bx1275 f1276 => ?_)
     clear f1271
     replace bx1275 : Bx w1273 (w11.heap.size) [.slice A_273 xo.length c_274, .slice A_279 xp.length c_280, .slice A_286 xm.length c_287] 25 := bx1275
     have szw1273 := g1274.size
     replace e291 := e291.gr g1274 (fun k h => by injection h; omega)
     replace r294 := r294.gr g1274 (fun k h => by injection h; omega)
     replace r295 := r295.gr g1274 (fun k h => by injection h; omega)
     replace bx296 := bx296.gr g1274 (fun h => by injection h; omega)
     replace bx297 := bx297.gr g1274 (fun h => by injection h; omega)
     replace bx299 := bx299.gr g1274 (fun h => by injection h; omega)
     replace ow300 := ow300.gr g1274 (fun k hk e => by have := Sx_base hk; injection e; omega)
     replace bx301 := bx301.gr g1274 (fun h => by injection h; omega)
     replace ow302 := ow302.gr g1274 (fun k hk e => by have := Sx_base hk; injection e; omega)
     replace ow303 := ow303.gr g1274 (fun k hk e => by have := Sx_base hk; injection e; omega)
     have ow1288 := r304.gr g1274 (fun k hk e => by have := Sx_base hk; injection e; omega)
     clear r304
     clear bx298 g1274
     refine At.rd f1276 2 [[], []] [(6, .bool (decide (((((lsD (inT g s) 256 : List Int).length : Nat) : Int) : Int) > 0))), (5, .slice A187 ((lsD (inT g s) 256 : List Int).length) c188)] [] (by kernel_rfl) trivial (fun act1290 f1289 => ?_)
     clear f1276
     refine At.done rfl ?_
     refine t_n ?_
     refine wp_ret ?_
     refine ret_ f1289 [[.slice A_273 xo.length c_274, .slice A_279 xp.length c_280, .slice A_286 xm.length c_287]] [.agg #[.slice A_273 xo.length c_274, .slice A_279 xp.length c_280, .slice A_286 xm.length c_287], .slice A187 ((lsD (inT g s) 256 : List Int).length) c188, .bool (decide (((((lsD (inT g s) 256 : List Int).length : Nat) : Int) : Int) > 0))] [(w1273.cell? ⟨w11.heap.size, 0, none⟩ = some (.slice A_273 xo.length c_274)), (w1273.cell? ⟨w11.heap.size, 1, none⟩ = some (.slice A_279 xp.length c_280)), (w1273.cell? ⟨w11.heap.size, 2, none⟩ = some (.slice A_286 xm.length c_287))] (by kernel_rfl) ⟨(bx1275.cell (i := 0) rfl), (bx1275.cell (i := 1) rfl), (bx1275.cell (i := 2) rfl), trivial⟩ ?_
     obtain ⟨e1_, e2_, e3_⟩ := sub_yes hR (gone_all hgo (by omega))
     rw [e1_, e2_, e3_, ← map_all hxo (by omega), ← map_all hxp (by omega), ← map_all hxm (by omega)]
     exact ⟨A_273, c_274, A_279, c_280, A_286, c_287, A187, c188, rfl, e291, (ow302.imp (fun g _ hs => ⟨hs.2.1, hs.1, hs.2.2.1, (by have := Sx_base hs; show w.heap.size ≤ g; omega)⟩)), (ow303.imp (fun g _ hs => ⟨hs.2.2.1, hs.1, hs.2.1, (by have := Sx_base hs; show w.heap.size ≤ g; omega)⟩)), (ow1288.imp (fun g _ hs => ⟨hs.2.1, hs.2.2.1, hs.1, (by have := Sx_base hs; show w.heap.size ≤ g; omega)⟩)), (ow300.imp (fun g _ hs => ⟨hs.2.2.1, hs.2.1, hs.1, (by have := Sx_base hs; show w.heap.size ≤ g; omega)⟩))⟩

end Go.Proofs.YtkkophhnliplhaaDoor
