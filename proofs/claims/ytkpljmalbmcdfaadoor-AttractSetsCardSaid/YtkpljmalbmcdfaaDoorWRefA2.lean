/-
  A walk of a Go function, printed by a program of this repo. Conditions: what the theorems name.
-/
import Derived.Test.YtkpljmalbmcdfaaDoorWRefA
set_option linter.unusedVariables false
set_option linter.unusedSimpArgs false
namespace Go.Proofs.YtkpljmalbmcdfaaDoor
open Go Go.RowKit

attribute [local irreducible] ofZ fromW wordsD ofD ofW lsD lenW lenN fullW withW lessW hasW hasD inW inD leastD putD onI tzI orS andS minusS orD andD minusD fullD emptyD
set_option maxHeartbeats 4000000 in
theorem attractR_any {Ag0 Ag1 Ag2 : Option Addr} {cg0 cg1 cg2 : Nat} {g : GameL} {Ai : Option Addr} {ci : Nat} {li : List Bool} {Au : Option Addr} {cu : Nat} {lu : List Bool} {p : Int} {w : World} (rg : RdG w 0 w.heap.size Ag0 Ag1 Ag2 cg0 cg1 cg2 g) (ri : RdR w 0 w.heap.size Ai li) (ru : RdR w 0 w.heap.size Au lu) (hR : isR g = true) (hli : li.length = g.ow.length) (hlu : lu.length = g.ow.length) :
    Calls Tryd.prog 14 #[.agg #[.slice Ag0 g.ow.length cg0, .slice Ag1 g.pr.length cg1, .slice Ag2 g.mv.length cg2], .slice Ai li.length ci, .int .i64 (p), .slice Au lu.length cu] w fun e w' => ∃ A c wa, e = .returned (.slice A (wa : List Bool).length c) ∧ Ext w w' ∧ OwnR w' (Sx w.heap.size []) A c 4 wa ∧ wa.length = g.ow.length ∧ AttrT g li p lu wa := by
 have hlg0 := rg.ow.len
 have hlg1 := rg.pr.len
 have hlg2 := rg.mv.len
 have hkg0 := rg.k0
 have hkg1 := rg.k1
 have hkg2 := rg.k2
 have hG := isR_ok hR
 have hn1 := hG.n1
 have hpl := hG.pl
 have hml := hG.ml
 refine enter_ (args := [.agg #[.slice Ag0 g.ow.length cg0, .slice Ag1 g.pr.length cg1, .slice Ag2 g.mv.length cg2], .slice Ai li.length ci, .int .i64 (p), .slice Au lu.length cu]) Tryd.func14 rfl Tryd.ntmps14 (Nat.le_of_ble_eq_true rfl) (fun act0 f0 => ?_)
 have e0 := Ext.refl w
 refine wp_seq ?_
 refine At.start ?_
 refine At.seq f0 1 [[]] [(4, .pointer (some ⟨w.heap.size, 0, none⟩))] (w.alloc (.cells #[.slice Ag0 g.ow.length cg0, .slice Ag1 g.pr.length cg1, .slice Ag2 g.mv.length cg2] 25 (0, 0))) [] (by kernel_rfl) trivial (fun act4 w1 hw2 f3 => ?_)
 clear f0
 have g5 := gr_alloc hw2
 have szw1 := g5.size
 replace e0 := e0.gr g5 no_row
 have r8 := rg.gr g5 (fun _ h => by cases h)
 clear rg
 have r9 := ri.gr g5 (fun _ h => by cases h)
 clear ri
 have r10 := ru.gr g5 (fun _ h => by cases h)
 clear ru
 have bx11 : Bx w1 (w.heap.size) [.slice Ag0 g.ow.length cg0, .slice Ag1 g.pr.length cg1, .slice Ag2 g.mv.length cg2] 25 := Bx.new hw2
 have := bx11.lt
 clear g5 hw2
 refine At.rd f3 1 [[]] [(8, .slice none 0 0)] [] (by kernel_rfl) trivial (fun act13 f12 => ?_)
 clear f3
 refine At.done rfl ?_
 refine t_n ?_
 refine wp_seq ?_
 refine At.start ?_
 refine At.rd f12 4 [[], [.ld (.slice Ag0 g.ow.length cg0)], [], []] [(9, .int .i64 (((g.ow.length : Nat) : Int))), (17, .int .i64 (((g.ow.length : Nat) : Int))), (16, .slice Ag0 g.ow.length cg0), (15, .pointer (some ⟨w.heap.size, 0, none⟩))] [(w1.cell? ⟨w.heap.size, 0, none⟩ = some (.slice Ag0 g.ow.length cg0))] (by kernel_rfl) ⟨(bx11.cell (i := 0) rfl), trivial⟩ (fun act15 f14 => ?_)
 clear f12
 refine At.done rfl ?_
 refine t_n ?_
 refine wp_seq ?_
 refine At.start ?_
 refine At.rd f14 1 [[]] [(18, .int .i64 (((g.ow.length : Nat) : Int)))] [] (by kernel_rfl) trivial (fun act17 f16 => ?_)
 clear f14
 refine At.act f16 (makeR (k1 := .i64) (k2 := .i64) (α := Bool) (e := 4) (bytes := 1) (t := 34) (d := 19) (n := ((g.ow.length : Nat) : Int)) (cap := ((g.ow.length : Nat) : Int)) (false) (by kernel_rfl) rfl (by kernel_rfl) (by omega) (by omega) (by omega) (by omega)) ?_
 rintro d_ v_ w18 ⟨rfl, rfl, g19, hO20⟩
 refine ⟨_, rfl, fun act24 f23 => ?_⟩
 clear f16
 replace hO20 := hO20 (Sx (w1.heap.size) []) (Nat.le_refl _)
 have szw18 := g19.size
 replace e0 := e0.gr g19 no_row
 replace r8 := r8.gr g19 (fun _ h => by cases h)
 replace r9 := r9.gr g19 (fun _ h => by cases h)
 replace r10 := r10.gr g19 (fun _ h => by cases h)
 replace bx11 := bx11.gr g19 (by simp)
 clear g19
 have : (List.replicate (((g.ow.length : Nat) : Int) : Int).toNat (false : Bool)).length = (((g.ow.length : Nat) : Int) : Int).toNat := List.length_replicate
 refine At.rd f23 1 [[]] [(10, .slice (some ⟨w1.heap.size, 0, none⟩) ((List.replicate (((g.ow.length : Nat) : Int) : Int).toNat (false : Bool)).length) ((((g.ow.length : Nat) : Int) : Int).toNat))] [] (by kernel_rfl) trivial (fun act31 f30 => ?_)
 clear f23
 refine At.done rfl ?_
 refine t_n ?_
 refine wp_seq ?_
 refine wp_seq ?_
 refine At.start ?_
 refine At.rd f30 1 [[]] [(11, .int .i64 (0))] [] (by kernel_rfl) trivial (fun act33 f32 => ?_)
 clear f30
 refine At.done rfl ?_
 refine t_n ?_
 refine wp_block ?_
 have f37 := f32.as 10 (.slice (some ⟨w1.heap.size, 0, none⟩) ((List.replicate (((g.ow.length : Nat) : Int) : Int).toNat (false : Bool)).length) ((((g.ow.length : Nat) : Int) : Int).toNat)) (.slice (some ⟨w1.heap.size, 0, none⟩) ((List.replicate (((g.ow.length : Nat) : Int) : Int).toNat (false : Bool) : List Bool).length) ((((g.ow.length : Nat) : Int) : Int).toNat)) rfl (slice_len (by first | rfl | omega | (simp; done) | (simp; omega)))
 clear f32
 have f36 := f37.sub (r := [(11, .int .i64 (0)), (10, .slice (some ⟨w1.heap.size, 0, none⟩) ((List.replicate (((g.ow.length : Nat) : Int) : Int).toNat (false : Bool) : List Bool).length) ((((g.ow.length : Nat) : Int) : Int).toNat)), (9, .int .i64 (((g.ow.length : Nat) : Int))), (8, .slice none 0 0), (4, .pointer (some ⟨w.heap.size, 0, none⟩)), (1, .slice Ai li.length ci), (2, .int .i64 (p)), (3, .slice Au lu.length cu)]) ⟨rfl, rfl, rfl, rfl, rfl, rfl, rfl, rfl, trivial⟩
 refine loop_g (fun (m_ : Nat) a_ w_ => ∃ (k : Int) (aa : List Bool) (A_34 : Option Addr) (c_35 : Nat), m_ = ((g.ow.length : Int) - k).toNat ∧ (Frm 76 a_ [(11, .int .i64 (k)), (10, .slice A_34 aa.length c_35), (9, .int .i64 (((g.ow.length : Nat) : Int))), (8, .slice none 0 0), (4, .pointer (some ⟨w.heap.size, 0, none⟩)), (1, .slice Ai li.length ci), (2, .int .i64 (p)), (3, .slice Au lu.length cu)]) ∧ (Ext w w_) ∧ (RdG w_ 0 w.heap.size Ag0 Ag1 Ag2 cg0 cg1 cg2 g) ∧ (RdR w_ 0 w.heap.size Ai (li : List Bool)) ∧ (RdR w_ 0 w.heap.size Au (lu : List Bool)) ∧ (Bx w_ (w.heap.size) [.slice Ag0 g.ow.length cg0, .slice Ag1 g.pr.length cg1, .slice Ag2 g.mv.length cg2] 25) ∧ (OwnR w_ (Sx (w1.heap.size) []) A_34 c_35 4 (aa : List Bool)) ∧ (0 ≤ k) ∧ (k ≤ (g.ow.length : Int)) ∧ (AndT g li lu aa k) ∧ (aa.length = g.ow.length) ∧ (w1.heap.size ≤ w_.heap.size)) _ ⟨0, (List.replicate (((g.ow.length : Nat) : Int) : Int).toNat (false : Bool) : List Bool), some ⟨w1.heap.size, 0, none⟩, (((g.ow.length : Nat) : Int) : Int).toNat, rfl, f36, e0, r8, r9, r10, bx11, hO20, (by omega), (by omega), and_0, List.length_replicate, (by omega)⟩ ?_
 clear f36 f37
 clear r8
 clear r9
 clear r10
 clear bx11
 clear hO20
 clear e0
 intro m_ act38 w39 ⟨k, aa, A_34, c_35, hm41, f42, e40, r43, r44, r45, bx46, ow47, i48, i49, hxa, i50, i51⟩
 have szw39 := e40.size
 have := bx46.lt
 refine wp_seq ?_
 refine wp_seq ?_
 refine At.start ?_
 refine At.rd f42 3 [[], [], []] [(22, .bool (decide ((k : Int) < ((g.ow.length : Nat) : Int)))), (21, .int .i64 (((g.ow.length : Nat) : Int))), (20, .int .i64 (k))] [] (by kernel_rfl) trivial (fun act53 f52 => ?_)
 clear f42
 refine At.done rfl ?_
 refine t_n ?_
 refine cond_S f52 (t := decide ((k : Int) < ((g.ow.length : Nat) : Int))) rfl (fun h54 => ?_) (fun h54 => ?_)
 ·have q55 := of_decide_eq_true h54
  refine wp_skip ?_
  refine t_n ?_
  refine wp_seq ?_
  refine wp_block ?_
  refine At.start ?_
  obtain ⟨ad56, hA57, hb60, hc59, hc58⟩ := r44.get (k) (by omega) (by omega) (sz := 1) rfl
  rcases Bool.eq_false_or_eq_true (gB li k) with h61 | h61
  ·obtain ⟨ad63, hA64, hb67, hc66, hc65⟩ := r45.get (k) (by omega) (by omega) (sz := 1) rfl
   obtain ⟨ad68, hA69, hb72, hc71, hc70⟩ := ow47.get (k) (by omega) (by omega) (sz := 1) rfl
   refine At.rd f52 13 [[], [], [], [], [.ad ad56], [.ld (.bool (gB li k))], [.as_ (.bool true)], [], [], [.ad ad63], [.ld (.bool (gB lu k))], [], [.ad ad68]] [(37, .pointer (some (ad68.add ((k : Int).toNat * 1)))), (36, .bool (gB lu k)), (35, .bool (gB lu k)), (34, .pointer (some (ad63.add ((k : Int).toNat * 1)))), (33, .int .i64 (k)), (32, .slice Au lu.length cu), (31, .bool true), (30, .bool (gB li k)), (29, .pointer (some (ad56.add ((k : Int).toNat * 1)))), (28, .int .i64 (k)), (27, .slice Ai li.length ci), (26, .int .i64 (k)), (25, .slice A_34 aa.length c_35)] [(Ai = some ad56), (0 ≤ (k : Int)), ((k : Int) < (li.length : Nat)), (w39.cell? (ad56.add ((k : Int).toNat * 1)) = some (.bool (gB li k))), ((.bool (gB li k) : Value) = .bool true), (Au = some ad63), (0 ≤ (k : Int)), ((k : Int) < (lu.length : Nat)), (w39.cell? (ad63.add ((k : Int).toNat * 1)) = some (.bool (gB lu k))), (A_34 = some ad68), (0 ≤ (k : Int)), ((k : Int) < (aa.length : Nat))] (by kernel_rfl) ⟨hA57, (by omega), (by omega), hc59, (congrArg Value.bool h61), hA64, (by omega), (by omega), hc66, hA69, (by omega), (by omega), trivial⟩ (fun act74 f73 => ?_)
   clear f52
   refine At.act f73 (storeR (α := Bool) (t := 4) (i := k) (ad := ad68) (v := .bool (gB lu k)) (gB lu k) (by kernel_rfl) rfl rfl (by kernel_rfl) hA69 ow47 (by omega) (by omega)) ?_
   rintro d_ v_ w75 ⟨rfl, g76, ow77⟩
   refine ⟨_, rfl, fun act80 f79 => ?_⟩
   clear f73
   have hl78 : ((aa).set (k : Int).toNat (gB lu k)).length = (aa).length := List.length_set
   have szw75 := g76.size
   replace e40 := e40.gr g76 (fun k hk => by have := ow47.ge k hk; omega)
   replace r43 := r43.gr g76 (fun k hk => by have := ow47.ge k hk; omega)
   replace r44 := r44.gr g76 (fun k hk => by have := ow47.ge k hk; omega)
   replace r45 := r45.gr g76 (fun k hk => by have := ow47.ge k hk; omega)
   replace bx46 := bx46.gr g76 (fun e => by have := ow47.ge _ e; omega)
   clear ow47 g76
   refine At.done rfl ?_
   refine b_n ?_
   refine t_n ?_
   refine At.start ?_
   refine At.rd f79 3 [[], [.as_ (.int .i64 (k + 1))], []] [(11, .int .i64 (k + 1)), (24, .int .i64 (k + 1)), (23, .int .i64 (k))] [((.int .i64 (IntKind.i64.wrap (k + 1)) : Value) = .int .i64 (k + 1))] (by kernel_rfl) ⟨(w64 (by omega) (by omega)), trivial⟩ (fun act87 f86 => ?_)
   clear f79
   refine At.done rfl ?_
   refine t_n ?_
   have f88 := f86.as 10 (.slice A_34 aa.length c_35) (.slice A_34 (((aa).set (k : Int).toNat (gB lu k) : List Bool).length) c_35) rfl (slice_len (by first | rfl | omega | (simp; done) | (simp; omega)))
   clear f86
   have f89 := f88.sub (r := [(11, .int .i64 (k + 1)), (10, .slice A_34 (((aa).set (k : Int).toNat (gB lu k) : List Bool).length) c_35), (9, .int .i64 (((g.ow.length : Nat) : Int))), (8, .slice none 0 0), (4, .pointer (some ⟨w.heap.size, 0, none⟩)), (1, .slice Ai li.length ci), (2, .int .i64 (p)), (3, .slice Au lu.length cu)]) ⟨rfl, rfl, rfl, rfl, rfl, rfl, rfl, rfl, trivial⟩
   exact ⟨_, (by omega), (k + 1), ((aa).set (k : Int).toNat (gB lu k) : List Bool), A_34, c_35, rfl, f89, e40, r43, r44, r45, bx46, ow77, (by omega), (by omega), (and_next hxa (by omega) (by omega) (by simp_all)), (by rw [List.length_set]; assumption), (by omega)⟩
  ·obtain ⟨ad91, hA92, hb95, hc94, hc93⟩ := ow47.get (k) (by omega) (by omega) (sz := 1) rfl
   refine At.rd f52 13 [[], [], [], [], [.ad ad56], [.ld (.bool (gB li k))], [.as_ (.bool false)], [], [], [], [], [], [.ad ad91]] [(37, .pointer (some (ad91.add ((k : Int).toNat * 1)))), (36, .bool false), (35, undef), (34, undef), (33, undef), (32, undef), (31, .bool false), (30, .bool (gB li k)), (29, .pointer (some (ad56.add ((k : Int).toNat * 1)))), (28, .int .i64 (k)), (27, .slice Ai li.length ci), (26, .int .i64 (k)), (25, .slice A_34 aa.length c_35)] [(Ai = some ad56), (0 ≤ (k : Int)), ((k : Int) < (li.length : Nat)), (w39.cell? (ad56.add ((k : Int).toNat * 1)) = some (.bool (gB li k))), ((.bool (gB li k) : Value) = .bool false), (A_34 = some ad91), (0 ≤ (k : Int)), ((k : Int) < (aa.length : Nat))] (by kernel_rfl) ⟨hA57, (by omega), (by omega), hc59, (congrArg Value.bool h61), hA92, (by omega), (by omega), trivial⟩ (fun act97 f96 => ?_)
   clear f52
   refine At.act f96 (storeR (α := Bool) (t := 4) (i := k) (ad := ad91) (v := .bool false) (false) (by kernel_rfl) rfl rfl (by kernel_rfl) hA92 ow47 (by omega) (by omega)) ?_
   rintro d_ v_ w98 ⟨rfl, g99, ow100⟩
   refine ⟨_, rfl, fun act103 f102 => ?_⟩
   clear f96
   have hl101 : ((aa).set (k : Int).toNat false).length = (aa).length := List.length_set
   have szw98 := g99.size
   replace e40 := e40.gr g99 (fun k hk => by have := ow47.ge k hk; omega)
   replace r43 := r43.gr g99 (fun k hk => by have := ow47.ge k hk; omega)
   replace r44 := r44.gr g99 (fun k hk => by have := ow47.ge k hk; omega)
   replace r45 := r45.gr g99 (fun k hk => by have := ow47.ge k hk; omega)
   replace bx46 := bx46.gr g99 (fun e => by have := ow47.ge _ e; omega)
   clear ow47 g99
   refine At.done rfl ?_
   refine b_n ?_
   refine t_n ?_
   refine At.start ?_
   refine At.rd f102 3 [[], [.as_ (.int .i64 (k + 1))], []] [(11, .int .i64 (k + 1)), (24, .int .i64 (k + 1)), (23, .int .i64 (k))] [((.int .i64 (IntKind.i64.wrap (k + 1)) : Value) = .int .i64 (k + 1))] (by kernel_rfl) ⟨(w64 (by omega) (by omega)), trivial⟩ (fun act110 f109 => ?_)
   clear f102
   refine At.done rfl ?_
   refine t_n ?_
   have f111 := f109.as 10 (.slice A_34 aa.length c_35) (.slice A_34 (((aa).set (k : Int).toNat false : List Bool).length) c_35) rfl (slice_len (by first | rfl | omega | (simp; done) | (simp; omega)))
   clear f109
   have f112 := f111.sub (r := [(11, .int .i64 (k + 1)), (10, .slice A_34 (((aa).set (k : Int).toNat false : List Bool).length) c_35), (9, .int .i64 (((g.ow.length : Nat) : Int))), (8, .slice none 0 0), (4, .pointer (some ⟨w.heap.size, 0, none⟩)), (1, .slice Ai li.length ci), (2, .int .i64 (p)), (3, .slice Au lu.length cu)]) ⟨rfl, rfl, rfl, rfl, rfl, rfl, rfl, rfl, trivial⟩
   exact ⟨_, (by omega), (k + 1), ((aa).set (k : Int).toNat false : List Bool), A_34, c_35, rfl, f112, e40, r43, r44, r45, bx46, ow100, (by omega), (by omega), (and_next hxa (by omega) (by omega) (by simp_all)), (by rw [List.length_set]; assumption), (by omega)⟩
 ·have q113 := of_decide_eq_false h54
  refine wp_exit ?_
  refine t_e ?_
  refine t_e ?_
  refine b_e ?_
  refine t_n ?_
  refine wp_seq ?_
  refine wp_seq ?_
  have hRf : RefT g li p lu aa := and_ref hli hlu hxa (by omega)
  refine At.start ?_
  refine At.rd f52 1 [[]] [(12, .bool true)] [] (by kernel_rfl) trivial (fun act115 f114 => ?_)
  clear f52
  refine At.done rfl ?_
  refine t_n ?_
  refine wp_block ?_
  have f119 := f114.as 10 (.slice A_34 aa.length c_35) (.slice A_34 ((aa : List Bool).length) c_35) rfl (slice_len (by first | rfl | omega | (simp; done) | (simp; omega)))
  clear f114
  have f118 := f119.sub (r := [(10, .slice A_34 ((aa : List Bool).length) c_35), (12, .bool true), (9, .int .i64 (((g.ow.length : Nat) : Int))), (8, .slice none 0 0), (4, .pointer (some ⟨w.heap.size, 0, none⟩)), (1, .slice Ai li.length ci), (2, .int .i64 (p))]) ⟨rfl, rfl, rfl, rfl, rfl, rfl, rfl, trivial⟩
  refine loop_g (fun (m_ : Nat) a_ w_ => ∃ (m : Bool) (ab : List Bool) (A_116 : Option Addr) (c_117 : Nat), m_ = (2 * ((g.ow.length : Int) - cB ab 256) + (if m = true then 1 else 0)).toNat ∧ (Frm 76 a_ [(10, .slice A_116 ab.length c_117), (12, .bool (m)), (9, .int .i64 (((g.ow.length : Nat) : Int))), (8, .slice none 0 0), (4, .pointer (some ⟨w.heap.size, 0, none⟩)), (1, .slice Ai li.length ci), (2, .int .i64 (p))]) ∧ (Ext w w_) ∧ (RdG w_ 0 w.heap.size Ag0 Ag1 Ag2 cg0 cg1 cg2 g) ∧ (RdR w_ 0 w.heap.size Ai (li : List Bool)) ∧ (RdR w_ 0 w.heap.size Au (lu : List Bool)) ∧ (Bx w_ (w.heap.size) [.slice Ag0 g.ow.length cg0, .slice Ag1 g.pr.length cg1, .slice Ag2 g.mv.length cg2] 25) ∧ (OwnR w_ (Sx (w1.heap.size) []) A_116 c_117 4 (ab : List Bool)) ∧ (RefT g li p lu ab) ∧ (RefF g li p ab m) ∧ (ab.length = g.ow.length) ∧ (w1.heap.size ≤ w_.heap.size)) _ ⟨true, (aa : List Bool), A_34, c_35, rfl, f118, e40, r43, r44, r45, bx46, ow47, hRf, (fun h_ => by cases h_), (by omega), (by omega)⟩ ?_
  clear f118 f119
  clear r43
  clear r44
  clear r45
  clear bx46
  clear ow47
  clear e40
  intro m_ act120 w121 ⟨m, ab, A_116, c_117, hm123, f124, e122, r125, r126, r127, bx128, ow129, hrf, hrF, i130, i131⟩
  have szw121 := e122.size
  have := bx128.lt
  refine wp_seq ?_
  refine wp_seq ?_
  refine At.start ?_
  refine At.rd f124 1 [[]] [(38, .bool (m))] [] (by kernel_rfl) trivial (fun act133 f132 => ?_)
  clear f124
  refine At.done rfl ?_
  refine t_n ?_
  refine cond_S f132 (t := m) rfl (fun h134 => ?_) (fun h134 => ?_)
  ·refine wp_skip ?_
   refine t_n ?_
   refine wp_block ?_
   refine wp_seq ?_
   refine At.start ?_
   refine At.rd f132 1 [[]] [(12, .bool false)] [] (by kernel_rfl) trivial (fun act137 f136 => ?_)
   clear f132
   refine At.done rfl ?_
   refine t_n ?_
   refine wp_seq ?_
   refine At.start ?_
   refine At.seq f136 1 [[]] [(39, .slice (some ⟨w121.heap.size, 0, none⟩) 0 0)] (w121.alloc (.cells #[] 4 (0, 0))) [] (by kernel_rfl) trivial (fun act141 w138 hw139 f140 => ?_)
   clear f136
   have g142 := gr_alloc hw139
   have szw138 := g142.size
   replace e122 := e122.gr g142 no_row
   replace r125 := r125.gr g142 (fun _ h => by cases h)
   replace r126 := r126.gr g142 (fun _ h => by cases h)
   replace r127 := r127.gr g142 (fun _ h => by cases h)
   replace bx128 := bx128.gr g142 (by simp)
   replace ow129 : OwnR w138 (Sx (w1.heap.size) [some (w121.heap.size)]) A_116 c_117 4 (ab : List Bool) := ow129.grA g142 (fun _ _ h => by cases h) (fun k hk hs => ⟨(fun e => by injection e; omega), hs⟩)
   have bx144 : Bx w138 (w121.heap.size) [] 4 := Bx.new hw139
   have := bx144.lt
   clear g142 hw139
   refine At.rd f140 1 [[]] [(40, .slice A_116 ab.length c_117)] [] (by kernel_rfl) trivial (fun act152 f151 => ?_)
   clear f140
   have ow153 : OwnR w138 (Sx (w121.heap.size) [obk (A_116)]) (some ⟨w121.heap.size, 0, none⟩) 0 4 ([] : List Bool) := Bx.own0 bx144 ⟨(ow129.neb (fun g hs => hs.1)), (Nat.le_refl _)⟩
   clear bx144
   have hl158 : (([] : List Bool) ++ ab).length = (([] : List Bool)).length + (ab : List Bool).length := List.length_append
   simp only [List.length_cons, List.length_nil] at hl158
   refine At.act f151 (appendR (α := Bool) (t := 34) (d := 41) (n := 0) (m := ab.length) (cc := c_117) (xs := []) (ys := ab) (bytes := 1) (by first | rfl | omega | (simp; done) | (simp; omega)) (by first | rfl | omega | (simp; done) | (simp; omega)) (by kernel_rfl) rfl (by kernel_rfl) ow153 ow129.src (by simp only [List.length_cons, List.length_nil]; omega) (by simp only [List.length_cons, List.length_nil]; omega)) ?_
   rintro d_ v_ w157 ⟨rfl, A154, c155, ha156⟩
   obtain rfl := ha156.val
   have g159 := ha156.gr
   refine ⟨_, rfl, fun act161 f160 => ?_⟩
   clear f151
   have ow162 := ha156.own (Sx (w121.heap.size) [obk (A_116)]) (fun g _ hs => ⟨hs.1, hs.2⟩) ⟨ow129.ne_new, (show w121.heap.size ≤ w138.heap.size by omega)⟩
   have szw157 := g159.size
   replace e122 := e122.gr g159 (fun k hk => by have := ow153.ge k hk; omega)
   replace r125 := r125.gr g159 (fun k hk => by have := ow153.ge k hk; omega)
   replace r126 := r126.gr g159 (fun k hk => by have := ow153.ge k hk; omega)
   replace r127 := r127.gr g159 (fun k hk => by have := ow153.ge k hk; omega)
   replace bx128 := bx128.gr g159 (fun e => by have := ow153.ge _ e; omega)
   replace ow129 : OwnR w157 (Sx (w1.heap.size) [obk (A154)]) A_116 c_117 4 (ab : List Bool) := ow129.grA g159 (fun k hk => hk.1) (fun k hk hs => ⟨own_repl ha156.at_ hs.1 hk, hs.2⟩)
   clear ow153 g159 ha156
   replace ow162 : OwnR w157 (Sx (w121.heap.size) [obk (A_116)]) A154 c155 4 (ab : List Bool) := ow162
   refine At.rd f160 1 [[]] [(13, .slice A154 ((([] : List Bool) ++ ab).length) c155)] [] (by kernel_rfl) trivial (fun act171 f170 => ?_)
   clear f160
   refine At.done rfl ?_
   refine t_n ?_
   refine wp_seq ?_
   refine wp_seq ?_
   refine At.start ?_
   refine At.rd f170 1 [[]] [(14, .int .i64 (0))] [] (by kernel_rfl) trivial (fun act173 f172 => ?_)
   clear f170
   refine At.done rfl ?_
   refine t_n ?_
   refine wp_block ?_
   have f177 := f172.as 13 (.slice A154 ((([] : List Bool) ++ ab).length) c155) (.slice A154 ((ab : List Bool).length) c155) rfl (slice_len (by first | rfl | omega | (simp; done) | (simp; omega)))
   clear f172
   have f176 := f177.sub (r := [(14, .int .i64 (0)), (12, .bool false), (13, .slice A154 ((ab : List Bool).length) c155), (10, .slice A_116 ab.length c_117), (9, .int .i64 (((g.ow.length : Nat) : Int))), (8, .slice none 0 0), (4, .pointer (some ⟨w.heap.size, 0, none⟩)), (1, .slice Ai li.length ci), (2, .int .i64 (p))]) ⟨rfl, rfl, rfl, rfl, rfl, rfl, rfl, rfl, rfl, trivial⟩
   refine loop_g (fun (m_ : Nat) a_ w_ => ∃ (kk : Int) (m2 : Bool) (nx : List Bool) (A_174 : Option Addr) (c_175 : Nat), m_ = ((g.ow.length : Int) - kk).toNat ∧ (Frm 76 a_ [(14, .int .i64 (kk)), (12, .bool (m2)), (13, .slice A_174 nx.length c_175), (10, .slice A_116 ab.length c_117), (9, .int .i64 (((g.ow.length : Nat) : Int))), (8, .slice none 0 0), (4, .pointer (some ⟨w.heap.size, 0, none⟩)), (1, .slice Ai li.length ci), (2, .int .i64 (p))]) ∧ (Ext w w_) ∧ (RdG w_ 0 w.heap.size Ag0 Ag1 Ag2 cg0 cg1 cg2 g) ∧ (RdR w_ 0 w.heap.size Ai (li : List Bool)) ∧ (RdR w_ 0 w.heap.size Au (lu : List Bool)) ∧ (Bx w_ (w.heap.size) [.slice Ag0 g.ow.length cg0, .slice Ag1 g.pr.length cg1, .slice Ag2 g.mv.length cg2] 25) ∧ (OwnR w_ (Sx (w1.heap.size) [obk (A_174)]) A_116 c_117 4 (ab : List Bool)) ∧ (OwnR w_ (Sx (w121.heap.size) [obk (A_116)]) A_174 c_175 4 (nx : List Bool)) ∧ (0 ≤ kk) ∧ (kk ≤ (g.ow.length : Int)) ∧ (RefK g li p ab nx m2 kk) ∧ (nx.length = g.ow.length) ∧ (w1.heap.size ≤ w_.heap.size) ∧ (w121.heap.size ≤ w_.heap.size)) _ ⟨0, false, (ab : List Bool), A154, c155, rfl, f176, e122, r125, r126, r127, bx128, ow129, ow162, (by omega), (by omega), (refK_0 hrf), (by simpa using hrf.len), (by omega), (by omega)⟩ ?_
   clear f176 f177
   clear r125
   clear r126
   clear r127
   clear bx128
   clear ow129
   clear ow162
   clear e122
   intro m_ act178 w179 ⟨kk, m2, nx, A_174, c_175, hm181, f182, e180, r183, r184, r185, bx186, ow187, ow188, i189, i190, hrk, i191, i192, i193⟩
   have szw179 := e180.size
   have := bx186.lt
   refine wp_seq ?_
   refine wp_seq ?_
   refine At.start ?_
   refine At.rd f182 3 [[], [], []] [(44, .bool (decide ((kk : Int) < ((g.ow.length : Nat) : Int)))), (43, .int .i64 (((g.ow.length : Nat) : Int))), (42, .int .i64 (kk))] [] (by kernel_rfl) trivial (fun act195 f194 => ?_)
   clear f182
   refine At.done rfl ?_
   refine t_n ?_
   refine cond_S f194 (t := decide ((kk : Int) < ((g.ow.length : Nat) : Int))) rfl (fun h196 => ?_) (fun h196 => ?_)
   ·have q197 := of_decide_eq_true h196
    refine wp_skip ?_
    refine t_n ?_
    refine wp_seq ?_
    refine wp_block ?_
    refine wp_seq ?_
    refine At.start ?_
    obtain ⟨ad198, hA199, hb202, hc201, hc200⟩ := r184.get (kk) (by omega) (by omega) (sz := 1) rfl
    rcases Bool.eq_false_or_eq_true (gB li kk) with h203 | h203
    ·obtain ⟨ad205, hA206, hb209, hc208, hc207⟩ := ow187.get (kk) (by omega) (by omega) (sz := 1) rfl
     refine At.rd f194 11 [[], [], [.ad ad198], [.ld (.bool (gB li kk))], [.as_ (.bool true)], [], [], [.ad ad205], [.ld (.bool (gB ab kk))], [], []] [(57, .bool (!(gB ab kk))), (56, .bool (!(gB ab kk))), (55, .bool (gB ab kk)), (54, .pointer (some (ad205.add ((kk : Int).toNat * 1)))), (53, .int .i64 (kk)), (52, .slice A_116 ab.length c_117), (51, .bool true), (50, .bool (gB li kk)), (49, .pointer (some (ad198.add ((kk : Int).toNat * 1)))), (48, .int .i64 (kk)), (47, .slice Ai li.length ci)] [(Ai = some ad198), (0 ≤ (kk : Int)), ((kk : Int) < (li.length : Nat)), (w179.cell? (ad198.add ((kk : Int).toNat * 1)) = some (.bool (gB li kk))), ((.bool (gB li kk) : Value) = .bool true), (A_116 = some ad205), (0 ≤ (kk : Int)), ((kk : Int) < (ab.length : Nat)), (w179.cell? (ad205.add ((kk : Int).toNat * 1)) = some (.bool (gB ab kk)))] (by kernel_rfl) ⟨hA199, (by omega), (by omega), hc201, (congrArg Value.bool h203), hA206, (by omega), (by omega), hc208, trivial⟩ (fun act211 f210 => ?_)
     clear f194
     refine At.done rfl ?_
     refine t_n ?_
     refine cond_S f210 (t := !(gB ab kk)) rfl (fun h212 => ?_) (fun h212 => ?_)
     ·have q213 : (gB ab kk) = false := by first | exact Eq.mp (Bool.not_eq_true' _) h212 | exact Eq.mp (Bool.not_eq_false' _) h212 | simpa using h212
      refine wp_seq ?_
      refine At.start ?_
      refine At.rd f210 7 [[], [], [.ld (.slice Ag0 g.ow.length cg0), .ld (.slice Ag1 g.pr.length cg1), .ld (.slice Ag2 g.mv.length cg2)], [], [], [], []] [(64, .int .i64 (kk)), (63, .slice A_116 ab.length c_117), (62, .int .i64 (p)), (61, .slice Ai li.length ci), (60, .agg #[.slice Ag0 g.ow.length cg0, .slice Ag1 g.pr.length cg1, .slice Ag2 g.mv.length cg2]), (59, .int .i64 (kk)), (58, .slice A_174 nx.length c_175)] [(w179.cell? ⟨w.heap.size, 0, none⟩ = some (.slice Ag0 g.ow.length cg0)), (w179.cell? ⟨w.heap.size, 1, none⟩ = some (.slice Ag1 g.pr.length cg1)), (w179.cell? ⟨w.heap.size, 2, none⟩ = some (.slice Ag2 g.mv.length cg2))] (by kernel_rfl) ⟨(bx186.cell (i := 0) rfl), (bx186.cell (i := 1) rfl), (bx186.cell (i := 2) rfl), trivial⟩ (fun act216 f215 => ?_)
      clear f210
      refine At.call f215 32 #[.agg #[.slice Ag0 g.ow.length cg0, .slice Ag1 g.pr.length cg1, .slice Ag2 g.mv.length cg2], .slice Ai li.length ci, .int .i64 (p), .slice A_116 ab.length c_117, .int .i64 (kk)] (some 65) (by kernel_rfl) (step12_any (g := g) (li := li) (la := ab) (p := p) (i := kk) (r183.wide (Nat.zero_le _) (by omega)) (r184.wide (Nat.zero_le _) (by omega)) ((ow187.rdR (by simp only [Enc.bytes]; omega)).wide (Nat.zero_le _) (by omega)) hG (by omega) (by omega) (by omega) (by omega)) ?_
      rintro e_ w217 ⟨rfl, he⟩
      refine ⟨_, rfl, _, rfl, fun act218 f219 => ?_⟩
      clear f215
      have g220 := gr_ext he
      have szw217 := g220.size
      replace e180 := e180.gr g220 no_row
      replace r183 := r183.gr g220 (fun _ h => by cases h)
      replace r184 := r184.gr g220 (fun _ h => by cases h)
      replace r185 := r185.gr g220 (fun _ h => by cases h)
      replace bx186 := bx186.gr g220 (by simp)
      replace ow187 := ow187.gr g220 (fun _ _ h => by cases h)
      replace ow188 := ow188.gr g220 (fun _ _ h => by cases h)
      clear g220 he
      obtain ⟨ad228, hA229, hb232, hc231, hc230⟩ := ow188.get (kk) (by omega) (by omega) (sz := 1) rfl
      refine At.rd f219 1 [[.ad ad228]] [(66, .pointer (some (ad228.add ((kk : Int).toNat * 1))))] [(A_174 = some ad228), (0 ≤ (kk : Int)), ((kk : Int) < (nx.length : Nat))] (by kernel_rfl) ⟨hA229, (by omega), (by omega), trivial⟩ (fun act234 f233 => ?_)
      clear f219
      refine At.act f233 (storeR (α := Bool) (t := 4) (i := kk) (ad := ad228) (v := .bool (stepB g li p ab kk)) (stepB g li p ab kk) (by kernel_rfl) rfl rfl (by kernel_rfl) hA229 ow188 (by omega) (by omega)) ?_
      rintro d_ v_ w235 ⟨rfl, g236, ow237⟩
      refine ⟨_, rfl, fun act240 f239 => ?_⟩
      clear f233
      have hl238 : ((nx).set (kk : Int).toNat (stepB g li p ab kk)).length = (nx).length := List.length_set
      have szw235 := g236.size
      replace e180 := e180.gr g236 (fun k hk => by have := ow188.ge k hk; omega)
      replace r183 := r183.gr g236 (fun k hk => by have := ow188.ge k hk; omega)
      replace r184 := r184.gr g236 (fun k hk => by have := ow188.ge k hk; omega)
      replace r185 := r185.gr g236 (fun k hk => by have := ow188.ge k hk; omega)
      replace bx186 := bx186.gr g236 (fun e => by have := ow188.ge _ e; omega)
      replace ow187 := ow187.gr g236 (fun k hk => hk.1)
      clear ow188 g236
      refine At.done rfl ?_
      refine t_n ?_
      have hgs : gB (nx.set (kk : Int).toNat (stepB g li p ab kk)) kk = stepB g li p ab kk := by rw [gB_setL (by omega) (by omega) (by omega), if_pos rfl]
      refine At.start ?_
      rcases Bool.eq_false_or_eq_true (m2) with h247 | h247
      ·refine At.rd f239 8 [[], [.as_ (.bool true)], [], [], [], [], [], []] [(12, .bool true), (73, .bool true), (72, undef), (71, undef), (70, undef), (69, undef), (68, .bool true), (67, .bool (m2))] [((.bool (m2) : Value) = .bool true)] (by kernel_rfl) ⟨(congrArg Value.bool h247), trivial⟩ (fun act250 f249 => ?_)
       clear f239
       refine At.done rfl ?_
       refine b_n ?_
       refine t_n ?_
       have f251 := f249.sub (r := [(12, .bool true), (56, .bool (!(gB ab kk))), (55, .bool (gB ab kk)), (54, .pointer (some (ad205.add ((kk : Int).toNat * 1)))), (53, .int .i64 (kk)), (52, .slice A_116 ab.length c_117), (14, .int .i64 (kk)), (13, .slice A_174 nx.length c_175), (10, .slice A_116 ab.length c_117), (9, .int .i64 (((g.ow.length : Nat) : Int))), (8, .slice none 0 0), (4, .pointer (some ⟨w.heap.size, 0, none⟩)), (1, .slice Ai li.length ci), (2, .int .i64 (p))]) ⟨rfl, rfl, rfl, rfl, rfl, rfl, rfl, rfl, rfl, rfl, rfl, rfl, rfl, rfl, trivial⟩
       clear f249
       refine At.start ?_
       refine At.rd f251 3 [[], [.as_ (.int .i64 (kk + 1))], []] [(14, .int .i64 (kk + 1)), (46, .int .i64 (kk + 1)), (45, .int .i64 (kk))] [((.int .i64 (IntKind.i64.wrap (kk + 1)) : Value) = .int .i64 (kk + 1))] (by kernel_rfl) ⟨(w64 (by omega) (by omega)), trivial⟩ (fun act253 f252 => ?_)
       clear f251
       refine At.done rfl ?_
       refine t_n ?_
       have f254 := f252.as 13 (.slice A_174 nx.length c_175) (.slice A_174 (((nx).set (kk : Int).toNat (stepB g li p ab kk) : List Bool).length) c_175) rfl (slice_len (by first | rfl | omega | (simp; done) | (simp; omega)))
       clear f252
       have f255 := f254.sub (r := [(14, .int .i64 (kk + 1)), (12, .bool true), (13, .slice A_174 (((nx).set (kk : Int).toNat (stepB g li p ab kk) : List Bool).length) c_175), (10, .slice A_116 ab.length c_117), (9, .int .i64 (((g.ow.length : Nat) : Int))), (8, .slice none 0 0), (4, .pointer (some ⟨w.heap.size, 0, none⟩)), (1, .slice Ai li.length ci), (2, .int .i64 (p))]) ⟨rfl, rfl, rfl, rfl, rfl, rfl, rfl, rfl, rfl, trivial⟩
       exact ⟨_, (by omega), (kk + 1), true, ((nx).set (kk : Int).toNat (stepB g li p ab kk) : List Bool), A_174, c_175, rfl, f255, e180, r183, r184, r185, bx186, ow187, ow237, (by omega), (by omega), (refK_put hrk (by omega) (by omega) (by assumption) (by assumption) (by simp_all)), (by rw [List.length_set]; assumption), (by omega), (by omega)⟩
      ·obtain ⟨ad257, hA258, hb261, hc260, hc259⟩ := ow237.get (kk) (by omega) (by omega) (sz := 1) rfl
       refine At.rd f239 8 [[], [.as_ (.bool false)], [], [], [.ad ad257], [.ld (.bool (gB ((nx).set (kk : Int).toNat (stepB g li p ab kk)) kk))], [], []] [(12, .bool (gB ((nx).set (kk : Int).toNat (stepB g li p ab kk)) kk)), (73, .bool (gB ((nx).set (kk : Int).toNat (stepB g li p ab kk)) kk)), (72, .bool (gB ((nx).set (kk : Int).toNat (stepB g li p ab kk)) kk)), (71, .pointer (some (ad257.add ((kk : Int).toNat * 1)))), (70, .int .i64 (kk)), (69, .slice A_174 nx.length c_175), (68, .bool false), (67, .bool (m2))] [((.bool (m2) : Value) = .bool false), (A_174 = some ad257), (0 ≤ (kk : Int)), ((kk : Int) < (nx.length : Nat)), (w235.cell? (ad257.add ((kk : Int).toNat * 1)) = some (.bool (gB ((nx).set (kk : Int).toNat (stepB g li p ab kk)) kk)))] (by kernel_rfl) ⟨(congrArg Value.bool h247), hA258, (by omega), (by omega), hc260, trivial⟩ (fun act263 f262 => ?_)
       clear f239
       refine At.done rfl ?_
       refine b_n ?_
       refine t_n ?_
       refine At.start ?_
       refine At.rd f262 3 [[], [.as_ (.int .i64 (kk + 1))], []] [(14, .int .i64 (kk + 1)), (46, .int .i64 (kk + 1)), (45, .int .i64 (kk))] [((.int .i64 (IntKind.i64.wrap (kk + 1)) : Value) = .int .i64 (kk + 1))] (by kernel_rfl) ⟨(w64 (by omega) (by omega)), trivial⟩ (fun act265 f264 => ?_)
       clear f262
       refine At.done rfl ?_
       refine t_n ?_
       have f266 := f264.as 13 (.slice A_174 nx.length c_175) (.slice A_174 (((nx).set (kk : Int).toNat (stepB g li p ab kk) : List Bool).length) c_175) rfl (slice_len (by first | rfl | omega | (simp; done) | (simp; omega)))
       clear f264
       have f267 := f266.sub (r := [(14, .int .i64 (kk + 1)), (12, .bool (gB ((nx).set (kk : Int).toNat (stepB g li p ab kk)) kk)), (13, .slice A_174 (((nx).set (kk : Int).toNat (stepB g li p ab kk) : List Bool).length) c_175), (10, .slice A_116 ab.length c_117), (9, .int .i64 (((g.ow.length : Nat) : Int))), (8, .slice none 0 0), (4, .pointer (some ⟨w.heap.size, 0, none⟩)), (1, .slice Ai li.length ci), (2, .int .i64 (p))]) ⟨rfl, rfl, rfl, rfl, rfl, rfl, rfl, rfl, rfl, trivial⟩
       exact ⟨_, (by omega), (kk + 1), (gB ((nx).set (kk : Int).toNat (stepB g li p ab kk)) kk), ((nx).set (kk : Int).toNat (stepB g li p ab kk) : List Bool), A_174, c_175, rfl, f267, e180, r183, r184, r185, bx186, ow187, ow237, (by omega), (by omega), (refK_put hrk (by omega) (by omega) (by assumption) (by assumption) (by simp_all)), (by rw [List.length_set]; assumption), (by omega), (by omega)⟩
     ·have q268 : (gB ab kk) = true := by first | exact Eq.mp (Bool.not_eq_true' _) h212 | exact Eq.mp (Bool.not_eq_false' _) h212 | simpa using h212
      refine wp_skip ?_
      refine b_n ?_
      refine t_n ?_
      refine At.start ?_
      refine At.rd f210 3 [[], [.as_ (.int .i64 (kk + 1))], []] [(14, .int .i64 (kk + 1)), (46, .int .i64 (kk + 1)), (45, .int .i64 (kk))] [((.int .i64 (IntKind.i64.wrap (kk + 1)) : Value) = .int .i64 (kk + 1))] (by kernel_rfl) ⟨(w64 (by omega) (by omega)), trivial⟩ (fun act271 f270 => ?_)
      clear f210
      refine At.done rfl ?_
      refine t_n ?_
      have f272 := f270.as 13 (.slice A_174 nx.length c_175) (.slice A_174 ((nx : List Bool).length) c_175) rfl (slice_len (by first | rfl | omega | (simp; done) | (simp; omega)))
      clear f270
      have f273 := f272.sub (r := [(14, .int .i64 (kk + 1)), (12, .bool (m2)), (13, .slice A_174 ((nx : List Bool).length) c_175), (10, .slice A_116 ab.length c_117), (9, .int .i64 (((g.ow.length : Nat) : Int))), (8, .slice none 0 0), (4, .pointer (some ⟨w.heap.size, 0, none⟩)), (1, .slice Ai li.length ci), (2, .int .i64 (p))]) ⟨rfl, rfl, rfl, rfl, rfl, rfl, rfl, rfl, rfl, trivial⟩
      exact ⟨_, (by omega), (kk + 1), m2, (nx : List Bool), A_174, c_175, rfl, f273, e180, r183, r184, r185, bx186, ow187, ow188, (by omega), (by omega), (refK_skip hrk (by first | exact .inl (by assumption) | exact .inr (by assumption))), hrk.len, (by omega), (by omega)⟩
    ·refine At.rd f194 11 [[], [], [.ad ad198], [.ld (.bool (gB li kk))], [.as_ (.bool false)], [], [], [], [], [], []] [(57, .bool false), (56, undef), (55, undef), (54, undef), (53, undef), (52, undef), (51, .bool false), (50, .bool (gB li kk)), (49, .pointer (some (ad198.add ((kk : Int).toNat * 1)))), (48, .int .i64 (kk)), (47, .slice Ai li.length ci)] [(Ai = some ad198), (0 ≤ (kk : Int)), ((kk : Int) < (li.length : Nat)), (w179.cell? (ad198.add ((kk : Int).toNat * 1)) = some (.bool (gB li kk))), ((.bool (gB li kk) : Value) = .bool false)] (by kernel_rfl) ⟨hA199, (by omega), (by omega), hc201, (congrArg Value.bool h203), trivial⟩ (fun act276 f275 => ?_)
     clear f194
     refine At.done rfl ?_
     refine t_n ?_
     refine cond_F f275 rfl ?_
     refine wp_skip ?_
     refine b_n ?_
     refine t_n ?_
     refine At.start ?_
     refine At.rd f275 3 [[], [.as_ (.int .i64 (kk + 1))], []] [(14, .int .i64 (kk + 1)), (46, .int .i64 (kk + 1)), (45, .int .i64 (kk))] [((.int .i64 (IntKind.i64.wrap (kk + 1)) : Value) = .int .i64 (kk + 1))] (by kernel_rfl) ⟨(w64 (by omega) (by omega)), trivial⟩ (fun act278 f277 => ?_)
     clear f275
     refine At.done rfl ?_
     refine t_n ?_
     have f279 := f277.as 13 (.slice A_174 nx.length c_175) (.slice A_174 ((nx : List Bool).length) c_175) rfl (slice_len (by first | rfl | omega | (simp; done) | (simp; omega)))
     clear f277
     have f280 := f279.sub (r := [(14, .int .i64 (kk + 1)), (12, .bool (m2)), (13, .slice A_174 ((nx : List Bool).length) c_175), (10, .slice A_116 ab.length c_117), (9, .int .i64 (((g.ow.length : Nat) : Int))), (8, .slice none 0 0), (4, .pointer (some ⟨w.heap.size, 0, none⟩)), (1, .slice Ai li.length ci), (2, .int .i64 (p))]) ⟨rfl, rfl, rfl, rfl, rfl, rfl, rfl, rfl, rfl, trivial⟩
     exact ⟨_, (by omega), (kk + 1), m2, (nx : List Bool), A_174, c_175, rfl, f280, e180, r183, r184, r185, bx186, ow187, ow188, (by omega), (by omega), (refK_skip hrk (by first | exact .inl (by assumption) | exact .inr (by assumption))), hrk.len, (by omega), (by omega)⟩
   ·have q281 := of_decide_eq_false h196
    refine wp_exit ?_
    refine t_e ?_
    refine t_e ?_
    refine b_e ?_
    refine t_n ?_
    have hrN := ref_next hn1 (fun i x a b hx => row_rng hR a b hx) hrf hrk (by omega)
    have hgr := ref_grow hn1 hrf hrk (by omega) (by omega)
    have hrG := ref_fin hrf hrk (by omega)
    refine At.start ?_
    refine At.rd f194 2 [[], []] [(10, .slice A_174 nx.length c_175), (74, .slice A_174 nx.length c_175)] [] (by kernel_rfl) trivial (fun act283 f282 => ?_)
    clear f194
    refine At.done rfl ?_
    refine b_n ?_
    refine t_n ?_
    have ow284 : OwnR w179 (Sx (w1.heap.size) []) A_174 c_175 4 (nx : List Bool) := ow188.imp (fun g _ hs => (by have := Sx_base hs; show w1.heap.size ≤ g; omega))
    clear ow188 ow187
    have f285 := f282.as 10 (.slice A_174 nx.length c_175) (.slice A_174 ((nx : List Bool).length) c_175) rfl (slice_len (by first | rfl | omega | (simp; done) | (simp; omega)))
    clear f282
    have f286 := f285.sub (r := [(10, .slice A_174 ((nx : List Bool).length) c_175), (12, .bool (m2)), (9, .int .i64 (((g.ow.length : Nat) : Int))), (8, .slice none 0 0), (4, .pointer (some ⟨w.heap.size, 0, none⟩)), (1, .slice Ai li.length ci), (2, .int .i64 (p))]) ⟨rfl, rfl, rfl, rfl, rfl, rfl, rfl, trivial⟩
    exact ⟨_, (by rw [hm123]; exact meas_dec (by assumption) hgr.1 hgr.2), m2, (nx : List Bool), A_174, c_175, rfl, f286, e180, r183, r184, r185, bx186, ow284, hrN, hrG, hrN.len, (by omega)⟩
  ·refine wp_exit ?_
   refine t_e ?_
   refine t_e ?_
   refine b_e ?_
   refine t_n ?_
   refine wp_seq ?_
   refine At.start ?_
   refine At.rd f132 2 [[], []] [(8, .slice A_116 ab.length c_117), (75, .slice A_116 ab.length c_117)] [] (by kernel_rfl) trivial (fun act289 f288 => ?_)
   clear f132
   refine At.done rfl ?_
   refine t_n ?_
   refine wp_ret ?_
   refine ret_ f288 [] [.slice A_116 ab.length c_117] [] (by kernel_rfl) trivial ?_
   exact ⟨A_116, c_117, _, rfl, e122, (ow129.imp (fun g _ hs => by have := Sx_base hs; show w.heap.size ≤ g; omega)), hrf.len, ref_end hrf (by have e_ : m = false := (by assumption); rw [e_] at hrF; exact hrF)⟩

end Go.Proofs.YtkpljmalbmcdfaaDoor
