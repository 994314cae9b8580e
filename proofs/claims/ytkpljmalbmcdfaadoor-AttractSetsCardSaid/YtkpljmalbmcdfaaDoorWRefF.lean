/-
  A walk of a Go function, printed by a program of this repo. Conditions: what the theorems name.
-/
import Derived.Test.YtkpljmalbmcdfaaDoorWRefA
import Derived.Test.YtkpljmalbmcdfaaDoorWIs
set_option linter.unusedVariables false
set_option linter.unusedSimpArgs false
namespace Go.Proofs.YtkpljmalbmcdfaaDoor
open Go Go.RowKit

attribute [local irreducible] ofZ fromW wordsD ofD ofW lsD lenW lenN fullW withW lessW hasW hasD inW inD leastD putD onI tzI orS andS minusS orD andD minusD fullD emptyD
set_option maxHeartbeats 4000000 in
theorem forces_any {Ag0 Ag1 Ag2 : Option Addr} {cg0 cg1 cg2 : Nat} {g : GameL} {Ai : Option Addr} {ci : Nat} {li : List Bool} {Au : Option Addr} {cu : Nat} {lu : List Bool} {Aa : Option Addr} {ca : Nat} {la : List Bool} {Am : Option Addr} {cm : Nat} {lm : List Int} {p : Int} {w : World} (rg : RdG w 0 w.heap.size Ag0 Ag1 Ag2 cg0 cg1 cg2 g) (ri : RdR w 0 w.heap.size Ai li) (ru : RdR w 0 w.heap.size Au lu) (ra : RdR w 0 w.heap.size Aa la) (rm : RdI w 0 w.heap.size Am lm) (hR : isR g = true) (hli : li.length = g.ow.length) (hlu : lu.length = g.ow.length) (hla : la.length = g.ow.length) (hmv : MovA g li p lu la lm) :
    Calls Tryd.prog 15 #[.agg #[.slice Ag0 g.ow.length cg0, .slice Ag1 g.pr.length cg1, .slice Ag2 g.mv.length cg2], .slice Ai li.length ci, .int .i64 (p), .slice Au lu.length cu, .slice Aa la.length ca, .slice Am lm.length cm] w fun e w' => e = .returned (.bool true) ∧ Ext w w' := by
 have hlg0 := rg.ow.len
 have hlg1 := rg.pr.len
 have hlg2 := rg.mv.len
 have hkg0 := rg.k0
 have hkg1 := rg.k1
 have hkg2 := rg.k2
 have hG := isR_ok hR
 have hn1 := hG.n1
 have hpl := hG.pl
 have hml := hG.ml
 have hlm := hmv.ml
 refine enter_ (args := [.agg #[.slice Ag0 g.ow.length cg0, .slice Ag1 g.pr.length cg1, .slice Ag2 g.mv.length cg2], .slice Ai li.length ci, .int .i64 (p), .slice Au lu.length cu, .slice Aa la.length ca, .slice Am lm.length cm]) Tryd.func15 rfl Tryd.ntmps15 (Nat.le_of_ble_eq_true rfl) (fun act0 f0 => ?_)
 have e0 := Ext.refl w
 refine wp_seq ?_
 refine At.start ?_
 refine At.seq f0 1 [[]] [(6, .pointer (some ⟨w.heap.size, 0, none⟩))] (w.alloc (.cells #[.slice Ag0 g.ow.length cg0, .slice Ag1 g.pr.length cg1, .slice Ag2 g.mv.length cg2] 25 (0, 0))) [] (by kernel_rfl) trivial (fun act4 w1 hw2 f3 => ?_)
 clear f0
 have g5 := gr_alloc hw2
 have szw1 := g5.size
 replace e0 := e0.gr g5 no_row
 have r8 := rg.gr g5 (fun _ h => by cases h)
 clear rg
 have r9 := ri.gr g5 (fun _ h => by cases h)
 clear ri
 have r10 := ru.gr g5 (fun _ h => by cases h)
 clear ru
 have r11 := ra.gr g5 (fun _ h => by cases h)
 clear ra
 have r12 := rm.gr g5 (fun _ h => by cases h)
 clear rm
 have bx13 : Bx w1 (w.heap.size) [.slice Ag0 g.ow.length cg0, .slice Ag1 g.pr.length cg1, .slice Ag2 g.mv.length cg2] 25 := Bx.new hw2
 have := bx13.lt
 clear g5 hw2
 refine At.rd f3 1 [[]] [(12, .bool false)] [] (by kernel_rfl) trivial (fun act15 f14 => ?_)
 clear f3
 refine At.done rfl ?_
 refine t_n ?_
 refine wp_seq ?_
 refine At.start ?_
 refine At.rd f14 4 [[], [.ld (.slice Ag0 g.ow.length cg0)], [], []] [(13, .int .i64 (((g.ow.length : Nat) : Int))), (27, .int .i64 (((g.ow.length : Nat) : Int))), (26, .slice Ag0 g.ow.length cg0), (25, .pointer (some ⟨w.heap.size, 0, none⟩))] [(w1.cell? ⟨w.heap.size, 0, none⟩ = some (.slice Ag0 g.ow.length cg0))] (by kernel_rfl) ⟨(bx13.cell (i := 0) rfl), trivial⟩ (fun act17 f16 => ?_)
 clear f14
 refine At.done rfl ?_
 refine t_n ?_
 refine wp_seq ?_
 refine wp_seq ?_
 refine At.start ?_
 refine At.rd f16 4 [[], [], [], [.as_ (.bool false)]] [(31, .bool false), (30, .int .i64 (((g.ow.length : Nat) : Int))), (29, .int .i64 (((lm.length : Nat) : Int))), (28, .slice Am lm.length cm)] [((.bool ((((lm.length : Nat) : Int) : Int) != ((g.ow.length : Nat) : Int)) : Value) = .bool false)] (by kernel_rfl) ⟨(congrArg Value.bool (bneF (by omega))), trivial⟩ (fun act19 f18 => ?_)
 clear f16
 refine At.done rfl ?_
 refine t_n ?_
 refine cond_F f18 rfl ?_
 refine wp_skip ?_
 refine t_n ?_
 refine wp_seq ?_
 refine At.start ?_
 refine At.rd f18 1 [[]] [(32, .int .i64 (((g.ow.length : Nat) : Int)))] [] (by kernel_rfl) trivial (fun act21 f20 => ?_)
 clear f18
 refine At.act f20 (makeR (k1 := .i64) (k2 := .i64) (α := Bool) (e := 4) (bytes := 1) (t := 34) (d := 33) (n := ((g.ow.length : Nat) : Int)) (cap := ((g.ow.length : Nat) : Int)) (false) (by kernel_rfl) rfl (by kernel_rfl) (by omega) (by omega) (by omega) (by omega)) ?_
 rintro d_ v_ w22 ⟨rfl, rfl, g23, hO24⟩
 refine ⟨_, rfl, fun act28 f27 => ?_⟩
 clear f20
 replace hO24 := hO24 (Sx (w1.heap.size) []) (Nat.le_refl _)
 have szw22 := g23.size
 replace e0 := e0.gr g23 no_row
 replace r8 := r8.gr g23 (fun _ h => by cases h)
 replace r9 := r9.gr g23 (fun _ h => by cases h)
 replace r10 := r10.gr g23 (fun _ h => by cases h)
 replace r11 := r11.gr g23 (fun _ h => by cases h)
 replace r12 := r12.gr g23 (fun _ h => by cases h)
 replace bx13 := bx13.gr g23 (by simp)
 clear g23
 have : (List.replicate (((g.ow.length : Nat) : Int) : Int).toNat (false : Bool)).length = (((g.ow.length : Nat) : Int) : Int).toNat := List.length_replicate
 refine At.rd f27 1 [[]] [(14, .slice (some ⟨w1.heap.size, 0, none⟩) ((List.replicate (((g.ow.length : Nat) : Int) : Int).toNat (false : Bool)).length) ((((g.ow.length : Nat) : Int) : Int).toNat))] [] (by kernel_rfl) trivial (fun act37 f36 => ?_)
 clear f27
 refine At.done rfl ?_
 refine t_n ?_
 refine wp_seq ?_
 refine wp_seq ?_
 refine At.start ?_
 refine At.rd f36 1 [[]] [(15, .int .i64 (0))] [] (by kernel_rfl) trivial (fun act39 f38 => ?_)
 clear f36
 refine At.done rfl ?_
 refine t_n ?_
 refine wp_block ?_
 have f43 := f38.as 14 (.slice (some ⟨w1.heap.size, 0, none⟩) ((List.replicate (((g.ow.length : Nat) : Int) : Int).toNat (false : Bool)).length) ((((g.ow.length : Nat) : Int) : Int).toNat)) (.slice (some ⟨w1.heap.size, 0, none⟩) ((List.replicate (((g.ow.length : Nat) : Int) : Int).toNat (false : Bool) : List Bool).length) ((((g.ow.length : Nat) : Int) : Int).toNat)) rfl (slice_len (by first | rfl | omega | (simp; done) | (simp; omega)))
 clear f38
 have f42 := f43.sub (r := [(15, .int .i64 (0)), (14, .slice (some ⟨w1.heap.size, 0, none⟩) ((List.replicate (((g.ow.length : Nat) : Int) : Int).toNat (false : Bool) : List Bool).length) ((((g.ow.length : Nat) : Int) : Int).toNat)), (13, .int .i64 (((g.ow.length : Nat) : Int))), (6, .pointer (some ⟨w.heap.size, 0, none⟩)), (1, .slice Ai li.length ci), (2, .int .i64 (p)), (3, .slice Au lu.length cu), (4, .slice Aa la.length ca), (5, .slice Am lm.length cm)]) ⟨rfl, rfl, rfl, rfl, rfl, rfl, rfl, rfl, rfl, trivial⟩
 refine loop_g (fun (m_ : Nat) a_ w_ => ∃ (k : Int) (dd : List Bool) (A_40 : Option Addr) (c_41 : Nat), m_ = ((g.ow.length : Int) - k).toNat ∧ (Frm 200 a_ [(15, .int .i64 (k)), (14, .slice A_40 dd.length c_41), (13, .int .i64 (((g.ow.length : Nat) : Int))), (6, .pointer (some ⟨w.heap.size, 0, none⟩)), (1, .slice Ai li.length ci), (2, .int .i64 (p)), (3, .slice Au lu.length cu), (4, .slice Aa la.length ca), (5, .slice Am lm.length cm)]) ∧ (Ext w w_) ∧ (RdG w_ 0 w.heap.size Ag0 Ag1 Ag2 cg0 cg1 cg2 g) ∧ (RdR w_ 0 w.heap.size Ai (li : List Bool)) ∧ (RdR w_ 0 w.heap.size Au (lu : List Bool)) ∧ (RdR w_ 0 w.heap.size Aa (la : List Bool)) ∧ (RdI w_ 0 w.heap.size Am lm) ∧ (Bx w_ (w.heap.size) [.slice Ag0 g.ow.length cg0, .slice Ag1 g.pr.length cg1, .slice Ag2 g.mv.length cg2] 25) ∧ (OwnR w_ (Sx (w1.heap.size) []) A_40 c_41 4 (dd : List Bool)) ∧ (0 ≤ k) ∧ (k ≤ (g.ow.length : Int)) ∧ (DonT g lu la dd k) ∧ (dd.length = g.ow.length) ∧ (w1.heap.size ≤ w_.heap.size)) _ ⟨0, (List.replicate (((g.ow.length : Nat) : Int) : Int).toNat (false : Bool) : List Bool), some ⟨w1.heap.size, 0, none⟩, (((g.ow.length : Nat) : Int) : Int).toNat, rfl, f42, e0, r8, r9, r10, r11, r12, bx13, hO24, (by omega), (by omega), don_0, List.length_replicate, (by omega)⟩ ?_
 clear f42 f43
 clear r8
 clear r9
 clear r10
 clear r11
 clear r12
 clear bx13
 clear hO24
 clear e0
 intro m_ act44 w45 ⟨k, dd, A_40, c_41, hm47, f48, e46, r49, r50, r51, r52, r53, bx54, ow55, i56, i57, hdt, i58, i59⟩
 have szw45 := e46.size
 have := bx54.lt
 refine wp_seq ?_
 refine wp_seq ?_
 refine At.start ?_
 refine At.rd f48 3 [[], [], []] [(36, .bool (decide ((k : Int) < ((g.ow.length : Nat) : Int)))), (35, .int .i64 (((g.ow.length : Nat) : Int))), (34, .int .i64 (k))] [] (by kernel_rfl) trivial (fun act61 f60 => ?_)
 clear f48
 refine At.done rfl ?_
 refine t_n ?_
 refine cond_S f60 (t := decide ((k : Int) < ((g.ow.length : Nat) : Int))) rfl (fun h62 => ?_) (fun h62 => ?_)
 ·have q63 := of_decide_eq_true h62
  refine wp_skip ?_
  refine t_n ?_
  refine wp_seq ?_
  refine wp_block ?_
  refine wp_seq ?_
  refine At.start ?_
  obtain ⟨ad64, hA65, hb68, hc67, hc66⟩ := r52.get (k) (by omega) (by omega) (sz := 1) rfl
  rcases Bool.eq_false_or_eq_true (gB la k) with h69 | h69
  ·obtain ⟨ad71, hA72, hb75, hc74, hc73⟩ := r51.get (k) (by omega) (by omega) (sz := 1) rfl
   rcases Bool.eq_false_or_eq_true (!(gB lu k)) with h76 | h76
   ·have q77 : (gB lu k) = false := by first | exact Eq.mp (Bool.not_eq_true' _) h76 | exact Eq.mp (Bool.not_eq_false' _) h76 | simpa using h76
    obtain ⟨ad79, hA80, _, _, hc81⟩ := RdI.get r49.ow (k) (by omega) (by omega)
    refine At.rd f60 21 [[], [], [.ad ad64], [.ld (.bool (gB la k))], [.as_ (.bool true)], [], [], [.ad ad71], [.ld (.bool (gB lu k))], [], [], [.as_ (.bool true)], [], [.ld (.slice Ag0 g.ow.length cg0)], [], [.ad ad79], [.ld (.int .i64 (gI g.ow (k)))], [], [], [], []] [(16, .bool ((gI g.ow (k) : Int) == p)), (58, .bool ((gI g.ow (k) : Int) == p)), (57, .bool ((gI g.ow (k) : Int) == p)), (56, .int .i64 (p)), (55, .int .i64 (gI g.ow (k))), (54, .pointer (some (ad79.add ((k : Int).toNat * 1)))), (53, .int .i64 (k)), (52, .slice Ag0 g.ow.length cg0), (51, .pointer (some ⟨w.heap.size, 0, none⟩)), (50, .bool true), (49, .bool (!(gB lu k))), (48, .bool (!(gB lu k))), (47, .bool (gB lu k)), (46, .pointer (some (ad71.add ((k : Int).toNat * 1)))), (45, .int .i64 (k)), (44, .slice Au lu.length cu), (43, .bool true), (42, .bool (gB la k)), (41, .pointer (some (ad64.add ((k : Int).toNat * 1)))), (40, .int .i64 (k)), (39, .slice Aa la.length ca)] [(Aa = some ad64), (0 ≤ (k : Int)), ((k : Int) < (la.length : Nat)), (w45.cell? (ad64.add ((k : Int).toNat * 1)) = some (.bool (gB la k))), ((.bool (gB la k) : Value) = .bool true), (Au = some ad71), (0 ≤ (k : Int)), ((k : Int) < (lu.length : Nat)), (w45.cell? (ad71.add ((k : Int).toNat * 1)) = some (.bool (gB lu k))), ((.bool (!(gB lu k)) : Value) = .bool true), (w45.cell? ⟨w.heap.size, 0, none⟩ = some (.slice Ag0 g.ow.length cg0)), (Ag0 = some ad79), (0 ≤ (k : Int)), ((k : Int) < (g.ow.length : Nat)), (w45.cell? (ad79.add ((k : Int).toNat * 1)) = some (.int .i64 (gI g.ow (k))))] (by kernel_rfl) ⟨hA65, (by omega), (by omega), hc67, (congrArg Value.bool h69), hA72, (by omega), (by omega), hc74, (congrArg Value.bool h76), (bx54.cell (i := 0) rfl), hA80, (by omega), (by omega), hc81, trivial⟩ (fun act83 f82 => ?_)
    clear f60
    refine At.done rfl ?_
    refine t_n ?_
    refine wp_seq ?_
    refine At.start ?_
    obtain ⟨ad84, hA85, hb88, hc87, hc86⟩ := r52.get (k) (by omega) (by omega) (sz := 1) rfl
    rcases Bool.eq_false_or_eq_true (!(gB la k)) with h89 | h89
    ·have q90 : (gB la k) = false := by first | exact Eq.mp (Bool.not_eq_true' _) h89 | exact Eq.mp (Bool.not_eq_false' _) h89 | simpa using h89
     obtain ⟨ad92, hA93, hb96, hc95, hc94⟩ := ow55.get (k) (by omega) (by omega) (sz := 1) rfl
     refine At.rd f82 14 [[], [], [], [], [.ad ad84], [.ld (.bool (gB la k))], [], [.as_ (.bool true)], [], [], [], [], [], [.ad ad92]] [(72, .pointer (some (ad92.add ((k : Int).toNat * 1)))), (71, .bool true), (70, undef), (69, undef), (68, undef), (67, undef), (66, .bool true), (65, .bool (!(gB la k))), (64, .bool (gB la k)), (63, .pointer (some (ad84.add ((k : Int).toNat * 1)))), (62, .int .i64 (k)), (61, .slice Aa la.length ca), (60, .int .i64 (k)), (59, .slice A_40 dd.length c_41)] [(Aa = some ad84), (0 ≤ (k : Int)), ((k : Int) < (la.length : Nat)), (w45.cell? (ad84.add ((k : Int).toNat * 1)) = some (.bool (gB la k))), ((.bool (!(gB la k)) : Value) = .bool true), (A_40 = some ad92), (0 ≤ (k : Int)), ((k : Int) < (dd.length : Nat))] (by kernel_rfl) ⟨hA85, (by omega), (by omega), hc87, (congrArg Value.bool h89), hA93, (by omega), (by omega), trivial⟩ (fun act98 f97 => ?_)
     clear f82
     refine At.act f97 (storeR (α := Bool) (t := 4) (i := k) (ad := ad92) (v := .bool true) (true) (by kernel_rfl) rfl rfl (by kernel_rfl) hA93 ow55 (by omega) (by omega)) ?_
     rintro d_ v_ w99 ⟨rfl, g100, ow101⟩
     refine ⟨_, rfl, fun act104 f103 => ?_⟩
     clear f97
     have hl102 : ((dd).set (k : Int).toNat true).length = (dd).length := List.length_set
     have szw99 := g100.size
     replace e46 := e46.gr g100 (fun k hk => by have := ow55.ge k hk; omega)
     replace r49 := r49.gr g100 (fun k hk => by have := ow55.ge k hk; omega)
     replace r50 := r50.gr g100 (fun k hk => by have := ow55.ge k hk; omega)
     replace r51 := r51.gr g100 (fun k hk => by have := ow55.ge k hk; omega)
     replace r52 := r52.gr g100 (fun k hk => by have := ow55.ge k hk; omega)
     replace r53 := r53.gr g100 (fun k hk => by have := ow55.ge k hk; omega)
     replace bx54 := bx54.gr g100 (fun e => by have := ow55.ge _ e; omega)
     clear ow55 g100
     refine At.done rfl ?_
     refine t_n ?_
     refine wp_seq ?_
     refine wp_seq ?_
     refine At.start ?_
     refine At.rd f103 2 [[], []] [(74, .bool (!((gI g.ow (k) : Int) == p))), (73, .bool ((gI g.ow (k) : Int) == p))] [] (by kernel_rfl) trivial (fun act113 f112 => ?_)
     clear f103
     refine At.done rfl ?_
     refine t_n ?_
     refine cond_S f112 (t := !((gI g.ow (k) : Int) == p)) rfl (fun h114 => ?_) (fun h114 => ?_)
     ·have q115 : ((gI g.ow (k) : Int) == p) = false := by first | exact Eq.mp (Bool.not_eq_true' _) h114 | exact Eq.mp (Bool.not_eq_false' _) h114 | simpa using h114
      have q116 := ne_of_beq_false q115
      refine wp_seq ?_
      refine wp_seq ?_
      refine At.start ?_
      obtain ⟨ad117, hA118, _, _, hc119⟩ := RdI.get r53 (k) (by omega) (by omega)
      refine At.rd f112 5 [[], [], [.ad ad117], [.ld (.int .i64 (gI lm (k)))], [.as_ (.bool false)]] [(79, .bool false), (78, .int .i64 (gI lm (k))), (77, .pointer (some (ad117.add ((k : Int).toNat * 1)))), (76, .int .i64 (k)), (75, .slice Am lm.length cm)] [(Am = some ad117), (0 ≤ (k : Int)), ((k : Int) < (lm.length : Nat)), (w99.cell? (ad117.add ((k : Int).toNat * 1)) = some (.int .i64 (gI lm (k)))), ((.bool ((gI lm (k) : Int) != (-1)) : Value) = .bool false)] (by kernel_rfl) ⟨hA118, (by omega), (by omega), hc119, (congrArg Value.bool (bneF (need_no hmv (by omega) (by omega) (by first | exact .inl (by assumption) | exact .inr (.inl (by assumption)) | exact .inr (.inr (by omega)))))), trivial⟩ (fun act121 f120 => ?_)
      clear f112
      refine At.done rfl ?_
      refine t_n ?_
      refine cond_F f120 rfl ?_
      refine wp_skip ?_
      refine t_n ?_
      refine wp_exit ?_
      refine t_e ?_
      refine b_e ?_
      refine t_n ?_
      refine At.start ?_
      refine At.rd f120 3 [[], [.as_ (.int .i64 (k + 1))], []] [(15, .int .i64 (k + 1)), (38, .int .i64 (k + 1)), (37, .int .i64 (k))] [((.int .i64 (IntKind.i64.wrap (k + 1)) : Value) = .int .i64 (k + 1))] (by kernel_rfl) ⟨(w64 (by omega) (by omega)), trivial⟩ (fun act123 f122 => ?_)
      clear f120
      refine At.done rfl ?_
      refine t_n ?_
      have f124 := f122.as 14 (.slice A_40 dd.length c_41) (.slice A_40 (((dd).set (k : Int).toNat true : List Bool).length) c_41) rfl (slice_len (by first | rfl | omega | (simp; done) | (simp; omega)))
      clear f122
      have f125 := f124.sub (r := [(15, .int .i64 (k + 1)), (14, .slice A_40 (((dd).set (k : Int).toNat true : List Bool).length) c_41), (13, .int .i64 (((g.ow.length : Nat) : Int))), (6, .pointer (some ⟨w.heap.size, 0, none⟩)), (1, .slice Ai li.length ci), (2, .int .i64 (p)), (3, .slice Au lu.length cu), (4, .slice Aa la.length ca), (5, .slice Am lm.length cm)]) ⟨rfl, rfl, rfl, rfl, rfl, rfl, rfl, rfl, rfl, trivial⟩
      exact ⟨_, (by omega), (k + 1), ((dd).set (k : Int).toNat true : List Bool), A_40, c_41, rfl, f125, e46, r49, r50, r51, r52, r53, bx54, ow101, (by omega), (by omega), (don_next hdt (by omega) (by omega) (don_v (by first | exact .inl ⟨by assumption, rfl⟩ | exact .inr ⟨by assumption, rfl⟩ | exact .inr ⟨by assumption, Eq.symm (by assumption)⟩))), (by rw [List.length_set]; assumption), (by omega)⟩
     ·have q126 : ((gI g.ow (k) : Int) == p) = true := by first | exact Eq.mp (Bool.not_eq_true' _) h114 | exact Eq.mp (Bool.not_eq_false' _) h114 | simpa using h114
      have q127 := eq_of_beq q126
      refine wp_skip ?_
      refine t_n ?_
      refine wp_seq ?_
      have hnd_ := need_yes hmv (i := k) (by omega) (by omega) (by assumption) (by assumption) (by omega)
      have hq1 := hnd_.2.1
      have hq2 := hnd_.2.2.1
      refine At.start ?_
      refine At.rd f112 1 [[]] [(17, .bool false)] [] (by kernel_rfl) trivial (fun act129 f128 => ?_)
      clear f112
      refine At.done rfl ?_
      refine t_n ?_
      refine wp_seq ?_
      refine wp_seq ?_
      refine At.start ?_
      refine At.rd f128 1 [[]] [(18, .int .i64 (0))] [] (by kernel_rfl) trivial (fun act131 f130 => ?_)
      clear f128
      refine At.done rfl ?_
      refine t_n ?_
      refine wp_block ?_
      have f132 := f130.sub (r := [(18, .int .i64 (0)), (17, .bool false), (57, .bool ((gI g.ow (k) : Int) == p)), (56, .int .i64 (p)), (55, .int .i64 (gI g.ow (k))), (54, .pointer (some (ad79.add ((k : Int).toNat * 1)))), (53, .int .i64 (k)), (52, .slice Ag0 g.ow.length cg0), (51, .pointer (some ⟨w.heap.size, 0, none⟩)), (48, .bool (!(gB lu k))), (47, .bool (gB lu k)), (46, .pointer (some (ad71.add ((k : Int).toNat * 1)))), (45, .int .i64 (k)), (44, .slice Au lu.length cu), (15, .int .i64 (k)), (14, .slice A_40 dd.length c_41), (13, .int .i64 (((g.ow.length : Nat) : Int))), (6, .pointer (some ⟨w.heap.size, 0, none⟩)), (1, .slice Ai li.length ci), (2, .int .i64 (p)), (3, .slice Au lu.length cu), (4, .slice Aa la.length ca), (5, .slice Am lm.length cm)]) ⟨rfl, rfl, rfl, rfl, rfl, rfl, rfl, rfl, rfl, rfl, rfl, rfl, rfl, rfl, rfl, rfl, rfl, rfl, rfl, rfl, rfl, rfl, rfl, trivial⟩
      refine loop_g (fun (m_ : Nat) a_ w_ => ∃ (q : Int) (fi : Bool), m_ = (((gL g.mv k).length : Int) - q).toNat ∧ (Frm 200 a_ [(18, .int .i64 (q)), (17, .bool (fi)), (57, .bool ((gI g.ow (k) : Int) == p)), (56, .int .i64 (p)), (55, .int .i64 (gI g.ow (k))), (54, .pointer (some (ad79.add ((k : Int).toNat * 1)))), (53, .int .i64 (k)), (52, .slice Ag0 g.ow.length cg0), (51, .pointer (some ⟨w.heap.size, 0, none⟩)), (48, .bool (!(gB lu k))), (47, .bool (gB lu k)), (46, .pointer (some (ad71.add ((k : Int).toNat * 1)))), (45, .int .i64 (k)), (44, .slice Au lu.length cu), (15, .int .i64 (k)), (14, .slice A_40 dd.length c_41), (13, .int .i64 (((g.ow.length : Nat) : Int))), (6, .pointer (some ⟨w.heap.size, 0, none⟩)), (1, .slice Ai li.length ci), (2, .int .i64 (p)), (3, .slice Au lu.length cu), (4, .slice Aa la.length ca), (5, .slice Am lm.length cm)]) ∧ (Ext w w_) ∧ (RdG w_ 0 w.heap.size Ag0 Ag1 Ag2 cg0 cg1 cg2 g) ∧ (RdR w_ 0 w.heap.size Ai (li : List Bool)) ∧ (RdR w_ 0 w.heap.size Au (lu : List Bool)) ∧ (RdR w_ 0 w.heap.size Aa (la : List Bool)) ∧ (RdI w_ 0 w.heap.size Am lm) ∧ (Bx w_ (w.heap.size) [.slice Ag0 g.ow.length cg0, .slice Ag1 g.pr.length cg1, .slice Ag2 g.mv.length cg2] 25) ∧ (OwnR w_ (Sx (w1.heap.size) []) A_40 c_41 4 ((dd).set (k : Int).toNat true : List Bool)) ∧ (0 ≤ q) ∧ (q ≤ ((gL g.mv k).length : Int)) ∧ (fi = decide (gI lm k ∈ (gL g.mv k).take q.toNat)) ∧ (w1.heap.size ≤ w_.heap.size)) _ ⟨0, false, rfl, f132, e46, r49, r50, r51, r52, r53, bx54, ow101, (by omega), (Int.natCast_nonneg _), mem_0, (by omega)⟩ ?_
      clear f132 f130
      clear r49
      clear r50
      clear r51
      clear r52
      clear r53
      clear bx54
      clear ow101
      clear e46
      intro m_ act133 w134 ⟨q, fi, hm136, f137, e135, r138, r139, r140, r141, r142, bx143, ow144, i145, i146, hfi, i147⟩
      have szw134 := e135.size
      have := bx143.lt
      refine wp_seq ?_
      refine wp_seq ?_
      refine At.start ?_
      obtain ⟨ad148, R151, C152, hA149, _, _, hc150, hC153, r154⟩ := RdII.get r138.mv (k) (by omega) (by omega)
      have hl155 := r154.len
      refine At.rd f137 8 [[], [], [.ld (.slice Ag2 g.mv.length cg2)], [], [.ad ad148], [.ld (.slice R151 ((gL g.mv (k)).length) C152)], [], []] [(87, .bool (decide ((q : Int) < (((gL g.mv (k)).length : Nat) : Int)))), (86, .int .i64 ((((gL g.mv (k)).length : Nat) : Int))), (85, .slice R151 ((gL g.mv (k)).length) C152), (84, .pointer (some (ad148.add ((k : Int).toNat * 1)))), (83, .int .i64 (k)), (82, .slice Ag2 g.mv.length cg2), (81, .pointer (some ⟨w.heap.size, 2, none⟩)), (80, .int .i64 (q))] [(w134.cell? ⟨w.heap.size, 2, none⟩ = some (.slice Ag2 g.mv.length cg2)), (Ag2 = some ad148), (0 ≤ (k : Int)), ((k : Int) < (g.mv.length : Nat)), (w134.cell? (ad148.add ((k : Int).toNat * 1)) = some (.slice R151 ((gL g.mv (k)).length) C152))] (by kernel_rfl) ⟨(bx143.cell (i := 2) rfl), hA149, (by omega), (by omega), hc150, trivial⟩ (fun act158 f157 => ?_)
      clear f137
      refine At.done rfl ?_
      refine t_n ?_
      refine cond_S f157 (t := decide ((q : Int) < (((gL g.mv (k)).length : Nat) : Int))) rfl (fun h159 => ?_) (fun h159 => ?_)
      ·have q160 := of_decide_eq_true h159
       refine wp_skip ?_
       refine t_n ?_
       refine wp_seq ?_
       refine wp_block ?_
       rcases Bool.eq_false_or_eq_true (fi) with h161 | h161
       ·refine drawn_ro f157 (by kernel_rfl) (by kernel_rfl) [[], [.as_ (.bool true)], [], [], [], [], [], [], [], [], [], [], [], [], [], [], []] [(17, .bool true), (105, .bool true), (104, undef), (103, undef), (102, undef), (101, undef), (100, undef), (99, undef), (98, undef), (97, undef), (96, undef), (95, undef), (94, undef), (93, undef), (92, undef), (91, .bool true), (90, .bool (fi))] [((.bool (fi) : Value) = .bool true)] (by kernel_rfl) ⟨(congrArg Value.bool h161), trivial⟩ (fun act164 w165 hw166 f163 => ?_)
        clear f157
        have g167 := gr_drew hw166
        have szw165 := g167.size
        replace e135 := e135.gr g167 no_row
        replace r138 := r138.gr g167 (fun _ h => by cases h)
        replace r139 := r139.gr g167 (fun _ h => by cases h)
        replace r140 := r140.gr g167 (fun _ h => by cases h)
        replace r141 := r141.gr g167 (fun _ h => by cases h)
        replace r142 := r142.gr g167 (fun _ h => by cases h)
        replace bx143 := bx143.gr g167 (by simp)
        replace ow144 := ow144.gr g167 (fun _ _ h => by cases h)
        replace r154 := r154.gr g167 (fun _ h => by cases h)
        clear g167 hw166
        refine b_n ?_
        refine t_n ?_
        refine At.start ?_
        refine At.rd f163 3 [[], [.as_ (.int .i64 (q + 1))], []] [(18, .int .i64 (q + 1)), (89, .int .i64 (q + 1)), (88, .int .i64 (q))] [((.int .i64 (IntKind.i64.wrap (q + 1)) : Value) = .int .i64 (q + 1))] (by kernel_rfl) ⟨(w64 (by omega) (by omega)), trivial⟩ (fun act178 f177 => ?_)
        clear f163
        refine At.done rfl ?_
        refine t_n ?_
        have f179 := f177.sub (r := [(18, .int .i64 (q + 1)), (17, .bool true), (57, .bool ((gI g.ow (k) : Int) == p)), (56, .int .i64 (p)), (55, .int .i64 (gI g.ow (k))), (54, .pointer (some (ad79.add ((k : Int).toNat * 1)))), (53, .int .i64 (k)), (52, .slice Ag0 g.ow.length cg0), (51, .pointer (some ⟨w.heap.size, 0, none⟩)), (48, .bool (!(gB lu k))), (47, .bool (gB lu k)), (46, .pointer (some (ad71.add ((k : Int).toNat * 1)))), (45, .int .i64 (k)), (44, .slice Au lu.length cu), (15, .int .i64 (k)), (14, .slice A_40 dd.length c_41), (13, .int .i64 (((g.ow.length : Nat) : Int))), (6, .pointer (some ⟨w.heap.size, 0, none⟩)), (1, .slice Ai li.length ci), (2, .int .i64 (p)), (3, .slice Au lu.length cu), (4, .slice Aa la.length ca), (5, .slice Am lm.length cm)]) ⟨rfl, rfl, rfl, rfl, rfl, rfl, rfl, rfl, rfl, rfl, rfl, rfl, rfl, rfl, rfl, rfl, rfl, rfl, rfl, rfl, rfl, rfl, rfl, trivial⟩
        exact ⟨_, (by omega), (q + 1), true, rfl, f179, e135, r138, r139, r140, r141, r142, bx143, ow144, (by omega), (by omega), (mem_step hfi (by omega) (by omega) (by first | exact ⟨fun _ => .inl (by assumption), fun _ => by assumption⟩ | exact ⟨fun _ => .inl (by assumption), fun _ => rfl⟩ | exact (by constructor <;> intro h_ <;> (first | omega | simp_all | (simp_all; omega))))), (by omega)⟩
       ·obtain ⟨ad181, R184, C185, hA182, _, _, hc183, hC186, r187⟩ := RdII.get r138.mv (k) (by omega) (by omega)
        have hl188 := r187.len
        obtain ⟨ad190, hA191, _, _, hc192⟩ := RdI.get r187 (q) (by omega) (by omega)
        obtain ⟨ad193, hA194, _, _, hc195⟩ := RdI.get r142 (k) (by omega) (by omega)
        refine drawn_ro f157 (by kernel_rfl) (by kernel_rfl) [[], [.as_ (.bool false)], [], [.ld (.slice Ag2 g.mv.length cg2)], [], [.ad ad181], [.ld (.slice R184 ((gL g.mv (k)).length) C185)], [], [.ad ad190], [.ld (.int .i64 (gI (gL g.mv (k)) (q)))], [], [], [.ad ad193], [.ld (.int .i64 (gI lm (k)))], [], [], []] [(17, .bool ((gI (gL g.mv (k)) (q) : Int) == (gI lm (k)))), (105, .bool ((gI (gL g.mv (k)) (q) : Int) == (gI lm (k)))), (104, .bool ((gI (gL g.mv (k)) (q) : Int) == (gI lm (k)))), (103, .int .i64 (gI lm (k))), (102, .pointer (some (ad193.add ((k : Int).toNat * 1)))), (101, .int .i64 (k)), (100, .slice Am lm.length cm), (99, .int .i64 (gI (gL g.mv (k)) (q))), (98, .pointer (some (ad190.add ((q : Int).toNat * 1)))), (97, .int .i64 (q)), (96, .slice R184 ((gL g.mv (k)).length) C185), (95, .pointer (some (ad181.add ((k : Int).toNat * 1)))), (94, .int .i64 (k)), (93, .slice Ag2 g.mv.length cg2), (92, .pointer (some ⟨w.heap.size, 2, none⟩)), (91, .bool false), (90, .bool (fi))] [((.bool (fi) : Value) = .bool false), (w134.cell? ⟨w.heap.size, 2, none⟩ = some (.slice Ag2 g.mv.length cg2)), (Ag2 = some ad181), (0 ≤ (k : Int)), ((k : Int) < (g.mv.length : Nat)), (w134.cell? (ad181.add ((k : Int).toNat * 1)) = some (.slice R184 ((gL g.mv (k)).length) C185)), (R184 = some ad190), (0 ≤ (q : Int)), ((q : Int) < ((gL g.mv (k)).length : Nat)), (w134.cell? (ad190.add ((q : Int).toNat * 1)) = some (.int .i64 (gI (gL g.mv (k)) (q)))), (Am = some ad193), (0 ≤ (k : Int)), ((k : Int) < (lm.length : Nat)), (w134.cell? (ad193.add ((k : Int).toNat * 1)) = some (.int .i64 (gI lm (k))))] (by kernel_rfl) ⟨(congrArg Value.bool h161), (bx143.cell (i := 2) rfl), hA182, (by omega), (by omega), hc183, hA191, (by omega), (by omega), hc192, hA194, (by omega), (by omega), hc195, trivial⟩ (fun act197 w198 hw199 f196 => ?_)
        clear f157
        have g200 := gr_drew hw199
        have szw198 := g200.size
        replace e135 := e135.gr g200 no_row
        replace r138 := r138.gr g200 (fun _ h => by cases h)
        replace r139 := r139.gr g200 (fun _ h => by cases h)
        replace r140 := r140.gr g200 (fun _ h => by cases h)
        replace r141 := r141.gr g200 (fun _ h => by cases h)
        replace r142 := r142.gr g200 (fun _ h => by cases h)
        replace bx143 := bx143.gr g200 (by simp)
        replace ow144 := ow144.gr g200 (fun _ _ h => by cases h)
        replace r154 := r154.gr g200 (fun _ h => by cases h)
        replace r187 := r187.gr g200 (fun _ h => by cases h)
        clear g200 hw199
        refine b_n ?_
        refine t_n ?_
        refine At.start ?_
        refine At.rd f196 3 [[], [.as_ (.int .i64 (q + 1))], []] [(18, .int .i64 (q + 1)), (89, .int .i64 (q + 1)), (88, .int .i64 (q))] [((.int .i64 (IntKind.i64.wrap (q + 1)) : Value) = .int .i64 (q + 1))] (by kernel_rfl) ⟨(w64 (by omega) (by omega)), trivial⟩ (fun act212 f211 => ?_)
        clear f196
        refine At.done rfl ?_
        refine t_n ?_
        have f213 := f211.sub (r := [(18, .int .i64 (q + 1)), (17, .bool ((gI (gL g.mv (k)) (q) : Int) == (gI lm (k)))), (57, .bool ((gI g.ow (k) : Int) == p)), (56, .int .i64 (p)), (55, .int .i64 (gI g.ow (k))), (54, .pointer (some (ad79.add ((k : Int).toNat * 1)))), (53, .int .i64 (k)), (52, .slice Ag0 g.ow.length cg0), (51, .pointer (some ⟨w.heap.size, 0, none⟩)), (48, .bool (!(gB lu k))), (47, .bool (gB lu k)), (46, .pointer (some (ad71.add ((k : Int).toNat * 1)))), (45, .int .i64 (k)), (44, .slice Au lu.length cu), (15, .int .i64 (k)), (14, .slice A_40 dd.length c_41), (13, .int .i64 (((g.ow.length : Nat) : Int))), (6, .pointer (some ⟨w.heap.size, 0, none⟩)), (1, .slice Ai li.length ci), (2, .int .i64 (p)), (3, .slice Au lu.length cu), (4, .slice Aa la.length ca), (5, .slice Am lm.length cm)]) ⟨rfl, rfl, rfl, rfl, rfl, rfl, rfl, rfl, rfl, rfl, rfl, rfl, rfl, rfl, rfl, rfl, rfl, rfl, rfl, rfl, rfl, rfl, rfl, trivial⟩
        exact ⟨_, (by omega), (q + 1), ((gI (gL g.mv (k)) (q) : Int) == (gI lm (k))), rfl, f213, e135, r138, r139, r140, r141, r142, bx143, ow144, (by omega), (by omega), (mem_step hfi (by omega) (by omega) (by first | exact ⟨fun _ => .inl (by assumption), fun _ => by assumption⟩ | exact ⟨fun _ => .inl (by assumption), fun _ => rfl⟩ | exact (by constructor <;> intro h_ <;> (first | omega | simp_all | (simp_all; omega))))), (by omega)⟩
      ·have q214 := of_decide_eq_false h159
       refine wp_exit ?_
       refine t_e ?_
       refine t_e ?_
       refine b_e ?_
       refine t_n ?_
       refine wp_seq ?_
       have hfit : fi = true := by rw [hfi, List.take_of_length_le (by omega)]; exact decide_eq_true hnd_.1
       refine At.start ?_
       obtain ⟨ad215, hA216, _, _, hc217⟩ := RdI.get r142 (k) (by omega) (by omega)
       obtain ⟨ad218, hA219, hb222, hc221, hc220⟩ := r139.get (gI lm (k)) (by omega) (by omega) (sz := 1) rfl
       obtain ⟨ad223, hA224, _, _, hc225⟩ := RdI.get r142 (k) (by omega) (by omega)
       obtain ⟨ad226, hA227, hb230, hc229, hc228⟩ := r141.get (gI lm (k)) (by omega) (by omega) (sz := 1) rfl
       refine At.rd f157 22 [[], [.as_ (.bool false)], [], [], [], [], [.ad ad215], [.ld (.int .i64 (gI lm (k)))], [.ad ad218], [.ld (.bool (gB li (gI lm (k)))), .as_ (.bool true)], [], [], [], [], [], [], [.ad ad223], [.ld (.int .i64 (gI lm (k)))], [.ad ad226], [.ld (.bool (gB la (gI lm (k)))), .as_ (.bool true)], [], []] [(127, .bool false), (126, .bool false), (125, .bool true), (124, .pointer (some (ad226.add ((gI lm (k) : Int).toNat * 1)))), (123, .int .i64 (gI lm (k))), (122, .pointer (some (ad223.add ((k : Int).toNat * 1)))), (121, .int .i64 (k)), (120, .slice Am lm.length cm), (119, .slice Aa la.length ca), (118, .bool false), (117, .bool false), (116, .bool false), (115, .bool true), (114, .pointer (some (ad218.add ((gI lm (k) : Int).toNat * 1)))), (113, .int .i64 (gI lm (k))), (112, .pointer (some (ad215.add ((k : Int).toNat * 1)))), (111, .int .i64 (k)), (110, .slice Am lm.length cm), (109, .slice Ai li.length ci), (108, .bool false), (107, .bool false), (106, .bool (fi))] [((.bool (!fi) : Value) = .bool false), (Am = some ad215), (0 ≤ (k : Int)), ((k : Int) < (lm.length : Nat)), (w134.cell? (ad215.add ((k : Int).toNat * 1)) = some (.int .i64 (gI lm (k)))), (Ai = some ad218), (0 ≤ (gI lm (k) : Int)), ((gI lm (k) : Int) < (li.length : Nat)), (w134.cell? (ad218.add ((gI lm (k) : Int).toNat * 1)) = some (.bool (gB li (gI lm (k))))), ((.bool (gB li (gI lm (k))) : Value) = .bool true), (Am = some ad223), (0 ≤ (k : Int)), ((k : Int) < (lm.length : Nat)), (w134.cell? (ad223.add ((k : Int).toNat * 1)) = some (.int .i64 (gI lm (k)))), (Aa = some ad226), (0 ≤ (gI lm (k) : Int)), ((gI lm (k) : Int) < (la.length : Nat)), (w134.cell? (ad226.add ((gI lm (k) : Int).toNat * 1)) = some (.bool (gB la (gI lm (k))))), ((.bool (gB la (gI lm (k))) : Value) = .bool true)] (by kernel_rfl) ⟨(congrArg Value.bool (by rw [hfit]; rfl)), hA216, (by omega), (by omega), hc217, hA219, (by omega), (by omega), hc221, (congrArg Value.bool hnd_.2.2.2.1), hA224, (by omega), (by omega), hc225, hA227, (by omega), (by omega), hc229, (congrArg Value.bool (hnd_.2.2.2.2 (by omega))), trivial⟩ (fun act232 f231 => ?_)
       clear f157
       refine At.done rfl ?_
       refine t_n ?_
       refine cond_F f231 rfl ?_
       refine wp_skip ?_
       refine b_n ?_
       refine t_n ?_
       refine At.start ?_
       refine At.rd f231 3 [[], [.as_ (.int .i64 (k + 1))], []] [(15, .int .i64 (k + 1)), (38, .int .i64 (k + 1)), (37, .int .i64 (k))] [((.int .i64 (IntKind.i64.wrap (k + 1)) : Value) = .int .i64 (k + 1))] (by kernel_rfl) ⟨(w64 (by omega) (by omega)), trivial⟩ (fun act234 f233 => ?_)
       clear f231
       refine At.done rfl ?_
       refine t_n ?_
       have f235 := f233.as 14 (.slice A_40 dd.length c_41) (.slice A_40 (((dd).set (k : Int).toNat true : List Bool).length) c_41) rfl (slice_len (by first | rfl | omega | (simp; done) | (simp; omega)))
       clear f233
       have f236 := f235.sub (r := [(15, .int .i64 (k + 1)), (14, .slice A_40 (((dd).set (k : Int).toNat true : List Bool).length) c_41), (13, .int .i64 (((g.ow.length : Nat) : Int))), (6, .pointer (some ⟨w.heap.size, 0, none⟩)), (1, .slice Ai li.length ci), (2, .int .i64 (p)), (3, .slice Au lu.length cu), (4, .slice Aa la.length ca), (5, .slice Am lm.length cm)]) ⟨rfl, rfl, rfl, rfl, rfl, rfl, rfl, rfl, rfl, trivial⟩
       exact ⟨_, (by omega), (k + 1), ((dd).set (k : Int).toNat true : List Bool), A_40, c_41, rfl, f236, e135, r138, r139, r140, r141, r142, bx143, ow144, (by omega), (by omega), (don_next hdt (by omega) (by omega) (don_v (by first | exact .inl ⟨by assumption, rfl⟩ | exact .inr ⟨by assumption, rfl⟩ | exact .inr ⟨by assumption, Eq.symm (by assumption)⟩))), (by rw [List.length_set]; assumption), (by omega)⟩
    ·have q237 : (gB la k) = true := by first | exact Eq.mp (Bool.not_eq_true' _) h89 | exact Eq.mp (Bool.not_eq_false' _) h89 | simpa using h89
     obtain ⟨ad239, hA240, hb243, hc242, hc241⟩ := r51.get (k) (by omega) (by omega) (sz := 1) rfl
     obtain ⟨ad244, hA245, hb248, hc247, hc246⟩ := ow55.get (k) (by omega) (by omega) (sz := 1) rfl
     refine At.rd f82 14 [[], [], [], [], [.ad ad84], [.ld (.bool (gB la k))], [], [.as_ (.bool false)], [], [], [.ad ad239], [.ld (.bool (gB lu k))], [], [.ad ad244]] [(72, .pointer (some (ad244.add ((k : Int).toNat * 1)))), (71, .bool (gB lu k)), (70, .bool (gB lu k)), (69, .pointer (some (ad239.add ((k : Int).toNat * 1)))), (68, .int .i64 (k)), (67, .slice Au lu.length cu), (66, .bool false), (65, .bool (!(gB la k))), (64, .bool (gB la k)), (63, .pointer (some (ad84.add ((k : Int).toNat * 1)))), (62, .int .i64 (k)), (61, .slice Aa la.length ca), (60, .int .i64 (k)), (59, .slice A_40 dd.length c_41)] [(Aa = some ad84), (0 ≤ (k : Int)), ((k : Int) < (la.length : Nat)), (w45.cell? (ad84.add ((k : Int).toNat * 1)) = some (.bool (gB la k))), ((.bool (!(gB la k)) : Value) = .bool false), (Au = some ad239), (0 ≤ (k : Int)), ((k : Int) < (lu.length : Nat)), (w45.cell? (ad239.add ((k : Int).toNat * 1)) = some (.bool (gB lu k))), (A_40 = some ad244), (0 ≤ (k : Int)), ((k : Int) < (dd.length : Nat))] (by kernel_rfl) ⟨hA85, (by omega), (by omega), hc87, (congrArg Value.bool h89), hA240, (by omega), (by omega), hc242, hA245, (by omega), (by omega), trivial⟩ (fun act250 f249 => ?_)
     clear f82
     refine At.act f249 (storeR (α := Bool) (t := 4) (i := k) (ad := ad244) (v := .bool (gB lu k)) (gB lu k) (by kernel_rfl) rfl rfl (by kernel_rfl) hA245 ow55 (by omega) (by omega)) ?_
     rintro d_ v_ w251 ⟨rfl, g252, ow253⟩
     refine ⟨_, rfl, fun act256 f255 => ?_⟩
     clear f249
     have hl254 : ((dd).set (k : Int).toNat (gB lu k)).length = (dd).length := List.length_set
     have szw251 := g252.size
     replace e46 := e46.gr g252 (fun k hk => by have := ow55.ge k hk; omega)
     replace r49 := r49.gr g252 (fun k hk => by have := ow55.ge k hk; omega)
     replace r50 := r50.gr g252 (fun k hk => by have := ow55.ge k hk; omega)
     replace r51 := r51.gr g252 (fun k hk => by have := ow55.ge k hk; omega)
     replace r52 := r52.gr g252 (fun k hk => by have := ow55.ge k hk; omega)
     replace r53 := r53.gr g252 (fun k hk => by have := ow55.ge k hk; omega)
     replace bx54 := bx54.gr g252 (fun e => by have := ow55.ge _ e; omega)
     clear ow55 g252
     refine At.done rfl ?_
     refine t_n ?_
     refine wp_seq ?_
     refine wp_seq ?_
     refine At.start ?_
     refine At.rd f255 2 [[], []] [(74, .bool (!((gI g.ow (k) : Int) == p))), (73, .bool ((gI g.ow (k) : Int) == p))] [] (by kernel_rfl) trivial (fun act265 f264 => ?_)
     clear f255
     refine At.done rfl ?_
     refine t_n ?_
     refine cond_S f264 (t := !((gI g.ow (k) : Int) == p)) rfl (fun h266 => ?_) (fun h266 => ?_)
     ·have q267 : ((gI g.ow (k) : Int) == p) = false := by first | exact Eq.mp (Bool.not_eq_true' _) h266 | exact Eq.mp (Bool.not_eq_false' _) h266 | simpa using h266
      have q268 := ne_of_beq_false q267
      refine wp_seq ?_
      refine wp_seq ?_
      refine At.start ?_
      obtain ⟨ad269, hA270, _, _, hc271⟩ := RdI.get r53 (k) (by omega) (by omega)
      refine At.rd f264 5 [[], [], [.ad ad269], [.ld (.int .i64 (gI lm (k)))], [.as_ (.bool false)]] [(79, .bool false), (78, .int .i64 (gI lm (k))), (77, .pointer (some (ad269.add ((k : Int).toNat * 1)))), (76, .int .i64 (k)), (75, .slice Am lm.length cm)] [(Am = some ad269), (0 ≤ (k : Int)), ((k : Int) < (lm.length : Nat)), (w251.cell? (ad269.add ((k : Int).toNat * 1)) = some (.int .i64 (gI lm (k)))), ((.bool ((gI lm (k) : Int) != (-1)) : Value) = .bool false)] (by kernel_rfl) ⟨hA270, (by omega), (by omega), hc271, (congrArg Value.bool (bneF (need_no hmv (by omega) (by omega) (by first | exact .inl (by assumption) | exact .inr (.inl (by assumption)) | exact .inr (.inr (by omega)))))), trivial⟩ (fun act273 f272 => ?_)
      clear f264
      refine At.done rfl ?_
      refine t_n ?_
      refine cond_F f272 rfl ?_
      refine wp_skip ?_
      refine t_n ?_
      refine wp_exit ?_
      refine t_e ?_
      refine b_e ?_
      refine t_n ?_
      refine At.start ?_
      refine At.rd f272 3 [[], [.as_ (.int .i64 (k + 1))], []] [(15, .int .i64 (k + 1)), (38, .int .i64 (k + 1)), (37, .int .i64 (k))] [((.int .i64 (IntKind.i64.wrap (k + 1)) : Value) = .int .i64 (k + 1))] (by kernel_rfl) ⟨(w64 (by omega) (by omega)), trivial⟩ (fun act275 f274 => ?_)
      clear f272
      refine At.done rfl ?_
      refine t_n ?_
      have f276 := f274.as 14 (.slice A_40 dd.length c_41) (.slice A_40 (((dd).set (k : Int).toNat (gB lu k) : List Bool).length) c_41) rfl (slice_len (by first | rfl | omega | (simp; done) | (simp; omega)))
      clear f274
      have f277 := f276.sub (r := [(15, .int .i64 (k + 1)), (14, .slice A_40 (((dd).set (k : Int).toNat (gB lu k) : List Bool).length) c_41), (13, .int .i64 (((g.ow.length : Nat) : Int))), (6, .pointer (some ⟨w.heap.size, 0, none⟩)), (1, .slice Ai li.length ci), (2, .int .i64 (p)), (3, .slice Au lu.length cu), (4, .slice Aa la.length ca), (5, .slice Am lm.length cm)]) ⟨rfl, rfl, rfl, rfl, rfl, rfl, rfl, rfl, rfl, trivial⟩
      exact ⟨_, (by omega), (k + 1), ((dd).set (k : Int).toNat (gB lu k) : List Bool), A_40, c_41, rfl, f277, e46, r49, r50, r51, r52, r53, bx54, ow253, (by omega), (by omega), (don_next hdt (by omega) (by omega) (don_v (by first | exact .inl ⟨by assumption, rfl⟩ | exact .inr ⟨by assumption, rfl⟩ | exact .inr ⟨by assumption, Eq.symm (by assumption)⟩))), (by rw [List.length_set]; assumption), (by omega)⟩
     ·have q278 : ((gI g.ow (k) : Int) == p) = true := by first | exact Eq.mp (Bool.not_eq_true' _) h266 | exact Eq.mp (Bool.not_eq_false' _) h266 | simpa using h266
      have q279 := eq_of_beq q278
      refine wp_skip ?_
      refine t_n ?_
      refine wp_seq ?_
      have hnd_ := need_yes hmv (i := k) (by omega) (by omega) (by assumption) (by assumption) (by omega)
      have hq1 := hnd_.2.1
      have hq2 := hnd_.2.2.1
      refine At.start ?_
      refine At.rd f264 1 [[]] [(17, .bool false)] [] (by kernel_rfl) trivial (fun act281 f280 => ?_)
      clear f264
      refine At.done rfl ?_
      refine t_n ?_
      refine wp_seq ?_
      refine wp_seq ?_
      refine At.start ?_
      refine At.rd f280 1 [[]] [(18, .int .i64 (0))] [] (by kernel_rfl) trivial (fun act283 f282 => ?_)
      clear f280
      refine At.done rfl ?_
      refine t_n ?_
      refine wp_block ?_
      have f284 := f282.sub (r := [(18, .int .i64 (0)), (17, .bool false), (70, .bool (gB lu k)), (69, .pointer (some (ad239.add ((k : Int).toNat * 1)))), (68, .int .i64 (k)), (67, .slice Au lu.length cu), (57, .bool ((gI g.ow (k) : Int) == p)), (56, .int .i64 (p)), (55, .int .i64 (gI g.ow (k))), (54, .pointer (some (ad79.add ((k : Int).toNat * 1)))), (53, .int .i64 (k)), (52, .slice Ag0 g.ow.length cg0), (51, .pointer (some ⟨w.heap.size, 0, none⟩)), (48, .bool (!(gB lu k))), (47, .bool (gB lu k)), (46, .pointer (some (ad71.add ((k : Int).toNat * 1)))), (45, .int .i64 (k)), (44, .slice Au lu.length cu), (15, .int .i64 (k)), (14, .slice A_40 dd.length c_41), (13, .int .i64 (((g.ow.length : Nat) : Int))), (6, .pointer (some ⟨w.heap.size, 0, none⟩)), (1, .slice Ai li.length ci), (2, .int .i64 (p)), (3, .slice Au lu.length cu), (4, .slice Aa la.length ca), (5, .slice Am lm.length cm)]) ⟨rfl, rfl, rfl, rfl, rfl, rfl, rfl, rfl, rfl, rfl, rfl, rfl, rfl, rfl, rfl, rfl, rfl, rfl, rfl, rfl, rfl, rfl, rfl, rfl, rfl, rfl, rfl, trivial⟩
      refine loop_g (fun (m_ : Nat) a_ w_ => ∃ (q : Int) (fi : Bool), m_ = (((gL g.mv k).length : Int) - q).toNat ∧ (Frm 200 a_ [(18, .int .i64 (q)), (17, .bool (fi)), (70, .bool (gB lu k)), (69, .pointer (some (ad239.add ((k : Int).toNat * 1)))), (68, .int .i64 (k)), (67, .slice Au lu.length cu), (57, .bool ((gI g.ow (k) : Int) == p)), (56, .int .i64 (p)), (55, .int .i64 (gI g.ow (k))), (54, .pointer (some (ad79.add ((k : Int).toNat * 1)))), (53, .int .i64 (k)), (52, .slice Ag0 g.ow.length cg0), (51, .pointer (some ⟨w.heap.size, 0, none⟩)), (48, .bool (!(gB lu k))), (47, .bool (gB lu k)), (46, .pointer (some (ad71.add ((k : Int).toNat * 1)))), (45, .int .i64 (k)), (44, .slice Au lu.length cu), (15, .int .i64 (k)), (14, .slice A_40 dd.length c_41), (13, .int .i64 (((g.ow.length : Nat) : Int))), (6, .pointer (some ⟨w.heap.size, 0, none⟩)), (1, .slice Ai li.length ci), (2, .int .i64 (p)), (3, .slice Au lu.length cu), (4, .slice Aa la.length ca), (5, .slice Am lm.length cm)]) ∧ (Ext w w_) ∧ (RdG w_ 0 w.heap.size Ag0 Ag1 Ag2 cg0 cg1 cg2 g) ∧ (RdR w_ 0 w.heap.size Ai (li : List Bool)) ∧ (RdR w_ 0 w.heap.size Au (lu : List Bool)) ∧ (RdR w_ 0 w.heap.size Aa (la : List Bool)) ∧ (RdI w_ 0 w.heap.size Am lm) ∧ (Bx w_ (w.heap.size) [.slice Ag0 g.ow.length cg0, .slice Ag1 g.pr.length cg1, .slice Ag2 g.mv.length cg2] 25) ∧ (OwnR w_ (Sx (w1.heap.size) []) A_40 c_41 4 ((dd).set (k : Int).toNat (gB lu k) : List Bool)) ∧ (0 ≤ q) ∧ (q ≤ ((gL g.mv k).length : Int)) ∧ (fi = decide (gI lm k ∈ (gL g.mv k).take q.toNat)) ∧ (w1.heap.size ≤ w_.heap.size)) _ ⟨0, false, rfl, f284, e46, r49, r50, r51, r52, r53, bx54, ow253, (by omega), (Int.natCast_nonneg _), mem_0, (by omega)⟩ ?_
      clear f284 f282
      clear r49
      clear r50
      clear r51
      clear r52
      clear r53
      clear bx54
      clear ow253
      clear e46
      intro m_ act285 w286 ⟨q, fi, hm288, f289, e287, r290, r291, r292, r293, r294, bx295, ow296, i297, i298, hfi, i299⟩
      have szw286 := e287.size
      have := bx295.lt
      refine wp_seq ?_
      refine wp_seq ?_
      refine At.start ?_
      obtain ⟨ad300, R303, C304, hA301, _, _, hc302, hC305, r306⟩ := RdII.get r290.mv (k) (by omega) (by omega)
      have hl307 := r306.len
      refine At.rd f289 8 [[], [], [.ld (.slice Ag2 g.mv.length cg2)], [], [.ad ad300], [.ld (.slice R303 ((gL g.mv (k)).length) C304)], [], []] [(87, .bool (decide ((q : Int) < (((gL g.mv (k)).length : Nat) : Int)))), (86, .int .i64 ((((gL g.mv (k)).length : Nat) : Int))), (85, .slice R303 ((gL g.mv (k)).length) C304), (84, .pointer (some (ad300.add ((k : Int).toNat * 1)))), (83, .int .i64 (k)), (82, .slice Ag2 g.mv.length cg2), (81, .pointer (some ⟨w.heap.size, 2, none⟩)), (80, .int .i64 (q))] [(w286.cell? ⟨w.heap.size, 2, none⟩ = some (.slice Ag2 g.mv.length cg2)), (Ag2 = some ad300), (0 ≤ (k : Int)), ((k : Int) < (g.mv.length : Nat)), (w286.cell? (ad300.add ((k : Int).toNat * 1)) = some (.slice R303 ((gL g.mv (k)).length) C304))] (by kernel_rfl) ⟨(bx295.cell (i := 2) rfl), hA301, (by omega), (by omega), hc302, trivial⟩ (fun act310 f309 => ?_)
      clear f289
      refine At.done rfl ?_
      refine t_n ?_
      refine cond_S f309 (t := decide ((q : Int) < (((gL g.mv (k)).length : Nat) : Int))) rfl (fun h311 => ?_) (fun h311 => ?_)
      ·have q312 := of_decide_eq_true h311
       refine wp_skip ?_
       refine t_n ?_
       refine wp_seq ?_
       refine wp_block ?_
       rcases Bool.eq_false_or_eq_true (fi) with h313 | h313
       ·refine drawn_ro f309 (by kernel_rfl) (by kernel_rfl) [[], [.as_ (.bool true)], [], [], [], [], [], [], [], [], [], [], [], [], [], [], []] [(17, .bool true), (105, .bool true), (104, undef), (103, undef), (102, undef), (101, undef), (100, undef), (99, undef), (98, undef), (97, undef), (96, undef), (95, undef), (94, undef), (93, undef), (92, undef), (91, .bool true), (90, .bool (fi))] [((.bool (fi) : Value) = .bool true)] (by kernel_rfl) ⟨(congrArg Value.bool h313), trivial⟩ (fun act316 w317 hw318 f315 => ?_)
        clear f309
        have g319 := gr_drew hw318
        have szw317 := g319.size
        replace e287 := e287.gr g319 no_row
        replace r290 := r290.gr g319 (fun _ h => by cases h)
        replace r291 := r291.gr g319 (fun _ h => by cases h)
        replace r292 := r292.gr g319 (fun _ h => by cases h)
        replace r293 := r293.gr g319 (fun _ h => by cases h)
        replace r294 := r294.gr g319 (fun _ h => by cases h)
        replace bx295 := bx295.gr g319 (by simp)
        replace ow296 := ow296.gr g319 (fun _ _ h => by cases h)
        replace r306 := r306.gr g319 (fun _ h => by cases h)
        clear g319 hw318
        refine b_n ?_
        refine t_n ?_
        refine At.start ?_
        refine At.rd f315 3 [[], [.as_ (.int .i64 (q + 1))], []] [(18, .int .i64 (q + 1)), (89, .int .i64 (q + 1)), (88, .int .i64 (q))] [((.int .i64 (IntKind.i64.wrap (q + 1)) : Value) = .int .i64 (q + 1))] (by kernel_rfl) ⟨(w64 (by omega) (by omega)), trivial⟩ (fun act330 f329 => ?_)
        clear f315
        refine At.done rfl ?_
        refine t_n ?_
        have f331 := f329.sub (r := [(18, .int .i64 (q + 1)), (17, .bool true), (70, .bool (gB lu k)), (69, .pointer (some (ad239.add ((k : Int).toNat * 1)))), (68, .int .i64 (k)), (67, .slice Au lu.length cu), (57, .bool ((gI g.ow (k) : Int) == p)), (56, .int .i64 (p)), (55, .int .i64 (gI g.ow (k))), (54, .pointer (some (ad79.add ((k : Int).toNat * 1)))), (53, .int .i64 (k)), (52, .slice Ag0 g.ow.length cg0), (51, .pointer (some ⟨w.heap.size, 0, none⟩)), (48, .bool (!(gB lu k))), (47, .bool (gB lu k)), (46, .pointer (some (ad71.add ((k : Int).toNat * 1)))), (45, .int .i64 (k)), (44, .slice Au lu.length cu), (15, .int .i64 (k)), (14, .slice A_40 dd.length c_41), (13, .int .i64 (((g.ow.length : Nat) : Int))), (6, .pointer (some ⟨w.heap.size, 0, none⟩)), (1, .slice Ai li.length ci), (2, .int .i64 (p)), (3, .slice Au lu.length cu), (4, .slice Aa la.length ca), (5, .slice Am lm.length cm)]) ⟨rfl, rfl, rfl, rfl, rfl, rfl, rfl, rfl, rfl, rfl, rfl, rfl, rfl, rfl, rfl, rfl, rfl, rfl, rfl, rfl, rfl, rfl, rfl, rfl, rfl, rfl, rfl, trivial⟩
        exact ⟨_, (by omega), (q + 1), true, rfl, f331, e287, r290, r291, r292, r293, r294, bx295, ow296, (by omega), (by omega), (mem_step hfi (by omega) (by omega) (by first | exact ⟨fun _ => .inl (by assumption), fun _ => by assumption⟩ | exact ⟨fun _ => .inl (by assumption), fun _ => rfl⟩ | exact (by constructor <;> intro h_ <;> (first | omega | simp_all | (simp_all; omega))))), (by omega)⟩
       ·obtain ⟨ad333, R336, C337, hA334, _, _, hc335, hC338, r339⟩ := RdII.get r290.mv (k) (by omega) (by omega)
        have hl340 := r339.len
        obtain ⟨ad342, hA343, _, _, hc344⟩ := RdI.get r339 (q) (by omega) (by omega)
        obtain ⟨ad345, hA346, _, _, hc347⟩ := RdI.get r294 (k) (by omega) (by omega)
        refine drawn_ro f309 (by kernel_rfl) (by kernel_rfl) [[], [.as_ (.bool false)], [], [.ld (.slice Ag2 g.mv.length cg2)], [], [.ad ad333], [.ld (.slice R336 ((gL g.mv (k)).length) C337)], [], [.ad ad342], [.ld (.int .i64 (gI (gL g.mv (k)) (q)))], [], [], [.ad ad345], [.ld (.int .i64 (gI lm (k)))], [], [], []] [(17, .bool ((gI (gL g.mv (k)) (q) : Int) == (gI lm (k)))), (105, .bool ((gI (gL g.mv (k)) (q) : Int) == (gI lm (k)))), (104, .bool ((gI (gL g.mv (k)) (q) : Int) == (gI lm (k)))), (103, .int .i64 (gI lm (k))), (102, .pointer (some (ad345.add ((k : Int).toNat * 1)))), (101, .int .i64 (k)), (100, .slice Am lm.length cm), (99, .int .i64 (gI (gL g.mv (k)) (q))), (98, .pointer (some (ad342.add ((q : Int).toNat * 1)))), (97, .int .i64 (q)), (96, .slice R336 ((gL g.mv (k)).length) C337), (95, .pointer (some (ad333.add ((k : Int).toNat * 1)))), (94, .int .i64 (k)), (93, .slice Ag2 g.mv.length cg2), (92, .pointer (some ⟨w.heap.size, 2, none⟩)), (91, .bool false), (90, .bool (fi))] [((.bool (fi) : Value) = .bool false), (w286.cell? ⟨w.heap.size, 2, none⟩ = some (.slice Ag2 g.mv.length cg2)), (Ag2 = some ad333), (0 ≤ (k : Int)), ((k : Int) < (g.mv.length : Nat)), (w286.cell? (ad333.add ((k : Int).toNat * 1)) = some (.slice R336 ((gL g.mv (k)).length) C337)), (R336 = some ad342), (0 ≤ (q : Int)), ((q : Int) < ((gL g.mv (k)).length : Nat)), (w286.cell? (ad342.add ((q : Int).toNat * 1)) = some (.int .i64 (gI (gL g.mv (k)) (q)))), (Am = some ad345), (0 ≤ (k : Int)), ((k : Int) < (lm.length : Nat)), (w286.cell? (ad345.add ((k : Int).toNat * 1)) = some (.int .i64 (gI lm (k))))] (by kernel_rfl) ⟨(congrArg Value.bool h313), (bx295.cell (i := 2) rfl), hA334, (by omega), (by omega), hc335, hA343, (by omega), (by omega), hc344, hA346, (by omega), (by omega), hc347, trivial⟩ (fun act349 w350 hw351 f348 => ?_)
        clear f309
        have g352 := gr_drew hw351
        have szw350 := g352.size
        replace e287 := e287.gr g352 no_row
        replace r290 := r290.gr g352 (fun _ h => by cases h)
        replace r291 := r291.gr g352 (fun _ h => by cases h)
        replace r292 := r292.gr g352 (fun _ h => by cases h)
        replace r293 := r293.gr g352 (fun _ h => by cases h)
        replace r294 := r294.gr g352 (fun _ h => by cases h)
        replace bx295 := bx295.gr g352 (by simp)
        replace ow296 := ow296.gr g352 (fun _ _ h => by cases h)
        replace r306 := r306.gr g352 (fun _ h => by cases h)
        replace r339 := r339.gr g352 (fun _ h => by cases h)
        clear g352 hw351
        refine b_n ?_
        refine t_n ?_
        refine At.start ?_
        refine At.rd f348 3 [[], [.as_ (.int .i64 (q + 1))], []] [(18, .int .i64 (q + 1)), (89, .int .i64 (q + 1)), (88, .int .i64 (q))] [((.int .i64 (IntKind.i64.wrap (q + 1)) : Value) = .int .i64 (q + 1))] (by kernel_rfl) ⟨(w64 (by omega) (by omega)), trivial⟩ (fun act364 f363 => ?_)
        clear f348
        refine At.done rfl ?_
        refine t_n ?_
        have f365 := f363.sub (r := [(18, .int .i64 (q + 1)), (17, .bool ((gI (gL g.mv (k)) (q) : Int) == (gI lm (k)))), (70, .bool (gB lu k)), (69, .pointer (some (ad239.add ((k : Int).toNat * 1)))), (68, .int .i64 (k)), (67, .slice Au lu.length cu), (57, .bool ((gI g.ow (k) : Int) == p)), (56, .int .i64 (p)), (55, .int .i64 (gI g.ow (k))), (54, .pointer (some (ad79.add ((k : Int).toNat * 1)))), (53, .int .i64 (k)), (52, .slice Ag0 g.ow.length cg0), (51, .pointer (some ⟨w.heap.size, 0, none⟩)), (48, .bool (!(gB lu k))), (47, .bool (gB lu k)), (46, .pointer (some (ad71.add ((k : Int).toNat * 1)))), (45, .int .i64 (k)), (44, .slice Au lu.length cu), (15, .int .i64 (k)), (14, .slice A_40 dd.length c_41), (13, .int .i64 (((g.ow.length : Nat) : Int))), (6, .pointer (some ⟨w.heap.size, 0, none⟩)), (1, .slice Ai li.length ci), (2, .int .i64 (p)), (3, .slice Au lu.length cu), (4, .slice Aa la.length ca), (5, .slice Am lm.length cm)]) ⟨rfl, rfl, rfl, rfl, rfl, rfl, rfl, rfl, rfl, rfl, rfl, rfl, rfl, rfl, rfl, rfl, rfl, rfl, rfl, rfl, rfl, rfl, rfl, rfl, rfl, rfl, rfl, trivial⟩
        exact ⟨_, (by omega), (q + 1), ((gI (gL g.mv (k)) (q) : Int) == (gI lm (k))), rfl, f365, e287, r290, r291, r292, r293, r294, bx295, ow296, (by omega), (by omega), (mem_step hfi (by omega) (by omega) (by first | exact ⟨fun _ => .inl (by assumption), fun _ => by assumption⟩ | exact ⟨fun _ => .inl (by assumption), fun _ => rfl⟩ | exact (by constructor <;> intro h_ <;> (first | omega | simp_all | (simp_all; omega))))), (by omega)⟩
      ·have q366 := of_decide_eq_false h311
       refine wp_exit ?_
       refine t_e ?_
       refine t_e ?_
       refine b_e ?_
       refine t_n ?_
       refine wp_seq ?_
       have hfit : fi = true := by rw [hfi, List.take_of_length_le (by omega)]; exact decide_eq_true hnd_.1
       refine At.start ?_
       obtain ⟨ad367, hA368, _, _, hc369⟩ := RdI.get r294 (k) (by omega) (by omega)
       obtain ⟨ad370, hA371, hb374, hc373, hc372⟩ := r291.get (gI lm (k)) (by omega) (by omega) (sz := 1) rfl
       obtain ⟨ad375, hA376, _, _, hc377⟩ := RdI.get r294 (k) (by omega) (by omega)
       obtain ⟨ad378, hA379, hb382, hc381, hc380⟩ := r293.get (gI lm (k)) (by omega) (by omega) (sz := 1) rfl
       refine At.rd f309 22 [[], [.as_ (.bool false)], [], [], [], [], [.ad ad367], [.ld (.int .i64 (gI lm (k)))], [.ad ad370], [.ld (.bool (gB li (gI lm (k)))), .as_ (.bool true)], [], [], [], [], [], [], [.ad ad375], [.ld (.int .i64 (gI lm (k)))], [.ad ad378], [.ld (.bool (gB la (gI lm (k)))), .as_ (.bool true)], [], []] [(127, .bool false), (126, .bool false), (125, .bool true), (124, .pointer (some (ad378.add ((gI lm (k) : Int).toNat * 1)))), (123, .int .i64 (gI lm (k))), (122, .pointer (some (ad375.add ((k : Int).toNat * 1)))), (121, .int .i64 (k)), (120, .slice Am lm.length cm), (119, .slice Aa la.length ca), (118, .bool false), (117, .bool false), (116, .bool false), (115, .bool true), (114, .pointer (some (ad370.add ((gI lm (k) : Int).toNat * 1)))), (113, .int .i64 (gI lm (k))), (112, .pointer (some (ad367.add ((k : Int).toNat * 1)))), (111, .int .i64 (k)), (110, .slice Am lm.length cm), (109, .slice Ai li.length ci), (108, .bool false), (107, .bool false), (106, .bool (fi))] [((.bool (!fi) : Value) = .bool false), (Am = some ad367), (0 ≤ (k : Int)), ((k : Int) < (lm.length : Nat)), (w286.cell? (ad367.add ((k : Int).toNat * 1)) = some (.int .i64 (gI lm (k)))), (Ai = some ad370), (0 ≤ (gI lm (k) : Int)), ((gI lm (k) : Int) < (li.length : Nat)), (w286.cell? (ad370.add ((gI lm (k) : Int).toNat * 1)) = some (.bool (gB li (gI lm (k))))), ((.bool (gB li (gI lm (k))) : Value) = .bool true), (Am = some ad375), (0 ≤ (k : Int)), ((k : Int) < (lm.length : Nat)), (w286.cell? (ad375.add ((k : Int).toNat * 1)) = some (.int .i64 (gI lm (k)))), (Aa = some ad378), (0 ≤ (gI lm (k) : Int)), ((gI lm (k) : Int) < (la.length : Nat)), (w286.cell? (ad378.add ((gI lm (k) : Int).toNat * 1)) = some (.bool (gB la (gI lm (k))))), ((.bool (gB la (gI lm (k))) : Value) = .bool true)] (by kernel_rfl) ⟨(congrArg Value.bool (by rw [hfit]; rfl)), hA368, (by omega), (by omega), hc369, hA371, (by omega), (by omega), hc373, (congrArg Value.bool hnd_.2.2.2.1), hA376, (by omega), (by omega), hc377, hA379, (by omega), (by omega), hc381, (congrArg Value.bool (hnd_.2.2.2.2 (by omega))), trivial⟩ (fun act384 f383 => ?_)
       clear f309
       refine At.done rfl ?_
       refine t_n ?_
       refine cond_F f383 rfl ?_
       refine wp_skip ?_
       refine b_n ?_
       refine t_n ?_
       refine At.start ?_
       refine At.rd f383 3 [[], [.as_ (.int .i64 (k + 1))], []] [(15, .int .i64 (k + 1)), (38, .int .i64 (k + 1)), (37, .int .i64 (k))] [((.int .i64 (IntKind.i64.wrap (k + 1)) : Value) = .int .i64 (k + 1))] (by kernel_rfl) ⟨(w64 (by omega) (by omega)), trivial⟩ (fun act386 f385 => ?_)
       clear f383
       refine At.done rfl ?_
       refine t_n ?_
       have f387 := f385.as 14 (.slice A_40 dd.length c_41) (.slice A_40 (((dd).set (k : Int).toNat (gB lu k) : List Bool).length) c_41) rfl (slice_len (by first | rfl | omega | (simp; done) | (simp; omega)))
       clear f385
       have f388 := f387.sub (r := [(15, .int .i64 (k + 1)), (14, .slice A_40 (((dd).set (k : Int).toNat (gB lu k) : List Bool).length) c_41), (13, .int .i64 (((g.ow.length : Nat) : Int))), (6, .pointer (some ⟨w.heap.size, 0, none⟩)), (1, .slice Ai li.length ci), (2, .int .i64 (p)), (3, .slice Au lu.length cu), (4, .slice Aa la.length ca), (5, .slice Am lm.length cm)]) ⟨rfl, rfl, rfl, rfl, rfl, rfl, rfl, rfl, rfl, trivial⟩
       exact ⟨_, (by omega), (k + 1), ((dd).set (k : Int).toNat (gB lu k) : List Bool), A_40, c_41, rfl, f388, e287, r290, r291, r292, r293, r294, bx295, ow296, (by omega), (by omega), (don_next hdt (by omega) (by omega) (don_v (by first | exact .inl ⟨by assumption, rfl⟩ | exact .inr ⟨by assumption, rfl⟩ | exact .inr ⟨by assumption, Eq.symm (by assumption)⟩))), (by rw [List.length_set]; assumption), (by omega)⟩
   ·have q389 : (gB lu k) = true := by first | exact Eq.mp (Bool.not_eq_true' _) h76 | exact Eq.mp (Bool.not_eq_false' _) h76 | simpa using h76
    refine At.rd f60 21 [[], [], [.ad ad64], [.ld (.bool (gB la k))], [.as_ (.bool true)], [], [], [.ad ad71], [.ld (.bool (gB lu k))], [], [], [.as_ (.bool false)], [], [], [], [], [], [], [], [], []] [(16, .bool false), (58, .bool false), (57, undef), (56, undef), (55, undef), (54, undef), (53, undef), (52, undef), (51, undef), (50, .bool false), (49, .bool (!(gB lu k))), (48, .bool (!(gB lu k))), (47, .bool (gB lu k)), (46, .pointer (some (ad71.add ((k : Int).toNat * 1)))), (45, .int .i64 (k)), (44, .slice Au lu.length cu), (43, .bool true), (42, .bool (gB la k)), (41, .pointer (some (ad64.add ((k : Int).toNat * 1)))), (40, .int .i64 (k)), (39, .slice Aa la.length ca)] [(Aa = some ad64), (0 ≤ (k : Int)), ((k : Int) < (la.length : Nat)), (w45.cell? (ad64.add ((k : Int).toNat * 1)) = some (.bool (gB la k))), ((.bool (gB la k) : Value) = .bool true), (Au = some ad71), (0 ≤ (k : Int)), ((k : Int) < (lu.length : Nat)), (w45.cell? (ad71.add ((k : Int).toNat * 1)) = some (.bool (gB lu k))), ((.bool (!(gB lu k)) : Value) = .bool false)] (by kernel_rfl) ⟨hA65, (by omega), (by omega), hc67, (congrArg Value.bool h69), hA72, (by omega), (by omega), hc74, (congrArg Value.bool h76), trivial⟩ (fun act392 f391 => ?_)
    clear f60
    refine At.done rfl ?_
    refine t_n ?_
    refine wp_seq ?_
    refine At.start ?_
    obtain ⟨ad393, hA394, hb397, hc396, hc395⟩ := r52.get (k) (by omega) (by omega) (sz := 1) rfl
    rcases Bool.eq_false_or_eq_true (!(gB la k)) with h398 | h398
    ·have q399 : (gB la k) = false := by first | exact Eq.mp (Bool.not_eq_true' _) h398 | exact Eq.mp (Bool.not_eq_false' _) h398 | simpa using h398
     obtain ⟨ad401, hA402, hb405, hc404, hc403⟩ := ow55.get (k) (by omega) (by omega) (sz := 1) rfl
     refine At.rd f391 14 [[], [], [], [], [.ad ad393], [.ld (.bool (gB la k))], [], [.as_ (.bool true)], [], [], [], [], [], [.ad ad401]] [(72, .pointer (some (ad401.add ((k : Int).toNat * 1)))), (71, .bool true), (70, undef), (69, undef), (68, undef), (67, undef), (66, .bool true), (65, .bool (!(gB la k))), (64, .bool (gB la k)), (63, .pointer (some (ad393.add ((k : Int).toNat * 1)))), (62, .int .i64 (k)), (61, .slice Aa la.length ca), (60, .int .i64 (k)), (59, .slice A_40 dd.length c_41)] [(Aa = some ad393), (0 ≤ (k : Int)), ((k : Int) < (la.length : Nat)), (w45.cell? (ad393.add ((k : Int).toNat * 1)) = some (.bool (gB la k))), ((.bool (!(gB la k)) : Value) = .bool true), (A_40 = some ad401), (0 ≤ (k : Int)), ((k : Int) < (dd.length : Nat))] (by kernel_rfl) ⟨hA394, (by omega), (by omega), hc396, (congrArg Value.bool h398), hA402, (by omega), (by omega), trivial⟩ (fun act407 f406 => ?_)
     clear f391
     refine At.act f406 (storeR (α := Bool) (t := 4) (i := k) (ad := ad401) (v := .bool true) (true) (by kernel_rfl) rfl rfl (by kernel_rfl) hA402 ow55 (by omega) (by omega)) ?_
     rintro d_ v_ w408 ⟨rfl, g409, ow410⟩
     refine ⟨_, rfl, fun act413 f412 => ?_⟩
     clear f406
     have hl411 : ((dd).set (k : Int).toNat true).length = (dd).length := List.length_set
     have szw408 := g409.size
     replace e46 := e46.gr g409 (fun k hk => by have := ow55.ge k hk; omega)
     replace r49 := r49.gr g409 (fun k hk => by have := ow55.ge k hk; omega)
     replace r50 := r50.gr g409 (fun k hk => by have := ow55.ge k hk; omega)
     replace r51 := r51.gr g409 (fun k hk => by have := ow55.ge k hk; omega)
     replace r52 := r52.gr g409 (fun k hk => by have := ow55.ge k hk; omega)
     replace r53 := r53.gr g409 (fun k hk => by have := ow55.ge k hk; omega)
     replace bx54 := bx54.gr g409 (fun e => by have := ow55.ge _ e; omega)
     clear ow55 g409
     refine At.done rfl ?_
     refine t_n ?_
     refine wp_seq ?_
     refine wp_seq ?_
     refine At.start ?_
     refine At.rd f412 2 [[], []] [(74, .bool true), (73, .bool false)] [] (by kernel_rfl) trivial (fun act422 f421 => ?_)
     clear f412
     refine At.done rfl ?_
     refine t_n ?_
     refine cond_T f421 rfl ?_
     refine wp_seq ?_
     refine wp_seq ?_
     refine At.start ?_
     obtain ⟨ad423, hA424, _, _, hc425⟩ := RdI.get r53 (k) (by omega) (by omega)
     refine At.rd f421 5 [[], [], [.ad ad423], [.ld (.int .i64 (gI lm (k)))], [.as_ (.bool false)]] [(79, .bool false), (78, .int .i64 (gI lm (k))), (77, .pointer (some (ad423.add ((k : Int).toNat * 1)))), (76, .int .i64 (k)), (75, .slice Am lm.length cm)] [(Am = some ad423), (0 ≤ (k : Int)), ((k : Int) < (lm.length : Nat)), (w408.cell? (ad423.add ((k : Int).toNat * 1)) = some (.int .i64 (gI lm (k)))), ((.bool ((gI lm (k) : Int) != (-1)) : Value) = .bool false)] (by kernel_rfl) ⟨hA424, (by omega), (by omega), hc425, (congrArg Value.bool (bneF (need_no hmv (by omega) (by omega) (by first | exact .inl (by assumption) | exact .inr (.inl (by assumption)) | exact .inr (.inr (by omega)))))), trivial⟩ (fun act427 f426 => ?_)
     clear f421
     refine At.done rfl ?_
     refine t_n ?_
     refine cond_F f426 rfl ?_
     refine wp_skip ?_
     refine t_n ?_
     refine wp_exit ?_
     refine t_e ?_
     refine b_e ?_
     refine t_n ?_
     refine At.start ?_
     refine At.rd f426 3 [[], [.as_ (.int .i64 (k + 1))], []] [(15, .int .i64 (k + 1)), (38, .int .i64 (k + 1)), (37, .int .i64 (k))] [((.int .i64 (IntKind.i64.wrap (k + 1)) : Value) = .int .i64 (k + 1))] (by kernel_rfl) ⟨(w64 (by omega) (by omega)), trivial⟩ (fun act429 f428 => ?_)
     clear f426
     refine At.done rfl ?_
     refine t_n ?_
     have f430 := f428.as 14 (.slice A_40 dd.length c_41) (.slice A_40 (((dd).set (k : Int).toNat true : List Bool).length) c_41) rfl (slice_len (by first | rfl | omega | (simp; done) | (simp; omega)))
     clear f428
     have f431 := f430.sub (r := [(15, .int .i64 (k + 1)), (14, .slice A_40 (((dd).set (k : Int).toNat true : List Bool).length) c_41), (13, .int .i64 (((g.ow.length : Nat) : Int))), (6, .pointer (some ⟨w.heap.size, 0, none⟩)), (1, .slice Ai li.length ci), (2, .int .i64 (p)), (3, .slice Au lu.length cu), (4, .slice Aa la.length ca), (5, .slice Am lm.length cm)]) ⟨rfl, rfl, rfl, rfl, rfl, rfl, rfl, rfl, rfl, trivial⟩
     exact ⟨_, (by omega), (k + 1), ((dd).set (k : Int).toNat true : List Bool), A_40, c_41, rfl, f431, e46, r49, r50, r51, r52, r53, bx54, ow410, (by omega), (by omega), (don_next hdt (by omega) (by omega) (don_v (by first | exact .inl ⟨by assumption, rfl⟩ | exact .inr ⟨by assumption, rfl⟩ | exact .inr ⟨by assumption, Eq.symm (by assumption)⟩))), (by rw [List.length_set]; assumption), (by omega)⟩
    ·have q432 : (gB la k) = true := by first | exact Eq.mp (Bool.not_eq_true' _) h398 | exact Eq.mp (Bool.not_eq_false' _) h398 | simpa using h398
     obtain ⟨ad434, hA435, hb438, hc437, hc436⟩ := r51.get (k) (by omega) (by omega) (sz := 1) rfl
     obtain ⟨ad439, hA440, hb443, hc442, hc441⟩ := ow55.get (k) (by omega) (by omega) (sz := 1) rfl
     refine At.rd f391 14 [[], [], [], [], [.ad ad393], [.ld (.bool (gB la k))], [], [.as_ (.bool false)], [], [], [.ad ad434], [.ld (.bool (gB lu k))], [], [.ad ad439]] [(72, .pointer (some (ad439.add ((k : Int).toNat * 1)))), (71, .bool (gB lu k)), (70, .bool (gB lu k)), (69, .pointer (some (ad434.add ((k : Int).toNat * 1)))), (68, .int .i64 (k)), (67, .slice Au lu.length cu), (66, .bool false), (65, .bool (!(gB la k))), (64, .bool (gB la k)), (63, .pointer (some (ad393.add ((k : Int).toNat * 1)))), (62, .int .i64 (k)), (61, .slice Aa la.length ca), (60, .int .i64 (k)), (59, .slice A_40 dd.length c_41)] [(Aa = some ad393), (0 ≤ (k : Int)), ((k : Int) < (la.length : Nat)), (w45.cell? (ad393.add ((k : Int).toNat * 1)) = some (.bool (gB la k))), ((.bool (!(gB la k)) : Value) = .bool false), (Au = some ad434), (0 ≤ (k : Int)), ((k : Int) < (lu.length : Nat)), (w45.cell? (ad434.add ((k : Int).toNat * 1)) = some (.bool (gB lu k))), (A_40 = some ad439), (0 ≤ (k : Int)), ((k : Int) < (dd.length : Nat))] (by kernel_rfl) ⟨hA394, (by omega), (by omega), hc396, (congrArg Value.bool h398), hA435, (by omega), (by omega), hc437, hA440, (by omega), (by omega), trivial⟩ (fun act445 f444 => ?_)
     clear f391
     refine At.act f444 (storeR (α := Bool) (t := 4) (i := k) (ad := ad439) (v := .bool (gB lu k)) (gB lu k) (by kernel_rfl) rfl rfl (by kernel_rfl) hA440 ow55 (by omega) (by omega)) ?_
     rintro d_ v_ w446 ⟨rfl, g447, ow448⟩
     refine ⟨_, rfl, fun act451 f450 => ?_⟩
     clear f444
     have hl449 : ((dd).set (k : Int).toNat (gB lu k)).length = (dd).length := List.length_set
     have szw446 := g447.size
     replace e46 := e46.gr g447 (fun k hk => by have := ow55.ge k hk; omega)
     replace r49 := r49.gr g447 (fun k hk => by have := ow55.ge k hk; omega)
     replace r50 := r50.gr g447 (fun k hk => by have := ow55.ge k hk; omega)
     replace r51 := r51.gr g447 (fun k hk => by have := ow55.ge k hk; omega)
     replace r52 := r52.gr g447 (fun k hk => by have := ow55.ge k hk; omega)
     replace r53 := r53.gr g447 (fun k hk => by have := ow55.ge k hk; omega)
     replace bx54 := bx54.gr g447 (fun e => by have := ow55.ge _ e; omega)
     clear ow55 g447
     refine At.done rfl ?_
     refine t_n ?_
     refine wp_seq ?_
     refine wp_seq ?_
     refine At.start ?_
     refine At.rd f450 2 [[], []] [(74, .bool true), (73, .bool false)] [] (by kernel_rfl) trivial (fun act460 f459 => ?_)
     clear f450
     refine At.done rfl ?_
     refine t_n ?_
     refine cond_T f459 rfl ?_
     refine wp_seq ?_
     refine wp_seq ?_
     refine At.start ?_
     obtain ⟨ad461, hA462, _, _, hc463⟩ := RdI.get r53 (k) (by omega) (by omega)
     refine At.rd f459 5 [[], [], [.ad ad461], [.ld (.int .i64 (gI lm (k)))], [.as_ (.bool false)]] [(79, .bool false), (78, .int .i64 (gI lm (k))), (77, .pointer (some (ad461.add ((k : Int).toNat * 1)))), (76, .int .i64 (k)), (75, .slice Am lm.length cm)] [(Am = some ad461), (0 ≤ (k : Int)), ((k : Int) < (lm.length : Nat)), (w446.cell? (ad461.add ((k : Int).toNat * 1)) = some (.int .i64 (gI lm (k)))), ((.bool ((gI lm (k) : Int) != (-1)) : Value) = .bool false)] (by kernel_rfl) ⟨hA462, (by omega), (by omega), hc463, (congrArg Value.bool (bneF (need_no hmv (by omega) (by omega) (by first | exact .inl (by assumption) | exact .inr (.inl (by assumption)) | exact .inr (.inr (by omega)))))), trivial⟩ (fun act465 f464 => ?_)
     clear f459
     refine At.done rfl ?_
     refine t_n ?_
     refine cond_F f464 rfl ?_
     refine wp_skip ?_
     refine t_n ?_
     refine wp_exit ?_
     refine t_e ?_
     refine b_e ?_
     refine t_n ?_
     refine At.start ?_
     refine At.rd f464 3 [[], [.as_ (.int .i64 (k + 1))], []] [(15, .int .i64 (k + 1)), (38, .int .i64 (k + 1)), (37, .int .i64 (k))] [((.int .i64 (IntKind.i64.wrap (k + 1)) : Value) = .int .i64 (k + 1))] (by kernel_rfl) ⟨(w64 (by omega) (by omega)), trivial⟩ (fun act467 f466 => ?_)
     clear f464
     refine At.done rfl ?_
     refine t_n ?_
     have f468 := f466.as 14 (.slice A_40 dd.length c_41) (.slice A_40 (((dd).set (k : Int).toNat (gB lu k) : List Bool).length) c_41) rfl (slice_len (by first | rfl | omega | (simp; done) | (simp; omega)))
     clear f466
     have f469 := f468.sub (r := [(15, .int .i64 (k + 1)), (14, .slice A_40 (((dd).set (k : Int).toNat (gB lu k) : List Bool).length) c_41), (13, .int .i64 (((g.ow.length : Nat) : Int))), (6, .pointer (some ⟨w.heap.size, 0, none⟩)), (1, .slice Ai li.length ci), (2, .int .i64 (p)), (3, .slice Au lu.length cu), (4, .slice Aa la.length ca), (5, .slice Am lm.length cm)]) ⟨rfl, rfl, rfl, rfl, rfl, rfl, rfl, rfl, rfl, trivial⟩
     exact ⟨_, (by omega), (k + 1), ((dd).set (k : Int).toNat (gB lu k) : List Bool), A_40, c_41, rfl, f469, e46, r49, r50, r51, r52, r53, bx54, ow448, (by omega), (by omega), (don_next hdt (by omega) (by omega) (don_v (by first | exact .inl ⟨by assumption, rfl⟩ | exact .inr ⟨by assumption, rfl⟩ | exact .inr ⟨by assumption, Eq.symm (by assumption)⟩))), (by rw [List.length_set]; assumption), (by omega)⟩
  ·refine At.rd f60 21 [[], [], [.ad ad64], [.ld (.bool (gB la k))], [.as_ (.bool false)], [], [], [], [], [], [], [], [], [], [], [], [], [], [], [], []] [(16, .bool false), (58, .bool false), (57, undef), (56, undef), (55, undef), (54, undef), (53, undef), (52, undef), (51, undef), (50, .bool false), (49, .bool false), (48, undef), (47, undef), (46, undef), (45, undef), (44, undef), (43, .bool false), (42, .bool (gB la k)), (41, .pointer (some (ad64.add ((k : Int).toNat * 1)))), (40, .int .i64 (k)), (39, .slice Aa la.length ca)] [(Aa = some ad64), (0 ≤ (k : Int)), ((k : Int) < (la.length : Nat)), (w45.cell? (ad64.add ((k : Int).toNat * 1)) = some (.bool (gB la k))), ((.bool (gB la k) : Value) = .bool false)] (by kernel_rfl) ⟨hA65, (by omega), (by omega), hc67, (congrArg Value.bool h69), trivial⟩ (fun act472 f471 => ?_)
   clear f60
   refine At.done rfl ?_
   refine t_n ?_
   refine wp_seq ?_
   refine At.start ?_
   obtain ⟨ad473, hA474, hb477, hc476, hc475⟩ := r52.get (k) (by omega) (by omega) (sz := 1) rfl
   rcases Bool.eq_false_or_eq_true (!(gB la k)) with h478 | h478
   ·have q479 : (gB la k) = false := by first | exact Eq.mp (Bool.not_eq_true' _) h478 | exact Eq.mp (Bool.not_eq_false' _) h478 | simpa using h478
    obtain ⟨ad481, hA482, hb485, hc484, hc483⟩ := ow55.get (k) (by omega) (by omega) (sz := 1) rfl
    refine At.rd f471 14 [[], [], [], [], [.ad ad473], [.ld (.bool (gB la k))], [], [.as_ (.bool true)], [], [], [], [], [], [.ad ad481]] [(72, .pointer (some (ad481.add ((k : Int).toNat * 1)))), (71, .bool true), (70, undef), (69, undef), (68, undef), (67, undef), (66, .bool true), (65, .bool (!(gB la k))), (64, .bool (gB la k)), (63, .pointer (some (ad473.add ((k : Int).toNat * 1)))), (62, .int .i64 (k)), (61, .slice Aa la.length ca), (60, .int .i64 (k)), (59, .slice A_40 dd.length c_41)] [(Aa = some ad473), (0 ≤ (k : Int)), ((k : Int) < (la.length : Nat)), (w45.cell? (ad473.add ((k : Int).toNat * 1)) = some (.bool (gB la k))), ((.bool (!(gB la k)) : Value) = .bool true), (A_40 = some ad481), (0 ≤ (k : Int)), ((k : Int) < (dd.length : Nat))] (by kernel_rfl) ⟨hA474, (by omega), (by omega), hc476, (congrArg Value.bool h478), hA482, (by omega), (by omega), trivial⟩ (fun act487 f486 => ?_)
    clear f471
    refine At.act f486 (storeR (α := Bool) (t := 4) (i := k) (ad := ad481) (v := .bool true) (true) (by kernel_rfl) rfl rfl (by kernel_rfl) hA482 ow55 (by omega) (by omega)) ?_
    rintro d_ v_ w488 ⟨rfl, g489, ow490⟩
    refine ⟨_, rfl, fun act493 f492 => ?_⟩
    clear f486
    have hl491 : ((dd).set (k : Int).toNat true).length = (dd).length := List.length_set
    have szw488 := g489.size
    replace e46 := e46.gr g489 (fun k hk => by have := ow55.ge k hk; omega)
    replace r49 := r49.gr g489 (fun k hk => by have := ow55.ge k hk; omega)
    replace r50 := r50.gr g489 (fun k hk => by have := ow55.ge k hk; omega)
    replace r51 := r51.gr g489 (fun k hk => by have := ow55.ge k hk; omega)
    replace r52 := r52.gr g489 (fun k hk => by have := ow55.ge k hk; omega)
    replace r53 := r53.gr g489 (fun k hk => by have := ow55.ge k hk; omega)
    replace bx54 := bx54.gr g489 (fun e => by have := ow55.ge _ e; omega)
    clear ow55 g489
    refine At.done rfl ?_
    refine t_n ?_
    refine wp_seq ?_
    refine wp_seq ?_
    refine At.start ?_
    refine At.rd f492 2 [[], []] [(74, .bool true), (73, .bool false)] [] (by kernel_rfl) trivial (fun act502 f501 => ?_)
    clear f492
    refine At.done rfl ?_
    refine t_n ?_
    refine cond_T f501 rfl ?_
    refine wp_seq ?_
    refine wp_seq ?_
    refine At.start ?_
    obtain ⟨ad503, hA504, _, _, hc505⟩ := RdI.get r53 (k) (by omega) (by omega)
    refine At.rd f501 5 [[], [], [.ad ad503], [.ld (.int .i64 (gI lm (k)))], [.as_ (.bool false)]] [(79, .bool false), (78, .int .i64 (gI lm (k))), (77, .pointer (some (ad503.add ((k : Int).toNat * 1)))), (76, .int .i64 (k)), (75, .slice Am lm.length cm)] [(Am = some ad503), (0 ≤ (k : Int)), ((k : Int) < (lm.length : Nat)), (w488.cell? (ad503.add ((k : Int).toNat * 1)) = some (.int .i64 (gI lm (k)))), ((.bool ((gI lm (k) : Int) != (-1)) : Value) = .bool false)] (by kernel_rfl) ⟨hA504, (by omega), (by omega), hc505, (congrArg Value.bool (bneF (need_no hmv (by omega) (by omega) (by first | exact .inl (by assumption) | exact .inr (.inl (by assumption)) | exact .inr (.inr (by omega)))))), trivial⟩ (fun act507 f506 => ?_)
    clear f501
    refine At.done rfl ?_
    refine t_n ?_
    refine cond_F f506 rfl ?_
    refine wp_skip ?_
    refine t_n ?_
    refine wp_exit ?_
    refine t_e ?_
    refine b_e ?_
    refine t_n ?_
    refine At.start ?_
    refine At.rd f506 3 [[], [.as_ (.int .i64 (k + 1))], []] [(15, .int .i64 (k + 1)), (38, .int .i64 (k + 1)), (37, .int .i64 (k))] [((.int .i64 (IntKind.i64.wrap (k + 1)) : Value) = .int .i64 (k + 1))] (by kernel_rfl) ⟨(w64 (by omega) (by omega)), trivial⟩ (fun act509 f508 => ?_)
    clear f506
    refine At.done rfl ?_
    refine t_n ?_
    have f510 := f508.as 14 (.slice A_40 dd.length c_41) (.slice A_40 (((dd).set (k : Int).toNat true : List Bool).length) c_41) rfl (slice_len (by first | rfl | omega | (simp; done) | (simp; omega)))
    clear f508
    have f511 := f510.sub (r := [(15, .int .i64 (k + 1)), (14, .slice A_40 (((dd).set (k : Int).toNat true : List Bool).length) c_41), (13, .int .i64 (((g.ow.length : Nat) : Int))), (6, .pointer (some ⟨w.heap.size, 0, none⟩)), (1, .slice Ai li.length ci), (2, .int .i64 (p)), (3, .slice Au lu.length cu), (4, .slice Aa la.length ca), (5, .slice Am lm.length cm)]) ⟨rfl, rfl, rfl, rfl, rfl, rfl, rfl, rfl, rfl, trivial⟩
    exact ⟨_, (by omega), (k + 1), ((dd).set (k : Int).toNat true : List Bool), A_40, c_41, rfl, f511, e46, r49, r50, r51, r52, r53, bx54, ow490, (by omega), (by omega), (don_next hdt (by omega) (by omega) (don_v (by first | exact .inl ⟨by assumption, rfl⟩ | exact .inr ⟨by assumption, rfl⟩ | exact .inr ⟨by assumption, Eq.symm (by assumption)⟩))), (by rw [List.length_set]; assumption), (by omega)⟩
   ·have q512 : (gB la k) = true := by first | exact Eq.mp (Bool.not_eq_true' _) h478 | exact Eq.mp (Bool.not_eq_false' _) h478 | simpa using h478
    obtain ⟨ad514, hA515, hb518, hc517, hc516⟩ := r51.get (k) (by omega) (by omega) (sz := 1) rfl
    obtain ⟨ad519, hA520, hb523, hc522, hc521⟩ := ow55.get (k) (by omega) (by omega) (sz := 1) rfl
    refine At.rd f471 14 [[], [], [], [], [.ad ad473], [.ld (.bool (gB la k))], [], [.as_ (.bool false)], [], [], [.ad ad514], [.ld (.bool (gB lu k))], [], [.ad ad519]] [(72, .pointer (some (ad519.add ((k : Int).toNat * 1)))), (71, .bool (gB lu k)), (70, .bool (gB lu k)), (69, .pointer (some (ad514.add ((k : Int).toNat * 1)))), (68, .int .i64 (k)), (67, .slice Au lu.length cu), (66, .bool false), (65, .bool (!(gB la k))), (64, .bool (gB la k)), (63, .pointer (some (ad473.add ((k : Int).toNat * 1)))), (62, .int .i64 (k)), (61, .slice Aa la.length ca), (60, .int .i64 (k)), (59, .slice A_40 dd.length c_41)] [(Aa = some ad473), (0 ≤ (k : Int)), ((k : Int) < (la.length : Nat)), (w45.cell? (ad473.add ((k : Int).toNat * 1)) = some (.bool (gB la k))), ((.bool (!(gB la k)) : Value) = .bool false), (Au = some ad514), (0 ≤ (k : Int)), ((k : Int) < (lu.length : Nat)), (w45.cell? (ad514.add ((k : Int).toNat * 1)) = some (.bool (gB lu k))), (A_40 = some ad519), (0 ≤ (k : Int)), ((k : Int) < (dd.length : Nat))] (by kernel_rfl) ⟨hA474, (by omega), (by omega), hc476, (congrArg Value.bool h478), hA515, (by omega), (by omega), hc517, hA520, (by omega), (by omega), trivial⟩ (fun act525 f524 => ?_)
    clear f471
    refine At.act f524 (storeR (α := Bool) (t := 4) (i := k) (ad := ad519) (v := .bool (gB lu k)) (gB lu k) (by kernel_rfl) rfl rfl (by kernel_rfl) hA520 ow55 (by omega) (by omega)) ?_
    rintro d_ v_ w526 ⟨rfl, g527, ow528⟩
    refine ⟨_, rfl, fun act531 f530 => ?_⟩
    clear f524
    have hl529 : ((dd).set (k : Int).toNat (gB lu k)).length = (dd).length := List.length_set
    have szw526 := g527.size
    replace e46 := e46.gr g527 (fun k hk => by have := ow55.ge k hk; omega)
    replace r49 := r49.gr g527 (fun k hk => by have := ow55.ge k hk; omega)
    replace r50 := r50.gr g527 (fun k hk => by have := ow55.ge k hk; omega)
    replace r51 := r51.gr g527 (fun k hk => by have := ow55.ge k hk; omega)
    replace r52 := r52.gr g527 (fun k hk => by have := ow55.ge k hk; omega)
    replace r53 := r53.gr g527 (fun k hk => by have := ow55.ge k hk; omega)
    replace bx54 := bx54.gr g527 (fun e => by have := ow55.ge _ e; omega)
    clear ow55 g527
    refine At.done rfl ?_
    refine t_n ?_
    refine wp_seq ?_
    refine wp_seq ?_
    refine At.start ?_
    refine At.rd f530 2 [[], []] [(74, .bool true), (73, .bool false)] [] (by kernel_rfl) trivial (fun act540 f539 => ?_)
    clear f530
    refine At.done rfl ?_
    refine t_n ?_
    refine cond_T f539 rfl ?_
    refine wp_seq ?_
    refine wp_seq ?_
    refine At.start ?_
    obtain ⟨ad541, hA542, _, _, hc543⟩ := RdI.get r53 (k) (by omega) (by omega)
    refine At.rd f539 5 [[], [], [.ad ad541], [.ld (.int .i64 (gI lm (k)))], [.as_ (.bool false)]] [(79, .bool false), (78, .int .i64 (gI lm (k))), (77, .pointer (some (ad541.add ((k : Int).toNat * 1)))), (76, .int .i64 (k)), (75, .slice Am lm.length cm)] [(Am = some ad541), (0 ≤ (k : Int)), ((k : Int) < (lm.length : Nat)), (w526.cell? (ad541.add ((k : Int).toNat * 1)) = some (.int .i64 (gI lm (k)))), ((.bool ((gI lm (k) : Int) != (-1)) : Value) = .bool false)] (by kernel_rfl) ⟨hA542, (by omega), (by omega), hc543, (congrArg Value.bool (bneF (need_no hmv (by omega) (by omega) (by first | exact .inl (by assumption) | exact .inr (.inl (by assumption)) | exact .inr (.inr (by omega)))))), trivial⟩ (fun act545 f544 => ?_)
    clear f539
    refine At.done rfl ?_
    refine t_n ?_
    refine cond_F f544 rfl ?_
    refine wp_skip ?_
    refine t_n ?_
    refine wp_exit ?_
    refine t_e ?_
    refine b_e ?_
    refine t_n ?_
    refine At.start ?_
    refine At.rd f544 3 [[], [.as_ (.int .i64 (k + 1))], []] [(15, .int .i64 (k + 1)), (38, .int .i64 (k + 1)), (37, .int .i64 (k))] [((.int .i64 (IntKind.i64.wrap (k + 1)) : Value) = .int .i64 (k + 1))] (by kernel_rfl) ⟨(w64 (by omega) (by omega)), trivial⟩ (fun act547 f546 => ?_)
    clear f544
    refine At.done rfl ?_
    refine t_n ?_
    have f548 := f546.as 14 (.slice A_40 dd.length c_41) (.slice A_40 (((dd).set (k : Int).toNat (gB lu k) : List Bool).length) c_41) rfl (slice_len (by first | rfl | omega | (simp; done) | (simp; omega)))
    clear f546
    have f549 := f548.sub (r := [(15, .int .i64 (k + 1)), (14, .slice A_40 (((dd).set (k : Int).toNat (gB lu k) : List Bool).length) c_41), (13, .int .i64 (((g.ow.length : Nat) : Int))), (6, .pointer (some ⟨w.heap.size, 0, none⟩)), (1, .slice Ai li.length ci), (2, .int .i64 (p)), (3, .slice Au lu.length cu), (4, .slice Aa la.length ca), (5, .slice Am lm.length cm)]) ⟨rfl, rfl, rfl, rfl, rfl, rfl, rfl, rfl, rfl, trivial⟩
    exact ⟨_, (by omega), (k + 1), ((dd).set (k : Int).toNat (gB lu k) : List Bool), A_40, c_41, rfl, f549, e46, r49, r50, r51, r52, r53, bx54, ow528, (by omega), (by omega), (don_next hdt (by omega) (by omega) (don_v (by first | exact .inl ⟨by assumption, rfl⟩ | exact .inr ⟨by assumption, rfl⟩ | exact .inr ⟨by assumption, Eq.symm (by assumption)⟩))), (by rw [List.length_set]; assumption), (by omega)⟩
 ·have q550 := of_decide_eq_false h62
  refine wp_exit ?_
  refine t_e ?_
  refine t_e ?_
  refine b_e ?_
  refine t_n ?_
  refine wp_seq ?_
  refine wp_seq ?_
  refine At.start ?_
  refine At.rd f60 1 [[]] [(19, .bool true)] [] (by kernel_rfl) trivial (fun act552 f551 => ?_)
  clear f60
  refine At.done rfl ?_
  refine t_n ?_
  refine wp_block ?_
  have f556 := f551.as 14 (.slice A_40 dd.length c_41) (.slice A_40 ((dd : List Bool).length) c_41) rfl (slice_len (by first | rfl | omega | (simp; done) | (simp; omega)))
  clear f551
  have f555 := f556.sub (r := [(19, .bool true), (14, .slice A_40 ((dd : List Bool).length) c_41), (13, .int .i64 (((g.ow.length : Nat) : Int))), (6, .pointer (some ⟨w.heap.size, 0, none⟩)), (1, .slice Ai li.length ci), (2, .int .i64 (p)), (5, .slice Am lm.length cm)]) ⟨rfl, rfl, rfl, rfl, rfl, rfl, rfl, trivial⟩
  refine loop_g (fun (m_ : Nat) a_ w_ => ∃ (m : Bool) (de : List Bool) (A_553 : Option Addr) (c_554 : Nat), m_ = (2 * ((g.ow.length : Int) - cB de 256) + (if m = true then 1 else 0)).toNat ∧ (Frm 200 a_ [(19, .bool (m)), (14, .slice A_553 de.length c_554), (13, .int .i64 (((g.ow.length : Nat) : Int))), (6, .pointer (some ⟨w.heap.size, 0, none⟩)), (1, .slice Ai li.length ci), (2, .int .i64 (p)), (5, .slice Am lm.length cm)]) ∧ (Ext w w_) ∧ (RdG w_ 0 w.heap.size Ag0 Ag1 Ag2 cg0 cg1 cg2 g) ∧ (RdR w_ 0 w.heap.size Ai (li : List Bool)) ∧ (RdR w_ 0 w.heap.size Au (lu : List Bool)) ∧ (RdR w_ 0 w.heap.size Aa (la : List Bool)) ∧ (RdI w_ 0 w.heap.size Am lm) ∧ (Bx w_ (w.heap.size) [.slice Ag0 g.ow.length cg0, .slice Ag1 g.pr.length cg1, .slice Ag2 g.mv.length cg2] 25) ∧ (OwnR w_ (Sx (w1.heap.size) []) A_553 c_554 4 (de : List Bool)) ∧ (PasT g lu la de) ∧ (PasF g li p lm de m) ∧ (de.length = g.ow.length) ∧ (w1.heap.size ≤ w_.heap.size)) _ ⟨true, (dd : List Bool), A_40, c_41, rfl, f555, e46, r49, r50, r51, r52, r53, bx54, ow55, (pas_0 hdt (by omega)), (fun h_ => by cases h_), hdt.len, (by omega)⟩ ?_
  clear f555 f556
  clear r49
  clear r50
  clear r51
  clear r52
  clear r53
  clear bx54
  clear ow55
  clear e46
  intro m_ act557 w558 ⟨m, de, A_553, c_554, hm560, f561, e559, r562, r563, r564, r565, r566, bx567, ow568, hps, hpF, i569, i570⟩
  have szw558 := e559.size
  have := bx567.lt
  refine wp_seq ?_
  refine wp_seq ?_
  refine At.start ?_
  refine At.rd f561 1 [[]] [(128, .bool (m))] [] (by kernel_rfl) trivial (fun act572 f571 => ?_)
  clear f561
  refine At.done rfl ?_
  refine t_n ?_
  refine cond_S f571 (t := m) rfl (fun h573 => ?_) (fun h573 => ?_)
  ·refine wp_skip ?_
   refine t_n ?_
   refine wp_block ?_
   refine wp_seq ?_
   refine At.start ?_
   refine At.rd f571 1 [[]] [(19, .bool false)] [] (by kernel_rfl) trivial (fun act576 f575 => ?_)
   clear f571
   refine At.done rfl ?_
   refine t_n ?_
   refine wp_seq ?_
   refine At.start ?_
   refine At.rd f575 1 [[]] [(20, .int .i64 (0))] [] (by kernel_rfl) trivial (fun act578 f577 => ?_)
   clear f575
   refine At.done rfl ?_
   refine t_n ?_
   refine wp_block ?_
   have f582 := f577.as 14 (.slice A_553 de.length c_554) (.slice A_553 ((de : List Bool).length) c_554) rfl (slice_len (by first | rfl | omega | (simp; done) | (simp; omega)))
   clear f577
   have f581 := f582.sub (r := [(20, .int .i64 (0)), (19, .bool false), (14, .slice A_553 ((de : List Bool).length) c_554), (13, .int .i64 (((g.ow.length : Nat) : Int))), (6, .pointer (some ⟨w.heap.size, 0, none⟩)), (1, .slice Ai li.length ci), (2, .int .i64 (p)), (5, .slice Am lm.length cm)]) ⟨rfl, rfl, rfl, rfl, rfl, rfl, rfl, rfl, trivial⟩
   refine loop_g (fun (m_ : Nat) a_ w_ => ∃ (k2 : Int) (m2 : Bool) (df : List Bool) (A_579 : Option Addr) (c_580 : Nat), m_ = ((g.ow.length : Int) - k2).toNat ∧ (Frm 200 a_ [(20, .int .i64 (k2)), (19, .bool (m2)), (14, .slice A_579 df.length c_580), (13, .int .i64 (((g.ow.length : Nat) : Int))), (6, .pointer (some ⟨w.heap.size, 0, none⟩)), (1, .slice Ai li.length ci), (2, .int .i64 (p)), (5, .slice Am lm.length cm)]) ∧ (Ext w w_) ∧ (RdG w_ 0 w.heap.size Ag0 Ag1 Ag2 cg0 cg1 cg2 g) ∧ (RdR w_ 0 w.heap.size Ai (li : List Bool)) ∧ (RdR w_ 0 w.heap.size Au (lu : List Bool)) ∧ (RdR w_ 0 w.heap.size Aa (la : List Bool)) ∧ (RdI w_ 0 w.heap.size Am lm) ∧ (Bx w_ (w.heap.size) [.slice Ag0 g.ow.length cg0, .slice Ag1 g.pr.length cg1, .slice Ag2 g.mv.length cg2] 25) ∧ (OwnR w_ (Sx (w1.heap.size) []) A_579 c_580 4 (df : List Bool)) ∧ (0 ≤ k2) ∧ (k2 ≤ (g.ow.length : Int)) ∧ (PasK g li p lm lu la de df m2 k2) ∧ (df.length = g.ow.length) ∧ (w1.heap.size ≤ w_.heap.size)) _ ⟨0, false, (de : List Bool), A_553, c_554, rfl, f581, e559, r562, r563, r564, r565, r566, bx567, ow568, (by omega), (by omega), (pasK_0 hps), hps.len, (by omega)⟩ ?_
   clear f581 f582
   clear r562
   clear r563
   clear r564
   clear r565
   clear r566
   clear bx567
   clear ow568
   clear e559
   intro m_ act583 w584 ⟨k2, m2, df, A_579, c_580, hm586, f587, e585, r588, r589, r590, r591, r592, bx593, ow594, i595, i596, hpk, i597, i598⟩
   have szw584 := e585.size
   have := bx593.lt
   refine wp_seq ?_
   refine wp_seq ?_
   refine At.start ?_
   refine At.rd f587 3 [[], [], []] [(131, .bool (decide ((k2 : Int) < ((g.ow.length : Nat) : Int)))), (130, .int .i64 (((g.ow.length : Nat) : Int))), (129, .int .i64 (k2))] [] (by kernel_rfl) trivial (fun act600 f599 => ?_)
   clear f587
   refine At.done rfl ?_
   refine t_n ?_
   refine cond_S f599 (t := decide ((k2 : Int) < ((g.ow.length : Nat) : Int))) rfl (fun h601 => ?_) (fun h601 => ?_)
   ·have q602 := of_decide_eq_true h601
    refine wp_skip ?_
    refine t_n ?_
    refine wp_seq ?_
    refine wp_block ?_
    refine wp_seq ?_
    refine wp_seq ?_
    refine At.start ?_
    obtain ⟨ad603, hA604, hb607, hc606, hc605⟩ := ow594.get (k2) (by omega) (by omega) (sz := 1) rfl
    refine At.rd f599 4 [[], [], [.ad ad603], [.ld (.bool (gB df k2))]] [(137, .bool (gB df k2)), (136, .pointer (some (ad603.add ((k2 : Int).toNat * 1)))), (135, .int .i64 (k2)), (134, .slice A_579 df.length c_580)] [(A_579 = some ad603), (0 ≤ (k2 : Int)), ((k2 : Int) < (df.length : Nat)), (w584.cell? (ad603.add ((k2 : Int).toNat * 1)) = some (.bool (gB df k2)))] (by kernel_rfl) ⟨hA604, (by omega), (by omega), hc606, trivial⟩ (fun act609 f608 => ?_)
    clear f599
    refine At.done rfl ?_
    refine t_n ?_
    refine cond_S f608 (t := gB df k2) rfl (fun h610 => ?_) (fun h610 => ?_)
    ·refine wp_exit ?_
     refine t_e ?_
     refine b_e ?_
     refine t_n ?_
     refine At.start ?_
     refine At.rd f608 3 [[], [.as_ (.int .i64 (k2 + 1))], []] [(20, .int .i64 (k2 + 1)), (133, .int .i64 (k2 + 1)), (132, .int .i64 (k2))] [((.int .i64 (IntKind.i64.wrap (k2 + 1)) : Value) = .int .i64 (k2 + 1))] (by kernel_rfl) ⟨(w64 (by omega) (by omega)), trivial⟩ (fun act613 f612 => ?_)
     clear f608
     refine At.done rfl ?_
     refine t_n ?_
     have f614 := f612.as 14 (.slice A_579 df.length c_580) (.slice A_579 ((df : List Bool).length) c_580) rfl (slice_len (by first | rfl | omega | (simp; done) | (simp; omega)))
     clear f612
     have f615 := f614.sub (r := [(20, .int .i64 (k2 + 1)), (19, .bool (m2)), (14, .slice A_579 ((df : List Bool).length) c_580), (13, .int .i64 (((g.ow.length : Nat) : Int))), (6, .pointer (some ⟨w.heap.size, 0, none⟩)), (1, .slice Ai li.length ci), (2, .int .i64 (p)), (5, .slice Am lm.length cm)]) ⟨rfl, rfl, rfl, rfl, rfl, rfl, rfl, rfl, trivial⟩
     exact ⟨_, (by omega), (k2 + 1), m2, (df : List Bool), A_579, c_580, rfl, f615, e585, r588, r589, r590, r591, r592, bx593, ow594, (by omega), (by omega), (pasK_skip hpk (by omega) (by first | exact .inl (by assumption) | exact .inr (fun h_ => by have h2_ := (ends_all hen (by omega)).2 h_; rw [show en = false from by assumption] at h2_; cases h2_))), hpk.pas.len, (by omega)⟩
    ·refine wp_skip ?_
     refine t_n ?_
     refine wp_seq ?_
     refine At.start ?_
     refine At.rd f608 1 [[]] [(21, .bool true)] [] (by kernel_rfl) trivial (fun act618 f617 => ?_)
     clear f608
     refine At.done rfl ?_
     refine t_n ?_
     refine wp_seq ?_
     refine wp_seq ?_
     refine At.start ?_
     refine At.rd f617 1 [[]] [(22, .int .i64 (0))] [] (by kernel_rfl) trivial (fun act620 f619 => ?_)
     clear f617
     refine At.done rfl ?_
     refine t_n ?_
     refine wp_block ?_
     have f621 := f619.sub (r := [(22, .int .i64 (0)), (21, .bool true), (20, .int .i64 (k2)), (19, .bool (m2)), (14, .slice A_579 df.length c_580), (13, .int .i64 (((g.ow.length : Nat) : Int))), (6, .pointer (some ⟨w.heap.size, 0, none⟩)), (1, .slice Ai li.length ci), (2, .int .i64 (p)), (5, .slice Am lm.length cm)]) ⟨rfl, rfl, rfl, rfl, rfl, rfl, rfl, rfl, rfl, rfl, trivial⟩
     refine loop_g (fun (m_ : Nat) a_ w_ => ∃ (q2 : Int) (en : Bool), m_ = (((gL g.mv k2).length : Int) - q2).toNat ∧ (Frm 200 a_ [(22, .int .i64 (q2)), (21, .bool (en)), (20, .int .i64 (k2)), (19, .bool (m2)), (14, .slice A_579 df.length c_580), (13, .int .i64 (((g.ow.length : Nat) : Int))), (6, .pointer (some ⟨w.heap.size, 0, none⟩)), (1, .slice Ai li.length ci), (2, .int .i64 (p)), (5, .slice Am lm.length cm)]) ∧ (Ext w w_) ∧ (RdG w_ 0 w.heap.size Ag0 Ag1 Ag2 cg0 cg1 cg2 g) ∧ (RdR w_ 0 w.heap.size Ai (li : List Bool)) ∧ (RdR w_ 0 w.heap.size Au (lu : List Bool)) ∧ (RdR w_ 0 w.heap.size Aa (la : List Bool)) ∧ (RdI w_ 0 w.heap.size Am lm) ∧ (Bx w_ (w.heap.size) [.slice Ag0 g.ow.length cg0, .slice Ag1 g.pr.length cg1, .slice Ag2 g.mv.length cg2] 25) ∧ (OwnR w_ (Sx (w1.heap.size) []) A_579 c_580 4 (df : List Bool)) ∧ (0 ≤ q2) ∧ (q2 ≤ ((gL g.mv k2).length : Int)) ∧ (en = true ↔ EndsT g li p lm df k2 ((gL g.mv k2).take q2.toNat)) ∧ (w1.heap.size ≤ w_.heap.size)) _ ⟨0, true, rfl, f621, e585, r588, r589, r590, r591, r592, bx593, ow594, (by omega), (Int.natCast_nonneg _), ends_0, (by omega)⟩ ?_
     clear f621 f619
     clear r588
     clear r589
     clear r590
     clear r591
     clear r592
     clear bx593
     clear ow594
     clear e585
     intro m_ act622 w623 ⟨q2, en, hm625, f626, e624, r627, r628, r629, r630, r631, bx632, ow633, i634, i635, hen, i636⟩
     have szw623 := e624.size
     have := bx632.lt
     refine wp_seq ?_
     refine wp_seq ?_
     refine At.start ?_
     obtain ⟨ad637, R640, C641, hA638, _, _, hc639, hC642, r643⟩ := RdII.get r627.mv (k2) (by omega) (by omega)
     have hl644 := r643.len
     refine At.rd f626 8 [[], [], [.ld (.slice Ag2 g.mv.length cg2)], [], [.ad ad637], [.ld (.slice R640 ((gL g.mv (k2)).length) C641)], [], []] [(145, .bool (decide ((q2 : Int) < (((gL g.mv (k2)).length : Nat) : Int)))), (144, .int .i64 ((((gL g.mv (k2)).length : Nat) : Int))), (143, .slice R640 ((gL g.mv (k2)).length) C641), (142, .pointer (some (ad637.add ((k2 : Int).toNat * 1)))), (141, .int .i64 (k2)), (140, .slice Ag2 g.mv.length cg2), (139, .pointer (some ⟨w.heap.size, 2, none⟩)), (138, .int .i64 (q2))] [(w623.cell? ⟨w.heap.size, 2, none⟩ = some (.slice Ag2 g.mv.length cg2)), (Ag2 = some ad637), (0 ≤ (k2 : Int)), ((k2 : Int) < (g.mv.length : Nat)), (w623.cell? (ad637.add ((k2 : Int).toNat * 1)) = some (.slice R640 ((gL g.mv (k2)).length) C641))] (by kernel_rfl) ⟨(bx632.cell (i := 2) rfl), hA638, (by omega), (by omega), hc639, trivial⟩ (fun act647 f646 => ?_)
     clear f626
     refine At.done rfl ?_
     refine t_n ?_
     refine cond_S f646 (t := decide ((q2 : Int) < (((gL g.mv (k2)).length : Nat) : Int))) rfl (fun h648 => ?_) (fun h648 => ?_)
     ·have q649 := of_decide_eq_true h648
      refine wp_skip ?_
      refine t_n ?_
      refine wp_seq ?_
      refine wp_block ?_
      refine wp_seq ?_
      have hmk := hG.mv k2 (by omega) (by omega) q2 (by omega) (by omega)
      refine At.start ?_
      obtain ⟨ad650, R653, C654, hA651, _, _, hc652, hC655, r656⟩ := RdII.get r627.mv (k2) (by omega) (by omega)
      have hl657 := r656.len
      obtain ⟨ad659, hA660, _, _, hc661⟩ := RdI.get r656 (q2) (by omega) (by omega)
      refine At.rd f646 9 [[], [.ld (.slice Ag2 g.mv.length cg2)], [], [.ad ad650], [.ld (.slice R653 ((gL g.mv (k2)).length) C654)], [], [.ad ad659], [.ld (.int .i64 (gI (gL g.mv (k2)) (q2)))], []] [(23, .int .i64 (gI (gL g.mv (k2)) (q2))), (155, .int .i64 (gI (gL g.mv (k2)) (q2))), (154, .pointer (some (ad659.add ((q2 : Int).toNat * 1)))), (153, .int .i64 (q2)), (152, .slice R653 ((gL g.mv (k2)).length) C654), (151, .pointer (some (ad650.add ((k2 : Int).toNat * 1)))), (150, .int .i64 (k2)), (149, .slice Ag2 g.mv.length cg2), (148, .pointer (some ⟨w.heap.size, 2, none⟩))] [(w623.cell? ⟨w.heap.size, 2, none⟩ = some (.slice Ag2 g.mv.length cg2)), (Ag2 = some ad650), (0 ≤ (k2 : Int)), ((k2 : Int) < (g.mv.length : Nat)), (w623.cell? (ad650.add ((k2 : Int).toNat * 1)) = some (.slice R653 ((gL g.mv (k2)).length) C654)), (R653 = some ad659), (0 ≤ (q2 : Int)), ((q2 : Int) < ((gL g.mv (k2)).length : Nat)), (w623.cell? (ad659.add ((q2 : Int).toNat * 1)) = some (.int .i64 (gI (gL g.mv (k2)) (q2))))] (by kernel_rfl) ⟨(bx632.cell (i := 2) rfl), hA651, (by omega), (by omega), hc652, hA660, (by omega), (by omega), hc661, trivial⟩ (fun act663 f662 => ?_)
      clear f646
      refine At.done rfl ?_
      refine t_n ?_
      refine wp_seq ?_
      refine At.start ?_
      obtain ⟨ad664, hA665, hb668, hc667, hc666⟩ := r628.get (gI (gL g.mv (k2)) (q2)) (by omega) (by omega) (sz := 1) rfl
      rcases Bool.eq_false_or_eq_true (gB li (gI (gL g.mv (k2)) (q2))) with h669 | h669
      ·obtain ⟨ad671, hA672, _, _, hc673⟩ := RdI.get r627.ow (k2) (by omega) (by omega)
       rcases Bool.eq_false_or_eq_true ((gI g.ow (k2) : Int) != p) with h674 | h674
       ·have q675 := bne_iff_ne.1 h674
        obtain ⟨ad676, hA677, hb680, hc679, hc678⟩ := ow633.get (gI (gL g.mv (k2)) (q2)) (by omega) (by omega) (sz := 1) rfl
        refine At.rd f662 28 [[], [], [.ad ad664], [.ld (.bool (gB li (gI (gL g.mv (k2)) (q2))))], [.as_ (.bool true)], [], [.ld (.slice Ag0 g.ow.length cg0)], [], [.ad ad671], [.ld (.int .i64 (gI g.ow (k2)))], [], [], [.as_ (.bool true)], [], [], [], [], [], [], [], [], [], [], [], [.ad ad676], [.ld (.bool (gB df (gI (gL g.mv (k2)) (q2))))], [], []] [(183, .bool (!(gB df (gI (gL g.mv (k2)) (q2))))), (182, .bool (!(gB df (gI (gL g.mv (k2)) (q2))))), (181, .bool (gB df (gI (gL g.mv (k2)) (q2)))), (180, .pointer (some (ad676.add ((gI (gL g.mv (k2)) (q2) : Int).toNat * 1)))), (179, .int .i64 (gI (gL g.mv (k2)) (q2))), (178, .slice A_579 df.length c_580), (177, .bool true), (176, .bool true), (175, .bool true), (174, undef), (173, undef), (172, undef), (171, undef), (170, undef), (169, undef), (168, .bool true), (167, .bool ((gI g.ow (k2) : Int) != p)), (166, .int .i64 (p)), (165, .int .i64 (gI g.ow (k2))), (164, .pointer (some (ad671.add ((k2 : Int).toNat * 1)))), (163, .int .i64 (k2)), (162, .slice Ag0 g.ow.length cg0), (161, .pointer (some ⟨w.heap.size, 0, none⟩)), (160, .bool true), (159, .bool (gB li (gI (gL g.mv (k2)) (q2)))), (158, .pointer (some (ad664.add ((gI (gL g.mv (k2)) (q2) : Int).toNat * 1)))), (157, .int .i64 (gI (gL g.mv (k2)) (q2))), (156, .slice Ai li.length ci)] [(Ai = some ad664), (0 ≤ (gI (gL g.mv (k2)) (q2) : Int)), ((gI (gL g.mv (k2)) (q2) : Int) < (li.length : Nat)), (w623.cell? (ad664.add ((gI (gL g.mv (k2)) (q2) : Int).toNat * 1)) = some (.bool (gB li (gI (gL g.mv (k2)) (q2))))), ((.bool (gB li (gI (gL g.mv (k2)) (q2))) : Value) = .bool true), (w623.cell? ⟨w.heap.size, 0, none⟩ = some (.slice Ag0 g.ow.length cg0)), (Ag0 = some ad671), (0 ≤ (k2 : Int)), ((k2 : Int) < (g.ow.length : Nat)), (w623.cell? (ad671.add ((k2 : Int).toNat * 1)) = some (.int .i64 (gI g.ow (k2)))), ((.bool ((gI g.ow (k2) : Int) != p) : Value) = .bool true), (A_579 = some ad676), (0 ≤ (gI (gL g.mv (k2)) (q2) : Int)), ((gI (gL g.mv (k2)) (q2) : Int) < (df.length : Nat)), (w623.cell? (ad676.add ((gI (gL g.mv (k2)) (q2) : Int).toNat * 1)) = some (.bool (gB df (gI (gL g.mv (k2)) (q2)))))] (by kernel_rfl) ⟨hA665, (by omega), (by omega), hc667, (congrArg Value.bool h669), (bx632.cell (i := 0) rfl), hA672, (by omega), (by omega), hc673, (congrArg Value.bool h674), hA677, (by omega), (by omega), hc679, trivial⟩ (fun act682 f681 => ?_)
        clear f662
        refine At.done rfl ?_
        refine t_n ?_
        refine cond_S f681 (t := !(gB df (gI (gL g.mv (k2)) (q2)))) rfl (fun h683 => ?_) (fun h683 => ?_)
        ·have q684 : (gB df (gI (gL g.mv (k2)) (q2))) = false := by first | exact Eq.mp (Bool.not_eq_true' _) h683 | exact Eq.mp (Bool.not_eq_false' _) h683 | simpa using h683
         refine At.start ?_
         refine At.rd f681 1 [[]] [(21, .bool false)] [] (by kernel_rfl) trivial (fun act687 f686 => ?_)
         clear f681
         refine At.done rfl ?_
         refine b_n ?_
         refine t_n ?_
         refine At.start ?_
         refine At.rd f686 3 [[], [.as_ (.int .i64 (q2 + 1))], []] [(22, .int .i64 (q2 + 1)), (147, .int .i64 (q2 + 1)), (146, .int .i64 (q2))] [((.int .i64 (IntKind.i64.wrap (q2 + 1)) : Value) = .int .i64 (q2 + 1))] (by kernel_rfl) ⟨(w64 (by omega) (by omega)), trivial⟩ (fun act689 f688 => ?_)
         clear f686
         refine At.done rfl ?_
         refine t_n ?_
         have f690 := f688.sub (r := [(22, .int .i64 (q2 + 1)), (21, .bool false), (20, .int .i64 (k2)), (19, .bool (m2)), (14, .slice A_579 df.length c_580), (13, .int .i64 (((g.ow.length : Nat) : Int))), (6, .pointer (some ⟨w.heap.size, 0, none⟩)), (1, .slice Ai li.length ci), (2, .int .i64 (p)), (5, .slice Am lm.length cm)]) ⟨rfl, rfl, rfl, rfl, rfl, rfl, rfl, rfl, rfl, rfl, trivial⟩
         exact ⟨_, (by omega), (q2 + 1), false, rfl, f690, e624, r627, r628, r629, r630, r631, bx632, ow633, (by omega), (by omega), (ends_bad hen (by omega) (by omega) (by assumption) (by first | exact .inl (by omega) | exact .inr (by omega)) (by assumption)), (by omega)⟩
        ·have q691 : (gB df (gI (gL g.mv (k2)) (q2))) = true := by first | exact Eq.mp (Bool.not_eq_true' _) h683 | exact Eq.mp (Bool.not_eq_false' _) h683 | simpa using h683
         refine wp_skip ?_
         refine b_n ?_
         refine t_n ?_
         refine At.start ?_
         refine At.rd f681 3 [[], [.as_ (.int .i64 (q2 + 1))], []] [(22, .int .i64 (q2 + 1)), (147, .int .i64 (q2 + 1)), (146, .int .i64 (q2))] [((.int .i64 (IntKind.i64.wrap (q2 + 1)) : Value) = .int .i64 (q2 + 1))] (by kernel_rfl) ⟨(w64 (by omega) (by omega)), trivial⟩ (fun act694 f693 => ?_)
         clear f681
         refine At.done rfl ?_
         refine t_n ?_
         have f695 := f693.sub (r := [(22, .int .i64 (q2 + 1)), (21, .bool (en)), (20, .int .i64 (k2)), (19, .bool (m2)), (14, .slice A_579 df.length c_580), (13, .int .i64 (((g.ow.length : Nat) : Int))), (6, .pointer (some ⟨w.heap.size, 0, none⟩)), (1, .slice Ai li.length ci), (2, .int .i64 (p)), (5, .slice Am lm.length cm)]) ⟨rfl, rfl, rfl, rfl, rfl, rfl, rfl, rfl, rfl, rfl, trivial⟩
         exact ⟨_, (by omega), (q2 + 1), en, rfl, f695, e624, r627, r628, r629, r630, r631, bx632, ow633, (by omega), (by omega), (ends_keep hen (by omega) (by omega) (by first | exact .inl (by assumption) | exact .inr (.inr (by assumption)) | exact .inr (.inl ⟨by omega, by omega⟩))), (by omega)⟩
       ·have q696 := bne_eq_false_iff_eq.1 h674
        obtain ⟨ad697, hA698, _, _, hc699⟩ := RdI.get r631 (k2) (by omega) (by omega)
        rcases Bool.eq_false_or_eq_true ((gI (gL g.mv (k2)) (q2) : Int) == (gI lm (k2))) with h700 | h700
        ·have q701 := eq_of_beq h700
         obtain ⟨ad702, hA703, hb706, hc705, hc704⟩ := ow633.get (gI (gL g.mv (k2)) (q2)) (by omega) (by omega) (sz := 1) rfl
         refine At.rd f662 28 [[], [], [.ad ad664], [.ld (.bool (gB li (gI (gL g.mv (k2)) (q2))))], [.as_ (.bool true)], [], [.ld (.slice Ag0 g.ow.length cg0)], [], [.ad ad671], [.ld (.int .i64 (gI g.ow (k2)))], [], [], [.as_ (.bool false)], [], [], [], [.ad ad697], [.ld (.int .i64 (gI lm (k2)))], [], [], [], [.as_ (.bool true)], [], [], [.ad ad702], [.ld (.bool (gB df (gI (gL g.mv (k2)) (q2))))], [], []] [(183, .bool (!(gB df (gI (gL g.mv (k2)) (q2))))), (182, .bool (!(gB df (gI (gL g.mv (k2)) (q2))))), (181, .bool (gB df (gI (gL g.mv (k2)) (q2)))), (180, .pointer (some (ad702.add ((gI (gL g.mv (k2)) (q2) : Int).toNat * 1)))), (179, .int .i64 (gI (gL g.mv (k2)) (q2))), (178, .slice A_579 df.length c_580), (177, .bool true), (176, .bool ((gI (gL g.mv (k2)) (q2) : Int) == (gI lm (k2)))), (175, .bool ((gI (gL g.mv (k2)) (q2) : Int) == (gI lm (k2)))), (174, .bool ((gI (gL g.mv (k2)) (q2) : Int) == (gI lm (k2)))), (173, .int .i64 (gI lm (k2))), (172, .pointer (some (ad697.add ((k2 : Int).toNat * 1)))), (171, .int .i64 (k2)), (170, .slice Am lm.length cm), (169, .int .i64 (gI (gL g.mv (k2)) (q2))), (168, .bool false), (167, .bool ((gI g.ow (k2) : Int) != p)), (166, .int .i64 (p)), (165, .int .i64 (gI g.ow (k2))), (164, .pointer (some (ad671.add ((k2 : Int).toNat * 1)))), (163, .int .i64 (k2)), (162, .slice Ag0 g.ow.length cg0), (161, .pointer (some ⟨w.heap.size, 0, none⟩)), (160, .bool true), (159, .bool (gB li (gI (gL g.mv (k2)) (q2)))), (158, .pointer (some (ad664.add ((gI (gL g.mv (k2)) (q2) : Int).toNat * 1)))), (157, .int .i64 (gI (gL g.mv (k2)) (q2))), (156, .slice Ai li.length ci)] [(Ai = some ad664), (0 ≤ (gI (gL g.mv (k2)) (q2) : Int)), ((gI (gL g.mv (k2)) (q2) : Int) < (li.length : Nat)), (w623.cell? (ad664.add ((gI (gL g.mv (k2)) (q2) : Int).toNat * 1)) = some (.bool (gB li (gI (gL g.mv (k2)) (q2))))), ((.bool (gB li (gI (gL g.mv (k2)) (q2))) : Value) = .bool true), (w623.cell? ⟨w.heap.size, 0, none⟩ = some (.slice Ag0 g.ow.length cg0)), (Ag0 = some ad671), (0 ≤ (k2 : Int)), ((k2 : Int) < (g.ow.length : Nat)), (w623.cell? (ad671.add ((k2 : Int).toNat * 1)) = some (.int .i64 (gI g.ow (k2)))), ((.bool ((gI g.ow (k2) : Int) != p) : Value) = .bool false), (Am = some ad697), (0 ≤ (k2 : Int)), ((k2 : Int) < (lm.length : Nat)), (w623.cell? (ad697.add ((k2 : Int).toNat * 1)) = some (.int .i64 (gI lm (k2)))), ((.bool ((gI (gL g.mv (k2)) (q2) : Int) == (gI lm (k2))) : Value) = .bool true), (A_579 = some ad702), (0 ≤ (gI (gL g.mv (k2)) (q2) : Int)), ((gI (gL g.mv (k2)) (q2) : Int) < (df.length : Nat)), (w623.cell? (ad702.add ((gI (gL g.mv (k2)) (q2) : Int).toNat * 1)) = some (.bool (gB df (gI (gL g.mv (k2)) (q2)))))] (by kernel_rfl) ⟨hA665, (by omega), (by omega), hc667, (congrArg Value.bool h669), (bx632.cell (i := 0) rfl), hA672, (by omega), (by omega), hc673, (congrArg Value.bool h674), hA698, (by omega), (by omega), hc699, (congrArg Value.bool h700), hA703, (by omega), (by omega), hc705, trivial⟩ (fun act708 f707 => ?_)
         clear f662
         refine At.done rfl ?_
         refine t_n ?_
         refine cond_S f707 (t := !(gB df (gI (gL g.mv (k2)) (q2)))) rfl (fun h709 => ?_) (fun h709 => ?_)
         ·have q710 : (gB df (gI (gL g.mv (k2)) (q2))) = false := by first | exact Eq.mp (Bool.not_eq_true' _) h709 | exact Eq.mp (Bool.not_eq_false' _) h709 | simpa using h709
          refine At.start ?_
          refine At.rd f707 1 [[]] [(21, .bool false)] [] (by kernel_rfl) trivial (fun act713 f712 => ?_)
          clear f707
          refine At.done rfl ?_
          refine b_n ?_
          refine t_n ?_
          refine At.start ?_
          refine At.rd f712 3 [[], [.as_ (.int .i64 (q2 + 1))], []] [(22, .int .i64 (q2 + 1)), (147, .int .i64 (q2 + 1)), (146, .int .i64 (q2))] [((.int .i64 (IntKind.i64.wrap (q2 + 1)) : Value) = .int .i64 (q2 + 1))] (by kernel_rfl) ⟨(w64 (by omega) (by omega)), trivial⟩ (fun act715 f714 => ?_)
          clear f712
          refine At.done rfl ?_
          refine t_n ?_
          have f716 := f714.sub (r := [(22, .int .i64 (q2 + 1)), (21, .bool false), (20, .int .i64 (k2)), (19, .bool (m2)), (14, .slice A_579 df.length c_580), (13, .int .i64 (((g.ow.length : Nat) : Int))), (6, .pointer (some ⟨w.heap.size, 0, none⟩)), (1, .slice Ai li.length ci), (2, .int .i64 (p)), (5, .slice Am lm.length cm)]) ⟨rfl, rfl, rfl, rfl, rfl, rfl, rfl, rfl, rfl, rfl, trivial⟩
          exact ⟨_, (by omega), (q2 + 1), false, rfl, f716, e624, r627, r628, r629, r630, r631, bx632, ow633, (by omega), (by omega), (ends_bad hen (by omega) (by omega) (by assumption) (by first | exact .inl (by omega) | exact .inr (by omega)) (by assumption)), (by omega)⟩
         ·have q717 : (gB df (gI (gL g.mv (k2)) (q2))) = true := by first | exact Eq.mp (Bool.not_eq_true' _) h709 | exact Eq.mp (Bool.not_eq_false' _) h709 | simpa using h709
          refine wp_skip ?_
          refine b_n ?_
          refine t_n ?_
          refine At.start ?_
          refine At.rd f707 3 [[], [.as_ (.int .i64 (q2 + 1))], []] [(22, .int .i64 (q2 + 1)), (147, .int .i64 (q2 + 1)), (146, .int .i64 (q2))] [((.int .i64 (IntKind.i64.wrap (q2 + 1)) : Value) = .int .i64 (q2 + 1))] (by kernel_rfl) ⟨(w64 (by omega) (by omega)), trivial⟩ (fun act720 f719 => ?_)
          clear f707
          refine At.done rfl ?_
          refine t_n ?_
          have f721 := f719.sub (r := [(22, .int .i64 (q2 + 1)), (21, .bool (en)), (20, .int .i64 (k2)), (19, .bool (m2)), (14, .slice A_579 df.length c_580), (13, .int .i64 (((g.ow.length : Nat) : Int))), (6, .pointer (some ⟨w.heap.size, 0, none⟩)), (1, .slice Ai li.length ci), (2, .int .i64 (p)), (5, .slice Am lm.length cm)]) ⟨rfl, rfl, rfl, rfl, rfl, rfl, rfl, rfl, rfl, rfl, trivial⟩
          exact ⟨_, (by omega), (q2 + 1), en, rfl, f721, e624, r627, r628, r629, r630, r631, bx632, ow633, (by omega), (by omega), (ends_keep hen (by omega) (by omega) (by first | exact .inl (by assumption) | exact .inr (.inr (by assumption)) | exact .inr (.inl ⟨by omega, by omega⟩))), (by omega)⟩
        ·have q722 := ne_of_beq_false h700
         refine At.rd f662 28 [[], [], [.ad ad664], [.ld (.bool (gB li (gI (gL g.mv (k2)) (q2))))], [.as_ (.bool true)], [], [.ld (.slice Ag0 g.ow.length cg0)], [], [.ad ad671], [.ld (.int .i64 (gI g.ow (k2)))], [], [], [.as_ (.bool false)], [], [], [], [.ad ad697], [.ld (.int .i64 (gI lm (k2)))], [], [], [], [.as_ (.bool false)], [], [], [], [], [], []] [(183, .bool false), (182, undef), (181, undef), (180, undef), (179, undef), (178, undef), (177, .bool false), (176, .bool ((gI (gL g.mv (k2)) (q2) : Int) == (gI lm (k2)))), (175, .bool ((gI (gL g.mv (k2)) (q2) : Int) == (gI lm (k2)))), (174, .bool ((gI (gL g.mv (k2)) (q2) : Int) == (gI lm (k2)))), (173, .int .i64 (gI lm (k2))), (172, .pointer (some (ad697.add ((k2 : Int).toNat * 1)))), (171, .int .i64 (k2)), (170, .slice Am lm.length cm), (169, .int .i64 (gI (gL g.mv (k2)) (q2))), (168, .bool false), (167, .bool ((gI g.ow (k2) : Int) != p)), (166, .int .i64 (p)), (165, .int .i64 (gI g.ow (k2))), (164, .pointer (some (ad671.add ((k2 : Int).toNat * 1)))), (163, .int .i64 (k2)), (162, .slice Ag0 g.ow.length cg0), (161, .pointer (some ⟨w.heap.size, 0, none⟩)), (160, .bool true), (159, .bool (gB li (gI (gL g.mv (k2)) (q2)))), (158, .pointer (some (ad664.add ((gI (gL g.mv (k2)) (q2) : Int).toNat * 1)))), (157, .int .i64 (gI (gL g.mv (k2)) (q2))), (156, .slice Ai li.length ci)] [(Ai = some ad664), (0 ≤ (gI (gL g.mv (k2)) (q2) : Int)), ((gI (gL g.mv (k2)) (q2) : Int) < (li.length : Nat)), (w623.cell? (ad664.add ((gI (gL g.mv (k2)) (q2) : Int).toNat * 1)) = some (.bool (gB li (gI (gL g.mv (k2)) (q2))))), ((.bool (gB li (gI (gL g.mv (k2)) (q2))) : Value) = .bool true), (w623.cell? ⟨w.heap.size, 0, none⟩ = some (.slice Ag0 g.ow.length cg0)), (Ag0 = some ad671), (0 ≤ (k2 : Int)), ((k2 : Int) < (g.ow.length : Nat)), (w623.cell? (ad671.add ((k2 : Int).toNat * 1)) = some (.int .i64 (gI g.ow (k2)))), ((.bool ((gI g.ow (k2) : Int) != p) : Value) = .bool false), (Am = some ad697), (0 ≤ (k2 : Int)), ((k2 : Int) < (lm.length : Nat)), (w623.cell? (ad697.add ((k2 : Int).toNat * 1)) = some (.int .i64 (gI lm (k2)))), ((.bool ((gI (gL g.mv (k2)) (q2) : Int) == (gI lm (k2))) : Value) = .bool false)] (by kernel_rfl) ⟨hA665, (by omega), (by omega), hc667, (congrArg Value.bool h669), (bx632.cell (i := 0) rfl), hA672, (by omega), (by omega), hc673, (congrArg Value.bool h674), hA698, (by omega), (by omega), hc699, (congrArg Value.bool h700), trivial⟩ (fun act724 f723 => ?_)
         clear f662
         refine At.done rfl ?_
         refine t_n ?_
         refine cond_F f723 rfl ?_
         refine wp_skip ?_
         refine b_n ?_
         refine t_n ?_
         refine At.start ?_
         refine At.rd f723 3 [[], [.as_ (.int .i64 (q2 + 1))], []] [(22, .int .i64 (q2 + 1)), (147, .int .i64 (q2 + 1)), (146, .int .i64 (q2))] [((.int .i64 (IntKind.i64.wrap (q2 + 1)) : Value) = .int .i64 (q2 + 1))] (by kernel_rfl) ⟨(w64 (by omega) (by omega)), trivial⟩ (fun act726 f725 => ?_)
         clear f723
         refine At.done rfl ?_
         refine t_n ?_
         have f727 := f725.sub (r := [(22, .int .i64 (q2 + 1)), (21, .bool (en)), (20, .int .i64 (k2)), (19, .bool (m2)), (14, .slice A_579 df.length c_580), (13, .int .i64 (((g.ow.length : Nat) : Int))), (6, .pointer (some ⟨w.heap.size, 0, none⟩)), (1, .slice Ai li.length ci), (2, .int .i64 (p)), (5, .slice Am lm.length cm)]) ⟨rfl, rfl, rfl, rfl, rfl, rfl, rfl, rfl, rfl, rfl, trivial⟩
         exact ⟨_, (by omega), (q2 + 1), en, rfl, f727, e624, r627, r628, r629, r630, r631, bx632, ow633, (by omega), (by omega), (ends_keep hen (by omega) (by omega) (by first | exact .inl (by assumption) | exact .inr (.inr (by assumption)) | exact .inr (.inl ⟨by omega, by omega⟩))), (by omega)⟩
      ·refine At.rd f662 28 [[], [], [.ad ad664], [.ld (.bool (gB li (gI (gL g.mv (k2)) (q2))))], [.as_ (.bool false)], [], [], [], [], [], [], [], [], [], [], [], [], [], [], [], [], [], [], [], [], [], [], []] [(183, .bool false), (182, undef), (181, undef), (180, undef), (179, undef), (178, undef), (177, .bool false), (176, .bool false), (175, undef), (174, undef), (173, undef), (172, undef), (171, undef), (170, undef), (169, undef), (168, undef), (167, undef), (166, undef), (165, undef), (164, undef), (163, undef), (162, undef), (161, undef), (160, .bool false), (159, .bool (gB li (gI (gL g.mv (k2)) (q2)))), (158, .pointer (some (ad664.add ((gI (gL g.mv (k2)) (q2) : Int).toNat * 1)))), (157, .int .i64 (gI (gL g.mv (k2)) (q2))), (156, .slice Ai li.length ci)] [(Ai = some ad664), (0 ≤ (gI (gL g.mv (k2)) (q2) : Int)), ((gI (gL g.mv (k2)) (q2) : Int) < (li.length : Nat)), (w623.cell? (ad664.add ((gI (gL g.mv (k2)) (q2) : Int).toNat * 1)) = some (.bool (gB li (gI (gL g.mv (k2)) (q2))))), ((.bool (gB li (gI (gL g.mv (k2)) (q2))) : Value) = .bool false)] (by kernel_rfl) ⟨hA665, (by omega), (by omega), hc667, (congrArg Value.bool h669), trivial⟩ (fun act730 f729 => ?_)
       clear f662
       refine At.done rfl ?_
       refine t_n ?_
       refine cond_F f729 rfl ?_
       refine wp_skip ?_
       refine b_n ?_
       refine t_n ?_
       refine At.start ?_
       refine At.rd f729 3 [[], [.as_ (.int .i64 (q2 + 1))], []] [(22, .int .i64 (q2 + 1)), (147, .int .i64 (q2 + 1)), (146, .int .i64 (q2))] [((.int .i64 (IntKind.i64.wrap (q2 + 1)) : Value) = .int .i64 (q2 + 1))] (by kernel_rfl) ⟨(w64 (by omega) (by omega)), trivial⟩ (fun act732 f731 => ?_)
       clear f729
       refine At.done rfl ?_
       refine t_n ?_
       have f733 := f731.sub (r := [(22, .int .i64 (q2 + 1)), (21, .bool (en)), (20, .int .i64 (k2)), (19, .bool (m2)), (14, .slice A_579 df.length c_580), (13, .int .i64 (((g.ow.length : Nat) : Int))), (6, .pointer (some ⟨w.heap.size, 0, none⟩)), (1, .slice Ai li.length ci), (2, .int .i64 (p)), (5, .slice Am lm.length cm)]) ⟨rfl, rfl, rfl, rfl, rfl, rfl, rfl, rfl, rfl, rfl, trivial⟩
       exact ⟨_, (by omega), (q2 + 1), en, rfl, f733, e624, r627, r628, r629, r630, r631, bx632, ow633, (by omega), (by omega), (ends_keep hen (by omega) (by omega) (by first | exact .inl (by assumption) | exact .inr (.inr (by assumption)) | exact .inr (.inl ⟨by omega, by omega⟩))), (by omega)⟩
     ·have q734 := of_decide_eq_false h648
      refine wp_exit ?_
      refine t_e ?_
      refine t_e ?_
      refine b_e ?_
      refine t_n ?_
      refine wp_seq ?_
      refine At.start ?_
      refine At.rd f646 1 [[]] [(184, .bool (en))] [] (by kernel_rfl) trivial (fun act736 f735 => ?_)
      clear f646
      refine At.done rfl ?_
      refine t_n ?_
      refine cond_S f735 (t := en) rfl (fun h737 => ?_) (fun h737 => ?_)
      ·refine wp_seq ?_
       refine At.start ?_
       obtain ⟨ad739, hA740, hb743, hc742, hc741⟩ := ow633.get (k2) (by omega) (by omega) (sz := 1) rfl
       refine At.rd f735 3 [[], [], [.ad ad739]] [(187, .pointer (some (ad739.add ((k2 : Int).toNat * 1)))), (186, .int .i64 (k2)), (185, .slice A_579 df.length c_580)] [(A_579 = some ad739), (0 ≤ (k2 : Int)), ((k2 : Int) < (df.length : Nat))] (by kernel_rfl) ⟨hA740, (by omega), (by omega), trivial⟩ (fun act745 f744 => ?_)
       clear f735
       refine At.act f744 (storeR (α := Bool) (t := 4) (i := k2) (ad := ad739) (v := .bool true) (true) (by kernel_rfl) rfl rfl (by kernel_rfl) hA740 ow633 (by omega) (by omega)) ?_
       rintro d_ v_ w746 ⟨rfl, g747, ow748⟩
       refine ⟨_, rfl, fun act751 f750 => ?_⟩
       clear f744
       have hl749 : ((df).set (k2 : Int).toNat true).length = (df).length := List.length_set
       have szw746 := g747.size
       replace e624 := e624.gr g747 (fun k hk => by have := ow633.ge k hk; omega)
       replace r627 := r627.gr g747 (fun k hk => by have := ow633.ge k hk; omega)
       replace r628 := r628.gr g747 (fun k hk => by have := ow633.ge k hk; omega)
       replace r629 := r629.gr g747 (fun k hk => by have := ow633.ge k hk; omega)
       replace r630 := r630.gr g747 (fun k hk => by have := ow633.ge k hk; omega)
       replace r631 := r631.gr g747 (fun k hk => by have := ow633.ge k hk; omega)
       replace bx632 := bx632.gr g747 (fun e => by have := ow633.ge _ e; omega)
       replace r643 := r643.gr g747 (fun k hk => by have := ow633.ge k hk; omega)
       clear ow633 g747
       refine At.done rfl ?_
       refine t_n ?_
       refine At.start ?_
       refine At.rd f750 1 [[]] [(19, .bool true)] [] (by kernel_rfl) trivial (fun act761 f760 => ?_)
       clear f750
       refine At.done rfl ?_
       refine b_n ?_
       refine t_n ?_
       refine At.start ?_
       refine At.rd f760 3 [[], [.as_ (.int .i64 (k2 + 1))], []] [(20, .int .i64 (k2 + 1)), (133, .int .i64 (k2 + 1)), (132, .int .i64 (k2))] [((.int .i64 (IntKind.i64.wrap (k2 + 1)) : Value) = .int .i64 (k2 + 1))] (by kernel_rfl) ⟨(w64 (by omega) (by omega)), trivial⟩ (fun act763 f762 => ?_)
       clear f760
       refine At.done rfl ?_
       refine t_n ?_
       have f764 := f762.as 14 (.slice A_579 df.length c_580) (.slice A_579 (((df).set (k2 : Int).toNat true : List Bool).length) c_580) rfl (slice_len (by first | rfl | omega | (simp; done) | (simp; omega)))
       clear f762
       have f765 := f764.sub (r := [(20, .int .i64 (k2 + 1)), (19, .bool true), (14, .slice A_579 (((df).set (k2 : Int).toNat true : List Bool).length) c_580), (13, .int .i64 (((g.ow.length : Nat) : Int))), (6, .pointer (some ⟨w.heap.size, 0, none⟩)), (1, .slice Ai li.length ci), (2, .int .i64 (p)), (5, .slice Am lm.length cm)]) ⟨rfl, rfl, rfl, rfl, rfl, rfl, rfl, rfl, trivial⟩
       exact ⟨_, (by omega), (k2 + 1), true, ((df).set (k2 : Int).toNat true : List Bool), A_579, c_580, rfl, f765, e624, r627, r628, r629, r630, r631, bx632, ow748, (by omega), (by omega), (pasK_put hpk (by omega) (by omega) (by assumption)), (by rw [List.length_set]; assumption), (by omega)⟩
      ·refine wp_skip ?_
       refine b_n ?_
       refine t_n ?_
       refine At.start ?_
       refine At.rd f735 3 [[], [.as_ (.int .i64 (k2 + 1))], []] [(20, .int .i64 (k2 + 1)), (133, .int .i64 (k2 + 1)), (132, .int .i64 (k2))] [((.int .i64 (IntKind.i64.wrap (k2 + 1)) : Value) = .int .i64 (k2 + 1))] (by kernel_rfl) ⟨(w64 (by omega) (by omega)), trivial⟩ (fun act768 f767 => ?_)
       clear f735
       refine At.done rfl ?_
       refine t_n ?_
       have f769 := f767.as 14 (.slice A_579 df.length c_580) (.slice A_579 ((df : List Bool).length) c_580) rfl (slice_len (by first | rfl | omega | (simp; done) | (simp; omega)))
       clear f767
       have f770 := f769.sub (r := [(20, .int .i64 (k2 + 1)), (19, .bool (m2)), (14, .slice A_579 ((df : List Bool).length) c_580), (13, .int .i64 (((g.ow.length : Nat) : Int))), (6, .pointer (some ⟨w.heap.size, 0, none⟩)), (1, .slice Ai li.length ci), (2, .int .i64 (p)), (5, .slice Am lm.length cm)]) ⟨rfl, rfl, rfl, rfl, rfl, rfl, rfl, rfl, trivial⟩
       exact ⟨_, (by omega), (k2 + 1), m2, (df : List Bool), A_579, c_580, rfl, f770, e624, r627, r628, r629, r630, r631, bx632, ow633, (by omega), (by omega), (pasK_skip hpk (by omega) (by first | exact .inl (by assumption) | exact .inr (fun h_ => by have h2_ := (ends_all hen (by omega)).2 h_; rw [show en = false from by assumption] at h2_; cases h2_))), hpk.pas.len, (by omega)⟩
   ·have q771 := of_decide_eq_false h601
    refine wp_exit ?_
    refine t_e ?_
    refine t_e ?_
    refine b_e ?_
    refine b_n ?_
    refine t_n ?_
    have f772 := f599.as 14 (.slice A_579 df.length c_580) (.slice A_579 ((df : List Bool).length) c_580) rfl (slice_len (by first | rfl | omega | (simp; done) | (simp; omega)))
    clear f599
    have f773 := f772.sub (r := [(19, .bool (m2)), (14, .slice A_579 ((df : List Bool).length) c_580), (13, .int .i64 (((g.ow.length : Nat) : Int))), (6, .pointer (some ⟨w.heap.size, 0, none⟩)), (1, .slice Ai li.length ci), (2, .int .i64 (p)), (5, .slice Am lm.length cm)]) ⟨rfl, rfl, rfl, rfl, rfl, rfl, rfl, trivial⟩
    have hgr := pas_grow hn1 hpk
    exact ⟨_, (by rw [hm560]; exact meas_dec (by assumption) hgr.1 hgr.2), m2, (df : List Bool), A_579, c_580, rfl, f773, e585, r588, r589, r590, r591, r592, bx593, ow594, hpk.pas, (pas_fin hpk (by omega)), hpk.pas.len, (by omega)⟩
  ·refine wp_exit ?_
   refine t_e ?_
   refine t_e ?_
   refine b_e ?_
   refine t_n ?_
   refine wp_seq ?_
   refine wp_seq ?_
   have hpF2 : PasF g li p lm de false := by have e_ : m = false := (by assumption); rw [e_] at hpF; exact hpF
   have hall := pas_all hn1 hmv hps hpF2
   refine At.start ?_
   refine At.rd f571 1 [[]] [(24, .int .i64 (0))] [] (by kernel_rfl) trivial (fun act776 f775 => ?_)
   clear f571
   refine At.done rfl ?_
   refine t_n ?_
   refine wp_block ?_
   have f777 := f775.sub (r := [(24, .int .i64 (0)), (14, .slice A_553 de.length c_554), (13, .int .i64 (((g.ow.length : Nat) : Int))), (6, .pointer (some ⟨w.heap.size, 0, none⟩))]) ⟨rfl, rfl, rfl, rfl, trivial⟩
   refine loop_g (fun (m_ : Nat) a_ w_ => ∃ (k3 : Int), m_ = ((g.ow.length : Int) - k3).toNat ∧ (Frm 200 a_ [(24, .int .i64 (k3)), (14, .slice A_553 de.length c_554), (13, .int .i64 (((g.ow.length : Nat) : Int))), (6, .pointer (some ⟨w.heap.size, 0, none⟩))]) ∧ (Ext w w_) ∧ (RdG w_ 0 w.heap.size Ag0 Ag1 Ag2 cg0 cg1 cg2 g) ∧ (RdR w_ 0 w.heap.size Ai (li : List Bool)) ∧ (RdR w_ 0 w.heap.size Au (lu : List Bool)) ∧ (RdR w_ 0 w.heap.size Aa (la : List Bool)) ∧ (RdI w_ 0 w.heap.size Am lm) ∧ (Bx w_ (w.heap.size) [.slice Ag0 g.ow.length cg0, .slice Ag1 g.pr.length cg1, .slice Ag2 g.mv.length cg2] 25) ∧ (OwnR w_ (Sx (w1.heap.size) []) A_553 c_554 4 (de : List Bool)) ∧ (0 ≤ k3) ∧ (k3 ≤ (g.ow.length : Int)) ∧ (w1.heap.size ≤ w_.heap.size)) _ ⟨0, rfl, f777, e559, r562, r563, r564, r565, r566, bx567, ow568, (by omega), (by omega), (by omega)⟩ ?_
   clear f777 f775
   clear r562
   clear r563
   clear r564
   clear r565
   clear r566
   clear bx567
   clear ow568
   clear e559
   intro m_ act778 w779 ⟨k3, hm781, f782, e780, r783, r784, r785, r786, r787, bx788, ow789, i790, i791, i792⟩
   have szw779 := e780.size
   have := bx788.lt
   refine wp_seq ?_
   refine wp_seq ?_
   refine At.start ?_
   refine At.rd f782 3 [[], [], []] [(190, .bool (decide ((k3 : Int) < ((g.ow.length : Nat) : Int)))), (189, .int .i64 (((g.ow.length : Nat) : Int))), (188, .int .i64 (k3))] [] (by kernel_rfl) trivial (fun act794 f793 => ?_)
   clear f782
   refine At.done rfl ?_
   refine t_n ?_
   refine cond_S f793 (t := decide ((k3 : Int) < ((g.ow.length : Nat) : Int))) rfl (fun h795 => ?_) (fun h795 => ?_)
   ·have q796 := of_decide_eq_true h795
    refine wp_skip ?_
    refine t_n ?_
    refine wp_seq ?_
    refine wp_block ?_
    refine wp_seq ?_
    refine At.start ?_
    obtain ⟨ad797, hA798, hb801, hc800, hc799⟩ := ow789.get (k3) (by omega) (by omega) (sz := 1) rfl
    refine At.rd f793 5 [[], [], [.ad ad797], [.ld (.bool (gB de k3)), .as_ (.bool true)], []] [(197, .bool false), (196, .bool true), (195, .pointer (some (ad797.add ((k3 : Int).toNat * 1)))), (194, .int .i64 (k3)), (193, .slice A_553 de.length c_554)] [(A_553 = some ad797), (0 ≤ (k3 : Int)), ((k3 : Int) < (de.length : Nat)), (w779.cell? (ad797.add ((k3 : Int).toNat * 1)) = some (.bool (gB de k3))), ((.bool (gB de k3) : Value) = .bool true)] (by kernel_rfl) ⟨hA798, (by omega), (by omega), hc800, (congrArg Value.bool (hall _ (by omega) (by omega))), trivial⟩ (fun act803 f802 => ?_)
    clear f793
    refine At.done rfl ?_
    refine t_n ?_
    refine cond_F f802 rfl ?_
    refine wp_skip ?_
    refine b_n ?_
    refine t_n ?_
    refine At.start ?_
    refine At.rd f802 3 [[], [.as_ (.int .i64 (k3 + 1))], []] [(24, .int .i64 (k3 + 1)), (192, .int .i64 (k3 + 1)), (191, .int .i64 (k3))] [((.int .i64 (IntKind.i64.wrap (k3 + 1)) : Value) = .int .i64 (k3 + 1))] (by kernel_rfl) ⟨(w64 (by omega) (by omega)), trivial⟩ (fun act805 f804 => ?_)
    clear f802
    refine At.done rfl ?_
    refine t_n ?_
    have f806 := f804.sub (r := [(24, .int .i64 (k3 + 1)), (14, .slice A_553 de.length c_554), (13, .int .i64 (((g.ow.length : Nat) : Int))), (6, .pointer (some ⟨w.heap.size, 0, none⟩))]) ⟨rfl, rfl, rfl, rfl, trivial⟩
    exact ⟨_, (by omega), (k3 + 1), rfl, f806, e780, r783, r784, r785, r786, r787, bx788, ow789, (by omega), (by omega), (by omega)⟩
   ·have q807 := of_decide_eq_false h795
    refine wp_exit ?_
    refine t_e ?_
    refine t_e ?_
    refine b_e ?_
    refine t_n ?_
    refine wp_seq ?_
    refine At.start ?_
    refine At.rd f793 1 [[.ld (.slice Ag0 g.ow.length cg0), .ld (.slice Ag1 g.pr.length cg1), .ld (.slice Ag2 g.mv.length cg2)]] [(198, .agg #[.slice Ag0 g.ow.length cg0, .slice Ag1 g.pr.length cg1, .slice Ag2 g.mv.length cg2])] [(w779.cell? ⟨w.heap.size, 0, none⟩ = some (.slice Ag0 g.ow.length cg0)), (w779.cell? ⟨w.heap.size, 1, none⟩ = some (.slice Ag1 g.pr.length cg1)), (w779.cell? ⟨w.heap.size, 2, none⟩ = some (.slice Ag2 g.mv.length cg2))] (by kernel_rfl) ⟨(bx788.cell (i := 0) rfl), (bx788.cell (i := 1) rfl), (bx788.cell (i := 2) rfl), trivial⟩ (fun act809 f808 => ?_)
    clear f793
    refine At.call f808 10 #[.agg #[.slice Ag0 g.ow.length cg0, .slice Ag1 g.pr.length cg1, .slice Ag2 g.mv.length cg2]] (some 199) (by kernel_rfl) ((isR_any (r783.wide (Nat.zero_le _) (by omega))).mono (R' := fun e w' => e = .returned (.bool true) ∧ Ext _ w') (fun e_ w_ h_ => by rw [show (isR g : Bool) = true from hR] at h_; exact h_)) ?_
    rintro e_ w810 ⟨rfl, he⟩
    refine ⟨_, rfl, _, rfl, fun act811 f812 => ?_⟩
    clear f808
    have g813 := gr_ext he
    have szw810 := g813.size
    replace e780 := e780.gr g813 no_row
    replace r783 := r783.gr g813 (fun _ h => by cases h)
    replace r784 := r784.gr g813 (fun _ h => by cases h)
    replace r785 := r785.gr g813 (fun _ h => by cases h)
    replace r786 := r786.gr g813 (fun _ h => by cases h)
    replace r787 := r787.gr g813 (fun _ h => by cases h)
    replace bx788 := bx788.gr g813 (by simp)
    replace ow789 := ow789.gr g813 (fun _ _ h => by cases h)
    clear g813 he
    refine At.rd f812 1 [[]] [(12, .bool true)] [] (by kernel_rfl) trivial (fun act823 f822 => ?_)
    clear f812
    refine At.done rfl ?_
    refine t_n ?_
    refine wp_ret ?_
    refine ret_ f822 [] [.bool true] [] (by kernel_rfl) trivial ?_
    exact ⟨rfl, e780⟩

end Go.Proofs.YtkpljmalbmcdfaaDoor
