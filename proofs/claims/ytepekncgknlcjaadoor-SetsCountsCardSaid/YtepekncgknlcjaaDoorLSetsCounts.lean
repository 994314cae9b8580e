/-
  A walk of a Go function, printed by a program of this repo. Conditions: what the theorems name.
-/
import Derived.Test.YtepekncgknlcjaaDoorWShown01
import Derived.Test.YtepekncgknlcjaaDoorPureAlg
set_option linter.unusedVariables false
set_option linter.unusedSimpArgs false
namespace Go.Proofs.YtepekncgknlcjaaDoor
open Go Go.RowKit

attribute [local irreducible] ofZ fromW wordsD ofD ofW lsD lenW lenN fullW withW lessW hasW hasD inW inD leastD putD onI tzI orS andS minusS orD andD minusD fullD emptyD
set_option maxHeartbeats 4000000 in
theorem counts01_any {s : List Int} {t : List Int} {n : Int} {w : World} (hs : OkW s) (ht : OkW t) (rT : RdT w 0 w.heap.size) :
    Calls Tryd.prog 10 #[.agg ((s : List Int).map wV).toArray, .agg ((t : List Int).map wV).toArray, .int .i64 (n)] w fun e w' => e = .returned (.bool true) ∧ Ext w w' := by
 have hls := hs.1
 have hlt := ht.1
 refine enter_ (args := [.agg ((s : List Int).map wV).toArray, .agg ((t : List Int).map wV).toArray, .int .i64 (n)]) Tryd.func10 rfl Tryd.ntmps10 (Nat.le_of_ble_eq_true rfl) (fun act0 f0 => ?_)
 have e0 := Ext.refl w
 refine wp_seq ?_
 refine At.start ?_
 refine At.seq f0 1 [[]] [(3, .pointer (some ⟨w.heap.size, 0, none⟩))] (w.alloc (.cells ((s : List Int).map wV).toArray 25 (0, 0))) [] (by kernel_rfl) trivial (fun act4 w1 hw2 f3 => ?_)
 clear f0
 have g5 := gr_alloc hw2
 have szw1 := g5.size
 have e7 := e0.gr g5 no_row
 clear e0
 have r8 := rT.gr g5 (fun _ h => by cases h)
 clear rT
 have bx9 : Bx w1 (w.heap.size) ((s : List Int).map wV) 25 := Bx.new hw2
 have := bx9.lt
 clear g5 hw2
 refine At.seq f3 1 [[]] [(4, .pointer (some ⟨w1.heap.size, 0, none⟩))] (w1.alloc (.cells ((t : List Int).map wV).toArray 25 (0, 0))) [] (by kernel_rfl) trivial (fun act13 w10 hw11 f12 => ?_)
 clear f3
 have g14 := gr_alloc hw11
 have szw10 := g14.size
 have e16 := e7.gr g14 no_row
 clear e7
 have r17 := r8.gr g14 (fun _ h => by cases h)
 clear r8
 have bx18 := bx9.gr g14 (by simp)
 clear bx9
 have bx19 : Bx w10 (w1.heap.size) ((t : List Int).map wV) 25 := Bx.new hw11
 have := bx19.lt
 clear g14 hw11
 refine At.rd f12 1 [[]] [(6, .bool false)] [] (by kernel_rfl) trivial (fun act21 f20 => ?_)
 clear f12
 refine At.done rfl ?_
 refine t_n ?_
 have f22 := f20.sub (r := [(4, .pointer (some ⟨w1.heap.size, 0, none⟩)), (3, .pointer (some ⟨w.heap.size, 0, none⟩)), (2, .int .i64 (n))]) ⟨rfl, rfl, rfl, trivial⟩
 clear f20
 refine wp_seq ?_
 refine At.start ?_
 refine At.call f22 12 #[] (some 12) (by kernel_rfl) (shown01_any (r17.wide (Nat.zero_le _) (by omega))) ?_
 rintro e_ w23 ⟨rfl, he⟩
 refine ⟨_, rfl, _, rfl, fun act24 f25 => ?_⟩
 clear f22
 have g26 := gr_ext he
 have szw23 := g26.size
 have e27 := e16.gr g26 no_row
 clear e16
 have r28 := r17.gr g26 (fun _ h => by cases h)
 clear r17
 have bx29 := bx18.gr g26 (by simp)
 clear bx18
 have bx30 := bx19.gr g26 (by simp)
 clear bx19
 clear g26 he
 refine At.rd f25 1 [[]] [(7, .bool true)] [] (by kernel_rfl) trivial (fun act32 f31 => ?_)
 clear f25
 refine At.done rfl ?_
 refine t_n ?_
 have f33 := f31.sub (r := [(7, .bool true), (4, .pointer (some ⟨w1.heap.size, 0, none⟩)), (3, .pointer (some ⟨w.heap.size, 0, none⟩)), (2, .int .i64 (n))]) ⟨rfl, rfl, rfl, rfl, trivial⟩
 clear f31
 refine wp_seq ?_
 refine At.start ?_
 refine At.rd f33 1 [[.cs ((s : List Int).map wV)]] [(13, .agg ((s : List Int).map wV).toArray)] [(((s : List Int).map wV).length = 4), (∀ (j : Nat) (v : Value), ((s : List Int).map wV)[j]? = some v → w23.cell? ((⟨w.heap.size, 0, none⟩ : Addr).add j) = some v)] (by kernel_rfl) ⟨(by simp only [List.length_map, List.length_set, List.length_replicate, List.length_cons, List.length_nil]; first | done | assumption | exact from_len _ | exact of_len _ | exact ofZ_len _ | exact (ofW_ok _).1 | exact (fullW_W _).1 | exact (okW_with (by assumption)).1 | exact (okW_less (by assumption)).1 | exact put_len (from_len _) | exact orD_len _ _ | exact andD_len _ _ | exact minusD_len _ _ | exact fullD_len _ | (refine okLen ?_; (repeat (first | assumption | exact ofW_ok _ | exact fullW_W _ | apply okW_with | apply okW_less | refine okW_orS ?_ ?_ | refine okW_andS ?_ ?_ | refine okW_minusS ?_ ?_)); done) | omega | rfl), bx29.whole, trivial⟩ (fun act35 f34 => ?_)
 clear f33
 refine At.seq f34 1 [[]] [(8, .pointer (some ⟨w23.heap.size, 0, none⟩))] (w23.alloc (.cells ((List.replicate 4 (0 : Int) : List Int).map wV).toArray 26 (0, 0))) [] (by kernel_rfl) trivial (fun act39 w36 hw37 f38 => ?_)
 clear f34
 have g40 := gr_alloc hw37
 have szw36 := g40.size
 have e42 := e27.gr g40 no_row
 clear e27
 have r43 := r28.gr g40 (fun _ h => by cases h)
 clear r28
 have bx44 := bx29.gr g40 (by simp)
 clear bx29
 have bx45 := bx30.gr g40 (by simp)
 clear bx30
 have bx46 : Bx w36 (w23.heap.size) ((List.replicate 4 (0 : Int) : List Int).map wV) 26 := Bx.new hw37
 have := bx46.lt
 clear g40 hw37
 refine At.act f38 (storeBlk (t := 26) (b := w23.heap.size) (n := 4) (cs' := ((s : List Int).map wV)) (by kernel_rfl) (by kernel_rfl) (by simp only [List.length_map, List.length_set, List.length_replicate, List.length_cons, List.length_nil]; first | done | assumption | exact from_len _ | exact of_len _ | exact ofZ_len _ | exact (ofW_ok _).1 | exact (fullW_W _).1 | exact (okW_with (by assumption)).1 | exact (okW_less (by assumption)).1 | exact put_len (from_len _) | exact orD_len _ _ | exact andD_len _ _ | exact minusD_len _ _ | exact fullD_len _ | (refine okLen ?_; (repeat (first | assumption | exact ofW_ok _ | exact fullW_W _ | apply okW_with | apply okW_less | refine okW_orS ?_ ?_ | refine okW_andS ?_ ?_ | refine okW_minusS ?_ ?_)); done) | omega | rfl) oneW_ ((show ((s : List Int).map wV).length = 4 from (by simp only [List.length_map, List.length_set, List.length_replicate, List.length_cons, List.length_nil]; first | done | assumption | exact from_len _ | exact of_len _ | exact ofZ_len _ | exact (ofW_ok _).1 | exact (fullW_W _).1 | exact (okW_with (by assumption)).1 | exact (okW_less (by assumption)).1 | exact put_len (from_len _) | exact orD_len _ _ | exact andD_len _ _ | exact minusD_len _ _ | exact fullD_len _ | (refine okLen ?_; (repeat (first | assumption | exact ofW_ok _ | exact fullW_W _ | apply okW_with | apply okW_less | refine okW_orS ?_ ?_ | refine okW_andS ?_ ?_ | refine okW_minusS ?_ ?_)); done) | omega | rfl)).trans (show ((List.replicate 4 (0 : Int) : List Int).map wV).length = 4 from (by simp only [List.length_map, List.length_set, List.length_replicate, List.length_cons, List.length_nil]; first | done | assumption | exact from_len _ | exact of_len _ | exact ofZ_len _ | exact (ofW_ok _).1 | exact (fullW_W _).1 | exact (okW_with (by assumption)).1 | exact (okW_less (by assumption)).1 | exact put_len (from_len _) | exact orD_len _ _ | exact andD_len _ _ | exact minusD_len _ _ | exact fullD_len _ | (refine okLen ?_; (repeat (first | assumption | exact ofW_ok _ | exact fullW_W _ | apply okW_with | apply okW_less | refine okW_orS ?_ ?_ | refine okW_andS ?_ ?_ | refine okW_minusS ?_ ?_)); done) | omega | rfl)).symm) bx46) ?_
 rintro d_ v_ w47 ⟨rfl, g48, bx49⟩
 refine ⟨_, rfl, fun act51 f50 => ?_⟩
 clear f38
 have szw47 := g48.size
 have e52 := e42.gr g48 (fun k h => by injection h; omega)
 clear e42
 have r53 := r43.gr g48 (fun k h => by injection h; omega)
 clear r43
 have bx54 := bx44.gr g48 (fun h => by injection h; omega)
 clear bx44
 have bx55 := bx45.gr g48 (fun h => by injection h; omega)
 clear bx45
 clear bx46 g48
 refine At.done rfl ?_
 refine t_n ?_
 have f56 := f50.sub (r := [(8, .pointer (some ⟨w23.heap.size, 0, none⟩)), (7, .bool true), (4, .pointer (some ⟨w1.heap.size, 0, none⟩)), (2, .int .i64 (n))]) ⟨rfl, rfl, rfl, rfl, trivial⟩
 clear f50
 refine wp_seq ?_
 refine At.start ?_
 refine At.rd f56 1 [[.cs ((t : List Int).map wV)]] [(14, .agg ((t : List Int).map wV).toArray)] [(((t : List Int).map wV).length = 4), (∀ (j : Nat) (v : Value), ((t : List Int).map wV)[j]? = some v → w47.cell? ((⟨w1.heap.size, 0, none⟩ : Addr).add j) = some v)] (by kernel_rfl) ⟨(by simp only [List.length_map, List.length_set, List.length_replicate, List.length_cons, List.length_nil]; first | done | assumption | exact from_len _ | exact of_len _ | exact ofZ_len _ | exact (ofW_ok _).1 | exact (fullW_W _).1 | exact (okW_with (by assumption)).1 | exact (okW_less (by assumption)).1 | exact put_len (from_len _) | exact orD_len _ _ | exact andD_len _ _ | exact minusD_len _ _ | exact fullD_len _ | (refine okLen ?_; (repeat (first | assumption | exact ofW_ok _ | exact fullW_W _ | apply okW_with | apply okW_less | refine okW_orS ?_ ?_ | refine okW_andS ?_ ?_ | refine okW_minusS ?_ ?_)); done) | omega | rfl), bx55.whole, trivial⟩ (fun act58 f57 => ?_)
 clear f56
 refine At.seq f57 1 [[]] [(9, .pointer (some ⟨w47.heap.size, 0, none⟩))] (w47.alloc (.cells ((List.replicate 4 (0 : Int) : List Int).map wV).toArray 26 (0, 0))) [] (by kernel_rfl) trivial (fun act62 w59 hw60 f61 => ?_)
 clear f57
 have g63 := gr_alloc hw60
 have szw59 := g63.size
 have e65 := e52.gr g63 no_row
 clear e52
 have r66 := r53.gr g63 (fun _ h => by cases h)
 clear r53
 have bx67 := bx54.gr g63 (by simp)
 clear bx54
 have bx68 := bx55.gr g63 (by simp)
 clear bx55
 have bx69 := bx49.gr g63 (by simp)
 clear bx49
 have bx70 : Bx w59 (w47.heap.size) ((List.replicate 4 (0 : Int) : List Int).map wV) 26 := Bx.new hw60
 have := bx70.lt
 clear g63 hw60
 refine At.act f61 (storeBlk (t := 26) (b := w47.heap.size) (n := 4) (cs' := ((t : List Int).map wV)) (by kernel_rfl) (by kernel_rfl) (by simp only [List.length_map, List.length_set, List.length_replicate, List.length_cons, List.length_nil]; first | done | assumption | exact from_len _ | exact of_len _ | exact ofZ_len _ | exact (ofW_ok _).1 | exact (fullW_W _).1 | exact (okW_with (by assumption)).1 | exact (okW_less (by assumption)).1 | exact put_len (from_len _) | exact orD_len _ _ | exact andD_len _ _ | exact minusD_len _ _ | exact fullD_len _ | (refine okLen ?_; (repeat (first | assumption | exact ofW_ok _ | exact fullW_W _ | apply okW_with | apply okW_less | refine okW_orS ?_ ?_ | refine okW_andS ?_ ?_ | refine okW_minusS ?_ ?_)); done) | omega | rfl) oneW_ ((show ((t : List Int).map wV).length = 4 from (by simp only [List.length_map, List.length_set, List.length_replicate, List.length_cons, List.length_nil]; first | done | assumption | exact from_len _ | exact of_len _ | exact ofZ_len _ | exact (ofW_ok _).1 | exact (fullW_W _).1 | exact (okW_with (by assumption)).1 | exact (okW_less (by assumption)).1 | exact put_len (from_len _) | exact orD_len _ _ | exact andD_len _ _ | exact minusD_len _ _ | exact fullD_len _ | (refine okLen ?_; (repeat (first | assumption | exact ofW_ok _ | exact fullW_W _ | apply okW_with | apply okW_less | refine okW_orS ?_ ?_ | refine okW_andS ?_ ?_ | refine okW_minusS ?_ ?_)); done) | omega | rfl)).trans (show ((List.replicate 4 (0 : Int) : List Int).map wV).length = 4 from (by simp only [List.length_map, List.length_set, List.length_replicate, List.length_cons, List.length_nil]; first | done | assumption | exact from_len _ | exact of_len _ | exact ofZ_len _ | exact (ofW_ok _).1 | exact (fullW_W _).1 | exact (okW_with (by assumption)).1 | exact (okW_less (by assumption)).1 | exact put_len (from_len _) | exact orD_len _ _ | exact andD_len _ _ | exact minusD_len _ _ | exact fullD_len _ | (refine okLen ?_; (repeat (first | assumption | exact ofW_ok _ | exact fullW_W _ | apply okW_with | apply okW_less | refine okW_orS ?_ ?_ | refine okW_andS ?_ ?_ | refine okW_minusS ?_ ?_)); done) | omega | rfl)).symm) bx70) ?_
 rintro d_ v_ w71 ⟨rfl, g72, bx73⟩
 refine ⟨_, rfl, fun act75 f74 => ?_⟩
 clear f61
 have szw71 := g72.size
 have e76 := e65.gr g72 (fun k h => by injection h; omega)
 clear e65
 have r77 := r66.gr g72 (fun k h => by injection h; omega)
 clear r66
 have bx78 := bx67.gr g72 (fun h => by injection h; omega)
 clear bx67
 have bx79 := bx68.gr g72 (fun h => by injection h; omega)
 clear bx68
 have bx80 := bx69.gr g72 (fun h => by injection h; omega)
 clear bx69
 clear bx70 g72
 refine At.done rfl ?_
 refine t_n ?_
 have f81 := f74.sub (r := [(9, .pointer (some ⟨w47.heap.size, 0, none⟩)), (8, .pointer (some ⟨w23.heap.size, 0, none⟩)), (7, .bool true), (2, .int .i64 (n))]) ⟨rfl, rfl, rfl, rfl, trivial⟩
 clear f74
 refine wp_seq ?_
 refine At.start ?_
 refine At.rd f81 1 [[]] [(10, .int .i64 (0))] [] (by kernel_rfl) trivial (fun act83 f82 => ?_)
 clear f81
 refine At.done rfl ?_
 refine t_n ?_
 refine wp_seq (cut (fun a_ w_ => ∃ (m : Int), (Frm 94 a_ [(10, .int .i64 (m)), (9, .pointer (some ⟨w47.heap.size, 0, none⟩)), (8, .pointer (some ⟨w23.heap.size, 0, none⟩)), (7, .bool true), (2, .int .i64 (n))]) ∧ (Ext w w_) ∧ (RdT w_ 0 w.heap.size) ∧ (Bx w_ (w.heap.size) ((s : List Int).map wV) 25) ∧ (Bx w_ (w1.heap.size) ((t : List Int).map wV) 25) ∧ (Bx w_ (w23.heap.size) ((s : List Int).map wV) 26) ∧ (Bx w_ (w47.heap.size) ((t : List Int).map wV) 26) ∧ (m = if 0 ≤ n ∧ n < 256 ∧ hasW s n = false then 1 else 0) ∧ (0 ≤ m) ∧ (m ≤ 1) ∧ (w71.heap.size ≤ w_.heap.size)) ?_ ?_)
 ·refine wp_seq ?_
  refine At.start ?_
  rcases Bool.eq_false_or_eq_true (decide ((n : Int) ≥ 0)) with h84 | h84
  ·have q85 := of_decide_eq_true h84
   rcases Bool.eq_false_or_eq_true (decide ((n : Int) < 256)) with h86 | h86
   ·have q87 := of_decide_eq_true h86
    refine At.rd f82 9 [[], [], [.as_ (.bool true)], [], [], [], [.as_ (.bool true)], [.cs ((s : List Int).map wV)], []] [(23, .int .i64 (n)), (22, .agg ((s : List Int).map wV).toArray), (21, .bool true), (20, .bool (decide ((n : Int) < 256))), (19, .bool (decide ((n : Int) < 256))), (18, .int .i64 (n)), (17, .bool true), (16, .bool (decide ((n : Int) ≥ 0))), (15, .int .i64 (n))] [((.bool (decide ((n : Int) ≥ 0)) : Value) = .bool true), ((.bool (decide ((n : Int) < 256)) : Value) = .bool true), (((s : List Int).map wV).length = 4), (∀ (j : Nat) (v : Value), ((s : List Int).map wV)[j]? = some v → w71.cell? ((⟨w23.heap.size, 0, none⟩ : Addr).add j) = some v)] (by kernel_rfl) ⟨(congrArg Value.bool h84), (congrArg Value.bool h86), (by simp only [List.length_map, List.length_set, List.length_replicate, List.length_cons, List.length_nil]; first | done | assumption | exact from_len _ | exact of_len _ | exact ofZ_len _ | exact (ofW_ok _).1 | exact (fullW_W _).1 | exact (okW_with (by assumption)).1 | exact (okW_less (by assumption)).1 | exact put_len (from_len _) | exact orD_len _ _ | exact andD_len _ _ | exact minusD_len _ _ | exact fullD_len _ | (refine okLen ?_; (repeat (first | assumption | exact ofW_ok _ | exact fullW_W _ | apply okW_with | apply okW_less | refine okW_orS ?_ ?_ | refine okW_andS ?_ ?_ | refine okW_minusS ?_ ?_)); done) | omega | rfl), bx80.whole, trivial⟩ (fun act89 f88 => ?_)
    clear f82
    refine At.call f88 21 #[.agg ((s : List Int).map wV).toArray, .int .i64 (n)] (some 24) (by kernel_rfl) (has_any (s := s) (n := n) (by repeat (first | assumption | exact ofW_ok _ | exact fullW_W _ | exact wordsD_W _ | exact okW_0 | exact okW_00 | apply okW_orS | apply okW_andS | apply okW_minusS | apply okW_with | apply okW_less | apply okW_or | apply okW_and | apply okW_minus | (apply okW_lit <;> exact ⟨by omega, by omega⟩)))) ?_
    rintro e_ w90 ⟨rfl, he⟩
    refine ⟨_, rfl, _, rfl, fun act91 f92 => ?_⟩
    clear f88
    have g93 := gr_ext he
    have szw90 := g93.size
    have e94 := e76.gr g93 no_row
    clear e76
    have r95 := r77.gr g93 (fun _ h => by cases h)
    clear r77
    have bx96 := bx78.gr g93 (by simp)
    clear bx78
    have bx97 := bx79.gr g93 (by simp)
    clear bx79
    have bx98 := bx80.gr g93 (by simp)
    clear bx80
    have bx99 := bx73.gr g93 (by simp)
    clear bx73
    clear g93 he
    refine At.rd f92 2 [[], []] [(26, .bool (!(hasW s n))), (25, .bool (!(hasW s n)))] [] (by kernel_rfl) trivial (fun act101 f100 => ?_)
    clear f92
    refine At.done rfl ?_
    refine t_n ?_
    have f102 := f100.sub (r := [(26, .bool (!(hasW s n))), (10, .int .i64 (0)), (9, .pointer (some ⟨w47.heap.size, 0, none⟩)), (8, .pointer (some ⟨w23.heap.size, 0, none⟩)), (7, .bool true), (2, .int .i64 (n))]) ⟨rfl, rfl, rfl, rfl, rfl, rfl, trivial⟩
    clear f100
    refine cond_S f102 (t := !(hasW s n)) rfl (fun h103 => ?_) (fun h103 => ?_)
    ·have q104 : (hasW s n) = false := by first | exact Eq.mp (Bool.not_eq_true' _) h103 | exact Eq.mp (Bool.not_eq_false' _) h103 | simpa using h103
     refine At.start ?_
     refine At.rd f102 1 [[]] [(10, .int .i64 (1))] [] (by kernel_rfl) trivial (fun act107 f106 => ?_)
     clear f102
     refine At.done rfl ?_
     refine t_n ?_
     have f108 := f106.sub (r := [(10, .int .i64 (1)), (9, .pointer (some ⟨w47.heap.size, 0, none⟩)), (8, .pointer (some ⟨w23.heap.size, 0, none⟩)), (7, .bool true), (2, .int .i64 (n))]) ⟨rfl, rfl, rfl, rfl, rfl, trivial⟩
     exact ⟨1, f108, e94, r95, bx96, bx97, bx98, bx99, (by first | exact (if_pos ⟨by omega, by omega, by simp_all⟩).symm | exact (if_neg (fun h_ => by obtain ⟨a_, b_, c_⟩ := h_; first | omega | simp_all)).symm), (by omega), (by omega), (by omega)⟩
    ·have q109 : (hasW s n) = true := by first | exact Eq.mp (Bool.not_eq_true' _) h103 | exact Eq.mp (Bool.not_eq_false' _) h103 | simpa using h103
     refine wp_skip ?_
     refine t_n ?_
     have f111 := f102.sub (r := [(10, .int .i64 (0)), (9, .pointer (some ⟨w47.heap.size, 0, none⟩)), (8, .pointer (some ⟨w23.heap.size, 0, none⟩)), (7, .bool true), (2, .int .i64 (n))]) ⟨rfl, rfl, rfl, rfl, rfl, trivial⟩
     exact ⟨0, f111, e94, r95, bx96, bx97, bx98, bx99, (by first | exact (if_pos ⟨by omega, by omega, by simp_all⟩).symm | exact (if_neg (fun h_ => by obtain ⟨a_, b_, c_⟩ := h_; first | omega | simp_all)).symm), (by omega), (by omega), (by omega)⟩
   ·have q112 := of_decide_eq_false h86
    refine At.rd f82 12 [[], [], [.as_ (.bool true)], [], [], [], [.as_ (.bool false)], [], [], [], [], []] [(26, .bool false), (25, undef), (24, undef), (23, undef), (22, undef), (21, .bool false), (20, .bool (decide ((n : Int) < 256))), (19, .bool (decide ((n : Int) < 256))), (18, .int .i64 (n)), (17, .bool true), (16, .bool (decide ((n : Int) ≥ 0))), (15, .int .i64 (n))] [((.bool (decide ((n : Int) ≥ 0)) : Value) = .bool true), ((.bool (decide ((n : Int) < 256)) : Value) = .bool false)] (by kernel_rfl) ⟨(congrArg Value.bool h84), (congrArg Value.bool h86), trivial⟩ (fun act114 f113 => ?_)
    clear f82
    refine At.done rfl ?_
    refine t_n ?_
    have f115 := f113.sub (r := [(26, .bool false), (10, .int .i64 (0)), (9, .pointer (some ⟨w47.heap.size, 0, none⟩)), (8, .pointer (some ⟨w23.heap.size, 0, none⟩)), (7, .bool true), (2, .int .i64 (n))]) ⟨rfl, rfl, rfl, rfl, rfl, rfl, trivial⟩
    clear f113
    refine cond_F f115 rfl ?_
    refine wp_skip ?_
    refine t_n ?_
    have f116 := f115.sub (r := [(10, .int .i64 (0)), (9, .pointer (some ⟨w47.heap.size, 0, none⟩)), (8, .pointer (some ⟨w23.heap.size, 0, none⟩)), (7, .bool true), (2, .int .i64 (n))]) ⟨rfl, rfl, rfl, rfl, rfl, trivial⟩
    exact ⟨0, f116, e76, r77, bx78, bx79, bx80, bx73, (by first | exact (if_pos ⟨by omega, by omega, by simp_all⟩).symm | exact (if_neg (fun h_ => by obtain ⟨a_, b_, c_⟩ := h_; first | omega | simp_all)).symm), (by omega), (by omega), (by omega)⟩
  ·have q117 := of_decide_eq_false h84
   refine At.rd f82 12 [[], [], [.as_ (.bool false)], [], [], [], [], [], [], [], [], []] [(26, .bool false), (25, undef), (24, undef), (23, undef), (22, undef), (21, .bool false), (20, .bool false), (19, undef), (18, undef), (17, .bool false), (16, .bool (decide ((n : Int) ≥ 0))), (15, .int .i64 (n))] [((.bool (decide ((n : Int) ≥ 0)) : Value) = .bool false)] (by kernel_rfl) ⟨(congrArg Value.bool h84), trivial⟩ (fun act119 f118 => ?_)
   clear f82
   refine At.done rfl ?_
   refine t_n ?_
   have f120 := f118.sub (r := [(26, .bool false), (10, .int .i64 (0)), (9, .pointer (some ⟨w47.heap.size, 0, none⟩)), (8, .pointer (some ⟨w23.heap.size, 0, none⟩)), (7, .bool true), (2, .int .i64 (n))]) ⟨rfl, rfl, rfl, rfl, rfl, rfl, trivial⟩
   clear f118
   refine cond_F f120 rfl ?_
   refine wp_skip ?_
   refine t_n ?_
   have f121 := f120.sub (r := [(10, .int .i64 (0)), (9, .pointer (some ⟨w47.heap.size, 0, none⟩)), (8, .pointer (some ⟨w23.heap.size, 0, none⟩)), (7, .bool true), (2, .int .i64 (n))]) ⟨rfl, rfl, rfl, rfl, rfl, trivial⟩
   exact ⟨0, f121, e76, r77, bx78, bx79, bx80, bx73, (by first | exact (if_pos ⟨by omega, by omega, by simp_all⟩).symm | exact (if_neg (fun h_ => by obtain ⟨a_, b_, c_⟩ := h_; first | omega | simp_all)).symm), (by omega), (by omega), (by omega)⟩
 ·clear r77
  clear bx78
  clear bx79
  clear bx80
  clear bx73
  clear f82 e76
  intro act122 w123 ⟨m, f124, e125, r126, bx127, bx128, bx129, bx130, hm, i131, i132, i133⟩
  have szw123 := e125.size
  have := bx127.lt
  have := bx128.lt
  have := bx129.lt
  have := bx130.lt
  refine wp_seq ?_
  refine At.start ?_
  refine At.rd f124 1 [[]] [(11, .int .i64 (0))] [] (by kernel_rfl) trivial (fun act135 f134 => ?_)
  clear f124
  refine At.done rfl ?_
  refine t_n ?_
  refine wp_seq (cut (fun a_ w_ => ∃ (d : Int), (Frm 94 a_ [(11, .int .i64 (d)), (10, .int .i64 (m)), (9, .pointer (some ⟨w47.heap.size, 0, none⟩)), (8, .pointer (some ⟨w23.heap.size, 0, none⟩)), (7, .bool true), (2, .int .i64 (n))]) ∧ (Ext w w_) ∧ (RdT w_ 0 w.heap.size) ∧ (Bx w_ (w.heap.size) ((s : List Int).map wV) 25) ∧ (Bx w_ (w1.heap.size) ((t : List Int).map wV) 25) ∧ (Bx w_ (w23.heap.size) ((s : List Int).map wV) 26) ∧ (Bx w_ (w47.heap.size) ((t : List Int).map wV) 26) ∧ (d = if hasW s n = true then 1 else 0) ∧ (0 ≤ d) ∧ (d ≤ 1) ∧ (w123.heap.size ≤ w_.heap.size)) ?_ ?_)
  ·refine wp_seq ?_
   refine At.start ?_
   refine At.rd f134 2 [[.cs ((s : List Int).map wV)], []] [(28, .int .i64 (n)), (27, .agg ((s : List Int).map wV).toArray)] [(((s : List Int).map wV).length = 4), (∀ (j : Nat) (v : Value), ((s : List Int).map wV)[j]? = some v → w123.cell? ((⟨w23.heap.size, 0, none⟩ : Addr).add j) = some v)] (by kernel_rfl) ⟨(by simp only [List.length_map, List.length_set, List.length_replicate, List.length_cons, List.length_nil]; first | done | assumption | exact from_len _ | exact of_len _ | exact ofZ_len _ | exact (ofW_ok _).1 | exact (fullW_W _).1 | exact (okW_with (by assumption)).1 | exact (okW_less (by assumption)).1 | exact put_len (from_len _) | exact orD_len _ _ | exact andD_len _ _ | exact minusD_len _ _ | exact fullD_len _ | (refine okLen ?_; (repeat (first | assumption | exact ofW_ok _ | exact fullW_W _ | apply okW_with | apply okW_less | refine okW_orS ?_ ?_ | refine okW_andS ?_ ?_ | refine okW_minusS ?_ ?_)); done) | omega | rfl), bx129.whole, trivial⟩ (fun act137 f136 => ?_)
   clear f134
   refine At.call f136 21 #[.agg ((s : List Int).map wV).toArray, .int .i64 (n)] (some 29) (by kernel_rfl) (has_any (s := s) (n := n) (by repeat (first | assumption | exact ofW_ok _ | exact fullW_W _ | exact wordsD_W _ | exact okW_0 | exact okW_00 | apply okW_orS | apply okW_andS | apply okW_minusS | apply okW_with | apply okW_less | apply okW_or | apply okW_and | apply okW_minus | (apply okW_lit <;> exact ⟨by omega, by omega⟩)))) ?_
   rintro e_ w138 ⟨rfl, he⟩
   refine ⟨_, rfl, _, rfl, fun act139 f140 => ?_⟩
   clear f136
   have g141 := gr_ext he
   have szw138 := g141.size
   have e142 := e125.gr g141 no_row
   clear e125
   have r143 := r126.gr g141 (fun _ h => by cases h)
   clear r126
   have bx144 := bx127.gr g141 (by simp)
   clear bx127
   have bx145 := bx128.gr g141 (by simp)
   clear bx128
   have bx146 := bx129.gr g141 (by simp)
   clear bx129
   have bx147 := bx130.gr g141 (by simp)
   clear bx130
   clear g141 he
   refine At.done rfl ?_
   refine t_n ?_
   have f148 := f140.sub (r := [(29, .bool (hasW s n)), (11, .int .i64 (0)), (10, .int .i64 (m)), (9, .pointer (some ⟨w47.heap.size, 0, none⟩)), (8, .pointer (some ⟨w23.heap.size, 0, none⟩)), (7, .bool true), (2, .int .i64 (n))]) ⟨rfl, rfl, rfl, rfl, rfl, rfl, rfl, trivial⟩
   clear f140
   refine cond_S f148 (t := hasW s n) rfl (fun h149 => ?_) (fun h149 => ?_)
   ·refine At.start ?_
    refine At.rd f148 1 [[]] [(11, .int .i64 (1))] [] (by kernel_rfl) trivial (fun act152 f151 => ?_)
    clear f148
    refine At.done rfl ?_
    refine t_n ?_
    have f153 := f151.sub (r := [(11, .int .i64 (1)), (10, .int .i64 (m)), (9, .pointer (some ⟨w47.heap.size, 0, none⟩)), (8, .pointer (some ⟨w23.heap.size, 0, none⟩)), (7, .bool true), (2, .int .i64 (n))]) ⟨rfl, rfl, rfl, rfl, rfl, rfl, trivial⟩
    exact ⟨1, f153, e142, r143, bx144, bx145, bx146, bx147, (by first | exact (if_pos (by assumption)).symm | exact (if_neg (by simp_all)).symm), (by omega), (by omega), (by omega)⟩
   ·refine wp_skip ?_
    refine t_n ?_
    have f155 := f148.sub (r := [(11, .int .i64 (0)), (10, .int .i64 (m)), (9, .pointer (some ⟨w47.heap.size, 0, none⟩)), (8, .pointer (some ⟨w23.heap.size, 0, none⟩)), (7, .bool true), (2, .int .i64 (n))]) ⟨rfl, rfl, rfl, rfl, rfl, rfl, trivial⟩
    exact ⟨0, f155, e142, r143, bx144, bx145, bx146, bx147, (by first | exact (if_pos (by assumption)).symm | exact (if_neg (by simp_all)).symm), (by omega), (by omega), (by omega)⟩
  ·clear r126
   clear bx127
   clear bx128
   clear bx129
   clear bx130
   clear f134 e125
   intro act156 w157 ⟨d, f158, e159, r160, bx161, bx162, bx163, bx164, hd, i165, i166, i167⟩
   have szw157 := e159.size
   have := bx161.lt
   have := bx162.lt
   have := bx163.lt
   have := bx164.lt
   refine wp_seq ?_
   obtain ⟨Cs168, hCs169⟩ : ∃ c : List (Addr × Value), c = ([] : List (Addr × Value)) ++ (blkC (w23.heap.size) ((s : List Int).map wV) ++ blkC (w47.heap.size) ((t : List Int).map wV)) := ⟨_, rfl⟩
   have hS170 : HoldsC Cs168 w157 := by rw [hCs169]; exact (holdsA (show HoldsC [] w157 from trivial) (holdsA (holds_blk bx163) (holds_blk bx164)))
   refine AtH.start Cs168 65 #[false, false, false, false, false, false, false, false, false, false, false, false, false, false, false, false, false, false, false, false, false, false, false, false, false, false, false, false, false, false, false, false, false, false, false, false, false, false, false, false, false, false, false, false, false, false, false, false, false, false, false, false, false, false, false, false, false, false, false, false, false, false, false, false, false] (by kernel_rfl) rfl rfl (fun w172 hw173 => ?_)
   have g171 := gr_drew hw173
   have hS174 := hS170.gr g171
   have szw172 := g171.size
   have e175 := e159.gr g171 no_row
   clear e159
   have r176 := r160.gr g171 (fun _ h => by cases h)
   clear r160
   have bx177 := bx161.gr g171 (by simp)
   clear bx161
   have bx178 := bx162.gr g171 (by simp)
   clear bx162
   have bx179 := bx163.gr g171 (by simp)
   clear bx163
   have bx180 := bx164.gr g171 (by simp)
   clear bx164
   clear g171 hw173 hS170
   refine AtH.rd (by kernel_rfl) (fun d v c a w h => by cases d <;> exact h) hS174 [0, 1, 2, 3, 6, 7, 11, 13] [[], [], [.cs ((s : List Int).map wV)], [.cs ((t : List Int).map wV)], [.cs ((s : List Int).map wV)], [.cs ((t : List Int).map wV)], [.cs ((s : List Int).map wV)], [.cs ((t : List Int).map wV)]] [(43, .agg ((t : List Int).map wV).toArray), (41, .agg ((s : List Int).map wV).toArray), (37, .agg ((t : List Int).map wV).toArray), (36, .agg ((s : List Int).map wV).toArray), (33, .agg ((t : List Int).map wV).toArray), (32, .agg ((s : List Int).map wV).toArray), (31, .bool true), (30, .bool true)] #[true, true, true, true, false, false, true, true, false, false, false, true, false, true, false, false, false, false, false, false, false, false, false, false, false, false, false, false, false, false, false, false, false, false, false, false, false, false, false, false, false, false, false, false, false, false, false, false, false, false, false, false, false, false, false, false, false, false, false, false, false, false, false, false, false] [(((s : List Int).map wV).length = 4), (∀ (j : Nat) (v : Value), ((s : List Int).map wV)[j]? = some v → ∃ j_ : Nat, Cs168[j_]? = some (((⟨w23.heap.size, 0, none⟩ : Addr).add j), v)), (((t : List Int).map wV).length = 4), (∀ (j : Nat) (v : Value), ((t : List Int).map wV)[j]? = some v → ∃ j_ : Nat, Cs168[j_]? = some (((⟨w47.heap.size, 0, none⟩ : Addr).add j), v)), (((s : List Int).map wV).length = 4), (∀ (j : Nat) (v : Value), ((s : List Int).map wV)[j]? = some v → ∃ j_ : Nat, Cs168[j_]? = some (((⟨w23.heap.size, 0, none⟩ : Addr).add j), v)), (((t : List Int).map wV).length = 4), (∀ (j : Nat) (v : Value), ((t : List Int).map wV)[j]? = some v → ∃ j_ : Nat, Cs168[j_]? = some (((⟨w47.heap.size, 0, none⟩ : Addr).add j), v)), (((s : List Int).map wV).length = 4), (∀ (j : Nat) (v : Value), ((s : List Int).map wV)[j]? = some v → ∃ j_ : Nat, Cs168[j_]? = some (((⟨w23.heap.size, 0, none⟩ : Addr).add j), v)), (((t : List Int).map wV).length = 4), (∀ (j : Nat) (v : Value), ((t : List Int).map wV)[j]? = some v → ∃ j_ : Nat, Cs168[j_]? = some (((⟨w47.heap.size, 0, none⟩ : Addr).add j), v))] 57 f158 (by kernel_rfl) ⟨(by simp only [List.length_map, List.length_set, List.length_replicate, List.length_cons, List.length_nil]; first | done | assumption | exact from_len _ | exact of_len _ | exact ofZ_len _ | exact (ofW_ok _).1 | exact (fullW_W _).1 | exact (okW_with (by assumption)).1 | exact (okW_less (by assumption)).1 | exact put_len (from_len _) | exact orD_len _ _ | exact andD_len _ _ | exact minusD_len _ _ | exact fullD_len _ | (refine okLen ?_; (repeat (first | assumption | exact ofW_ok _ | exact fullW_W _ | apply okW_with | apply okW_less | refine okW_orS ?_ ?_ | refine okW_andS ?_ ?_ | refine okW_minusS ?_ ?_)); done) | omega | rfl), (fun j v hv => List.getElem?_of_mem (by rw [hCs169]; exact List.mem_append.2 (.inr (List.mem_append.2 (.inl (blkC_in hv)))))), (by simp only [List.length_map, List.length_set, List.length_replicate, List.length_cons, List.length_nil]; first | done | assumption | exact from_len _ | exact of_len _ | exact ofZ_len _ | exact (ofW_ok _).1 | exact (fullW_W _).1 | exact (okW_with (by assumption)).1 | exact (okW_less (by assumption)).1 | exact put_len (from_len _) | exact orD_len _ _ | exact andD_len _ _ | exact minusD_len _ _ | exact fullD_len _ | (refine okLen ?_; (repeat (first | assumption | exact ofW_ok _ | exact fullW_W _ | apply okW_with | apply okW_less | refine okW_orS ?_ ?_ | refine okW_andS ?_ ?_ | refine okW_minusS ?_ ?_)); done) | omega | rfl), (fun j v hv => List.getElem?_of_mem (by rw [hCs169]; exact List.mem_append.2 (.inr (List.mem_append.2 (.inr (blkC_in hv)))))), (by simp only [List.length_map, List.length_set, List.length_replicate, List.length_cons, List.length_nil]; first | done | assumption | exact from_len _ | exact of_len _ | exact ofZ_len _ | exact (ofW_ok _).1 | exact (fullW_W _).1 | exact (okW_with (by assumption)).1 | exact (okW_less (by assumption)).1 | exact put_len (from_len _) | exact orD_len _ _ | exact andD_len _ _ | exact minusD_len _ _ | exact fullD_len _ | (refine okLen ?_; (repeat (first | assumption | exact ofW_ok _ | exact fullW_W _ | apply okW_with | apply okW_less | refine okW_orS ?_ ?_ | refine okW_andS ?_ ?_ | refine okW_minusS ?_ ?_)); done) | omega | rfl), (fun j v hv => List.getElem?_of_mem (by rw [hCs169]; exact List.mem_append.2 (.inr (List.mem_append.2 (.inl (blkC_in hv)))))), (by simp only [List.length_map, List.length_set, List.length_replicate, List.length_cons, List.length_nil]; first | done | assumption | exact from_len _ | exact of_len _ | exact ofZ_len _ | exact (ofW_ok _).1 | exact (fullW_W _).1 | exact (okW_with (by assumption)).1 | exact (okW_less (by assumption)).1 | exact put_len (from_len _) | exact orD_len _ _ | exact andD_len _ _ | exact minusD_len _ _ | exact fullD_len _ | (refine okLen ?_; (repeat (first | assumption | exact ofW_ok _ | exact fullW_W _ | apply okW_with | apply okW_less | refine okW_orS ?_ ?_ | refine okW_andS ?_ ?_ | refine okW_minusS ?_ ?_)); done) | omega | rfl), (fun j v hv => List.getElem?_of_mem (by rw [hCs169]; exact List.mem_append.2 (.inr (List.mem_append.2 (.inr (blkC_in hv)))))), (by simp only [List.length_map, List.length_set, List.length_replicate, List.length_cons, List.length_nil]; first | done | assumption | exact from_len _ | exact of_len _ | exact ofZ_len _ | exact (ofW_ok _).1 | exact (fullW_W _).1 | exact (okW_with (by assumption)).1 | exact (okW_less (by assumption)).1 | exact put_len (from_len _) | exact orD_len _ _ | exact andD_len _ _ | exact minusD_len _ _ | exact fullD_len _ | (refine okLen ?_; (repeat (first | assumption | exact ofW_ok _ | exact fullW_W _ | apply okW_with | apply okW_less | refine okW_orS ?_ ?_ | refine okW_andS ?_ ?_ | refine okW_minusS ?_ ?_)); done) | omega | rfl), (fun j v hv => List.getElem?_of_mem (by rw [hCs169]; exact List.mem_append.2 (.inr (List.mem_append.2 (.inl (blkC_in hv)))))), (by simp only [List.length_map, List.length_set, List.length_replicate, List.length_cons, List.length_nil]; first | done | assumption | exact from_len _ | exact of_len _ | exact ofZ_len _ | exact (ofW_ok _).1 | exact (fullW_W _).1 | exact (okW_with (by assumption)).1 | exact (okW_less (by assumption)).1 | exact put_len (from_len _) | exact orD_len _ _ | exact andD_len _ _ | exact minusD_len _ _ | exact fullD_len _ | (refine okLen ?_; (repeat (first | assumption | exact ofW_ok _ | exact fullW_W _ | apply okW_with | apply okW_less | refine okW_orS ?_ ?_ | refine okW_andS ?_ ?_ | refine okW_minusS ?_ ?_)); done) | omega | rfl), (fun j v hv => List.getElem?_of_mem (by rw [hCs169]; exact List.mem_append.2 (.inr (List.mem_append.2 (.inr (blkC_in hv)))))), trivial⟩ (fun act182 f181 => ?_)
   clear f158
   refine AtH.all [4] 56 (by kernel_rfl) (by simp) ⟨?_, trivial⟩
   refine OneH.call f181 32 #[.agg ((s : List Int).map wV).toArray, .agg ((t : List Int).map wV).toArray] (some 34) #[true, true, true, true, true, false, true, true, false, false, false, true, false, true, false, false, false, false, false, false, false, false, false, false, false, false, false, false, false, false, false, false, false, false, false, false, false, false, false, false, false, false, false, false, false, false, false, false, false, false, false, false, false, false, false, false, false, false, false, false, false, false, false, false, false] (by kernel_rfl) (by kernel_rfl) (orS_any (s := s) (t := t) (by repeat (first | assumption | exact ofW_ok _ | exact fullW_W _ | exact wordsD_W _ | exact okW_0 | exact okW_00 | apply okW_orS | apply okW_andS | apply okW_minusS | apply okW_with | apply okW_less | apply okW_or | apply okW_and | apply okW_minus | (apply okW_lit <;> exact ⟨by omega, by omega⟩))) (by repeat (first | assumption | exact ofW_ok _ | exact fullW_W _ | exact wordsD_W _ | exact okW_0 | exact okW_00 | apply okW_orS | apply okW_andS | apply okW_minusS | apply okW_with | apply okW_less | apply okW_or | apply okW_and | apply okW_minus | (apply okW_lit <;> exact ⟨by omega, by omega⟩)))) ?_
   rintro e_ w184 ⟨rfl, he⟩
   refine ⟨_, rfl, _, rfl, fun act185 f186 => ?_⟩
   clear f181
   have g187 := gr_ext he
   have hS183 := hS174.gr g187
   have szw184 := g187.size
   have e188 := e175.gr g187 no_row
   clear e175
   have r189 := r176.gr g187 (fun _ h => by cases h)
   clear r176
   have bx190 := bx177.gr g187 (by simp)
   clear bx177
   have bx191 := bx178.gr g187 (by simp)
   clear bx178
   have bx192 := bx179.gr g187 (by simp)
   clear bx179
   have bx193 := bx180.gr g187 (by simp)
   clear bx180
   clear g187 he
   refine ⟨hS183, ?_⟩
   refine AtH.all [5] 55 (by kernel_rfl) (by simp) ⟨?_, trivial⟩
   refine OneH.call f186 20 #[.agg ((orS s t : List Int).map wV).toArray] (some 35) #[true, true, true, true, true, true, true, true, false, false, false, true, false, true, false, false, false, false, false, false, false, false, false, false, false, false, false, false, false, false, false, false, false, false, false, false, false, false, false, false, false, false, false, false, false, false, false, false, false, false, false, false, false, false, false, false, false, false, false, false, false, false, false, false, false] (by kernel_rfl) (by kernel_rfl) (len_any (s := orS s t) (okW_orS (by assumption) (by assumption))) ?_
   rintro e_ w195 ⟨rfl, he⟩
   have := lenW_le (orS s t)
   refine ⟨_, rfl, _, rfl, fun act196 f197 => ?_⟩
   clear f186
   have g198 := gr_ext he
   have hS194 := hS183.gr g198
   have szw195 := g198.size
   have e199 := e188.gr g198 no_row
   clear e188
   have r200 := r189.gr g198 (fun _ h => by cases h)
   clear r189
   have bx201 := bx190.gr g198 (by simp)
   clear bx190
   have bx202 := bx191.gr g198 (by simp)
   clear bx191
   have bx203 := bx192.gr g198 (by simp)
   clear bx192
   have bx204 := bx193.gr g198 (by simp)
   clear bx193
   clear g198 he
   refine ⟨hS194, ?_⟩
   refine AtH.all [8] 54 (by kernel_rfl) (by simp) ⟨?_, trivial⟩
   refine OneH.call f197 35 #[.agg ((s : List Int).map wV).toArray, .agg ((t : List Int).map wV).toArray] (some 38) #[true, true, true, true, true, true, true, true, true, false, false, true, false, true, false, false, false, false, false, false, false, false, false, false, false, false, false, false, false, false, false, false, false, false, false, false, false, false, false, false, false, false, false, false, false, false, false, false, false, false, false, false, false, false, false, false, false, false, false, false, false, false, false, false, false] (by kernel_rfl) (by kernel_rfl) (andS_any (s := s) (t := t) (by repeat (first | assumption | exact ofW_ok _ | exact fullW_W _ | exact wordsD_W _ | exact okW_0 | exact okW_00 | apply okW_orS | apply okW_andS | apply okW_minusS | apply okW_with | apply okW_less | apply okW_or | apply okW_and | apply okW_minus | (apply okW_lit <;> exact ⟨by omega, by omega⟩))) (by repeat (first | assumption | exact ofW_ok _ | exact fullW_W _ | exact wordsD_W _ | exact okW_0 | exact okW_00 | apply okW_orS | apply okW_andS | apply okW_minusS | apply okW_with | apply okW_less | apply okW_or | apply okW_and | apply okW_minus | (apply okW_lit <;> exact ⟨by omega, by omega⟩)))) ?_
   rintro e_ w206 ⟨rfl, he⟩
   refine ⟨_, rfl, _, rfl, fun act207 f208 => ?_⟩
   clear f197
   have g209 := gr_ext he
   have hS205 := hS194.gr g209
   have szw206 := g209.size
   have e210 := e199.gr g209 no_row
   clear e199
   have r211 := r200.gr g209 (fun _ h => by cases h)
   clear r200
   have bx212 := bx201.gr g209 (by simp)
   clear bx201
   have bx213 := bx202.gr g209 (by simp)
   clear bx202
   have bx214 := bx203.gr g209 (by simp)
   clear bx203
   have bx215 := bx204.gr g209 (by simp)
   clear bx204
   clear g209 he
   refine ⟨hS205, ?_⟩
   refine AtH.all [9] 53 (by kernel_rfl) (by simp) ⟨?_, trivial⟩
   refine OneH.call f208 20 #[.agg ((andS s t : List Int).map wV).toArray] (some 39) #[true, true, true, true, true, true, true, true, true, true, false, true, false, true, false, false, false, false, false, false, false, false, false, false, false, false, false, false, false, false, false, false, false, false, false, false, false, false, false, false, false, false, false, false, false, false, false, false, false, false, false, false, false, false, false, false, false, false, false, false, false, false, false, false, false] (by kernel_rfl) (by kernel_rfl) (len_any (s := andS s t) (okW_andS (by assumption) (by assumption))) ?_
   rintro e_ w217 ⟨rfl, he⟩
   have := lenW_le (andS s t)
   refine ⟨_, rfl, _, rfl, fun act218 f219 => ?_⟩
   clear f208
   have g220 := gr_ext he
   have hS216 := hS205.gr g220
   have szw217 := g220.size
   have e221 := e210.gr g220 no_row
   clear e210
   have r222 := r211.gr g220 (fun _ h => by cases h)
   clear r211
   have bx223 := bx212.gr g220 (by simp)
   clear bx212
   have bx224 := bx213.gr g220 (by simp)
   clear bx213
   have bx225 := bx214.gr g220 (by simp)
   clear bx214
   have bx226 := bx215.gr g220 (by simp)
   clear bx215
   clear g220 he
   refine ⟨hS216, ?_⟩
   refine AtH.rd (by kernel_rfl) (fun d v c a w h => by cases d <;> exact h) hS216 [10] [[.as_ (.int .i64 ((lenW (orS s t)) + (lenW (andS s t))))]] [(40, .int .i64 ((lenW (orS s t)) + (lenW (andS s t))))] #[true, true, true, true, true, true, true, true, true, true, true, true, false, true, false, false, false, false, false, false, false, false, false, false, false, false, false, false, false, false, false, false, false, false, false, false, false, false, false, false, false, false, false, false, false, false, false, false, false, false, false, false, false, false, false, false, false, false, false, false, false, false, false, false, false] [((.int .i64 (IntKind.i64.wrap ((lenW (orS s t)) + (lenW (andS s t)))) : Value) = .int .i64 ((lenW (orS s t)) + (lenW (andS s t))))] 52 f219 (by kernel_rfl) ⟨(w64 (by omega) (by omega)), trivial⟩ (fun act228 f227 => ?_)
   clear f219
   refine AtH.all [12] 51 (by kernel_rfl) (by simp) ⟨?_, trivial⟩
   refine OneH.call f227 20 #[.agg ((s : List Int).map wV).toArray] (some 42) #[true, true, true, true, true, true, true, true, true, true, true, true, true, true, false, false, false, false, false, false, false, false, false, false, false, false, false, false, false, false, false, false, false, false, false, false, false, false, false, false, false, false, false, false, false, false, false, false, false, false, false, false, false, false, false, false, false, false, false, false, false, false, false, false, false] (by kernel_rfl) (by kernel_rfl) (len_any (s := s) (by repeat (first | assumption | exact ofW_ok _ | exact fullW_W _ | exact wordsD_W _ | exact okW_0 | exact okW_00 | apply okW_orS | apply okW_andS | apply okW_minusS | apply okW_with | apply okW_less | apply okW_or | apply okW_and | apply okW_minus | (apply okW_lit <;> exact ⟨by omega, by omega⟩)))) ?_
   rintro e_ w230 ⟨rfl, he⟩
   have := lenW_le s
   refine ⟨_, rfl, _, rfl, fun act231 f232 => ?_⟩
   clear f227
   have g233 := gr_ext he
   have hS229 := hS216.gr g233
   have szw230 := g233.size
   have e234 := e221.gr g233 no_row
   clear e221
   have r235 := r222.gr g233 (fun _ h => by cases h)
   clear r222
   have bx236 := bx223.gr g233 (by simp)
   clear bx223
   have bx237 := bx224.gr g233 (by simp)
   clear bx224
   have bx238 := bx225.gr g233 (by simp)
   clear bx225
   have bx239 := bx226.gr g233 (by simp)
   clear bx226
   clear g233 he
   refine ⟨hS229, ?_⟩
   refine AtH.all [14] 50 (by kernel_rfl) (by simp) ⟨?_, trivial⟩
   refine OneH.call f232 20 #[.agg ((t : List Int).map wV).toArray] (some 44) #[true, true, true, true, true, true, true, true, true, true, true, true, true, true, true, false, false, false, false, false, false, false, false, false, false, false, false, false, false, false, false, false, false, false, false, false, false, false, false, false, false, false, false, false, false, false, false, false, false, false, false, false, false, false, false, false, false, false, false, false, false, false, false, false, false] (by kernel_rfl) (by kernel_rfl) (len_any (s := t) (by repeat (first | assumption | exact ofW_ok _ | exact fullW_W _ | exact wordsD_W _ | exact okW_0 | exact okW_00 | apply okW_orS | apply okW_andS | apply okW_minusS | apply okW_with | apply okW_less | apply okW_or | apply okW_and | apply okW_minus | (apply okW_lit <;> exact ⟨by omega, by omega⟩)))) ?_
   rintro e_ w241 ⟨rfl, he⟩
   have := lenW_le t
   refine ⟨_, rfl, _, rfl, fun act242 f243 => ?_⟩
   clear f232
   have g244 := gr_ext he
   have hS240 := hS229.gr g244
   have szw241 := g244.size
   have e245 := e234.gr g244 no_row
   clear e234
   have r246 := r235.gr g244 (fun _ h => by cases h)
   clear r235
   have bx247 := bx236.gr g244 (by simp)
   clear bx236
   have bx248 := bx237.gr g244 (by simp)
   clear bx237
   have bx249 := bx238.gr g244 (by simp)
   clear bx238
   have bx250 := bx239.gr g244 (by simp)
   clear bx239
   clear g244 he
   refine ⟨hS240, ?_⟩
   refine AtH.rd (by kernel_rfl) (fun d v c a w h => by cases d <;> exact h) hS240 [15] [[.as_ (.int .i64 ((lenW s) + (lenW t)))]] [(45, .int .i64 ((lenW s) + (lenW t)))] #[true, true, true, true, true, true, true, true, true, true, true, true, true, true, true, true, false, false, false, false, false, false, false, false, false, false, false, false, false, false, false, false, false, false, false, false, false, false, false, false, false, false, false, false, false, false, false, false, false, false, false, false, false, false, false, false, false, false, false, false, false, false, false, false, false] [((.int .i64 (IntKind.i64.wrap ((lenW s) + (lenW t))) : Value) = .int .i64 ((lenW s) + (lenW t)))] 49 f243 (by kernel_rfl) ⟨(w64 (by omega) (by omega)), trivial⟩ (fun act252 f251 => ?_)
   clear f243
   refine AtH.rd (by kernel_rfl) (fun d v c a w h => by cases d <;> exact h) hS240 [16] [[.as_ (.bool true)]] [(46, .bool true)] #[true, true, true, true, true, true, true, true, true, true, true, true, true, true, true, true, true, false, false, false, false, false, false, false, false, false, false, false, false, false, false, false, false, false, false, false, false, false, false, false, false, false, false, false, false, false, false, false, false, false, false, false, false, false, false, false, false, false, false, false, false, false, false, false, false] [((.bool (((lenW (orS s t)) + (lenW (andS s t)) : Int) == ((lenW s) + (lenW t))) : Value) = .bool true)] 48 f251 (by kernel_rfl) ⟨(congrArg Value.bool (beqT len_or)), trivial⟩ (fun act254 f253 => ?_)
   clear f251
   refine AtH.rd (by kernel_rfl) (fun d v c a w h => by cases d <;> exact h) hS240 [17] [[]] [(47, .bool true)] #[true, true, true, true, true, true, true, true, true, true, true, true, true, true, true, true, true, true, false, false, false, false, false, false, false, false, false, false, false, false, false, false, false, false, false, false, false, false, false, false, false, false, false, false, false, false, false, false, false, false, false, false, false, false, false, false, false, false, false, false, false, false, false, false, false] [] 47 f253 (by kernel_rfl) trivial (fun act256 f255 => ?_)
   clear f253
   refine AtH.rd (by kernel_rfl) (fun d v c a w h => by cases d <;> exact h) hS240 [18] [[]] [(48, .bool true)] #[true, true, true, true, true, true, true, true, true, true, true, true, true, true, true, true, true, true, true, false, false, false, false, false, false, false, false, false, false, false, false, false, false, false, false, false, false, false, false, false, false, false, false, false, false, false, false, false, false, false, false, false, false, false, false, false, false, false, false, false, false, false, false, false, false] [] 46 f255 (by kernel_rfl) trivial (fun act258 f257 => ?_)
   clear f255
   refine AtH.rd (by kernel_rfl) (fun d v c a w h => by cases d <;> exact h) hS240 [19] [[.cs ((s : List Int).map wV)]] [(49, .agg ((s : List Int).map wV).toArray)] #[true, true, true, true, true, true, true, true, true, true, true, true, true, true, true, true, true, true, true, true, false, false, false, false, false, false, false, false, false, false, false, false, false, false, false, false, false, false, false, false, false, false, false, false, false, false, false, false, false, false, false, false, false, false, false, false, false, false, false, false, false, false, false, false, false] [(((s : List Int).map wV).length = 4), (∀ (j : Nat) (v : Value), ((s : List Int).map wV)[j]? = some v → ∃ j_ : Nat, Cs168[j_]? = some (((⟨w23.heap.size, 0, none⟩ : Addr).add j), v))] 45 f257 (by kernel_rfl) ⟨(by simp only [List.length_map, List.length_set, List.length_replicate, List.length_cons, List.length_nil]; first | done | assumption | exact from_len _ | exact of_len _ | exact ofZ_len _ | exact (ofW_ok _).1 | exact (fullW_W _).1 | exact (okW_with (by assumption)).1 | exact (okW_less (by assumption)).1 | exact put_len (from_len _) | exact orD_len _ _ | exact andD_len _ _ | exact minusD_len _ _ | exact fullD_len _ | (refine okLen ?_; (repeat (first | assumption | exact ofW_ok _ | exact fullW_W _ | apply okW_with | apply okW_less | refine okW_orS ?_ ?_ | refine okW_andS ?_ ?_ | refine okW_minusS ?_ ?_)); done) | omega | rfl), (fun j v hv => List.getElem?_of_mem (by rw [hCs169]; exact List.mem_append.2 (.inr (List.mem_append.2 (.inl (blkC_in hv)))))), trivial⟩ (fun act260 f259 => ?_)
   clear f257
   refine AtH.rd (by kernel_rfl) (fun d v c a w h => by cases d <;> exact h) hS240 [20] [[.cs ((t : List Int).map wV)]] [(50, .agg ((t : List Int).map wV).toArray)] #[true, true, true, true, true, true, true, true, true, true, true, true, true, true, true, true, true, true, true, true, true, false, false, false, false, false, false, false, false, false, false, false, false, false, false, false, false, false, false, false, false, false, false, false, false, false, false, false, false, false, false, false, false, false, false, false, false, false, false, false, false, false, false, false, false] [(((t : List Int).map wV).length = 4), (∀ (j : Nat) (v : Value), ((t : List Int).map wV)[j]? = some v → ∃ j_ : Nat, Cs168[j_]? = some (((⟨w47.heap.size, 0, none⟩ : Addr).add j), v))] 44 f259 (by kernel_rfl) ⟨(by simp only [List.length_map, List.length_set, List.length_replicate, List.length_cons, List.length_nil]; first | done | assumption | exact from_len _ | exact of_len _ | exact ofZ_len _ | exact (ofW_ok _).1 | exact (fullW_W _).1 | exact (okW_with (by assumption)).1 | exact (okW_less (by assumption)).1 | exact put_len (from_len _) | exact orD_len _ _ | exact andD_len _ _ | exact minusD_len _ _ | exact fullD_len _ | (refine okLen ?_; (repeat (first | assumption | exact ofW_ok _ | exact fullW_W _ | apply okW_with | apply okW_less | refine okW_orS ?_ ?_ | refine okW_andS ?_ ?_ | refine okW_minusS ?_ ?_)); done) | omega | rfl), (fun j v hv => List.getElem?_of_mem (by rw [hCs169]; exact List.mem_append.2 (.inr (List.mem_append.2 (.inr (blkC_in hv)))))), trivial⟩ (fun act262 f261 => ?_)
   clear f259
   refine AtH.rd (by kernel_rfl) (fun d v c a w h => by cases d <;> exact h) hS240 [23] [[.cs ((s : List Int).map wV)]] [(53, .agg ((s : List Int).map wV).toArray)] #[true, true, true, true, true, true, true, true, true, true, true, true, true, true, true, true, true, true, true, true, true, false, false, true, false, false, false, false, false, false, false, false, false, false, false, false, false, false, false, false, false, false, false, false, false, false, false, false, false, false, false, false, false, false, false, false, false, false, false, false, false, false, false, false, false] [(((s : List Int).map wV).length = 4), (∀ (j : Nat) (v : Value), ((s : List Int).map wV)[j]? = some v → ∃ j_ : Nat, Cs168[j_]? = some (((⟨w23.heap.size, 0, none⟩ : Addr).add j), v))] 43 f261 (by kernel_rfl) ⟨(by simp only [List.length_map, List.length_set, List.length_replicate, List.length_cons, List.length_nil]; first | done | assumption | exact from_len _ | exact of_len _ | exact ofZ_len _ | exact (ofW_ok _).1 | exact (fullW_W _).1 | exact (okW_with (by assumption)).1 | exact (okW_less (by assumption)).1 | exact put_len (from_len _) | exact orD_len _ _ | exact andD_len _ _ | exact minusD_len _ _ | exact fullD_len _ | (refine okLen ?_; (repeat (first | assumption | exact ofW_ok _ | exact fullW_W _ | apply okW_with | apply okW_less | refine okW_orS ?_ ?_ | refine okW_andS ?_ ?_ | refine okW_minusS ?_ ?_)); done) | omega | rfl), (fun j v hv => List.getElem?_of_mem (by rw [hCs169]; exact List.mem_append.2 (.inr (List.mem_append.2 (.inl (blkC_in hv)))))), trivial⟩ (fun act264 f263 => ?_)
   clear f261
   refine AtH.rd (by kernel_rfl) (fun d v c a w h => by cases d <;> exact h) hS240 [25] [[.cs ((s : List Int).map wV)]] [(55, .agg ((s : List Int).map wV).toArray)] #[true, true, true, true, true, true, true, true, true, true, true, true, true, true, true, true, true, true, true, true, true, false, false, true, false, true, false, false, false, false, false, false, false, false, false, false, false, false, false, false, false, false, false, false, false, false, false, false, false, false, false, false, false, false, false, false, false, false, false, false, false, false, false, false, false] [(((s : List Int).map wV).length = 4), (∀ (j : Nat) (v : Value), ((s : List Int).map wV)[j]? = some v → ∃ j_ : Nat, Cs168[j_]? = some (((⟨w23.heap.size, 0, none⟩ : Addr).add j), v))] 42 f263 (by kernel_rfl) ⟨(by simp only [List.length_map, List.length_set, List.length_replicate, List.length_cons, List.length_nil]; first | done | assumption | exact from_len _ | exact of_len _ | exact ofZ_len _ | exact (ofW_ok _).1 | exact (fullW_W _).1 | exact (okW_with (by assumption)).1 | exact (okW_less (by assumption)).1 | exact put_len (from_len _) | exact orD_len _ _ | exact andD_len _ _ | exact minusD_len _ _ | exact fullD_len _ | (refine okLen ?_; (repeat (first | assumption | exact ofW_ok _ | exact fullW_W _ | apply okW_with | apply okW_less | refine okW_orS ?_ ?_ | refine okW_andS ?_ ?_ | refine okW_minusS ?_ ?_)); done) | omega | rfl), (fun j v hv => List.getElem?_of_mem (by rw [hCs169]; exact List.mem_append.2 (.inr (List.mem_append.2 (.inl (blkC_in hv)))))), trivial⟩ (fun act266 f265 => ?_)
   clear f263
   refine AtH.rd (by kernel_rfl) (fun d v c a w h => by cases d <;> exact h) hS240 [26] [[.cs ((t : List Int).map wV)]] [(56, .agg ((t : List Int).map wV).toArray)] #[true, true, true, true, true, true, true, true, true, true, true, true, true, true, true, true, true, true, true, true, true, false, false, true, false, true, true, false, false, false, false, false, false, false, false, false, false, false, false, false, false, false, false, false, false, false, false, false, false, false, false, false, false, false, false, false, false, false, false, false, false, false, false, false, false] [(((t : List Int).map wV).length = 4), (∀ (j : Nat) (v : Value), ((t : List Int).map wV)[j]? = some v → ∃ j_ : Nat, Cs168[j_]? = some (((⟨w47.heap.size, 0, none⟩ : Addr).add j), v))] 41 f265 (by kernel_rfl) ⟨(by simp only [List.length_map, List.length_set, List.length_replicate, List.length_cons, List.length_nil]; first | done | assumption | exact from_len _ | exact of_len _ | exact ofZ_len _ | exact (ofW_ok _).1 | exact (fullW_W _).1 | exact (okW_with (by assumption)).1 | exact (okW_less (by assumption)).1 | exact put_len (from_len _) | exact orD_len _ _ | exact andD_len _ _ | exact minusD_len _ _ | exact fullD_len _ | (refine okLen ?_; (repeat (first | assumption | exact ofW_ok _ | exact fullW_W _ | apply okW_with | apply okW_less | refine okW_orS ?_ ?_ | refine okW_andS ?_ ?_ | refine okW_minusS ?_ ?_)); done) | omega | rfl), (fun j v hv => List.getElem?_of_mem (by rw [hCs169]; exact List.mem_append.2 (.inr (List.mem_append.2 (.inr (blkC_in hv)))))), trivial⟩ (fun act268 f267 => ?_)
   clear f265
   refine AtH.all [21] 40 (by kernel_rfl) (by simp) ⟨?_, trivial⟩
   refine OneH.call f267 37 #[.agg ((s : List Int).map wV).toArray, .agg ((t : List Int).map wV).toArray] (some 51) #[true, true, true, true, true, true, true, true, true, true, true, true, true, true, true, true, true, true, true, true, true, true, false, true, false, true, true, false, false, false, false, false, false, false, false, false, false, false, false, false, false, false, false, false, false, false, false, false, false, false, false, false, false, false, false, false, false, false, false, false, false, false, false, false, false] (by kernel_rfl) (by kernel_rfl) (minusS_any (s := s) (t := t) (by repeat (first | assumption | exact ofW_ok _ | exact fullW_W _ | exact wordsD_W _ | exact okW_0 | exact okW_00 | apply okW_orS | apply okW_andS | apply okW_minusS | apply okW_with | apply okW_less | apply okW_or | apply okW_and | apply okW_minus | (apply okW_lit <;> exact ⟨by omega, by omega⟩))) (by repeat (first | assumption | exact ofW_ok _ | exact fullW_W _ | exact wordsD_W _ | exact okW_0 | exact okW_00 | apply okW_orS | apply okW_andS | apply okW_minusS | apply okW_with | apply okW_less | apply okW_or | apply okW_and | apply okW_minus | (apply okW_lit <;> exact ⟨by omega, by omega⟩)))) ?_
   rintro e_ w270 ⟨rfl, he⟩
   refine ⟨_, rfl, _, rfl, fun act271 f272 => ?_⟩
   clear f267
   have g273 := gr_ext he
   have hS269 := hS240.gr g273
   have szw270 := g273.size
   have e274 := e245.gr g273 no_row
   clear e245
   have r275 := r246.gr g273 (fun _ h => by cases h)
   clear r246
   have bx276 := bx247.gr g273 (by simp)
   clear bx247
   have bx277 := bx248.gr g273 (by simp)
   clear bx248
   have bx278 := bx249.gr g273 (by simp)
   clear bx249
   have bx279 := bx250.gr g273 (by simp)
   clear bx250
   clear g273 he
   refine ⟨hS269, ?_⟩
   refine AtH.all [22] 39 (by kernel_rfl) (by simp) ⟨?_, trivial⟩
   refine OneH.call f272 20 #[.agg ((minusS s t : List Int).map wV).toArray] (some 52) #[true, true, true, true, true, true, true, true, true, true, true, true, true, true, true, true, true, true, true, true, true, true, true, true, false, true, true, false, false, false, false, false, false, false, false, false, false, false, false, false, false, false, false, false, false, false, false, false, false, false, false, false, false, false, false, false, false, false, false, false, false, false, false, false, false] (by kernel_rfl) (by kernel_rfl) (len_any (s := minusS s t) (okW_minusS (by assumption) (by assumption))) ?_
   rintro e_ w281 ⟨rfl, he⟩
   have := lenW_le (minusS s t)
   refine ⟨_, rfl, _, rfl, fun act282 f283 => ?_⟩
   clear f272
   have g284 := gr_ext he
   have hS280 := hS269.gr g284
   have szw281 := g284.size
   have e285 := e274.gr g284 no_row
   clear e274
   have r286 := r275.gr g284 (fun _ h => by cases h)
   clear r275
   have bx287 := bx276.gr g284 (by simp)
   clear bx276
   have bx288 := bx277.gr g284 (by simp)
   clear bx277
   have bx289 := bx278.gr g284 (by simp)
   clear bx278
   have bx290 := bx279.gr g284 (by simp)
   clear bx279
   clear g284 he
   refine ⟨hS280, ?_⟩
   refine AtH.all [24] 38 (by kernel_rfl) (by simp) ⟨?_, trivial⟩
   refine OneH.call f283 20 #[.agg ((s : List Int).map wV).toArray] (some 54) #[true, true, true, true, true, true, true, true, true, true, true, true, true, true, true, true, true, true, true, true, true, true, true, true, true, true, true, false, false, false, false, false, false, false, false, false, false, false, false, false, false, false, false, false, false, false, false, false, false, false, false, false, false, false, false, false, false, false, false, false, false, false, false, false, false] (by kernel_rfl) (by kernel_rfl) (len_any (s := s) (by repeat (first | assumption | exact ofW_ok _ | exact fullW_W _ | exact wordsD_W _ | exact okW_0 | exact okW_00 | apply okW_orS | apply okW_andS | apply okW_minusS | apply okW_with | apply okW_less | apply okW_or | apply okW_and | apply okW_minus | (apply okW_lit <;> exact ⟨by omega, by omega⟩)))) ?_
   rintro e_ w292 ⟨rfl, he⟩
   have := lenW_le s
   refine ⟨_, rfl, _, rfl, fun act293 f294 => ?_⟩
   clear f283
   have g295 := gr_ext he
   have hS291 := hS280.gr g295
   have szw292 := g295.size
   have e296 := e285.gr g295 no_row
   clear e285
   have r297 := r286.gr g295 (fun _ h => by cases h)
   clear r286
   have bx298 := bx287.gr g295 (by simp)
   clear bx287
   have bx299 := bx288.gr g295 (by simp)
   clear bx288
   have bx300 := bx289.gr g295 (by simp)
   clear bx289
   have bx301 := bx290.gr g295 (by simp)
   clear bx290
   clear g295 he
   refine ⟨hS291, ?_⟩
   refine AtH.all [27] 37 (by kernel_rfl) (by simp) ⟨?_, trivial⟩
   refine OneH.call f294 35 #[.agg ((s : List Int).map wV).toArray, .agg ((t : List Int).map wV).toArray] (some 57) #[true, true, true, true, true, true, true, true, true, true, true, true, true, true, true, true, true, true, true, true, true, true, true, true, true, true, true, true, false, false, false, false, false, false, false, false, false, false, false, false, false, false, false, false, false, false, false, false, false, false, false, false, false, false, false, false, false, false, false, false, false, false, false, false, false] (by kernel_rfl) (by kernel_rfl) (andS_any (s := s) (t := t) (by repeat (first | assumption | exact ofW_ok _ | exact fullW_W _ | exact wordsD_W _ | exact okW_0 | exact okW_00 | apply okW_orS | apply okW_andS | apply okW_minusS | apply okW_with | apply okW_less | apply okW_or | apply okW_and | apply okW_minus | (apply okW_lit <;> exact ⟨by omega, by omega⟩))) (by repeat (first | assumption | exact ofW_ok _ | exact fullW_W _ | exact wordsD_W _ | exact okW_0 | exact okW_00 | apply okW_orS | apply okW_andS | apply okW_minusS | apply okW_with | apply okW_less | apply okW_or | apply okW_and | apply okW_minus | (apply okW_lit <;> exact ⟨by omega, by omega⟩)))) ?_
   rintro e_ w303 ⟨rfl, he⟩
   refine ⟨_, rfl, _, rfl, fun act304 f305 => ?_⟩
   clear f294
   have g306 := gr_ext he
   have hS302 := hS291.gr g306
   have szw303 := g306.size
   have e307 := e296.gr g306 no_row
   clear e296
   have r308 := r297.gr g306 (fun _ h => by cases h)
   clear r297
   have bx309 := bx298.gr g306 (by simp)
   clear bx298
   have bx310 := bx299.gr g306 (by simp)
   clear bx299
   have bx311 := bx300.gr g306 (by simp)
   clear bx300
   have bx312 := bx301.gr g306 (by simp)
   clear bx301
   clear g306 he
   refine ⟨hS302, ?_⟩
   refine AtH.all [28] 36 (by kernel_rfl) (by simp) ⟨?_, trivial⟩
   refine OneH.call f305 20 #[.agg ((andS s t : List Int).map wV).toArray] (some 58) #[true, true, true, true, true, true, true, true, true, true, true, true, true, true, true, true, true, true, true, true, true, true, true, true, true, true, true, true, true, false, false, false, false, false, false, false, false, false, false, false, false, false, false, false, false, false, false, false, false, false, false, false, false, false, false, false, false, false, false, false, false, false, false, false, false] (by kernel_rfl) (by kernel_rfl) (len_any (s := andS s t) (okW_andS (by assumption) (by assumption))) ?_
   rintro e_ w314 ⟨rfl, he⟩
   have := lenW_le (andS s t)
   refine ⟨_, rfl, _, rfl, fun act315 f316 => ?_⟩
   clear f305
   have g317 := gr_ext he
   have hS313 := hS302.gr g317
   have szw314 := g317.size
   have e318 := e307.gr g317 no_row
   clear e307
   have r319 := r308.gr g317 (fun _ h => by cases h)
   clear r308
   have bx320 := bx309.gr g317 (by simp)
   clear bx309
   have bx321 := bx310.gr g317 (by simp)
   clear bx310
   have bx322 := bx311.gr g317 (by simp)
   clear bx311
   have bx323 := bx312.gr g317 (by simp)
   clear bx312
   clear g317 he
   refine ⟨hS313, ?_⟩
   refine AtH.rd (by kernel_rfl) (fun d v c a w h => by cases d <;> exact h) hS313 [29] [[.as_ (.int .i64 ((lenW s) - (lenW (andS s t))))]] [(59, .int .i64 ((lenW s) - (lenW (andS s t))))] #[true, true, true, true, true, true, true, true, true, true, true, true, true, true, true, true, true, true, true, true, true, true, true, true, true, true, true, true, true, true, false, false, false, false, false, false, false, false, false, false, false, false, false, false, false, false, false, false, false, false, false, false, false, false, false, false, false, false, false, false, false, false, false, false, false] [((.int .i64 (IntKind.i64.wrap ((lenW s) - (lenW (andS s t)))) : Value) = .int .i64 ((lenW s) - (lenW (andS s t))))] 35 f316 (by kernel_rfl) ⟨(w64 (by omega) (by omega)), trivial⟩ (fun act325 f324 => ?_)
   clear f316
   refine AtH.rd (by kernel_rfl) (fun d v c a w h => by cases d <;> exact h) hS313 [30] [[.as_ (.bool true)]] [(60, .bool true)] #[true, true, true, true, true, true, true, true, true, true, true, true, true, true, true, true, true, true, true, true, true, true, true, true, true, true, true, true, true, true, true, false, false, false, false, false, false, false, false, false, false, false, false, false, false, false, false, false, false, false, false, false, false, false, false, false, false, false, false, false, false, false, false, false, false] [((.bool ((lenW (minusS s t) : Int) == ((lenW s) - (lenW (andS s t)))) : Value) = .bool true)] 34 f324 (by kernel_rfl) ⟨(congrArg Value.bool (beqT (len_minus ht))), trivial⟩ (fun act327 f326 => ?_)
   clear f324
   refine AtH.rd (by kernel_rfl) (fun d v c a w h => by cases d <;> exact h) hS313 [31] [[]] [(61, .bool true)] #[true, true, true, true, true, true, true, true, true, true, true, true, true, true, true, true, true, true, true, true, true, true, true, true, true, true, true, true, true, true, true, true, false, false, false, false, false, false, false, false, false, false, false, false, false, false, false, false, false, false, false, false, false, false, false, false, false, false, false, false, false, false, false, false, false] [] 33 f326 (by kernel_rfl) trivial (fun act329 f328 => ?_)
   clear f326
   refine AtH.rd (by kernel_rfl) (fun d v c a w h => by cases d <;> exact h) hS313 [32] [[]] [(62, .bool true)] #[true, true, true, true, true, true, true, true, true, true, true, true, true, true, true, true, true, true, true, true, true, true, true, true, true, true, true, true, true, true, true, true, true, false, false, false, false, false, false, false, false, false, false, false, false, false, false, false, false, false, false, false, false, false, false, false, false, false, false, false, false, false, false, false, false] [] 32 f328 (by kernel_rfl) trivial (fun act331 f330 => ?_)
   clear f328
   refine AtH.rd (by kernel_rfl) (fun d v c a w h => by cases d <;> exact h) hS313 [33] [[.cs ((s : List Int).map wV)]] [(63, .agg ((s : List Int).map wV).toArray)] #[true, true, true, true, true, true, true, true, true, true, true, true, true, true, true, true, true, true, true, true, true, true, true, true, true, true, true, true, true, true, true, true, true, true, false, false, false, false, false, false, false, false, false, false, false, false, false, false, false, false, false, false, false, false, false, false, false, false, false, false, false, false, false, false, false] [(((s : List Int).map wV).length = 4), (∀ (j : Nat) (v : Value), ((s : List Int).map wV)[j]? = some v → ∃ j_ : Nat, Cs168[j_]? = some (((⟨w23.heap.size, 0, none⟩ : Addr).add j), v))] 31 f330 (by kernel_rfl) ⟨(by simp only [List.length_map, List.length_set, List.length_replicate, List.length_cons, List.length_nil]; first | done | assumption | exact from_len _ | exact of_len _ | exact ofZ_len _ | exact (ofW_ok _).1 | exact (fullW_W _).1 | exact (okW_with (by assumption)).1 | exact (okW_less (by assumption)).1 | exact put_len (from_len _) | exact orD_len _ _ | exact andD_len _ _ | exact minusD_len _ _ | exact fullD_len _ | (refine okLen ?_; (repeat (first | assumption | exact ofW_ok _ | exact fullW_W _ | apply okW_with | apply okW_less | refine okW_orS ?_ ?_ | refine okW_andS ?_ ?_ | refine okW_minusS ?_ ?_)); done) | omega | rfl), (fun j v hv => List.getElem?_of_mem (by rw [hCs169]; exact List.mem_append.2 (.inr (List.mem_append.2 (.inl (blkC_in hv)))))), trivial⟩ (fun act333 f332 => ?_)
   clear f330
   refine AtH.rd (by kernel_rfl) (fun d v c a w h => by cases d <;> exact h) hS313 [34] [[]] [(64, .int .i64 (n))] #[true, true, true, true, true, true, true, true, true, true, true, true, true, true, true, true, true, true, true, true, true, true, true, true, true, true, true, true, true, true, true, true, true, true, true, false, false, false, false, false, false, false, false, false, false, false, false, false, false, false, false, false, false, false, false, false, false, false, false, false, false, false, false, false, false] [] 30 f332 (by kernel_rfl) trivial (fun act335 f334 => ?_)
   clear f332
   refine AtH.rd (by kernel_rfl) (fun d v c a w h => by cases d <;> exact h) hS313 [37] [[.cs ((s : List Int).map wV)]] [(67, .agg ((s : List Int).map wV).toArray)] #[true, true, true, true, true, true, true, true, true, true, true, true, true, true, true, true, true, true, true, true, true, true, true, true, true, true, true, true, true, true, true, true, true, true, true, false, false, true, false, false, false, false, false, false, false, false, false, false, false, false, false, false, false, false, false, false, false, false, false, false, false, false, false, false, false] [(((s : List Int).map wV).length = 4), (∀ (j : Nat) (v : Value), ((s : List Int).map wV)[j]? = some v → ∃ j_ : Nat, Cs168[j_]? = some (((⟨w23.heap.size, 0, none⟩ : Addr).add j), v))] 29 f334 (by kernel_rfl) ⟨(by simp only [List.length_map, List.length_set, List.length_replicate, List.length_cons, List.length_nil]; first | done | assumption | exact from_len _ | exact of_len _ | exact ofZ_len _ | exact (ofW_ok _).1 | exact (fullW_W _).1 | exact (okW_with (by assumption)).1 | exact (okW_less (by assumption)).1 | exact put_len (from_len _) | exact orD_len _ _ | exact andD_len _ _ | exact minusD_len _ _ | exact fullD_len _ | (refine okLen ?_; (repeat (first | assumption | exact ofW_ok _ | exact fullW_W _ | apply okW_with | apply okW_less | refine okW_orS ?_ ?_ | refine okW_andS ?_ ?_ | refine okW_minusS ?_ ?_)); done) | omega | rfl), (fun j v hv => List.getElem?_of_mem (by rw [hCs169]; exact List.mem_append.2 (.inr (List.mem_append.2 (.inl (blkC_in hv)))))), trivial⟩ (fun act337 f336 => ?_)
   clear f334
   refine AtH.rd (by kernel_rfl) (fun d v c a w h => by cases d <;> exact h) hS313 [39] [[]] [(69, .int .i64 (m))] #[true, true, true, true, true, true, true, true, true, true, true, true, true, true, true, true, true, true, true, true, true, true, true, true, true, true, true, true, true, true, true, true, true, true, true, false, false, true, false, true, false, false, false, false, false, false, false, false, false, false, false, false, false, false, false, false, false, false, false, false, false, false, false, false, false] [] 28 f336 (by kernel_rfl) trivial (fun act339 f338 => ?_)
   clear f336
   refine AtH.all [35] 27 (by kernel_rfl) (by simp) ⟨?_, trivial⟩
   refine OneH.call f338 31 #[.agg ((s : List Int).map wV).toArray, .int .i64 (n)] (some 65) #[true, true, true, true, true, true, true, true, true, true, true, true, true, true, true, true, true, true, true, true, true, true, true, true, true, true, true, true, true, true, true, true, true, true, true, true, false, true, false, true, false, false, false, false, false, false, false, false, false, false, false, false, false, false, false, false, false, false, false, false, false, false, false, false, false] (by kernel_rfl) (by kernel_rfl) (with_any (s := s) (n := n) (by repeat (first | assumption | exact ofW_ok _ | exact fullW_W _ | exact wordsD_W _ | exact okW_0 | exact okW_00 | apply okW_orS | apply okW_andS | apply okW_minusS | apply okW_with | apply okW_less | apply okW_or | apply okW_and | apply okW_minus | (apply okW_lit <;> exact ⟨by omega, by omega⟩)))) ?_
   rintro e_ w341 ⟨rfl, he⟩
   refine ⟨_, rfl, _, rfl, fun act342 f343 => ?_⟩
   clear f338
   have g344 := gr_ext he
   have hS340 := hS313.gr g344
   have szw341 := g344.size
   have e345 := e318.gr g344 no_row
   clear e318
   have r346 := r319.gr g344 (fun _ h => by cases h)
   clear r319
   have bx347 := bx320.gr g344 (by simp)
   clear bx320
   have bx348 := bx321.gr g344 (by simp)
   clear bx321
   have bx349 := bx322.gr g344 (by simp)
   clear bx322
   have bx350 := bx323.gr g344 (by simp)
   clear bx323
   clear g344 he
   refine ⟨hS340, ?_⟩
   refine AtH.all [36] 26 (by kernel_rfl) (by simp) ⟨?_, trivial⟩
   refine OneH.call f343 20 #[.agg ((withW s n : List Int).map wV).toArray] (some 66) #[true, true, true, true, true, true, true, true, true, true, true, true, true, true, true, true, true, true, true, true, true, true, true, true, true, true, true, true, true, true, true, true, true, true, true, true, true, true, false, true, false, false, false, false, false, false, false, false, false, false, false, false, false, false, false, false, false, false, false, false, false, false, false, false, false] (by kernel_rfl) (by kernel_rfl) (len_any (s := withW s n) (okW_with (by assumption))) ?_
   rintro e_ w352 ⟨rfl, he⟩
   have := lenW_le (withW s n)
   refine ⟨_, rfl, _, rfl, fun act353 f354 => ?_⟩
   clear f343
   have g355 := gr_ext he
   have hS351 := hS340.gr g355
   have szw352 := g355.size
   have e356 := e345.gr g355 no_row
   clear e345
   have r357 := r346.gr g355 (fun _ h => by cases h)
   clear r346
   have bx358 := bx347.gr g355 (by simp)
   clear bx347
   have bx359 := bx348.gr g355 (by simp)
   clear bx348
   have bx360 := bx349.gr g355 (by simp)
   clear bx349
   have bx361 := bx350.gr g355 (by simp)
   clear bx350
   clear g355 he
   refine ⟨hS351, ?_⟩
   refine AtH.all [38] 25 (by kernel_rfl) (by simp) ⟨?_, trivial⟩
   refine OneH.call f354 20 #[.agg ((s : List Int).map wV).toArray] (some 68) #[true, true, true, true, true, true, true, true, true, true, true, true, true, true, true, true, true, true, true, true, true, true, true, true, true, true, true, true, true, true, true, true, true, true, true, true, true, true, true, true, false, false, false, false, false, false, false, false, false, false, false, false, false, false, false, false, false, false, false, false, false, false, false, false, false] (by kernel_rfl) (by kernel_rfl) (len_any (s := s) (by repeat (first | assumption | exact ofW_ok _ | exact fullW_W _ | exact wordsD_W _ | exact okW_0 | exact okW_00 | apply okW_orS | apply okW_andS | apply okW_minusS | apply okW_with | apply okW_less | apply okW_or | apply okW_and | apply okW_minus | (apply okW_lit <;> exact ⟨by omega, by omega⟩)))) ?_
   rintro e_ w363 ⟨rfl, he⟩
   have := lenW_le s
   refine ⟨_, rfl, _, rfl, fun act364 f365 => ?_⟩
   clear f354
   have g366 := gr_ext he
   have hS362 := hS351.gr g366
   have szw363 := g366.size
   have e367 := e356.gr g366 no_row
   clear e356
   have r368 := r357.gr g366 (fun _ h => by cases h)
   clear r357
   have bx369 := bx358.gr g366 (by simp)
   clear bx358
   have bx370 := bx359.gr g366 (by simp)
   clear bx359
   have bx371 := bx360.gr g366 (by simp)
   clear bx360
   have bx372 := bx361.gr g366 (by simp)
   clear bx361
   clear g366 he
   refine ⟨hS362, ?_⟩
   refine AtH.rd (by kernel_rfl) (fun d v c a w h => by cases d <;> exact h) hS362 [40] [[.as_ (.int .i64 ((lenW s) + m))]] [(70, .int .i64 ((lenW s) + m))] #[true, true, true, true, true, true, true, true, true, true, true, true, true, true, true, true, true, true, true, true, true, true, true, true, true, true, true, true, true, true, true, true, true, true, true, true, true, true, true, true, true, false, false, false, false, false, false, false, false, false, false, false, false, false, false, false, false, false, false, false, false, false, false, false, false] [((.int .i64 (IntKind.i64.wrap ((lenW s) + m)) : Value) = .int .i64 ((lenW s) + m))] 24 f365 (by kernel_rfl) ⟨(w64 (by omega) (by omega)), trivial⟩ (fun act374 f373 => ?_)
   clear f365
   refine AtH.rd (by kernel_rfl) (fun d v c a w h => by cases d <;> exact h) hS362 [41] [[.as_ (.bool true)]] [(71, .bool true)] #[true, true, true, true, true, true, true, true, true, true, true, true, true, true, true, true, true, true, true, true, true, true, true, true, true, true, true, true, true, true, true, true, true, true, true, true, true, true, true, true, true, true, false, false, false, false, false, false, false, false, false, false, false, false, false, false, false, false, false, false, false, false, false, false, false] [((.bool ((lenW (withW s n) : Int) == ((lenW s) + m)) : Value) = .bool true)] 23 f373 (by kernel_rfl) ⟨(congrArg Value.bool (beqT (len_with hs hm))), trivial⟩ (fun act376 f375 => ?_)
   clear f373
   refine AtH.rd (by kernel_rfl) (fun d v c a w h => by cases d <;> exact h) hS362 [42] [[]] [(72, .bool true)] #[true, true, true, true, true, true, true, true, true, true, true, true, true, true, true, true, true, true, true, true, true, true, true, true, true, true, true, true, true, true, true, true, true, true, true, true, true, true, true, true, true, true, true, false, false, false, false, false, false, false, false, false, false, false, false, false, false, false, false, false, false, false, false, false, false] [] 22 f375 (by kernel_rfl) trivial (fun act378 f377 => ?_)
   clear f375
   refine AtH.rd (by kernel_rfl) (fun d v c a w h => by cases d <;> exact h) hS362 [43] [[]] [(73, .bool true)] #[true, true, true, true, true, true, true, true, true, true, true, true, true, true, true, true, true, true, true, true, true, true, true, true, true, true, true, true, true, true, true, true, true, true, true, true, true, true, true, true, true, true, true, true, false, false, false, false, false, false, false, false, false, false, false, false, false, false, false, false, false, false, false, false, false] [] 21 f377 (by kernel_rfl) trivial (fun act380 f379 => ?_)
   clear f377
   refine AtH.rd (by kernel_rfl) (fun d v c a w h => by cases d <;> exact h) hS362 [44] [[.cs ((s : List Int).map wV)]] [(74, .agg ((s : List Int).map wV).toArray)] #[true, true, true, true, true, true, true, true, true, true, true, true, true, true, true, true, true, true, true, true, true, true, true, true, true, true, true, true, true, true, true, true, true, true, true, true, true, true, true, true, true, true, true, true, true, false, false, false, false, false, false, false, false, false, false, false, false, false, false, false, false, false, false, false, false] [(((s : List Int).map wV).length = 4), (∀ (j : Nat) (v : Value), ((s : List Int).map wV)[j]? = some v → ∃ j_ : Nat, Cs168[j_]? = some (((⟨w23.heap.size, 0, none⟩ : Addr).add j), v))] 20 f379 (by kernel_rfl) ⟨(by simp only [List.length_map, List.length_set, List.length_replicate, List.length_cons, List.length_nil]; first | done | assumption | exact from_len _ | exact of_len _ | exact ofZ_len _ | exact (ofW_ok _).1 | exact (fullW_W _).1 | exact (okW_with (by assumption)).1 | exact (okW_less (by assumption)).1 | exact put_len (from_len _) | exact orD_len _ _ | exact andD_len _ _ | exact minusD_len _ _ | exact fullD_len _ | (refine okLen ?_; (repeat (first | assumption | exact ofW_ok _ | exact fullW_W _ | apply okW_with | apply okW_less | refine okW_orS ?_ ?_ | refine okW_andS ?_ ?_ | refine okW_minusS ?_ ?_)); done) | omega | rfl), (fun j v hv => List.getElem?_of_mem (by rw [hCs169]; exact List.mem_append.2 (.inr (List.mem_append.2 (.inl (blkC_in hv)))))), trivial⟩ (fun act382 f381 => ?_)
   clear f379
   refine AtH.rd (by kernel_rfl) (fun d v c a w h => by cases d <;> exact h) hS362 [45] [[]] [(75, .int .i64 (n))] #[true, true, true, true, true, true, true, true, true, true, true, true, true, true, true, true, true, true, true, true, true, true, true, true, true, true, true, true, true, true, true, true, true, true, true, true, true, true, true, true, true, true, true, true, true, true, false, false, false, false, false, false, false, false, false, false, false, false, false, false, false, false, false, false, false] [] 19 f381 (by kernel_rfl) trivial (fun act384 f383 => ?_)
   clear f381
   refine AtH.rd (by kernel_rfl) (fun d v c a w h => by cases d <;> exact h) hS362 [48] [[.cs ((s : List Int).map wV)]] [(78, .agg ((s : List Int).map wV).toArray)] #[true, true, true, true, true, true, true, true, true, true, true, true, true, true, true, true, true, true, true, true, true, true, true, true, true, true, true, true, true, true, true, true, true, true, true, true, true, true, true, true, true, true, true, true, true, true, false, false, true, false, false, false, false, false, false, false, false, false, false, false, false, false, false, false, false] [(((s : List Int).map wV).length = 4), (∀ (j : Nat) (v : Value), ((s : List Int).map wV)[j]? = some v → ∃ j_ : Nat, Cs168[j_]? = some (((⟨w23.heap.size, 0, none⟩ : Addr).add j), v))] 18 f383 (by kernel_rfl) ⟨(by simp only [List.length_map, List.length_set, List.length_replicate, List.length_cons, List.length_nil]; first | done | assumption | exact from_len _ | exact of_len _ | exact ofZ_len _ | exact (ofW_ok _).1 | exact (fullW_W _).1 | exact (okW_with (by assumption)).1 | exact (okW_less (by assumption)).1 | exact put_len (from_len _) | exact orD_len _ _ | exact andD_len _ _ | exact minusD_len _ _ | exact fullD_len _ | (refine okLen ?_; (repeat (first | assumption | exact ofW_ok _ | exact fullW_W _ | apply okW_with | apply okW_less | refine okW_orS ?_ ?_ | refine okW_andS ?_ ?_ | refine okW_minusS ?_ ?_)); done) | omega | rfl), (fun j v hv => List.getElem?_of_mem (by rw [hCs169]; exact List.mem_append.2 (.inr (List.mem_append.2 (.inl (blkC_in hv)))))), trivial⟩ (fun act386 f385 => ?_)
   clear f383
   refine AtH.rd (by kernel_rfl) (fun d v c a w h => by cases d <;> exact h) hS362 [50] [[]] [(80, .int .i64 (d))] #[true, true, true, true, true, true, true, true, true, true, true, true, true, true, true, true, true, true, true, true, true, true, true, true, true, true, true, true, true, true, true, true, true, true, true, true, true, true, true, true, true, true, true, true, true, true, false, false, true, false, true, false, false, false, false, false, false, false, false, false, false, false, false, false, false] [] 17 f385 (by kernel_rfl) trivial (fun act388 f387 => ?_)
   clear f385
   refine AtH.all [46] 16 (by kernel_rfl) (by simp) ⟨?_, trivial⟩
   refine OneH.call f387 30 #[.agg ((s : List Int).map wV).toArray, .int .i64 (n)] (some 76) #[true, true, true, true, true, true, true, true, true, true, true, true, true, true, true, true, true, true, true, true, true, true, true, true, true, true, true, true, true, true, true, true, true, true, true, true, true, true, true, true, true, true, true, true, true, true, true, false, true, false, true, false, false, false, false, false, false, false, false, false, false, false, false, false, false] (by kernel_rfl) (by kernel_rfl) (less_any (s := s) (n := n) (by repeat (first | assumption | exact ofW_ok _ | exact fullW_W _ | exact wordsD_W _ | exact okW_0 | exact okW_00 | apply okW_orS | apply okW_andS | apply okW_minusS | apply okW_with | apply okW_less | apply okW_or | apply okW_and | apply okW_minus | (apply okW_lit <;> exact ⟨by omega, by omega⟩)))) ?_
   rintro e_ w390 ⟨rfl, he⟩
   refine ⟨_, rfl, _, rfl, fun act391 f392 => ?_⟩
   clear f387
   have g393 := gr_ext he
   have hS389 := hS362.gr g393
   have szw390 := g393.size
   have e394 := e367.gr g393 no_row
   clear e367
   have r395 := r368.gr g393 (fun _ h => by cases h)
   clear r368
   have bx396 := bx369.gr g393 (by simp)
   clear bx369
   have bx397 := bx370.gr g393 (by simp)
   clear bx370
   have bx398 := bx371.gr g393 (by simp)
   clear bx371
   have bx399 := bx372.gr g393 (by simp)
   clear bx372
   clear g393 he
   refine ⟨hS389, ?_⟩
   refine AtH.all [47] 15 (by kernel_rfl) (by simp) ⟨?_, trivial⟩
   refine OneH.call f392 20 #[.agg ((lessW s n : List Int).map wV).toArray] (some 77) #[true, true, true, true, true, true, true, true, true, true, true, true, true, true, true, true, true, true, true, true, true, true, true, true, true, true, true, true, true, true, true, true, true, true, true, true, true, true, true, true, true, true, true, true, true, true, true, true, true, false, true, false, false, false, false, false, false, false, false, false, false, false, false, false, false] (by kernel_rfl) (by kernel_rfl) (len_any (s := lessW s n) (okW_less (by assumption))) ?_
   rintro e_ w401 ⟨rfl, he⟩
   have := lenW_le (lessW s n)
   refine ⟨_, rfl, _, rfl, fun act402 f403 => ?_⟩
   clear f392
   have g404 := gr_ext he
   have hS400 := hS389.gr g404
   have szw401 := g404.size
   have e405 := e394.gr g404 no_row
   clear e394
   have r406 := r395.gr g404 (fun _ h => by cases h)
   clear r395
   have bx407 := bx396.gr g404 (by simp)
   clear bx396
   have bx408 := bx397.gr g404 (by simp)
   clear bx397
   have bx409 := bx398.gr g404 (by simp)
   clear bx398
   have bx410 := bx399.gr g404 (by simp)
   clear bx399
   clear g404 he
   refine ⟨hS400, ?_⟩
   refine AtH.all [49] 14 (by kernel_rfl) (by simp) ⟨?_, trivial⟩
   refine OneH.call f403 20 #[.agg ((s : List Int).map wV).toArray] (some 79) #[true, true, true, true, true, true, true, true, true, true, true, true, true, true, true, true, true, true, true, true, true, true, true, true, true, true, true, true, true, true, true, true, true, true, true, true, true, true, true, true, true, true, true, true, true, true, true, true, true, true, true, false, false, false, false, false, false, false, false, false, false, false, false, false, false] (by kernel_rfl) (by kernel_rfl) (len_any (s := s) (by repeat (first | assumption | exact ofW_ok _ | exact fullW_W _ | exact wordsD_W _ | exact okW_0 | exact okW_00 | apply okW_orS | apply okW_andS | apply okW_minusS | apply okW_with | apply okW_less | apply okW_or | apply okW_and | apply okW_minus | (apply okW_lit <;> exact ⟨by omega, by omega⟩)))) ?_
   rintro e_ w412 ⟨rfl, he⟩
   have := lenW_le s
   refine ⟨_, rfl, _, rfl, fun act413 f414 => ?_⟩
   clear f403
   have g415 := gr_ext he
   have hS411 := hS400.gr g415
   have szw412 := g415.size
   have e416 := e405.gr g415 no_row
   clear e405
   have r417 := r406.gr g415 (fun _ h => by cases h)
   clear r406
   have bx418 := bx407.gr g415 (by simp)
   clear bx407
   have bx419 := bx408.gr g415 (by simp)
   clear bx408
   have bx420 := bx409.gr g415 (by simp)
   clear bx409
   have bx421 := bx410.gr g415 (by simp)
   clear bx410
   clear g415 he
   refine ⟨hS411, ?_⟩
   refine AtH.rd (by kernel_rfl) (fun d v c a w h => by cases d <;> exact h) hS411 [51] [[.as_ (.int .i64 ((lenW s) - d))]] [(81, .int .i64 ((lenW s) - d))] #[true, true, true, true, true, true, true, true, true, true, true, true, true, true, true, true, true, true, true, true, true, true, true, true, true, true, true, true, true, true, true, true, true, true, true, true, true, true, true, true, true, true, true, true, true, true, true, true, true, true, true, true, false, false, false, false, false, false, false, false, false, false, false, false, false] [((.int .i64 (IntKind.i64.wrap ((lenW s) - d)) : Value) = .int .i64 ((lenW s) - d))] 13 f414 (by kernel_rfl) ⟨(w64 (by omega) (by omega)), trivial⟩ (fun act423 f422 => ?_)
   clear f414
   refine AtH.rd (by kernel_rfl) (fun d v c a w h => by cases d <;> exact h) hS411 [52] [[.as_ (.bool true)]] [(82, .bool true)] #[true, true, true, true, true, true, true, true, true, true, true, true, true, true, true, true, true, true, true, true, true, true, true, true, true, true, true, true, true, true, true, true, true, true, true, true, true, true, true, true, true, true, true, true, true, true, true, true, true, true, true, true, true, false, false, false, false, false, false, false, false, false, false, false, false] [((.bool ((lenW (lessW s n) : Int) == ((lenW s) - d)) : Value) = .bool true)] 12 f422 (by kernel_rfl) ⟨(congrArg Value.bool (beqT (len_less hs hd))), trivial⟩ (fun act425 f424 => ?_)
   clear f422
   refine AtH.rd (by kernel_rfl) (fun d v c a w h => by cases d <;> exact h) hS411 [53] [[]] [(83, .bool true)] #[true, true, true, true, true, true, true, true, true, true, true, true, true, true, true, true, true, true, true, true, true, true, true, true, true, true, true, true, true, true, true, true, true, true, true, true, true, true, true, true, true, true, true, true, true, true, true, true, true, true, true, true, true, true, false, false, false, false, false, false, false, false, false, false, false] [] 11 f424 (by kernel_rfl) trivial (fun act427 f426 => ?_)
   clear f424
   refine AtH.rd (by kernel_rfl) (fun d v c a w h => by cases d <;> exact h) hS411 [54] [[]] [(84, .bool true)] #[true, true, true, true, true, true, true, true, true, true, true, true, true, true, true, true, true, true, true, true, true, true, true, true, true, true, true, true, true, true, true, true, true, true, true, true, true, true, true, true, true, true, true, true, true, true, true, true, true, true, true, true, true, true, true, false, false, false, false, false, false, false, false, false, false] [] 10 f426 (by kernel_rfl) trivial (fun act429 f428 => ?_)
   clear f426
   refine AtH.rd (by kernel_rfl) (fun d v c a w h => by cases d <;> exact h) hS411 [55] [[.cs ((s : List Int).map wV)]] [(85, .agg ((s : List Int).map wV).toArray)] #[true, true, true, true, true, true, true, true, true, true, true, true, true, true, true, true, true, true, true, true, true, true, true, true, true, true, true, true, true, true, true, true, true, true, true, true, true, true, true, true, true, true, true, true, true, true, true, true, true, true, true, true, true, true, true, true, false, false, false, false, false, false, false, false, false] [(((s : List Int).map wV).length = 4), (∀ (j : Nat) (v : Value), ((s : List Int).map wV)[j]? = some v → ∃ j_ : Nat, Cs168[j_]? = some (((⟨w23.heap.size, 0, none⟩ : Addr).add j), v))] 9 f428 (by kernel_rfl) ⟨(by simp only [List.length_map, List.length_set, List.length_replicate, List.length_cons, List.length_nil]; first | done | assumption | exact from_len _ | exact of_len _ | exact ofZ_len _ | exact (ofW_ok _).1 | exact (fullW_W _).1 | exact (okW_with (by assumption)).1 | exact (okW_less (by assumption)).1 | exact put_len (from_len _) | exact orD_len _ _ | exact andD_len _ _ | exact minusD_len _ _ | exact fullD_len _ | (refine okLen ?_; (repeat (first | assumption | exact ofW_ok _ | exact fullW_W _ | apply okW_with | apply okW_less | refine okW_orS ?_ ?_ | refine okW_andS ?_ ?_ | refine okW_minusS ?_ ?_)); done) | omega | rfl), (fun j v hv => List.getElem?_of_mem (by rw [hCs169]; exact List.mem_append.2 (.inr (List.mem_append.2 (.inl (blkC_in hv)))))), trivial⟩ (fun act431 f430 => ?_)
   clear f428
   refine AtH.all [56] 8 (by kernel_rfl) (by simp) ⟨?_, trivial⟩
   refine OneH.call f430 20 #[.agg ((s : List Int).map wV).toArray] (some 86) #[true, true, true, true, true, true, true, true, true, true, true, true, true, true, true, true, true, true, true, true, true, true, true, true, true, true, true, true, true, true, true, true, true, true, true, true, true, true, true, true, true, true, true, true, true, true, true, true, true, true, true, true, true, true, true, true, true, false, false, false, false, false, false, false, false] (by kernel_rfl) (by kernel_rfl) (len_any (s := s) (by repeat (first | assumption | exact ofW_ok _ | exact fullW_W _ | exact wordsD_W _ | exact okW_0 | exact okW_00 | apply okW_orS | apply okW_andS | apply okW_minusS | apply okW_with | apply okW_less | apply okW_or | apply okW_and | apply okW_minus | (apply okW_lit <;> exact ⟨by omega, by omega⟩)))) ?_
   rintro e_ w433 ⟨rfl, he⟩
   have := lenW_le s
   refine ⟨_, rfl, _, rfl, fun act434 f435 => ?_⟩
   clear f430
   have g436 := gr_ext he
   have hS432 := hS411.gr g436
   have szw433 := g436.size
   have e437 := e416.gr g436 no_row
   clear e416
   have r438 := r417.gr g436 (fun _ h => by cases h)
   clear r417
   have bx439 := bx418.gr g436 (by simp)
   clear bx418
   have bx440 := bx419.gr g436 (by simp)
   clear bx419
   have bx441 := bx420.gr g436 (by simp)
   clear bx420
   have bx442 := bx421.gr g436 (by simp)
   clear bx421
   clear g436 he
   refine ⟨hS432, ?_⟩
   refine AtH.rd (by kernel_rfl) (fun d v c a w h => by cases d <;> exact h) hS432 [57] [[.as_ (.bool true)]] [(87, .bool true)] #[true, true, true, true, true, true, true, true, true, true, true, true, true, true, true, true, true, true, true, true, true, true, true, true, true, true, true, true, true, true, true, true, true, true, true, true, true, true, true, true, true, true, true, true, true, true, true, true, true, true, true, true, true, true, true, true, true, true, false, false, false, false, false, false, false] [((.bool (decide ((lenW s : Int) ≥ 0)) : Value) = .bool true)] 7 f435 (by kernel_rfl) ⟨(congrArg Value.bool (decide_eq_true (lenW_le s).1)), trivial⟩ (fun act444 f443 => ?_)
   clear f435
   refine AtH.rd (by kernel_rfl) (fun d v c a w h => by cases d <;> exact h) hS432 [58] [[]] [(88, .bool true)] #[true, true, true, true, true, true, true, true, true, true, true, true, true, true, true, true, true, true, true, true, true, true, true, true, true, true, true, true, true, true, true, true, true, true, true, true, true, true, true, true, true, true, true, true, true, true, true, true, true, true, true, true, true, true, true, true, true, true, true, false, false, false, false, false, false] [] 6 f443 (by kernel_rfl) trivial (fun act446 f445 => ?_)
   clear f443
   refine AtH.rd (by kernel_rfl) (fun d v c a w h => by cases d <;> exact h) hS432 [59] [[]] [(89, .bool true)] #[true, true, true, true, true, true, true, true, true, true, true, true, true, true, true, true, true, true, true, true, true, true, true, true, true, true, true, true, true, true, true, true, true, true, true, true, true, true, true, true, true, true, true, true, true, true, true, true, true, true, true, true, true, true, true, true, true, true, true, true, false, false, false, false, false] [] 5 f445 (by kernel_rfl) trivial (fun act448 f447 => ?_)
   clear f445
   refine AtH.rd (by kernel_rfl) (fun d v c a w h => by cases d <;> exact h) hS432 [60] [[.cs ((s : List Int).map wV)]] [(90, .agg ((s : List Int).map wV).toArray)] #[true, true, true, true, true, true, true, true, true, true, true, true, true, true, true, true, true, true, true, true, true, true, true, true, true, true, true, true, true, true, true, true, true, true, true, true, true, true, true, true, true, true, true, true, true, true, true, true, true, true, true, true, true, true, true, true, true, true, true, true, true, false, false, false, false] [(((s : List Int).map wV).length = 4), (∀ (j : Nat) (v : Value), ((s : List Int).map wV)[j]? = some v → ∃ j_ : Nat, Cs168[j_]? = some (((⟨w23.heap.size, 0, none⟩ : Addr).add j), v))] 4 f447 (by kernel_rfl) ⟨(by simp only [List.length_map, List.length_set, List.length_replicate, List.length_cons, List.length_nil]; first | done | assumption | exact from_len _ | exact of_len _ | exact ofZ_len _ | exact (ofW_ok _).1 | exact (fullW_W _).1 | exact (okW_with (by assumption)).1 | exact (okW_less (by assumption)).1 | exact put_len (from_len _) | exact orD_len _ _ | exact andD_len _ _ | exact minusD_len _ _ | exact fullD_len _ | (refine okLen ?_; (repeat (first | assumption | exact ofW_ok _ | exact fullW_W _ | apply okW_with | apply okW_less | refine okW_orS ?_ ?_ | refine okW_andS ?_ ?_ | refine okW_minusS ?_ ?_)); done) | omega | rfl), (fun j v hv => List.getElem?_of_mem (by rw [hCs169]; exact List.mem_append.2 (.inr (List.mem_append.2 (.inl (blkC_in hv)))))), trivial⟩ (fun act450 f449 => ?_)
   clear f447
   refine AtH.all [61] 3 (by kernel_rfl) (by simp) ⟨?_, trivial⟩
   refine OneH.call f449 20 #[.agg ((s : List Int).map wV).toArray] (some 91) #[true, true, true, true, true, true, true, true, true, true, true, true, true, true, true, true, true, true, true, true, true, true, true, true, true, true, true, true, true, true, true, true, true, true, true, true, true, true, true, true, true, true, true, true, true, true, true, true, true, true, true, true, true, true, true, true, true, true, true, true, true, true, false, false, false] (by kernel_rfl) (by kernel_rfl) (len_any (s := s) (by repeat (first | assumption | exact ofW_ok _ | exact fullW_W _ | exact wordsD_W _ | exact okW_0 | exact okW_00 | apply okW_orS | apply okW_andS | apply okW_minusS | apply okW_with | apply okW_less | apply okW_or | apply okW_and | apply okW_minus | (apply okW_lit <;> exact ⟨by omega, by omega⟩)))) ?_
   rintro e_ w452 ⟨rfl, he⟩
   have := lenW_le s
   refine ⟨_, rfl, _, rfl, fun act453 f454 => ?_⟩
   clear f449
   have g455 := gr_ext he
   have hS451 := hS432.gr g455
   have szw452 := g455.size
   have e456 := e437.gr g455 no_row
   clear e437
   have r457 := r438.gr g455 (fun _ h => by cases h)
   clear r438
   have bx458 := bx439.gr g455 (by simp)
   clear bx439
   have bx459 := bx440.gr g455 (by simp)
   clear bx440
   have bx460 := bx441.gr g455 (by simp)
   clear bx441
   have bx461 := bx442.gr g455 (by simp)
   clear bx442
   clear g455 he
   refine ⟨hS451, ?_⟩
   refine AtH.rd (by kernel_rfl) (fun d v c a w h => by cases d <;> exact h) hS451 [62] [[.as_ (.bool true)]] [(92, .bool true)] #[true, true, true, true, true, true, true, true, true, true, true, true, true, true, true, true, true, true, true, true, true, true, true, true, true, true, true, true, true, true, true, true, true, true, true, true, true, true, true, true, true, true, true, true, true, true, true, true, true, true, true, true, true, true, true, true, true, true, true, true, true, true, true, false, false] [((.bool (decide ((lenW s : Int) ≤ 256)) : Value) = .bool true)] 2 f454 (by kernel_rfl) ⟨(congrArg Value.bool (decide_eq_true (lenW_le s).2)), trivial⟩ (fun act463 f462 => ?_)
   clear f454
   refine AtH.rd (by kernel_rfl) (fun d v c a w h => by cases d <;> exact h) hS451 [63] [[]] [(93, .bool true)] #[true, true, true, true, true, true, true, true, true, true, true, true, true, true, true, true, true, true, true, true, true, true, true, true, true, true, true, true, true, true, true, true, true, true, true, true, true, true, true, true, true, true, true, true, true, true, true, true, true, true, true, true, true, true, true, true, true, true, true, true, true, true, true, true, false] [] 1 f462 (by kernel_rfl) trivial (fun act465 f464 => ?_)
   clear f462
   refine AtH.rd (by kernel_rfl) (fun d v c a w h => by cases d <;> exact h) hS451 [64] [[]] [(6, .bool true)] #[true, true, true, true, true, true, true, true, true, true, true, true, true, true, true, true, true, true, true, true, true, true, true, true, true, true, true, true, true, true, true, true, true, true, true, true, true, true, true, true, true, true, true, true, true, true, true, true, true, true, true, true, true, true, true, true, true, true, true, true, true, true, true, true, true] [] 0 f464 (by kernel_rfl) trivial (fun act467 f466 => ?_)
   clear f464
   refine AtH.done (by kernel_rfl) ?_
   clear hS451
   refine t_n ?_
   have f468 := f466.sub (r := [(6, .bool true)]) ⟨rfl, trivial⟩
   clear f466
   refine wp_ret ?_
   refine ret_ f468 [] [.bool true] [] (by kernel_rfl) trivial ?_
   exact ⟨rfl, e456⟩

end Go.Proofs.YtepekncgknlcjaaDoor
