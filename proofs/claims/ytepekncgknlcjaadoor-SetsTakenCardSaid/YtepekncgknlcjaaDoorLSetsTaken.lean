/-
  A walk of a Go function, printed by a program of this repo. Conditions: what the theorems name.
-/
import Derived.Test.YtepekncgknlcjaaDoorWShown01
import Derived.Test.YtepekncgknlcjaaDoorPureAlg
import Derived.Test.YtepekncgknlcjaaDoorPureLs
set_option linter.unusedVariables false
set_option linter.unusedSimpArgs false
namespace Go.Proofs.YtepekncgknlcjaaDoor
open Go Go.RowKit

attribute [local irreducible] ofZ fromW wordsD ofD ofW lsD lenW lenN fullW withW lessW hasW hasD inW inD leastD putD onI tzI orS andS minusS orD andD minusD fullD emptyD
set_option maxHeartbeats 4000000 in
theorem taken01_any {s : List Int} {w : World} (hs : OkW s) (rT : RdT w 0 w.heap.size) :
    Calls Tryd.prog 7 #[.agg ((s : List Int).map wV).toArray] w fun e w' => e = .returned (.bool true) ∧ Ext w w' := by
 have hls := hs.1
 refine enter_ (args := [.agg ((s : List Int).map wV).toArray]) Tryd.func7 rfl Tryd.ntmps7 (Nat.le_of_ble_eq_true rfl) (fun act0 f0 => ?_)
 have e0 := Ext.refl w
 refine wp_seq ?_
 refine At.start ?_
 refine At.seq f0 1 [[]] [(1, .pointer (some ⟨w.heap.size, 0, none⟩))] (w.alloc (.cells ((s : List Int).map wV).toArray 25 (0, 0))) [] (by kernel_rfl) trivial (fun act4 w1 hw2 f3 => ?_)
 clear f0
 have g5 := gr_alloc hw2
 have szw1 := g5.size
 have e7 := e0.gr g5 no_row
 clear e0
 have r8 := rT.gr g5 (fun _ h => by cases h)
 clear rT
 have bx9 : Bx w1 (w.heap.size) ((s : List Int).map wV) 25 := Bx.new hw2
 have := bx9.lt
 clear g5 hw2
 refine At.rd f3 1 [[]] [(2, .bool false)] [] (by kernel_rfl) trivial (fun act11 f10 => ?_)
 clear f3
 refine At.done rfl ?_
 refine t_n ?_
 have f12 := f10.sub (r := [(2, .bool false), (1, .pointer (some ⟨w.heap.size, 0, none⟩))]) ⟨rfl, rfl, trivial⟩
 clear f10
 refine wp_seq ?_
 refine At.start ?_
 refine At.call f12 12 #[] (some 11) (by kernel_rfl) (shown01_any (r8.wide (Nat.zero_le _) (by omega))) ?_
 rintro e_ w13 ⟨rfl, he⟩
 refine ⟨_, rfl, _, rfl, fun act14 f15 => ?_⟩
 clear f12
 have g16 := gr_ext he
 have szw13 := g16.size
 have e17 := e7.gr g16 no_row
 clear e7
 have r18 := r8.gr g16 (fun _ h => by cases h)
 clear r8
 have bx19 := bx9.gr g16 (by simp)
 clear bx9
 clear g16 he
 refine At.rd f15 1 [[]] [(3, .bool true)] [] (by kernel_rfl) trivial (fun act21 f20 => ?_)
 clear f15
 refine At.done rfl ?_
 refine t_n ?_
 have f22 := f20.sub (r := [(3, .bool true), (2, .bool false), (1, .pointer (some ⟨w.heap.size, 0, none⟩))]) ⟨rfl, rfl, rfl, trivial⟩
 clear f20
 refine wp_seq ?_
 refine At.start ?_
 refine At.rd f22 1 [[.cs ((s : List Int).map wV)]] [(12, .agg ((s : List Int).map wV).toArray)] [(((s : List Int).map wV).length = 4), (∀ (j : Nat) (v : Value), ((s : List Int).map wV)[j]? = some v → w13.cell? ((⟨w.heap.size, 0, none⟩ : Addr).add j) = some v)] (by kernel_rfl) ⟨(by simp only [List.length_map, List.length_set, List.length_replicate, List.length_cons, List.length_nil]; first | done | assumption | exact from_len _ | exact of_len _ | exact ofZ_len _ | exact (ofW_ok _).1 | exact (fullW_W _).1 | exact (okW_with (by assumption)).1 | exact (okW_less (by assumption)).1 | exact put_len (from_len _) | exact orD_len _ _ | exact andD_len _ _ | exact minusD_len _ _ | exact fullD_len _ | (refine okLen ?_; (repeat (first | assumption | exact ofW_ok _ | exact fullW_W _ | apply okW_with | apply okW_less | refine okW_orS ?_ ?_ | refine okW_andS ?_ ?_ | refine okW_minusS ?_ ?_)); done) | omega | rfl), bx19.whole, trivial⟩ (fun act24 f23 => ?_)
 clear f22
 refine At.seq f23 1 [[]] [(4, .pointer (some ⟨w13.heap.size, 0, none⟩))] (w13.alloc (.cells ((List.replicate 4 (0 : Int) : List Int).map wV).toArray 26 (0, 0))) [] (by kernel_rfl) trivial (fun act28 w25 hw26 f27 => ?_)
 clear f23
 have g29 := gr_alloc hw26
 have szw25 := g29.size
 have e31 := e17.gr g29 no_row
 clear e17
 have r32 := r18.gr g29 (fun _ h => by cases h)
 clear r18
 have bx33 := bx19.gr g29 (by simp)
 clear bx19
 have bx34 : Bx w25 (w13.heap.size) ((List.replicate 4 (0 : Int) : List Int).map wV) 26 := Bx.new hw26
 have := bx34.lt
 clear g29 hw26
 refine At.act f27 (storeBlk (t := 26) (b := w13.heap.size) (n := 4) (cs' := ((s : List Int).map wV)) (by kernel_rfl) (by kernel_rfl) (by simp only [List.length_map, List.length_set, List.length_replicate, List.length_cons, List.length_nil]; first | done | assumption | exact from_len _ | exact of_len _ | exact ofZ_len _ | exact (ofW_ok _).1 | exact (fullW_W _).1 | exact (okW_with (by assumption)).1 | exact (okW_less (by assumption)).1 | exact put_len (from_len _) | exact orD_len _ _ | exact andD_len _ _ | exact minusD_len _ _ | exact fullD_len _ | (refine okLen ?_; (repeat (first | assumption | exact ofW_ok _ | exact fullW_W _ | apply okW_with | apply okW_less | refine okW_orS ?_ ?_ | refine okW_andS ?_ ?_ | refine okW_minusS ?_ ?_)); done) | omega | rfl) oneW_ ((show ((s : List Int).map wV).length = 4 from (by simp only [List.length_map, List.length_set, List.length_replicate, List.length_cons, List.length_nil]; first | done | assumption | exact from_len _ | exact of_len _ | exact ofZ_len _ | exact (ofW_ok _).1 | exact (fullW_W _).1 | exact (okW_with (by assumption)).1 | exact (okW_less (by assumption)).1 | exact put_len (from_len _) | exact orD_len _ _ | exact andD_len _ _ | exact minusD_len _ _ | exact fullD_len _ | (refine okLen ?_; (repeat (first | assumption | exact ofW_ok _ | exact fullW_W _ | apply okW_with | apply okW_less | refine okW_orS ?_ ?_ | refine okW_andS ?_ ?_ | refine okW_minusS ?_ ?_)); done) | omega | rfl)).trans (show ((List.replicate 4 (0 : Int) : List Int).map wV).length = 4 from (by simp only [List.length_map, List.length_set, List.length_replicate, List.length_cons, List.length_nil]; first | done | assumption | exact from_len _ | exact of_len _ | exact ofZ_len _ | exact (ofW_ok _).1 | exact (fullW_W _).1 | exact (okW_with (by assumption)).1 | exact (okW_less (by assumption)).1 | exact put_len (from_len _) | exact orD_len _ _ | exact andD_len _ _ | exact minusD_len _ _ | exact fullD_len _ | (refine okLen ?_; (repeat (first | assumption | exact ofW_ok _ | exact fullW_W _ | apply okW_with | apply okW_less | refine okW_orS ?_ ?_ | refine okW_andS ?_ ?_ | refine okW_minusS ?_ ?_)); done) | omega | rfl)).symm) bx34) ?_
 rintro d_ v_ w35 ⟨rfl, g36, bx37⟩
 refine ⟨_, rfl, fun act39 f38 => ?_⟩
 clear f27
 have szw35 := g36.size
 have e40 := e31.gr g36 (fun k h => by injection h; omega)
 clear e31
 have r41 := r32.gr g36 (fun k h => by injection h; omega)
 clear r32
 have bx42 := bx33.gr g36 (fun h => by injection h; omega)
 clear bx33
 clear bx34 g36
 refine At.done rfl ?_
 refine t_n ?_
 have f43 := f38.sub (r := [(4, .pointer (some ⟨w13.heap.size, 0, none⟩)), (3, .bool true), (2, .bool false)]) ⟨rfl, rfl, rfl, trivial⟩
 clear f38
 refine wp_seq ?_
 refine At.start ?_
 refine At.rd f43 1 [[.cs ((s : List Int).map wV)]] [(13, .agg ((s : List Int).map wV).toArray)] [(((s : List Int).map wV).length = 4), (∀ (j : Nat) (v : Value), ((s : List Int).map wV)[j]? = some v → w35.cell? ((⟨w13.heap.size, 0, none⟩ : Addr).add j) = some v)] (by kernel_rfl) ⟨(by simp only [List.length_map, List.length_set, List.length_replicate, List.length_cons, List.length_nil]; first | done | assumption | exact from_len _ | exact of_len _ | exact ofZ_len _ | exact (ofW_ok _).1 | exact (fullW_W _).1 | exact (okW_with (by assumption)).1 | exact (okW_less (by assumption)).1 | exact put_len (from_len _) | exact orD_len _ _ | exact andD_len _ _ | exact minusD_len _ _ | exact fullD_len _ | (refine okLen ?_; (repeat (first | assumption | exact ofW_ok _ | exact fullW_W _ | apply okW_with | apply okW_less | refine okW_orS ?_ ?_ | refine okW_andS ?_ ?_ | refine okW_minusS ?_ ?_)); done) | omega | rfl), bx37.whole, trivial⟩ (fun act45 f44 => ?_)
 clear f43
 refine At.call f44 19 #[.agg ((s : List Int).map wV).toArray] (some 14) (by kernel_rfl) (list_any (s := s) (by repeat (first | assumption | exact ofW_ok _ | exact fullW_W _ | exact wordsD_W _ | exact okW_0 | exact okW_00 | apply okW_orS | apply okW_andS | apply okW_minusS | apply okW_with | apply okW_less | apply okW_or | apply okW_and | apply okW_minus | (apply okW_lit <;> exact ⟨by omega, by omega⟩))) (r41.wide (Nat.zero_le _) (by omega))) ?_
 rintro e_ w50 ⟨A46, c47, rfl, he, ow48⟩
 have := ls_len (fromW s) 256
 refine ⟨_, rfl, _, rfl, fun act51 f52 => ?_⟩
 clear f44
 have g53 := gr_ext he
 have szw50 := g53.size
 have e54 := e40.gr g53 no_row
 clear e40
 have r55 := r41.gr g53 (fun _ h => by cases h)
 clear r41
 have bx56 := bx42.gr g53 (by simp)
 clear bx42
 have bx57 := bx37.gr g53 (by simp)
 clear bx37
 clear g53 he
 refine At.rd f52 1 [[]] [(5, .slice A46 ((lsD (fromW s) 256).length) c47)] [] (by kernel_rfl) trivial (fun act59 f58 => ?_)
 clear f52
 refine At.done rfl ?_
 refine t_n ?_
 have f60 := f58.sub (r := [(5, .slice A46 ((lsD (fromW s) 256).length) c47), (4, .pointer (some ⟨w13.heap.size, 0, none⟩)), (3, .bool true), (2, .bool false)]) ⟨rfl, rfl, rfl, rfl, trivial⟩
 clear f58
 refine wp_seq ?_
 refine At.start ?_
 refine At.rd f60 1 [[.cs ((s : List Int).map wV)]] [(15, .agg ((s : List Int).map wV).toArray)] [(((s : List Int).map wV).length = 4), (∀ (j : Nat) (v : Value), ((s : List Int).map wV)[j]? = some v → w50.cell? ((⟨w13.heap.size, 0, none⟩ : Addr).add j) = some v)] (by kernel_rfl) ⟨(by simp only [List.length_map, List.length_set, List.length_replicate, List.length_cons, List.length_nil]; first | done | assumption | exact from_len _ | exact of_len _ | exact ofZ_len _ | exact (ofW_ok _).1 | exact (fullW_W _).1 | exact (okW_with (by assumption)).1 | exact (okW_less (by assumption)).1 | exact put_len (from_len _) | exact orD_len _ _ | exact andD_len _ _ | exact minusD_len _ _ | exact fullD_len _ | (refine okLen ?_; (repeat (first | assumption | exact ofW_ok _ | exact fullW_W _ | apply okW_with | apply okW_less | refine okW_orS ?_ ?_ | refine okW_andS ?_ ?_ | refine okW_minusS ?_ ?_)); done) | omega | rfl), bx57.whole, trivial⟩ (fun act62 f61 => ?_)
 clear f60
 refine At.seq f61 1 [[]] [(6, .pointer (some ⟨w50.heap.size, 0, none⟩))] (w50.alloc (.cells ((List.replicate 4 (0 : Int) : List Int).map wV).toArray 26 (0, 0))) [] (by kernel_rfl) trivial (fun act66 w63 hw64 f65 => ?_)
 clear f61
 have g67 := gr_alloc hw64
 have szw63 := g67.size
 have e69 := e54.gr g67 no_row
 clear e54
 have r70 := r55.gr g67 (fun _ h => by cases h)
 clear r55
 have bx71 := bx56.gr g67 (by simp)
 clear bx56
 have bx72 := bx57.gr g67 (by simp)
 clear bx57
 have ow73 : OwnR w63 (Sx (w35.heap.size) [some (w50.heap.size)]) A46 c47 3 ((lsD (fromW s) 256) : List Int) := ow48.grA g67 (fun _ _ h => by cases h) (fun k hk hs => ⟨(fun e => by injection e; omega), hs⟩)
 clear ow48
 have bx74 : Bx w63 (w50.heap.size) ((List.replicate 4 (0 : Int) : List Int).map wV) 26 := Bx.new hw64
 have := bx74.lt
 clear g67 hw64
 refine At.act f65 (storeBlk (t := 26) (b := w50.heap.size) (n := 4) (cs' := ((s : List Int).map wV)) (by kernel_rfl) (by kernel_rfl) (by simp only [List.length_map, List.length_set, List.length_replicate, List.length_cons, List.length_nil]; first | done | assumption | exact from_len _ | exact of_len _ | exact ofZ_len _ | exact (ofW_ok _).1 | exact (fullW_W _).1 | exact (okW_with (by assumption)).1 | exact (okW_less (by assumption)).1 | exact put_len (from_len _) | exact orD_len _ _ | exact andD_len _ _ | exact minusD_len _ _ | exact fullD_len _ | (refine okLen ?_; (repeat (first | assumption | exact ofW_ok _ | exact fullW_W _ | apply okW_with | apply okW_less | refine okW_orS ?_ ?_ | refine okW_andS ?_ ?_ | refine okW_minusS ?_ ?_)); done) | omega | rfl) oneW_ ((show ((s : List Int).map wV).length = 4 from (by simp only [List.length_map, List.length_set, List.length_replicate, List.length_cons, List.length_nil]; first | done | assumption | exact from_len _ | exact of_len _ | exact ofZ_len _ | exact (ofW_ok _).1 | exact (fullW_W _).1 | exact (okW_with (by assumption)).1 | exact (okW_less (by assumption)).1 | exact put_len (from_len _) | exact orD_len _ _ | exact andD_len _ _ | exact minusD_len _ _ | exact fullD_len _ | (refine okLen ?_; (repeat (first | assumption | exact ofW_ok _ | exact fullW_W _ | apply okW_with | apply okW_less | refine okW_orS ?_ ?_ | refine okW_andS ?_ ?_ | refine okW_minusS ?_ ?_)); done) | omega | rfl)).trans (show ((List.replicate 4 (0 : Int) : List Int).map wV).length = 4 from (by simp only [List.length_map, List.length_set, List.length_replicate, List.length_cons, List.length_nil]; first | done | assumption | exact from_len _ | exact of_len _ | exact ofZ_len _ | exact (ofW_ok _).1 | exact (fullW_W _).1 | exact (okW_with (by assumption)).1 | exact (okW_less (by assumption)).1 | exact put_len (from_len _) | exact orD_len _ _ | exact andD_len _ _ | exact minusD_len _ _ | exact fullD_len _ | (refine okLen ?_; (repeat (first | assumption | exact ofW_ok _ | exact fullW_W _ | apply okW_with | apply okW_less | refine okW_orS ?_ ?_ | refine okW_andS ?_ ?_ | refine okW_minusS ?_ ?_)); done) | omega | rfl)).symm) bx74) ?_
 rintro d_ v_ w75 ⟨rfl, g76, bx77⟩
 refine ⟨_, rfl, fun act79 f78 => ?_⟩
 clear f65
 have szw75 := g76.size
 have e80 := e69.gr g76 (fun k h => by injection h; omega)
 clear e69
 have r81 := r70.gr g76 (fun k h => by injection h; omega)
 clear r70
 have bx82 := bx71.gr g76 (fun h => by injection h; omega)
 clear bx71
 have bx83 := bx72.gr g76 (fun h => by injection h; omega)
 clear bx72
 have ow84 := ow73.gr g76 (fun k hk => hk.1)
 clear ow73
 clear bx74 g76
 refine At.done rfl ?_
 refine t_n ?_
 have f85 := f78.sub (r := [(6, .pointer (some ⟨w50.heap.size, 0, none⟩)), (5, .slice A46 ((lsD (fromW s) 256).length) c47), (4, .pointer (some ⟨w13.heap.size, 0, none⟩)), (3, .bool true), (2, .bool false)]) ⟨rfl, rfl, rfl, rfl, rfl, trivial⟩
 clear f78
 refine wp_seq ?_
 refine wp_seq ?_
 refine At.start ?_
 refine At.rd f85 1 [[]] [(7, .int .i64 (0))] [] (by kernel_rfl) trivial (fun act87 f86 => ?_)
 clear f85
 refine At.done rfl ?_
 refine t_n ?_
 refine wp_block ?_
 have f88 := f86.sub (r := [(7, .int .i64 (0)), (6, .pointer (some ⟨w50.heap.size, 0, none⟩)), (5, .slice A46 ((lsD (fromW s) 256).length) c47), (4, .pointer (some ⟨w13.heap.size, 0, none⟩)), (3, .bool true)]) ⟨rfl, rfl, rfl, rfl, rfl, trivial⟩
 refine loop_g (fun (m_ : Nat) a_ w_ => ∃ (k : Int) (xs : List Int), m_ = (((lsD (fromW s) 256).length : Int) - k).toNat ∧ (Frm 72 a_ [(7, .int .i64 (k)), (6, .pointer (some ⟨w50.heap.size, 0, none⟩)), (5, .slice A46 ((lsD (fromW s) 256).length) c47), (4, .pointer (some ⟨w13.heap.size, 0, none⟩)), (3, .bool true)]) ∧ (Ext w w_) ∧ (RdT w_ 0 w.heap.size) ∧ (Bx w_ (w.heap.size) ((s : List Int).map wV) 25) ∧ (Bx w_ (w13.heap.size) ((s : List Int).map wV) 26) ∧ (OwnR w_ (Sx (w35.heap.size) [some (w50.heap.size)]) A46 c47 3 ((lsD (fromW s) 256) : List Int)) ∧ (Bx w_ (w50.heap.size) ((xs : List Int).map wV) 26) ∧ (0 ≤ k) ∧ (OkW xs) ∧ (lsD (fromW xs) 256 = (lsD (fromW s) 256).drop k.toNat) ∧ (k ≤ ((lsD (fromW s) 256).length : Int)) ∧ (xs.length = 4) ∧ (w35.heap.size ≤ w_.heap.size)) _ ⟨0, s, rfl, f88, e80, r81, bx82, bx83, ow84, bx77, (by omega), hs, rfl, (by omega), hls, (by omega)⟩ ?_
 clear f88 f86
 clear r81
 clear bx82
 clear bx83
 clear ow84
 clear bx77
 clear e80
 intro m_ act89 w90 ⟨k, xs, hm92, f93, e91, r94, bx95, bx96, ow97, bx98, i99, hok, hdr, i100, i101, i102⟩
 have szw90 := e91.size
 have := bx95.lt
 have := bx96.lt
 have := bx98.lt
 have := lenW_le xs
 have := ls_len (fromW s) 256
 refine wp_seq ?_
 refine wp_seq ?_
 refine At.start ?_
 refine At.rd f93 4 [[], [], [], []] [(19, .bool (decide ((k : Int) < (((lsD (fromW s) 256).length : Nat) : Int)))), (18, .int .i64 ((((lsD (fromW s) 256).length : Nat) : Int))), (17, .slice A46 ((lsD (fromW s) 256).length) c47), (16, .int .i64 (k))] [] (by kernel_rfl) trivial (fun act104 f103 => ?_)
 clear f93
 refine At.done rfl ?_
 refine t_n ?_
 have f105 := f103.sub (r := [(19, .bool (decide ((k : Int) < (((lsD (fromW s) 256).length : Nat) : Int)))), (7, .int .i64 (k)), (6, .pointer (some ⟨w50.heap.size, 0, none⟩)), (5, .slice A46 ((lsD (fromW s) 256).length) c47), (4, .pointer (some ⟨w13.heap.size, 0, none⟩)), (3, .bool true)]) ⟨rfl, rfl, rfl, rfl, rfl, rfl, trivial⟩
 clear f103
 refine cond_S f105 (t := decide ((k : Int) < (((lsD (fromW s) 256).length : Nat) : Int))) rfl (fun h106 => ?_) (fun h106 => ?_)
 ·have q107 := of_decide_eq_true h106
  refine wp_skip ?_
  refine t_n ?_
  have f108 := f105.sub (r := [(7, .int .i64 (k)), (6, .pointer (some ⟨w50.heap.size, 0, none⟩)), (5, .slice A46 ((lsD (fromW s) 256).length) c47), (4, .pointer (some ⟨w13.heap.size, 0, none⟩)), (3, .bool true)]) ⟨rfl, rfl, rfl, rfl, rfl, trivial⟩
  clear f105
  refine wp_seq ?_
  refine wp_block ?_
  refine wp_seq ?_
  refine At.start ?_
  refine At.rd f108 1 [[.cs ((xs : List Int).map wV)]] [(22, .agg ((xs : List Int).map wV).toArray)] [(((xs : List Int).map wV).length = 4), (∀ (j : Nat) (v : Value), ((xs : List Int).map wV)[j]? = some v → w90.cell? ((⟨w50.heap.size, 0, none⟩ : Addr).add j) = some v)] (by kernel_rfl) ⟨(by simp only [List.length_map, List.length_set, List.length_replicate, List.length_cons, List.length_nil]; first | done | assumption | exact from_len _ | exact of_len _ | exact ofZ_len _ | exact (ofW_ok _).1 | exact (fullW_W _).1 | exact (okW_with (by assumption)).1 | exact (okW_less (by assumption)).1 | exact put_len (from_len _) | exact orD_len _ _ | exact andD_len _ _ | exact minusD_len _ _ | exact fullD_len _ | (refine okLen ?_; (repeat (first | assumption | exact ofW_ok _ | exact fullW_W _ | apply okW_with | apply okW_less | refine okW_orS ?_ ?_ | refine okW_andS ?_ ?_ | refine okW_minusS ?_ ?_)); done) | omega | rfl), bx98.whole, trivial⟩ (fun act110 f109 => ?_)
  clear f108
  refine At.call f109 22 #[.agg ((xs : List Int).map wV).toArray] (some 23) (by kernel_rfl) (least_any (s := xs) (by repeat (first | assumption | exact ofW_ok _ | exact fullW_W _ | exact wordsD_W _ | exact okW_0 | exact okW_00 | apply okW_orS | apply okW_andS | apply okW_minusS | apply okW_with | apply okW_less | apply okW_or | apply okW_and | apply okW_minus | (apply okW_lit <;> exact ⟨by omega, by omega⟩))) (r94.wide (Nat.zero_le _) (by omega))) ?_
  rintro e_ w111 ⟨rfl, he⟩
  have := leastD_b (fromW xs)
  refine ⟨_, rfl, _, rfl, fun act112 f113 => ?_⟩
  clear f109
  have g114 := gr_ext he
  have szw111 := g114.size
  have e115 := e91.gr g114 no_row
  clear e91
  have r116 := r94.gr g114 (fun _ h => by cases h)
  clear r94
  have bx117 := bx95.gr g114 (by simp)
  clear bx95
  have bx118 := bx96.gr g114 (by simp)
  clear bx96
  have ow119 := ow97.gr g114 (fun _ _ h => by cases h)
  clear ow97
  have bx120 := bx98.gr g114 (by simp)
  clear bx98
  clear g114 he
  refine At.rd f113 1 [[]] [(8, .int .i64 (leastD (fromW xs)))] [] (by kernel_rfl) trivial (fun act122 f121 => ?_)
  clear f113
  refine At.done rfl ?_
  refine t_n ?_
  have f123 := f121.sub (r := [(8, .int .i64 (leastD (fromW xs))), (7, .int .i64 (k)), (6, .pointer (some ⟨w50.heap.size, 0, none⟩)), (5, .slice A46 ((lsD (fromW s) 256).length) c47), (4, .pointer (some ⟨w13.heap.size, 0, none⟩)), (3, .bool true)]) ⟨rfl, rfl, rfl, rfl, rfl, rfl, trivial⟩
  clear f121
  refine wp_seq ?_
  refine At.start ?_
  refine At.rd f123 2 [[.cs ((xs : List Int).map wV)], [.cs ((s : List Int).map wV)]] [(25, .agg ((s : List Int).map wV).toArray), (24, .agg ((xs : List Int).map wV).toArray)] [(((xs : List Int).map wV).length = 4), (∀ (j : Nat) (v : Value), ((xs : List Int).map wV)[j]? = some v → w111.cell? ((⟨w50.heap.size, 0, none⟩ : Addr).add j) = some v), (((s : List Int).map wV).length = 4), (∀ (j : Nat) (v : Value), ((s : List Int).map wV)[j]? = some v → w111.cell? ((⟨w13.heap.size, 0, none⟩ : Addr).add j) = some v)] (by kernel_rfl) ⟨(by simp only [List.length_map, List.length_set, List.length_replicate, List.length_cons, List.length_nil]; first | done | assumption | exact from_len _ | exact of_len _ | exact ofZ_len _ | exact (ofW_ok _).1 | exact (fullW_W _).1 | exact (okW_with (by assumption)).1 | exact (okW_less (by assumption)).1 | exact put_len (from_len _) | exact orD_len _ _ | exact andD_len _ _ | exact minusD_len _ _ | exact fullD_len _ | (refine okLen ?_; (repeat (first | assumption | exact ofW_ok _ | exact fullW_W _ | apply okW_with | apply okW_less | refine okW_orS ?_ ?_ | refine okW_andS ?_ ?_ | refine okW_minusS ?_ ?_)); done) | omega | rfl), bx120.whole, (by simp only [List.length_map, List.length_set, List.length_replicate, List.length_cons, List.length_nil]; first | done | assumption | exact from_len _ | exact of_len _ | exact ofZ_len _ | exact (ofW_ok _).1 | exact (fullW_W _).1 | exact (okW_with (by assumption)).1 | exact (okW_less (by assumption)).1 | exact put_len (from_len _) | exact orD_len _ _ | exact andD_len _ _ | exact minusD_len _ _ | exact fullD_len _ | (refine okLen ?_; (repeat (first | assumption | exact ofW_ok _ | exact fullW_W _ | apply okW_with | apply okW_less | refine okW_orS ?_ ?_ | refine okW_andS ?_ ?_ | refine okW_minusS ?_ ?_)); done) | omega | rfl), bx118.whole, trivial⟩ (fun act125 f124 => ?_)
  clear f123
  refine At.call f124 28 #[.agg ((xs : List Int).map wV).toArray, .agg ((s : List Int).map wV).toArray] (some 26) (by kernel_rfl) ((in_any (s := xs) (t := s) (by repeat (first | assumption | exact ofW_ok _ | exact fullW_W _ | exact wordsD_W _ | exact okW_0 | exact okW_00 | apply okW_orS | apply okW_andS | apply okW_minusS | apply okW_with | apply okW_less | apply okW_or | apply okW_and | apply okW_minus | (apply okW_lit <;> exact ⟨by omega, by omega⟩))) (by repeat (first | assumption | exact ofW_ok _ | exact fullW_W _ | exact wordsD_W _ | exact okW_0 | exact okW_00 | apply okW_orS | apply okW_andS | apply okW_minusS | apply okW_with | apply okW_less | apply okW_or | apply okW_and | apply okW_minus | (apply okW_lit <;> exact ⟨by omega, by omega⟩)))).mono (R' := fun e w' => e = .returned (.bool true) ∧ Ext _ w') (fun e_ w_ h_ => by rw [show (inW xs s : Bool) = true from tk_in hs hok hdr] at h_; exact h_)) ?_
  rintro e_ w126 ⟨rfl, he⟩
  refine ⟨_, rfl, _, rfl, fun act127 f128 => ?_⟩
  clear f124
  have g129 := gr_ext he
  have szw126 := g129.size
  have e130 := e115.gr g129 no_row
  clear e115
  have r131 := r116.gr g129 (fun _ h => by cases h)
  clear r116
  have bx132 := bx117.gr g129 (by simp)
  clear bx117
  have bx133 := bx118.gr g129 (by simp)
  clear bx118
  have ow134 := ow119.gr g129 (fun _ _ h => by cases h)
  clear ow119
  have bx135 := bx120.gr g129 (by simp)
  clear bx120
  clear g129 he
  refine At.rd f128 1 [[]] [(9, .bool true)] [] (by kernel_rfl) trivial (fun act137 f136 => ?_)
  clear f128
  refine At.done rfl ?_
  refine t_n ?_
  have f138 := f136.sub (r := [(9, .bool true), (8, .int .i64 (leastD (fromW xs))), (7, .int .i64 (k)), (6, .pointer (some ⟨w50.heap.size, 0, none⟩)), (5, .slice A46 ((lsD (fromW s) 256).length) c47), (4, .pointer (some ⟨w13.heap.size, 0, none⟩)), (3, .bool true)]) ⟨rfl, rfl, rfl, rfl, rfl, rfl, rfl, trivial⟩
  clear f136
  refine wp_seq ?_
  refine wp_seq ?_
  refine At.start ?_
  obtain ⟨ad139, hA140, hb143, hc142, hc141⟩ := ow134.get (k) (by omega) (by omega) (sz := 1) rfl
  refine At.rd f138 8 [[], [], [], [.ad ad139], [.ld (.int .i64 (gI (lsD (fromW s) 256) k))], [.as_ (.bool false)], [], [.cs ((xs : List Int).map wV)]] [(34, .agg ((xs : List Int).map wV).toArray), (33, .bool false), (32, .bool false), (31, .int .i64 (gI (lsD (fromW s) 256) k)), (30, .pointer (some (ad139.add ((k : Int).toNat * 1)))), (29, .int .i64 (k)), (28, .slice A46 ((lsD (fromW s) 256).length) c47), (27, .int .i64 (leastD (fromW xs)))] [(A46 = some ad139), (0 ≤ (k : Int)), ((k : Int) < ((lsD (fromW s) 256).length : Nat)), (w126.cell? (ad139.add ((k : Int).toNat * 1)) = some (.int .i64 (gI (lsD (fromW s) 256) k))), ((.bool ((leastD (fromW xs) : Int) != (gI (lsD (fromW s) 256) k)) : Value) = .bool false), (((xs : List Int).map wV).length = 4), (∀ (j : Nat) (v : Value), ((xs : List Int).map wV)[j]? = some v → w126.cell? ((⟨w50.heap.size, 0, none⟩ : Addr).add j) = some v)] (by kernel_rfl) ⟨hA140, (by omega), (by omega), hc142, (congrArg Value.bool (bneF (tk_least hdr (by omega) (by omega)))), (by simp only [List.length_map, List.length_set, List.length_replicate, List.length_cons, List.length_nil]; first | done | assumption | exact from_len _ | exact of_len _ | exact ofZ_len _ | exact (ofW_ok _).1 | exact (fullW_W _).1 | exact (okW_with (by assumption)).1 | exact (okW_less (by assumption)).1 | exact put_len (from_len _) | exact orD_len _ _ | exact andD_len _ _ | exact minusD_len _ _ | exact fullD_len _ | (refine okLen ?_; (repeat (first | assumption | exact ofW_ok _ | exact fullW_W _ | apply okW_with | apply okW_less | refine okW_orS ?_ ?_ | refine okW_andS ?_ ?_ | refine okW_minusS ?_ ?_)); done) | omega | rfl), bx135.whole, trivial⟩ (fun act145 f144 => ?_)
  clear f138
  refine At.call f144 20 #[.agg ((xs : List Int).map wV).toArray] (some 35) (by kernel_rfl) (len_any (s := xs) (by repeat (first | assumption | exact ofW_ok _ | exact fullW_W _ | exact wordsD_W _ | exact okW_0 | exact okW_00 | apply okW_orS | apply okW_andS | apply okW_minusS | apply okW_with | apply okW_less | apply okW_or | apply okW_and | apply okW_minus | (apply okW_lit <;> exact ⟨by omega, by omega⟩)))) ?_
  rintro e_ w146 ⟨rfl, he⟩
  have := lenW_le xs
  refine ⟨_, rfl, _, rfl, fun act147 f148 => ?_⟩
  clear f144
  have g149 := gr_ext he
  have szw146 := g149.size
  have e150 := e130.gr g149 no_row
  clear e130
  have r151 := r131.gr g149 (fun _ h => by cases h)
  clear r131
  have bx152 := bx132.gr g149 (by simp)
  clear bx132
  have bx153 := bx133.gr g149 (by simp)
  clear bx133
  have ow154 := ow134.gr g149 (fun _ _ h => by cases h)
  clear ow134
  have bx155 := bx135.gr g149 (by simp)
  clear bx135
  clear g149 he
  refine At.rd f148 10 [[], [], [], [.as_ (.int .i64 ((((lsD (fromW s) 256).length : Nat) : Int) - k))], [.as_ (.bool false)], [], [], [], [], []] [(45, .bool false), (44, .bool false), (43, .bool true), (42, .bool false), (41, .bool false), (40, .bool false), (39, .int .i64 ((((lsD (fromW s) 256).length : Nat) : Int) - k)), (38, .int .i64 (k)), (37, .int .i64 ((((lsD (fromW s) 256).length : Nat) : Int))), (36, .slice A46 ((lsD (fromW s) 256).length) c47)] [((.int .i64 (IntKind.i64.wrap ((((lsD (fromW s) 256).length : Nat) : Int) - k)) : Value) = .int .i64 ((((lsD (fromW s) 256).length : Nat) : Int) - k)), ((.bool ((lenW xs : Int) != ((((lsD (fromW s) 256).length : Nat) : Int) - k)) : Value) = .bool false)] (by kernel_rfl) ⟨(w64 (by omega) (by omega)), (congrArg Value.bool (bneF (tk_len hdr (by omega) (by omega)))), trivial⟩ (fun act157 f156 => ?_)
  clear f148
  refine At.done rfl ?_
  refine t_n ?_
  have f158 := f156.sub (r := [(45, .bool false), (44, .bool false), (43, .bool true), (40, .bool false), (39, .int .i64 ((((lsD (fromW s) 256).length : Nat) : Int) - k)), (38, .int .i64 (k)), (37, .int .i64 ((((lsD (fromW s) 256).length : Nat) : Int))), (36, .slice A46 ((lsD (fromW s) 256).length) c47), (35, .int .i64 (lenW xs)), (34, .agg ((xs : List Int).map wV).toArray), (8, .int .i64 (leastD (fromW xs))), (7, .int .i64 (k)), (6, .pointer (some ⟨w50.heap.size, 0, none⟩)), (5, .slice A46 ((lsD (fromW s) 256).length) c47), (4, .pointer (some ⟨w13.heap.size, 0, none⟩)), (3, .bool true)]) ⟨rfl, rfl, rfl, rfl, rfl, rfl, rfl, rfl, rfl, rfl, rfl, rfl, rfl, rfl, rfl, rfl, trivial⟩
  clear f156
  refine cond_F f158 rfl ?_
  refine wp_skip ?_
  refine t_n ?_
  have f159 := f158.sub (r := [(44, .bool false), (43, .bool true), (40, .bool false), (39, .int .i64 ((((lsD (fromW s) 256).length : Nat) : Int) - k)), (38, .int .i64 (k)), (37, .int .i64 ((((lsD (fromW s) 256).length : Nat) : Int))), (36, .slice A46 ((lsD (fromW s) 256).length) c47), (35, .int .i64 (lenW xs)), (34, .agg ((xs : List Int).map wV).toArray), (8, .int .i64 (leastD (fromW xs))), (7, .int .i64 (k)), (6, .pointer (some ⟨w50.heap.size, 0, none⟩)), (5, .slice A46 ((lsD (fromW s) 256).length) c47), (4, .pointer (some ⟨w13.heap.size, 0, none⟩)), (3, .bool true)]) ⟨rfl, rfl, rfl, rfl, rfl, rfl, rfl, rfl, rfl, rfl, rfl, rfl, rfl, rfl, rfl, trivial⟩
  clear f158
  refine At.start ?_
  refine At.rd f159 2 [[.cs ((xs : List Int).map wV)], []] [(47, .int .i64 (leastD (fromW xs))), (46, .agg ((xs : List Int).map wV).toArray)] [(((xs : List Int).map wV).length = 4), (∀ (j : Nat) (v : Value), ((xs : List Int).map wV)[j]? = some v → w146.cell? ((⟨w50.heap.size, 0, none⟩ : Addr).add j) = some v)] (by kernel_rfl) ⟨(by simp only [List.length_map, List.length_set, List.length_replicate, List.length_cons, List.length_nil]; first | done | assumption | exact from_len _ | exact of_len _ | exact ofZ_len _ | exact (ofW_ok _).1 | exact (fullW_W _).1 | exact (okW_with (by assumption)).1 | exact (okW_less (by assumption)).1 | exact put_len (from_len _) | exact orD_len _ _ | exact andD_len _ _ | exact minusD_len _ _ | exact fullD_len _ | (refine okLen ?_; (repeat (first | assumption | exact ofW_ok _ | exact fullW_W _ | apply okW_with | apply okW_less | refine okW_orS ?_ ?_ | refine okW_andS ?_ ?_ | refine okW_minusS ?_ ?_)); done) | omega | rfl), bx155.whole, trivial⟩ (fun act161 f160 => ?_)
  clear f159
  refine At.call f160 30 #[.agg ((xs : List Int).map wV).toArray, .int .i64 (leastD (fromW xs))] (some 48) (by kernel_rfl) (less_any (s := xs) (n := leastD (fromW xs)) (by repeat (first | assumption | exact ofW_ok _ | exact fullW_W _ | exact wordsD_W _ | exact okW_0 | exact okW_00 | apply okW_orS | apply okW_andS | apply okW_minusS | apply okW_with | apply okW_less | apply okW_or | apply okW_and | apply okW_minus | (apply okW_lit <;> exact ⟨by omega, by omega⟩)))) ?_
  rintro e_ w162 ⟨rfl, he⟩
  refine ⟨_, rfl, _, rfl, fun act163 f164 => ?_⟩
  clear f160
  have g165 := gr_ext he
  have szw162 := g165.size
  have e166 := e150.gr g165 no_row
  clear e150
  have r167 := r151.gr g165 (fun _ h => by cases h)
  clear r151
  have bx168 := bx152.gr g165 (by simp)
  clear bx152
  have bx169 := bx153.gr g165 (by simp)
  clear bx153
  have ow170 := ow154.gr g165 (fun _ _ h => by cases h)
  clear ow154
  have bx171 := bx155.gr g165 (by simp)
  clear bx155
  clear g165 he
  refine At.act f164 (storeBlk (t := 26) (b := w50.heap.size) (n := 4) (cs' := ((lessW xs (leastD (fromW xs)) : List Int).map wV)) (by kernel_rfl) (by kernel_rfl) ((List.length_map _).trans (okLen (okW_less (by assumption)))) oneW_ ((show ((lessW xs (leastD (fromW xs)) : List Int).map wV).length = 4 from ((List.length_map _).trans (okLen (okW_less (by assumption))))).trans (show ((xs : List Int).map wV).length = 4 from (by simp only [List.length_map, List.length_set, List.length_replicate, List.length_cons, List.length_nil]; first | done | assumption | exact from_len _ | exact of_len _ | exact ofZ_len _ | exact (ofW_ok _).1 | exact (fullW_W _).1 | exact (okW_with (by assumption)).1 | exact (okW_less (by assumption)).1 | exact put_len (from_len _) | exact orD_len _ _ | exact andD_len _ _ | exact minusD_len _ _ | exact fullD_len _ | (refine okLen ?_; (repeat (first | assumption | exact ofW_ok _ | exact fullW_W _ | apply okW_with | apply okW_less | refine okW_orS ?_ ?_ | refine okW_andS ?_ ?_ | refine okW_minusS ?_ ?_)); done) | omega | rfl)).symm) bx171) ?_
  rintro d_ v_ w172 ⟨rfl, g173, bx174⟩
  refine ⟨_, rfl, fun act176 f175 => ?_⟩
  clear f164
  have szw172 := g173.size
  have e177 := e166.gr g173 (fun k h => by injection h; omega)
  clear e166
  have r178 := r167.gr g173 (fun k h => by injection h; omega)
  clear r167
  have bx179 := bx168.gr g173 (fun h => by injection h; omega)
  clear bx168
  have bx180 := bx169.gr g173 (fun h => by injection h; omega)
  clear bx169
  have ow181 := ow170.gr g173 (fun k hk => hk.1)
  clear ow170
  clear bx171 g173
  refine At.done rfl ?_
  refine b_n ?_
  refine t_n ?_
  have f182 := f175.sub (r := [(44, .bool false), (43, .bool true), (40, .bool false), (39, .int .i64 ((((lsD (fromW s) 256).length : Nat) : Int) - k)), (38, .int .i64 (k)), (37, .int .i64 ((((lsD (fromW s) 256).length : Nat) : Int))), (36, .slice A46 ((lsD (fromW s) 256).length) c47), (35, .int .i64 (lenW xs)), (34, .agg ((xs : List Int).map wV).toArray), (7, .int .i64 (k)), (6, .pointer (some ⟨w50.heap.size, 0, none⟩)), (5, .slice A46 ((lsD (fromW s) 256).length) c47), (4, .pointer (some ⟨w13.heap.size, 0, none⟩)), (3, .bool true)]) ⟨rfl, rfl, rfl, rfl, rfl, rfl, rfl, rfl, rfl, rfl, rfl, rfl, rfl, rfl, trivial⟩
  clear f175
  refine At.start ?_
  refine At.rd f182 3 [[], [.as_ (.int .i64 (k + 1))], []] [(7, .int .i64 (k + 1)), (21, .int .i64 (k + 1)), (20, .int .i64 (k))] [((.int .i64 (IntKind.i64.wrap (k + 1)) : Value) = .int .i64 (k + 1))] (by kernel_rfl) ⟨(w64 (by omega) (by omega)), trivial⟩ (fun act184 f183 => ?_)
  clear f182
  refine At.done rfl ?_
  refine t_n ?_
  have f185 := f183.sub (r := [(7, .int .i64 (k + 1)), (6, .pointer (some ⟨w50.heap.size, 0, none⟩)), (5, .slice A46 ((lsD (fromW s) 256).length) c47), (4, .pointer (some ⟨w13.heap.size, 0, none⟩)), (3, .bool true)]) ⟨rfl, rfl, rfl, rfl, rfl, trivial⟩
  exact ⟨_, (by omega), (k + 1), lessW xs (leastD (fromW xs)), rfl, f185, e177, r178, bx179, bx180, ow181, bx174, (by omega), (okW_less hok), (tk_next hok hdr (by omega) (by omega)), (by omega), (okW_less hok).1, (by omega)⟩
 ·have q186 := of_decide_eq_false h106
  refine wp_exit ?_
  refine t_e ?_
  refine t_e ?_
  refine b_e ?_
  refine t_n ?_
  have f187 := f105.sub (r := [(6, .pointer (some ⟨w50.heap.size, 0, none⟩)), (3, .bool true)]) ⟨rfl, rfl, trivial⟩
  clear f105
  refine wp_seq ?_
  refine At.start ?_
  refine At.rd f187 1 [[.cs ((xs : List Int).map wV)]] [(49, .agg ((xs : List Int).map wV).toArray)] [(((xs : List Int).map wV).length = 4), (∀ (j : Nat) (v : Value), ((xs : List Int).map wV)[j]? = some v → w90.cell? ((⟨w50.heap.size, 0, none⟩ : Addr).add j) = some v)] (by kernel_rfl) ⟨(by simp only [List.length_map, List.length_set, List.length_replicate, List.length_cons, List.length_nil]; first | done | assumption | exact from_len _ | exact of_len _ | exact ofZ_len _ | exact (ofW_ok _).1 | exact (fullW_W _).1 | exact (okW_with (by assumption)).1 | exact (okW_less (by assumption)).1 | exact put_len (from_len _) | exact orD_len _ _ | exact andD_len _ _ | exact minusD_len _ _ | exact fullD_len _ | (refine okLen ?_; (repeat (first | assumption | exact ofW_ok _ | exact fullW_W _ | apply okW_with | apply okW_less | refine okW_orS ?_ ?_ | refine okW_andS ?_ ?_ | refine okW_minusS ?_ ?_)); done) | omega | rfl), bx98.whole, trivial⟩ (fun act189 f188 => ?_)
  clear f187
  refine At.call f188 19 #[.agg ((xs : List Int).map wV).toArray] (some 50) (by kernel_rfl) (list_any (s := xs) (by repeat (first | assumption | exact ofW_ok _ | exact fullW_W _ | exact wordsD_W _ | exact okW_0 | exact okW_00 | apply okW_orS | apply okW_andS | apply okW_minusS | apply okW_with | apply okW_less | apply okW_or | apply okW_and | apply okW_minus | (apply okW_lit <;> exact ⟨by omega, by omega⟩))) (r94.wide (Nat.zero_le _) (by omega))) ?_
  rintro e_ w194 ⟨A190, c191, rfl, he, ow192⟩
  have := ls_len (fromW xs) 256
  refine ⟨_, rfl, _, rfl, fun act195 f196 => ?_⟩
  clear f188
  have g197 := gr_ext he
  have lt198 := ow97.lt
  have szw194 := g197.size
  have e199 := e91.gr g197 no_row
  clear e91
  have r200 := r94.gr g197 (fun _ h => by cases h)
  clear r94
  have bx201 := bx95.gr g197 (by simp)
  clear bx95
  have bx202 := bx96.gr g197 (by simp)
  clear bx96
  have ow203 : OwnR w194 (Sx (w35.heap.size) [obk (A190), some (w50.heap.size)]) A46 c47 3 ((lsD (fromW s) 256) : List Int) := ow97.grA g197 (fun _ _ h => by cases h) (fun k hk hs => ⟨(fun e => by have := ow192.ge _ e; omega), hs.1, hs.2⟩)
  clear ow97
  have bx204 := bx98.gr g197 (by simp)
  clear bx98
  have ow205 : OwnR w194 (Sx (w90.heap.size) [obk (A46)]) A190 c191 3 ((lsD (fromW xs) 256) : List Int) := ow192.imp (fun g _ hs => ⟨(fun e => by have := lt198 _ e; have := Sx_base hs; omega), hs⟩)
  clear ow192
  clear lt198
  clear g197 he
  refine At.rd f196 1 [[]] [(10, .slice A190 ((lsD (fromW xs) 256).length) c191)] [] (by kernel_rfl) trivial (fun act207 f206 => ?_)
  clear f196
  refine At.done rfl ?_
  refine t_n ?_
  have f208 := f206.sub (r := [(10, .slice A190 ((lsD (fromW xs) 256).length) c191), (6, .pointer (some ⟨w50.heap.size, 0, none⟩)), (3, .bool true)]) ⟨rfl, rfl, rfl, trivial⟩
  clear f206
  refine wp_seq ?_
  refine At.start ?_
  refine At.rd f208 8 [[], [], [.cs ((xs : List Int).map wV)], [], [.cs [wV (gI xs 0), wV (gI xs 1), wV (gI xs 2), wV (gI xs 3)], .cs [wV (gI ([0, 0, 0, 0]) 0), wV (gI ([0, 0, 0, 0]) 1), wV (gI ([0, 0, 0, 0]) 2), wV (gI ([0, 0, 0, 0]) 3)], .as_ (.bool true)], [], [], [.cs ((xs : List Int).map wV)]] [(58, .agg ((xs : List Int).map wV).toArray), (57, .bool true), (56, .bool true), (55, .bool true), (54, .agg (([0, 0, 0, 0] : List Int).map wV).toArray), (53, .agg ((xs : List Int).map wV).toArray), (52, .bool true), (51, .bool true)] [(((xs : List Int).map wV).length = 4), (∀ (j : Nat) (v : Value), ((xs : List Int).map wV)[j]? = some v → w194.cell? ((⟨w50.heap.size, 0, none⟩ : Addr).add j) = some v), (((xs : List Int).map wV).toArray = ([wV (gI xs 0), wV (gI xs 1), wV (gI xs 2), wV (gI xs 3)] : List Value).toArray), ((([0, 0, 0, 0] : List Int).map wV).toArray = ([wV (gI ([0, 0, 0, 0]) 0), wV (gI ([0, 0, 0, 0]) 1), wV (gI ([0, 0, 0, 0]) 2), wV (gI ([0, 0, 0, 0]) 3)] : List Value).toArray), ((.bool ((((gI xs 0 : Int) == gI ([0, 0, 0, 0]) 0) && (((gI xs 1 : Int) == gI ([0, 0, 0, 0]) 1) && (((gI xs 2 : Int) == gI ([0, 0, 0, 0]) 2) && (((gI xs 3 : Int) == gI ([0, 0, 0, 0]) 3) && true))))) : Value) = .bool true), (((xs : List Int).map wV).length = 4), (∀ (j : Nat) (v : Value), ((xs : List Int).map wV)[j]? = some v → w194.cell? ((⟨w50.heap.size, 0, none⟩ : Addr).add j) = some v)] (by kernel_rfl) ⟨(by simp only [List.length_map, List.length_set, List.length_replicate, List.length_cons, List.length_nil]; first | done | assumption | exact from_len _ | exact of_len _ | exact ofZ_len _ | exact (ofW_ok _).1 | exact (fullW_W _).1 | exact (okW_with (by assumption)).1 | exact (okW_less (by assumption)).1 | exact put_len (from_len _) | exact orD_len _ _ | exact andD_len _ _ | exact minusD_len _ _ | exact fullD_len _ | (refine okLen ?_; (repeat (first | assumption | exact ofW_ok _ | exact fullW_W _ | apply okW_with | apply okW_less | refine okW_orS ?_ ?_ | refine okW_andS ?_ ?_ | refine okW_minusS ?_ ?_)); done) | omega | rfl), bx204.whole, (map4 (by first | assumption | exact (okW_with (by assumption)).1 | exact (okW_less (by assumption)).1 | exact (ofW_ok _).1 | exact (fullW_W _).1 | (refine okLen ?_; (repeat (first | assumption | exact ofW_ok _ | exact fullW_W _ | apply okW_with | apply okW_less | refine okW_orS ?_ ?_ | refine okW_andS ?_ ?_ | refine okW_minusS ?_ ?_)); done) | rfl | omega | (simp only [List.length_set]; first | done | assumption | omega) | exact lenW4 _ (by assumption))), (map4 (okLen okW_00)), (Eq.trans (b := (.bool (decide ((xs : List Int) = ([0, 0, 0, 0]))) : Value)) (congrArg (fun b => Value.bool b) (w4_eq (by first | assumption | exact (okW_with (by assumption)).1 | exact (okW_less (by assumption)).1 | exact (ofW_ok _).1 | exact (fullW_W _).1 | (refine okLen ?_; (repeat (first | assumption | exact ofW_ok _ | exact fullW_W _ | apply okW_with | apply okW_less | refine okW_orS ?_ ?_ | refine okW_andS ?_ ?_ | refine okW_minusS ?_ ?_)); done) | rfl | omega | (simp only [List.length_set]; first | done | assumption | omega) | exact lenW4 _ (by assumption)) (okLen okW_00))) (congrArg Value.bool (decide_eq_true (tk_end hok hdr (by omega))))), (by simp only [List.length_map, List.length_set, List.length_replicate, List.length_cons, List.length_nil]; first | done | assumption | exact from_len _ | exact of_len _ | exact ofZ_len _ | exact (ofW_ok _).1 | exact (fullW_W _).1 | exact (okW_with (by assumption)).1 | exact (okW_less (by assumption)).1 | exact put_len (from_len _) | exact orD_len _ _ | exact andD_len _ _ | exact minusD_len _ _ | exact fullD_len _ | (refine okLen ?_; (repeat (first | assumption | exact ofW_ok _ | exact fullW_W _ | apply okW_with | apply okW_less | refine okW_orS ?_ ?_ | refine okW_andS ?_ ?_ | refine okW_minusS ?_ ?_)); done) | omega | rfl), bx204.whole, trivial⟩ (fun act210 f209 => ?_)
  clear f208
  refine At.call f209 22 #[.agg ((xs : List Int).map wV).toArray] (some 59) (by kernel_rfl) (least_any (s := xs) (by repeat (first | assumption | exact ofW_ok _ | exact fullW_W _ | exact wordsD_W _ | exact okW_0 | exact okW_00 | apply okW_orS | apply okW_andS | apply okW_minusS | apply okW_with | apply okW_less | apply okW_or | apply okW_and | apply okW_minus | (apply okW_lit <;> exact ⟨by omega, by omega⟩))) (r200.wide (Nat.zero_le _) (by omega))) ?_
  rintro e_ w211 ⟨rfl, he⟩
  have := leastD_b (fromW xs)
  refine ⟨_, rfl, _, rfl, fun act212 f213 => ?_⟩
  clear f209
  have g214 := gr_ext he
  have szw211 := g214.size
  have e215 := e199.gr g214 no_row
  clear e199
  have r216 := r200.gr g214 (fun _ h => by cases h)
  clear r200
  have bx217 := bx201.gr g214 (by simp)
  clear bx201
  have bx218 := bx202.gr g214 (by simp)
  clear bx202
  have ow219 := ow203.gr g214 (fun _ _ h => by cases h)
  clear ow203
  have bx220 := bx204.gr g214 (by simp)
  clear bx204
  have ow221 := ow205.gr g214 (fun _ _ h => by cases h)
  clear ow205
  clear g214 he
  refine At.rd f213 4 [[.as_ (.bool true)], [], [], [.cs ((xs : List Int).map wV)]] [(63, .agg ((xs : List Int).map wV).toArray), (62, .bool true), (61, .bool true), (60, .bool true)] [((.bool ((leastD (fromW xs) : Int) == (-1)) : Value) = .bool true), (((xs : List Int).map wV).length = 4), (∀ (j : Nat) (v : Value), ((xs : List Int).map wV)[j]? = some v → w211.cell? ((⟨w50.heap.size, 0, none⟩ : Addr).add j) = some v)] (by kernel_rfl) ⟨(congrArg Value.bool (beqT (none_least (tk_none hdr (by omega))))), (by simp only [List.length_map, List.length_set, List.length_replicate, List.length_cons, List.length_nil]; first | done | assumption | exact from_len _ | exact of_len _ | exact ofZ_len _ | exact (ofW_ok _).1 | exact (fullW_W _).1 | exact (okW_with (by assumption)).1 | exact (okW_less (by assumption)).1 | exact put_len (from_len _) | exact orD_len _ _ | exact andD_len _ _ | exact minusD_len _ _ | exact fullD_len _ | (refine okLen ?_; (repeat (first | assumption | exact ofW_ok _ | exact fullW_W _ | apply okW_with | apply okW_less | refine okW_orS ?_ ?_ | refine okW_andS ?_ ?_ | refine okW_minusS ?_ ?_)); done) | omega | rfl), bx220.whole, trivial⟩ (fun act223 f222 => ?_)
  clear f213
  refine At.call f222 20 #[.agg ((xs : List Int).map wV).toArray] (some 64) (by kernel_rfl) (len_any (s := xs) (by repeat (first | assumption | exact ofW_ok _ | exact fullW_W _ | exact wordsD_W _ | exact okW_0 | exact okW_00 | apply okW_orS | apply okW_andS | apply okW_minusS | apply okW_with | apply okW_less | apply okW_or | apply okW_and | apply okW_minus | (apply okW_lit <;> exact ⟨by omega, by omega⟩)))) ?_
  rintro e_ w224 ⟨rfl, he⟩
  have := lenW_le xs
  refine ⟨_, rfl, _, rfl, fun act225 f226 => ?_⟩
  clear f222
  have g227 := gr_ext he
  have szw224 := g227.size
  have e228 := e215.gr g227 no_row
  clear e215
  have r229 := r216.gr g227 (fun _ h => by cases h)
  clear r216
  have bx230 := bx217.gr g227 (by simp)
  clear bx217
  have bx231 := bx218.gr g227 (by simp)
  clear bx218
  have ow232 := ow219.gr g227 (fun _ _ h => by cases h)
  clear ow219
  have bx233 := bx220.gr g227 (by simp)
  clear bx220
  have ow234 := ow221.gr g227 (fun _ _ h => by cases h)
  clear ow221
  clear g227 he
  refine At.rd f226 8 [[.as_ (.bool true)], [], [], [], [], [.as_ (.bool true)], [], []] [(2, .bool true), (71, .bool true), (70, .bool true), (69, .int .i64 ((((lsD (fromW xs) 256).length : Nat) : Int))), (68, .slice A190 ((lsD (fromW xs) 256).length) c191), (67, .bool true), (66, .bool true), (65, .bool true)] [((.bool ((lenW xs : Int) == 0) : Value) = .bool true), ((.bool (((((lsD (fromW xs) 256).length : Nat) : Int) : Int) == 0) : Value) = .bool true)] (by kernel_rfl) ⟨(congrArg Value.bool (beqT (none_len (tk_none hdr (by omega))))), (congrArg Value.bool (beqT (by rw [tk_none hdr (by omega)]; rfl))), trivial⟩ (fun act236 f235 => ?_)
  clear f226
  refine At.done rfl ?_
  refine t_n ?_
  have f237 := f235.sub (r := [(2, .bool true)]) ⟨rfl, trivial⟩
  clear f235
  refine wp_ret ?_
  refine ret_ f237 [] [.bool true] [] (by kernel_rfl) trivial ?_
  exact ⟨rfl, e228⟩

end Go.Proofs.YtepekncgknlcjaaDoor
