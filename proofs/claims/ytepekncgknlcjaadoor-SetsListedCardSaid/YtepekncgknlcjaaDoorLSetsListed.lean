/-
  A walk of a Go function, printed by a program of this repo. Conditions: what the theorems name.
-/
import Derived.Test.YtepekncgknlcjaaDoorWShown01
import Derived.Test.YtepekncgknlcjaaDoorPureAlg
import Derived.Test.YtepekncgknlcjaaDoorPureWays
set_option linter.unusedVariables false
set_option linter.unusedSimpArgs false
namespace Go.Proofs.YtepekncgknlcjaaDoor
open Go Go.RowKit

attribute [local irreducible] ofZ fromW wordsD ofD ofW lsD lenW lenN fullW withW lessW hasW hasD inW inD leastD putD onI tzI orS andS minusS orD andD minusD fullD emptyD
set_option maxHeartbeats 4000000 in
theorem listed01_any {s : List Int} {Aa : Option Addr} {ca : Nat} {la : List Int} {w : World} (hs : OkW s) (ra : RdI w 0 w.heap.size Aa la) (rT : RdT w 0 w.heap.size) :
    Calls Tryd.prog 4 #[.agg ((s : List Int).map wV).toArray, .slice Aa la.length ca] w fun e w' => e = .returned (.bool true) ∧ Ext w w' := by
 have hls := hs.1
 have hla := ra.len
 refine enter_ (args := [.agg ((s : List Int).map wV).toArray, .slice Aa la.length ca]) Tryd.func4 rfl Tryd.ntmps4 (Nat.le_of_ble_eq_true rfl) (fun act0 f0 => ?_)
 have e0 := Ext.refl w
 refine wp_seq ?_
 refine At.start ?_
 refine At.seq f0 1 [[]] [(2, .pointer (some ⟨w.heap.size, 0, none⟩))] (w.alloc (.cells ((s : List Int).map wV).toArray 25 (0, 0))) [] (by kernel_rfl) trivial (fun act4 w1 hw2 f3 => ?_)
 clear f0
 have g5 := gr_alloc hw2
 have szw1 := g5.size
 have e7 := e0.gr g5 no_row
 clear e0
 have r8 := ra.gr g5 (fun _ h => by cases h)
 clear ra
 have r9 := rT.gr g5 (fun _ h => by cases h)
 clear rT
 have bx10 : Bx w1 (w.heap.size) ((s : List Int).map wV) 25 := Bx.new hw2
 have := bx10.lt
 clear g5 hw2
 refine At.rd f3 1 [[]] [(4, .bool false)] [] (by kernel_rfl) trivial (fun act12 f11 => ?_)
 clear f3
 refine At.done rfl ?_
 refine t_n ?_
 have f13 := f11.sub (r := [(4, .bool false), (2, .pointer (some ⟨w.heap.size, 0, none⟩)), (1, .slice Aa la.length ca)]) ⟨rfl, rfl, rfl, trivial⟩
 clear f11
 refine wp_seq ?_
 refine At.start ?_
 refine At.call f13 12 #[] (some 12) (by kernel_rfl) (shown01_any (r9.wide (Nat.zero_le _) (by omega))) ?_
 rintro e_ w14 ⟨rfl, he⟩
 refine ⟨_, rfl, _, rfl, fun act15 f16 => ?_⟩
 clear f13
 have g17 := gr_ext he
 have szw14 := g17.size
 have e18 := e7.gr g17 no_row
 clear e7
 have r19 := r8.gr g17 (fun _ h => by cases h)
 clear r8
 have r20 := r9.gr g17 (fun _ h => by cases h)
 clear r9
 have bx21 := bx10.gr g17 (by simp)
 clear bx10
 clear g17 he
 refine At.rd f16 1 [[]] [(5, .bool true)] [] (by kernel_rfl) trivial (fun act23 f22 => ?_)
 clear f16
 refine At.done rfl ?_
 refine t_n ?_
 have f24 := f22.sub (r := [(5, .bool true), (4, .bool false), (2, .pointer (some ⟨w.heap.size, 0, none⟩)), (1, .slice Aa la.length ca)]) ⟨rfl, rfl, rfl, rfl, trivial⟩
 clear f22
 refine wp_seq ?_
 refine At.start ?_
 refine At.rd f24 1 [[.cs ((s : List Int).map wV)]] [(13, .agg ((s : List Int).map wV).toArray)] [(((s : List Int).map wV).length = 4), (∀ (j : Nat) (v : Value), ((s : List Int).map wV)[j]? = some v → w14.cell? ((⟨w.heap.size, 0, none⟩ : Addr).add j) = some v)] (by kernel_rfl) ⟨(by simp only [List.length_map, List.length_set, List.length_replicate, List.length_cons, List.length_nil]; first | done | assumption | exact from_len _ | exact of_len _ | exact ofZ_len _ | exact (ofW_ok _).1 | exact (fullW_W _).1 | exact (okW_with (by assumption)).1 | exact (okW_less (by assumption)).1 | exact put_len (from_len _) | exact orD_len _ _ | exact andD_len _ _ | exact minusD_len _ _ | exact fullD_len _ | (refine okLen ?_; (repeat (first | assumption | exact ofW_ok _ | exact fullW_W _ | apply okW_with | apply okW_less | refine okW_orS ?_ ?_ | refine okW_andS ?_ ?_ | refine okW_minusS ?_ ?_)); done) | omega | rfl), bx21.whole, trivial⟩ (fun act26 f25 => ?_)
 clear f24
 refine At.seq f25 1 [[]] [(6, .pointer (some ⟨w14.heap.size, 0, none⟩))] (w14.alloc (.cells ((List.replicate 4 (0 : Int) : List Int).map wV).toArray 26 (0, 0))) [] (by kernel_rfl) trivial (fun act30 w27 hw28 f29 => ?_)
 clear f25
 have g31 := gr_alloc hw28
 have szw27 := g31.size
 have e33 := e18.gr g31 no_row
 clear e18
 have r34 := r19.gr g31 (fun _ h => by cases h)
 clear r19
 have r35 := r20.gr g31 (fun _ h => by cases h)
 clear r20
 have bx36 := bx21.gr g31 (by simp)
 clear bx21
 have bx37 : Bx w27 (w14.heap.size) ((List.replicate 4 (0 : Int) : List Int).map wV) 26 := Bx.new hw28
 have := bx37.lt
 clear g31 hw28
 refine At.act f29 (storeBlk (t := 26) (b := w14.heap.size) (n := 4) (cs' := ((s : List Int).map wV)) (by kernel_rfl) (by kernel_rfl) (by simp only [List.length_map, List.length_set, List.length_replicate, List.length_cons, List.length_nil]; first | done | assumption | exact from_len _ | exact of_len _ | exact ofZ_len _ | exact (ofW_ok _).1 | exact (fullW_W _).1 | exact (okW_with (by assumption)).1 | exact (okW_less (by assumption)).1 | exact put_len (from_len _) | exact orD_len _ _ | exact andD_len _ _ | exact minusD_len _ _ | exact fullD_len _ | (refine okLen ?_; (repeat (first | assumption | exact ofW_ok _ | exact fullW_W _ | apply okW_with | apply okW_less | refine okW_orS ?_ ?_ | refine okW_andS ?_ ?_ | refine okW_minusS ?_ ?_)); done) | omega | rfl) oneW_ ((show ((s : List Int).map wV).length = 4 from (by simp only [List.length_map, List.length_set, List.length_replicate, List.length_cons, List.length_nil]; first | done | assumption | exact from_len _ | exact of_len _ | exact ofZ_len _ | exact (ofW_ok _).1 | exact (fullW_W _).1 | exact (okW_with (by assumption)).1 | exact (okW_less (by assumption)).1 | exact put_len (from_len _) | exact orD_len _ _ | exact andD_len _ _ | exact minusD_len _ _ | exact fullD_len _ | (refine okLen ?_; (repeat (first | assumption | exact ofW_ok _ | exact fullW_W _ | apply okW_with | apply okW_less | refine okW_orS ?_ ?_ | refine okW_andS ?_ ?_ | refine okW_minusS ?_ ?_)); done) | omega | rfl)).trans (show ((List.replicate 4 (0 : Int) : List Int).map wV).length = 4 from (by simp only [List.length_map, List.length_set, List.length_replicate, List.length_cons, List.length_nil]; first | done | assumption | exact from_len _ | exact of_len _ | exact ofZ_len _ | exact (ofW_ok _).1 | exact (fullW_W _).1 | exact (okW_with (by assumption)).1 | exact (okW_less (by assumption)).1 | exact put_len (from_len _) | exact orD_len _ _ | exact andD_len _ _ | exact minusD_len _ _ | exact fullD_len _ | (refine okLen ?_; (repeat (first | assumption | exact ofW_ok _ | exact fullW_W _ | apply okW_with | apply okW_less | refine okW_orS ?_ ?_ | refine okW_andS ?_ ?_ | refine okW_minusS ?_ ?_)); done) | omega | rfl)).symm) bx37) ?_
 rintro d_ v_ w38 ⟨rfl, g39, bx40⟩
 refine ⟨_, rfl, fun act42 f41 => ?_⟩
 clear f29
 have szw38 := g39.size
 have e43 := e33.gr g39 (fun k h => by injection h; omega)
 clear e33
 have r44 := r34.gr g39 (fun k h => by injection h; omega)
 clear r34
 have r45 := r35.gr g39 (fun k h => by injection h; omega)
 clear r35
 have bx46 := bx36.gr g39 (fun h => by injection h; omega)
 clear bx36
 clear bx37 g39
 refine At.done rfl ?_
 refine t_n ?_
 have f47 := f41.sub (r := [(6, .pointer (some ⟨w14.heap.size, 0, none⟩)), (5, .bool true), (4, .bool false), (1, .slice Aa la.length ca)]) ⟨rfl, rfl, rfl, rfl, trivial⟩
 clear f41
 refine wp_seq ?_
 refine At.start ?_
 refine At.rd f47 1 [[.cs ((s : List Int).map wV)]] [(14, .agg ((s : List Int).map wV).toArray)] [(((s : List Int).map wV).length = 4), (∀ (j : Nat) (v : Value), ((s : List Int).map wV)[j]? = some v → w38.cell? ((⟨w14.heap.size, 0, none⟩ : Addr).add j) = some v)] (by kernel_rfl) ⟨(by simp only [List.length_map, List.length_set, List.length_replicate, List.length_cons, List.length_nil]; first | done | assumption | exact from_len _ | exact of_len _ | exact ofZ_len _ | exact (ofW_ok _).1 | exact (fullW_W _).1 | exact (okW_with (by assumption)).1 | exact (okW_less (by assumption)).1 | exact put_len (from_len _) | exact orD_len _ _ | exact andD_len _ _ | exact minusD_len _ _ | exact fullD_len _ | (refine okLen ?_; (repeat (first | assumption | exact ofW_ok _ | exact fullW_W _ | apply okW_with | apply okW_less | refine okW_orS ?_ ?_ | refine okW_andS ?_ ?_ | refine okW_minusS ?_ ?_)); done) | omega | rfl), bx40.whole, trivial⟩ (fun act49 f48 => ?_)
 clear f47
 refine At.call f48 19 #[.agg ((s : List Int).map wV).toArray] (some 15) (by kernel_rfl) (list_any (s := s) (by repeat (first | assumption | exact ofW_ok _ | exact fullW_W _ | exact wordsD_W _ | exact okW_0 | exact okW_00 | apply okW_orS | apply okW_andS | apply okW_minusS | apply okW_with | apply okW_less | apply okW_or | apply okW_and | apply okW_minus | (apply okW_lit <;> exact ⟨by omega, by omega⟩))) (r45.wide (Nat.zero_le _) (by omega))) ?_
 rintro e_ w54 ⟨A50, c51, rfl, he, ow52⟩
 have := ls_len (fromW s) 256
 refine ⟨_, rfl, _, rfl, fun act55 f56 => ?_⟩
 clear f48
 have g57 := gr_ext he
 have szw54 := g57.size
 have e58 := e43.gr g57 no_row
 clear e43
 have r59 := r44.gr g57 (fun _ h => by cases h)
 clear r44
 have r60 := r45.gr g57 (fun _ h => by cases h)
 clear r45
 have bx61 := bx46.gr g57 (by simp)
 clear bx46
 have bx62 := bx40.gr g57 (by simp)
 clear bx40
 clear g57 he
 refine At.rd f56 1 [[]] [(7, .slice A50 ((lsD (fromW s) 256).length) c51)] [] (by kernel_rfl) trivial (fun act64 f63 => ?_)
 clear f56
 refine At.done rfl ?_
 refine t_n ?_
 have f65 := f63.sub (r := [(7, .slice A50 ((lsD (fromW s) 256).length) c51), (6, .pointer (some ⟨w14.heap.size, 0, none⟩)), (5, .bool true), (4, .bool false), (1, .slice Aa la.length ca)]) ⟨rfl, rfl, rfl, rfl, rfl, trivial⟩
 clear f63
 refine wp_seq ?_
 refine wp_seq ?_
 obtain ⟨Cs66, hCs67⟩ : ∃ c : List (Addr × Value), c = ([] : List (Addr × Value)) ++ blkC (w14.heap.size) ((s : List Int).map wV) := ⟨_, rfl⟩
 have hS68 : HoldsC Cs66 w54 := by rw [hCs67]; exact (holdsA (show HoldsC [] w54 from trivial) (holds_blk bx62))
 refine AtH.start Cs66 15 #[false, false, false, false, false, false, false, false, false, false, false, false, false, false, false] (by kernel_rfl) rfl rfl (fun w70 hw71 => ?_)
 have g69 := gr_drew hw71
 have hS72 := hS68.gr g69
 have szw70 := g69.size
 have e73 := e58.gr g69 no_row
 clear e58
 have r74 := r59.gr g69 (fun _ h => by cases h)
 clear r59
 have r75 := r60.gr g69 (fun _ h => by cases h)
 clear r60
 have bx76 := bx61.gr g69 (by simp)
 clear bx61
 have bx77 := bx62.gr g69 (by simp)
 clear bx62
 have ow78 := ow52.gr g69 (fun _ _ h => by cases h)
 clear ow52
 clear g69 hw71 hS68
 refine AtH.rd (by kernel_rfl) (fun d v c a w h => by cases d <;> exact h) hS72 [0, 1, 2, 3, 4, 5] [[], [], [], [], [], [.cs ((s : List Int).map wV)]] [(21, .agg ((s : List Int).map wV).toArray), (20, .int .i64 ((((lsD (fromW s) 256).length : Nat) : Int))), (19, .slice A50 ((lsD (fromW s) 256).length) c51), (18, .bool false), (17, .bool false), (16, .bool true)] #[true, true, true, true, true, true, false, false, false, false, false, false, false, false, false] [(((s : List Int).map wV).length = 4), (∀ (j : Nat) (v : Value), ((s : List Int).map wV)[j]? = some v → ∃ j_ : Nat, Cs66[j_]? = some (((⟨w14.heap.size, 0, none⟩ : Addr).add j), v))] 9 f65 (by kernel_rfl) ⟨(by simp only [List.length_map, List.length_set, List.length_replicate, List.length_cons, List.length_nil]; first | done | assumption | exact from_len _ | exact of_len _ | exact ofZ_len _ | exact (ofW_ok _).1 | exact (fullW_W _).1 | exact (okW_with (by assumption)).1 | exact (okW_less (by assumption)).1 | exact put_len (from_len _) | exact orD_len _ _ | exact andD_len _ _ | exact minusD_len _ _ | exact fullD_len _ | (refine okLen ?_; (repeat (first | assumption | exact ofW_ok _ | exact fullW_W _ | apply okW_with | apply okW_less | refine okW_orS ?_ ?_ | refine okW_andS ?_ ?_ | refine okW_minusS ?_ ?_)); done) | omega | rfl), (fun j v hv => List.getElem?_of_mem (by rw [hCs67]; exact List.mem_append.2 (.inr (blkC_in hv)))), trivial⟩ (fun act80 f79 => ?_)
 clear f65
 refine AtH.all [6] 8 (by kernel_rfl) (by simp) ⟨?_, trivial⟩
 refine OneH.call f79 20 #[.agg ((s : List Int).map wV).toArray] (some 22) #[true, true, true, true, true, true, true, false, false, false, false, false, false, false, false] (by kernel_rfl) (by kernel_rfl) (len_any (s := s) (by repeat (first | assumption | exact ofW_ok _ | exact fullW_W _ | exact wordsD_W _ | exact okW_0 | exact okW_00 | apply okW_orS | apply okW_andS | apply okW_minusS | apply okW_with | apply okW_less | apply okW_or | apply okW_and | apply okW_minus | (apply okW_lit <;> exact ⟨by omega, by omega⟩)))) ?_
 rintro e_ w82 ⟨rfl, he⟩
 have := lenW_le s
 refine ⟨_, rfl, _, rfl, fun act83 f84 => ?_⟩
 clear f79
 have g85 := gr_ext he
 have hS81 := hS72.gr g85
 have szw82 := g85.size
 have e86 := e73.gr g85 no_row
 clear e73
 have r87 := r74.gr g85 (fun _ h => by cases h)
 clear r74
 have r88 := r75.gr g85 (fun _ h => by cases h)
 clear r75
 have bx89 := bx76.gr g85 (by simp)
 clear bx76
 have bx90 := bx77.gr g85 (by simp)
 clear bx77
 have ow91 := ow78.gr g85 (fun _ _ h => by cases h)
 clear ow78
 clear g85 he
 refine ⟨hS81, ?_⟩
 refine AtH.rd (by kernel_rfl) (fun d v c a w h => by cases d <;> exact h) hS81 [7] [[.as_ (.bool false)]] [(23, .bool false)] #[true, true, true, true, true, true, true, true, false, false, false, false, false, false, false] [((.bool (((((lsD (fromW s) 256).length : Nat) : Int) : Int) != (lenW s)) : Value) = .bool false)] 7 f84 (by kernel_rfl) ⟨(congrArg Value.bool (bneF (lenW_ls s).symm)), trivial⟩ (fun act93 f92 => ?_)
 clear f84
 refine AtH.rd (by kernel_rfl) (fun d v c a w h => by cases d <;> exact h) hS81 [8] [[]] [(24, .bool false)] #[true, true, true, true, true, true, true, true, true, false, false, false, false, false, false] [] 6 f92 (by kernel_rfl) trivial (fun act95 f94 => ?_)
 clear f92
 refine AtH.rd (by kernel_rfl) (fun d v c a w h => by cases d <;> exact h) hS81 [9] [[]] [(25, .bool false)] #[true, true, true, true, true, true, true, true, true, true, false, false, false, false, false] [] 5 f94 (by kernel_rfl) trivial (fun act97 f96 => ?_)
 clear f94
 refine AtH.rd (by kernel_rfl) (fun d v c a w h => by cases d <;> exact h) hS81 [10] [[]] [(26, .slice A50 ((lsD (fromW s) 256).length) c51)] #[true, true, true, true, true, true, true, true, true, true, true, false, false, false, false] [] 4 f96 (by kernel_rfl) trivial (fun act99 f98 => ?_)
 clear f96
 refine AtH.rd (by kernel_rfl) (fun d v c a w h => by cases d <;> exact h) hS81 [12] [[.cs ((s : List Int).map wV)]] [(28, .agg ((s : List Int).map wV).toArray)] #[true, true, true, true, true, true, true, true, true, true, true, false, true, false, false] [(((s : List Int).map wV).length = 4), (∀ (j : Nat) (v : Value), ((s : List Int).map wV)[j]? = some v → ∃ j_ : Nat, Cs66[j_]? = some (((⟨w14.heap.size, 0, none⟩ : Addr).add j), v))] 3 f98 (by kernel_rfl) ⟨(by simp only [List.length_map, List.length_set, List.length_replicate, List.length_cons, List.length_nil]; first | done | assumption | exact from_len _ | exact of_len _ | exact ofZ_len _ | exact (ofW_ok _).1 | exact (fullW_W _).1 | exact (okW_with (by assumption)).1 | exact (okW_less (by assumption)).1 | exact put_len (from_len _) | exact orD_len _ _ | exact andD_len _ _ | exact minusD_len _ _ | exact fullD_len _ | (refine okLen ?_; (repeat (first | assumption | exact ofW_ok _ | exact fullW_W _ | apply okW_with | apply okW_less | refine okW_orS ?_ ?_ | refine okW_andS ?_ ?_ | refine okW_minusS ?_ ?_)); done) | omega | rfl), (fun j v hv => List.getElem?_of_mem (by rw [hCs67]; exact List.mem_append.2 (.inr (blkC_in hv)))), trivial⟩ (fun act101 f100 => ?_)
 clear f98
 refine AtH.all [11] 2 (by kernel_rfl) (by simp) ⟨?_, trivial⟩
 refine OneH.call f100 14 #[.slice A50 ((lsD (fromW s) 256).length) c51] (some 27) #[true, true, true, true, true, true, true, true, true, true, true, true, true, false, false] (by kernel_rfl) (by kernel_rfl) (of_any (la := (lsD (fromW s) 256)) (ow91.rdI0 (by first | omega | (simp only [List.length_cons, List.length_nil]; omega) | (simp; done) | (simp; omega)))) ?_
 rintro e_ w103 ⟨rfl, he⟩
 refine ⟨_, rfl, _, rfl, fun act104 f105 => ?_⟩
 clear f100
 have g106 := gr_ext he
 have hS102 := hS81.gr g106
 have szw103 := g106.size
 have e107 := e86.gr g106 no_row
 clear e86
 have r108 := r87.gr g106 (fun _ h => by cases h)
 clear r87
 have r109 := r88.gr g106 (fun _ h => by cases h)
 clear r88
 have bx110 := bx89.gr g106 (by simp)
 clear bx89
 have bx111 := bx90.gr g106 (by simp)
 clear bx90
 have ow112 := ow91.gr g106 (fun _ _ h => by cases h)
 clear ow91
 clear g106 he
 refine ⟨hS102, ?_⟩
 refine AtH.rd (by kernel_rfl) (fun d v c a w h => by cases d <;> exact h) hS102 [13] [[.cs [wV (gI (ofW (lsD (fromW s) 256)) 0), wV (gI (ofW (lsD (fromW s) 256)) 1), wV (gI (ofW (lsD (fromW s) 256)) 2), wV (gI (ofW (lsD (fromW s) 256)) 3)], .cs [wV (gI s 0), wV (gI s 1), wV (gI s 2), wV (gI s 3)], .as_ (.bool false)]] [(29, .bool false)] #[true, true, true, true, true, true, true, true, true, true, true, true, true, true, false] [(((ofW (lsD (fromW s) 256) : List Int).map wV).toArray = ([wV (gI (ofW (lsD (fromW s) 256)) 0), wV (gI (ofW (lsD (fromW s) 256)) 1), wV (gI (ofW (lsD (fromW s) 256)) 2), wV (gI (ofW (lsD (fromW s) 256)) 3)] : List Value).toArray), (((s : List Int).map wV).toArray = ([wV (gI s 0), wV (gI s 1), wV (gI s 2), wV (gI s 3)] : List Value).toArray), ((.bool (!(((gI (ofW (lsD (fromW s) 256)) 0 : Int) == gI s 0) && (((gI (ofW (lsD (fromW s) 256)) 1 : Int) == gI s 1) && (((gI (ofW (lsD (fromW s) 256)) 2 : Int) == gI s 2) && (((gI (ofW (lsD (fromW s) 256)) 3 : Int) == gI s 3) && true))))) : Value) = .bool false)] 1 f105 (by kernel_rfl) ⟨(map4 (okLen (ofW_ok _))), (map4 (by first | assumption | exact (okW_with (by assumption)).1 | exact (okW_less (by assumption)).1 | exact (ofW_ok _).1 | exact (fullW_W _).1 | (refine okLen ?_; (repeat (first | assumption | exact ofW_ok _ | exact fullW_W _ | apply okW_with | apply okW_less | refine okW_orS ?_ ?_ | refine okW_andS ?_ ?_ | refine okW_minusS ?_ ?_)); done) | rfl | omega | (simp only [List.length_set]; first | done | assumption | omega) | exact lenW4 _ (by assumption))), (Eq.trans (b := (.bool (!(decide ((ofW (lsD (fromW s) 256) : List Int) = s))) : Value)) (congrArg (fun b => Value.bool (!b)) (w4_eq (okLen (ofW_ok _)) (by first | assumption | exact (okW_with (by assumption)).1 | exact (okW_less (by assumption)).1 | exact (ofW_ok _).1 | exact (fullW_W _).1 | (refine okLen ?_; (repeat (first | assumption | exact ofW_ok _ | exact fullW_W _ | apply okW_with | apply okW_less | refine okW_orS ?_ ?_ | refine okW_andS ?_ ?_ | refine okW_minusS ?_ ?_)); done) | rfl | omega | (simp only [List.length_set]; first | done | assumption | omega) | exact lenW4 _ (by assumption)))) (congrArg Value.bool (by rw [of_list hs]; simp))), trivial⟩ (fun act114 f113 => ?_)
 clear f105
 refine AtH.rd (by kernel_rfl) (fun d v c a w h => by cases d <;> exact h) hS102 [14] [[]] [(30, .bool false)] #[true, true, true, true, true, true, true, true, true, true, true, true, true, true, true] [] 0 f113 (by kernel_rfl) trivial (fun act116 f115 => ?_)
 clear f113
 refine AtH.done (by kernel_rfl) ?_
 clear hS102
 refine t_n ?_
 have f117 := f115.sub (r := [(30, .bool false), (7, .slice A50 ((lsD (fromW s) 256).length) c51), (6, .pointer (some ⟨w14.heap.size, 0, none⟩)), (4, .bool false), (1, .slice Aa la.length ca)]) ⟨rfl, rfl, rfl, rfl, rfl, trivial⟩
 clear f115
 refine cond_F f117 rfl ?_
 refine wp_skip ?_
 refine t_n ?_
 have f118 := f117.sub (r := [(7, .slice A50 ((lsD (fromW s) 256).length) c51), (6, .pointer (some ⟨w14.heap.size, 0, none⟩)), (4, .bool false), (1, .slice Aa la.length ca)]) ⟨rfl, rfl, rfl, rfl, trivial⟩
 clear f117
 refine wp_seq ?_
 refine wp_seq ?_
 refine At.start ?_
 refine At.rd f118 1 [[]] [(8, .int .i64 (0))] [] (by kernel_rfl) trivial (fun act120 f119 => ?_)
 clear f118
 refine At.done rfl ?_
 refine t_n ?_
 refine wp_block ?_
 have f121 := f119.sub (r := [(8, .int .i64 (0)), (7, .slice A50 ((lsD (fromW s) 256).length) c51), (6, .pointer (some ⟨w14.heap.size, 0, none⟩)), (1, .slice Aa la.length ca)]) ⟨rfl, rfl, rfl, rfl, trivial⟩
 refine loop_g (fun (m_ : Nat) a_ w_ => ∃ (k : Int), m_ = (((lsD (fromW s) 256).length : Int) - k).toNat ∧ (Frm 127 a_ [(8, .int .i64 (k)), (7, .slice A50 ((lsD (fromW s) 256).length) c51), (6, .pointer (some ⟨w14.heap.size, 0, none⟩)), (1, .slice Aa la.length ca)]) ∧ (Ext w w_) ∧ (RdI w_ 0 w.heap.size Aa la) ∧ (RdT w_ 0 w.heap.size) ∧ (Bx w_ (w.heap.size) ((s : List Int).map wV) 25) ∧ (Bx w_ (w14.heap.size) ((s : List Int).map wV) 26) ∧ (OwnR w_ (Sx (w38.heap.size) []) A50 c51 3 ((lsD (fromW s) 256) : List Int)) ∧ (0 ≤ k) ∧ (k ≤ ((lsD (fromW s) 256).length : Int)) ∧ (w38.heap.size ≤ w_.heap.size)) _ ⟨0, rfl, f121, e107, r108, r109, bx110, bx111, ow112, (by omega), (by omega), (by omega)⟩ ?_
 clear f121 f119
 clear r108
 clear r109
 clear bx110
 clear bx111
 clear ow112
 clear e107
 intro m_ act122 w123 ⟨k, hm125, f126, e124, r127, r128, bx129, bx130, ow131, i132, i133, i134⟩
 have szw123 := e124.size
 have := bx129.lt
 have := bx130.lt
 refine wp_seq ?_
 refine wp_seq ?_
 refine At.start ?_
 refine At.rd f126 4 [[], [], [], []] [(34, .bool (decide ((k : Int) < (((lsD (fromW s) 256).length : Nat) : Int)))), (33, .int .i64 ((((lsD (fromW s) 256).length : Nat) : Int))), (32, .slice A50 ((lsD (fromW s) 256).length) c51), (31, .int .i64 (k))] [] (by kernel_rfl) trivial (fun act136 f135 => ?_)
 clear f126
 refine At.done rfl ?_
 refine t_n ?_
 have f137 := f135.sub (r := [(34, .bool (decide ((k : Int) < (((lsD (fromW s) 256).length : Nat) : Int)))), (8, .int .i64 (k)), (7, .slice A50 ((lsD (fromW s) 256).length) c51), (6, .pointer (some ⟨w14.heap.size, 0, none⟩)), (1, .slice Aa la.length ca)]) ⟨rfl, rfl, rfl, rfl, rfl, trivial⟩
 clear f135
 refine cond_S f137 (t := decide ((k : Int) < (((lsD (fromW s) 256).length : Nat) : Int))) rfl (fun h138 => ?_) (fun h138 => ?_)
 ·have q139 := of_decide_eq_true h138
  refine wp_skip ?_
  refine t_n ?_
  have f140 := f137.sub (r := [(8, .int .i64 (k)), (7, .slice A50 ((lsD (fromW s) 256).length) c51), (6, .pointer (some ⟨w14.heap.size, 0, none⟩)), (1, .slice Aa la.length ca)]) ⟨rfl, rfl, rfl, rfl, trivial⟩
  clear f137
  refine wp_seq ?_
  refine wp_block ?_
  refine wp_seq ?_
  obtain ⟨ad141, hA142, hb145, hc144, hc143⟩ := ow131.get (k) (by omega) (by omega) (sz := 1) rfl
  obtain ⟨Cs146, hCs147⟩ : ∃ c : List (Addr × Value), c = ([((ad141.add ((k : Int).toNat * 1)), (.int .i64 (gI (lsD (fromW s) 256) k)))] : List (Addr × Value)) ++ blkC (w14.heap.size) ((s : List Int).map wV) := ⟨_, rfl⟩
  have hS148 : HoldsC Cs146 w123 := by rw [hCs147]; exact (holdsA (show HoldsC [((ad141.add ((k : Int).toNat * 1)), (.int .i64 (gI (lsD (fromW s) 256) k)))] w123 from ⟨hc144, trivial⟩) (holds_blk bx130))
  refine AtH.start Cs146 36 #[false, false, false, false, false, false, false, false, false, false, false, false, false, false, false, false, false, false, false, false, false, false, false, false, false, false, false, false, false, false, false, false, false, false, false, false] (by kernel_rfl) rfl rfl (fun w150 hw151 => ?_)
  have g149 := gr_drew hw151
  have hS152 := hS148.gr g149
  have szw150 := g149.size
  have e153 := e124.gr g149 no_row
  clear e124
  have r154 := r127.gr g149 (fun _ h => by cases h)
  clear r127
  have r155 := r128.gr g149 (fun _ h => by cases h)
  clear r128
  have bx156 := bx129.gr g149 (by simp)
  clear bx129
  have bx157 := bx130.gr g149 (by simp)
  clear bx130
  have ow158 := ow131.gr g149 (fun _ _ h => by cases h)
  clear ow131
  clear g149 hw151 hS148
  refine AtH.rd (by kernel_rfl) (fun d v c a w h => by cases d <;> exact h) hS152 [0, 1, 2, 3, 4] [[.cs ((s : List Int).map wV)], [], [], [.ad ad141], [.ld (.int .i64 (gI (lsD (fromW s) 256) k))]] [(41, .int .i64 (gI (lsD (fromW s) 256) k)), (40, .pointer (some (ad141.add ((k : Int).toNat * 1)))), (39, .int .i64 (k)), (38, .slice A50 ((lsD (fromW s) 256).length) c51), (37, .agg ((s : List Int).map wV).toArray)] #[true, true, true, true, true, false, false, false, false, false, false, false, false, false, false, false, false, false, false, false, false, false, false, false, false, false, false, false, false, false, false, false, false, false, false, false] [(((s : List Int).map wV).length = 4), (∀ (j : Nat) (v : Value), ((s : List Int).map wV)[j]? = some v → ∃ j_ : Nat, Cs146[j_]? = some (((⟨w14.heap.size, 0, none⟩ : Addr).add j), v)), (A50 = some ad141), (0 ≤ (k : Int)), ((k : Int) < ((lsD (fromW s) 256).length : Nat)), (∃ j_ : Nat, Cs146[j_]? = some ((ad141.add ((k : Int).toNat * 1)), (.int .i64 (gI (lsD (fromW s) 256) k))))] 31 f140 (by kernel_rfl) ⟨(by simp only [List.length_map, List.length_set, List.length_replicate, List.length_cons, List.length_nil]; first | done | assumption | exact from_len _ | exact of_len _ | exact ofZ_len _ | exact (ofW_ok _).1 | exact (fullW_W _).1 | exact (okW_with (by assumption)).1 | exact (okW_less (by assumption)).1 | exact put_len (from_len _) | exact orD_len _ _ | exact andD_len _ _ | exact minusD_len _ _ | exact fullD_len _ | (refine okLen ?_; (repeat (first | assumption | exact ofW_ok _ | exact fullW_W _ | apply okW_with | apply okW_less | refine okW_orS ?_ ?_ | refine okW_andS ?_ ?_ | refine okW_minusS ?_ ?_)); done) | omega | rfl), (fun j v hv => List.getElem?_of_mem (by rw [hCs147]; exact List.mem_append.2 (.inr (blkC_in hv)))), hA142, (by omega), (by omega), ⟨0, by rw [hCs147]; rfl⟩, trivial⟩ (fun act160 f159 => ?_)
  clear f140
  refine AtH.all [5] 30 (by kernel_rfl) (by simp) ⟨?_, trivial⟩
  refine OneH.call f159 21 #[.agg ((s : List Int).map wV).toArray, .int .i64 (gI (lsD (fromW s) 256) k)] (some 42) #[true, true, true, true, true, true, false, false, false, false, false, false, false, false, false, false, false, false, false, false, false, false, false, false, false, false, false, false, false, false, false, false, false, false, false, false] (by kernel_rfl) (by kernel_rfl) ((has_any (s := s) (n := gI (lsD (fromW s) 256) k) (by repeat (first | assumption | exact ofW_ok _ | exact fullW_W _ | exact wordsD_W _ | exact okW_0 | exact okW_00 | apply okW_orS | apply okW_andS | apply okW_minusS | apply okW_with | apply okW_less | apply okW_or | apply okW_and | apply okW_minus | (apply okW_lit <;> exact ⟨by omega, by omega⟩)))).mono (R' := fun e w' => e = .returned (.bool true) ∧ Ext _ w') (fun e_ w_ h_ => by rw [show (hasW s (gI (lsD (fromW s) 256) k) : Bool) = true from list_has (by omega) (by omega)] at h_; exact h_)) ?_
  rintro e_ w162 ⟨rfl, he⟩
  refine ⟨_, rfl, _, rfl, fun act163 f164 => ?_⟩
  clear f159
  have g165 := gr_ext he
  have hS161 := hS152.gr g165
  have szw162 := g165.size
  have e166 := e153.gr g165 no_row
  clear e153
  have r167 := r154.gr g165 (fun _ h => by cases h)
  clear r154
  have r168 := r155.gr g165 (fun _ h => by cases h)
  clear r155
  have bx169 := bx156.gr g165 (by simp)
  clear bx156
  have bx170 := bx157.gr g165 (by simp)
  clear bx157
  have ow171 := ow158.gr g165 (fun _ _ h => by cases h)
  clear ow158
  clear g165 he
  refine ⟨hS161, ?_⟩
  refine AtH.rd (by kernel_rfl) (fun d v c a w h => by cases d <;> exact h) hS161 [6] [[]] [(43, .bool false)] #[true, true, true, true, true, true, true, false, false, false, false, false, false, false, false, false, false, false, false, false, false, false, false, false, false, false, false, false, false, false, false, false, false, false, false, false] [] 29 f164 (by kernel_rfl) trivial (fun act173 f172 => ?_)
  clear f164
  refine AtH.rd (by kernel_rfl) (fun d v c a w h => by cases d <;> exact h) hS161 [7] [[]] [(44, .bool false)] #[true, true, true, true, true, true, true, true, false, false, false, false, false, false, false, false, false, false, false, false, false, false, false, false, false, false, false, false, false, false, false, false, false, false, false, false] [] 28 f172 (by kernel_rfl) trivial (fun act175 f174 => ?_)
  clear f172
  refine AtH.rd (by kernel_rfl) (fun d v c a w h => by cases d <;> exact h) hS161 [8] [[]] [(45, .int .i64 (k))] #[true, true, true, true, true, true, true, true, true, false, false, false, false, false, false, false, false, false, false, false, false, false, false, false, false, false, false, false, false, false, false, false, false, false, false, false] [] 27 f174 (by kernel_rfl) trivial (fun act177 f176 => ?_)
  clear f174
  refine AtH.rd (by kernel_rfl) (fun d v c a w h => by cases d <;> exact h) hS161 [9] [[]] [(46, .bool (decide ((k : Int) > 0)))] #[true, true, true, true, true, true, true, true, true, true, false, false, false, false, false, false, false, false, false, false, false, false, false, false, false, false, false, false, false, false, false, false, false, false, false, false] [] 26 f176 (by kernel_rfl) trivial (fun act179 f178 => ?_)
  clear f176
  rcases Bool.eq_false_or_eq_true (decide ((k : Int) > 0)) with h180 | h180
  ·have q181 := of_decide_eq_true h180
   refine AtH.rd (by kernel_rfl) (fun d v c a w h => by cases d <;> exact h) hS161 [10] [[.as_ (.bool true)]] [(47, .bool true)] #[true, true, true, true, true, true, true, true, true, true, true, false, false, false, false, false, false, false, false, false, false, false, false, false, false, false, false, false, false, false, false, false, false, false, false, false] [((.bool (decide ((k : Int) > 0)) : Value) = .bool true)] 25 f178 (by kernel_rfl) ⟨(congrArg Value.bool h180), trivial⟩ (fun act183 f182 => ?_)
   clear f178
   refine AtH.rd (by kernel_rfl) (fun d v c a w h => by cases d <;> exact h) hS161 [11] [[]] [(48, .slice A50 ((lsD (fromW s) 256).length) c51)] #[true, true, true, true, true, true, true, true, true, true, true, true, false, false, false, false, false, false, false, false, false, false, false, false, false, false, false, false, false, false, false, false, false, false, false, false] [] 24 f182 (by kernel_rfl) trivial (fun act185 f184 => ?_)
   clear f182
   refine AtH.rd (by kernel_rfl) (fun d v c a w h => by cases d <;> exact h) hS161 [12] [[]] [(49, .int .i64 (k))] #[true, true, true, true, true, true, true, true, true, true, true, true, true, false, false, false, false, false, false, false, false, false, false, false, false, false, false, false, false, false, false, false, false, false, false, false] [] 23 f184 (by kernel_rfl) trivial (fun act187 f186 => ?_)
   clear f184
   obtain ⟨ad188, hA189, hb192, hc191, hc190⟩ := ow171.get (k) (by omega) (by omega) (sz := 1) rfl
   refine AtH.rd (by kernel_rfl) (fun d v c a w h => by cases d <;> exact h) hS161 [13] [[.ad ad188]] [(50, .pointer (some (ad188.add ((k : Int).toNat * 1))))] #[true, true, true, true, true, true, true, true, true, true, true, true, true, true, false, false, false, false, false, false, false, false, false, false, false, false, false, false, false, false, false, false, false, false, false, false] [(A50 = some ad188), (0 ≤ (k : Int)), ((k : Int) < ((lsD (fromW s) 256).length : Nat))] 22 f186 (by kernel_rfl) ⟨hA189, (by omega), (by omega), trivial⟩ (fun act194 f193 => ?_)
   clear f186
   refine AtH.rd (by kernel_rfl) (fun d v c a w h => by cases d <;> exact h) hS161 [15] [[]] [(52, .slice A50 ((lsD (fromW s) 256).length) c51)] #[true, true, true, true, true, true, true, true, true, true, true, true, true, true, false, true, false, false, false, false, false, false, false, false, false, false, false, false, false, false, false, false, false, false, false, false] [] 21 f193 (by kernel_rfl) trivial (fun act196 f195 => ?_)
   clear f193
   refine AtH.rd (by kernel_rfl) (fun d v c a w h => by cases d <;> exact h) hS161 [16] [[]] [(53, .int .i64 (k))] #[true, true, true, true, true, true, true, true, true, true, true, true, true, true, false, true, true, false, false, false, false, false, false, false, false, false, false, false, false, false, false, false, false, false, false, false] [] 20 f195 (by kernel_rfl) trivial (fun act198 f197 => ?_)
   clear f195
   refine AtH.rd (by kernel_rfl) (fun d v c a w h => by cases d <;> exact h) hS161 [17] [[.as_ (.int .i64 (k - 1))]] [(54, .int .i64 (k - 1))] #[true, true, true, true, true, true, true, true, true, true, true, true, true, true, false, true, true, true, false, false, false, false, false, false, false, false, false, false, false, false, false, false, false, false, false, false] [((.int .i64 (IntKind.i64.wrap (k - 1)) : Value) = .int .i64 (k - 1))] 19 f197 (by kernel_rfl) ⟨(w64 (by omega) (by omega)), trivial⟩ (fun act200 f199 => ?_)
   clear f197
   obtain ⟨ad201, hA202, hb205, hc204, hc203⟩ := ow171.get (k - 1) (by omega) (by omega) (sz := 1) rfl
   refine AtH.rd (by kernel_rfl) (fun d v c a w h => by cases d <;> exact h) hS161 [18] [[.ad ad201]] [(55, .pointer (some (ad201.add ((k - 1 : Int).toNat * 1))))] #[true, true, true, true, true, true, true, true, true, true, true, true, true, true, false, true, true, true, true, false, false, false, false, false, false, false, false, false, false, false, false, false, false, false, false, false] [(A50 = some ad201), (0 ≤ (k - 1 : Int)), ((k - 1 : Int) < ((lsD (fromW s) 256).length : Nat))] 18 f199 (by kernel_rfl) ⟨hA202, (by omega), (by omega), trivial⟩ (fun act207 f206 => ?_)
   clear f199
   refine AtH.all [14, 19] 17 (by kernel_rfl) (by simp) ⟨?_, ?_, trivial⟩
   ·refine OneH.seq f206 [[.ld (.int .i64 (gI (lsD (fromW s) 256) k))]] [(51, .int .i64 (gI (lsD (fromW s) 256) k))] w162 [(w162.cell? (ad188.add ((k : Int).toNat * 1)) = some (.int .i64 (gI (lsD (fromW s) 256) k)))] #[true, true, true, true, true, true, true, true, true, true, true, true, true, true, true, true, true, true, true, false, false, false, false, false, false, false, false, false, false, false, false, false, false, false, false, false] (by kernel_rfl) (by kernel_rfl) (by kernel_rfl) ⟨hc191, trivial⟩ (fun act209 w210 hw211 f208 => ?_)
    obtain rfl : w162 = w210 := hw211.symm
    clear f206
    refine ⟨hS161, ?_⟩
    refine AtH.all [19] 16 (by kernel_rfl) (by simp) ⟨?_, trivial⟩
    refine OneH.seq f208 [[.ld (.int .i64 (gI (lsD (fromW s) 256) (k - 1)))]] [(56, .int .i64 (gI (lsD (fromW s) 256) (k - 1)))] w162 [(w162.cell? (ad201.add ((k - 1 : Int).toNat * 1)) = some (.int .i64 (gI (lsD (fromW s) 256) (k - 1))))] #[true, true, true, true, true, true, true, true, true, true, true, true, true, true, true, true, true, true, true, true, false, false, false, false, false, false, false, false, false, false, false, false, false, false, false, false] (by kernel_rfl) (by kernel_rfl) (by kernel_rfl) ⟨hc204, trivial⟩ (fun act213 w214 hw215 f212 => ?_)
    obtain rfl : w162 = w214 := hw215.symm
    clear f208
    refine ⟨hS161, ?_⟩
    refine AtH.rd (by kernel_rfl) (fun d v c a w h => by cases d <;> exact h) hS161 [20] [[.as_ (.bool false)]] [(57, .bool false)] #[true, true, true, true, true, true, true, true, true, true, true, true, true, true, true, true, true, true, true, true, true, false, false, false, false, false, false, false, false, false, false, false, false, false, false, false] [((.bool (decide ((gI (lsD (fromW s) 256) k : Int) ≤ (gI (lsD (fromW s) 256) (k - 1)))) : Value) = .bool false)] 15 f212 (by kernel_rfl) ⟨(congrArg Value.bool (decide_eq_false (by have := list_step (l := fromW s) (k := k) (by omega) (by omega); omega))), trivial⟩ (fun act217 f216 => ?_)
    clear f212
    refine AtH.rd (by kernel_rfl) (fun d v c a w h => by cases d <;> exact h) hS161 [21] [[]] [(58, .bool false)] #[true, true, true, true, true, true, true, true, true, true, true, true, true, true, true, true, true, true, true, true, true, true, false, false, false, false, false, false, false, false, false, false, false, false, false, false] [] 14 f216 (by kernel_rfl) trivial (fun act219 f218 => ?_)
    clear f216
    refine AtH.rd (by kernel_rfl) (fun d v c a w h => by cases d <;> exact h) hS161 [22] [[]] [(59, .bool false)] #[true, true, true, true, true, true, true, true, true, true, true, true, true, true, true, true, true, true, true, true, true, true, true, false, false, false, false, false, false, false, false, false, false, false, false, false] [] 13 f218 (by kernel_rfl) trivial (fun act221 f220 => ?_)
    clear f218
    refine AtH.rd (by kernel_rfl) (fun d v c a w h => by cases d <;> exact h) hS161 [23] [[]] [(60, .bool false)] #[true, true, true, true, true, true, true, true, true, true, true, true, true, true, true, true, true, true, true, true, true, true, true, true, false, false, false, false, false, false, false, false, false, false, false, false] [] 12 f220 (by kernel_rfl) trivial (fun act223 f222 => ?_)
    clear f220
    refine AtH.rd (by kernel_rfl) (fun d v c a w h => by cases d <;> exact h) hS161 [24] [[]] [(61, .int .i64 (k))] #[true, true, true, true, true, true, true, true, true, true, true, true, true, true, true, true, true, true, true, true, true, true, true, true, true, false, false, false, false, false, false, false, false, false, false, false] [] 11 f222 (by kernel_rfl) trivial (fun act225 f224 => ?_)
    clear f222
    refine AtH.rd (by kernel_rfl) (fun d v c a w h => by cases d <;> exact h) hS161 [25] [[]] [(62, .bool ((k : Int) == 0))] #[true, true, true, true, true, true, true, true, true, true, true, true, true, true, true, true, true, true, true, true, true, true, true, true, true, true, false, false, false, false, false, false, false, false, false, false] [] 10 f224 (by kernel_rfl) trivial (fun act227 f226 => ?_)
    clear f224
    rcases Bool.eq_false_or_eq_true ((k : Int) == 0) with h228 | h228
    ·have q229 := eq_of_beq h228
     refine AtH.rd (by kernel_rfl) (fun d v c a w h => by cases d <;> exact h) hS161 [26] [[.as_ (.bool true)]] [(63, .bool true)] #[true, true, true, true, true, true, true, true, true, true, true, true, true, true, true, true, true, true, true, true, true, true, true, true, true, true, true, false, false, false, false, false, false, false, false, false] [((.bool ((k : Int) == 0) : Value) = .bool true)] 9 f226 (by kernel_rfl) ⟨(congrArg Value.bool h228), trivial⟩ (fun act231 f230 => ?_)
     clear f226
     refine AtH.rd (by kernel_rfl) (fun d v c a w h => by cases d <;> exact h) hS161 [27] [[]] [(64, .slice A50 ((lsD (fromW s) 256).length) c51)] #[true, true, true, true, true, true, true, true, true, true, true, true, true, true, true, true, true, true, true, true, true, true, true, true, true, true, true, true, false, false, false, false, false, false, false, false] [] 8 f230 (by kernel_rfl) trivial (fun act233 f232 => ?_)
     clear f230
     refine AtH.rd (by kernel_rfl) (fun d v c a w h => by cases d <;> exact h) hS161 [28] [[]] [(65, .int .i64 (k))] #[true, true, true, true, true, true, true, true, true, true, true, true, true, true, true, true, true, true, true, true, true, true, true, true, true, true, true, true, true, false, false, false, false, false, false, false] [] 7 f232 (by kernel_rfl) trivial (fun act235 f234 => ?_)
     clear f232
     obtain ⟨ad236, hA237, hb240, hc239, hc238⟩ := ow171.get (k) (by omega) (by omega) (sz := 1) rfl
     refine AtH.rd (by kernel_rfl) (fun d v c a w h => by cases d <;> exact h) hS161 [29] [[.ad ad236]] [(66, .pointer (some (ad236.add ((k : Int).toNat * 1))))] #[true, true, true, true, true, true, true, true, true, true, true, true, true, true, true, true, true, true, true, true, true, true, true, true, true, true, true, true, true, true, false, false, false, false, false, false] [(A50 = some ad236), (0 ≤ (k : Int)), ((k : Int) < ((lsD (fromW s) 256).length : Nat))] 6 f234 (by kernel_rfl) ⟨hA237, (by omega), (by omega), trivial⟩ (fun act242 f241 => ?_)
     clear f234
     refine AtH.rd (by kernel_rfl) (fun d v c a w h => by cases d <;> exact h) hS161 [31] [[.cs ((s : List Int).map wV)]] [(68, .agg ((s : List Int).map wV).toArray)] #[true, true, true, true, true, true, true, true, true, true, true, true, true, true, true, true, true, true, true, true, true, true, true, true, true, true, true, true, true, true, false, true, false, false, false, false] [(((s : List Int).map wV).length = 4), (∀ (j : Nat) (v : Value), ((s : List Int).map wV)[j]? = some v → ∃ j_ : Nat, Cs146[j_]? = some (((⟨w14.heap.size, 0, none⟩ : Addr).add j), v))] 5 f241 (by kernel_rfl) ⟨(by simp only [List.length_map, List.length_set, List.length_replicate, List.length_cons, List.length_nil]; first | done | assumption | exact from_len _ | exact of_len _ | exact ofZ_len _ | exact (ofW_ok _).1 | exact (fullW_W _).1 | exact (okW_with (by assumption)).1 | exact (okW_less (by assumption)).1 | exact put_len (from_len _) | exact orD_len _ _ | exact andD_len _ _ | exact minusD_len _ _ | exact fullD_len _ | (refine okLen ?_; (repeat (first | assumption | exact ofW_ok _ | exact fullW_W _ | apply okW_with | apply okW_less | refine okW_orS ?_ ?_ | refine okW_andS ?_ ?_ | refine okW_minusS ?_ ?_)); done) | omega | rfl), (fun j v hv => List.getElem?_of_mem (by rw [hCs147]; exact List.mem_append.2 (.inr (blkC_in hv)))), trivial⟩ (fun act244 f243 => ?_)
     clear f241
     refine AtH.all [30, 32] 4 (by kernel_rfl) (by simp) ⟨?_, ?_, trivial⟩
     ·refine OneH.seq f243 [[.ld (.int .i64 (gI (lsD (fromW s) 256) k))]] [(67, .int .i64 (gI (lsD (fromW s) 256) k))] w162 [(w162.cell? (ad236.add ((k : Int).toNat * 1)) = some (.int .i64 (gI (lsD (fromW s) 256) k)))] #[true, true, true, true, true, true, true, true, true, true, true, true, true, true, true, true, true, true, true, true, true, true, true, true, true, true, true, true, true, true, true, true, false, false, false, false] (by kernel_rfl) (by kernel_rfl) (by kernel_rfl) ⟨hc239, trivial⟩ (fun act246 w247 hw248 f245 => ?_)
      obtain rfl : w162 = w247 := hw248.symm
      clear f243
      refine ⟨hS161, ?_⟩
      refine AtH.all [32] 3 (by kernel_rfl) (by simp) ⟨?_, trivial⟩
      refine OneH.call f245 22 #[.agg ((s : List Int).map wV).toArray] (some 69) #[true, true, true, true, true, true, true, true, true, true, true, true, true, true, true, true, true, true, true, true, true, true, true, true, true, true, true, true, true, true, true, true, true, false, false, false] (by kernel_rfl) (by kernel_rfl) (least_any (s := s) (by repeat (first | assumption | exact ofW_ok _ | exact fullW_W _ | exact wordsD_W _ | exact okW_0 | exact okW_00 | apply okW_orS | apply okW_andS | apply okW_minusS | apply okW_with | apply okW_less | apply okW_or | apply okW_and | apply okW_minus | (apply okW_lit <;> exact ⟨by omega, by omega⟩))) (r168.wide (Nat.zero_le _) (by omega))) ?_
      rintro e_ w250 ⟨rfl, he⟩
      have := leastD_b (fromW s)
      refine ⟨_, rfl, _, rfl, fun act251 f252 => ?_⟩
      clear f245
      have g253 := gr_ext he
      have hS249 := hS161.gr g253
      have szw250 := g253.size
      have e254 := e166.gr g253 no_row
      clear e166
      have r255 := r167.gr g253 (fun _ h => by cases h)
      clear r167
      have r256 := r168.gr g253 (fun _ h => by cases h)
      clear r168
      have bx257 := bx169.gr g253 (by simp)
      clear bx169
      have bx258 := bx170.gr g253 (by simp)
      clear bx170
      have ow259 := ow171.gr g253 (fun _ _ h => by cases h)
      clear ow171
      clear g253 he
      refine ⟨hS249, ?_⟩
      refine AtH.rd (by kernel_rfl) (fun d v c a w h => by cases d <;> exact h) hS249 [33] [[.as_ (.bool false)]] [(70, .bool false)] #[true, true, true, true, true, true, true, true, true, true, true, true, true, true, true, true, true, true, true, true, true, true, true, true, true, true, true, true, true, true, true, true, true, true, false, false] [((.bool ((gI (lsD (fromW s) 256) k : Int) != (leastD (fromW s))) : Value) = .bool false)] 2 f252 (by kernel_rfl) ⟨(congrArg Value.bool (bneF (by rw [show k = 0 by omega]; exact list_first (by omega)))), trivial⟩ (fun act261 f260 => ?_)
      clear f252
      refine AtH.rd (by kernel_rfl) (fun d v c a w h => by cases d <;> exact h) hS249 [34] [[]] [(71, .bool false)] #[true, true, true, true, true, true, true, true, true, true, true, true, true, true, true, true, true, true, true, true, true, true, true, true, true, true, true, true, true, true, true, true, true, true, true, false] [] 1 f260 (by kernel_rfl) trivial (fun act263 f262 => ?_)
      clear f260
      refine AtH.rd (by kernel_rfl) (fun d v c a w h => by cases d <;> exact h) hS249 [35] [[]] [(72, .bool false)] #[true, true, true, true, true, true, true, true, true, true, true, true, true, true, true, true, true, true, true, true, true, true, true, true, true, true, true, true, true, true, true, true, true, true, true, true] [] 0 f262 (by kernel_rfl) trivial (fun act265 f264 => ?_)
      clear f262
      refine AtH.done (by kernel_rfl) ?_
      clear hS249
      refine t_n ?_
      have f266 := f264.sub (r := [(72, .bool false), (71, .bool false), (70, .bool false), (69, .int .i64 (leastD (fromW s))), (67, .int .i64 (gI (lsD (fromW s) 256) k)), (68, .agg ((s : List Int).map wV).toArray), (66, .pointer (some (ad236.add ((k : Int).toNat * 1)))), (65, .int .i64 (k)), (64, .slice A50 ((lsD (fromW s) 256).length) c51), (63, .bool true), (62, .bool ((k : Int) == 0)), (61, .int .i64 (k)), (58, .bool false), (57, .bool false), (56, .int .i64 (gI (lsD (fromW s) 256) (k - 1))), (51, .int .i64 (gI (lsD (fromW s) 256) k)), (55, .pointer (some (ad201.add ((k - 1 : Int).toNat * 1)))), (54, .int .i64 (k - 1)), (53, .int .i64 (k)), (52, .slice A50 ((lsD (fromW s) 256).length) c51), (50, .pointer (some (ad188.add ((k : Int).toNat * 1)))), (49, .int .i64 (k)), (48, .slice A50 ((lsD (fromW s) 256).length) c51), (47, .bool true), (46, .bool (decide ((k : Int) > 0))), (45, .int .i64 (k)), (8, .int .i64 (k)), (7, .slice A50 ((lsD (fromW s) 256).length) c51), (6, .pointer (some ⟨w14.heap.size, 0, none⟩)), (1, .slice Aa la.length ca)]) ⟨rfl, rfl, rfl, rfl, rfl, rfl, rfl, rfl, rfl, rfl, rfl, rfl, rfl, rfl, rfl, rfl, rfl, rfl, rfl, rfl, rfl, rfl, rfl, rfl, rfl, rfl, rfl, rfl, rfl, rfl, trivial⟩
      clear f264
      refine cond_F f266 rfl ?_
      refine wp_skip ?_
      refine b_n ?_
      refine t_n ?_
      have f267 := f266.sub (r := [(71, .bool false), (70, .bool false), (69, .int .i64 (leastD (fromW s))), (67, .int .i64 (gI (lsD (fromW s) 256) k)), (68, .agg ((s : List Int).map wV).toArray), (66, .pointer (some (ad236.add ((k : Int).toNat * 1)))), (65, .int .i64 (k)), (64, .slice A50 ((lsD (fromW s) 256).length) c51), (63, .bool true), (62, .bool ((k : Int) == 0)), (61, .int .i64 (k)), (58, .bool false), (57, .bool false), (56, .int .i64 (gI (lsD (fromW s) 256) (k - 1))), (51, .int .i64 (gI (lsD (fromW s) 256) k)), (55, .pointer (some (ad201.add ((k - 1 : Int).toNat * 1)))), (54, .int .i64 (k - 1)), (53, .int .i64 (k)), (52, .slice A50 ((lsD (fromW s) 256).length) c51), (50, .pointer (some (ad188.add ((k : Int).toNat * 1)))), (49, .int .i64 (k)), (48, .slice A50 ((lsD (fromW s) 256).length) c51), (47, .bool true), (46, .bool (decide ((k : Int) > 0))), (45, .int .i64 (k)), (8, .int .i64 (k)), (7, .slice A50 ((lsD (fromW s) 256).length) c51), (6, .pointer (some ⟨w14.heap.size, 0, none⟩)), (1, .slice Aa la.length ca)]) ⟨rfl, rfl, rfl, rfl, rfl, rfl, rfl, rfl, rfl, rfl, rfl, rfl, rfl, rfl, rfl, rfl, rfl, rfl, rfl, rfl, rfl, rfl, rfl, rfl, rfl, rfl, rfl, rfl, rfl, trivial⟩
      clear f266
      refine At.start ?_
      refine At.rd f267 3 [[], [.as_ (.int .i64 (k + 1))], []] [(8, .int .i64 (k + 1)), (36, .int .i64 (k + 1)), (35, .int .i64 (k))] [((.int .i64 (IntKind.i64.wrap (k + 1)) : Value) = .int .i64 (k + 1))] (by kernel_rfl) ⟨(w64 (by omega) (by omega)), trivial⟩ (fun act269 f268 => ?_)
      clear f267
      refine At.done rfl ?_
      refine t_n ?_
      have f270 := f268.sub (r := [(8, .int .i64 (k + 1)), (7, .slice A50 ((lsD (fromW s) 256).length) c51), (6, .pointer (some ⟨w14.heap.size, 0, none⟩)), (1, .slice Aa la.length ca)]) ⟨rfl, rfl, rfl, rfl, trivial⟩
      exact ⟨_, (by omega), (k + 1), rfl, f270, e254, r255, r256, bx257, bx258, ow259, (by omega), (by omega), (by omega)⟩
     ·refine OneH.call f243 22 #[.agg ((s : List Int).map wV).toArray] (some 69) #[true, true, true, true, true, true, true, true, true, true, true, true, true, true, true, true, true, true, true, true, true, true, true, true, true, true, true, true, true, true, false, true, true, false, false, false] (by kernel_rfl) (by kernel_rfl) (least_any (s := s) (by repeat (first | assumption | exact ofW_ok _ | exact fullW_W _ | exact wordsD_W _ | exact okW_0 | exact okW_00 | apply okW_orS | apply okW_andS | apply okW_minusS | apply okW_with | apply okW_less | apply okW_or | apply okW_and | apply okW_minus | (apply okW_lit <;> exact ⟨by omega, by omega⟩))) (r168.wide (Nat.zero_le _) (by omega))) ?_
      rintro e_ w272 ⟨rfl, he⟩
      have := leastD_b (fromW s)
      refine ⟨_, rfl, _, rfl, fun act273 f274 => ?_⟩
      clear f243
      have g275 := gr_ext he
      have hS271 := hS161.gr g275
      have szw272 := g275.size
      have e276 := e166.gr g275 no_row
      clear e166
      have r277 := r167.gr g275 (fun _ h => by cases h)
      clear r167
      have r278 := r168.gr g275 (fun _ h => by cases h)
      clear r168
      have bx279 := bx169.gr g275 (by simp)
      clear bx169
      have bx280 := bx170.gr g275 (by simp)
      clear bx170
      have ow281 := ow171.gr g275 (fun _ _ h => by cases h)
      clear ow171
      clear g275 he
      refine ⟨hS271, ?_⟩
      refine AtH.all [30] 3 (by kernel_rfl) (by simp) ⟨?_, trivial⟩
      obtain ⟨ad282, hA283, hb284, hc285, hc286⟩ := ow281.get (k) (by omega) (by omega) (sz := 1) rfl
      rw [show ad282 = ad236 from Option.some.inj (hA283.symm.trans hA237)] at hc285 hc286
      refine OneH.seq f274 [[.ld (.int .i64 (gI (lsD (fromW s) 256) k))]] [(67, .int .i64 (gI (lsD (fromW s) 256) k))] w272 [(w272.cell? (ad236.add ((k : Int).toNat * 1)) = some (.int .i64 (gI (lsD (fromW s) 256) k)))] #[true, true, true, true, true, true, true, true, true, true, true, true, true, true, true, true, true, true, true, true, true, true, true, true, true, true, true, true, true, true, true, true, true, false, false, false] (by kernel_rfl) (by kernel_rfl) (by kernel_rfl) ⟨hc285, trivial⟩ (fun act288 w289 hw290 f287 => ?_)
      obtain rfl : w272 = w289 := hw290.symm
      clear f274
      refine ⟨hS271, ?_⟩
      refine AtH.rd (by kernel_rfl) (fun d v c a w h => by cases d <;> exact h) hS271 [33] [[.as_ (.bool false)]] [(70, .bool false)] #[true, true, true, true, true, true, true, true, true, true, true, true, true, true, true, true, true, true, true, true, true, true, true, true, true, true, true, true, true, true, true, true, true, true, false, false] [((.bool ((gI (lsD (fromW s) 256) k : Int) != (leastD (fromW s))) : Value) = .bool false)] 2 f287 (by kernel_rfl) ⟨(congrArg Value.bool (bneF (by rw [show k = 0 by omega]; exact list_first (by omega)))), trivial⟩ (fun act292 f291 => ?_)
      clear f287
      refine AtH.rd (by kernel_rfl) (fun d v c a w h => by cases d <;> exact h) hS271 [34] [[]] [(71, .bool false)] #[true, true, true, true, true, true, true, true, true, true, true, true, true, true, true, true, true, true, true, true, true, true, true, true, true, true, true, true, true, true, true, true, true, true, true, false] [] 1 f291 (by kernel_rfl) trivial (fun act294 f293 => ?_)
      clear f291
      refine AtH.rd (by kernel_rfl) (fun d v c a w h => by cases d <;> exact h) hS271 [35] [[]] [(72, .bool false)] #[true, true, true, true, true, true, true, true, true, true, true, true, true, true, true, true, true, true, true, true, true, true, true, true, true, true, true, true, true, true, true, true, true, true, true, true] [] 0 f293 (by kernel_rfl) trivial (fun act296 f295 => ?_)
      clear f293
      refine AtH.done (by kernel_rfl) ?_
      clear hS271
      refine t_n ?_
      have f297 := f295.sub (r := [(72, .bool false), (71, .bool false), (70, .bool false), (67, .int .i64 (gI (lsD (fromW s) 256) k)), (69, .int .i64 (leastD (fromW s))), (68, .agg ((s : List Int).map wV).toArray), (66, .pointer (some (ad236.add ((k : Int).toNat * 1)))), (65, .int .i64 (k)), (64, .slice A50 ((lsD (fromW s) 256).length) c51), (63, .bool true), (62, .bool ((k : Int) == 0)), (61, .int .i64 (k)), (58, .bool false), (57, .bool false), (56, .int .i64 (gI (lsD (fromW s) 256) (k - 1))), (51, .int .i64 (gI (lsD (fromW s) 256) k)), (55, .pointer (some (ad201.add ((k - 1 : Int).toNat * 1)))), (54, .int .i64 (k - 1)), (53, .int .i64 (k)), (52, .slice A50 ((lsD (fromW s) 256).length) c51), (50, .pointer (some (ad188.add ((k : Int).toNat * 1)))), (49, .int .i64 (k)), (48, .slice A50 ((lsD (fromW s) 256).length) c51), (47, .bool true), (46, .bool (decide ((k : Int) > 0))), (45, .int .i64 (k)), (8, .int .i64 (k)), (7, .slice A50 ((lsD (fromW s) 256).length) c51), (6, .pointer (some ⟨w14.heap.size, 0, none⟩)), (1, .slice Aa la.length ca)]) ⟨rfl, rfl, rfl, rfl, rfl, rfl, rfl, rfl, rfl, rfl, rfl, rfl, rfl, rfl, rfl, rfl, rfl, rfl, rfl, rfl, rfl, rfl, rfl, rfl, rfl, rfl, rfl, rfl, rfl, rfl, trivial⟩
      clear f295
      refine cond_F f297 rfl ?_
      refine wp_skip ?_
      refine b_n ?_
      refine t_n ?_
      have f298 := f297.sub (r := [(71, .bool false), (70, .bool false), (67, .int .i64 (gI (lsD (fromW s) 256) k)), (69, .int .i64 (leastD (fromW s))), (68, .agg ((s : List Int).map wV).toArray), (66, .pointer (some (ad236.add ((k : Int).toNat * 1)))), (65, .int .i64 (k)), (64, .slice A50 ((lsD (fromW s) 256).length) c51), (63, .bool true), (62, .bool ((k : Int) == 0)), (61, .int .i64 (k)), (58, .bool false), (57, .bool false), (56, .int .i64 (gI (lsD (fromW s) 256) (k - 1))), (51, .int .i64 (gI (lsD (fromW s) 256) k)), (55, .pointer (some (ad201.add ((k - 1 : Int).toNat * 1)))), (54, .int .i64 (k - 1)), (53, .int .i64 (k)), (52, .slice A50 ((lsD (fromW s) 256).length) c51), (50, .pointer (some (ad188.add ((k : Int).toNat * 1)))), (49, .int .i64 (k)), (48, .slice A50 ((lsD (fromW s) 256).length) c51), (47, .bool true), (46, .bool (decide ((k : Int) > 0))), (45, .int .i64 (k)), (8, .int .i64 (k)), (7, .slice A50 ((lsD (fromW s) 256).length) c51), (6, .pointer (some ⟨w14.heap.size, 0, none⟩)), (1, .slice Aa la.length ca)]) ⟨rfl, rfl, rfl, rfl, rfl, rfl, rfl, rfl, rfl, rfl, rfl, rfl, rfl, rfl, rfl, rfl, rfl, rfl, rfl, rfl, rfl, rfl, rfl, rfl, rfl, rfl, rfl, rfl, rfl, trivial⟩
      clear f297
      refine At.start ?_
      refine At.rd f298 3 [[], [.as_ (.int .i64 (k + 1))], []] [(8, .int .i64 (k + 1)), (36, .int .i64 (k + 1)), (35, .int .i64 (k))] [((.int .i64 (IntKind.i64.wrap (k + 1)) : Value) = .int .i64 (k + 1))] (by kernel_rfl) ⟨(w64 (by omega) (by omega)), trivial⟩ (fun act300 f299 => ?_)
      clear f298
      refine At.done rfl ?_
      refine t_n ?_
      have f301 := f299.sub (r := [(8, .int .i64 (k + 1)), (7, .slice A50 ((lsD (fromW s) 256).length) c51), (6, .pointer (some ⟨w14.heap.size, 0, none⟩)), (1, .slice Aa la.length ca)]) ⟨rfl, rfl, rfl, rfl, trivial⟩
      exact ⟨_, (by omega), (k + 1), rfl, f301, e276, r277, r278, bx279, bx280, ow281, (by omega), (by omega), (by omega)⟩
    ·have q302 := ne_of_beq_false h228
     refine AtH.rd (by kernel_rfl) (fun d v c a w h => by cases d <;> exact h) hS161 [26] [[.as_ (.bool false)]] [(63, .bool false)] #[true, true, true, true, true, true, true, true, true, true, true, true, true, true, true, true, true, true, true, true, true, true, true, true, true, true, true, false, false, false, false, false, false, false, false, false] [((.bool ((k : Int) == 0) : Value) = .bool false)] 9 f226 (by kernel_rfl) ⟨(congrArg Value.bool h228), trivial⟩ (fun act304 f303 => ?_)
     clear f226
     refine AtH.rd (by kernel_rfl) (fun d v c a w h => by cases d <;> exact h) hS161 [27] [[]] [(64, undef)] #[true, true, true, true, true, true, true, true, true, true, true, true, true, true, true, true, true, true, true, true, true, true, true, true, true, true, true, true, false, false, false, false, false, false, false, false] [] 8 f303 (by kernel_rfl) trivial (fun act306 f305 => ?_)
     clear f303
     refine AtH.rd (by kernel_rfl) (fun d v c a w h => by cases d <;> exact h) hS161 [28] [[]] [(65, undef)] #[true, true, true, true, true, true, true, true, true, true, true, true, true, true, true, true, true, true, true, true, true, true, true, true, true, true, true, true, true, false, false, false, false, false, false, false] [] 7 f305 (by kernel_rfl) trivial (fun act308 f307 => ?_)
     clear f305
     refine AtH.rd (by kernel_rfl) (fun d v c a w h => by cases d <;> exact h) hS161 [29] [[]] [(66, undef)] #[true, true, true, true, true, true, true, true, true, true, true, true, true, true, true, true, true, true, true, true, true, true, true, true, true, true, true, true, true, true, false, false, false, false, false, false] [] 6 f307 (by kernel_rfl) trivial (fun act310 f309 => ?_)
     clear f307
     refine AtH.rd (by kernel_rfl) (fun d v c a w h => by cases d <;> exact h) hS161 [30] [[]] [(67, undef)] #[true, true, true, true, true, true, true, true, true, true, true, true, true, true, true, true, true, true, true, true, true, true, true, true, true, true, true, true, true, true, true, false, false, false, false, false] [] 5 f309 (by kernel_rfl) trivial (fun act312 f311 => ?_)
     clear f309
     refine AtH.rd (by kernel_rfl) (fun d v c a w h => by cases d <;> exact h) hS161 [31] [[]] [(68, undef)] #[true, true, true, true, true, true, true, true, true, true, true, true, true, true, true, true, true, true, true, true, true, true, true, true, true, true, true, true, true, true, true, true, false, false, false, false] [] 4 f311 (by kernel_rfl) trivial (fun act314 f313 => ?_)
     clear f311
     refine AtH.rd (by kernel_rfl) (fun d v c a w h => by cases d <;> exact h) hS161 [32] [[]] [(69, undef)] #[true, true, true, true, true, true, true, true, true, true, true, true, true, true, true, true, true, true, true, true, true, true, true, true, true, true, true, true, true, true, true, true, true, false, false, false] [] 3 f313 (by kernel_rfl) trivial (fun act316 f315 => ?_)
     clear f313
     refine AtH.rd (by kernel_rfl) (fun d v c a w h => by cases d <;> exact h) hS161 [33] [[]] [(70, undef)] #[true, true, true, true, true, true, true, true, true, true, true, true, true, true, true, true, true, true, true, true, true, true, true, true, true, true, true, true, true, true, true, true, true, true, false, false] [] 2 f315 (by kernel_rfl) trivial (fun act318 f317 => ?_)
     clear f315
     refine AtH.rd (by kernel_rfl) (fun d v c a w h => by cases d <;> exact h) hS161 [34] [[]] [(71, .bool false)] #[true, true, true, true, true, true, true, true, true, true, true, true, true, true, true, true, true, true, true, true, true, true, true, true, true, true, true, true, true, true, true, true, true, true, true, false] [] 1 f317 (by kernel_rfl) trivial (fun act320 f319 => ?_)
     clear f317
     refine AtH.rd (by kernel_rfl) (fun d v c a w h => by cases d <;> exact h) hS161 [35] [[]] [(72, .bool false)] #[true, true, true, true, true, true, true, true, true, true, true, true, true, true, true, true, true, true, true, true, true, true, true, true, true, true, true, true, true, true, true, true, true, true, true, true] [] 0 f319 (by kernel_rfl) trivial (fun act322 f321 => ?_)
     clear f319
     refine AtH.done (by kernel_rfl) ?_
     clear hS161
     refine t_n ?_
     have f323 := f321.sub (r := [(72, .bool false), (71, .bool false), (63, .bool false), (62, .bool ((k : Int) == 0)), (61, .int .i64 (k)), (58, .bool false), (57, .bool false), (56, .int .i64 (gI (lsD (fromW s) 256) (k - 1))), (51, .int .i64 (gI (lsD (fromW s) 256) k)), (55, .pointer (some (ad201.add ((k - 1 : Int).toNat * 1)))), (54, .int .i64 (k - 1)), (53, .int .i64 (k)), (52, .slice A50 ((lsD (fromW s) 256).length) c51), (50, .pointer (some (ad188.add ((k : Int).toNat * 1)))), (49, .int .i64 (k)), (48, .slice A50 ((lsD (fromW s) 256).length) c51), (47, .bool true), (46, .bool (decide ((k : Int) > 0))), (45, .int .i64 (k)), (8, .int .i64 (k)), (7, .slice A50 ((lsD (fromW s) 256).length) c51), (6, .pointer (some ⟨w14.heap.size, 0, none⟩)), (1, .slice Aa la.length ca)]) ⟨rfl, rfl, rfl, rfl, rfl, rfl, rfl, rfl, rfl, rfl, rfl, rfl, rfl, rfl, rfl, rfl, rfl, rfl, rfl, rfl, rfl, rfl, rfl, trivial⟩
     clear f321
     refine cond_F f323 rfl ?_
     refine wp_skip ?_
     refine b_n ?_
     refine t_n ?_
     have f324 := f323.sub (r := [(71, .bool false), (63, .bool false), (62, .bool ((k : Int) == 0)), (61, .int .i64 (k)), (58, .bool false), (57, .bool false), (56, .int .i64 (gI (lsD (fromW s) 256) (k - 1))), (51, .int .i64 (gI (lsD (fromW s) 256) k)), (55, .pointer (some (ad201.add ((k - 1 : Int).toNat * 1)))), (54, .int .i64 (k - 1)), (53, .int .i64 (k)), (52, .slice A50 ((lsD (fromW s) 256).length) c51), (50, .pointer (some (ad188.add ((k : Int).toNat * 1)))), (49, .int .i64 (k)), (48, .slice A50 ((lsD (fromW s) 256).length) c51), (47, .bool true), (46, .bool (decide ((k : Int) > 0))), (45, .int .i64 (k)), (8, .int .i64 (k)), (7, .slice A50 ((lsD (fromW s) 256).length) c51), (6, .pointer (some ⟨w14.heap.size, 0, none⟩)), (1, .slice Aa la.length ca)]) ⟨rfl, rfl, rfl, rfl, rfl, rfl, rfl, rfl, rfl, rfl, rfl, rfl, rfl, rfl, rfl, rfl, rfl, rfl, rfl, rfl, rfl, rfl, trivial⟩
     clear f323
     refine At.start ?_
     refine At.rd f324 3 [[], [.as_ (.int .i64 (k + 1))], []] [(8, .int .i64 (k + 1)), (36, .int .i64 (k + 1)), (35, .int .i64 (k))] [((.int .i64 (IntKind.i64.wrap (k + 1)) : Value) = .int .i64 (k + 1))] (by kernel_rfl) ⟨(w64 (by omega) (by omega)), trivial⟩ (fun act326 f325 => ?_)
     clear f324
     refine At.done rfl ?_
     refine t_n ?_
     have f327 := f325.sub (r := [(8, .int .i64 (k + 1)), (7, .slice A50 ((lsD (fromW s) 256).length) c51), (6, .pointer (some ⟨w14.heap.size, 0, none⟩)), (1, .slice Aa la.length ca)]) ⟨rfl, rfl, rfl, rfl, trivial⟩
     exact ⟨_, (by omega), (k + 1), rfl, f327, e166, r167, r168, bx169, bx170, ow171, (by omega), (by omega), (by omega)⟩
   ·refine OneH.seq f206 [[.ld (.int .i64 (gI (lsD (fromW s) 256) (k - 1)))]] [(56, .int .i64 (gI (lsD (fromW s) 256) (k - 1)))] w162 [(w162.cell? (ad201.add ((k - 1 : Int).toNat * 1)) = some (.int .i64 (gI (lsD (fromW s) 256) (k - 1))))] #[true, true, true, true, true, true, true, true, true, true, true, true, true, true, false, true, true, true, true, true, false, false, false, false, false, false, false, false, false, false, false, false, false, false, false, false] (by kernel_rfl) (by kernel_rfl) (by kernel_rfl) ⟨hc204, trivial⟩ (fun act329 w330 hw331 f328 => ?_)
    obtain rfl : w162 = w330 := hw331.symm
    clear f206
    refine ⟨hS161, ?_⟩
    refine AtH.all [14] 16 (by kernel_rfl) (by simp) ⟨?_, trivial⟩
    refine OneH.seq f328 [[.ld (.int .i64 (gI (lsD (fromW s) 256) k))]] [(51, .int .i64 (gI (lsD (fromW s) 256) k))] w162 [(w162.cell? (ad188.add ((k : Int).toNat * 1)) = some (.int .i64 (gI (lsD (fromW s) 256) k)))] #[true, true, true, true, true, true, true, true, true, true, true, true, true, true, true, true, true, true, true, true, false, false, false, false, false, false, false, false, false, false, false, false, false, false, false, false] (by kernel_rfl) (by kernel_rfl) (by kernel_rfl) ⟨hc191, trivial⟩ (fun act333 w334 hw335 f332 => ?_)
    obtain rfl : w162 = w334 := hw335.symm
    clear f328
    refine ⟨hS161, ?_⟩
    refine AtH.rd (by kernel_rfl) (fun d v c a w h => by cases d <;> exact h) hS161 [20] [[.as_ (.bool false)]] [(57, .bool false)] #[true, true, true, true, true, true, true, true, true, true, true, true, true, true, true, true, true, true, true, true, true, false, false, false, false, false, false, false, false, false, false, false, false, false, false, false] [((.bool (decide ((gI (lsD (fromW s) 256) k : Int) ≤ (gI (lsD (fromW s) 256) (k - 1)))) : Value) = .bool false)] 15 f332 (by kernel_rfl) ⟨(congrArg Value.bool (decide_eq_false (by have := list_step (l := fromW s) (k := k) (by omega) (by omega); omega))), trivial⟩ (fun act337 f336 => ?_)
    clear f332
    refine AtH.rd (by kernel_rfl) (fun d v c a w h => by cases d <;> exact h) hS161 [21] [[]] [(58, .bool false)] #[true, true, true, true, true, true, true, true, true, true, true, true, true, true, true, true, true, true, true, true, true, true, false, false, false, false, false, false, false, false, false, false, false, false, false, false] [] 14 f336 (by kernel_rfl) trivial (fun act339 f338 => ?_)
    clear f336
    refine AtH.rd (by kernel_rfl) (fun d v c a w h => by cases d <;> exact h) hS161 [22] [[]] [(59, .bool false)] #[true, true, true, true, true, true, true, true, true, true, true, true, true, true, true, true, true, true, true, true, true, true, true, false, false, false, false, false, false, false, false, false, false, false, false, false] [] 13 f338 (by kernel_rfl) trivial (fun act341 f340 => ?_)
    clear f338
    refine AtH.rd (by kernel_rfl) (fun d v c a w h => by cases d <;> exact h) hS161 [23] [[]] [(60, .bool false)] #[true, true, true, true, true, true, true, true, true, true, true, true, true, true, true, true, true, true, true, true, true, true, true, true, false, false, false, false, false, false, false, false, false, false, false, false] [] 12 f340 (by kernel_rfl) trivial (fun act343 f342 => ?_)
    clear f340
    refine AtH.rd (by kernel_rfl) (fun d v c a w h => by cases d <;> exact h) hS161 [24] [[]] [(61, .int .i64 (k))] #[true, true, true, true, true, true, true, true, true, true, true, true, true, true, true, true, true, true, true, true, true, true, true, true, true, false, false, false, false, false, false, false, false, false, false, false] [] 11 f342 (by kernel_rfl) trivial (fun act345 f344 => ?_)
    clear f342
    refine AtH.rd (by kernel_rfl) (fun d v c a w h => by cases d <;> exact h) hS161 [25] [[]] [(62, .bool ((k : Int) == 0))] #[true, true, true, true, true, true, true, true, true, true, true, true, true, true, true, true, true, true, true, true, true, true, true, true, true, true, false, false, false, false, false, false, false, false, false, false] [] 10 f344 (by kernel_rfl) trivial (fun act347 f346 => ?_)
    clear f344
    rcases Bool.eq_false_or_eq_true ((k : Int) == 0) with h348 | h348
    ·have q349 := eq_of_beq h348
     refine AtH.rd (by kernel_rfl) (fun d v c a w h => by cases d <;> exact h) hS161 [26] [[.as_ (.bool true)]] [(63, .bool true)] #[true, true, true, true, true, true, true, true, true, true, true, true, true, true, true, true, true, true, true, true, true, true, true, true, true, true, true, false, false, false, false, false, false, false, false, false] [((.bool ((k : Int) == 0) : Value) = .bool true)] 9 f346 (by kernel_rfl) ⟨(congrArg Value.bool h348), trivial⟩ (fun act351 f350 => ?_)
     clear f346
     refine AtH.rd (by kernel_rfl) (fun d v c a w h => by cases d <;> exact h) hS161 [27] [[]] [(64, .slice A50 ((lsD (fromW s) 256).length) c51)] #[true, true, true, true, true, true, true, true, true, true, true, true, true, true, true, true, true, true, true, true, true, true, true, true, true, true, true, true, false, false, false, false, false, false, false, false] [] 8 f350 (by kernel_rfl) trivial (fun act353 f352 => ?_)
     clear f350
     refine AtH.rd (by kernel_rfl) (fun d v c a w h => by cases d <;> exact h) hS161 [28] [[]] [(65, .int .i64 (k))] #[true, true, true, true, true, true, true, true, true, true, true, true, true, true, true, true, true, true, true, true, true, true, true, true, true, true, true, true, true, false, false, false, false, false, false, false] [] 7 f352 (by kernel_rfl) trivial (fun act355 f354 => ?_)
     clear f352
     obtain ⟨ad356, hA357, hb360, hc359, hc358⟩ := ow171.get (k) (by omega) (by omega) (sz := 1) rfl
     refine AtH.rd (by kernel_rfl) (fun d v c a w h => by cases d <;> exact h) hS161 [29] [[.ad ad356]] [(66, .pointer (some (ad356.add ((k : Int).toNat * 1))))] #[true, true, true, true, true, true, true, true, true, true, true, true, true, true, true, true, true, true, true, true, true, true, true, true, true, true, true, true, true, true, false, false, false, false, false, false] [(A50 = some ad356), (0 ≤ (k : Int)), ((k : Int) < ((lsD (fromW s) 256).length : Nat))] 6 f354 (by kernel_rfl) ⟨hA357, (by omega), (by omega), trivial⟩ (fun act362 f361 => ?_)
     clear f354
     refine AtH.rd (by kernel_rfl) (fun d v c a w h => by cases d <;> exact h) hS161 [31] [[.cs ((s : List Int).map wV)]] [(68, .agg ((s : List Int).map wV).toArray)] #[true, true, true, true, true, true, true, true, true, true, true, true, true, true, true, true, true, true, true, true, true, true, true, true, true, true, true, true, true, true, false, true, false, false, false, false] [(((s : List Int).map wV).length = 4), (∀ (j : Nat) (v : Value), ((s : List Int).map wV)[j]? = some v → ∃ j_ : Nat, Cs146[j_]? = some (((⟨w14.heap.size, 0, none⟩ : Addr).add j), v))] 5 f361 (by kernel_rfl) ⟨(by simp only [List.length_map, List.length_set, List.length_replicate, List.length_cons, List.length_nil]; first | done | assumption | exact from_len _ | exact of_len _ | exact ofZ_len _ | exact (ofW_ok _).1 | exact (fullW_W _).1 | exact (okW_with (by assumption)).1 | exact (okW_less (by assumption)).1 | exact put_len (from_len _) | exact orD_len _ _ | exact andD_len _ _ | exact minusD_len _ _ | exact fullD_len _ | (refine okLen ?_; (repeat (first | assumption | exact ofW_ok _ | exact fullW_W _ | apply okW_with | apply okW_less | refine okW_orS ?_ ?_ | refine okW_andS ?_ ?_ | refine okW_minusS ?_ ?_)); done) | omega | rfl), (fun j v hv => List.getElem?_of_mem (by rw [hCs147]; exact List.mem_append.2 (.inr (blkC_in hv)))), trivial⟩ (fun act364 f363 => ?_)
     clear f361
     refine AtH.all [30, 32] 4 (by kernel_rfl) (by simp) ⟨?_, ?_, trivial⟩
     ·refine OneH.seq f363 [[.ld (.int .i64 (gI (lsD (fromW s) 256) k))]] [(67, .int .i64 (gI (lsD (fromW s) 256) k))] w162 [(w162.cell? (ad356.add ((k : Int).toNat * 1)) = some (.int .i64 (gI (lsD (fromW s) 256) k)))] #[true, true, true, true, true, true, true, true, true, true, true, true, true, true, true, true, true, true, true, true, true, true, true, true, true, true, true, true, true, true, true, true, false, false, false, false] (by kernel_rfl) (by kernel_rfl) (by kernel_rfl) ⟨hc359, trivial⟩ (fun act366 w367 hw368 f365 => ?_)
      obtain rfl : w162 = w367 := hw368.symm
      clear f363
      refine ⟨hS161, ?_⟩
      refine AtH.all [32] 3 (by kernel_rfl) (by simp) ⟨?_, trivial⟩
      refine OneH.call f365 22 #[.agg ((s : List Int).map wV).toArray] (some 69) #[true, true, true, true, true, true, true, true, true, true, true, true, true, true, true, true, true, true, true, true, true, true, true, true, true, true, true, true, true, true, true, true, true, false, false, false] (by kernel_rfl) (by kernel_rfl) (least_any (s := s) (by repeat (first | assumption | exact ofW_ok _ | exact fullW_W _ | exact wordsD_W _ | exact okW_0 | exact okW_00 | apply okW_orS | apply okW_andS | apply okW_minusS | apply okW_with | apply okW_less | apply okW_or | apply okW_and | apply okW_minus | (apply okW_lit <;> exact ⟨by omega, by omega⟩))) (r168.wide (Nat.zero_le _) (by omega))) ?_
      rintro e_ w370 ⟨rfl, he⟩
      have := leastD_b (fromW s)
      refine ⟨_, rfl, _, rfl, fun act371 f372 => ?_⟩
      clear f365
      have g373 := gr_ext he
      have hS369 := hS161.gr g373
      have szw370 := g373.size
      have e374 := e166.gr g373 no_row
      clear e166
      have r375 := r167.gr g373 (fun _ h => by cases h)
      clear r167
      have r376 := r168.gr g373 (fun _ h => by cases h)
      clear r168
      have bx377 := bx169.gr g373 (by simp)
      clear bx169
      have bx378 := bx170.gr g373 (by simp)
      clear bx170
      have ow379 := ow171.gr g373 (fun _ _ h => by cases h)
      clear ow171
      clear g373 he
      refine ⟨hS369, ?_⟩
      refine AtH.rd (by kernel_rfl) (fun d v c a w h => by cases d <;> exact h) hS369 [33] [[.as_ (.bool false)]] [(70, .bool false)] #[true, true, true, true, true, true, true, true, true, true, true, true, true, true, true, true, true, true, true, true, true, true, true, true, true, true, true, true, true, true, true, true, true, true, false, false] [((.bool ((gI (lsD (fromW s) 256) k : Int) != (leastD (fromW s))) : Value) = .bool false)] 2 f372 (by kernel_rfl) ⟨(congrArg Value.bool (bneF (by rw [show k = 0 by omega]; exact list_first (by omega)))), trivial⟩ (fun act381 f380 => ?_)
      clear f372
      refine AtH.rd (by kernel_rfl) (fun d v c a w h => by cases d <;> exact h) hS369 [34] [[]] [(71, .bool false)] #[true, true, true, true, true, true, true, true, true, true, true, true, true, true, true, true, true, true, true, true, true, true, true, true, true, true, true, true, true, true, true, true, true, true, true, false] [] 1 f380 (by kernel_rfl) trivial (fun act383 f382 => ?_)
      clear f380
      refine AtH.rd (by kernel_rfl) (fun d v c a w h => by cases d <;> exact h) hS369 [35] [[]] [(72, .bool false)] #[true, true, true, true, true, true, true, true, true, true, true, true, true, true, true, true, true, true, true, true, true, true, true, true, true, true, true, true, true, true, true, true, true, true, true, true] [] 0 f382 (by kernel_rfl) trivial (fun act385 f384 => ?_)
      clear f382
      refine AtH.done (by kernel_rfl) ?_
      clear hS369
      refine t_n ?_
      have f386 := f384.sub (r := [(72, .bool false), (71, .bool false), (70, .bool false), (69, .int .i64 (leastD (fromW s))), (67, .int .i64 (gI (lsD (fromW s) 256) k)), (68, .agg ((s : List Int).map wV).toArray), (66, .pointer (some (ad356.add ((k : Int).toNat * 1)))), (65, .int .i64 (k)), (64, .slice A50 ((lsD (fromW s) 256).length) c51), (63, .bool true), (62, .bool ((k : Int) == 0)), (61, .int .i64 (k)), (58, .bool false), (57, .bool false), (51, .int .i64 (gI (lsD (fromW s) 256) k)), (56, .int .i64 (gI (lsD (fromW s) 256) (k - 1))), (55, .pointer (some (ad201.add ((k - 1 : Int).toNat * 1)))), (54, .int .i64 (k - 1)), (53, .int .i64 (k)), (52, .slice A50 ((lsD (fromW s) 256).length) c51), (50, .pointer (some (ad188.add ((k : Int).toNat * 1)))), (49, .int .i64 (k)), (48, .slice A50 ((lsD (fromW s) 256).length) c51), (47, .bool true), (46, .bool (decide ((k : Int) > 0))), (45, .int .i64 (k)), (8, .int .i64 (k)), (7, .slice A50 ((lsD (fromW s) 256).length) c51), (6, .pointer (some ⟨w14.heap.size, 0, none⟩)), (1, .slice Aa la.length ca)]) ⟨rfl, rfl, rfl, rfl, rfl, rfl, rfl, rfl, rfl, rfl, rfl, rfl, rfl, rfl, rfl, rfl, rfl, rfl, rfl, rfl, rfl, rfl, rfl, rfl, rfl, rfl, rfl, rfl, rfl, rfl, trivial⟩
      clear f384
      refine cond_F f386 rfl ?_
      refine wp_skip ?_
      refine b_n ?_
      refine t_n ?_
      have f387 := f386.sub (r := [(71, .bool false), (70, .bool false), (69, .int .i64 (leastD (fromW s))), (67, .int .i64 (gI (lsD (fromW s) 256) k)), (68, .agg ((s : List Int).map wV).toArray), (66, .pointer (some (ad356.add ((k : Int).toNat * 1)))), (65, .int .i64 (k)), (64, .slice A50 ((lsD (fromW s) 256).length) c51), (63, .bool true), (62, .bool ((k : Int) == 0)), (61, .int .i64 (k)), (58, .bool false), (57, .bool false), (51, .int .i64 (gI (lsD (fromW s) 256) k)), (56, .int .i64 (gI (lsD (fromW s) 256) (k - 1))), (55, .pointer (some (ad201.add ((k - 1 : Int).toNat * 1)))), (54, .int .i64 (k - 1)), (53, .int .i64 (k)), (52, .slice A50 ((lsD (fromW s) 256).length) c51), (50, .pointer (some (ad188.add ((k : Int).toNat * 1)))), (49, .int .i64 (k)), (48, .slice A50 ((lsD (fromW s) 256).length) c51), (47, .bool true), (46, .bool (decide ((k : Int) > 0))), (45, .int .i64 (k)), (8, .int .i64 (k)), (7, .slice A50 ((lsD (fromW s) 256).length) c51), (6, .pointer (some ⟨w14.heap.size, 0, none⟩)), (1, .slice Aa la.length ca)]) ⟨rfl, rfl, rfl, rfl, rfl, rfl, rfl, rfl, rfl, rfl, rfl, rfl, rfl, rfl, rfl, rfl, rfl, rfl, rfl, rfl, rfl, rfl, rfl, rfl, rfl, rfl, rfl, rfl, rfl, trivial⟩
      clear f386
      refine At.start ?_
      refine At.rd f387 3 [[], [.as_ (.int .i64 (k + 1))], []] [(8, .int .i64 (k + 1)), (36, .int .i64 (k + 1)), (35, .int .i64 (k))] [((.int .i64 (IntKind.i64.wrap (k + 1)) : Value) = .int .i64 (k + 1))] (by kernel_rfl) ⟨(w64 (by omega) (by omega)), trivial⟩ (fun act389 f388 => ?_)
      clear f387
      refine At.done rfl ?_
      refine t_n ?_
      have f390 := f388.sub (r := [(8, .int .i64 (k + 1)), (7, .slice A50 ((lsD (fromW s) 256).length) c51), (6, .pointer (some ⟨w14.heap.size, 0, none⟩)), (1, .slice Aa la.length ca)]) ⟨rfl, rfl, rfl, rfl, trivial⟩
      exact ⟨_, (by omega), (k + 1), rfl, f390, e374, r375, r376, bx377, bx378, ow379, (by omega), (by omega), (by omega)⟩
     ·refine OneH.call f363 22 #[.agg ((s : List Int).map wV).toArray] (some 69) #[true, true, true, true, true, true, true, true, true, true, true, true, true, true, true, true, true, true, true, true, true, true, true, true, true, true, true, true, true, true, false, true, true, false, false, false] (by kernel_rfl) (by kernel_rfl) (least_any (s := s) (by repeat (first | assumption | exact ofW_ok _ | exact fullW_W _ | exact wordsD_W _ | exact okW_0 | exact okW_00 | apply okW_orS | apply okW_andS | apply okW_minusS | apply okW_with | apply okW_less | apply okW_or | apply okW_and | apply okW_minus | (apply okW_lit <;> exact ⟨by omega, by omega⟩))) (r168.wide (Nat.zero_le _) (by omega))) ?_
      rintro e_ w392 ⟨rfl, he⟩
      have := leastD_b (fromW s)
      refine ⟨_, rfl, _, rfl, fun act393 f394 => ?_⟩
      clear f363
      have g395 := gr_ext he
      have hS391 := hS161.gr g395
      have szw392 := g395.size
      have e396 := e166.gr g395 no_row
      clear e166
      have r397 := r167.gr g395 (fun _ h => by cases h)
      clear r167
      have r398 := r168.gr g395 (fun _ h => by cases h)
      clear r168
      have bx399 := bx169.gr g395 (by simp)
      clear bx169
      have bx400 := bx170.gr g395 (by simp)
      clear bx170
      have ow401 := ow171.gr g395 (fun _ _ h => by cases h)
      clear ow171
      clear g395 he
      refine ⟨hS391, ?_⟩
      refine AtH.all [30] 3 (by kernel_rfl) (by simp) ⟨?_, trivial⟩
      obtain ⟨ad402, hA403, hb404, hc405, hc406⟩ := ow401.get (k) (by omega) (by omega) (sz := 1) rfl
      rw [show ad402 = ad356 from Option.some.inj (hA403.symm.trans hA357)] at hc405 hc406
      refine OneH.seq f394 [[.ld (.int .i64 (gI (lsD (fromW s) 256) k))]] [(67, .int .i64 (gI (lsD (fromW s) 256) k))] w392 [(w392.cell? (ad356.add ((k : Int).toNat * 1)) = some (.int .i64 (gI (lsD (fromW s) 256) k)))] #[true, true, true, true, true, true, true, true, true, true, true, true, true, true, true, true, true, true, true, true, true, true, true, true, true, true, true, true, true, true, true, true, true, false, false, false] (by kernel_rfl) (by kernel_rfl) (by kernel_rfl) ⟨hc405, trivial⟩ (fun act408 w409 hw410 f407 => ?_)
      obtain rfl : w392 = w409 := hw410.symm
      clear f394
      refine ⟨hS391, ?_⟩
      refine AtH.rd (by kernel_rfl) (fun d v c a w h => by cases d <;> exact h) hS391 [33] [[.as_ (.bool false)]] [(70, .bool false)] #[true, true, true, true, true, true, true, true, true, true, true, true, true, true, true, true, true, true, true, true, true, true, true, true, true, true, true, true, true, true, true, true, true, true, false, false] [((.bool ((gI (lsD (fromW s) 256) k : Int) != (leastD (fromW s))) : Value) = .bool false)] 2 f407 (by kernel_rfl) ⟨(congrArg Value.bool (bneF (by rw [show k = 0 by omega]; exact list_first (by omega)))), trivial⟩ (fun act412 f411 => ?_)
      clear f407
      refine AtH.rd (by kernel_rfl) (fun d v c a w h => by cases d <;> exact h) hS391 [34] [[]] [(71, .bool false)] #[true, true, true, true, true, true, true, true, true, true, true, true, true, true, true, true, true, true, true, true, true, true, true, true, true, true, true, true, true, true, true, true, true, true, true, false] [] 1 f411 (by kernel_rfl) trivial (fun act414 f413 => ?_)
      clear f411
      refine AtH.rd (by kernel_rfl) (fun d v c a w h => by cases d <;> exact h) hS391 [35] [[]] [(72, .bool false)] #[true, true, true, true, true, true, true, true, true, true, true, true, true, true, true, true, true, true, true, true, true, true, true, true, true, true, true, true, true, true, true, true, true, true, true, true] [] 0 f413 (by kernel_rfl) trivial (fun act416 f415 => ?_)
      clear f413
      refine AtH.done (by kernel_rfl) ?_
      clear hS391
      refine t_n ?_
      have f417 := f415.sub (r := [(72, .bool false), (71, .bool false), (70, .bool false), (67, .int .i64 (gI (lsD (fromW s) 256) k)), (69, .int .i64 (leastD (fromW s))), (68, .agg ((s : List Int).map wV).toArray), (66, .pointer (some (ad356.add ((k : Int).toNat * 1)))), (65, .int .i64 (k)), (64, .slice A50 ((lsD (fromW s) 256).length) c51), (63, .bool true), (62, .bool ((k : Int) == 0)), (61, .int .i64 (k)), (58, .bool false), (57, .bool false), (51, .int .i64 (gI (lsD (fromW s) 256) k)), (56, .int .i64 (gI (lsD (fromW s) 256) (k - 1))), (55, .pointer (some (ad201.add ((k - 1 : Int).toNat * 1)))), (54, .int .i64 (k - 1)), (53, .int .i64 (k)), (52, .slice A50 ((lsD (fromW s) 256).length) c51), (50, .pointer (some (ad188.add ((k : Int).toNat * 1)))), (49, .int .i64 (k)), (48, .slice A50 ((lsD (fromW s) 256).length) c51), (47, .bool true), (46, .bool (decide ((k : Int) > 0))), (45, .int .i64 (k)), (8, .int .i64 (k)), (7, .slice A50 ((lsD (fromW s) 256).length) c51), (6, .pointer (some ⟨w14.heap.size, 0, none⟩)), (1, .slice Aa la.length ca)]) ⟨rfl, rfl, rfl, rfl, rfl, rfl, rfl, rfl, rfl, rfl, rfl, rfl, rfl, rfl, rfl, rfl, rfl, rfl, rfl, rfl, rfl, rfl, rfl, rfl, rfl, rfl, rfl, rfl, rfl, rfl, trivial⟩
      clear f415
      refine cond_F f417 rfl ?_
      refine wp_skip ?_
      refine b_n ?_
      refine t_n ?_
      have f418 := f417.sub (r := [(71, .bool false), (70, .bool false), (67, .int .i64 (gI (lsD (fromW s) 256) k)), (69, .int .i64 (leastD (fromW s))), (68, .agg ((s : List Int).map wV).toArray), (66, .pointer (some (ad356.add ((k : Int).toNat * 1)))), (65, .int .i64 (k)), (64, .slice A50 ((lsD (fromW s) 256).length) c51), (63, .bool true), (62, .bool ((k : Int) == 0)), (61, .int .i64 (k)), (58, .bool false), (57, .bool false), (51, .int .i64 (gI (lsD (fromW s) 256) k)), (56, .int .i64 (gI (lsD (fromW s) 256) (k - 1))), (55, .pointer (some (ad201.add ((k - 1 : Int).toNat * 1)))), (54, .int .i64 (k - 1)), (53, .int .i64 (k)), (52, .slice A50 ((lsD (fromW s) 256).length) c51), (50, .pointer (some (ad188.add ((k : Int).toNat * 1)))), (49, .int .i64 (k)), (48, .slice A50 ((lsD (fromW s) 256).length) c51), (47, .bool true), (46, .bool (decide ((k : Int) > 0))), (45, .int .i64 (k)), (8, .int .i64 (k)), (7, .slice A50 ((lsD (fromW s) 256).length) c51), (6, .pointer (some ⟨w14.heap.size, 0, none⟩)), (1, .slice Aa la.length ca)]) ⟨rfl, rfl, rfl, rfl, rfl, rfl, rfl, rfl, rfl, rfl, rfl, rfl, rfl, rfl, rfl, rfl, rfl, rfl, rfl, rfl, rfl, rfl, rfl, rfl, rfl, rfl, rfl, rfl, rfl, trivial⟩
      clear f417
      refine At.start ?_
      refine At.rd f418 3 [[], [.as_ (.int .i64 (k + 1))], []] [(8, .int .i64 (k + 1)), (36, .int .i64 (k + 1)), (35, .int .i64 (k))] [((.int .i64 (IntKind.i64.wrap (k + 1)) : Value) = .int .i64 (k + 1))] (by kernel_rfl) ⟨(w64 (by omega) (by omega)), trivial⟩ (fun act420 f419 => ?_)
      clear f418
      refine At.done rfl ?_
      refine t_n ?_
      have f421 := f419.sub (r := [(8, .int .i64 (k + 1)), (7, .slice A50 ((lsD (fromW s) 256).length) c51), (6, .pointer (some ⟨w14.heap.size, 0, none⟩)), (1, .slice Aa la.length ca)]) ⟨rfl, rfl, rfl, rfl, trivial⟩
      exact ⟨_, (by omega), (k + 1), rfl, f421, e396, r397, r398, bx399, bx400, ow401, (by omega), (by omega), (by omega)⟩
    ·have q422 := ne_of_beq_false h348
     refine AtH.rd (by kernel_rfl) (fun d v c a w h => by cases d <;> exact h) hS161 [26] [[.as_ (.bool false)]] [(63, .bool false)] #[true, true, true, true, true, true, true, true, true, true, true, true, true, true, true, true, true, true, true, true, true, true, true, true, true, true, true, false, false, false, false, false, false, false, false, false] [((.bool ((k : Int) == 0) : Value) = .bool false)] 9 f346 (by kernel_rfl) ⟨(congrArg Value.bool h348), trivial⟩ (fun act424 f423 => ?_)
     clear f346
     refine AtH.rd (by kernel_rfl) (fun d v c a w h => by cases d <;> exact h) hS161 [27] [[]] [(64, undef)] #[true, true, true, true, true, true, true, true, true, true, true, true, true, true, true, true, true, true, true, true, true, true, true, true, true, true, true, true, false, false, false, false, false, false, false, false] [] 8 f423 (by kernel_rfl) trivial (fun act426 f425 => ?_)
     clear f423
     refine AtH.rd (by kernel_rfl) (fun d v c a w h => by cases d <;> exact h) hS161 [28] [[]] [(65, undef)] #[true, true, true, true, true, true, true, true, true, true, true, true, true, true, true, true, true, true, true, true, true, true, true, true, true, true, true, true, true, false, false, false, false, false, false, false] [] 7 f425 (by kernel_rfl) trivial (fun act428 f427 => ?_)
     clear f425
     refine AtH.rd (by kernel_rfl) (fun d v c a w h => by cases d <;> exact h) hS161 [29] [[]] [(66, undef)] #[true, true, true, true, true, true, true, true, true, true, true, true, true, true, true, true, true, true, true, true, true, true, true, true, true, true, true, true, true, true, false, false, false, false, false, false] [] 6 f427 (by kernel_rfl) trivial (fun act430 f429 => ?_)
     clear f427
     refine AtH.rd (by kernel_rfl) (fun d v c a w h => by cases d <;> exact h) hS161 [30] [[]] [(67, undef)] #[true, true, true, true, true, true, true, true, true, true, true, true, true, true, true, true, true, true, true, true, true, true, true, true, true, true, true, true, true, true, true, false, false, false, false, false] [] 5 f429 (by kernel_rfl) trivial (fun act432 f431 => ?_)
     clear f429
     refine AtH.rd (by kernel_rfl) (fun d v c a w h => by cases d <;> exact h) hS161 [31] [[]] [(68, undef)] #[true, true, true, true, true, true, true, true, true, true, true, true, true, true, true, true, true, true, true, true, true, true, true, true, true, true, true, true, true, true, true, true, false, false, false, false] [] 4 f431 (by kernel_rfl) trivial (fun act434 f433 => ?_)
     clear f431
     refine AtH.rd (by kernel_rfl) (fun d v c a w h => by cases d <;> exact h) hS161 [32] [[]] [(69, undef)] #[true, true, true, true, true, true, true, true, true, true, true, true, true, true, true, true, true, true, true, true, true, true, true, true, true, true, true, true, true, true, true, true, true, false, false, false] [] 3 f433 (by kernel_rfl) trivial (fun act436 f435 => ?_)
     clear f433
     refine AtH.rd (by kernel_rfl) (fun d v c a w h => by cases d <;> exact h) hS161 [33] [[]] [(70, undef)] #[true, true, true, true, true, true, true, true, true, true, true, true, true, true, true, true, true, true, true, true, true, true, true, true, true, true, true, true, true, true, true, true, true, true, false, false] [] 2 f435 (by kernel_rfl) trivial (fun act438 f437 => ?_)
     clear f435
     refine AtH.rd (by kernel_rfl) (fun d v c a w h => by cases d <;> exact h) hS161 [34] [[]] [(71, .bool false)] #[true, true, true, true, true, true, true, true, true, true, true, true, true, true, true, true, true, true, true, true, true, true, true, true, true, true, true, true, true, true, true, true, true, true, true, false] [] 1 f437 (by kernel_rfl) trivial (fun act440 f439 => ?_)
     clear f437
     refine AtH.rd (by kernel_rfl) (fun d v c a w h => by cases d <;> exact h) hS161 [35] [[]] [(72, .bool false)] #[true, true, true, true, true, true, true, true, true, true, true, true, true, true, true, true, true, true, true, true, true, true, true, true, true, true, true, true, true, true, true, true, true, true, true, true] [] 0 f439 (by kernel_rfl) trivial (fun act442 f441 => ?_)
     clear f439
     refine AtH.done (by kernel_rfl) ?_
     clear hS161
     refine t_n ?_
     have f443 := f441.sub (r := [(72, .bool false), (71, .bool false), (63, .bool false), (62, .bool ((k : Int) == 0)), (61, .int .i64 (k)), (58, .bool false), (57, .bool false), (51, .int .i64 (gI (lsD (fromW s) 256) k)), (56, .int .i64 (gI (lsD (fromW s) 256) (k - 1))), (55, .pointer (some (ad201.add ((k - 1 : Int).toNat * 1)))), (54, .int .i64 (k - 1)), (53, .int .i64 (k)), (52, .slice A50 ((lsD (fromW s) 256).length) c51), (50, .pointer (some (ad188.add ((k : Int).toNat * 1)))), (49, .int .i64 (k)), (48, .slice A50 ((lsD (fromW s) 256).length) c51), (47, .bool true), (46, .bool (decide ((k : Int) > 0))), (45, .int .i64 (k)), (8, .int .i64 (k)), (7, .slice A50 ((lsD (fromW s) 256).length) c51), (6, .pointer (some ⟨w14.heap.size, 0, none⟩)), (1, .slice Aa la.length ca)]) ⟨rfl, rfl, rfl, rfl, rfl, rfl, rfl, rfl, rfl, rfl, rfl, rfl, rfl, rfl, rfl, rfl, rfl, rfl, rfl, rfl, rfl, rfl, rfl, trivial⟩
     clear f441
     refine cond_F f443 rfl ?_
     refine wp_skip ?_
     refine b_n ?_
     refine t_n ?_
     have f444 := f443.sub (r := [(71, .bool false), (63, .bool false), (62, .bool ((k : Int) == 0)), (61, .int .i64 (k)), (58, .bool false), (57, .bool false), (51, .int .i64 (gI (lsD (fromW s) 256) k)), (56, .int .i64 (gI (lsD (fromW s) 256) (k - 1))), (55, .pointer (some (ad201.add ((k - 1 : Int).toNat * 1)))), (54, .int .i64 (k - 1)), (53, .int .i64 (k)), (52, .slice A50 ((lsD (fromW s) 256).length) c51), (50, .pointer (some (ad188.add ((k : Int).toNat * 1)))), (49, .int .i64 (k)), (48, .slice A50 ((lsD (fromW s) 256).length) c51), (47, .bool true), (46, .bool (decide ((k : Int) > 0))), (45, .int .i64 (k)), (8, .int .i64 (k)), (7, .slice A50 ((lsD (fromW s) 256).length) c51), (6, .pointer (some ⟨w14.heap.size, 0, none⟩)), (1, .slice Aa la.length ca)]) ⟨rfl, rfl, rfl, rfl, rfl, rfl, rfl, rfl, rfl, rfl, rfl, rfl, rfl, rfl, rfl, rfl, rfl, rfl, rfl, rfl, rfl, rfl, trivial⟩
     clear f443
     refine At.start ?_
     refine At.rd f444 3 [[], [.as_ (.int .i64 (k + 1))], []] [(8, .int .i64 (k + 1)), (36, .int .i64 (k + 1)), (35, .int .i64 (k))] [((.int .i64 (IntKind.i64.wrap (k + 1)) : Value) = .int .i64 (k + 1))] (by kernel_rfl) ⟨(w64 (by omega) (by omega)), trivial⟩ (fun act446 f445 => ?_)
     clear f444
     refine At.done rfl ?_
     refine t_n ?_
     have f447 := f445.sub (r := [(8, .int .i64 (k + 1)), (7, .slice A50 ((lsD (fromW s) 256).length) c51), (6, .pointer (some ⟨w14.heap.size, 0, none⟩)), (1, .slice Aa la.length ca)]) ⟨rfl, rfl, rfl, rfl, trivial⟩
     exact ⟨_, (by omega), (k + 1), rfl, f447, e166, r167, r168, bx169, bx170, ow171, (by omega), (by omega), (by omega)⟩
  ·have q448 := of_decide_eq_false h180
   refine AtH.rd (by kernel_rfl) (fun d v c a w h => by cases d <;> exact h) hS161 [10] [[.as_ (.bool false)]] [(47, .bool false)] #[true, true, true, true, true, true, true, true, true, true, true, false, false, false, false, false, false, false, false, false, false, false, false, false, false, false, false, false, false, false, false, false, false, false, false, false] [((.bool (decide ((k : Int) > 0)) : Value) = .bool false)] 25 f178 (by kernel_rfl) ⟨(congrArg Value.bool h180), trivial⟩ (fun act450 f449 => ?_)
   clear f178
   refine AtH.rd (by kernel_rfl) (fun d v c a w h => by cases d <;> exact h) hS161 [11] [[]] [(48, undef)] #[true, true, true, true, true, true, true, true, true, true, true, true, false, false, false, false, false, false, false, false, false, false, false, false, false, false, false, false, false, false, false, false, false, false, false, false] [] 24 f449 (by kernel_rfl) trivial (fun act452 f451 => ?_)
   clear f449
   refine AtH.rd (by kernel_rfl) (fun d v c a w h => by cases d <;> exact h) hS161 [12] [[]] [(49, undef)] #[true, true, true, true, true, true, true, true, true, true, true, true, true, false, false, false, false, false, false, false, false, false, false, false, false, false, false, false, false, false, false, false, false, false, false, false] [] 23 f451 (by kernel_rfl) trivial (fun act454 f453 => ?_)
   clear f451
   refine AtH.rd (by kernel_rfl) (fun d v c a w h => by cases d <;> exact h) hS161 [13] [[]] [(50, undef)] #[true, true, true, true, true, true, true, true, true, true, true, true, true, true, false, false, false, false, false, false, false, false, false, false, false, false, false, false, false, false, false, false, false, false, false, false] [] 22 f453 (by kernel_rfl) trivial (fun act456 f455 => ?_)
   clear f453
   refine AtH.rd (by kernel_rfl) (fun d v c a w h => by cases d <;> exact h) hS161 [14] [[]] [(51, undef)] #[true, true, true, true, true, true, true, true, true, true, true, true, true, true, true, false, false, false, false, false, false, false, false, false, false, false, false, false, false, false, false, false, false, false, false, false] [] 21 f455 (by kernel_rfl) trivial (fun act458 f457 => ?_)
   clear f455
   refine AtH.rd (by kernel_rfl) (fun d v c a w h => by cases d <;> exact h) hS161 [15] [[]] [(52, undef)] #[true, true, true, true, true, true, true, true, true, true, true, true, true, true, true, true, false, false, false, false, false, false, false, false, false, false, false, false, false, false, false, false, false, false, false, false] [] 20 f457 (by kernel_rfl) trivial (fun act460 f459 => ?_)
   clear f457
   refine AtH.rd (by kernel_rfl) (fun d v c a w h => by cases d <;> exact h) hS161 [16] [[]] [(53, undef)] #[true, true, true, true, true, true, true, true, true, true, true, true, true, true, true, true, true, false, false, false, false, false, false, false, false, false, false, false, false, false, false, false, false, false, false, false] [] 19 f459 (by kernel_rfl) trivial (fun act462 f461 => ?_)
   clear f459
   refine AtH.rd (by kernel_rfl) (fun d v c a w h => by cases d <;> exact h) hS161 [17] [[]] [(54, undef)] #[true, true, true, true, true, true, true, true, true, true, true, true, true, true, true, true, true, true, false, false, false, false, false, false, false, false, false, false, false, false, false, false, false, false, false, false] [] 18 f461 (by kernel_rfl) trivial (fun act464 f463 => ?_)
   clear f461
   refine AtH.rd (by kernel_rfl) (fun d v c a w h => by cases d <;> exact h) hS161 [18] [[]] [(55, undef)] #[true, true, true, true, true, true, true, true, true, true, true, true, true, true, true, true, true, true, true, false, false, false, false, false, false, false, false, false, false, false, false, false, false, false, false, false] [] 17 f463 (by kernel_rfl) trivial (fun act466 f465 => ?_)
   clear f463
   refine AtH.rd (by kernel_rfl) (fun d v c a w h => by cases d <;> exact h) hS161 [19] [[]] [(56, undef)] #[true, true, true, true, true, true, true, true, true, true, true, true, true, true, true, true, true, true, true, true, false, false, false, false, false, false, false, false, false, false, false, false, false, false, false, false] [] 16 f465 (by kernel_rfl) trivial (fun act468 f467 => ?_)
   clear f465
   refine AtH.rd (by kernel_rfl) (fun d v c a w h => by cases d <;> exact h) hS161 [20] [[]] [(57, undef)] #[true, true, true, true, true, true, true, true, true, true, true, true, true, true, true, true, true, true, true, true, true, false, false, false, false, false, false, false, false, false, false, false, false, false, false, false] [] 15 f467 (by kernel_rfl) trivial (fun act470 f469 => ?_)
   clear f467
   refine AtH.rd (by kernel_rfl) (fun d v c a w h => by cases d <;> exact h) hS161 [21] [[]] [(58, .bool false)] #[true, true, true, true, true, true, true, true, true, true, true, true, true, true, true, true, true, true, true, true, true, true, false, false, false, false, false, false, false, false, false, false, false, false, false, false] [] 14 f469 (by kernel_rfl) trivial (fun act472 f471 => ?_)
   clear f469
   refine AtH.rd (by kernel_rfl) (fun d v c a w h => by cases d <;> exact h) hS161 [22] [[]] [(59, .bool false)] #[true, true, true, true, true, true, true, true, true, true, true, true, true, true, true, true, true, true, true, true, true, true, true, false, false, false, false, false, false, false, false, false, false, false, false, false] [] 13 f471 (by kernel_rfl) trivial (fun act474 f473 => ?_)
   clear f471
   refine AtH.rd (by kernel_rfl) (fun d v c a w h => by cases d <;> exact h) hS161 [23] [[]] [(60, .bool false)] #[true, true, true, true, true, true, true, true, true, true, true, true, true, true, true, true, true, true, true, true, true, true, true, true, false, false, false, false, false, false, false, false, false, false, false, false] [] 12 f473 (by kernel_rfl) trivial (fun act476 f475 => ?_)
   clear f473
   refine AtH.rd (by kernel_rfl) (fun d v c a w h => by cases d <;> exact h) hS161 [24] [[]] [(61, .int .i64 (k))] #[true, true, true, true, true, true, true, true, true, true, true, true, true, true, true, true, true, true, true, true, true, true, true, true, true, false, false, false, false, false, false, false, false, false, false, false] [] 11 f475 (by kernel_rfl) trivial (fun act478 f477 => ?_)
   clear f475
   refine AtH.rd (by kernel_rfl) (fun d v c a w h => by cases d <;> exact h) hS161 [25] [[]] [(62, .bool ((k : Int) == 0))] #[true, true, true, true, true, true, true, true, true, true, true, true, true, true, true, true, true, true, true, true, true, true, true, true, true, true, false, false, false, false, false, false, false, false, false, false] [] 10 f477 (by kernel_rfl) trivial (fun act480 f479 => ?_)
   clear f477
   rcases Bool.eq_false_or_eq_true ((k : Int) == 0) with h481 | h481
   ·have q482 := eq_of_beq h481
    refine AtH.rd (by kernel_rfl) (fun d v c a w h => by cases d <;> exact h) hS161 [26] [[.as_ (.bool true)]] [(63, .bool true)] #[true, true, true, true, true, true, true, true, true, true, true, true, true, true, true, true, true, true, true, true, true, true, true, true, true, true, true, false, false, false, false, false, false, false, false, false] [((.bool ((k : Int) == 0) : Value) = .bool true)] 9 f479 (by kernel_rfl) ⟨(congrArg Value.bool h481), trivial⟩ (fun act484 f483 => ?_)
    clear f479
    refine AtH.rd (by kernel_rfl) (fun d v c a w h => by cases d <;> exact h) hS161 [27] [[]] [(64, .slice A50 ((lsD (fromW s) 256).length) c51)] #[true, true, true, true, true, true, true, true, true, true, true, true, true, true, true, true, true, true, true, true, true, true, true, true, true, true, true, true, false, false, false, false, false, false, false, false] [] 8 f483 (by kernel_rfl) trivial (fun act486 f485 => ?_)
    clear f483
    refine AtH.rd (by kernel_rfl) (fun d v c a w h => by cases d <;> exact h) hS161 [28] [[]] [(65, .int .i64 (k))] #[true, true, true, true, true, true, true, true, true, true, true, true, true, true, true, true, true, true, true, true, true, true, true, true, true, true, true, true, true, false, false, false, false, false, false, false] [] 7 f485 (by kernel_rfl) trivial (fun act488 f487 => ?_)
    clear f485
    obtain ⟨ad489, hA490, hb493, hc492, hc491⟩ := ow171.get (k) (by omega) (by omega) (sz := 1) rfl
    refine AtH.rd (by kernel_rfl) (fun d v c a w h => by cases d <;> exact h) hS161 [29] [[.ad ad489]] [(66, .pointer (some (ad489.add ((k : Int).toNat * 1))))] #[true, true, true, true, true, true, true, true, true, true, true, true, true, true, true, true, true, true, true, true, true, true, true, true, true, true, true, true, true, true, false, false, false, false, false, false] [(A50 = some ad489), (0 ≤ (k : Int)), ((k : Int) < ((lsD (fromW s) 256).length : Nat))] 6 f487 (by kernel_rfl) ⟨hA490, (by omega), (by omega), trivial⟩ (fun act495 f494 => ?_)
    clear f487
    refine AtH.rd (by kernel_rfl) (fun d v c a w h => by cases d <;> exact h) hS161 [31] [[.cs ((s : List Int).map wV)]] [(68, .agg ((s : List Int).map wV).toArray)] #[true, true, true, true, true, true, true, true, true, true, true, true, true, true, true, true, true, true, true, true, true, true, true, true, true, true, true, true, true, true, false, true, false, false, false, false] [(((s : List Int).map wV).length = 4), (∀ (j : Nat) (v : Value), ((s : List Int).map wV)[j]? = some v → ∃ j_ : Nat, Cs146[j_]? = some (((⟨w14.heap.size, 0, none⟩ : Addr).add j), v))] 5 f494 (by kernel_rfl) ⟨(by simp only [List.length_map, List.length_set, List.length_replicate, List.length_cons, List.length_nil]; first | done | assumption | exact from_len _ | exact of_len _ | exact ofZ_len _ | exact (ofW_ok _).1 | exact (fullW_W _).1 | exact (okW_with (by assumption)).1 | exact (okW_less (by assumption)).1 | exact put_len (from_len _) | exact orD_len _ _ | exact andD_len _ _ | exact minusD_len _ _ | exact fullD_len _ | (refine okLen ?_; (repeat (first | assumption | exact ofW_ok _ | exact fullW_W _ | apply okW_with | apply okW_less | refine okW_orS ?_ ?_ | refine okW_andS ?_ ?_ | refine okW_minusS ?_ ?_)); done) | omega | rfl), (fun j v hv => List.getElem?_of_mem (by rw [hCs147]; exact List.mem_append.2 (.inr (blkC_in hv)))), trivial⟩ (fun act497 f496 => ?_)
    clear f494
    refine AtH.all [30, 32] 4 (by kernel_rfl) (by simp) ⟨?_, ?_, trivial⟩
    ·refine OneH.seq f496 [[.ld (.int .i64 (gI (lsD (fromW s) 256) k))]] [(67, .int .i64 (gI (lsD (fromW s) 256) k))] w162 [(w162.cell? (ad489.add ((k : Int).toNat * 1)) = some (.int .i64 (gI (lsD (fromW s) 256) k)))] #[true, true, true, true, true, true, true, true, true, true, true, true, true, true, true, true, true, true, true, true, true, true, true, true, true, true, true, true, true, true, true, true, false, false, false, false] (by kernel_rfl) (by kernel_rfl) (by kernel_rfl) ⟨hc492, trivial⟩ (fun act499 w500 hw501 f498 => ?_)
     obtain rfl : w162 = w500 := hw501.symm
     clear f496
     refine ⟨hS161, ?_⟩
     refine AtH.all [32] 3 (by kernel_rfl) (by simp) ⟨?_, trivial⟩
     refine OneH.call f498 22 #[.agg ((s : List Int).map wV).toArray] (some 69) #[true, true, true, true, true, true, true, true, true, true, true, true, true, true, true, true, true, true, true, true, true, true, true, true, true, true, true, true, true, true, true, true, true, false, false, false] (by kernel_rfl) (by kernel_rfl) (least_any (s := s) (by repeat (first | assumption | exact ofW_ok _ | exact fullW_W _ | exact wordsD_W _ | exact okW_0 | exact okW_00 | apply okW_orS | apply okW_andS | apply okW_minusS | apply okW_with | apply okW_less | apply okW_or | apply okW_and | apply okW_minus | (apply okW_lit <;> exact ⟨by omega, by omega⟩))) (r168.wide (Nat.zero_le _) (by omega))) ?_
     rintro e_ w503 ⟨rfl, he⟩
     have := leastD_b (fromW s)
     refine ⟨_, rfl, _, rfl, fun act504 f505 => ?_⟩
     clear f498
     have g506 := gr_ext he
     have hS502 := hS161.gr g506
     have szw503 := g506.size
     have e507 := e166.gr g506 no_row
     clear e166
     have r508 := r167.gr g506 (fun _ h => by cases h)
     clear r167
     have r509 := r168.gr g506 (fun _ h => by cases h)
     clear r168
     have bx510 := bx169.gr g506 (by simp)
     clear bx169
     have bx511 := bx170.gr g506 (by simp)
     clear bx170
     have ow512 := ow171.gr g506 (fun _ _ h => by cases h)
     clear ow171
     clear g506 he
     refine ⟨hS502, ?_⟩
     refine AtH.rd (by kernel_rfl) (fun d v c a w h => by cases d <;> exact h) hS502 [33] [[.as_ (.bool false)]] [(70, .bool false)] #[true, true, true, true, true, true, true, true, true, true, true, true, true, true, true, true, true, true, true, true, true, true, true, true, true, true, true, true, true, true, true, true, true, true, false, false] [((.bool ((gI (lsD (fromW s) 256) k : Int) != (leastD (fromW s))) : Value) = .bool false)] 2 f505 (by kernel_rfl) ⟨(congrArg Value.bool (bneF (by rw [show k = 0 by omega]; exact list_first (by omega)))), trivial⟩ (fun act514 f513 => ?_)
     clear f505
     refine AtH.rd (by kernel_rfl) (fun d v c a w h => by cases d <;> exact h) hS502 [34] [[]] [(71, .bool false)] #[true, true, true, true, true, true, true, true, true, true, true, true, true, true, true, true, true, true, true, true, true, true, true, true, true, true, true, true, true, true, true, true, true, true, true, false] [] 1 f513 (by kernel_rfl) trivial (fun act516 f515 => ?_)
     clear f513
     refine AtH.rd (by kernel_rfl) (fun d v c a w h => by cases d <;> exact h) hS502 [35] [[]] [(72, .bool false)] #[true, true, true, true, true, true, true, true, true, true, true, true, true, true, true, true, true, true, true, true, true, true, true, true, true, true, true, true, true, true, true, true, true, true, true, true] [] 0 f515 (by kernel_rfl) trivial (fun act518 f517 => ?_)
     clear f515
     refine AtH.done (by kernel_rfl) ?_
     clear hS502
     refine t_n ?_
     have f519 := f517.sub (r := [(72, .bool false), (71, .bool false), (70, .bool false), (69, .int .i64 (leastD (fromW s))), (67, .int .i64 (gI (lsD (fromW s) 256) k)), (68, .agg ((s : List Int).map wV).toArray), (66, .pointer (some (ad489.add ((k : Int).toNat * 1)))), (65, .int .i64 (k)), (64, .slice A50 ((lsD (fromW s) 256).length) c51), (63, .bool true), (62, .bool ((k : Int) == 0)), (61, .int .i64 (k)), (58, .bool false), (47, .bool false), (46, .bool (decide ((k : Int) > 0))), (45, .int .i64 (k)), (8, .int .i64 (k)), (7, .slice A50 ((lsD (fromW s) 256).length) c51), (6, .pointer (some ⟨w14.heap.size, 0, none⟩)), (1, .slice Aa la.length ca)]) ⟨rfl, rfl, rfl, rfl, rfl, rfl, rfl, rfl, rfl, rfl, rfl, rfl, rfl, rfl, rfl, rfl, rfl, rfl, rfl, rfl, trivial⟩
     clear f517
     refine cond_F f519 rfl ?_
     refine wp_skip ?_
     refine b_n ?_
     refine t_n ?_
     have f520 := f519.sub (r := [(71, .bool false), (70, .bool false), (69, .int .i64 (leastD (fromW s))), (67, .int .i64 (gI (lsD (fromW s) 256) k)), (68, .agg ((s : List Int).map wV).toArray), (66, .pointer (some (ad489.add ((k : Int).toNat * 1)))), (65, .int .i64 (k)), (64, .slice A50 ((lsD (fromW s) 256).length) c51), (63, .bool true), (62, .bool ((k : Int) == 0)), (61, .int .i64 (k)), (58, .bool false), (47, .bool false), (46, .bool (decide ((k : Int) > 0))), (45, .int .i64 (k)), (8, .int .i64 (k)), (7, .slice A50 ((lsD (fromW s) 256).length) c51), (6, .pointer (some ⟨w14.heap.size, 0, none⟩)), (1, .slice Aa la.length ca)]) ⟨rfl, rfl, rfl, rfl, rfl, rfl, rfl, rfl, rfl, rfl, rfl, rfl, rfl, rfl, rfl, rfl, rfl, rfl, rfl, trivial⟩
     clear f519
     refine At.start ?_
     refine At.rd f520 3 [[], [.as_ (.int .i64 (k + 1))], []] [(8, .int .i64 (k + 1)), (36, .int .i64 (k + 1)), (35, .int .i64 (k))] [((.int .i64 (IntKind.i64.wrap (k + 1)) : Value) = .int .i64 (k + 1))] (by kernel_rfl) ⟨(w64 (by omega) (by omega)), trivial⟩ (fun act522 f521 => ?_)
     clear f520
     refine At.done rfl ?_
     refine t_n ?_
     have f523 := f521.sub (r := [(8, .int .i64 (k + 1)), (7, .slice A50 ((lsD (fromW s) 256).length) c51), (6, .pointer (some ⟨w14.heap.size, 0, none⟩)), (1, .slice Aa la.length ca)]) ⟨rfl, rfl, rfl, rfl, trivial⟩
     exact ⟨_, (by omega), (k + 1), rfl, f523, e507, r508, r509, bx510, bx511, ow512, (by omega), (by omega), (by omega)⟩
    ·refine OneH.call f496 22 #[.agg ((s : List Int).map wV).toArray] (some 69) #[true, true, true, true, true, true, true, true, true, true, true, true, true, true, true, true, true, true, true, true, true, true, true, true, true, true, true, true, true, true, false, true, true, false, false, false] (by kernel_rfl) (by kernel_rfl) (least_any (s := s) (by repeat (first | assumption | exact ofW_ok _ | exact fullW_W _ | exact wordsD_W _ | exact okW_0 | exact okW_00 | apply okW_orS | apply okW_andS | apply okW_minusS | apply okW_with | apply okW_less | apply okW_or | apply okW_and | apply okW_minus | (apply okW_lit <;> exact ⟨by omega, by omega⟩))) (r168.wide (Nat.zero_le _) (by omega))) ?_
     rintro e_ w525 ⟨rfl, he⟩
     have := leastD_b (fromW s)
     refine ⟨_, rfl, _, rfl, fun act526 f527 => ?_⟩
     clear f496
     have g528 := gr_ext he
     have hS524 := hS161.gr g528
     have szw525 := g528.size
     have e529 := e166.gr g528 no_row
     clear e166
     have r530 := r167.gr g528 (fun _ h => by cases h)
     clear r167
     have r531 := r168.gr g528 (fun _ h => by cases h)
     clear r168
     have bx532 := bx169.gr g528 (by simp)
     clear bx169
     have bx533 := bx170.gr g528 (by simp)
     clear bx170
     have ow534 := ow171.gr g528 (fun _ _ h => by cases h)
     clear ow171
     clear g528 he
     refine ⟨hS524, ?_⟩
     refine AtH.all [30] 3 (by kernel_rfl) (by simp) ⟨?_, trivial⟩
     obtain ⟨ad535, hA536, hb537, hc538, hc539⟩ := ow534.get (k) (by omega) (by omega) (sz := 1) rfl
     rw [show ad535 = ad489 from Option.some.inj (hA536.symm.trans hA490)] at hc538 hc539
     refine OneH.seq f527 [[.ld (.int .i64 (gI (lsD (fromW s) 256) k))]] [(67, .int .i64 (gI (lsD (fromW s) 256) k))] w525 [(w525.cell? (ad489.add ((k : Int).toNat * 1)) = some (.int .i64 (gI (lsD (fromW s) 256) k)))] #[true, true, true, true, true, true, true, true, true, true, true, true, true, true, true, true, true, true, true, true, true, true, true, true, true, true, true, true, true, true, true, true, true, false, false, false] (by kernel_rfl) (by kernel_rfl) (by kernel_rfl) ⟨hc538, trivial⟩ (fun act541 w542 hw543 f540 => ?_)
     obtain rfl : w525 = w542 := hw543.symm
     clear f527
     refine ⟨hS524, ?_⟩
     refine AtH.rd (by kernel_rfl) (fun d v c a w h => by cases d <;> exact h) hS524 [33] [[.as_ (.bool false)]] [(70, .bool false)] #[true, true, true, true, true, true, true, true, true, true, true, true, true, true, true, true, true, true, true, true, true, true, true, true, true, true, true, true, true, true, true, true, true, true, false, false] [((.bool ((gI (lsD (fromW s) 256) k : Int) != (leastD (fromW s))) : Value) = .bool false)] 2 f540 (by kernel_rfl) ⟨(congrArg Value.bool (bneF (by rw [show k = 0 by omega]; exact list_first (by omega)))), trivial⟩ (fun act545 f544 => ?_)
     clear f540
     refine AtH.rd (by kernel_rfl) (fun d v c a w h => by cases d <;> exact h) hS524 [34] [[]] [(71, .bool false)] #[true, true, true, true, true, true, true, true, true, true, true, true, true, true, true, true, true, true, true, true, true, true, true, true, true, true, true, true, true, true, true, true, true, true, true, false] [] 1 f544 (by kernel_rfl) trivial (fun act547 f546 => ?_)
     clear f544
     refine AtH.rd (by kernel_rfl) (fun d v c a w h => by cases d <;> exact h) hS524 [35] [[]] [(72, .bool false)] #[true, true, true, true, true, true, true, true, true, true, true, true, true, true, true, true, true, true, true, true, true, true, true, true, true, true, true, true, true, true, true, true, true, true, true, true] [] 0 f546 (by kernel_rfl) trivial (fun act549 f548 => ?_)
     clear f546
     refine AtH.done (by kernel_rfl) ?_
     clear hS524
     refine t_n ?_
     have f550 := f548.sub (r := [(72, .bool false), (71, .bool false), (70, .bool false), (67, .int .i64 (gI (lsD (fromW s) 256) k)), (69, .int .i64 (leastD (fromW s))), (68, .agg ((s : List Int).map wV).toArray), (66, .pointer (some (ad489.add ((k : Int).toNat * 1)))), (65, .int .i64 (k)), (64, .slice A50 ((lsD (fromW s) 256).length) c51), (63, .bool true), (62, .bool ((k : Int) == 0)), (61, .int .i64 (k)), (58, .bool false), (47, .bool false), (46, .bool (decide ((k : Int) > 0))), (45, .int .i64 (k)), (8, .int .i64 (k)), (7, .slice A50 ((lsD (fromW s) 256).length) c51), (6, .pointer (some ⟨w14.heap.size, 0, none⟩)), (1, .slice Aa la.length ca)]) ⟨rfl, rfl, rfl, rfl, rfl, rfl, rfl, rfl, rfl, rfl, rfl, rfl, rfl, rfl, rfl, rfl, rfl, rfl, rfl, rfl, trivial⟩
     clear f548
     refine cond_F f550 rfl ?_
     refine wp_skip ?_
     refine b_n ?_
     refine t_n ?_
     have f551 := f550.sub (r := [(71, .bool false), (70, .bool false), (67, .int .i64 (gI (lsD (fromW s) 256) k)), (69, .int .i64 (leastD (fromW s))), (68, .agg ((s : List Int).map wV).toArray), (66, .pointer (some (ad489.add ((k : Int).toNat * 1)))), (65, .int .i64 (k)), (64, .slice A50 ((lsD (fromW s) 256).length) c51), (63, .bool true), (62, .bool ((k : Int) == 0)), (61, .int .i64 (k)), (58, .bool false), (47, .bool false), (46, .bool (decide ((k : Int) > 0))), (45, .int .i64 (k)), (8, .int .i64 (k)), (7, .slice A50 ((lsD (fromW s) 256).length) c51), (6, .pointer (some ⟨w14.heap.size, 0, none⟩)), (1, .slice Aa la.length ca)]) ⟨rfl, rfl, rfl, rfl, rfl, rfl, rfl, rfl, rfl, rfl, rfl, rfl, rfl, rfl, rfl, rfl, rfl, rfl, rfl, trivial⟩
     clear f550
     refine At.start ?_
     refine At.rd f551 3 [[], [.as_ (.int .i64 (k + 1))], []] [(8, .int .i64 (k + 1)), (36, .int .i64 (k + 1)), (35, .int .i64 (k))] [((.int .i64 (IntKind.i64.wrap (k + 1)) : Value) = .int .i64 (k + 1))] (by kernel_rfl) ⟨(w64 (by omega) (by omega)), trivial⟩ (fun act553 f552 => ?_)
     clear f551
     refine At.done rfl ?_
     refine t_n ?_
     have f554 := f552.sub (r := [(8, .int .i64 (k + 1)), (7, .slice A50 ((lsD (fromW s) 256).length) c51), (6, .pointer (some ⟨w14.heap.size, 0, none⟩)), (1, .slice Aa la.length ca)]) ⟨rfl, rfl, rfl, rfl, trivial⟩
     exact ⟨_, (by omega), (k + 1), rfl, f554, e529, r530, r531, bx532, bx533, ow534, (by omega), (by omega), (by omega)⟩
   ·have q555 := ne_of_beq_false h481
    refine AtH.rd (by kernel_rfl) (fun d v c a w h => by cases d <;> exact h) hS161 [26] [[.as_ (.bool false)]] [(63, .bool false)] #[true, true, true, true, true, true, true, true, true, true, true, true, true, true, true, true, true, true, true, true, true, true, true, true, true, true, true, false, false, false, false, false, false, false, false, false] [((.bool ((k : Int) == 0) : Value) = .bool false)] 9 f479 (by kernel_rfl) ⟨(congrArg Value.bool h481), trivial⟩ (fun act557 f556 => ?_)
    clear f479
    refine AtH.rd (by kernel_rfl) (fun d v c a w h => by cases d <;> exact h) hS161 [27] [[]] [(64, undef)] #[true, true, true, true, true, true, true, true, true, true, true, true, true, true, true, true, true, true, true, true, true, true, true, true, true, true, true, true, false, false, false, false, false, false, false, false] [] 8 f556 (by kernel_rfl) trivial (fun act559 f558 => ?_)
    clear f556
    refine AtH.rd (by kernel_rfl) (fun d v c a w h => by cases d <;> exact h) hS161 [28] [[]] [(65, undef)] #[true, true, true, true, true, true, true, true, true, true, true, true, true, true, true, true, true, true, true, true, true, true, true, true, true, true, true, true, true, false, false, false, false, false, false, false] [] 7 f558 (by kernel_rfl) trivial (fun act561 f560 => ?_)
    clear f558
    refine AtH.rd (by kernel_rfl) (fun d v c a w h => by cases d <;> exact h) hS161 [29] [[]] [(66, undef)] #[true, true, true, true, true, true, true, true, true, true, true, true, true, true, true, true, true, true, true, true, true, true, true, true, true, true, true, true, true, true, false, false, false, false, false, false] [] 6 f560 (by kernel_rfl) trivial (fun act563 f562 => ?_)
    clear f560
    refine AtH.rd (by kernel_rfl) (fun d v c a w h => by cases d <;> exact h) hS161 [30] [[]] [(67, undef)] #[true, true, true, true, true, true, true, true, true, true, true, true, true, true, true, true, true, true, true, true, true, true, true, true, true, true, true, true, true, true, true, false, false, false, false, false] [] 5 f562 (by kernel_rfl) trivial (fun act565 f564 => ?_)
    clear f562
    refine AtH.rd (by kernel_rfl) (fun d v c a w h => by cases d <;> exact h) hS161 [31] [[]] [(68, undef)] #[true, true, true, true, true, true, true, true, true, true, true, true, true, true, true, true, true, true, true, true, true, true, true, true, true, true, true, true, true, true, true, true, false, false, false, false] [] 4 f564 (by kernel_rfl) trivial (fun act567 f566 => ?_)
    clear f564
    refine AtH.rd (by kernel_rfl) (fun d v c a w h => by cases d <;> exact h) hS161 [32] [[]] [(69, undef)] #[true, true, true, true, true, true, true, true, true, true, true, true, true, true, true, true, true, true, true, true, true, true, true, true, true, true, true, true, true, true, true, true, true, false, false, false] [] 3 f566 (by kernel_rfl) trivial (fun act569 f568 => ?_)
    clear f566
    refine AtH.rd (by kernel_rfl) (fun d v c a w h => by cases d <;> exact h) hS161 [33] [[]] [(70, undef)] #[true, true, true, true, true, true, true, true, true, true, true, true, true, true, true, true, true, true, true, true, true, true, true, true, true, true, true, true, true, true, true, true, true, true, false, false] [] 2 f568 (by kernel_rfl) trivial (fun act571 f570 => ?_)
    clear f568
    refine AtH.rd (by kernel_rfl) (fun d v c a w h => by cases d <;> exact h) hS161 [34] [[]] [(71, .bool false)] #[true, true, true, true, true, true, true, true, true, true, true, true, true, true, true, true, true, true, true, true, true, true, true, true, true, true, true, true, true, true, true, true, true, true, true, false] [] 1 f570 (by kernel_rfl) trivial (fun act573 f572 => ?_)
    clear f570
    refine AtH.rd (by kernel_rfl) (fun d v c a w h => by cases d <;> exact h) hS161 [35] [[]] [(72, .bool false)] #[true, true, true, true, true, true, true, true, true, true, true, true, true, true, true, true, true, true, true, true, true, true, true, true, true, true, true, true, true, true, true, true, true, true, true, true] [] 0 f572 (by kernel_rfl) trivial (fun act575 f574 => ?_)
    clear f572
    refine AtH.done (by kernel_rfl) ?_
    clear hS161
    refine t_n ?_
    have f576 := f574.sub (r := [(72, .bool false), (71, .bool false), (63, .bool false), (62, .bool ((k : Int) == 0)), (61, .int .i64 (k)), (58, .bool false), (47, .bool false), (46, .bool (decide ((k : Int) > 0))), (45, .int .i64 (k)), (8, .int .i64 (k)), (7, .slice A50 ((lsD (fromW s) 256).length) c51), (6, .pointer (some ⟨w14.heap.size, 0, none⟩)), (1, .slice Aa la.length ca)]) ⟨rfl, rfl, rfl, rfl, rfl, rfl, rfl, rfl, rfl, rfl, rfl, rfl, rfl, trivial⟩
    clear f574
    refine cond_F f576 rfl ?_
    refine wp_skip ?_
    refine b_n ?_
    refine t_n ?_
    have f577 := f576.sub (r := [(71, .bool false), (63, .bool false), (62, .bool ((k : Int) == 0)), (61, .int .i64 (k)), (58, .bool false), (47, .bool false), (46, .bool (decide ((k : Int) > 0))), (45, .int .i64 (k)), (8, .int .i64 (k)), (7, .slice A50 ((lsD (fromW s) 256).length) c51), (6, .pointer (some ⟨w14.heap.size, 0, none⟩)), (1, .slice Aa la.length ca)]) ⟨rfl, rfl, rfl, rfl, rfl, rfl, rfl, rfl, rfl, rfl, rfl, rfl, trivial⟩
    clear f576
    refine At.start ?_
    refine At.rd f577 3 [[], [.as_ (.int .i64 (k + 1))], []] [(8, .int .i64 (k + 1)), (36, .int .i64 (k + 1)), (35, .int .i64 (k))] [((.int .i64 (IntKind.i64.wrap (k + 1)) : Value) = .int .i64 (k + 1))] (by kernel_rfl) ⟨(w64 (by omega) (by omega)), trivial⟩ (fun act579 f578 => ?_)
    clear f577
    refine At.done rfl ?_
    refine t_n ?_
    have f580 := f578.sub (r := [(8, .int .i64 (k + 1)), (7, .slice A50 ((lsD (fromW s) 256).length) c51), (6, .pointer (some ⟨w14.heap.size, 0, none⟩)), (1, .slice Aa la.length ca)]) ⟨rfl, rfl, rfl, rfl, trivial⟩
    exact ⟨_, (by omega), (k + 1), rfl, f580, e166, r167, r168, bx169, bx170, ow171, (by omega), (by omega), (by omega)⟩
 ·have q581 := of_decide_eq_false h138
  refine wp_exit ?_
  refine t_e ?_
  refine t_e ?_
  refine b_e ?_
  refine t_n ?_
  have f582 := f137.sub (r := [(7, .slice A50 ((lsD (fromW s) 256).length) c51), (6, .pointer (some ⟨w14.heap.size, 0, none⟩)), (1, .slice Aa la.length ca)]) ⟨rfl, rfl, rfl, trivial⟩
  clear f137
  refine wp_seq ?_
  refine At.start ?_
  refine At.rd f582 1 [[]] [(9, .bool true)] [] (by kernel_rfl) trivial (fun act584 f583 => ?_)
  clear f582
  refine At.done rfl ?_
  refine t_n ?_
  refine wp_seq ?_
  refine wp_seq ?_
  refine At.start ?_
  refine At.rd f583 1 [[]] [(10, .int .i64 (0))] [] (by kernel_rfl) trivial (fun act586 f585 => ?_)
  clear f583
  refine At.done rfl ?_
  refine t_n ?_
  refine wp_block ?_
  have f587 := f585.sub (r := [(10, .int .i64 (0)), (9, .bool true), (7, .slice A50 ((lsD (fromW s) 256).length) c51), (6, .pointer (some ⟨w14.heap.size, 0, none⟩)), (1, .slice Aa la.length ca)]) ⟨rfl, rfl, rfl, rfl, rfl, trivial⟩
  refine loop_g (fun (m_ : Nat) a_ w_ => ∃ (j : Int) (fi : Bool), m_ = ((la.length : Int) - j).toNat ∧ (Frm 127 a_ [(10, .int .i64 (j)), (9, .bool (fi)), (7, .slice A50 ((lsD (fromW s) 256).length) c51), (6, .pointer (some ⟨w14.heap.size, 0, none⟩)), (1, .slice Aa la.length ca)]) ∧ (Ext w w_) ∧ (RdI w_ 0 w.heap.size Aa la) ∧ (RdT w_ 0 w.heap.size) ∧ (Bx w_ (w.heap.size) ((s : List Int).map wV) 25) ∧ (Bx w_ (w14.heap.size) ((s : List Int).map wV) 26) ∧ (OwnR w_ (Sx (w38.heap.size) []) A50 c51 3 ((lsD (fromW s) 256) : List Int)) ∧ (0 ≤ j) ∧ (j ≤ (la.length : Int)) ∧ (fi = decide (FineT (la.take j.toNat))) ∧ (w38.heap.size ≤ w_.heap.size)) _ ⟨0, true, rfl, f587, e124, r127, r128, bx129, bx130, ow131, (by omega), (by omega), fine_0, (by omega)⟩ ?_
  clear f587 f585
  clear r127
  clear r128
  clear bx129
  clear bx130
  clear ow131
  clear e124
  intro m_ act588 w589 ⟨j, fi, hm591, f592, e590, r593, r594, bx595, bx596, ow597, i598, i599, hfi, i600⟩
  have szw589 := e590.size
  have := bx595.lt
  have := bx596.lt
  refine wp_seq ?_
  refine wp_seq ?_
  refine At.start ?_
  refine At.rd f592 4 [[], [], [], []] [(76, .bool (decide ((j : Int) < ((la.length : Nat) : Int)))), (75, .int .i64 (((la.length : Nat) : Int))), (74, .slice Aa la.length ca), (73, .int .i64 (j))] [] (by kernel_rfl) trivial (fun act602 f601 => ?_)
  clear f592
  refine At.done rfl ?_
  refine t_n ?_
  have f603 := f601.sub (r := [(76, .bool (decide ((j : Int) < ((la.length : Nat) : Int)))), (10, .int .i64 (j)), (9, .bool (fi)), (7, .slice A50 ((lsD (fromW s) 256).length) c51), (6, .pointer (some ⟨w14.heap.size, 0, none⟩)), (1, .slice Aa la.length ca)]) ⟨rfl, rfl, rfl, rfl, rfl, rfl, trivial⟩
  clear f601
  refine cond_S f603 (t := decide ((j : Int) < ((la.length : Nat) : Int))) rfl (fun h604 => ?_) (fun h604 => ?_)
  ·have q605 := of_decide_eq_true h604
   refine wp_skip ?_
   refine t_n ?_
   have f606 := f603.sub (r := [(10, .int .i64 (j)), (9, .bool (fi)), (7, .slice A50 ((lsD (fromW s) 256).length) c51), (6, .pointer (some ⟨w14.heap.size, 0, none⟩)), (1, .slice Aa la.length ca)]) ⟨rfl, rfl, rfl, rfl, rfl, trivial⟩
   clear f603
   refine wp_seq ?_
   refine wp_block ?_
   rcases Bool.eq_false_or_eq_true (fi) with h607 | h607
   ·obtain ⟨ad609, hA610, _, _, hc611⟩ := RdI.get r593 (j) (by omega) (by omega)
    rcases Bool.eq_false_or_eq_true (decide ((gI la (j) : Int) ≥ 0)) with h612 | h612
    ·have q613 := of_decide_eq_true h612
     obtain ⟨ad614, hA615, _, _, hc616⟩ := RdI.get r593 (j) (by omega) (by omega)
     rcases Bool.eq_false_or_eq_true (decide ((gI la (j) : Int) ≤ 255)) with h617 | h617
     ·have q618 := of_decide_eq_true h617
      rcases Bool.eq_false_or_eq_true ((j : Int) == 0) with h619 | h619
      ·have q620 := eq_of_beq h619
       refine drawn_ro f606 (by kernel_rfl) (by kernel_rfl) [[], [.as_ (.bool true)], [], [], [.ad ad609], [.ld (.int .i64 (gI la (j)))], [], [], [.as_ (.bool true)], [], [], [.ad ad614], [.ld (.int .i64 (gI la (j)))], [], [], [.as_ (.bool true)], [], [], [.as_ (.bool true)], [], [], [], [], [], [], [], [], [], [], [], [], []] [(9, .bool true), (109, .bool true), (108, .bool true), (107, undef), (106, undef), (105, undef), (104, undef), (103, undef), (102, undef), (101, undef), (100, undef), (99, undef), (98, undef), (97, .bool true), (96, .bool ((j : Int) == 0)), (95, .int .i64 (j)), (94, .bool true), (93, .bool (decide ((gI la (j) : Int) ≤ 255))), (92, .bool (decide ((gI la (j) : Int) ≤ 255))), (91, .int .i64 (gI la (j))), (90, .pointer (some (ad614.add ((j : Int).toNat * 1)))), (89, .int .i64 (j)), (88, .slice Aa la.length ca), (87, .bool true), (86, .bool (decide ((gI la (j) : Int) ≥ 0))), (85, .bool (decide ((gI la (j) : Int) ≥ 0))), (84, .int .i64 (gI la (j))), (83, .pointer (some (ad609.add ((j : Int).toNat * 1)))), (82, .int .i64 (j)), (81, .slice Aa la.length ca), (80, .bool true), (79, .bool (fi))] [((.bool (fi) : Value) = .bool true), (Aa = some ad609), (0 ≤ (j : Int)), ((j : Int) < (la.length : Nat)), (w589.cell? (ad609.add ((j : Int).toNat * 1)) = some (.int .i64 (gI la (j)))), ((.bool (decide ((gI la (j) : Int) ≥ 0)) : Value) = .bool true), (Aa = some ad614), (0 ≤ (j : Int)), ((j : Int) < (la.length : Nat)), (w589.cell? (ad614.add ((j : Int).toNat * 1)) = some (.int .i64 (gI la (j)))), ((.bool (decide ((gI la (j) : Int) ≤ 255)) : Value) = .bool true), ((.bool ((j : Int) == 0) : Value) = .bool true)] (by kernel_rfl) ⟨(congrArg Value.bool h607), hA610, (by omega), (by omega), hc611, (congrArg Value.bool h612), hA615, (by omega), (by omega), hc616, (congrArg Value.bool h617), (congrArg Value.bool h619), trivial⟩ (fun act622 w623 hw624 f621 => ?_)
       clear f606
       have g625 := gr_drew hw624
       have szw623 := g625.size
       have e626 := e590.gr g625 no_row
       clear e590
       have r627 := r593.gr g625 (fun _ h => by cases h)
       clear r593
       have r628 := r594.gr g625 (fun _ h => by cases h)
       clear r594
       have bx629 := bx595.gr g625 (by simp)
       clear bx595
       have bx630 := bx596.gr g625 (by simp)
       clear bx596
       have ow631 := ow597.gr g625 (fun _ _ h => by cases h)
       clear ow597
       clear g625 hw624
       refine b_n ?_
       refine t_n ?_
       have f632 := f621.sub (r := [(9, .bool true), (108, .bool true), (97, .bool true), (96, .bool ((j : Int) == 0)), (95, .int .i64 (j)), (92, .bool (decide ((gI la (j) : Int) ≤ 255))), (91, .int .i64 (gI la (j))), (90, .pointer (some (ad614.add ((j : Int).toNat * 1)))), (89, .int .i64 (j)), (88, .slice Aa la.length ca), (85, .bool (decide ((gI la (j) : Int) ≥ 0))), (84, .int .i64 (gI la (j))), (83, .pointer (some (ad609.add ((j : Int).toNat * 1)))), (82, .int .i64 (j)), (81, .slice Aa la.length ca), (10, .int .i64 (j)), (7, .slice A50 ((lsD (fromW s) 256).length) c51), (6, .pointer (some ⟨w14.heap.size, 0, none⟩)), (1, .slice Aa la.length ca)]) ⟨rfl, rfl, rfl, rfl, rfl, rfl, rfl, rfl, rfl, rfl, rfl, rfl, rfl, rfl, rfl, rfl, rfl, rfl, rfl, trivial⟩
       clear f621
       refine At.start ?_
       refine At.rd f632 3 [[], [.as_ (.int .i64 (j + 1))], []] [(10, .int .i64 (j + 1)), (78, .int .i64 (j + 1)), (77, .int .i64 (j))] [((.int .i64 (IntKind.i64.wrap (j + 1)) : Value) = .int .i64 (j + 1))] (by kernel_rfl) ⟨(w64 (by omega) (by omega)), trivial⟩ (fun act634 f633 => ?_)
       clear f632
       refine At.done rfl ?_
       refine t_n ?_
       have f635 := f633.sub (r := [(10, .int .i64 (j + 1)), (9, .bool true), (7, .slice A50 ((lsD (fromW s) 256).length) c51), (6, .pointer (some ⟨w14.heap.size, 0, none⟩)), (1, .slice Aa la.length ca)]) ⟨rfl, rfl, rfl, rfl, rfl, trivial⟩
       exact ⟨_, (by omega), (j + 1), true, rfl, f635, e626, r627, r628, bx629, bx630, ow631, (by omega), (by omega), (fine_step hfi (by omega) (by omega) (by constructor <;> intro h_ <;> (first | omega | simp_all | (simp_all; omega)))), (by omega)⟩
      ·have q636 := ne_of_beq_false h619
       obtain ⟨ad637, hA638, _, _, hc639⟩ := RdI.get r593 (j) (by omega) (by omega)
       obtain ⟨ad640, hA641, _, _, hc642⟩ := RdI.get r593 (j - 1) (by omega) (by omega)
       refine drawn_ro f606 (by kernel_rfl) (by kernel_rfl) [[], [.as_ (.bool true)], [], [], [.ad ad609], [.ld (.int .i64 (gI la (j)))], [], [], [.as_ (.bool true)], [], [], [.ad ad614], [.ld (.int .i64 (gI la (j)))], [], [], [.as_ (.bool true)], [], [], [.as_ (.bool false)], [], [], [.ad ad637], [.ld (.int .i64 (gI la (j)))], [], [], [.as_ (.int .i64 (j - 1))], [.ad ad640], [.ld (.int .i64 (gI la (j - 1)))], [], [], [], []] [(9, .bool (decide ((gI la (j) : Int) > (gI la (j - 1))))), (109, .bool (decide ((gI la (j) : Int) > (gI la (j - 1))))), (108, .bool (decide ((gI la (j) : Int) > (gI la (j - 1))))), (107, .bool (decide ((gI la (j) : Int) > (gI la (j - 1))))), (106, .int .i64 (gI la (j - 1))), (105, .pointer (some (ad640.add ((j - 1 : Int).toNat * 1)))), (104, .int .i64 (j - 1)), (103, .int .i64 (j)), (102, .slice Aa la.length ca), (101, .int .i64 (gI la (j))), (100, .pointer (some (ad637.add ((j : Int).toNat * 1)))), (99, .int .i64 (j)), (98, .slice Aa la.length ca), (97, .bool false), (96, .bool ((j : Int) == 0)), (95, .int .i64 (j)), (94, .bool true), (93, .bool (decide ((gI la (j) : Int) ≤ 255))), (92, .bool (decide ((gI la (j) : Int) ≤ 255))), (91, .int .i64 (gI la (j))), (90, .pointer (some (ad614.add ((j : Int).toNat * 1)))), (89, .int .i64 (j)), (88, .slice Aa la.length ca), (87, .bool true), (86, .bool (decide ((gI la (j) : Int) ≥ 0))), (85, .bool (decide ((gI la (j) : Int) ≥ 0))), (84, .int .i64 (gI la (j))), (83, .pointer (some (ad609.add ((j : Int).toNat * 1)))), (82, .int .i64 (j)), (81, .slice Aa la.length ca), (80, .bool true), (79, .bool (fi))] [((.bool (fi) : Value) = .bool true), (Aa = some ad609), (0 ≤ (j : Int)), ((j : Int) < (la.length : Nat)), (w589.cell? (ad609.add ((j : Int).toNat * 1)) = some (.int .i64 (gI la (j)))), ((.bool (decide ((gI la (j) : Int) ≥ 0)) : Value) = .bool true), (Aa = some ad614), (0 ≤ (j : Int)), ((j : Int) < (la.length : Nat)), (w589.cell? (ad614.add ((j : Int).toNat * 1)) = some (.int .i64 (gI la (j)))), ((.bool (decide ((gI la (j) : Int) ≤ 255)) : Value) = .bool true), ((.bool ((j : Int) == 0) : Value) = .bool false), (Aa = some ad637), (0 ≤ (j : Int)), ((j : Int) < (la.length : Nat)), (w589.cell? (ad637.add ((j : Int).toNat * 1)) = some (.int .i64 (gI la (j)))), ((.int .i64 (IntKind.i64.wrap (j - 1)) : Value) = .int .i64 (j - 1)), (Aa = some ad640), (0 ≤ (j - 1 : Int)), ((j - 1 : Int) < (la.length : Nat)), (w589.cell? (ad640.add ((j - 1 : Int).toNat * 1)) = some (.int .i64 (gI la (j - 1))))] (by kernel_rfl) ⟨(congrArg Value.bool h607), hA610, (by omega), (by omega), hc611, (congrArg Value.bool h612), hA615, (by omega), (by omega), hc616, (congrArg Value.bool h617), (congrArg Value.bool h619), hA638, (by omega), (by omega), hc639, (w64 (by omega) (by omega)), hA641, (by omega), (by omega), hc642, trivial⟩ (fun act644 w645 hw646 f643 => ?_)
       clear f606
       have g647 := gr_drew hw646
       have szw645 := g647.size
       have e648 := e590.gr g647 no_row
       clear e590
       have r649 := r593.gr g647 (fun _ h => by cases h)
       clear r593
       have r650 := r594.gr g647 (fun _ h => by cases h)
       clear r594
       have bx651 := bx595.gr g647 (by simp)
       clear bx595
       have bx652 := bx596.gr g647 (by simp)
       clear bx596
       have ow653 := ow597.gr g647 (fun _ _ h => by cases h)
       clear ow597
       clear g647 hw646
       refine b_n ?_
       refine t_n ?_
       have f654 := f643.sub (r := [(9, .bool (decide ((gI la (j) : Int) > (gI la (j - 1))))), (108, .bool (decide ((gI la (j) : Int) > (gI la (j - 1))))), (107, .bool (decide ((gI la (j) : Int) > (gI la (j - 1))))), (106, .int .i64 (gI la (j - 1))), (105, .pointer (some (ad640.add ((j - 1 : Int).toNat * 1)))), (104, .int .i64 (j - 1)), (103, .int .i64 (j)), (102, .slice Aa la.length ca), (101, .int .i64 (gI la (j))), (100, .pointer (some (ad637.add ((j : Int).toNat * 1)))), (99, .int .i64 (j)), (98, .slice Aa la.length ca), (97, .bool false), (96, .bool ((j : Int) == 0)), (95, .int .i64 (j)), (92, .bool (decide ((gI la (j) : Int) ≤ 255))), (91, .int .i64 (gI la (j))), (90, .pointer (some (ad614.add ((j : Int).toNat * 1)))), (89, .int .i64 (j)), (88, .slice Aa la.length ca), (85, .bool (decide ((gI la (j) : Int) ≥ 0))), (84, .int .i64 (gI la (j))), (83, .pointer (some (ad609.add ((j : Int).toNat * 1)))), (82, .int .i64 (j)), (81, .slice Aa la.length ca), (10, .int .i64 (j)), (7, .slice A50 ((lsD (fromW s) 256).length) c51), (6, .pointer (some ⟨w14.heap.size, 0, none⟩)), (1, .slice Aa la.length ca)]) ⟨rfl, rfl, rfl, rfl, rfl, rfl, rfl, rfl, rfl, rfl, rfl, rfl, rfl, rfl, rfl, rfl, rfl, rfl, rfl, rfl, rfl, rfl, rfl, rfl, rfl, rfl, rfl, rfl, rfl, trivial⟩
       clear f643
       refine At.start ?_
       refine At.rd f654 3 [[], [.as_ (.int .i64 (j + 1))], []] [(10, .int .i64 (j + 1)), (78, .int .i64 (j + 1)), (77, .int .i64 (j))] [((.int .i64 (IntKind.i64.wrap (j + 1)) : Value) = .int .i64 (j + 1))] (by kernel_rfl) ⟨(w64 (by omega) (by omega)), trivial⟩ (fun act656 f655 => ?_)
       clear f654
       refine At.done rfl ?_
       refine t_n ?_
       have f657 := f655.sub (r := [(10, .int .i64 (j + 1)), (9, .bool (decide ((gI la (j) : Int) > (gI la (j - 1))))), (7, .slice A50 ((lsD (fromW s) 256).length) c51), (6, .pointer (some ⟨w14.heap.size, 0, none⟩)), (1, .slice Aa la.length ca)]) ⟨rfl, rfl, rfl, rfl, rfl, trivial⟩
       exact ⟨_, (by omega), (j + 1), (decide ((gI la (j) : Int) > (gI la (j - 1)))), rfl, f657, e648, r649, r650, bx651, bx652, ow653, (by omega), (by omega), (fine_step hfi (by omega) (by omega) (by constructor <;> intro h_ <;> (first | omega | simp_all | (simp_all; omega)))), (by omega)⟩
     ·have q658 := of_decide_eq_false h617
      refine drawn_ro f606 (by kernel_rfl) (by kernel_rfl) [[], [.as_ (.bool true)], [], [], [.ad ad609], [.ld (.int .i64 (gI la (j)))], [], [], [.as_ (.bool true)], [], [], [.ad ad614], [.ld (.int .i64 (gI la (j)))], [], [], [.as_ (.bool false)], [], [], [], [], [], [], [], [], [], [], [], [], [], [], [], []] [(9, .bool false), (109, .bool false), (108, undef), (107, undef), (106, undef), (105, undef), (104, undef), (103, undef), (102, undef), (101, undef), (100, undef), (99, undef), (98, undef), (97, undef), (96, undef), (95, undef), (94, .bool false), (93, .bool (decide ((gI la (j) : Int) ≤ 255))), (92, .bool (decide ((gI la (j) : Int) ≤ 255))), (91, .int .i64 (gI la (j))), (90, .pointer (some (ad614.add ((j : Int).toNat * 1)))), (89, .int .i64 (j)), (88, .slice Aa la.length ca), (87, .bool true), (86, .bool (decide ((gI la (j) : Int) ≥ 0))), (85, .bool (decide ((gI la (j) : Int) ≥ 0))), (84, .int .i64 (gI la (j))), (83, .pointer (some (ad609.add ((j : Int).toNat * 1)))), (82, .int .i64 (j)), (81, .slice Aa la.length ca), (80, .bool true), (79, .bool (fi))] [((.bool (fi) : Value) = .bool true), (Aa = some ad609), (0 ≤ (j : Int)), ((j : Int) < (la.length : Nat)), (w589.cell? (ad609.add ((j : Int).toNat * 1)) = some (.int .i64 (gI la (j)))), ((.bool (decide ((gI la (j) : Int) ≥ 0)) : Value) = .bool true), (Aa = some ad614), (0 ≤ (j : Int)), ((j : Int) < (la.length : Nat)), (w589.cell? (ad614.add ((j : Int).toNat * 1)) = some (.int .i64 (gI la (j)))), ((.bool (decide ((gI la (j) : Int) ≤ 255)) : Value) = .bool false)] (by kernel_rfl) ⟨(congrArg Value.bool h607), hA610, (by omega), (by omega), hc611, (congrArg Value.bool h612), hA615, (by omega), (by omega), hc616, (congrArg Value.bool h617), trivial⟩ (fun act660 w661 hw662 f659 => ?_)
      clear f606
      have g663 := gr_drew hw662
      have szw661 := g663.size
      have e664 := e590.gr g663 no_row
      clear e590
      have r665 := r593.gr g663 (fun _ h => by cases h)
      clear r593
      have r666 := r594.gr g663 (fun _ h => by cases h)
      clear r594
      have bx667 := bx595.gr g663 (by simp)
      clear bx595
      have bx668 := bx596.gr g663 (by simp)
      clear bx596
      have ow669 := ow597.gr g663 (fun _ _ h => by cases h)
      clear ow597
      clear g663 hw662
      refine b_n ?_
      refine t_n ?_
      have f670 := f659.sub (r := [(9, .bool false), (92, .bool (decide ((gI la (j) : Int) ≤ 255))), (91, .int .i64 (gI la (j))), (90, .pointer (some (ad614.add ((j : Int).toNat * 1)))), (89, .int .i64 (j)), (88, .slice Aa la.length ca), (85, .bool (decide ((gI la (j) : Int) ≥ 0))), (84, .int .i64 (gI la (j))), (83, .pointer (some (ad609.add ((j : Int).toNat * 1)))), (82, .int .i64 (j)), (81, .slice Aa la.length ca), (10, .int .i64 (j)), (7, .slice A50 ((lsD (fromW s) 256).length) c51), (6, .pointer (some ⟨w14.heap.size, 0, none⟩)), (1, .slice Aa la.length ca)]) ⟨rfl, rfl, rfl, rfl, rfl, rfl, rfl, rfl, rfl, rfl, rfl, rfl, rfl, rfl, rfl, trivial⟩
      clear f659
      refine At.start ?_
      refine At.rd f670 3 [[], [.as_ (.int .i64 (j + 1))], []] [(10, .int .i64 (j + 1)), (78, .int .i64 (j + 1)), (77, .int .i64 (j))] [((.int .i64 (IntKind.i64.wrap (j + 1)) : Value) = .int .i64 (j + 1))] (by kernel_rfl) ⟨(w64 (by omega) (by omega)), trivial⟩ (fun act672 f671 => ?_)
      clear f670
      refine At.done rfl ?_
      refine t_n ?_
      have f673 := f671.sub (r := [(10, .int .i64 (j + 1)), (9, .bool false), (7, .slice A50 ((lsD (fromW s) 256).length) c51), (6, .pointer (some ⟨w14.heap.size, 0, none⟩)), (1, .slice Aa la.length ca)]) ⟨rfl, rfl, rfl, rfl, rfl, trivial⟩
      exact ⟨_, (by omega), (j + 1), false, rfl, f673, e664, r665, r666, bx667, bx668, ow669, (by omega), (by omega), (fine_step hfi (by omega) (by omega) (by constructor <;> intro h_ <;> (first | omega | simp_all | (simp_all; omega)))), (by omega)⟩
    ·have q674 := of_decide_eq_false h612
     refine drawn_ro f606 (by kernel_rfl) (by kernel_rfl) [[], [.as_ (.bool true)], [], [], [.ad ad609], [.ld (.int .i64 (gI la (j)))], [], [], [.as_ (.bool false)], [], [], [], [], [], [], [], [], [], [], [], [], [], [], [], [], [], [], [], [], [], [], []] [(9, .bool false), (109, .bool false), (108, undef), (107, undef), (106, undef), (105, undef), (104, undef), (103, undef), (102, undef), (101, undef), (100, undef), (99, undef), (98, undef), (97, undef), (96, undef), (95, undef), (94, .bool false), (93, .bool false), (92, undef), (91, undef), (90, undef), (89, undef), (88, undef), (87, .bool false), (86, .bool (decide ((gI la (j) : Int) ≥ 0))), (85, .bool (decide ((gI la (j) : Int) ≥ 0))), (84, .int .i64 (gI la (j))), (83, .pointer (some (ad609.add ((j : Int).toNat * 1)))), (82, .int .i64 (j)), (81, .slice Aa la.length ca), (80, .bool true), (79, .bool (fi))] [((.bool (fi) : Value) = .bool true), (Aa = some ad609), (0 ≤ (j : Int)), ((j : Int) < (la.length : Nat)), (w589.cell? (ad609.add ((j : Int).toNat * 1)) = some (.int .i64 (gI la (j)))), ((.bool (decide ((gI la (j) : Int) ≥ 0)) : Value) = .bool false)] (by kernel_rfl) ⟨(congrArg Value.bool h607), hA610, (by omega), (by omega), hc611, (congrArg Value.bool h612), trivial⟩ (fun act676 w677 hw678 f675 => ?_)
     clear f606
     have g679 := gr_drew hw678
     have szw677 := g679.size
     have e680 := e590.gr g679 no_row
     clear e590
     have r681 := r593.gr g679 (fun _ h => by cases h)
     clear r593
     have r682 := r594.gr g679 (fun _ h => by cases h)
     clear r594
     have bx683 := bx595.gr g679 (by simp)
     clear bx595
     have bx684 := bx596.gr g679 (by simp)
     clear bx596
     have ow685 := ow597.gr g679 (fun _ _ h => by cases h)
     clear ow597
     clear g679 hw678
     refine b_n ?_
     refine t_n ?_
     have f686 := f675.sub (r := [(9, .bool false), (85, .bool (decide ((gI la (j) : Int) ≥ 0))), (84, .int .i64 (gI la (j))), (83, .pointer (some (ad609.add ((j : Int).toNat * 1)))), (82, .int .i64 (j)), (81, .slice Aa la.length ca), (10, .int .i64 (j)), (7, .slice A50 ((lsD (fromW s) 256).length) c51), (6, .pointer (some ⟨w14.heap.size, 0, none⟩)), (1, .slice Aa la.length ca)]) ⟨rfl, rfl, rfl, rfl, rfl, rfl, rfl, rfl, rfl, rfl, trivial⟩
     clear f675
     refine At.start ?_
     refine At.rd f686 3 [[], [.as_ (.int .i64 (j + 1))], []] [(10, .int .i64 (j + 1)), (78, .int .i64 (j + 1)), (77, .int .i64 (j))] [((.int .i64 (IntKind.i64.wrap (j + 1)) : Value) = .int .i64 (j + 1))] (by kernel_rfl) ⟨(w64 (by omega) (by omega)), trivial⟩ (fun act688 f687 => ?_)
     clear f686
     refine At.done rfl ?_
     refine t_n ?_
     have f689 := f687.sub (r := [(10, .int .i64 (j + 1)), (9, .bool false), (7, .slice A50 ((lsD (fromW s) 256).length) c51), (6, .pointer (some ⟨w14.heap.size, 0, none⟩)), (1, .slice Aa la.length ca)]) ⟨rfl, rfl, rfl, rfl, rfl, trivial⟩
     exact ⟨_, (by omega), (j + 1), false, rfl, f689, e680, r681, r682, bx683, bx684, ow685, (by omega), (by omega), (fine_step hfi (by omega) (by omega) (by constructor <;> intro h_ <;> (first | omega | simp_all | (simp_all; omega)))), (by omega)⟩
   ·refine drawn_ro f606 (by kernel_rfl) (by kernel_rfl) [[], [.as_ (.bool false)], [], [], [], [], [], [], [], [], [], [], [], [], [], [], [], [], [], [], [], [], [], [], [], [], [], [], [], [], [], []] [(9, .bool false), (109, .bool false), (108, undef), (107, undef), (106, undef), (105, undef), (104, undef), (103, undef), (102, undef), (101, undef), (100, undef), (99, undef), (98, undef), (97, undef), (96, undef), (95, undef), (94, .bool false), (93, .bool false), (92, undef), (91, undef), (90, undef), (89, undef), (88, undef), (87, .bool false), (86, .bool false), (85, undef), (84, undef), (83, undef), (82, undef), (81, undef), (80, .bool false), (79, .bool (fi))] [((.bool (fi) : Value) = .bool false)] (by kernel_rfl) ⟨(congrArg Value.bool h607), trivial⟩ (fun act692 w693 hw694 f691 => ?_)
    clear f606
    have g695 := gr_drew hw694
    have szw693 := g695.size
    have e696 := e590.gr g695 no_row
    clear e590
    have r697 := r593.gr g695 (fun _ h => by cases h)
    clear r593
    have r698 := r594.gr g695 (fun _ h => by cases h)
    clear r594
    have bx699 := bx595.gr g695 (by simp)
    clear bx595
    have bx700 := bx596.gr g695 (by simp)
    clear bx596
    have ow701 := ow597.gr g695 (fun _ _ h => by cases h)
    clear ow597
    clear g695 hw694
    refine b_n ?_
    refine t_n ?_
    have f702 := f691.sub (r := [(9, .bool false), (10, .int .i64 (j)), (7, .slice A50 ((lsD (fromW s) 256).length) c51), (6, .pointer (some ⟨w14.heap.size, 0, none⟩)), (1, .slice Aa la.length ca)]) ⟨rfl, rfl, rfl, rfl, rfl, trivial⟩
    clear f691
    refine At.start ?_
    refine At.rd f702 3 [[], [.as_ (.int .i64 (j + 1))], []] [(10, .int .i64 (j + 1)), (78, .int .i64 (j + 1)), (77, .int .i64 (j))] [((.int .i64 (IntKind.i64.wrap (j + 1)) : Value) = .int .i64 (j + 1))] (by kernel_rfl) ⟨(w64 (by omega) (by omega)), trivial⟩ (fun act704 f703 => ?_)
    clear f702
    refine At.done rfl ?_
    refine t_n ?_
    have f705 := f703.sub (r := [(10, .int .i64 (j + 1)), (9, .bool false), (7, .slice A50 ((lsD (fromW s) 256).length) c51), (6, .pointer (some ⟨w14.heap.size, 0, none⟩)), (1, .slice Aa la.length ca)]) ⟨rfl, rfl, rfl, rfl, rfl, trivial⟩
    exact ⟨_, (by omega), (j + 1), false, rfl, f705, e696, r697, r698, bx699, bx700, ow701, (by omega), (by omega), (fine_step hfi (by omega) (by omega) (by constructor <;> intro h_ <;> (first | omega | simp_all | (simp_all; omega)))), (by omega)⟩
  ·have q706 := of_decide_eq_false h604
   refine wp_exit ?_
   refine t_e ?_
   refine t_e ?_
   refine b_e ?_
   refine t_n ?_
   have f707 := f603.sub (r := [(9, .bool (fi)), (7, .slice A50 ((lsD (fromW s) 256).length) c51), (6, .pointer (some ⟨w14.heap.size, 0, none⟩)), (1, .slice Aa la.length ca)]) ⟨rfl, rfl, rfl, rfl, trivial⟩
   clear f603
   refine wp_seq ?_
   refine At.start ?_
   refine At.rd f707 1 [[]] [(110, .slice Aa la.length ca)] [] (by kernel_rfl) trivial (fun act709 f708 => ?_)
   clear f707
   refine At.call f708 14 #[.slice Aa la.length ca] (some 111) (by kernel_rfl) (of_any (la := la) (r593.wide (Nat.zero_le _) (by omega))) ?_
   rintro e_ w710 ⟨rfl, he⟩
   refine ⟨_, rfl, _, rfl, fun act711 f712 => ?_⟩
   clear f708
   have g713 := gr_ext he
   have szw710 := g713.size
   have e714 := e590.gr g713 no_row
   clear e590
   have r715 := r593.gr g713 (fun _ h => by cases h)
   clear r593
   have r716 := r594.gr g713 (fun _ h => by cases h)
   clear r594
   have bx717 := bx595.gr g713 (by simp)
   clear bx595
   have bx718 := bx596.gr g713 (by simp)
   clear bx596
   have ow719 := ow597.gr g713 (fun _ _ h => by cases h)
   clear ow597
   clear g713 he
   refine At.call f712 19 #[.agg ((ofW la : List Int).map wV).toArray] (some 112) (by kernel_rfl) (list_any (s := ofW la) (ofW_ok _) (r716.wide (Nat.zero_le _) (by omega))) ?_
   rintro e_ w724 ⟨A720, c721, rfl, he, ow722⟩
   have := ls_len (fromW (ofW la)) 256
   refine ⟨_, rfl, _, rfl, fun act725 f726 => ?_⟩
   clear f712
   have g727 := gr_ext he
   have lt728 := ow719.lt
   have szw724 := g727.size
   have e729 := e714.gr g727 no_row
   clear e714
   have r730 := r715.gr g727 (fun _ h => by cases h)
   clear r715
   have r731 := r716.gr g727 (fun _ h => by cases h)
   clear r716
   have bx732 := bx717.gr g727 (by simp)
   clear bx717
   have bx733 := bx718.gr g727 (by simp)
   clear bx718
   have ow734 : OwnR w724 (Sx (w38.heap.size) [obk (A720)]) A50 c51 3 ((lsD (fromW s) 256) : List Int) := ow719.grA g727 (fun _ _ h => by cases h) (fun k hk hs => ⟨(fun e => by have := ow722.ge _ e; omega), hs⟩)
   clear ow719
   have ow735 : OwnR w724 (Sx (w710.heap.size) [obk (A50)]) A720 c721 3 ((lsD (fromW (ofW la)) 256) : List Int) := ow722.imp (fun g _ hs => ⟨(fun e => by have := lt728 _ e; have := Sx_base hs; omega), hs⟩)
   clear ow722
   clear lt728
   clear g727 he
   refine At.rd f726 1 [[]] [(113, .slice Aa la.length ca)] [] (by kernel_rfl) trivial (fun act737 f736 => ?_)
   clear f726
   refine At.call f736 15 #[.slice A720 ((lsD (fromW (ofW la)) 256).length) c721, .slice Aa la.length ca] (some 114) (by kernel_rfl) (equal01_any (la := (lsD (fromW (ofW la)) 256)) (lb := la) (ow735.rdI0 (by first | omega | (simp only [List.length_cons, List.length_nil]; omega) | (simp; done) | (simp; omega))) (r730.wide (Nat.zero_le _) (by omega))) ?_
   rintro e_ w738 ⟨rfl, he⟩
   refine ⟨_, rfl, _, rfl, fun act739 f740 => ?_⟩
   clear f736
   have g741 := gr_ext he
   have szw738 := g741.size
   have e742 := e729.gr g741 no_row
   clear e729
   have r743 := r730.gr g741 (fun _ h => by cases h)
   clear r730
   have r744 := r731.gr g741 (fun _ h => by cases h)
   clear r731
   have bx745 := bx732.gr g741 (by simp)
   clear bx732
   have bx746 := bx733.gr g741 (by simp)
   clear bx733
   have ow747 := ow734.gr g741 (fun _ _ h => by cases h)
   clear ow734
   have ow748 := ow735.gr g741 (fun _ _ h => by cases h)
   clear ow735
   clear g741 he
   refine At.rd f740 1 [[]] [(11, .bool (decide ((lsD (fromW (ofW la)) 256) = la)))] [] (by kernel_rfl) trivial (fun act750 f749 => ?_)
   clear f740
   refine At.done rfl ?_
   refine t_n ?_
   have f751 := f749.sub (r := [(11, .bool (decide ((lsD (fromW (ofW la)) 256) = la))), (9, .bool (fi)), (7, .slice A50 ((lsD (fromW s) 256).length) c51), (6, .pointer (some ⟨w14.heap.size, 0, none⟩))]) ⟨rfl, rfl, rfl, rfl, trivial⟩
   clear f749
   refine wp_seq ?_
   refine At.start ?_
   refine At.rd f751 8 [[], [], [.as_ (.bool true)], [], [], [], [], [.cs ((s : List Int).map wV)]] [(122, .agg ((s : List Int).map wV).toArray), (121, .bool (decide (((((lsD (fromW s) 256).length : Nat) : Int) : Int) > 0))), (120, .int .i64 ((((lsD (fromW s) 256).length : Nat) : Int))), (119, .slice A50 ((lsD (fromW s) 256).length) c51), (118, .bool true), (117, .bool true), (116, .bool (fi)), (115, .bool (decide ((lsD (fromW (ofW la)) 256) = la)))] [((.bool ((decide ((lsD (fromW (ofW la)) 256) = la)) == fi) : Value) = .bool true), (((s : List Int).map wV).length = 4), (∀ (j : Nat) (v : Value), ((s : List Int).map wV)[j]? = some v → w738.cell? ((⟨w14.heap.size, 0, none⟩ : Addr).add j) = some v)] (by kernel_rfl) ⟨(congrArg Value.bool (back_fine hfi (by omega))), (by simp only [List.length_map, List.length_set, List.length_replicate, List.length_cons, List.length_nil]; first | done | assumption | exact from_len _ | exact of_len _ | exact ofZ_len _ | exact (ofW_ok _).1 | exact (fullW_W _).1 | exact (okW_with (by assumption)).1 | exact (okW_less (by assumption)).1 | exact put_len (from_len _) | exact orD_len _ _ | exact andD_len _ _ | exact minusD_len _ _ | exact fullD_len _ | (refine okLen ?_; (repeat (first | assumption | exact ofW_ok _ | exact fullW_W _ | apply okW_with | apply okW_less | refine okW_orS ?_ ?_ | refine okW_andS ?_ ?_ | refine okW_minusS ?_ ?_)); done) | omega | rfl), bx746.whole, trivial⟩ (fun act753 f752 => ?_)
   clear f751
   refine At.call f752 22 #[.agg ((s : List Int).map wV).toArray] (some 123) (by kernel_rfl) (least_any (s := s) (by repeat (first | assumption | exact ofW_ok _ | exact fullW_W _ | exact wordsD_W _ | exact okW_0 | exact okW_00 | apply okW_orS | apply okW_andS | apply okW_minusS | apply okW_with | apply okW_less | apply okW_or | apply okW_and | apply okW_minus | (apply okW_lit <;> exact ⟨by omega, by omega⟩))) (r744.wide (Nat.zero_le _) (by omega))) ?_
   rintro e_ w754 ⟨rfl, he⟩
   have := leastD_b (fromW s)
   refine ⟨_, rfl, _, rfl, fun act755 f756 => ?_⟩
   clear f752
   have g757 := gr_ext he
   have szw754 := g757.size
   have e758 := e742.gr g757 no_row
   clear e742
   have r759 := r743.gr g757 (fun _ h => by cases h)
   clear r743
   have r760 := r744.gr g757 (fun _ h => by cases h)
   clear r744
   have bx761 := bx745.gr g757 (by simp)
   clear bx745
   have bx762 := bx746.gr g757 (by simp)
   clear bx746
   have ow763 := ow747.gr g757 (fun _ _ h => by cases h)
   clear ow747
   have ow764 := ow748.gr g757 (fun _ _ h => by cases h)
   clear ow748
   clear g757 he
   refine At.rd f756 4 [[], [.as_ (.bool true)], [], []] [(4, .bool true), (126, .bool true), (125, .bool true), (124, .bool (decide ((leastD (fromW s) : Int) ≥ 0)))] [((.bool ((decide (((((lsD (fromW s) 256).length : Nat) : Int) : Int) > 0)) == (decide ((leastD (fromW s) : Int) ≥ 0))) : Value) = .bool true)] (by kernel_rfl) ⟨(congrArg Value.bool (list_some _)), trivial⟩ (fun act766 f765 => ?_)
   clear f756
   refine At.done rfl ?_
   refine t_n ?_
   have f767 := f765.sub (r := [(4, .bool true)]) ⟨rfl, trivial⟩
   clear f765
   refine wp_ret ?_
   refine ret_ f767 [] [.bool true] [] (by kernel_rfl) trivial ?_
   exact ⟨rfl, e758⟩

end Go.Proofs.YtepekncgknlcjaaDoor
