/-
  A walk of a Go function, printed by a program of this repo. Conditions: what the theorems name.
-/
import Derived.Test.YtepekncgknlcjaaDoorWShown01
import Derived.Test.YtepekncgknlcjaaDoorPureAlg
import Derived.Test.YtepekncgknlcjaaDoorPureLs
import Derived.Test.YtepekncgknlcjaaDoorRow
set_option linter.unusedVariables false
set_option linter.unusedSimpArgs false
namespace Go.Proofs.YtepekncgknlcjaaDoor
open Go Go.RowKit

attribute [local irreducible] ofZ fromW wordsD ofD ofW lsD lenW lenN fullW withW lessW hasW hasD inW inD leastD putD onI tzI orS andS minusS orD andD minusD fullD emptyD
set_option maxHeartbeats 4000000 in
theorem full01_any {n m : Int} {w : World} (hn : I64 n) (hm : I64 m) (rT : RdT w 0 w.heap.size) :
    Calls Tryd.prog 6 #[.int .i64 (n), .int .i64 (m)] w fun e w' => e = .returned (.bool true) ∧ Ext w w' := by
 unfold I64 at hn hm
 have hfl := full_lsl n
 refine enter_ (args := [.int .i64 (n), .int .i64 (m)]) Tryd.func6 rfl Tryd.ntmps6 (Nat.le_of_ble_eq_true rfl) (fun act0 f0 => ?_)
 have e0 := Ext.refl w
 refine wp_seq ?_
 refine At.start ?_
 refine At.rd f0 1 [[]] [(4, .bool false)] [] (by kernel_rfl) trivial (fun act2 f1 => ?_)
 clear f0
 refine At.done rfl ?_
 refine t_n ?_
 refine wp_seq ?_
 refine At.start ?_
 refine At.call f1 12 #[] (some 9) (by kernel_rfl) (shown01_any (rT.wide (Nat.zero_le _) (by omega))) ?_
 rintro e_ w3 ⟨rfl, he⟩
 refine ⟨_, rfl, _, rfl, fun act4 f5 => ?_⟩
 clear f1
 have g6 := gr_ext he
 have szw3 := g6.size
 have e7 := e0.gr g6 no_row
 clear e0
 have r8 := rT.gr g6 (fun _ h => by cases h)
 clear rT
 clear g6 he
 refine At.rd f5 1 [[]] [(5, .bool true)] [] (by kernel_rfl) trivial (fun act10 f9 => ?_)
 clear f5
 refine At.done rfl ?_
 refine t_n ?_
 have f11 := f9.sub (r := [(5, .bool true), (4, .bool false), (0, .int .i64 (n)), (1, .int .i64 (m))]) ⟨rfl, rfl, rfl, rfl, trivial⟩
 clear f9
 refine wp_seq ?_
 refine At.start ?_
 refine At.rd f11 1 [[]] [(10, .int .i64 (n))] [] (by kernel_rfl) trivial (fun act13 f12 => ?_)
 clear f11
 refine At.call f12 13 #[.int .i64 (n)] (some 11) (by kernel_rfl) (full_any (n := n) (by omega)) ?_
 rintro e_ w14 ⟨rfl, he⟩
 refine ⟨_, rfl, _, rfl, fun act15 f16 => ?_⟩
 clear f12
 have g17 := gr_ext he
 have szw14 := g17.size
 have e18 := e7.gr g17 no_row
 clear e7
 have r19 := r8.gr g17 (fun _ h => by cases h)
 clear r8
 clear g17 he
 refine At.seq f16 1 [[]] [(6, .pointer (some ⟨w14.heap.size, 0, none⟩))] (w14.alloc (.cells ((List.replicate 4 (0 : Int) : List Int).map wV).toArray 26 (0, 0))) [] (by kernel_rfl) trivial (fun act23 w20 hw21 f22 => ?_)
 clear f16
 have g24 := gr_alloc hw21
 have szw20 := g24.size
 have e26 := e18.gr g24 no_row
 clear e18
 have r27 := r19.gr g24 (fun _ h => by cases h)
 clear r19
 have bx28 : Bx w20 (w14.heap.size) ((List.replicate 4 (0 : Int) : List Int).map wV) 26 := Bx.new hw21
 have := bx28.lt
 clear g24 hw21
 refine At.act f22 (storeBlk (t := 26) (b := w14.heap.size) (n := 4) (cs' := ((fullW n : List Int).map wV)) (by kernel_rfl) (by kernel_rfl) ((List.length_map _).trans (okLen (fullW_W _))) oneW_ ((show ((fullW n : List Int).map wV).length = 4 from ((List.length_map _).trans (okLen (fullW_W _)))).trans (show ((List.replicate 4 (0 : Int) : List Int).map wV).length = 4 from (by simp only [List.length_map, List.length_set, List.length_replicate, List.length_cons, List.length_nil]; first | done | assumption | exact from_len _ | exact of_len _ | exact ofZ_len _ | exact (ofW_ok _).1 | exact (fullW_W _).1 | exact (okW_with (by assumption)).1 | exact (okW_less (by assumption)).1 | exact put_len (from_len _) | exact orD_len _ _ | exact andD_len _ _ | exact minusD_len _ _ | exact fullD_len _ | (refine okLen ?_; (repeat (first | assumption | exact ofW_ok _ | exact fullW_W _ | apply okW_with | apply okW_less | refine okW_orS ?_ ?_ | refine okW_andS ?_ ?_ | refine okW_minusS ?_ ?_)); done) | omega | rfl)).symm) bx28) ?_
 rintro d_ v_ w29 ⟨rfl, g30, bx31⟩
 refine ⟨_, rfl, fun act33 f32 => ?_⟩
 clear f22
 have szw29 := g30.size
 have e34 := e26.gr g30 (fun k h => by injection h; omega)
 clear e26
 have r35 := r27.gr g30 (fun k h => by injection h; omega)
 clear r27
 clear bx28 g30
 refine At.done rfl ?_
 refine t_n ?_
 have f36 := f32.sub (r := [(6, .pointer (some ⟨w14.heap.size, 0, none⟩)), (5, .bool true), (4, .bool false), (0, .int .i64 (n)), (1, .int .i64 (m))]) ⟨rfl, rfl, rfl, rfl, rfl, trivial⟩
 clear f32
 refine wp_seq ?_
 refine At.start ?_
 refine At.rd f36 4 [[], [.as_ (.int .i64 (min n 256))], [.as_ (.int .i64 (max 0 (min n 256)))], []] [(7, .int .i64 (max 0 (min n 256))), (14, .int .i64 (max 0 (min n 256))), (13, .int .i64 (min n 256)), (12, .int .i64 (n))] [((.int .i64 (if 256 < n then 256 else n) : Value) = .int .i64 (min n 256)), ((.int .i64 (if (min n 256) > 0 then (min n 256) else 0) : Value) = .int .i64 (max 0 (min n 256)))] (by kernel_rfl) ⟨(congrArg (Value.int .i64) (min_if _ _)), (congrArg (Value.int .i64) (max_if _ _)), trivial⟩ (fun act38 f37 => ?_)
 clear f36
 refine At.done rfl ?_
 refine t_n ?_
 have f39 := f37.sub (r := [(7, .int .i64 (max 0 (min n 256))), (6, .pointer (some ⟨w14.heap.size, 0, none⟩)), (5, .bool true), (4, .bool false), (1, .int .i64 (m))]) ⟨rfl, rfl, rfl, rfl, rfl, trivial⟩
 clear f37
 refine wp_seq ?_
 refine wp_seq (cut (fun a_ w_ => (Frm 74 a_ [(47, .bool false), (7, .int .i64 (max 0 (min n 256))), (6, .pointer (some ⟨w14.heap.size, 0, none⟩)), (4, .bool false)]) ∧ (Ext w w_) ∧ (RdT w_ 0 w.heap.size) ∧ (Bx w_ (w14.heap.size) ((fullW n : List Int).map wV) 26) ∧ (w29.heap.size ≤ w_.heap.size)) ?_ ?_)
 ·obtain ⟨Cs40, hCs41⟩ : ∃ c : List (Addr × Value), c = ([] : List (Addr × Value)) ++ blkC (w14.heap.size) ((fullW n : List Int).map wV) := ⟨_, rfl⟩
  have hS42 : HoldsC Cs40 w29 := by rw [hCs41]; exact (holdsA (show HoldsC [] w29 from trivial) (holds_blk bx31))
  refine AtH.start Cs40 33 #[false, false, false, false, false, false, false, false, false, false, false, false, false, false, false, false, false, false, false, false, false, false, false, false, false, false, false, false, false, false, false, false, false] (by kernel_rfl) rfl rfl (fun w44 hw45 => ?_)
  have g43 := gr_drew hw45
  have hS46 := hS42.gr g43
  have szw44 := g43.size
  have e47 := e34.gr g43 no_row
  clear e34
  have r48 := r35.gr g43 (fun _ h => by cases h)
  clear r35
  have bx49 := bx31.gr g43 (by simp)
  clear bx31
  clear g43 hw45 hS42
  refine AtH.rd (by kernel_rfl) (fun d v c a w h => by cases d <;> exact h) hS46 [0, 1, 2, 3, 5] [[], [], [], [.cs ((fullW n : List Int).map wV)], []] [(20, .int .i64 (max 0 (min n 256))), (18, .agg ((fullW n : List Int).map wV).toArray), (17, .bool false), (16, .bool false), (15, .bool true)] #[true, true, true, true, false, true, false, false, false, false, false, false, false, false, false, false, false, false, false, false, false, false, false, false, false, false, false, false, false, false, false, false, false] [(((fullW n : List Int).map wV).length = 4), (∀ (j : Nat) (v : Value), ((fullW n : List Int).map wV)[j]? = some v → ∃ j_ : Nat, Cs40[j_]? = some (((⟨w14.heap.size, 0, none⟩ : Addr).add j), v))] 28 f39 (by kernel_rfl) ⟨((List.length_map _).trans (okLen (fullW_W _))), (fun j v hv => List.getElem?_of_mem (by rw [hCs41]; exact List.mem_append.2 (.inr (blkC_in hv)))), trivial⟩ (fun act51 f50 => ?_)
  clear f39
  refine AtH.all [4] 27 (by kernel_rfl) (by simp) ⟨?_, trivial⟩
  refine OneH.call f50 20 #[.agg ((fullW n : List Int).map wV).toArray] (some 19) #[true, true, true, true, true, true, false, false, false, false, false, false, false, false, false, false, false, false, false, false, false, false, false, false, false, false, false, false, false, false, false, false, false] (by kernel_rfl) (by kernel_rfl) (len_any (s := fullW n) (fullW_W _)) ?_
  rintro e_ w53 ⟨rfl, he⟩
  have := lenW_le (fullW n)
  refine ⟨_, rfl, _, rfl, fun act54 f55 => ?_⟩
  clear f50
  have g56 := gr_ext he
  have hS52 := hS46.gr g56
  have szw53 := g56.size
  have e57 := e47.gr g56 no_row
  clear e47
  have r58 := r48.gr g56 (fun _ h => by cases h)
  clear r48
  have bx59 := bx49.gr g56 (by simp)
  clear bx49
  clear g56 he
  refine ⟨hS52, ?_⟩
  refine AtH.rd (by kernel_rfl) (fun d v c a w h => by cases d <;> exact h) hS52 [6] [[.as_ (.bool false)]] [(21, .bool false)] #[true, true, true, true, true, true, true, false, false, false, false, false, false, false, false, false, false, false, false, false, false, false, false, false, false, false, false, false, false, false, false, false, false] [((.bool ((lenW (fullW n) : Int) != (max 0 (min n 256))) : Value) = .bool false)] 26 f55 (by kernel_rfl) ⟨(congrArg Value.bool (bneF (full_len n))), trivial⟩ (fun act61 f60 => ?_)
  clear f55
  refine AtH.rd (by kernel_rfl) (fun d v c a w h => by cases d <;> exact h) hS52 [7] [[]] [(22, .bool false)] #[true, true, true, true, true, true, true, true, false, false, false, false, false, false, false, false, false, false, false, false, false, false, false, false, false, false, false, false, false, false, false, false, false] [] 25 f60 (by kernel_rfl) trivial (fun act63 f62 => ?_)
  clear f60
  refine AtH.rd (by kernel_rfl) (fun d v c a w h => by cases d <;> exact h) hS52 [8] [[]] [(23, .bool false)] #[true, true, true, true, true, true, true, true, true, false, false, false, false, false, false, false, false, false, false, false, false, false, false, false, false, false, false, false, false, false, false, false, false] [] 24 f62 (by kernel_rfl) trivial (fun act65 f64 => ?_)
  clear f62
  refine AtH.rd (by kernel_rfl) (fun d v c a w h => by cases d <;> exact h) hS52 [9] [[.cs ((fullW n : List Int).map wV)]] [(24, .agg ((fullW n : List Int).map wV).toArray)] #[true, true, true, true, true, true, true, true, true, true, false, false, false, false, false, false, false, false, false, false, false, false, false, false, false, false, false, false, false, false, false, false, false] [(((fullW n : List Int).map wV).length = 4), (∀ (j : Nat) (v : Value), ((fullW n : List Int).map wV)[j]? = some v → ∃ j_ : Nat, Cs40[j_]? = some (((⟨w14.heap.size, 0, none⟩ : Addr).add j), v))] 23 f64 (by kernel_rfl) ⟨((List.length_map _).trans (okLen (fullW_W _))), (fun j v hv => List.getElem?_of_mem (by rw [hCs41]; exact List.mem_append.2 (.inr (blkC_in hv)))), trivial⟩ (fun act67 f66 => ?_)
  clear f64
  refine AtH.rd (by kernel_rfl) (fun d v c a w h => by cases d <;> exact h) hS52 [10] [[]] [(25, .int .i64 (m))] #[true, true, true, true, true, true, true, true, true, true, true, false, false, false, false, false, false, false, false, false, false, false, false, false, false, false, false, false, false, false, false, false, false] [] 22 f66 (by kernel_rfl) trivial (fun act69 f68 => ?_)
  clear f66
  refine AtH.rd (by kernel_rfl) (fun d v c a w h => by cases d <;> exact h) hS52 [12] [[]] [(27, .int .i64 (m))] #[true, true, true, true, true, true, true, true, true, true, true, false, true, false, false, false, false, false, false, false, false, false, false, false, false, false, false, false, false, false, false, false, false] [] 21 f68 (by kernel_rfl) trivial (fun act71 f70 => ?_)
  clear f68
  refine AtH.rd (by kernel_rfl) (fun d v c a w h => by cases d <;> exact h) hS52 [13] [[]] [(28, .bool (decide ((m : Int) ≥ 0)))] #[true, true, true, true, true, true, true, true, true, true, true, false, true, true, false, false, false, false, false, false, false, false, false, false, false, false, false, false, false, false, false, false, false] [] 20 f70 (by kernel_rfl) trivial (fun act73 f72 => ?_)
  clear f70
  refine AtH.all [11] 19 (by kernel_rfl) (by simp) ⟨?_, trivial⟩
  refine OneH.call f72 21 #[.agg ((fullW n : List Int).map wV).toArray, .int .i64 (m)] (some 26) #[true, true, true, true, true, true, true, true, true, true, true, true, true, true, false, false, false, false, false, false, false, false, false, false, false, false, false, false, false, false, false, false, false] (by kernel_rfl) (by kernel_rfl) (has_any (s := fullW n) (n := m) (fullW_W _)) ?_
  rintro e_ w75 ⟨rfl, he⟩
  refine ⟨_, rfl, _, rfl, fun act76 f77 => ?_⟩
  clear f72
  have g78 := gr_ext he
  have hS74 := hS52.gr g78
  have szw75 := g78.size
  have e79 := e57.gr g78 no_row
  clear e57
  have r80 := r58.gr g78 (fun _ h => by cases h)
  clear r58
  have bx81 := bx59.gr g78 (by simp)
  clear bx59
  clear g78 he
  refine ⟨hS74, ?_⟩
  rcases Bool.eq_false_or_eq_true (decide ((m : Int) ≥ 0)) with h82 | h82
  ·have q83 := of_decide_eq_true h82
   refine AtH.rd (by kernel_rfl) (fun d v c a w h => by cases d <;> exact h) hS74 [14] [[.as_ (.bool true)]] [(29, .bool true)] #[true, true, true, true, true, true, true, true, true, true, true, true, true, true, true, false, false, false, false, false, false, false, false, false, false, false, false, false, false, false, false, false, false] [((.bool (decide ((m : Int) ≥ 0)) : Value) = .bool true)] 18 f77 (by kernel_rfl) ⟨(congrArg Value.bool h82), trivial⟩ (fun act85 f84 => ?_)
   clear f77
   refine AtH.rd (by kernel_rfl) (fun d v c a w h => by cases d <;> exact h) hS74 [15] [[]] [(30, .int .i64 (m))] #[true, true, true, true, true, true, true, true, true, true, true, true, true, true, true, true, false, false, false, false, false, false, false, false, false, false, false, false, false, false, false, false, false] [] 17 f84 (by kernel_rfl) trivial (fun act87 f86 => ?_)
   clear f84
   refine AtH.rd (by kernel_rfl) (fun d v c a w h => by cases d <;> exact h) hS74 [16] [[]] [(31, .int .i64 (max 0 (min n 256)))] #[true, true, true, true, true, true, true, true, true, true, true, true, true, true, true, true, true, false, false, false, false, false, false, false, false, false, false, false, false, false, false, false, false] [] 16 f86 (by kernel_rfl) trivial (fun act89 f88 => ?_)
   clear f86
   refine AtH.rd (by kernel_rfl) (fun d v c a w h => by cases d <;> exact h) hS74 [17] [[]] [(32, .bool (decide ((m : Int) < (max 0 (min n 256)))))] #[true, true, true, true, true, true, true, true, true, true, true, true, true, true, true, true, true, true, false, false, false, false, false, false, false, false, false, false, false, false, false, false, false] [] 15 f88 (by kernel_rfl) trivial (fun act91 f90 => ?_)
   clear f88
   refine AtH.rd (by kernel_rfl) (fun d v c a w h => by cases d <;> exact h) hS74 [18] [[]] [(33, .bool (decide ((m : Int) < (max 0 (min n 256)))))] #[true, true, true, true, true, true, true, true, true, true, true, true, true, true, true, true, true, true, true, false, false, false, false, false, false, false, false, false, false, false, false, false, false] [] 14 f90 (by kernel_rfl) trivial (fun act93 f92 => ?_)
   clear f90
   refine AtH.rd (by kernel_rfl) (fun d v c a w h => by cases d <;> exact h) hS74 [19] [[.as_ (.bool false)]] [(34, .bool false)] #[true, true, true, true, true, true, true, true, true, true, true, true, true, true, true, true, true, true, true, true, false, false, false, false, false, false, false, false, false, false, false, false, false] [((.bool (!((hasW (fullW n) m) == (decide ((m : Int) < (max 0 (min n 256)))))) : Value) = .bool false)] 13 f92 (by kernel_rfl) ⟨(congrArg Value.bool (nbF (by rw [full_has]; first | exact decide_eq_false (by omega) | (rw [decide_eq_decide]; omega)))), trivial⟩ (fun act95 f94 => ?_)
   clear f92
   refine AtH.rd (by kernel_rfl) (fun d v c a w h => by cases d <;> exact h) hS74 [20] [[]] [(35, .bool false)] #[true, true, true, true, true, true, true, true, true, true, true, true, true, true, true, true, true, true, true, true, true, false, false, false, false, false, false, false, false, false, false, false, false] [] 12 f94 (by kernel_rfl) trivial (fun act97 f96 => ?_)
   clear f94
   refine AtH.rd (by kernel_rfl) (fun d v c a w h => by cases d <;> exact h) hS74 [21] [[]] [(36, .bool false)] #[true, true, true, true, true, true, true, true, true, true, true, true, true, true, true, true, true, true, true, true, true, true, false, false, false, false, false, false, false, false, false, false, false] [] 11 f96 (by kernel_rfl) trivial (fun act99 f98 => ?_)
   clear f96
   refine AtH.rd (by kernel_rfl) (fun d v c a w h => by cases d <;> exact h) hS74 [22] [[.cs ((fullW n : List Int).map wV)]] [(37, .agg ((fullW n : List Int).map wV).toArray)] #[true, true, true, true, true, true, true, true, true, true, true, true, true, true, true, true, true, true, true, true, true, true, true, false, false, false, false, false, false, false, false, false, false] [(((fullW n : List Int).map wV).length = 4), (∀ (j : Nat) (v : Value), ((fullW n : List Int).map wV)[j]? = some v → ∃ j_ : Nat, Cs40[j_]? = some (((⟨w14.heap.size, 0, none⟩ : Addr).add j), v))] 10 f98 (by kernel_rfl) ⟨((List.length_map _).trans (okLen (fullW_W _))), (fun j v hv => List.getElem?_of_mem (by rw [hCs41]; exact List.mem_append.2 (.inr (blkC_in hv)))), trivial⟩ (fun act101 f100 => ?_)
   clear f98
   refine AtH.rd (by kernel_rfl) (fun d v c a w h => by cases d <;> exact h) hS74 [23] [[]] [(38, .int .i64 (m))] #[true, true, true, true, true, true, true, true, true, true, true, true, true, true, true, true, true, true, true, true, true, true, true, true, false, false, false, false, false, false, false, false, false] [] 9 f100 (by kernel_rfl) trivial (fun act103 f102 => ?_)
   clear f100
   refine AtH.rd (by kernel_rfl) (fun d v c a w h => by cases d <;> exact h) hS74 [26] [[]] [(41, .int .i64 (max 0 (min n 256)))] #[true, true, true, true, true, true, true, true, true, true, true, true, true, true, true, true, true, true, true, true, true, true, true, true, false, false, true, false, false, false, false, false, false] [] 8 f102 (by kernel_rfl) trivial (fun act105 f104 => ?_)
   clear f102
   refine AtH.rd (by kernel_rfl) (fun d v c a w h => by cases d <;> exact h) hS74 [27] [[]] [(42, .int .i64 (m))] #[true, true, true, true, true, true, true, true, true, true, true, true, true, true, true, true, true, true, true, true, true, true, true, true, false, false, true, true, false, false, false, false, false] [] 7 f104 (by kernel_rfl) trivial (fun act107 f106 => ?_)
   clear f104
   refine AtH.rd (by kernel_rfl) (fun d v c a w h => by cases d <;> exact h) hS74 [28] [[.as_ (.int .i64 (min m 256))]] [(43, .int .i64 (min m 256))] #[true, true, true, true, true, true, true, true, true, true, true, true, true, true, true, true, true, true, true, true, true, true, true, true, false, false, true, true, true, false, false, false, false] [((.int .i64 (if 256 < m then 256 else m) : Value) = .int .i64 (min m 256))] 6 f106 (by kernel_rfl) ⟨(congrArg (Value.int .i64) (min_if _ _)), trivial⟩ (fun act109 f108 => ?_)
   clear f106
   refine AtH.rd (by kernel_rfl) (fun d v c a w h => by cases d <;> exact h) hS74 [29] [[.as_ (.int .i64 (max 0 (min m 256)))]] [(44, .int .i64 (max 0 (min m 256)))] #[true, true, true, true, true, true, true, true, true, true, true, true, true, true, true, true, true, true, true, true, true, true, true, true, false, false, true, true, true, true, false, false, false] [((.int .i64 (if (min m 256) > 0 then (min m 256) else 0) : Value) = .int .i64 (max 0 (min m 256)))] 5 f108 (by kernel_rfl) ⟨(congrArg (Value.int .i64) (max_if _ _)), trivial⟩ (fun act111 f110 => ?_)
   clear f108
   refine AtH.rd (by kernel_rfl) (fun d v c a w h => by cases d <;> exact h) hS74 [30] [[]] [(45, .bool (decide ((max 0 (min n 256) : Int) ≤ (max 0 (min m 256)))))] #[true, true, true, true, true, true, true, true, true, true, true, true, true, true, true, true, true, true, true, true, true, true, true, true, false, false, true, true, true, true, true, false, false] [] 4 f110 (by kernel_rfl) trivial (fun act113 f112 => ?_)
   clear f110
   refine AtH.all [24] 3 (by kernel_rfl) (by simp) ⟨?_, trivial⟩
   refine OneH.call f112 13 #[.int .i64 (m)] (some 39) #[true, true, true, true, true, true, true, true, true, true, true, true, true, true, true, true, true, true, true, true, true, true, true, true, true, false, true, true, true, true, true, false, false] (by kernel_rfl) (by kernel_rfl) (full_any (n := m) (by omega)) ?_
   rintro e_ w115 ⟨rfl, he⟩
   refine ⟨_, rfl, _, rfl, fun act116 f117 => ?_⟩
   clear f112
   have g118 := gr_ext he
   have hS114 := hS74.gr g118
   have szw115 := g118.size
   have e119 := e79.gr g118 no_row
   clear e79
   have r120 := r80.gr g118 (fun _ h => by cases h)
   clear r80
   have bx121 := bx81.gr g118 (by simp)
   clear bx81
   clear g118 he
   refine ⟨hS114, ?_⟩
   refine AtH.all [25] 2 (by kernel_rfl) (by simp) ⟨?_, trivial⟩
   refine OneH.call f117 28 #[.agg ((fullW n : List Int).map wV).toArray, .agg ((fullW m : List Int).map wV).toArray] (some 40) #[true, true, true, true, true, true, true, true, true, true, true, true, true, true, true, true, true, true, true, true, true, true, true, true, true, true, true, true, true, true, true, false, false] (by kernel_rfl) (by kernel_rfl) (in_any (s := fullW n) (t := fullW m) (fullW_W _) (fullW_W _)) ?_
   rintro e_ w123 ⟨rfl, he⟩
   refine ⟨_, rfl, _, rfl, fun act124 f125 => ?_⟩
   clear f117
   have g126 := gr_ext he
   have hS122 := hS114.gr g126
   have szw123 := g126.size
   have e127 := e119.gr g126 no_row
   clear e119
   have r128 := r120.gr g126 (fun _ h => by cases h)
   clear r120
   have bx129 := bx121.gr g126 (by simp)
   clear bx121
   clear g126 he
   refine ⟨hS122, ?_⟩
   refine AtH.rd (by kernel_rfl) (fun d v c a w h => by cases d <;> exact h) hS122 [31] [[.as_ (.bool false)]] [(46, .bool false)] #[true, true, true, true, true, true, true, true, true, true, true, true, true, true, true, true, true, true, true, true, true, true, true, true, true, true, true, true, true, true, true, true, false] [((.bool (!((inW (fullW n) (fullW m)) == (decide ((max 0 (min n 256) : Int) ≤ (max 0 (min m 256)))))) : Value) = .bool false)] 1 f125 (by kernel_rfl) ⟨(congrArg Value.bool (nbF (full_in n m))), trivial⟩ (fun act131 f130 => ?_)
   clear f125
   refine AtH.rd (by kernel_rfl) (fun d v c a w h => by cases d <;> exact h) hS122 [32] [[]] [(47, .bool false)] #[true, true, true, true, true, true, true, true, true, true, true, true, true, true, true, true, true, true, true, true, true, true, true, true, true, true, true, true, true, true, true, true, true] [] 0 f130 (by kernel_rfl) trivial (fun act133 f132 => ?_)
   clear f130
   refine AtH.done (by kernel_rfl) ?_
   clear hS122
   refine t_n ?_
   have f134 := f132.sub (r := [(47, .bool false), (7, .int .i64 (max 0 (min n 256))), (6, .pointer (some ⟨w14.heap.size, 0, none⟩)), (4, .bool false)]) ⟨rfl, rfl, rfl, rfl, trivial⟩
   exact ⟨f134, e127, r128, bx129, (by omega)⟩
  ·have q135 := of_decide_eq_false h82
   refine AtH.rd (by kernel_rfl) (fun d v c a w h => by cases d <;> exact h) hS74 [14] [[.as_ (.bool false)]] [(29, .bool false)] #[true, true, true, true, true, true, true, true, true, true, true, true, true, true, true, false, false, false, false, false, false, false, false, false, false, false, false, false, false, false, false, false, false] [((.bool (decide ((m : Int) ≥ 0)) : Value) = .bool false)] 18 f77 (by kernel_rfl) ⟨(congrArg Value.bool h82), trivial⟩ (fun act137 f136 => ?_)
   clear f77
   refine AtH.rd (by kernel_rfl) (fun d v c a w h => by cases d <;> exact h) hS74 [15] [[]] [(30, undef)] #[true, true, true, true, true, true, true, true, true, true, true, true, true, true, true, true, false, false, false, false, false, false, false, false, false, false, false, false, false, false, false, false, false] [] 17 f136 (by kernel_rfl) trivial (fun act139 f138 => ?_)
   clear f136
   refine AtH.rd (by kernel_rfl) (fun d v c a w h => by cases d <;> exact h) hS74 [16] [[]] [(31, undef)] #[true, true, true, true, true, true, true, true, true, true, true, true, true, true, true, true, true, false, false, false, false, false, false, false, false, false, false, false, false, false, false, false, false] [] 16 f138 (by kernel_rfl) trivial (fun act141 f140 => ?_)
   clear f138
   refine AtH.rd (by kernel_rfl) (fun d v c a w h => by cases d <;> exact h) hS74 [17] [[]] [(32, undef)] #[true, true, true, true, true, true, true, true, true, true, true, true, true, true, true, true, true, true, false, false, false, false, false, false, false, false, false, false, false, false, false, false, false] [] 15 f140 (by kernel_rfl) trivial (fun act143 f142 => ?_)
   clear f140
   refine AtH.rd (by kernel_rfl) (fun d v c a w h => by cases d <;> exact h) hS74 [18] [[]] [(33, .bool false)] #[true, true, true, true, true, true, true, true, true, true, true, true, true, true, true, true, true, true, true, false, false, false, false, false, false, false, false, false, false, false, false, false, false] [] 14 f142 (by kernel_rfl) trivial (fun act145 f144 => ?_)
   clear f142
   refine AtH.rd (by kernel_rfl) (fun d v c a w h => by cases d <;> exact h) hS74 [19] [[.as_ (.bool false)]] [(34, .bool false)] #[true, true, true, true, true, true, true, true, true, true, true, true, true, true, true, true, true, true, true, true, false, false, false, false, false, false, false, false, false, false, false, false, false] [((.bool (!((hasW (fullW n) m) == false)) : Value) = .bool false)] 13 f144 (by kernel_rfl) ⟨(congrArg Value.bool (nbF (by rw [full_has]; first | exact decide_eq_false (by omega) | (rw [decide_eq_decide]; omega)))), trivial⟩ (fun act147 f146 => ?_)
   clear f144
   refine AtH.rd (by kernel_rfl) (fun d v c a w h => by cases d <;> exact h) hS74 [20] [[]] [(35, .bool false)] #[true, true, true, true, true, true, true, true, true, true, true, true, true, true, true, true, true, true, true, true, true, false, false, false, false, false, false, false, false, false, false, false, false] [] 12 f146 (by kernel_rfl) trivial (fun act149 f148 => ?_)
   clear f146
   refine AtH.rd (by kernel_rfl) (fun d v c a w h => by cases d <;> exact h) hS74 [21] [[]] [(36, .bool false)] #[true, true, true, true, true, true, true, true, true, true, true, true, true, true, true, true, true, true, true, true, true, true, false, false, false, false, false, false, false, false, false, false, false] [] 11 f148 (by kernel_rfl) trivial (fun act151 f150 => ?_)
   clear f148
   refine AtH.rd (by kernel_rfl) (fun d v c a w h => by cases d <;> exact h) hS74 [22] [[.cs ((fullW n : List Int).map wV)]] [(37, .agg ((fullW n : List Int).map wV).toArray)] #[true, true, true, true, true, true, true, true, true, true, true, true, true, true, true, true, true, true, true, true, true, true, true, false, false, false, false, false, false, false, false, false, false] [(((fullW n : List Int).map wV).length = 4), (∀ (j : Nat) (v : Value), ((fullW n : List Int).map wV)[j]? = some v → ∃ j_ : Nat, Cs40[j_]? = some (((⟨w14.heap.size, 0, none⟩ : Addr).add j), v))] 10 f150 (by kernel_rfl) ⟨((List.length_map _).trans (okLen (fullW_W _))), (fun j v hv => List.getElem?_of_mem (by rw [hCs41]; exact List.mem_append.2 (.inr (blkC_in hv)))), trivial⟩ (fun act153 f152 => ?_)
   clear f150
   refine AtH.rd (by kernel_rfl) (fun d v c a w h => by cases d <;> exact h) hS74 [23] [[]] [(38, .int .i64 (m))] #[true, true, true, true, true, true, true, true, true, true, true, true, true, true, true, true, true, true, true, true, true, true, true, true, false, false, false, false, false, false, false, false, false] [] 9 f152 (by kernel_rfl) trivial (fun act155 f154 => ?_)
   clear f152
   refine AtH.rd (by kernel_rfl) (fun d v c a w h => by cases d <;> exact h) hS74 [26] [[]] [(41, .int .i64 (max 0 (min n 256)))] #[true, true, true, true, true, true, true, true, true, true, true, true, true, true, true, true, true, true, true, true, true, true, true, true, false, false, true, false, false, false, false, false, false] [] 8 f154 (by kernel_rfl) trivial (fun act157 f156 => ?_)
   clear f154
   refine AtH.rd (by kernel_rfl) (fun d v c a w h => by cases d <;> exact h) hS74 [27] [[]] [(42, .int .i64 (m))] #[true, true, true, true, true, true, true, true, true, true, true, true, true, true, true, true, true, true, true, true, true, true, true, true, false, false, true, true, false, false, false, false, false] [] 7 f156 (by kernel_rfl) trivial (fun act159 f158 => ?_)
   clear f156
   refine AtH.rd (by kernel_rfl) (fun d v c a w h => by cases d <;> exact h) hS74 [28] [[.as_ (.int .i64 (min m 256))]] [(43, .int .i64 (min m 256))] #[true, true, true, true, true, true, true, true, true, true, true, true, true, true, true, true, true, true, true, true, true, true, true, true, false, false, true, true, true, false, false, false, false] [((.int .i64 (if 256 < m then 256 else m) : Value) = .int .i64 (min m 256))] 6 f158 (by kernel_rfl) ⟨(congrArg (Value.int .i64) (min_if _ _)), trivial⟩ (fun act161 f160 => ?_)
   clear f158
   refine AtH.rd (by kernel_rfl) (fun d v c a w h => by cases d <;> exact h) hS74 [29] [[.as_ (.int .i64 (max 0 (min m 256)))]] [(44, .int .i64 (max 0 (min m 256)))] #[true, true, true, true, true, true, true, true, true, true, true, true, true, true, true, true, true, true, true, true, true, true, true, true, false, false, true, true, true, true, false, false, false] [((.int .i64 (if (min m 256) > 0 then (min m 256) else 0) : Value) = .int .i64 (max 0 (min m 256)))] 5 f160 (by kernel_rfl) ⟨(congrArg (Value.int .i64) (max_if _ _)), trivial⟩ (fun act163 f162 => ?_)
   clear f160
   refine AtH.rd (by kernel_rfl) (fun d v c a w h => by cases d <;> exact h) hS74 [30] [[]] [(45, .bool (decide ((max 0 (min n 256) : Int) ≤ (max 0 (min m 256)))))] #[true, true, true, true, true, true, true, true, true, true, true, true, true, true, true, true, true, true, true, true, true, true, true, true, false, false, true, true, true, true, true, false, false] [] 4 f162 (by kernel_rfl) trivial (fun act165 f164 => ?_)
   clear f162
   refine AtH.all [24] 3 (by kernel_rfl) (by simp) ⟨?_, trivial⟩
   refine OneH.call f164 13 #[.int .i64 (m)] (some 39) #[true, true, true, true, true, true, true, true, true, true, true, true, true, true, true, true, true, true, true, true, true, true, true, true, true, false, true, true, true, true, true, false, false] (by kernel_rfl) (by kernel_rfl) (full_any (n := m) (by omega)) ?_
   rintro e_ w167 ⟨rfl, he⟩
   refine ⟨_, rfl, _, rfl, fun act168 f169 => ?_⟩
   clear f164
   have g170 := gr_ext he
   have hS166 := hS74.gr g170
   have szw167 := g170.size
   have e171 := e79.gr g170 no_row
   clear e79
   have r172 := r80.gr g170 (fun _ h => by cases h)
   clear r80
   have bx173 := bx81.gr g170 (by simp)
   clear bx81
   clear g170 he
   refine ⟨hS166, ?_⟩
   refine AtH.all [25] 2 (by kernel_rfl) (by simp) ⟨?_, trivial⟩
   refine OneH.call f169 28 #[.agg ((fullW n : List Int).map wV).toArray, .agg ((fullW m : List Int).map wV).toArray] (some 40) #[true, true, true, true, true, true, true, true, true, true, true, true, true, true, true, true, true, true, true, true, true, true, true, true, true, true, true, true, true, true, true, false, false] (by kernel_rfl) (by kernel_rfl) (in_any (s := fullW n) (t := fullW m) (fullW_W _) (fullW_W _)) ?_
   rintro e_ w175 ⟨rfl, he⟩
   refine ⟨_, rfl, _, rfl, fun act176 f177 => ?_⟩
   clear f169
   have g178 := gr_ext he
   have hS174 := hS166.gr g178
   have szw175 := g178.size
   have e179 := e171.gr g178 no_row
   clear e171
   have r180 := r172.gr g178 (fun _ h => by cases h)
   clear r172
   have bx181 := bx173.gr g178 (by simp)
   clear bx173
   clear g178 he
   refine ⟨hS174, ?_⟩
   refine AtH.rd (by kernel_rfl) (fun d v c a w h => by cases d <;> exact h) hS174 [31] [[.as_ (.bool false)]] [(46, .bool false)] #[true, true, true, true, true, true, true, true, true, true, true, true, true, true, true, true, true, true, true, true, true, true, true, true, true, true, true, true, true, true, true, true, false] [((.bool (!((inW (fullW n) (fullW m)) == (decide ((max 0 (min n 256) : Int) ≤ (max 0 (min m 256)))))) : Value) = .bool false)] 1 f177 (by kernel_rfl) ⟨(congrArg Value.bool (nbF (full_in n m))), trivial⟩ (fun act183 f182 => ?_)
   clear f177
   refine AtH.rd (by kernel_rfl) (fun d v c a w h => by cases d <;> exact h) hS174 [32] [[]] [(47, .bool false)] #[true, true, true, true, true, true, true, true, true, true, true, true, true, true, true, true, true, true, true, true, true, true, true, true, true, true, true, true, true, true, true, true, true] [] 0 f182 (by kernel_rfl) trivial (fun act185 f184 => ?_)
   clear f182
   refine AtH.done (by kernel_rfl) ?_
   clear hS174
   refine t_n ?_
   have f186 := f184.sub (r := [(47, .bool false), (7, .int .i64 (max 0 (min n 256))), (6, .pointer (some ⟨w14.heap.size, 0, none⟩)), (4, .bool false)]) ⟨rfl, rfl, rfl, rfl, trivial⟩
   exact ⟨f186, e179, r180, bx181, (by omega)⟩
 ·clear r35
  clear bx31
  clear f39 e34
  intro act187 w188 ⟨f189, e190, r191, bx192, szz193⟩
  have szw188 := e190.size
  have := bx192.lt
  refine cond_F f189 rfl ?_
  refine wp_skip ?_
  refine t_n ?_
  have f194 := f189.sub (r := [(7, .int .i64 (max 0 (min n 256))), (6, .pointer (some ⟨w14.heap.size, 0, none⟩)), (4, .bool false)]) ⟨rfl, rfl, rfl, trivial⟩
  clear f189
  refine wp_seq ?_
  refine wp_seq ?_
  refine At.start ?_
  refine At.rd f194 1 [[]] [(8, .int .i64 (0))] [] (by kernel_rfl) trivial (fun act196 f195 => ?_)
  clear f194
  refine At.done rfl ?_
  refine t_n ?_
  refine wp_block ?_
  have f197 := f195.sub (r := [(8, .int .i64 (0)), (7, .int .i64 (max 0 (min n 256))), (6, .pointer (some ⟨w14.heap.size, 0, none⟩))]) ⟨rfl, rfl, rfl, trivial⟩
  refine loop_g (fun (m_ : Nat) a_ w_ => ∃ (k : Int) (xs : List Int), m_ = (max 0 (min n 256) - k).toNat ∧ (Frm 74 a_ [(8, .int .i64 (k)), (7, .int .i64 (max 0 (min n 256))), (6, .pointer (some ⟨w14.heap.size, 0, none⟩))]) ∧ (Ext w w_) ∧ (RdT w_ 0 w.heap.size) ∧ (Bx w_ (w14.heap.size) ((xs : List Int).map wV) 26) ∧ (0 ≤ k) ∧ (OkW xs) ∧ (lsD (fromW xs) 256 = (lsD (fromW (fullW n)) 256).drop k.toNat) ∧ (k ≤ max 0 (min n 256)) ∧ (xs.length = 4)) _ ⟨0, (fullW n), rfl, f197, e190, r191, bx192, (by omega), (fullW_W n), rfl, (by omega), (fullW_W n).1⟩ ?_
  clear f197 f195
  clear r191
  clear bx192
  clear e190
  intro m_ act198 w199 ⟨k, xs, hm201, f202, e200, r203, bx204, i205, hok, hdr, i206, i207⟩
  have szw199 := e200.size
  have := bx204.lt
  refine wp_seq ?_
  refine wp_seq ?_
  refine At.start ?_
  refine At.rd f202 3 [[], [], []] [(50, .bool (decide ((k : Int) < (max 0 (min n 256))))), (49, .int .i64 (max 0 (min n 256))), (48, .int .i64 (k))] [] (by kernel_rfl) trivial (fun act209 f208 => ?_)
  clear f202
  refine At.done rfl ?_
  refine t_n ?_
  have f210 := f208.sub (r := [(50, .bool (decide ((k : Int) < (max 0 (min n 256))))), (8, .int .i64 (k)), (7, .int .i64 (max 0 (min n 256))), (6, .pointer (some ⟨w14.heap.size, 0, none⟩))]) ⟨rfl, rfl, rfl, rfl, trivial⟩
  clear f208
  refine cond_S f210 (t := decide ((k : Int) < (max 0 (min n 256)))) rfl (fun h211 => ?_) (fun h211 => ?_)
  ·have q212 := of_decide_eq_true h211
   refine wp_skip ?_
   refine t_n ?_
   have f213 := f210.sub (r := [(8, .int .i64 (k)), (7, .int .i64 (max 0 (min n 256))), (6, .pointer (some ⟨w14.heap.size, 0, none⟩))]) ⟨rfl, rfl, rfl, trivial⟩
   clear f210
   refine wp_seq ?_
   refine wp_block ?_
   refine wp_seq ?_
   refine wp_seq ?_
   refine At.start ?_
   refine At.rd f213 1 [[.cs ((xs : List Int).map wV)]] [(53, .agg ((xs : List Int).map wV).toArray)] [(((xs : List Int).map wV).length = 4), (∀ (j : Nat) (v : Value), ((xs : List Int).map wV)[j]? = some v → w199.cell? ((⟨w14.heap.size, 0, none⟩ : Addr).add j) = some v)] (by kernel_rfl) ⟨(by simp only [List.length_map, List.length_set, List.length_replicate, List.length_cons, List.length_nil]; first | done | assumption | exact from_len _ | exact of_len _ | exact ofZ_len _ | exact (ofW_ok _).1 | exact (fullW_W _).1 | exact (okW_with (by assumption)).1 | exact (okW_less (by assumption)).1 | exact put_len (from_len _) | exact orD_len _ _ | exact andD_len _ _ | exact minusD_len _ _ | exact fullD_len _ | (refine okLen ?_; (repeat (first | assumption | exact ofW_ok _ | exact fullW_W _ | apply okW_with | apply okW_less | refine okW_orS ?_ ?_ | refine okW_andS ?_ ?_ | refine okW_minusS ?_ ?_)); done) | omega | rfl), bx204.whole, trivial⟩ (fun act215 f214 => ?_)
   clear f213
   refine At.call f214 22 #[.agg ((xs : List Int).map wV).toArray] (some 54) (by kernel_rfl) (least_any (s := xs) (by repeat (first | assumption | exact ofW_ok _ | exact fullW_W _ | exact wordsD_W _ | exact okW_0 | exact okW_00 | apply okW_orS | apply okW_andS | apply okW_minusS | apply okW_with | apply okW_less | apply okW_or | apply okW_and | apply okW_minus | (apply okW_lit <;> exact ⟨by omega, by omega⟩))) (r203.wide (Nat.zero_le _) (by omega))) ?_
   rintro e_ w216 ⟨rfl, he⟩
   have := leastD_b (fromW xs)
   refine ⟨_, rfl, _, rfl, fun act217 f218 => ?_⟩
   clear f214
   have g219 := gr_ext he
   have szw216 := g219.size
   have e220 := e200.gr g219 no_row
   clear e200
   have r221 := r203.gr g219 (fun _ h => by cases h)
   clear r203
   have bx222 := bx204.gr g219 (by simp)
   clear bx204
   clear g219 he
   refine At.rd f218 2 [[], [.as_ (.bool false)]] [(56, .bool false), (55, .int .i64 (k))] [((.bool ((leastD (fromW xs) : Int) != k) : Value) = .bool false)] (by kernel_rfl) ⟨(congrArg Value.bool (bneF (by rw [tk_least hdr (by omega) (by omega), full_at (by omega) (by omega)]))), trivial⟩ (fun act224 f223 => ?_)
   clear f218
   refine At.done rfl ?_
   refine t_n ?_
   have f225 := f223.sub (r := [(56, .bool false), (8, .int .i64 (k)), (7, .int .i64 (max 0 (min n 256))), (6, .pointer (some ⟨w14.heap.size, 0, none⟩))]) ⟨rfl, rfl, rfl, rfl, trivial⟩
   clear f223
   refine cond_F f225 rfl ?_
   refine wp_skip ?_
   refine t_n ?_
   have f226 := f225.sub (r := [(8, .int .i64 (k)), (7, .int .i64 (max 0 (min n 256))), (6, .pointer (some ⟨w14.heap.size, 0, none⟩))]) ⟨rfl, rfl, rfl, trivial⟩
   clear f225
   refine At.start ?_
   refine At.rd f226 2 [[.cs ((xs : List Int).map wV)], []] [(58, .int .i64 (k)), (57, .agg ((xs : List Int).map wV).toArray)] [(((xs : List Int).map wV).length = 4), (∀ (j : Nat) (v : Value), ((xs : List Int).map wV)[j]? = some v → w216.cell? ((⟨w14.heap.size, 0, none⟩ : Addr).add j) = some v)] (by kernel_rfl) ⟨(by simp only [List.length_map, List.length_set, List.length_replicate, List.length_cons, List.length_nil]; first | done | assumption | exact from_len _ | exact of_len _ | exact ofZ_len _ | exact (ofW_ok _).1 | exact (fullW_W _).1 | exact (okW_with (by assumption)).1 | exact (okW_less (by assumption)).1 | exact put_len (from_len _) | exact orD_len _ _ | exact andD_len _ _ | exact minusD_len _ _ | exact fullD_len _ | (refine okLen ?_; (repeat (first | assumption | exact ofW_ok _ | exact fullW_W _ | apply okW_with | apply okW_less | refine okW_orS ?_ ?_ | refine okW_andS ?_ ?_ | refine okW_minusS ?_ ?_)); done) | omega | rfl), bx222.whole, trivial⟩ (fun act228 f227 => ?_)
   clear f226
   refine At.call f227 30 #[.agg ((xs : List Int).map wV).toArray, .int .i64 (k)] (some 59) (by kernel_rfl) (less_any (s := xs) (n := k) (by repeat (first | assumption | exact ofW_ok _ | exact fullW_W _ | exact wordsD_W _ | exact okW_0 | exact okW_00 | apply okW_orS | apply okW_andS | apply okW_minusS | apply okW_with | apply okW_less | apply okW_or | apply okW_and | apply okW_minus | (apply okW_lit <;> exact ⟨by omega, by omega⟩)))) ?_
   rintro e_ w229 ⟨rfl, he⟩
   refine ⟨_, rfl, _, rfl, fun act230 f231 => ?_⟩
   clear f227
   have g232 := gr_ext he
   have szw229 := g232.size
   have e233 := e220.gr g232 no_row
   clear e220
   have r234 := r221.gr g232 (fun _ h => by cases h)
   clear r221
   have bx235 := bx222.gr g232 (by simp)
   clear bx222
   clear g232 he
   refine At.act f231 (storeBlk (t := 26) (b := w14.heap.size) (n := 4) (cs' := ((lessW xs k : List Int).map wV)) (by kernel_rfl) (by kernel_rfl) ((List.length_map _).trans (okLen (okW_less (by assumption)))) oneW_ ((show ((lessW xs k : List Int).map wV).length = 4 from ((List.length_map _).trans (okLen (okW_less (by assumption))))).trans (show ((xs : List Int).map wV).length = 4 from (by simp only [List.length_map, List.length_set, List.length_replicate, List.length_cons, List.length_nil]; first | done | assumption | exact from_len _ | exact of_len _ | exact ofZ_len _ | exact (ofW_ok _).1 | exact (fullW_W _).1 | exact (okW_with (by assumption)).1 | exact (okW_less (by assumption)).1 | exact put_len (from_len _) | exact orD_len _ _ | exact andD_len _ _ | exact minusD_len _ _ | exact fullD_len _ | (refine okLen ?_; (repeat (first | assumption | exact ofW_ok _ | exact fullW_W _ | apply okW_with | apply okW_less | refine okW_orS ?_ ?_ | refine okW_andS ?_ ?_ | refine okW_minusS ?_ ?_)); done) | omega | rfl)).symm) bx235) ?_
   rintro d_ v_ w236 ⟨rfl, g237, bx238⟩
   refine ⟨_, rfl, fun act240 f239 => ?_⟩
   clear f231
   have szw236 := g237.size
   have e241 := e233.gr g237 (fun k h => by injection h; omega)
   clear e233
   have r242 := r234.gr g237 (fun k h => by injection h; omega)
   clear r234
   clear bx235 g237
   refine At.done rfl ?_
   refine b_n ?_
   refine t_n ?_
   have f243 := f239.sub (r := [(8, .int .i64 (k)), (7, .int .i64 (max 0 (min n 256))), (6, .pointer (some ⟨w14.heap.size, 0, none⟩))]) ⟨rfl, rfl, rfl, trivial⟩
   clear f239
   refine At.start ?_
   refine At.rd f243 3 [[], [.as_ (.int .i64 (k + 1))], []] [(8, .int .i64 (k + 1)), (52, .int .i64 (k + 1)), (51, .int .i64 (k))] [((.int .i64 (IntKind.i64.wrap (k + 1)) : Value) = .int .i64 (k + 1))] (by kernel_rfl) ⟨(w64 (by omega) (by omega)), trivial⟩ (fun act245 f244 => ?_)
   clear f243
   refine At.done rfl ?_
   refine t_n ?_
   have f246 := f244.sub (r := [(8, .int .i64 (k + 1)), (7, .int .i64 (max 0 (min n 256))), (6, .pointer (some ⟨w14.heap.size, 0, none⟩))]) ⟨rfl, rfl, rfl, trivial⟩
   exact ⟨_, (by omega), (k + 1), lessW xs k, rfl, f246, e241, r242, bx238, (by omega), (okW_less hok), (by have hq_ := tk_next hok hdr (by omega) (by omega); rwa [tk_least hdr (by omega) (by omega), full_at (by omega) (by omega)] at hq_), (by omega), (okW_less hok).1⟩
  ·have q247 := of_decide_eq_false h211
   refine wp_exit ?_
   refine t_e ?_
   refine t_e ?_
   refine b_e ?_
   refine t_n ?_
   have f248 := f210.sub (r := [(6, .pointer (some ⟨w14.heap.size, 0, none⟩))]) ⟨rfl, trivial⟩
   clear f210
   refine wp_seq ?_
   refine At.start ?_
   refine At.rd f248 5 [[.cs ((xs : List Int).map wV)], [], [.cs [wV (gI xs 0), wV (gI xs 1), wV (gI xs 2), wV (gI xs 3)], .cs [wV (gI ([0, 0, 0, 0]) 0), wV (gI ([0, 0, 0, 0]) 1), wV (gI ([0, 0, 0, 0]) 2), wV (gI ([0, 0, 0, 0]) 3)], .as_ (.bool true)], [], [.cs ((xs : List Int).map wV)]] [(64, .agg ((xs : List Int).map wV).toArray), (63, .bool true), (62, .bool true), (61, .agg (([0, 0, 0, 0] : List Int).map wV).toArray), (60, .agg ((xs : List Int).map wV).toArray)] [(((xs : List Int).map wV).length = 4), (∀ (j : Nat) (v : Value), ((xs : List Int).map wV)[j]? = some v → w199.cell? ((⟨w14.heap.size, 0, none⟩ : Addr).add j) = some v), (((xs : List Int).map wV).toArray = ([wV (gI xs 0), wV (gI xs 1), wV (gI xs 2), wV (gI xs 3)] : List Value).toArray), ((([0, 0, 0, 0] : List Int).map wV).toArray = ([wV (gI ([0, 0, 0, 0]) 0), wV (gI ([0, 0, 0, 0]) 1), wV (gI ([0, 0, 0, 0]) 2), wV (gI ([0, 0, 0, 0]) 3)] : List Value).toArray), ((.bool ((((gI xs 0 : Int) == gI ([0, 0, 0, 0]) 0) && (((gI xs 1 : Int) == gI ([0, 0, 0, 0]) 1) && (((gI xs 2 : Int) == gI ([0, 0, 0, 0]) 2) && (((gI xs 3 : Int) == gI ([0, 0, 0, 0]) 3) && true))))) : Value) = .bool true), (((xs : List Int).map wV).length = 4), (∀ (j : Nat) (v : Value), ((xs : List Int).map wV)[j]? = some v → w199.cell? ((⟨w14.heap.size, 0, none⟩ : Addr).add j) = some v)] (by kernel_rfl) ⟨(by simp only [List.length_map, List.length_set, List.length_replicate, List.length_cons, List.length_nil]; first | done | assumption | exact from_len _ | exact of_len _ | exact ofZ_len _ | exact (ofW_ok _).1 | exact (fullW_W _).1 | exact (okW_with (by assumption)).1 | exact (okW_less (by assumption)).1 | exact put_len (from_len _) | exact orD_len _ _ | exact andD_len _ _ | exact minusD_len _ _ | exact fullD_len _ | (refine okLen ?_; (repeat (first | assumption | exact ofW_ok _ | exact fullW_W _ | apply okW_with | apply okW_less | refine okW_orS ?_ ?_ | refine okW_andS ?_ ?_ | refine okW_minusS ?_ ?_)); done) | omega | rfl), bx204.whole, (map4 (by first | assumption | exact (okW_with (by assumption)).1 | exact (okW_less (by assumption)).1 | exact (ofW_ok _).1 | exact (fullW_W _).1 | (refine okLen ?_; (repeat (first | assumption | exact ofW_ok _ | exact fullW_W _ | apply okW_with | apply okW_less | refine okW_orS ?_ ?_ | refine okW_andS ?_ ?_ | refine okW_minusS ?_ ?_)); done) | rfl | omega | (simp only [List.length_set]; first | done | assumption | omega) | exact lenW4 _ (by assumption))), (map4 (okLen okW_00)), (Eq.trans (b := (.bool (decide ((xs : List Int) = ([0, 0, 0, 0]))) : Value)) (congrArg (fun b => Value.bool b) (w4_eq (by first | assumption | exact (okW_with (by assumption)).1 | exact (okW_less (by assumption)).1 | exact (ofW_ok _).1 | exact (fullW_W _).1 | (refine okLen ?_; (repeat (first | assumption | exact ofW_ok _ | exact fullW_W _ | apply okW_with | apply okW_less | refine okW_orS ?_ ?_ | refine okW_andS ?_ ?_ | refine okW_minusS ?_ ?_)); done) | rfl | omega | (simp only [List.length_set]; first | done | assumption | omega) | exact lenW4 _ (by assumption)) (okLen okW_00))) (congrArg Value.bool (decide_eq_true (tk_end hok hdr (by omega))))), (by simp only [List.length_map, List.length_set, List.length_replicate, List.length_cons, List.length_nil]; first | done | assumption | exact from_len _ | exact of_len _ | exact ofZ_len _ | exact (ofW_ok _).1 | exact (fullW_W _).1 | exact (okW_with (by assumption)).1 | exact (okW_less (by assumption)).1 | exact put_len (from_len _) | exact orD_len _ _ | exact andD_len _ _ | exact minusD_len _ _ | exact fullD_len _ | (refine okLen ?_; (repeat (first | assumption | exact ofW_ok _ | exact fullW_W _ | apply okW_with | apply okW_less | refine okW_orS ?_ ?_ | refine okW_andS ?_ ?_ | refine okW_minusS ?_ ?_)); done) | omega | rfl), bx204.whole, trivial⟩ (fun act250 f249 => ?_)
   clear f248
   refine At.call f249 22 #[.agg ((xs : List Int).map wV).toArray] (some 65) (by kernel_rfl) (least_any (s := xs) (by repeat (first | assumption | exact ofW_ok _ | exact fullW_W _ | exact wordsD_W _ | exact okW_0 | exact okW_00 | apply okW_orS | apply okW_andS | apply okW_minusS | apply okW_with | apply okW_less | apply okW_or | apply okW_and | apply okW_minus | (apply okW_lit <;> exact ⟨by omega, by omega⟩))) (r203.wide (Nat.zero_le _) (by omega))) ?_
   rintro e_ w251 ⟨rfl, he⟩
   have := leastD_b (fromW xs)
   refine ⟨_, rfl, _, rfl, fun act252 f253 => ?_⟩
   clear f249
   have g254 := gr_ext he
   have szw251 := g254.size
   have e255 := e200.gr g254 no_row
   clear e200
   have r256 := r203.gr g254 (fun _ h => by cases h)
   clear r203
   have bx257 := bx204.gr g254 (by simp)
   clear bx204
   clear g254 he
   refine At.rd f253 4 [[.as_ (.bool true)], [], [], [.cs ((xs : List Int).map wV)]] [(69, .agg ((xs : List Int).map wV).toArray), (68, .bool true), (67, .bool true), (66, .bool true)] [((.bool ((leastD (fromW xs) : Int) == (-1)) : Value) = .bool true), (((xs : List Int).map wV).length = 4), (∀ (j : Nat) (v : Value), ((xs : List Int).map wV)[j]? = some v → w251.cell? ((⟨w14.heap.size, 0, none⟩ : Addr).add j) = some v)] (by kernel_rfl) ⟨(congrArg Value.bool (beqT (none_least (tk_none hdr (by omega))))), (by simp only [List.length_map, List.length_set, List.length_replicate, List.length_cons, List.length_nil]; first | done | assumption | exact from_len _ | exact of_len _ | exact ofZ_len _ | exact (ofW_ok _).1 | exact (fullW_W _).1 | exact (okW_with (by assumption)).1 | exact (okW_less (by assumption)).1 | exact put_len (from_len _) | exact orD_len _ _ | exact andD_len _ _ | exact minusD_len _ _ | exact fullD_len _ | (refine okLen ?_; (repeat (first | assumption | exact ofW_ok _ | exact fullW_W _ | apply okW_with | apply okW_less | refine okW_orS ?_ ?_ | refine okW_andS ?_ ?_ | refine okW_minusS ?_ ?_)); done) | omega | rfl), bx257.whole, trivial⟩ (fun act259 f258 => ?_)
   clear f253
   refine At.call f258 19 #[.agg ((xs : List Int).map wV).toArray] (some 70) (by kernel_rfl) (list_any (s := xs) (by repeat (first | assumption | exact ofW_ok _ | exact fullW_W _ | exact wordsD_W _ | exact okW_0 | exact okW_00 | apply okW_orS | apply okW_andS | apply okW_minusS | apply okW_with | apply okW_less | apply okW_or | apply okW_and | apply okW_minus | (apply okW_lit <;> exact ⟨by omega, by omega⟩))) (r256.wide (Nat.zero_le _) (by omega))) ?_
   rintro e_ w264 ⟨A260, c261, rfl, he, ow262⟩
   have := ls_len (fromW xs) 256
   refine ⟨_, rfl, _, rfl, fun act265 f266 => ?_⟩
   clear f258
   have g267 := gr_ext he
   have szw264 := g267.size
   have e268 := e255.gr g267 no_row
   clear e255
   have r269 := r256.gr g267 (fun _ h => by cases h)
   clear r256
   have bx270 := bx257.gr g267 (by simp)
   clear bx257
   clear g267 he
   refine At.rd f266 4 [[], [.as_ (.bool true)], [], []] [(4, .bool true), (73, .bool true), (72, .bool true), (71, .int .i64 ((((lsD (fromW xs) 256).length : Nat) : Int)))] [((.bool (((((lsD (fromW xs) 256).length : Nat) : Int) : Int) == 0) : Value) = .bool true)] (by kernel_rfl) ⟨(congrArg Value.bool (beqT (by rw [tk_none hdr (by omega)]; rfl))), trivial⟩ (fun act272 f271 => ?_)
   clear f266
   refine At.done rfl ?_
   refine t_n ?_
   have f273 := f271.sub (r := [(4, .bool true)]) ⟨rfl, trivial⟩
   clear f271
   refine wp_ret ?_
   refine ret_ f273 [] [.bool true] [] (by kernel_rfl) trivial ?_
   exact ⟨rfl, e268⟩

end Go.Proofs.YtepekncgknlcjaaDoor
