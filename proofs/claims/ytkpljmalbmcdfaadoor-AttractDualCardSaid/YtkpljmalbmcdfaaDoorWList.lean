/-
  A walk of a Go function, printed by a program of this repo. Conditions: what the theorems name.
-/
import Derived.Test.YtkpljmalbmcdfaaDoorPureList
import Derived.Test.YtkpljmalbmcdfaaDoorWLen
set_option linter.unusedVariables false
set_option linter.unusedSimpArgs false
namespace Go.Proofs.YtkpljmalbmcdfaaDoor
open Go Go.RowKit

set_option maxHeartbeats 4000000 in
theorem list_any {s : List Int} {w : World} (hs : OkW s) (rT : RdT w 0 w.heap.size) :
    Calls Tryd.prog 31 #[.agg ((s : List Int).map wV).toArray] w fun e w' => ∃ A c, e = .returned (.slice A ((lsD (fromW s) 256)).length c) ∧ Ext w w' ∧ OwnR w' (Sx w.heap.size []) A c 3 ((lsD (fromW s) 256) : List Int) := by
 have hls := hs.1
 refine enter_ (args := [.agg ((s : List Int).map wV).toArray]) Tryd.func31 rfl Tryd.ntmps31 (Nat.le_of_ble_eq_true rfl) (fun act0 f0 => ?_)
 have e0 := Ext.refl w
 refine wp_seq ?_
 refine At.start ?_
 refine At.seq f0 1 [[]] [(1, .pointer (some ⟨w.heap.size, 0, none⟩))] (w.alloc (.cells ((s : List Int).map wV).toArray 28 (0, 0))) [] (by kernel_rfl) trivial (fun act4 w1 hw2 f3 => ?_)
 clear f0
 have g5 := gr_alloc hw2
 have szw1 := g5.size
 have e7 := e0.gr g5 no_row
 clear e0
 have r8 := rT.gr g5 (fun _ h => by cases h)
 clear rT
 have bx9 : Bx w1 (w.heap.size) ((s : List Int).map wV) 28 := Bx.new hw2
 have := bx9.lt
 clear g5 hw2
 refine At.rd f3 1 [[]] [(2, .slice none 0 0)] [] (by kernel_rfl) trivial (fun act11 f10 => ?_)
 clear f3
 refine At.done rfl ?_
 refine t_n ?_
 have f12 := f10.sub (r := [(2, .slice none 0 0), (1, .pointer (some ⟨w.heap.size, 0, none⟩))]) ⟨rfl, rfl, trivial⟩
 clear f10
 refine wp_seq ?_
 refine At.start ?_
 refine At.rd f12 1 [[.cs ((s : List Int).map wV)]] [(6, .agg ((s : List Int).map wV).toArray)] [(((s : List Int).map wV).length = 4), (∀ (j : Nat) (v : Value), ((s : List Int).map wV)[j]? = some v → w1.cell? ((⟨w.heap.size, 0, none⟩ : Addr).add j) = some v)] (by kernel_rfl) ⟨(by simp only [List.length_map, List.length_set, List.length_replicate, List.length_cons, List.length_nil]; first | done | assumption | exact from_len _ | exact of_len _ | exact ofZ_len _ | exact (ofW_ok _).1 | exact (fullW_W _).1 | exact (okW_with (by assumption)).1 | exact (okW_less (by assumption)).1 | exact put_len (from_len _) | exact orD_len _ _ | exact andD_len _ _ | exact minusD_len _ _ | exact fullD_len _ | (refine okLen ?_; (repeat (first | assumption | exact ofW_ok _ | exact fullW_W _ | apply okW_with | apply okW_less | refine okW_orS ?_ ?_ | refine okW_andS ?_ ?_ | refine okW_minusS ?_ ?_)); done) | omega | rfl), bx9.whole, trivial⟩ (fun act14 f13 => ?_)
 clear f12
 refine At.call f13 37 #[.agg ((s : List Int).map wV).toArray] (some 7) (by kernel_rfl) (len_any (s := s) (by repeat (first | assumption | exact ofW_ok _ | exact fullW_W _ | exact wordsD_W _ | exact okW_0 | exact okW_00 | apply okW_orS | apply okW_andS | apply okW_minusS | apply okW_with | apply okW_less | apply okW_or | apply okW_and | apply okW_minus | (apply okW_lit <;> exact ⟨by omega, by omega⟩)))) ?_
 rintro e_ w15 ⟨rfl, he⟩
 have := lenW_le s
 refine ⟨_, rfl, _, rfl, fun act16 f17 => ?_⟩
 clear f13
 have g18 := gr_ext he
 have szw15 := g18.size
 have e19 := e7.gr g18 no_row
 clear e7
 have r20 := r8.gr g18 (fun _ h => by cases h)
 clear r8
 have bx21 := bx9.gr g18 (by simp)
 clear bx9
 clear g18 he
 refine At.act f17 (makeR (k1 := .i64) (k2 := .i64) (α := Int) (e := 3) (bytes := 8) (t := 22) (d := 8) (n := 0) (cap := lenW s) (0) (by kernel_rfl) rfl (by kernel_rfl) (by omega) (by omega) (by omega) (by omega)) ?_
 rintro d_ v_ w22 ⟨rfl, rfl, g23, hO24⟩
 refine ⟨_, rfl, fun act28 f27 => ?_⟩
 clear f17
 replace hO24 := hO24 (Sx (w15.heap.size) []) (Nat.le_refl _)
 have szw22 := g23.size
 have e29 := e19.gr g23 no_row
 clear e19
 have r30 := r20.gr g23 (fun _ h => by cases h)
 clear r20
 have bx31 := bx21.gr g23 (by simp)
 clear bx21
 clear g23
 refine At.rd f27 1 [[]] [(3, .slice (some ⟨w15.heap.size, 0, none⟩) ((([] : List Int)).length) ((lenW s : Int).toNat))] [] (by kernel_rfl) trivial (fun act33 f32 => ?_)
 clear f27
 refine At.done rfl ?_
 refine t_n ?_
 have f34 := f32.sub (r := [(3, .slice (some ⟨w15.heap.size, 0, none⟩) ((([] : List Int)).length) ((lenW s : Int).toNat)), (2, .slice none 0 0), (1, .pointer (some ⟨w.heap.size, 0, none⟩))]) ⟨rfl, rfl, rfl, trivial⟩
 clear f32
 refine wp_seq ?_
 refine wp_seq ?_
 refine At.start ?_
 refine At.rd f34 2 [[.cs ((s : List Int).map wV)], []] [(10, .int .i64 (0)), (9, .agg ((s : List Int).map wV).toArray)] [(((s : List Int).map wV).length = 4), (∀ (j : Nat) (v : Value), ((s : List Int).map wV)[j]? = some v → w22.cell? ((⟨w.heap.size, 0, none⟩ : Addr).add j) = some v)] (by kernel_rfl) ⟨(by simp only [List.length_map, List.length_set, List.length_replicate, List.length_cons, List.length_nil]; first | done | assumption | exact from_len _ | exact of_len _ | exact ofZ_len _ | exact (ofW_ok _).1 | exact (fullW_W _).1 | exact (okW_with (by assumption)).1 | exact (okW_less (by assumption)).1 | exact put_len (from_len _) | exact orD_len _ _ | exact andD_len _ _ | exact minusD_len _ _ | exact fullD_len _ | (refine okLen ?_; (repeat (first | assumption | exact ofW_ok _ | exact fullW_W _ | apply okW_with | apply okW_less | refine okW_orS ?_ ?_ | refine okW_andS ?_ ?_ | refine okW_minusS ?_ ?_)); done) | omega | rfl), bx31.whole, trivial⟩ (fun act36 f35 => ?_)
 clear f34
 refine At.done rfl ?_
 refine t_n ?_
 have f37 := f35.sub (r := [(10, .int .i64 (0)), (9, .agg ((s : List Int).map wV).toArray), (3, .slice (some ⟨w15.heap.size, 0, none⟩) ((([] : List Int)).length) ((lenW s : Int).toNat)), (2, .slice none 0 0)]) ⟨rfl, rfl, rfl, rfl, trivial⟩
 clear f35
 refine wp_block ?_
 have f41 := f37.as 3 (.slice (some ⟨w15.heap.size, 0, none⟩) ((([] : List Int)).length) ((lenW s : Int).toNat)) (.slice (some ⟨w15.heap.size, 0, none⟩) ((([] : List Int) : List Int).length) ((lenW s : Int).toNat)) rfl (slice_len (by first | rfl | omega | (simp; done) | (simp; omega)))
 clear f37
 have f40 := f41.sub (r := [(3, .slice (some ⟨w15.heap.size, 0, none⟩) ((([] : List Int) : List Int).length) ((lenW s : Int).toNat)), (10, .int .i64 (0)), (9, .agg ((s : List Int).map wV).toArray), (2, .slice none 0 0)]) ⟨rfl, rfl, rfl, rfl, trivial⟩
 refine loop_g (fun (m_ : Nat) a_ w_ => ∃ (i : Int) (xs : List Int) (A_38 : Option Addr) (c_39 : Nat), m_ = (4 - i).toNat ∧ (Frm 30 a_ [(3, .slice A_38 xs.length c_39), (10, .int .i64 (i)), (9, .agg ((s : List Int).map wV).toArray), (2, .slice none 0 0)]) ∧ (Ext w w_) ∧ (RdT w_ 0 w.heap.size) ∧ (Bx w_ (w.heap.size) ((s : List Int).map wV) 28) ∧ (OwnR w_ (Sx (w15.heap.size) []) A_38 c_39 3 (xs : List Int)) ∧ (0 ≤ i) ∧ (i ≤ 4) ∧ (xs = lsD (fromW s) (64 * i).toNat) ∧ (w15.heap.size ≤ w_.heap.size)) _ ⟨0, (([] : List Int) : List Int), some ⟨w15.heap.size, 0, none⟩, (lenW s : Int).toNat, rfl, f40, e29, r30, bx31, hO24, (by omega), (by omega), rfl, (by omega)⟩ ?_
 clear f40 f41
 clear r30
 clear bx31
 clear hO24
 clear e29
 intro m_ act42 w43 ⟨i, xs, A_38, c_39, hm45, f46, e44, r47, bx48, ow49, i50, i51, hxs, i52⟩
 have szw43 := e44.size
 have := bx48.lt
 refine wp_seq ?_
 refine At.start ?_
 refine At.rd f46 1 [[]] [(11, .bool (decide ((i : Int) < 4)))] [] (by kernel_rfl) trivial (fun act54 f53 => ?_)
 clear f46
 refine At.done rfl ?_
 refine t_n ?_
 refine wp_seq ?_
 refine cond_S f53 (t := decide ((i : Int) < 4)) rfl (fun h55 => ?_) (fun h55 => ?_)
 ·have q56 := of_decide_eq_true h55
  refine wp_skip ?_
  refine t_n ?_
  have f57 := f53.sub (r := [(3, .slice A_38 xs.length c_39), (10, .int .i64 (i)), (9, .agg ((s : List Int).map wV).toArray), (2, .slice none 0 0)]) ⟨rfl, rfl, rfl, rfl, trivial⟩
  clear f53
  refine wp_seq ?_
  refine wp_block ?_
  refine wp_seq ?_
  refine At.start ?_
  refine At.rd f57 4 [[], [.ld (.int .u64 (gI s i))], [], []] [(5, .int .u64 (gI s i)), (4, .int .i64 (i)), (13, .int .u64 (gI s i)), (12, .int .i64 (i))] [(0 ≤ (i : Int)), ((i : Int) < (4 : Nat)), ((((s : List Int).map wV).toArray : Array Value)[(i : Int).toNat * 1]? = some (.int .u64 (gI s i)))] (by kernel_rfl) ⟨(by omega), (by omega), (idxM wV (0 : Int) i (by omega) (by have := (by first | assumption | exact (okW_with (by assumption)).1 | exact (okW_less (by assumption)).1 | exact (ofW_ok _).1 | exact (fullW_W _).1 | (refine okLen ?_; (repeat (first | assumption | exact ofW_ok _ | exact fullW_W _ | apply okW_with | apply okW_less | refine okW_orS ?_ ?_ | refine okW_andS ?_ ?_ | refine okW_minusS ?_ ?_)); done) | rfl | omega | (simp only [List.length_set]; first | done | assumption | omega) | exact lenW4 _ (by assumption)); omega)), trivial⟩ (fun act59 f58 => ?_)
  clear f57
  refine At.done rfl ?_
  refine t_n ?_
  have f60 := f58.sub (r := [(5, .int .u64 (gI s i)), (4, .int .i64 (i)), (3, .slice A_38 xs.length c_39), (10, .int .i64 (i)), (9, .agg ((s : List Int).map wV).toArray), (2, .slice none 0 0)]) ⟨rfl, rfl, rfl, rfl, rfl, rfl, trivial⟩
  clear f58
  refine wp_block ?_
  have f64 := f60.as 3 (.slice A_38 xs.length c_39) (.slice A_38 ((xs : List Int).length) c_39) rfl (slice_len (by first | rfl | omega | (simp; done) | (simp; omega)))
  clear f60
  have f63 := f64.sub (r := [(3, .slice A_38 ((xs : List Int).length) c_39), (5, .int .u64 (gI s i)), (4, .int .i64 (i)), (10, .int .i64 (i)), (9, .agg ((s : List Int).map wV).toArray), (2, .slice none 0 0)]) ⟨rfl, rfl, rfl, rfl, rfl, rfl, trivial⟩
  refine loop_g (fun (m_ : Nat) a_ w_ => ∃ (v : Int) (c : Int) (ys : List Int) (A_61 : Option Addr) (c_62 : Nat), m_ = (64 - c).toNat ∧ (Frm 30 a_ [(3, .slice A_61 ys.length c_62), (5, .int .u64 (v)), (4, .int .i64 (i)), (10, .int .i64 (i)), (9, .agg ((s : List Int).map wV).toArray), (2, .slice none 0 0)]) ∧ (Ext w w_) ∧ (RdT w_ 0 w.heap.size) ∧ (Bx w_ (w.heap.size) ((s : List Int).map wV) 28) ∧ (OwnR w_ (Sx (w15.heap.size) []) A_61 c_62 3 (ys : List Int)) ∧ (0 ≤ c) ∧ (c ≤ 64) ∧ (RestW s i v c) ∧ (ys = lsD (fromW s) (64 * i + c).toNat) ∧ (w15.heap.size ≤ w_.heap.size)) _ ⟨(gI s i), 0, (xs : List Int), A_38, c_39, rfl, f63, e44, r47, bx48, ow49, (by omega), (by omega), (rest_0 hs), (by rw [hxs, Int.add_zero]), (by omega)⟩ ?_
  clear f63 f64
  clear r47
  clear bx48
  clear ow49
  clear e44
  intro m_ act65 w66 ⟨v, c, ys, A_61, c_62, hm68, f69, e67, r70, bx71, ow72, i73, i74, hrw, hys, i75⟩
  have szw66 := e67.size
  have := bx71.lt
  have hyl := ls_len (fromW s) (64 * i + c).toNat
  rw [← hys] at hyl
  have hrc := fun h_ : ¬ v = 0 => rest_tz hrw h_
  refine wp_seq ?_
  refine wp_seq ?_
  refine At.start ?_
  refine At.rd f69 2 [[], []] [(15, .bool ((v : Int) != 0)), (14, .int .u64 (v))] [] (by kernel_rfl) trivial (fun act77 f76 => ?_)
  clear f69
  refine At.done rfl ?_
  refine t_n ?_
  have f78 := f76.sub (r := [(15, .bool ((v : Int) != 0)), (3, .slice A_61 ys.length c_62), (5, .int .u64 (v)), (4, .int .i64 (i)), (10, .int .i64 (i)), (9, .agg ((s : List Int).map wV).toArray), (2, .slice none 0 0)]) ⟨rfl, rfl, rfl, rfl, rfl, rfl, rfl, trivial⟩
  clear f76
  refine cond_S f78 (t := (v : Int) != 0) rfl (fun h79 => ?_) (fun h79 => ?_)
  ·have q80 := bne_iff_ne.1 h79
   refine wp_skip ?_
   refine t_n ?_
   have f81 := f78.sub (r := [(3, .slice A_61 ys.length c_62), (5, .int .u64 (v)), (4, .int .i64 (i)), (10, .int .i64 (i)), (9, .agg ((s : List Int).map wV).toArray), (2, .slice none 0 0)]) ⟨rfl, rfl, rfl, rfl, rfl, rfl, trivial⟩
   clear f78
   refine wp_seq ?_
   refine wp_block ?_
   refine At.start ?_
   refine At.rd f81 4 [[], [], [.as_ (.int .i64 (64 * i))], []] [(23, .int .u64 (v)), (22, .int .i64 (64 * i)), (21, .int .i64 (i)), (20, .slice A_61 ys.length c_62)] [((.int .i64 (IntKind.i64.wrap (64 * i)) : Value) = .int .i64 (64 * i))] (by kernel_rfl) ⟨(w64 (by omega) (by omega)), trivial⟩ (fun act83 f82 => ?_)
   clear f81
   refine At.call f82 38 #[.int .u64 (v)] (some 24) (by kernel_rfl) (tzI_any (z := v) (by first | exact hs.2 _ | exact hrw.1 | assumption) (r70.wide (Nat.zero_le _) (by omega))) ?_
   rintro e_ w84 ⟨rfl, he⟩
   have := tz_lt (z := v) (by first | exact hs.2 _ | exact hrw.1 | assumption) (by omega)
   refine ⟨_, rfl, _, rfl, fun act85 f86 => ?_⟩
   clear f82
   have g87 := gr_ext he
   have szw84 := g87.size
   have e88 := e67.gr g87 no_row
   clear e67
   have r89 := r70.gr g87 (fun _ h => by cases h)
   clear r70
   have bx90 := bx71.gr g87 (by simp)
   clear bx71
   have ow91 := ow72.gr g87 (fun _ _ h => by cases h)
   clear ow72
   clear g87 he
   refine At.rd f86 1 [[.as_ (.int .i64 ((64 * i) + (tzI v)))]] [(25, .int .i64 ((64 * i) + (tzI v)))] [((.int .i64 (IntKind.i64.wrap ((64 * i) + (tzI v))) : Value) = .int .i64 ((64 * i) + (tzI v)))] (by kernel_rfl) ⟨(w64 (by omega) (by omega)), trivial⟩ (fun act93 f92 => ?_)
   clear f86
   refine At.seq f92 1 [[]] [(26, .slice (some ⟨w84.heap.size, 0, none⟩) 1 1)] (w84.alloc (.cells #[.int .i64 ((64 * i) + (tzI v))] 3 (0, 0))) [] (by kernel_rfl) trivial (fun act97 w94 hw95 f96 => ?_)
   clear f92
   have g98 := gr_alloc hw95
   have szw94 := g98.size
   have e101 := e88.gr g98 no_row
   clear e88
   have r102 := r89.gr g98 (fun _ h => by cases h)
   clear r89
   have bx103 := bx90.gr g98 (by simp)
   clear bx90
   have ow104 : OwnR w94 (Sx (w15.heap.size) [some (w84.heap.size)]) A_61 c_62 3 (ys : List Int) := ow91.grA g98 (fun _ _ h => by cases h) (fun k hk hs => ⟨(fun e => by injection e; omega), hs⟩)
   clear ow91
   have bx100 : Bx w94 (w84.heap.size) [.int .i64 ((64 * i) + (tzI v))] 3 := Bx.new hw95
   have := bx100.lt
   clear g98 hw95
   have hl109 : (ys ++ ([(64 * i) + (tzI v)])).length = (ys).length + ([(64 * i) + (tzI v)] : List Int).length := List.length_append
   simp only [List.length_cons, List.length_nil] at hl109
   refine At.act f96 (appendR (α := Int) (t := 22) (d := 27) (n := ys.length) (m := 1) (cc := 1) (xs := ys) (ys := [(64 * i) + (tzI v)]) (bytes := 8) (by first | rfl | omega | (simp; done) | (simp; omega)) (by first | rfl | omega | (simp; done) | (simp; omega)) (by kernel_rfl) rfl (by kernel_rfl) ow104 (Bx.srcR (l := ([(64 * i) + (tzI v)] : List Int)) bx100 rfl) (by simp only [List.length_cons, List.length_nil]; omega) (by simp only [List.length_cons, List.length_nil]; omega)) ?_
   rintro d_ v_ w108 ⟨rfl, A105, c106, ha107⟩
   obtain rfl := ha107.val
   have g110 := ha107.gr
   refine ⟨_, rfl, fun act112 f111 => ?_⟩
   clear f96
   clear bx100
   have ow113 := ha107.own (Sx (w15.heap.size) []) (fun g _ hs => hs.2) (show w15.heap.size ≤ w94.heap.size by omega)
   have szw108 := g110.size
   have e114 := e101.gr g110 (fun k hk => by have := ow104.ge k hk; omega)
   clear e101
   have r115 := r102.gr g110 (fun k hk => by have := ow104.ge k hk; omega)
   clear r102
   have bx116 := bx103.gr g110 (fun e => by have := ow104.ge _ e; omega)
   clear bx103
   clear ow104 g110 ha107
   refine At.rd f111 1 [[]] [(3, .slice A105 ((ys ++ ([(64 * i) + (tzI v)])).length) c106)] [] (by kernel_rfl) trivial (fun act118 f117 => ?_)
   clear f111
   refine At.done rfl ?_
   refine b_n ?_
   refine t_n ?_
   have f119 := f117.sub (r := [(3, .slice A105 ((ys ++ ([(64 * i) + (tzI v)])).length) c106), (5, .int .u64 (v)), (4, .int .i64 (i)), (10, .int .i64 (i)), (9, .agg ((s : List Int).map wV).toArray), (2, .slice none 0 0)]) ⟨rfl, rfl, rfl, rfl, rfl, rfl, trivial⟩
   clear f117
   refine At.start ?_
   refine At.rd f119 5 [[], [], [.as_ (.int .u64 (v - 1))], [.as_ (.int .u64 (clrW v))], []] [(5, .int .u64 (clrW v)), (19, .int .u64 (clrW v)), (18, .int .u64 (v - 1)), (17, .int .u64 (v)), (16, .int .u64 (v))] [((.int .u64 (IntKind.u64.wrap (v - 1)) : Value) = .int .u64 (v - 1)), ((.int .u64 (IntKind.u64.wrap ((BitVec.ofInt 64 v &&& BitVec.ofInt 64 (v - 1)).toNat : Int)) : Value) = .int .u64 (clrW v))] (by kernel_rfl) ⟨(congrArg (Value.int .u64) (sub_W hrw.1 (by omega))), (congrArg (Value.int .u64) (clr_eq hrw.1 (by omega))), trivial⟩ (fun act121 f120 => ?_)
   clear f119
   refine At.done rfl ?_
   refine t_n ?_
   have f122 := f120.as 3 (.slice A105 ((ys ++ ([(64 * i) + (tzI v)])).length) c106) (.slice A105 ((ys ++ ([(64 * i) + (tzI v)]) : List Int).length) c106) rfl (slice_len (by first | rfl | omega | (simp; done) | (simp; omega)))
   clear f120
   have f123 := f122.sub (r := [(3, .slice A105 ((ys ++ ([(64 * i) + (tzI v)]) : List Int).length) c106), (5, .int .u64 (clrW v)), (4, .int .i64 (i)), (10, .int .i64 (i)), (9, .agg ((s : List Int).map wV).toArray), (2, .slice none 0 0)]) ⟨rfl, rfl, rfl, rfl, rfl, rfl, trivial⟩
   exact ⟨_, (by omega), (clrW v), (tzI v + 1), (ys ++ ([(64 * i) + (tzI v)]) : List Int), A105, c106, rfl, f123, e114, r115, bx116, ow113, (by omega), (by omega), (rest_next hrw (by omega)), (rest_ls hrw (by omega) (by omega) (by omega) (by omega) hys), (by omega)⟩
  ·have q124 := bne_eq_false_iff_eq.1 h79
   refine wp_exit ?_
   refine t_e ?_
   refine t_e ?_
   refine b_e ?_
   refine b_n ?_
   refine t_n ?_
   have f125 := f78.sub (r := [(3, .slice A_61 ys.length c_62), (10, .int .i64 (i)), (9, .agg ((s : List Int).map wV).toArray), (2, .slice none 0 0)]) ⟨rfl, rfl, rfl, rfl, trivial⟩
   clear f78
   refine At.start ?_
   refine At.rd f125 2 [[.as_ (.int .i64 (i + 1))], []] [(10, .int .i64 (i + 1)), (28, .int .i64 (i + 1))] [((.int .i64 (IntKind.i64.wrap (i + 1)) : Value) = .int .i64 (i + 1))] (by kernel_rfl) ⟨(w64 (by omega) (by omega)), trivial⟩ (fun act127 f126 => ?_)
   clear f125
   refine At.done rfl ?_
   refine t_n ?_
   have f128 := f126.as 3 (.slice A_61 ys.length c_62) (.slice A_61 ((ys : List Int).length) c_62) rfl (slice_len (by first | rfl | omega | (simp; done) | (simp; omega)))
   clear f126
   have f129 := f128.sub (r := [(3, .slice A_61 ((ys : List Int).length) c_62), (10, .int .i64 (i + 1)), (9, .agg ((s : List Int).map wV).toArray), (2, .slice none 0 0)]) ⟨rfl, rfl, rfl, rfl, trivial⟩
   exact ⟨_, (by omega), (i + 1), (ys : List Int), A_61, c_62, rfl, f129, e67, r70, bx71, ow72, (by omega), (by omega), (rest_end hrw (by omega) (by omega) (by omega) (by omega) (by omega) hys), (by omega)⟩
 ·have q130 := of_decide_eq_false h55
  refine wp_exit ?_
  refine t_e ?_
  refine t_e ?_
  refine b_e ?_
  refine t_n ?_
  have f131 := f53.sub (r := [(3, .slice A_38 xs.length c_39)]) ⟨rfl, trivial⟩
  clear f53
  refine wp_seq ?_
  refine At.start ?_
  refine At.rd f131 2 [[], []] [(2, .slice A_38 xs.length c_39), (29, .slice A_38 xs.length c_39)] [] (by kernel_rfl) trivial (fun act133 f132 => ?_)
  clear f131
  refine At.done rfl ?_
  refine t_n ?_
  have f134 := f132.sub (r := [(2, .slice A_38 xs.length c_39)]) ⟨rfl, trivial⟩
  clear f132
  refine wp_ret ?_
  refine ret_ f134 [] [.slice A_38 xs.length c_39] [] (by kernel_rfl) trivial ?_
  have hq_ : (xs : List Int) = lsD (fromW s) 256 := list_end hxs (by omega) (by omega)
  exact ⟨A_38, c_39, ret_eq (slice_len (by first | (rw [← hq_]; done) | (rw [← hq_]; simp) | (rw [← hq_]; omega))), e44, (OwnR.as (ow49.imp (fun g _ hs => by have := Sx_base hs; show w.heap.size ≤ g; omega)) hq_)⟩

end Go.Proofs.YtkpljmalbmcdfaaDoor
