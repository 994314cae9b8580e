/-
  A walk of a Go function, printed by a program of this repo. Conditions: what the theorems name.
-/
import Derived.Test.YtkkophhnliplhaaDoorPureList
import Derived.Test.YtkkophhnliplhaaDoorWLen
set_option linter.unusedVariables false
set_option linter.unusedSimpArgs false
namespace Go.Proofs.YtkkophhnliplhaaDoor
open Go Go.RowKit

set_option maxHeartbeats 4000000 in
theorem list_any {s : List Int} {w : World} (hs : OkW s) (rT : RdT w 0 w.heap.size) :
    Calls Tryd.prog 42 #[.agg ((s : List Int).map wV).toArray] w fun e w' => ∃ A c, e = .returned (.slice A ((lsD (fromW s) 256)).length c) ∧ Ext w w' ∧ OwnR w' (Sx w.heap.size []) A c 3 ((lsD (fromW s) 256) : List Int) := by
 have hls := hs.1
 refine enter_ (args := [.agg ((s : List Int).map wV).toArray]) Tryd.func42 rfl Tryd.ntmps42 (Nat.le_of_ble_eq_true rfl) (fun act0 f0 => ?_)
 have e0 : Ext w w := Ext.refl w
 refine wp_seq ?_
 refine At.start ?_
 refine At.seq f0 1 [[]] [(1, .pointer (some ⟨w.heap.size, 0, none⟩))] (w.alloc (.cells ((s : List Int).map wV).toArray 47 (0, 0))) [] (by kernel_rfl) trivial (fun act4 w1 hw2 f3 => ?_)
 clear f0
 have g5 := gr_alloc hw2
 have szw1 := g5.size
 replace e0 := e0.gr g5 no_row
 have r8 := rT.gr g5 (fun _ h => by cases h)
 clear rT
 have bx9 : Bx w1 (w.heap.size) ((s : List Int).map wV) 47 := Bx.new hw2
 have := bx9.lt
 clear g5 hw2
 refine At.rd f3 1 [[]] [(2, .slice none 0 0)] [] (by kernel_rfl) trivial (fun act11 f10 => ?_)
 clear f3
 refine At.done rfl ?_
 refine t_n ?_
 refine wp_seq ?_
 refine At.start ?_
 refine At.rd f10 1 [[.cs ((s : List Int).map wV)]] [(6, .agg ((s : List Int).map wV).toArray)] [(((s : List Int).map wV).length = 4), (∀ (j : Nat) (v : Value), ((s : List Int).map wV)[j]? = some v → w1.cell? ((⟨w.heap.size, 0, none⟩ : Addr).add j) = some v)] (by kernel_rfl) ⟨((List.length_map _).trans (by assumption)), bx9.whole, trivial⟩ (fun act13 f12 => ?_)
 clear f10
 refine At.call f12 47 #[.agg ((s : List Int).map wV).toArray] (some 7) (by kernel_rfl) (len_any (s := s) (by assumption)) ?_
 rintro e_ w14 ⟨rfl, he⟩
 have := lenW_le s
 refine ⟨_, rfl, _, rfl, fun act15 f16 => ?_⟩
 clear f12
 have g17 := gr_ext he
 have szw14 := g17.size
 replace e0 := e0.gr g17 no_row
 replace r8 := r8.gr g17 (fun _ h => by cases h)
 replace bx9 := bx9.gr g17 (by simp)
 clear g17 he
 refine At.act f16 (makeR (k1 := .i64) (k2 := .i64) (α := Int) (e := 3) (bytes := 8) (t := 22) (d := 8) (n := 0) (cap := lenW s) (0) (by kernel_rfl) rfl (by kernel_rfl) (by omega) (by omega) (by omega) (by omega)) ?_
 rintro d_ v_ w21 ⟨rfl, rfl, g22, hO23⟩
 refine ⟨_, rfl, fun act27 f26 => ?_⟩
 clear f16
 replace hO23 := hO23 (Sx (w14.heap.size) []) (Nat.le_refl _)
 have szw21 := g22.size
 replace e0 := e0.gr g22 no_row
 replace r8 := r8.gr g22 (fun _ h => by cases h)
 replace bx9 := bx9.gr g22 (by simp)
 clear g22
 refine At.rd f26 1 [[]] [(3, .slice (some ⟨w14.heap.size, 0, none⟩) ((([] : List Int)).length) ((lenW s : Int).toNat))] [] (by kernel_rfl) trivial (fun act32 f31 => ?_)
 clear f26
 refine At.done rfl ?_
 refine t_n ?_
 refine wp_seq ?_
 refine wp_seq ?_
 refine At.start ?_
 refine At.rd f31 2 [[.cs ((s : List Int).map wV)], []] [(10, .int .i64 (0)), (9, .agg ((s : List Int).map wV).toArray)] [(((s : List Int).map wV).length = 4), (∀ (j : Nat) (v : Value), ((s : List Int).map wV)[j]? = some v → w21.cell? ((⟨w.heap.size, 0, none⟩ : Addr).add j) = some v)] (by kernel_rfl) ⟨((List.length_map _).trans (by assumption)), bx9.whole, trivial⟩ (fun act34 f33 => ?_)
 clear f31
 refine At.done rfl ?_
 refine t_n ?_
 refine wp_block ?_
 have f38 := f33.as 3 (.slice (some ⟨w14.heap.size, 0, none⟩) ((([] : List Int)).length) ((lenW s : Int).toNat)) (.slice (some ⟨w14.heap.size, 0, none⟩) ((([] : List Int) : List Int).length) ((lenW s : Int).toNat)) rfl (slice_len (by first | rfl | omega | (simp; done) | (simp; omega)))
 clear f33
 have f37 := f38.sub (r := [(3, .slice (some ⟨w14.heap.size, 0, none⟩) ((([] : List Int) : List Int).length) ((lenW s : Int).toNat)), (10, .int .i64 (0)), (9, .agg ((s : List Int).map wV).toArray), (2, .slice none 0 0)]) ⟨rfl, rfl, rfl, rfl, trivial⟩
 refine loop_g (fun (m_ : Nat) a_ w_ => ∃ (i : Int) (xs : List Int) (A_35 : Option Addr) (c_36 : Nat), m_ = (4 - i).toNat ∧ (Frm 30 a_ [(3, .slice A_35 xs.length c_36), (10, .int .i64 (i)), (9, .agg ((s : List Int).map wV).toArray), (2, .slice none 0 0)]) ∧ (Ext w w_) ∧ (RdT w_ 0 w.heap.size) ∧ (Bx w_ (w.heap.size) ((s : List Int).map wV) 47) ∧ (OwnR w_ (Sx (w14.heap.size) []) A_35 c_36 3 (xs : List Int)) ∧ (0 ≤ i) ∧ (i ≤ 4) ∧ (xs = lsD (fromW s) (64 * i).toNat) ∧ (w14.heap.size ≤ w_.heap.size)) _ ⟨0, (([] : List Int) : List Int), some ⟨w14.heap.size, 0, none⟩, (lenW s : Int).toNat, rfl, f37, e0, r8, bx9, hO23, (by omega), (by omega), rfl, (by omega)⟩ ?_
 clear f37 f38
 clear r8
 clear bx9
 clear hO23
 clear e0
 intro m_ act39 w40 ⟨i, xs, A_35, c_36, hm42, f43, e41, r44, bx45, ow46, i47, i48, hxs, i49⟩
 have szw40 := e41.size
 have := bx45.lt
 refine wp_seq ?_
 refine At.start ?_
 refine At.rd f43 1 [[]] [(11, .bool (decide ((i : Int) < 4)))] [] (by kernel_rfl) trivial (fun act51 f50 => ?_)
 clear f43
 refine At.done rfl ?_
 refine t_n ?_
 refine wp_seq ?_
 refine cond_S f50 (t := decide ((i : Int) < 4)) rfl (fun h52 => ?_) (fun h52 => ?_)
 ·have q53 := of_decide_eq_true h52
  refine wp_skip ?_
  refine t_n ?_
  refine wp_seq ?_
  refine wp_block ?_
  refine wp_seq ?_
  refine At.start ?_
  refine At.rd f50 4 [[], [.ld (.int .u64 (gI s i))], [], []] [(5, .int .u64 (gI s i)), (4, .int .i64 (i)), (13, .int .u64 (gI s i)), (12, .int .i64 (i))] [(0 ≤ (i : Int)), ((i : Int) < (4 : Nat)), ((((s : List Int).map wV).toArray : Array Value)[(i : Int).toNat * 1]? = some (.int .u64 (gI s i)))] (by kernel_rfl) ⟨(by omega), (by omega), (idxM wV (0 : Int) i (by omega) (by have := (by first | assumption | exact (okW_with (by assumption)).1 | exact (okW_less (by assumption)).1 | exact (ofW_ok _).1 | exact (fullW_W _).1 | (refine okLen ?_; (repeat (first | assumption | exact ofW_ok _ | exact fullW_W _ | apply okW_with | apply okW_less | refine okW_orS ?_ ?_ | refine okW_andS ?_ ?_ | refine okW_minusS ?_ ?_)); done) | rfl | omega | (simp only [List.length_set]; first | done | assumption | omega) | exact lenW4 _ (by assumption)); omega)), trivial⟩ (fun act55 f54 => ?_)
  clear f50
  refine At.done rfl ?_
  refine t_n ?_
  refine wp_block ?_
  have f59 := f54.as 3 (.slice A_35 xs.length c_36) (.slice A_35 ((xs : List Int).length) c_36) rfl (slice_len (by first | rfl | omega | (simp; done) | (simp; omega)))
  clear f54
  have f58 := f59.sub (r := [(3, .slice A_35 ((xs : List Int).length) c_36), (5, .int .u64 (gI s i)), (4, .int .i64 (i)), (10, .int .i64 (i)), (9, .agg ((s : List Int).map wV).toArray), (2, .slice none 0 0)]) ⟨rfl, rfl, rfl, rfl, rfl, rfl, trivial⟩
  refine loop_g (fun (m_ : Nat) a_ w_ => ∃ (v : Int) (c : Int) (ys : List Int) (A_56 : Option Addr) (c_57 : Nat), m_ = (64 - c).toNat ∧ (Frm 30 a_ [(3, .slice A_56 ys.length c_57), (5, .int .u64 (v)), (4, .int .i64 (i)), (10, .int .i64 (i)), (9, .agg ((s : List Int).map wV).toArray), (2, .slice none 0 0)]) ∧ (Ext w w_) ∧ (RdT w_ 0 w.heap.size) ∧ (Bx w_ (w.heap.size) ((s : List Int).map wV) 47) ∧ (OwnR w_ (Sx (w14.heap.size) []) A_56 c_57 3 (ys : List Int)) ∧ (0 ≤ c) ∧ (c ≤ 64) ∧ (RestW s i v c) ∧ (ys = lsD (fromW s) (64 * i + c).toNat) ∧ (w14.heap.size ≤ w_.heap.size)) _ ⟨(gI s i), 0, (xs : List Int), A_35, c_36, rfl, f58, e41, r44, bx45, ow46, (by omega), (by omega), (rest_0 hs), (by rw [hxs, Int.add_zero]), (by omega)⟩ ?_
  clear f58 f59
  clear r44
  clear bx45
  clear ow46
  clear e41
  intro m_ act60 w61 ⟨v, c, ys, A_56, c_57, hm63, f64, e62, r65, bx66, ow67, i68, i69, hrw, hys, i70⟩
  have szw61 := e62.size
  have := bx66.lt
  have hyl := ls_len (fromW s) (64 * i + c).toNat
  rw [← hys] at hyl
  have hrc := fun h_ : ¬ v = 0 => rest_tz hrw h_
  refine wp_seq ?_
  refine wp_seq ?_
  refine At.start ?_
  refine At.rd f64 2 [[], []] [(15, .bool ((v : Int) != 0)), (14, .int .u64 (v))] [] (by kernel_rfl) trivial (fun act72 f71 => ?_)
  clear f64
  refine At.done rfl ?_
  refine t_n ?_
  refine cond_S f71 (t := (v : Int) != 0) rfl (fun h73 => ?_) (fun h73 => ?_)
  ·have q74 := bne_iff_ne.1 h73
   refine wp_skip ?_
   refine t_n ?_
   refine wp_seq ?_
   refine wp_block ?_
   refine At.start ?_
   refine At.rd f71 4 [[], [], [.as_ (.int .i64 (64 * i))], []] [(23, .int .u64 (v)), (22, .int .i64 (64 * i)), (21, .int .i64 (i)), (20, .slice A_56 ys.length c_57)] [((.int .i64 (IntKind.i64.wrap (64 * i)) : Value) = .int .i64 (64 * i))] (by kernel_rfl) ⟨(w64 (by omega) (by omega)), trivial⟩ (fun act76 f75 => ?_)
   clear f71
   refine At.call f75 45 #[.int .u64 (v)] (some 24) (by kernel_rfl) (tzI_any (z := v) (by first | exact hs.2 _ | exact hrw.1 | assumption) (r65.wide (Nat.zero_le _) (by omega))) ?_
   rintro e_ w77 ⟨rfl, he⟩
   have := tz_lt (z := v) (by first | exact hs.2 _ | exact hrw.1 | assumption) (by omega)
   refine ⟨_, rfl, _, rfl, fun act78 f79 => ?_⟩
   clear f75
   have g80 := gr_ext he
   have szw77 := g80.size
   replace e62 := e62.gr g80 no_row
   replace r65 := r65.gr g80 (fun _ h => by cases h)
   replace bx66 := bx66.gr g80 (by simp)
   replace ow67 := ow67.gr g80 (fun _ _ h => by cases h)
   clear g80 he
   refine At.rd f79 1 [[.as_ (.int .i64 ((64 * i) + (tzI v)))]] [(25, .int .i64 ((64 * i) + (tzI v)))] [((.int .i64 (IntKind.i64.wrap ((64 * i) + (tzI v))) : Value) = .int .i64 ((64 * i) + (tzI v)))] (by kernel_rfl) ⟨(w64 (by omega) (by omega)), trivial⟩ (fun act86 f85 => ?_)
   clear f79
   refine At.seq f85 1 [[]] [(26, .slice (some ⟨w77.heap.size, 0, none⟩) 1 1)] (w77.alloc (.cells #[.int .i64 ((64 * i) + (tzI v))] 3 (0, 0))) [] (by kernel_rfl) trivial (fun act90 w87 hw88 f89 => ?_)
   clear f85
   have g91 := gr_alloc hw88
   have szw87 := g91.size
   replace e62 := e62.gr g91 no_row
   replace r65 := r65.gr g91 (fun _ h => by cases h)
   replace bx66 := bx66.gr g91 (by simp)
   replace ow67 : OwnR w87 (Sx (w14.heap.size) [some (w77.heap.size)]) A_56 c_57 3 (ys : List Int) := ow67.grA g91 (fun _ _ h => by cases h) (fun k hk hs => ⟨(fun e => by injection e; omega), hs⟩)
   have bx93 : Bx w87 (w77.heap.size) [.int .i64 ((64 * i) + (tzI v))] 3 := Bx.new hw88
   have := bx93.lt
   clear g91 hw88
   have hl102 : (ys ++ ([(64 * i) + (tzI v)])).length = (ys).length + ([(64 * i) + (tzI v)] : List Int).length := List.length_append
   simp only [List.length_cons, List.length_nil] at hl102
   refine At.act f89 (appendR (α := Int) (t := 22) (d := 27) (n := ys.length) (m := 1) (cc := 1) (xs := ys) (ys := [(64 * i) + (tzI v)]) (bytes := 8) (by first | rfl | omega | (simp; done) | (simp; omega)) (by first | rfl | omega | (simp; done) | (simp; omega)) (by kernel_rfl) rfl (by kernel_rfl) ow67 (Bx.srcR (l := ([(64 * i) + (tzI v)] : List Int)) bx93 rfl) (by simp only [List.length_cons, List.length_nil]; omega) (by simp only [List.length_cons, List.length_nil]; omega)) ?_
   rintro d_ v_ w101 ⟨rfl, A98, c99, ha100⟩
   obtain rfl := ha100.val
   have g103 := ha100.gr
   refine ⟨_, rfl, fun act105 f104 => ?_⟩
   clear f89
   clear bx93
   have ow106 := ha100.own (Sx (w14.heap.size) []) (fun g _ hs => hs.2) (show w14.heap.size ≤ w87.heap.size by omega)
   have szw101 := g103.size
   replace e62 := e62.gr g103 (fun k hk => by have := ow67.ge k hk; omega)
   replace r65 := r65.gr g103 (fun k hk => by have := ow67.ge k hk; omega)
   replace bx66 := bx66.gr g103 (fun e => by have := ow67.ge _ e; omega)
   clear ow67 g103 ha100
   refine At.rd f104 1 [[]] [(3, .slice A98 ((ys ++ ([(64 * i) + (tzI v)])).length) c99)] [] (by kernel_rfl) trivial (fun act111 f110 => ?_)
   clear f104
   refine At.done rfl ?_
   refine b_n ?_
   refine t_n ?_
   refine At.start ?_
   refine At.rd f110 5 [[], [], [.as_ (.int .u64 (v - 1))], [.as_ (.int .u64 (clrW v))], []] [(5, .int .u64 (clrW v)), (19, .int .u64 (clrW v)), (18, .int .u64 (v - 1)), (17, .int .u64 (v)), (16, .int .u64 (v))] [((.int .u64 (IntKind.u64.wrap (v - 1)) : Value) = .int .u64 (v - 1)), ((.int .u64 (IntKind.u64.wrap ((BitVec.ofInt 64 v &&& BitVec.ofInt 64 (v - 1)).toNat : Int)) : Value) = .int .u64 (clrW v))] (by kernel_rfl) ⟨(congrArg (Value.int .u64) (sub_W hrw.1 (by omega))), (congrArg (Value.int .u64) (clr_eq hrw.1 (by omega))), trivial⟩ (fun act113 f112 => ?_)
   clear f110
   refine At.done rfl ?_
   refine t_n ?_
   have f114 := f112.as 3 (.slice A98 ((ys ++ ([(64 * i) + (tzI v)])).length) c99) (.slice A98 ((ys ++ ([(64 * i) + (tzI v)]) : List Int).length) c99) rfl (slice_len (by first | rfl | omega | (simp; done) | (simp; omega)))
   clear f112
   have f115 := f114.sub (r := [(3, .slice A98 ((ys ++ ([(64 * i) + (tzI v)]) : List Int).length) c99), (5, .int .u64 (clrW v)), (4, .int .i64 (i)), (10, .int .i64 (i)), (9, .agg ((s : List Int).map wV).toArray), (2, .slice none 0 0)]) ⟨rfl, rfl, rfl, rfl, rfl, rfl, trivial⟩
   exact ⟨_, (by omega), (clrW v), (tzI v + 1), (ys ++ ([(64 * i) + (tzI v)]) : List Int), A98, c99, rfl, f115, e62, r65, bx66, ow106, (by omega), (by omega), (rest_next hrw (by omega)), (rest_ls hrw (by omega) (by omega) (by omega) (by omega) hys), (by omega)⟩
  ·have q116 := bne_eq_false_iff_eq.1 h73
   refine wp_exit ?_
   refine t_e ?_
   refine t_e ?_
   refine b_e ?_
   refine b_n ?_
   refine t_n ?_
   refine At.start ?_
   refine At.rd f71 2 [[.as_ (.int .i64 (i + 1))], []] [(10, .int .i64 (i + 1)), (28, .int .i64 (i + 1))] [((.int .i64 (IntKind.i64.wrap (i + 1)) : Value) = .int .i64 (i + 1))] (by kernel_rfl) ⟨(w64 (by omega) (by omega)), trivial⟩ (fun act118 f117 => ?_)
   clear f71
   refine At.done rfl ?_
   refine t_n ?_
   have f119 := f117.as 3 (.slice A_56 ys.length c_57) (.slice A_56 ((ys : List Int).length) c_57) rfl (slice_len (by first | rfl | omega | (simp; done) | (simp; omega)))
   clear f117
   have f120 := f119.sub (r := [(3, .slice A_56 ((ys : List Int).length) c_57), (10, .int .i64 (i + 1)), (9, .agg ((s : List Int).map wV).toArray), (2, .slice none 0 0)]) ⟨rfl, rfl, rfl, rfl, trivial⟩
   exact ⟨_, (by omega), (i + 1), (ys : List Int), A_56, c_57, rfl, f120, e62, r65, bx66, ow67, (by omega), (by omega), (rest_end hrw (by omega) (by omega) (by omega) (by omega) (by omega) hys), (by omega)⟩
 ·have q121 := of_decide_eq_false h52
  refine wp_exit ?_
  refine t_e ?_
  refine t_e ?_
  refine b_e ?_
  refine t_n ?_
  refine wp_seq ?_
  refine At.start ?_
  refine At.rd f50 2 [[], []] [(2, .slice A_35 xs.length c_36), (29, .slice A_35 xs.length c_36)] [] (by kernel_rfl) trivial (fun act123 f122 => ?_)
  clear f50
  refine At.done rfl ?_
  refine t_n ?_
  refine wp_ret ?_
  refine ret_ f122 [] [.slice A_35 xs.length c_36] [] (by kernel_rfl) trivial ?_
  have hq_ : (xs : List Int) = lsD (fromW s) 256 := list_end hxs (by omega) (by omega)
  exact ⟨A_35, c_36, ret_eq (slice_len (by first | (rw [← hq_]; done) | (rw [← hq_]; simp) | (rw [← hq_]; omega))), e41, (OwnR.as (ow46.imp (fun g _ hs => by have := Sx_base hs; show w.heap.size ≤ g; omega)) hq_)⟩

end Go.Proofs.YtkkophhnliplhaaDoor
