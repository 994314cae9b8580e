/-
  A walk of a Go function, printed by a program of this repo. Conditions: what the theorems name.
-/
import Derived.Test.YtkkophhnliplhaaDoorLem
import Derived.Test.YtkkophhnliplhaaDoorWSame
import Derived.Test.YtkkophhnliplhaaDoorFy
set_option linter.unusedVariables false
set_option linter.unusedSimpArgs false
namespace Go.Proofs.YtkkophhnliplhaaDoor
open Go Go.RowKit

set_option maxHeartbeats 4000000 in
theorem same_any {Aa0 Aa1 Aa2 : Option Addr} {ca0 ca1 ca2 : Nat} {a : GameL} {Ab0 Ab1 Ab2 : Option Addr} {cb0 cb1 cb2 : Nat} {b : GameL} {w : World} (ra : RdG w 0 w.heap.size Aa0 Aa1 Aa2 ca0 ca1 ca2 a) (rb : RdG w 0 w.heap.size Ab0 Ab1 Ab2 cb0 cb1 cb2 b) :
    Calls Tryd.prog 16 #[.agg #[.slice Aa0 a.ow.length ca0, .slice Aa1 a.pr.length ca1, .slice Aa2 a.mv.length ca2], .agg #[.slice Ab0 b.ow.length cb0, .slice Ab1 b.pr.length cb1, .slice Ab2 b.mv.length cb2]] w fun e w' => e = .returned (.bool (decide (a = b))) ∧ Ext w w' := by
 have hla0 := ra.ow.len
 have hla1 := ra.pr.len
 have hla2 := ra.mv.len
 have hka0 := ra.k0
 have hka1 := ra.k1
 have hka2 := ra.k2
 have hlb0 := rb.ow.len
 have hlb1 := rb.pr.len
 have hlb2 := rb.mv.len
 have hkb0 := rb.k0
 have hkb1 := rb.k1
 have hkb2 := rb.k2
 refine enter_ (args := [.agg #[.slice Aa0 a.ow.length ca0, .slice Aa1 a.pr.length ca1, .slice Aa2 a.mv.length ca2], .agg #[.slice Ab0 b.ow.length cb0, .slice Ab1 b.pr.length cb1, .slice Ab2 b.mv.length cb2]]) Tryd.func16 rfl Tryd.ntmps16 (Nat.le_of_ble_eq_true rfl) (fun act0 f0 => ?_)
 have e0 : Ext w w := Ext.refl w
 refine wp_seq ?_
 refine At.start ?_
 refine At.seq f0 1 [[]] [(2, .pointer (some ⟨w.heap.size, 0, none⟩))] (w.alloc (.cells #[.slice Aa0 a.ow.length ca0, .slice Aa1 a.pr.length ca1, .slice Aa2 a.mv.length ca2] 25 (0, 0))) [] (by kernel_rfl) trivial (fun act4 w1 hw2 f3 => ?_)
 clear f0
 have g5 := gr_alloc hw2
 have szw1 := g5.size
 replace e0 := e0.gr g5 no_row
 have r8 := ra.gr g5 (fun _ h => by cases h)
 clear ra
 have r9 := rb.gr g5 (fun _ h => by cases h)
 clear rb
 have bx10 : Bx w1 (w.heap.size) [.slice Aa0 a.ow.length ca0, .slice Aa1 a.pr.length ca1, .slice Aa2 a.mv.length ca2] 25 := Bx.new hw2
 have := bx10.lt
 clear g5 hw2
 refine At.seq f3 1 [[]] [(3, .pointer (some ⟨w1.heap.size, 0, none⟩))] (w1.alloc (.cells #[.slice Ab0 b.ow.length cb0, .slice Ab1 b.pr.length cb1, .slice Ab2 b.mv.length cb2] 25 (0, 0))) [] (by kernel_rfl) trivial (fun act14 w11 hw12 f13 => ?_)
 clear f3
 have g15 := gr_alloc hw12
 have szw11 := g15.size
 replace e0 := e0.gr g15 no_row
 replace r8 := r8.gr g15 (fun _ h => by cases h)
 replace r9 := r9.gr g15 (fun _ h => by cases h)
 replace bx10 := bx10.gr g15 (by simp)
 have bx21 : Bx w11 (w1.heap.size) [.slice Ab0 b.ow.length cb0, .slice Ab1 b.pr.length cb1, .slice Ab2 b.mv.length cb2] 25 := Bx.new hw12
 have := bx21.lt
 clear g15 hw12
 refine At.rd f13 1 [[]] [(4, .bool false)] [] (by kernel_rfl) trivial (fun act23 f22 => ?_)
 clear f13
 refine At.done rfl ?_
 refine t_n ?_
 refine wp_seq ?_
 refine At.start ?_
 refine At.rd f22 4 [[], [.ld (.slice Aa0 a.ow.length ca0)], [], [.ld (.slice Ab0 b.ow.length cb0)]] [(12, .slice Ab0 b.ow.length cb0), (11, .pointer (some ⟨w1.heap.size, 0, none⟩)), (10, .slice Aa0 a.ow.length ca0), (9, .pointer (some ⟨w.heap.size, 0, none⟩))] [(w11.cell? ⟨w.heap.size, 0, none⟩ = some (.slice Aa0 a.ow.length ca0)), (w11.cell? ⟨w1.heap.size, 0, none⟩ = some (.slice Ab0 b.ow.length cb0))] (by kernel_rfl) ⟨(bx10.cell (i := 0) rfl), (bx21.cell (i := 0) rfl), trivial⟩ (fun act25 f24 => ?_)
 clear f22
 refine At.call f24 24 #[.slice Aa0 a.ow.length ca0, .slice Ab0 b.ow.length cb0] (some 13) (by kernel_rfl) (sameInts_any (la := a.ow) (lb := b.ow) (r8.ow.wide (Nat.zero_le _) (by omega)) (r9.ow.wide (Nat.zero_le _) (by omega))) ?_
 rintro e_ w26 ⟨rfl, he⟩
 refine ⟨_, rfl, _, rfl, fun act27 f28 => ?_⟩
 clear f24
 have g29 := gr_ext he
 have szw26 := g29.size
 replace e0 := e0.gr g29 no_row
 replace r8 := r8.gr g29 (fun _ h => by cases h)
 replace r9 := r9.gr g29 (fun _ h => by cases h)
 replace bx10 := bx10.gr g29 (by simp)
 replace bx21 := bx21.gr g29 (by simp)
 clear g29 he
 refine At.rd f28 1 [[]] [(5, .bool (decide (a.ow = b.ow)))] [] (by kernel_rfl) trivial (fun act36 f35 => ?_)
 clear f28
 refine At.done rfl ?_
 refine t_n ?_
 refine wp_seq ?_
 refine At.start ?_
 refine At.rd f35 4 [[], [.ld (.slice Aa1 a.pr.length ca1)], [], [.ld (.slice Ab1 b.pr.length cb1)]] [(17, .slice Ab1 b.pr.length cb1), (16, .pointer (some ⟨w1.heap.size, 1, none⟩)), (15, .slice Aa1 a.pr.length ca1), (14, .pointer (some ⟨w.heap.size, 1, none⟩))] [(w26.cell? ⟨w.heap.size, 1, none⟩ = some (.slice Aa1 a.pr.length ca1)), (w26.cell? ⟨w1.heap.size, 1, none⟩ = some (.slice Ab1 b.pr.length cb1))] (by kernel_rfl) ⟨(bx10.cell (i := 1) rfl), (bx21.cell (i := 1) rfl), trivial⟩ (fun act38 f37 => ?_)
 clear f35
 refine At.call f37 24 #[.slice Aa1 a.pr.length ca1, .slice Ab1 b.pr.length cb1] (some 18) (by kernel_rfl) (sameInts_any (la := a.pr) (lb := b.pr) (r8.pr.wide (Nat.zero_le _) (by omega)) (r9.pr.wide (Nat.zero_le _) (by omega))) ?_
 rintro e_ w39 ⟨rfl, he⟩
 refine ⟨_, rfl, _, rfl, fun act40 f41 => ?_⟩
 clear f37
 have g42 := gr_ext he
 have szw39 := g42.size
 replace e0 := e0.gr g42 no_row
 replace r8 := r8.gr g42 (fun _ h => by cases h)
 replace r9 := r9.gr g42 (fun _ h => by cases h)
 replace bx10 := bx10.gr g42 (by simp)
 replace bx21 := bx21.gr g42 (by simp)
 clear g42 he
 refine At.rd f41 1 [[]] [(6, .bool (decide (a.pr = b.pr)))] [] (by kernel_rfl) trivial (fun act49 f48 => ?_)
 clear f41
 refine At.done rfl ?_
 refine t_n ?_
 refine wp_seq ?_
 refine wp_seq ?_
 refine At.start ?_
 rcases Bool.eq_false_or_eq_true (!(decide (a.ow = b.ow))) with h50 | h50
 ·have q51 : (decide (a.ow = b.ow)) = false := by first | exact Eq.mp (Bool.not_eq_true' _) h50 | exact Eq.mp (Bool.not_eq_false' _) h50 | simpa using h50
  have q52 := of_decide_eq_false q51
  refine At.rd f48 15 [[], [], [.as_ (.bool true)], [], [], [], [], [], [], [], [], [], [], [], []] [(33, .bool true), (32, undef), (31, undef), (30, undef), (29, undef), (28, undef), (27, undef), (26, undef), (25, .bool true), (24, .bool true), (23, undef), (22, undef), (21, .bool true), (20, .bool (!(decide (a.ow = b.ow)))), (19, .bool (decide (a.ow = b.ow)))] [((.bool (!(decide (a.ow = b.ow))) : Value) = .bool true)] (by kernel_rfl) ⟨(congrArg Value.bool h50), trivial⟩ (fun act54 f53 => ?_)
  clear f48
  refine At.done rfl ?_
  refine t_n ?_
  have f55 := f53.sub (r := [(33, .bool true), (4, .bool false), (3, .pointer (some ⟨w1.heap.size, 0, none⟩)), (2, .pointer (some ⟨w.heap.size, 0, none⟩))]) ⟨rfl, rfl, rfl, rfl, trivial⟩
  clear f53
  refine cond_T f55 rfl ?_
  refine wp_seq ?_
  refine At.start ?_
  refine At.rd f55 1 [[]] [(4, .bool false)] [] (by kernel_rfl) trivial (fun act57 f56 => ?_)
  clear f55
  refine At.done rfl ?_
  refine t_n ?_
  refine wp_ret ?_
  refine t_r ?_
  refine ret_ f56 [] [.bool false] [] (by kernel_rfl) trivial ?_
  exact ⟨ret_eq (congrArg Value.bool (by first | exact game_ne0 (by assumption) | exact game_ne1 (by assumption) | exact game_ne2 (by assumption) | exact game_ne3 (by assumption) | exact game_eq (by assumption) (by assumption) (by assumption) (by assumption) (by omega))), e0⟩
 ·have q58 : (decide (a.ow = b.ow)) = true := by first | exact Eq.mp (Bool.not_eq_true' _) h50 | exact Eq.mp (Bool.not_eq_false' _) h50 | simpa using h50
  have q59 := of_decide_eq_true q58
  rcases Bool.eq_false_or_eq_true (!(decide (a.pr = b.pr))) with h60 | h60
  ·have q61 : (decide (a.pr = b.pr)) = false := by first | exact Eq.mp (Bool.not_eq_true' _) h60 | exact Eq.mp (Bool.not_eq_false' _) h60 | simpa using h60
   have q62 := of_decide_eq_false q61
   refine At.rd f48 15 [[], [], [.as_ (.bool false)], [], [], [], [.as_ (.bool true)], [], [], [], [], [], [], [], []] [(33, .bool true), (32, undef), (31, undef), (30, undef), (29, undef), (28, undef), (27, undef), (26, undef), (25, .bool true), (24, .bool (!(decide (a.pr = b.pr)))), (23, .bool (!(decide (a.pr = b.pr)))), (22, .bool (decide (a.pr = b.pr))), (21, .bool false), (20, .bool (!(decide (a.ow = b.ow)))), (19, .bool (decide (a.ow = b.ow)))] [((.bool (!(decide (a.ow = b.ow))) : Value) = .bool false), ((.bool (!(decide (a.pr = b.pr))) : Value) = .bool true)] (by kernel_rfl) ⟨(congrArg Value.bool h50), (congrArg Value.bool h60), trivial⟩ (fun act64 f63 => ?_)
   clear f48
   refine At.done rfl ?_
   refine t_n ?_
   have f65 := f63.sub (r := [(33, .bool true), (4, .bool false), (3, .pointer (some ⟨w1.heap.size, 0, none⟩)), (2, .pointer (some ⟨w.heap.size, 0, none⟩))]) ⟨rfl, rfl, rfl, rfl, trivial⟩
   clear f63
   refine cond_T f65 rfl ?_
   refine wp_seq ?_
   refine At.start ?_
   refine At.rd f65 1 [[]] [(4, .bool false)] [] (by kernel_rfl) trivial (fun act67 f66 => ?_)
   clear f65
   refine At.done rfl ?_
   refine t_n ?_
   refine wp_ret ?_
   refine t_r ?_
   refine ret_ f66 [] [.bool false] [] (by kernel_rfl) trivial ?_
   exact ⟨ret_eq (congrArg Value.bool (by first | exact game_ne0 (by assumption) | exact game_ne1 (by assumption) | exact game_ne2 (by assumption) | exact game_ne3 (by assumption) | exact game_eq (by assumption) (by assumption) (by assumption) (by assumption) (by omega))), e0⟩
  ·have q68 : (decide (a.pr = b.pr)) = true := by first | exact Eq.mp (Bool.not_eq_true' _) h60 | exact Eq.mp (Bool.not_eq_false' _) h60 | simpa using h60
   have q69 := of_decide_eq_true q68
   refine At.rd f48 15 [[], [], [.as_ (.bool false)], [], [], [], [.as_ (.bool false)], [], [.ld (.slice Aa2 a.mv.length ca2)], [], [], [.ld (.slice Ab2 b.mv.length cb2)], [], [], []] [(33, .bool ((((a.mv.length : Nat) : Int) : Int) != ((b.mv.length : Nat) : Int))), (32, .bool ((((a.mv.length : Nat) : Int) : Int) != ((b.mv.length : Nat) : Int))), (31, .int .i64 (((b.mv.length : Nat) : Int))), (30, .slice Ab2 b.mv.length cb2), (29, .pointer (some ⟨w1.heap.size, 2, none⟩)), (28, .int .i64 (((a.mv.length : Nat) : Int))), (27, .slice Aa2 a.mv.length ca2), (26, .pointer (some ⟨w.heap.size, 2, none⟩)), (25, .bool false), (24, .bool (!(decide (a.pr = b.pr)))), (23, .bool (!(decide (a.pr = b.pr)))), (22, .bool (decide (a.pr = b.pr))), (21, .bool false), (20, .bool (!(decide (a.ow = b.ow)))), (19, .bool (decide (a.ow = b.ow)))] [((.bool (!(decide (a.ow = b.ow))) : Value) = .bool false), ((.bool (!(decide (a.pr = b.pr))) : Value) = .bool false), (w39.cell? ⟨w.heap.size, 2, none⟩ = some (.slice Aa2 a.mv.length ca2)), (w39.cell? ⟨w1.heap.size, 2, none⟩ = some (.slice Ab2 b.mv.length cb2))] (by kernel_rfl) ⟨(congrArg Value.bool h50), (congrArg Value.bool h60), (bx10.cell (i := 2) rfl), (bx21.cell (i := 2) rfl), trivial⟩ (fun act71 f70 => ?_)
   clear f48
   refine At.done rfl ?_
   refine t_n ?_
   have f72 := f70.sub (r := [(33, .bool ((((a.mv.length : Nat) : Int) : Int) != ((b.mv.length : Nat) : Int))), (4, .bool false), (3, .pointer (some ⟨w1.heap.size, 0, none⟩)), (2, .pointer (some ⟨w.heap.size, 0, none⟩))]) ⟨rfl, rfl, rfl, rfl, trivial⟩
   clear f70
   refine cond_S f72 (t := (((a.mv.length : Nat) : Int) : Int) != ((b.mv.length : Nat) : Int)) rfl (fun h73 => ?_) (fun h73 => ?_)
   ·have q74 := bne_iff_ne.1 h73
    refine wp_seq ?_
    refine At.start ?_
    refine At.rd f72 1 [[]] [(4, .bool false)] [] (by kernel_rfl) trivial (fun act76 f75 => ?_)
    clear f72
    refine At.done rfl ?_
    refine t_n ?_
    refine wp_ret ?_
    refine t_r ?_
    refine ret_ f75 [] [.bool false] [] (by kernel_rfl) trivial ?_
    exact ⟨ret_eq (congrArg Value.bool (by first | exact game_ne0 (by assumption) | exact game_ne1 (by assumption) | exact game_ne2 (by assumption) | exact game_ne3 (by assumption) | exact game_eq (by assumption) (by assumption) (by assumption) (by assumption) (by omega))), e0⟩
   ·have q77 := bne_eq_false_iff_eq.1 h73
    refine wp_skip ?_
    refine t_n ?_
    refine wp_seq ?_
    refine wp_seq ?_
    refine At.start ?_
    refine At.rd f72 1 [[]] [(7, .int .i64 (0))] [] (by kernel_rfl) trivial (fun act79 f78 => ?_)
    clear f72
    refine At.done rfl ?_
    refine t_n ?_
    refine wp_block ?_
    have f80 := f78.sub (r := [(7, .int .i64 (0)), (3, .pointer (some ⟨w1.heap.size, 0, none⟩)), (2, .pointer (some ⟨w.heap.size, 0, none⟩))]) ⟨rfl, rfl, rfl, trivial⟩
    refine loop_g (fun (m_ : Nat) a_ w_ => ∃ (k : Int), m_ = ((a.mv.length : Int) - k).toNat ∧ (Frm 54 a_ [(7, .int .i64 (k)), (3, .pointer (some ⟨w1.heap.size, 0, none⟩)), (2, .pointer (some ⟨w.heap.size, 0, none⟩))]) ∧ (Ext w w_) ∧ (RdG w_ 0 w.heap.size Aa0 Aa1 Aa2 ca0 ca1 ca2 a) ∧ (RdG w_ 0 w.heap.size Ab0 Ab1 Ab2 cb0 cb1 cb2 b) ∧ (Bx w_ (w.heap.size) [.slice Aa0 a.ow.length ca0, .slice Aa1 a.pr.length ca1, .slice Aa2 a.mv.length ca2] 25) ∧ (Bx w_ (w1.heap.size) [.slice Ab0 b.ow.length cb0, .slice Ab1 b.pr.length cb1, .slice Ab2 b.mv.length cb2] 25) ∧ (0 ≤ k) ∧ (k ≤ (a.mv.length : Int)) ∧ (a.mv.take k.toNat = b.mv.take k.toNat)) _ ⟨0, rfl, f80, e0, r8, r9, bx10, bx21, (by omega), (by omega), rfl⟩ ?_
    clear f80 f78
    clear r8
    clear r9
    clear bx10
    clear bx21
    clear e0
    intro m_ act81 w82 ⟨k, hm84, f85, e83, r86, r87, bx88, bx89, i90, i91, i92⟩
    have szw82 := e83.size
    have := bx88.lt
    have := bx89.lt
    refine wp_seq ?_
    refine wp_seq ?_
    refine At.start ?_
    refine At.rd f85 5 [[], [], [.ld (.slice Aa2 a.mv.length ca2)], [], []] [(38, .bool (decide ((k : Int) < ((a.mv.length : Nat) : Int)))), (37, .int .i64 (((a.mv.length : Nat) : Int))), (36, .slice Aa2 a.mv.length ca2), (35, .pointer (some ⟨w.heap.size, 2, none⟩)), (34, .int .i64 (k))] [(w82.cell? ⟨w.heap.size, 2, none⟩ = some (.slice Aa2 a.mv.length ca2))] (by kernel_rfl) ⟨(bx88.cell (i := 2) rfl), trivial⟩ (fun act94 f93 => ?_)
    clear f85
    refine At.done rfl ?_
    refine t_n ?_
    refine cond_S f93 (t := decide ((k : Int) < ((a.mv.length : Nat) : Int))) rfl (fun h95 => ?_) (fun h95 => ?_)
    ·have q96 := of_decide_eq_true h95
     refine wp_skip ?_
     refine t_n ?_
     refine wp_seq ?_
     refine wp_block ?_
     refine wp_seq ?_
     obtain ⟨ad97, R100, C101, hA98, _, _, hc99, hC102, r103⟩ := RdII.get r86.mv (k) (by omega) (by omega)
     have hl104 := r103.len
     obtain ⟨ad106, R109, C110, hA107, _, _, hc108, hC111, r112⟩ := RdII.get r87.mv (k) (by omega) (by omega)
     have hl113 := r112.len
     obtain ⟨Cs115, hCs116⟩ : ∃ c : List (Addr × Value), c = [(⟨w.heap.size, 2, none⟩, (.slice Aa2 a.mv.length ca2)), ((ad97.add ((k : Int).toNat * 1)), (.slice R100 ((gL a.mv (k)).length) C101)), (⟨w1.heap.size, 2, none⟩, (.slice Ab2 b.mv.length cb2)), ((ad106.add ((k : Int).toNat * 1)), (.slice R109 ((gL b.mv (k)).length) C110))] := ⟨_, rfl⟩
     have hS117 : HoldsC Cs115 w82 := by rw [hCs116]; exact ⟨(bx88.cell (i := 2) rfl), hc99, (bx89.cell (i := 2) rfl), hc108, trivial⟩
     refine AtH.start Cs115 12 #[false, false, false, false, false, false, false, false, false, false, false, false] (by kernel_rfl) rfl rfl (fun w119 hw120 => ?_)
     have g118 := gr_drew hw120
     have hS121 := hS117.gr g118
     have szw119 := g118.size
     replace e83 := e83.gr g118 no_row
     replace r86 := r86.gr g118 (fun _ h => by cases h)
     replace r87 := r87.gr g118 (fun _ h => by cases h)
     replace bx88 := bx88.gr g118 (by simp)
     replace bx89 := bx89.gr g118 (by simp)
     replace r103 := r103.gr g118 (fun _ h => by cases h)
     replace r112 := r112.gr g118 (fun _ h => by cases h)
     clear g118 hw120 hS117
     refine AtH.rd (by kernel_rfl) (fun d v c a w h => by cases d <;> exact h) hS121 [0, 1, 2, 3, 4, 5, 6, 7, 8, 9] [[], [.ld (.slice Aa2 a.mv.length ca2)], [], [.ad ad97], [.ld (.slice R100 ((gL a.mv (k)).length) C101)], [], [.ld (.slice Ab2 b.mv.length cb2)], [], [.ad ad106], [.ld (.slice R109 ((gL b.mv (k)).length) C110)]] [(50, .slice R109 ((gL b.mv (k)).length) C110), (49, .pointer (some (ad106.add ((k : Int).toNat * 1)))), (48, .int .i64 (k)), (47, .slice Ab2 b.mv.length cb2), (46, .pointer (some ⟨w1.heap.size, 2, none⟩)), (45, .slice R100 ((gL a.mv (k)).length) C101), (44, .pointer (some (ad97.add ((k : Int).toNat * 1)))), (43, .int .i64 (k)), (42, .slice Aa2 a.mv.length ca2), (41, .pointer (some ⟨w.heap.size, 2, none⟩))] #[true, true, true, true, true, true, true, true, true, true, false, false] [(∃ j_ : Nat, Cs115[j_]? = some (⟨w.heap.size, 2, none⟩, (.slice Aa2 a.mv.length ca2))), (Aa2 = some ad97), (0 ≤ (k : Int)), ((k : Int) < (a.mv.length : Nat)), (∃ j_ : Nat, Cs115[j_]? = some ((ad97.add ((k : Int).toNat * 1)), (.slice R100 ((gL a.mv (k)).length) C101))), (∃ j_ : Nat, Cs115[j_]? = some (⟨w1.heap.size, 2, none⟩, (.slice Ab2 b.mv.length cb2))), (Ab2 = some ad106), (0 ≤ (k : Int)), ((k : Int) < (b.mv.length : Nat)), (∃ j_ : Nat, Cs115[j_]? = some ((ad106.add ((k : Int).toNat * 1)), (.slice R109 ((gL b.mv (k)).length) C110)))] 2 f93 (by kernel_rfl) ⟨⟨0, by rw [hCs116]; rfl⟩, hA98, (by omega), (by omega), ⟨1, by rw [hCs116]; rfl⟩, ⟨2, by rw [hCs116]; rfl⟩, hA107, (by omega), (by omega), ⟨3, by rw [hCs116]; rfl⟩, trivial⟩ (fun act130 f129 => ?_)
     clear f93
     refine AtH.all [10] 1 (by kernel_rfl) (by simp) ⟨?_, trivial⟩
     refine OneH.call f129 24 #[.slice R100 ((gL a.mv (k)).length) C101, .slice R109 ((gL b.mv (k)).length) C110] (some 51) #[true, true, true, true, true, true, true, true, true, true, true, false] (by kernel_rfl) (by kernel_rfl) (sameInts_any (la := gL a.mv (k)) (lb := gL b.mv (k)) (r103.wide (Nat.zero_le _) (by omega)) (r112.wide (Nat.zero_le _) (by omega))) ?_
     rintro e_ w132 ⟨rfl, he⟩
     refine ⟨_, rfl, _, rfl, fun act133 f134 => ?_⟩
     clear f129
     have g135 := gr_ext he
     have hS131 := hS121.gr g135
     have szw132 := g135.size
     replace e83 := e83.gr g135 no_row
     replace r86 := r86.gr g135 (fun _ h => by cases h)
     replace r87 := r87.gr g135 (fun _ h => by cases h)
     replace bx88 := bx88.gr g135 (by simp)
     replace bx89 := bx89.gr g135 (by simp)
     replace r103 := r103.gr g135 (fun _ h => by cases h)
     replace r112 := r112.gr g135 (fun _ h => by cases h)
     clear g135 he
     refine ⟨hS131, ?_⟩
     refine AtH.rd (by kernel_rfl) (fun d v c a w h => by cases d <;> exact h) hS131 [11] [[]] [(8, .bool (decide (gL a.mv (k) = gL b.mv (k))))] #[true, true, true, true, true, true, true, true, true, true, true, true] [] 0 f134 (by kernel_rfl) trivial (fun act144 f143 => ?_)
     clear f134
     refine AtH.done (by kernel_rfl) ?_
     clear hS131
     refine t_n ?_
     have f145 := f143.sub (r := [(8, .bool (decide (gL a.mv (k) = gL b.mv (k)))), (7, .int .i64 (k)), (3, .pointer (some ⟨w1.heap.size, 0, none⟩)), (2, .pointer (some ⟨w.heap.size, 0, none⟩))]) ⟨rfl, rfl, rfl, rfl, trivial⟩
     clear f143
     refine wp_seq ?_
     refine At.start ?_
     refine At.rd f145 2 [[], []] [(53, .bool (!(decide (gL a.mv (k) = gL b.mv (k))))), (52, .bool (decide (gL a.mv (k) = gL b.mv (k))))] [] (by kernel_rfl) trivial (fun act147 f146 => ?_)
     clear f145
     refine At.done rfl ?_
     refine t_n ?_
     refine cond_S f146 (t := !(decide (gL a.mv (k) = gL b.mv (k)))) rfl (fun h148 => ?_) (fun h148 => ?_)
     ·have q149 : (decide (gL a.mv (k) = gL b.mv (k))) = false := by first | exact Eq.mp (Bool.not_eq_true' _) h148 | exact Eq.mp (Bool.not_eq_false' _) h148 | simpa using h148
      have q150 := of_decide_eq_false q149
      refine wp_seq ?_
      refine At.start ?_
      refine At.rd f146 1 [[]] [(4, .bool false)] [] (by kernel_rfl) trivial (fun act152 f151 => ?_)
      clear f146
      refine At.done rfl ?_
      refine t_n ?_
      refine wp_ret ?_
      refine b_r ?_
      refine t_r ?_
      refine t_r ?_
      refine b_r ?_
      refine t_r ?_
      refine ret_ f151 [] [.bool false] [] (by kernel_rfl) trivial ?_
      exact ⟨ret_eq (congrArg Value.bool (by first | exact game_ne0 (by assumption) | exact game_ne1 (by assumption) | exact game_ne2 (by assumption) | exact game_ne3 (by assumption) | exact game_eq (by assumption) (by assumption) (by assumption) (by assumption) (by omega))), e83⟩
     ·have q153 : (decide (gL a.mv (k) = gL b.mv (k))) = true := by first | exact Eq.mp (Bool.not_eq_true' _) h148 | exact Eq.mp (Bool.not_eq_false' _) h148 | simpa using h148
      have q154 := of_decide_eq_true q153
      refine wp_skip ?_
      refine b_n ?_
      refine t_n ?_
      refine At.start ?_
      refine At.rd f146 3 [[], [.as_ (.int .i64 (k + 1))], []] [(7, .int .i64 (k + 1)), (40, .int .i64 (k + 1)), (39, .int .i64 (k))] [((.int .i64 (IntKind.i64.wrap (k + 1)) : Value) = .int .i64 (k + 1))] (by kernel_rfl) ⟨(w64 (by omega) (by omega)), trivial⟩ (fun act156 f155 => ?_)
      clear f146
      refine At.done rfl ?_
      refine t_n ?_
      have f157 := f155.sub (r := [(7, .int .i64 (k + 1)), (3, .pointer (some ⟨w1.heap.size, 0, none⟩)), (2, .pointer (some ⟨w.heap.size, 0, none⟩))]) ⟨rfl, rfl, rfl, trivial⟩
      exact ⟨_, (by omega), (k + 1), rfl, f157, e83, r86, r87, bx88, bx89, (by omega), (by omega), (takeL_next (by assumption) (by omega) (by omega) (by omega) (by assumption))⟩
    ·have q158 := of_decide_eq_false h95
     refine wp_exit ?_
     refine t_e ?_
     refine t_e ?_
     refine b_e ?_
     refine t_n ?_
     refine wp_seq ?_
     refine At.start ?_
     refine At.rd f93 1 [[]] [(4, .bool true)] [] (by kernel_rfl) trivial (fun act160 f159 => ?_)
     clear f93
     refine At.done rfl ?_
     refine t_n ?_
     refine wp_ret ?_
     refine ret_ f159 [] [.bool true] [] (by kernel_rfl) trivial ?_
     exact ⟨ret_eq (congrArg Value.bool (by first | exact game_ne0 (by assumption) | exact game_ne1 (by assumption) | exact game_ne2 (by assumption) | exact game_ne3 (by assumption) | exact game_eq (by assumption) (by assumption) (by assumption) (by assumption) (by omega))), e83⟩

end Go.Proofs.YtkkophhnliplhaaDoor
