/-
  A walk of a Go function, printed by a program of this repo. Conditions: what the theorems name.
-/
import Derived.Test.YtklbpajmoklheaaLem
import Derived.Test.YtklbpajmoklheaaWSame
import Derived.Test.YtklbpajmoklheaaFz
set_option linter.unusedVariables false
set_option linter.unusedSimpArgs false
namespace Go.Proofs.Ytklbpajmoklheaa
open Go Go.RowKit

set_option maxHeartbeats 4000000 in
theorem same_any {Aa0 Aa1 Aa2 : Option Addr} {ca0 ca1 ca2 : Nat} {a : GameL} {Ab0 Ab1 Ab2 : Option Addr} {cb0 cb1 cb2 : Nat} {b : GameL} {w : World} (ra : RdG w 0 w.heap.size Aa0 Aa1 Aa2 ca0 ca1 ca2 a) (rb : RdG w 0 w.heap.size Ab0 Ab1 Ab2 cb0 cb1 cb2 b) :
    Calls Try.prog 19 #[.agg #[.slice Aa0 a.ow.length ca0, .slice Aa1 a.pr.length ca1, .slice Aa2 a.mv.length ca2], .agg #[.slice Ab0 b.ow.length cb0, .slice Ab1 b.pr.length cb1, .slice Ab2 b.mv.length cb2]] w fun e w' => e = .returned (.bool (decide (a = b))) ∧ Ext w w' := by
 have hla0 := ra.ow.len
 have hla1 := ra.pr.len
 have hla2 := ra.mv.len
 have hka0 := ra.k0
 have hka1 := ra.k1
 have hka2 := ra.k2
 have hlb0 := rb.ow.len
 have hlb1 := rb.pr.len
 have hlb2 := rb.mv.len
 have hkb0 := rb.k0
 have hkb1 := rb.k1
 have hkb2 := rb.k2
 refine enter_ (args := [.agg #[.slice Aa0 a.ow.length ca0, .slice Aa1 a.pr.length ca1, .slice Aa2 a.mv.length ca2], .agg #[.slice Ab0 b.ow.length cb0, .slice Ab1 b.pr.length cb1, .slice Ab2 b.mv.length cb2]]) Try.func19 rfl Try.ntmps19 (Nat.le_of_ble_eq_true rfl) (fun act0 f0 => ?_)
 have e0 := Ext.refl w
 refine wp_seq ?_
 refine At.start ?_
 refine At.seq f0 1 [[]] [(2, .pointer (some ⟨w.heap.size, 0, none⟩))] (w.alloc (.cells #[.slice Aa0 a.ow.length ca0, .slice Aa1 a.pr.length ca1, .slice Aa2 a.mv.length ca2] 25 (0, 0))) [] (by kernel_rfl) trivial (fun act4 w1 hw2 f3 => ?_)
 clear f0
 have g5 := gr_alloc hw2
 have szw1 := g5.size
 have e7 := e0.gr g5 no_row
 clear e0
 have r8 := ra.gr g5 (fun _ h => by cases h)
 clear ra
 have r9 := rb.gr g5 (fun _ h => by cases h)
 clear rb
 have bx10 : Bx w1 (w.heap.size) [.slice Aa0 a.ow.length ca0, .slice Aa1 a.pr.length ca1, .slice Aa2 a.mv.length ca2] 25 := Bx.new hw2
 have := bx10.lt
 clear g5 hw2
 refine At.seq f3 1 [[]] [(3, .pointer (some ⟨w1.heap.size, 0, none⟩))] (w1.alloc (.cells #[.slice Ab0 b.ow.length cb0, .slice Ab1 b.pr.length cb1, .slice Ab2 b.mv.length cb2] 25 (0, 0))) [] (by kernel_rfl) trivial (fun act14 w11 hw12 f13 => ?_)
 clear f3
 have g15 := gr_alloc hw12
 have szw11 := g15.size
 have e17 := e7.gr g15 no_row
 clear e7
 have r18 := r8.gr g15 (fun _ h => by cases h)
 clear r8
 have r19 := r9.gr g15 (fun _ h => by cases h)
 clear r9
 have bx20 := bx10.gr g15 (by simp)
 clear bx10
 have bx21 : Bx w11 (w1.heap.size) [.slice Ab0 b.ow.length cb0, .slice Ab1 b.pr.length cb1, .slice Ab2 b.mv.length cb2] 25 := Bx.new hw12
 have := bx21.lt
 clear g15 hw12
 refine At.rd f13 1 [[]] [(4, .bool false)] [] (by kernel_rfl) trivial (fun act23 f22 => ?_)
 clear f13
 refine At.done rfl ?_
 refine t_n ?_
 have f24 := f22.sub (r := [(4, .bool false), (3, .pointer (some ⟨w1.heap.size, 0, none⟩)), (2, .pointer (some ⟨w.heap.size, 0, none⟩))]) ⟨rfl, rfl, rfl, trivial⟩
 clear f22
 refine wp_seq ?_
 refine At.start ?_
 refine At.rd f24 4 [[], [.ld (.slice Aa0 a.ow.length ca0)], [], [.ld (.slice Ab0 b.ow.length cb0)]] [(12, .slice Ab0 b.ow.length cb0), (11, .pointer (some ⟨w1.heap.size, 0, none⟩)), (10, .slice Aa0 a.ow.length ca0), (9, .pointer (some ⟨w.heap.size, 0, none⟩))] [(w11.cell? ⟨w.heap.size, 0, none⟩ = some (.slice Aa0 a.ow.length ca0)), (w11.cell? ⟨w1.heap.size, 0, none⟩ = some (.slice Ab0 b.ow.length cb0))] (by kernel_rfl) ⟨(bx20.cell (i := 0) rfl), (bx21.cell (i := 0) rfl), trivial⟩ (fun act26 f25 => ?_)
 clear f24
 refine At.call f25 20 #[.slice Aa0 a.ow.length ca0, .slice Ab0 b.ow.length cb0] (some 13) (by kernel_rfl) (sameInts_any (la := a.ow) (lb := b.ow) (r18.ow.wide (Nat.zero_le _) (by omega)) (r19.ow.wide (Nat.zero_le _) (by omega))) ?_
 rintro e_ w27 ⟨rfl, he⟩
 refine ⟨_, rfl, _, rfl, fun act28 f29 => ?_⟩
 clear f25
 have g30 := gr_ext he
 have szw27 := g30.size
 have e31 := e17.gr g30 no_row
 clear e17
 have r32 := r18.gr g30 (fun _ h => by cases h)
 clear r18
 have r33 := r19.gr g30 (fun _ h => by cases h)
 clear r19
 have bx34 := bx20.gr g30 (by simp)
 clear bx20
 have bx35 := bx21.gr g30 (by simp)
 clear bx21
 clear g30 he
 refine At.rd f29 1 [[]] [(5, .bool (decide (a.ow = b.ow)))] [] (by kernel_rfl) trivial (fun act37 f36 => ?_)
 clear f29
 refine At.done rfl ?_
 refine t_n ?_
 have f38 := f36.sub (r := [(5, .bool (decide (a.ow = b.ow))), (4, .bool false), (3, .pointer (some ⟨w1.heap.size, 0, none⟩)), (2, .pointer (some ⟨w.heap.size, 0, none⟩))]) ⟨rfl, rfl, rfl, rfl, trivial⟩
 clear f36
 refine wp_seq ?_
 refine At.start ?_
 refine At.rd f38 4 [[], [.ld (.slice Aa1 a.pr.length ca1)], [], [.ld (.slice Ab1 b.pr.length cb1)]] [(17, .slice Ab1 b.pr.length cb1), (16, .pointer (some ⟨w1.heap.size, 1, none⟩)), (15, .slice Aa1 a.pr.length ca1), (14, .pointer (some ⟨w.heap.size, 1, none⟩))] [(w27.cell? ⟨w.heap.size, 1, none⟩ = some (.slice Aa1 a.pr.length ca1)), (w27.cell? ⟨w1.heap.size, 1, none⟩ = some (.slice Ab1 b.pr.length cb1))] (by kernel_rfl) ⟨(bx34.cell (i := 1) rfl), (bx35.cell (i := 1) rfl), trivial⟩ (fun act40 f39 => ?_)
 clear f38
 refine At.call f39 20 #[.slice Aa1 a.pr.length ca1, .slice Ab1 b.pr.length cb1] (some 18) (by kernel_rfl) (sameInts_any (la := a.pr) (lb := b.pr) (r32.pr.wide (Nat.zero_le _) (by omega)) (r33.pr.wide (Nat.zero_le _) (by omega))) ?_
 rintro e_ w41 ⟨rfl, he⟩
 refine ⟨_, rfl, _, rfl, fun act42 f43 => ?_⟩
 clear f39
 have g44 := gr_ext he
 have szw41 := g44.size
 have e45 := e31.gr g44 no_row
 clear e31
 have r46 := r32.gr g44 (fun _ h => by cases h)
 clear r32
 have r47 := r33.gr g44 (fun _ h => by cases h)
 clear r33
 have bx48 := bx34.gr g44 (by simp)
 clear bx34
 have bx49 := bx35.gr g44 (by simp)
 clear bx35
 clear g44 he
 refine At.rd f43 1 [[]] [(6, .bool (decide (a.pr = b.pr)))] [] (by kernel_rfl) trivial (fun act51 f50 => ?_)
 clear f43
 refine At.done rfl ?_
 refine t_n ?_
 have f52 := f50.sub (r := [(6, .bool (decide (a.pr = b.pr))), (5, .bool (decide (a.ow = b.ow))), (4, .bool false), (3, .pointer (some ⟨w1.heap.size, 0, none⟩)), (2, .pointer (some ⟨w.heap.size, 0, none⟩))]) ⟨rfl, rfl, rfl, rfl, rfl, trivial⟩
 clear f50
 refine wp_seq ?_
 refine wp_seq ?_
 refine At.start ?_
 rcases Bool.eq_false_or_eq_true (!(decide (a.ow = b.ow))) with h53 | h53
 ·have q54 : (decide (a.ow = b.ow)) = false := by first | exact Eq.mp (Bool.not_eq_true' _) h53 | exact Eq.mp (Bool.not_eq_false' _) h53 | simpa using h53
  have q55 := of_decide_eq_false q54
  refine At.rd f52 15 [[], [], [.as_ (.bool true)], [], [], [], [], [], [], [], [], [], [], [], []] [(33, .bool true), (32, undef), (31, undef), (30, undef), (29, undef), (28, undef), (27, undef), (26, undef), (25, .bool true), (24, .bool true), (23, undef), (22, undef), (21, .bool true), (20, .bool (!(decide (a.ow = b.ow)))), (19, .bool (decide (a.ow = b.ow)))] [((.bool (!(decide (a.ow = b.ow))) : Value) = .bool true)] (by kernel_rfl) ⟨(congrArg Value.bool h53), trivial⟩ (fun act57 f56 => ?_)
  clear f52
  refine At.done rfl ?_
  refine t_n ?_
  have f58 := f56.sub (r := [(33, .bool true), (4, .bool false), (3, .pointer (some ⟨w1.heap.size, 0, none⟩)), (2, .pointer (some ⟨w.heap.size, 0, none⟩))]) ⟨rfl, rfl, rfl, rfl, trivial⟩
  clear f56
  refine cond_T f58 rfl ?_
  refine wp_seq ?_
  refine At.start ?_
  refine At.rd f58 1 [[]] [(4, .bool false)] [] (by kernel_rfl) trivial (fun act60 f59 => ?_)
  clear f58
  refine At.done rfl ?_
  refine t_n ?_
  have f61 := f59.sub (r := [(4, .bool false)]) ⟨rfl, trivial⟩
  clear f59
  refine wp_ret ?_
  refine t_r ?_
  refine ret_ f61 [] [.bool false] [] (by kernel_rfl) trivial ?_
  exact ⟨ret_eq (congrArg Value.bool (by first | exact game_ne0 (by assumption) | exact game_ne1 (by assumption) | exact game_ne2 (by assumption) | exact game_ne3 (by assumption) | exact game_eq (by assumption) (by assumption) (by assumption) (by assumption) (by omega))), e45⟩
 ·have q62 : (decide (a.ow = b.ow)) = true := by first | exact Eq.mp (Bool.not_eq_true' _) h53 | exact Eq.mp (Bool.not_eq_false' _) h53 | simpa using h53
  have q63 := of_decide_eq_true q62
  rcases Bool.eq_false_or_eq_true (!(decide (a.pr = b.pr))) with h64 | h64
  ·have q65 : (decide (a.pr = b.pr)) = false := by first | exact Eq.mp (Bool.not_eq_true' _) h64 | exact Eq.mp (Bool.not_eq_false' _) h64 | simpa using h64
   have q66 := of_decide_eq_false q65
   refine At.rd f52 15 [[], [], [.as_ (.bool false)], [], [], [], [.as_ (.bool true)], [], [], [], [], [], [], [], []] [(33, .bool true), (32, undef), (31, undef), (30, undef), (29, undef), (28, undef), (27, undef), (26, undef), (25, .bool true), (24, .bool (!(decide (a.pr = b.pr)))), (23, .bool (!(decide (a.pr = b.pr)))), (22, .bool (decide (a.pr = b.pr))), (21, .bool false), (20, .bool (!(decide (a.ow = b.ow)))), (19, .bool (decide (a.ow = b.ow)))] [((.bool (!(decide (a.ow = b.ow))) : Value) = .bool false), ((.bool (!(decide (a.pr = b.pr))) : Value) = .bool true)] (by kernel_rfl) ⟨(congrArg Value.bool h53), (congrArg Value.bool h64), trivial⟩ (fun act68 f67 => ?_)
   clear f52
   refine At.done rfl ?_
   refine t_n ?_
   have f69 := f67.sub (r := [(33, .bool true), (4, .bool false), (3, .pointer (some ⟨w1.heap.size, 0, none⟩)), (2, .pointer (some ⟨w.heap.size, 0, none⟩))]) ⟨rfl, rfl, rfl, rfl, trivial⟩
   clear f67
   refine cond_T f69 rfl ?_
   refine wp_seq ?_
   refine At.start ?_
   refine At.rd f69 1 [[]] [(4, .bool false)] [] (by kernel_rfl) trivial (fun act71 f70 => ?_)
   clear f69
   refine At.done rfl ?_
   refine t_n ?_
   have f72 := f70.sub (r := [(4, .bool false)]) ⟨rfl, trivial⟩
   clear f70
   refine wp_ret ?_
   refine t_r ?_
   refine ret_ f72 [] [.bool false] [] (by kernel_rfl) trivial ?_
   exact ⟨ret_eq (congrArg Value.bool (by first | exact game_ne0 (by assumption) | exact game_ne1 (by assumption) | exact game_ne2 (by assumption) | exact game_ne3 (by assumption) | exact game_eq (by assumption) (by assumption) (by assumption) (by assumption) (by omega))), e45⟩
  ·have q73 : (decide (a.pr = b.pr)) = true := by first | exact Eq.mp (Bool.not_eq_true' _) h64 | exact Eq.mp (Bool.not_eq_false' _) h64 | simpa using h64
   have q74 := of_decide_eq_true q73
   refine At.rd f52 15 [[], [], [.as_ (.bool false)], [], [], [], [.as_ (.bool false)], [], [.ld (.slice Aa2 a.mv.length ca2)], [], [], [.ld (.slice Ab2 b.mv.length cb2)], [], [], []] [(33, .bool ((((a.mv.length : Nat) : Int) : Int) != ((b.mv.length : Nat) : Int))), (32, .bool ((((a.mv.length : Nat) : Int) : Int) != ((b.mv.length : Nat) : Int))), (31, .int .i64 (((b.mv.length : Nat) : Int))), (30, .slice Ab2 b.mv.length cb2), (29, .pointer (some ⟨w1.heap.size, 2, none⟩)), (28, .int .i64 (((a.mv.length : Nat) : Int))), (27, .slice Aa2 a.mv.length ca2), (26, .pointer (some ⟨w.heap.size, 2, none⟩)), (25, .bool false), (24, .bool (!(decide (a.pr = b.pr)))), (23, .bool (!(decide (a.pr = b.pr)))), (22, .bool (decide (a.pr = b.pr))), (21, .bool false), (20, .bool (!(decide (a.ow = b.ow)))), (19, .bool (decide (a.ow = b.ow)))] [((.bool (!(decide (a.ow = b.ow))) : Value) = .bool false), ((.bool (!(decide (a.pr = b.pr))) : Value) = .bool false), (w41.cell? ⟨w.heap.size, 2, none⟩ = some (.slice Aa2 a.mv.length ca2)), (w41.cell? ⟨w1.heap.size, 2, none⟩ = some (.slice Ab2 b.mv.length cb2))] (by kernel_rfl) ⟨(congrArg Value.bool h53), (congrArg Value.bool h64), (bx48.cell (i := 2) rfl), (bx49.cell (i := 2) rfl), trivial⟩ (fun act76 f75 => ?_)
   clear f52
   refine At.done rfl ?_
   refine t_n ?_
   have f77 := f75.sub (r := [(33, .bool ((((a.mv.length : Nat) : Int) : Int) != ((b.mv.length : Nat) : Int))), (4, .bool false), (3, .pointer (some ⟨w1.heap.size, 0, none⟩)), (2, .pointer (some ⟨w.heap.size, 0, none⟩))]) ⟨rfl, rfl, rfl, rfl, trivial⟩
   clear f75
   refine cond_S f77 (t := (((a.mv.length : Nat) : Int) : Int) != ((b.mv.length : Nat) : Int)) rfl (fun h78 => ?_) (fun h78 => ?_)
   ·have q79 := bne_iff_ne.1 h78
    refine wp_seq ?_
    refine At.start ?_
    refine At.rd f77 1 [[]] [(4, .bool false)] [] (by kernel_rfl) trivial (fun act81 f80 => ?_)
    clear f77
    refine At.done rfl ?_
    refine t_n ?_
    have f82 := f80.sub (r := [(4, .bool false)]) ⟨rfl, trivial⟩
    clear f80
    refine wp_ret ?_
    refine t_r ?_
    refine ret_ f82 [] [.bool false] [] (by kernel_rfl) trivial ?_
    exact ⟨ret_eq (congrArg Value.bool (by first | exact game_ne0 (by assumption) | exact game_ne1 (by assumption) | exact game_ne2 (by assumption) | exact game_ne3 (by assumption) | exact game_eq (by assumption) (by assumption) (by assumption) (by assumption) (by omega))), e45⟩
   ·have q83 := bne_eq_false_iff_eq.1 h78
    refine wp_skip ?_
    refine t_n ?_
    have f84 := f77.sub (r := [(4, .bool false), (3, .pointer (some ⟨w1.heap.size, 0, none⟩)), (2, .pointer (some ⟨w.heap.size, 0, none⟩))]) ⟨rfl, rfl, rfl, trivial⟩
    clear f77
    refine wp_seq ?_
    refine wp_seq ?_
    refine At.start ?_
    refine At.rd f84 1 [[]] [(7, .int .i64 (0))] [] (by kernel_rfl) trivial (fun act86 f85 => ?_)
    clear f84
    refine At.done rfl ?_
    refine t_n ?_
    refine wp_block ?_
    have f87 := f85.sub (r := [(7, .int .i64 (0)), (3, .pointer (some ⟨w1.heap.size, 0, none⟩)), (2, .pointer (some ⟨w.heap.size, 0, none⟩))]) ⟨rfl, rfl, rfl, trivial⟩
    refine loop_g (fun (m_ : Nat) a_ w_ => ∃ (k : Int), m_ = ((a.mv.length : Int) - k).toNat ∧ (Frm 54 a_ [(7, .int .i64 (k)), (3, .pointer (some ⟨w1.heap.size, 0, none⟩)), (2, .pointer (some ⟨w.heap.size, 0, none⟩))]) ∧ (Ext w w_) ∧ (RdG w_ 0 w.heap.size Aa0 Aa1 Aa2 ca0 ca1 ca2 a) ∧ (RdG w_ 0 w.heap.size Ab0 Ab1 Ab2 cb0 cb1 cb2 b) ∧ (Bx w_ (w.heap.size) [.slice Aa0 a.ow.length ca0, .slice Aa1 a.pr.length ca1, .slice Aa2 a.mv.length ca2] 25) ∧ (Bx w_ (w1.heap.size) [.slice Ab0 b.ow.length cb0, .slice Ab1 b.pr.length cb1, .slice Ab2 b.mv.length cb2] 25) ∧ (0 ≤ k) ∧ (k ≤ (a.mv.length : Int)) ∧ (a.mv.take k.toNat = b.mv.take k.toNat)) _ ⟨0, rfl, f87, e45, r46, r47, bx48, bx49, (by omega), (by omega), rfl⟩ ?_
    clear f87 f85
    clear r46
    clear r47
    clear bx48
    clear bx49
    clear e45
    intro m_ act88 w89 ⟨k, hm91, f92, e90, r93, r94, bx95, bx96, i97, i98, i99⟩
    have szw89 := e90.size
    have := bx95.lt
    have := bx96.lt
    refine wp_seq ?_
    refine wp_seq ?_
    refine At.start ?_
    refine At.rd f92 5 [[], [], [.ld (.slice Aa2 a.mv.length ca2)], [], []] [(38, .bool (decide ((k : Int) < ((a.mv.length : Nat) : Int)))), (37, .int .i64 (((a.mv.length : Nat) : Int))), (36, .slice Aa2 a.mv.length ca2), (35, .pointer (some ⟨w.heap.size, 2, none⟩)), (34, .int .i64 (k))] [(w89.cell? ⟨w.heap.size, 2, none⟩ = some (.slice Aa2 a.mv.length ca2))] (by kernel_rfl) ⟨(bx95.cell (i := 2) rfl), trivial⟩ (fun act101 f100 => ?_)
    clear f92
    refine At.done rfl ?_
    refine t_n ?_
    have f102 := f100.sub (r := [(38, .bool (decide ((k : Int) < ((a.mv.length : Nat) : Int)))), (7, .int .i64 (k)), (3, .pointer (some ⟨w1.heap.size, 0, none⟩)), (2, .pointer (some ⟨w.heap.size, 0, none⟩))]) ⟨rfl, rfl, rfl, rfl, trivial⟩
    clear f100
    refine cond_S f102 (t := decide ((k : Int) < ((a.mv.length : Nat) : Int))) rfl (fun h103 => ?_) (fun h103 => ?_)
    ·have q104 := of_decide_eq_true h103
     refine wp_skip ?_
     refine t_n ?_
     have f105 := f102.sub (r := [(7, .int .i64 (k)), (3, .pointer (some ⟨w1.heap.size, 0, none⟩)), (2, .pointer (some ⟨w.heap.size, 0, none⟩))]) ⟨rfl, rfl, rfl, trivial⟩
     clear f102
     refine wp_seq ?_
     refine wp_block ?_
     refine wp_seq ?_
     obtain ⟨ad106, R109, C110, hA107, _, _, hc108, hC111, r112⟩ := RdII.get r93.mv (k) (by omega) (by omega)
     have hl113 := r112.len
     obtain ⟨ad115, R118, C119, hA116, _, _, hc117, hC120, r121⟩ := RdII.get r94.mv (k) (by omega) (by omega)
     have hl122 := r121.len
     obtain ⟨Cs124, hCs125⟩ : ∃ c : List (Addr × Value), c = [(⟨w.heap.size, 2, none⟩, (.slice Aa2 a.mv.length ca2)), ((ad106.add ((k : Int).toNat * 1)), (.slice R109 ((gL a.mv (k)).length) C110)), (⟨w1.heap.size, 2, none⟩, (.slice Ab2 b.mv.length cb2)), ((ad115.add ((k : Int).toNat * 1)), (.slice R118 ((gL b.mv (k)).length) C119))] := ⟨_, rfl⟩
     have hS126 : HoldsC Cs124 w89 := by rw [hCs125]; exact ⟨(bx95.cell (i := 2) rfl), hc108, (bx96.cell (i := 2) rfl), hc117, trivial⟩
     refine AtH.start Cs124 12 #[false, false, false, false, false, false, false, false, false, false, false, false] (by kernel_rfl) rfl rfl (fun w128 hw129 => ?_)
     have g127 := gr_drew hw129
     have hS130 := hS126.gr g127
     have szw128 := g127.size
     have e131 := e90.gr g127 no_row
     clear e90
     have r132 := r93.gr g127 (fun _ h => by cases h)
     clear r93
     have r133 := r94.gr g127 (fun _ h => by cases h)
     clear r94
     have bx134 := bx95.gr g127 (by simp)
     clear bx95
     have bx135 := bx96.gr g127 (by simp)
     clear bx96
     have r136 := r112.gr g127 (fun _ h => by cases h)
     clear r112
     have r137 := r121.gr g127 (fun _ h => by cases h)
     clear r121
     clear g127 hw129 hS126
     refine AtH.rd (by kernel_rfl) (fun d v c a w h => by cases d <;> exact h) hS130 [0, 1, 2, 3, 4, 5, 6, 7, 8, 9] [[], [.ld (.slice Aa2 a.mv.length ca2)], [], [.ad ad106], [.ld (.slice R109 ((gL a.mv (k)).length) C110)], [], [.ld (.slice Ab2 b.mv.length cb2)], [], [.ad ad115], [.ld (.slice R118 ((gL b.mv (k)).length) C119)]] [(50, .slice R118 ((gL b.mv (k)).length) C119), (49, .pointer (some (ad115.add ((k : Int).toNat * 1)))), (48, .int .i64 (k)), (47, .slice Ab2 b.mv.length cb2), (46, .pointer (some ⟨w1.heap.size, 2, none⟩)), (45, .slice R109 ((gL a.mv (k)).length) C110), (44, .pointer (some (ad106.add ((k : Int).toNat * 1)))), (43, .int .i64 (k)), (42, .slice Aa2 a.mv.length ca2), (41, .pointer (some ⟨w.heap.size, 2, none⟩))] #[true, true, true, true, true, true, true, true, true, true, false, false] [(∃ j_ : Nat, Cs124[j_]? = some (⟨w.heap.size, 2, none⟩, (.slice Aa2 a.mv.length ca2))), (Aa2 = some ad106), (0 ≤ (k : Int)), ((k : Int) < (a.mv.length : Nat)), (∃ j_ : Nat, Cs124[j_]? = some ((ad106.add ((k : Int).toNat * 1)), (.slice R109 ((gL a.mv (k)).length) C110))), (∃ j_ : Nat, Cs124[j_]? = some (⟨w1.heap.size, 2, none⟩, (.slice Ab2 b.mv.length cb2))), (Ab2 = some ad115), (0 ≤ (k : Int)), ((k : Int) < (b.mv.length : Nat)), (∃ j_ : Nat, Cs124[j_]? = some ((ad115.add ((k : Int).toNat * 1)), (.slice R118 ((gL b.mv (k)).length) C119)))] 2 f105 (by kernel_rfl) ⟨⟨0, by rw [hCs125]; rfl⟩, hA107, (by omega), (by omega), ⟨1, by rw [hCs125]; rfl⟩, ⟨2, by rw [hCs125]; rfl⟩, hA116, (by omega), (by omega), ⟨3, by rw [hCs125]; rfl⟩, trivial⟩ (fun act139 f138 => ?_)
     clear f105
     refine AtH.all [10] 1 (by kernel_rfl) (by simp) ⟨?_, trivial⟩
     refine OneH.call f138 20 #[.slice R109 ((gL a.mv (k)).length) C110, .slice R118 ((gL b.mv (k)).length) C119] (some 51) #[true, true, true, true, true, true, true, true, true, true, true, false] (by kernel_rfl) (by kernel_rfl) (sameInts_any (la := gL a.mv (k)) (lb := gL b.mv (k)) (r136.wide (Nat.zero_le _) (by omega)) (r137.wide (Nat.zero_le _) (by omega))) ?_
     rintro e_ w141 ⟨rfl, he⟩
     refine ⟨_, rfl, _, rfl, fun act142 f143 => ?_⟩
     clear f138
     have g144 := gr_ext he
     have hS140 := hS130.gr g144
     have szw141 := g144.size
     have e145 := e131.gr g144 no_row
     clear e131
     have r146 := r132.gr g144 (fun _ h => by cases h)
     clear r132
     have r147 := r133.gr g144 (fun _ h => by cases h)
     clear r133
     have bx148 := bx134.gr g144 (by simp)
     clear bx134
     have bx149 := bx135.gr g144 (by simp)
     clear bx135
     have r150 := r136.gr g144 (fun _ h => by cases h)
     clear r136
     have r151 := r137.gr g144 (fun _ h => by cases h)
     clear r137
     clear g144 he
     refine ⟨hS140, ?_⟩
     refine AtH.rd (by kernel_rfl) (fun d v c a w h => by cases d <;> exact h) hS140 [11] [[]] [(8, .bool (decide (gL a.mv (k) = gL b.mv (k))))] #[true, true, true, true, true, true, true, true, true, true, true, true] [] 0 f143 (by kernel_rfl) trivial (fun act153 f152 => ?_)
     clear f143
     refine AtH.done (by kernel_rfl) ?_
     clear hS140
     refine t_n ?_
     have f154 := f152.sub (r := [(8, .bool (decide (gL a.mv (k) = gL b.mv (k)))), (7, .int .i64 (k)), (3, .pointer (some ⟨w1.heap.size, 0, none⟩)), (2, .pointer (some ⟨w.heap.size, 0, none⟩))]) ⟨rfl, rfl, rfl, rfl, trivial⟩
     clear f152
     refine wp_seq ?_
     refine At.start ?_
     refine At.rd f154 2 [[], []] [(53, .bool (!(decide (gL a.mv (k) = gL b.mv (k))))), (52, .bool (decide (gL a.mv (k) = gL b.mv (k))))] [] (by kernel_rfl) trivial (fun act156 f155 => ?_)
     clear f154
     refine At.done rfl ?_
     refine t_n ?_
     have f157 := f155.sub (r := [(53, .bool (!(decide (gL a.mv (k) = gL b.mv (k))))), (7, .int .i64 (k)), (3, .pointer (some ⟨w1.heap.size, 0, none⟩)), (2, .pointer (some ⟨w.heap.size, 0, none⟩))]) ⟨rfl, rfl, rfl, rfl, trivial⟩
     clear f155
     refine cond_S f157 (t := !(decide (gL a.mv (k) = gL b.mv (k)))) rfl (fun h158 => ?_) (fun h158 => ?_)
     ·have q159 : (decide (gL a.mv (k) = gL b.mv (k))) = false := by first | exact Eq.mp (Bool.not_eq_true' _) h158 | exact Eq.mp (Bool.not_eq_false' _) h158 | simpa using h158
      have q160 := of_decide_eq_false q159
      refine wp_seq ?_
      refine At.start ?_
      refine At.rd f157 1 [[]] [(4, .bool false)] [] (by kernel_rfl) trivial (fun act162 f161 => ?_)
      clear f157
      refine At.done rfl ?_
      refine t_n ?_
      have f163 := f161.sub (r := [(4, .bool false)]) ⟨rfl, trivial⟩
      clear f161
      refine wp_ret ?_
      refine b_r ?_
      refine t_r ?_
      refine t_r ?_
      refine b_r ?_
      refine t_r ?_
      refine ret_ f163 [] [.bool false] [] (by kernel_rfl) trivial ?_
      exact ⟨ret_eq (congrArg Value.bool (by first | exact game_ne0 (by assumption) | exact game_ne1 (by assumption) | exact game_ne2 (by assumption) | exact game_ne3 (by assumption) | exact game_eq (by assumption) (by assumption) (by assumption) (by assumption) (by omega))), e145⟩
     ·have q164 : (decide (gL a.mv (k) = gL b.mv (k))) = true := by first | exact Eq.mp (Bool.not_eq_true' _) h158 | exact Eq.mp (Bool.not_eq_false' _) h158 | simpa using h158
      have q165 := of_decide_eq_true q164
      refine wp_skip ?_
      refine b_n ?_
      refine t_n ?_
      have f166 := f157.sub (r := [(7, .int .i64 (k)), (3, .pointer (some ⟨w1.heap.size, 0, none⟩)), (2, .pointer (some ⟨w.heap.size, 0, none⟩))]) ⟨rfl, rfl, rfl, trivial⟩
      clear f157
      refine At.start ?_
      refine At.rd f166 3 [[], [.as_ (.int .i64 (k + 1))], []] [(7, .int .i64 (k + 1)), (40, .int .i64 (k + 1)), (39, .int .i64 (k))] [((.int .i64 (IntKind.i64.wrap (k + 1)) : Value) = .int .i64 (k + 1))] (by kernel_rfl) ⟨(w64 (by omega) (by omega)), trivial⟩ (fun act168 f167 => ?_)
      clear f166
      refine At.done rfl ?_
      refine t_n ?_
      have f169 := f167.sub (r := [(7, .int .i64 (k + 1)), (3, .pointer (some ⟨w1.heap.size, 0, none⟩)), (2, .pointer (some ⟨w.heap.size, 0, none⟩))]) ⟨rfl, rfl, rfl, trivial⟩
      exact ⟨_, (by omega), (k + 1), rfl, f169, e145, r146, r147, bx148, bx149, (by omega), (by omega), (takeL_next (by assumption) (by omega) (by omega) (by omega) (by assumption))⟩
    ·have q170 := of_decide_eq_false h103
     refine wp_exit ?_
     refine t_e ?_
     refine t_e ?_
     refine b_e ?_
     refine t_n ?_
     have f171 := f102.sub (r := []) trivial
     clear f102
     refine wp_seq ?_
     refine At.start ?_
     refine At.rd f171 1 [[]] [(4, .bool true)] [] (by kernel_rfl) trivial (fun act173 f172 => ?_)
     clear f171
     refine At.done rfl ?_
     refine t_n ?_
     refine wp_ret ?_
     refine ret_ f172 [] [.bool true] [] (by kernel_rfl) trivial ?_
     exact ⟨ret_eq (congrArg Value.bool (by first | exact game_ne0 (by assumption) | exact game_ne1 (by assumption) | exact game_ne2 (by assumption) | exact game_ne3 (by assumption) | exact game_eq (by assumption) (by assumption) (by assumption) (by assumption) (by omega))), e90⟩

end Go.Proofs.Ytklbpajmoklheaa
