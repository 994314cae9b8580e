/-
  A walk of a Go function, printed by a program of this repo. Conditions: what the theorems name.
-/
import Derived.Test.YtkpljmalbmcdfaaDoorPureAttrF
import Derived.Test.YtkpljmalbmcdfaaDoorWSetsP
set_option linter.unusedVariables false
set_option linter.unusedSimpArgs false
namespace Go.Proofs.YtkpljmalbmcdfaaDoor
open Go Go.RowKit

attribute [local irreducible] ofZ fromW wordsD ofD ofW lsD lenW lenN fullW withW lessW hasW hasD inW inD leastD putD onI tzI orS andS minusS orD andD minusD fullD emptyD
set_option maxHeartbeats 4000000 in
theorem truths_any {s : List Int} {n : Int} {w : World} (hs : OkW s) (hn0 : 0 ≤ n) (hn1 : n ≤ 256) :
    Calls Tryd.prog 13 #[.agg ((s : List Int).map wV).toArray, .int .i64 (n)] w fun e w' => ∃ A c, e = .returned (.slice A ((truL s n)).length c) ∧ Ext w w' ∧ OwnR w' (Sx w.heap.size []) A c 4 ((truL s n) : List Bool) := by
 have hls := hs.1
 refine enter_ (args := [.agg ((s : List Int).map wV).toArray, .int .i64 (n)]) Tryd.func13 rfl Tryd.ntmps13 (Nat.le_of_ble_eq_true rfl) (fun act0 f0 => ?_)
 have e0 := Ext.refl w
 refine wp_seq ?_
 refine At.start ?_
 refine At.seq f0 1 [[]] [(2, .pointer (some ⟨w.heap.size, 0, none⟩))] (w.alloc (.cells ((s : List Int).map wV).toArray 28 (0, 0))) [] (by kernel_rfl) trivial (fun act4 w1 hw2 f3 => ?_)
 clear f0
 have g5 := gr_alloc hw2
 have szw1 := g5.size
 replace e0 := e0.gr g5 no_row
 have bx8 : Bx w1 (w.heap.size) ((s : List Int).map wV) 28 := Bx.new hw2
 have := bx8.lt
 clear g5 hw2
 refine At.rd f3 1 [[]] [(4, .slice none 0 0)] [] (by kernel_rfl) trivial (fun act10 f9 => ?_)
 clear f3
 refine At.done rfl ?_
 refine t_n ?_
 refine wp_seq ?_
 refine At.start ?_
 refine At.rd f9 1 [[]] [(7, .int .i64 (n))] [] (by kernel_rfl) trivial (fun act12 f11 => ?_)
 clear f9
 refine At.act f11 (makeR (k1 := .i64) (k2 := .i64) (α := Bool) (e := 4) (bytes := 1) (t := 34) (d := 8) (n := n) (cap := n) (false) (by kernel_rfl) rfl (by kernel_rfl) (by omega) (by omega) (by omega) (by omega)) ?_
 rintro d_ v_ w13 ⟨rfl, rfl, g14, hO15⟩
 refine ⟨_, rfl, fun act19 f18 => ?_⟩
 clear f11
 replace hO15 := hO15 (Sx (w1.heap.size) []) (Nat.le_refl _)
 have szw13 := g14.size
 replace e0 := e0.gr g14 no_row
 replace bx8 := bx8.gr g14 (by simp)
 clear g14
 have : (List.replicate (n : Int).toNat (false : Bool)).length = (n : Int).toNat := List.length_replicate
 refine At.rd f18 1 [[]] [(5, .slice (some ⟨w1.heap.size, 0, none⟩) ((List.replicate (n : Int).toNat (false : Bool)).length) ((n : Int).toNat))] [] (by kernel_rfl) trivial (fun act23 f22 => ?_)
 clear f18
 refine At.done rfl ?_
 refine t_n ?_
 refine wp_seq ?_
 refine wp_seq ?_
 refine At.start ?_
 refine At.rd f22 1 [[]] [(6, .int .i64 (0))] [] (by kernel_rfl) trivial (fun act25 f24 => ?_)
 clear f22
 refine At.done rfl ?_
 refine t_n ?_
 refine wp_block ?_
 have f29 := f24.as 5 (.slice (some ⟨w1.heap.size, 0, none⟩) ((List.replicate (n : Int).toNat (false : Bool)).length) ((n : Int).toNat)) (.slice (some ⟨w1.heap.size, 0, none⟩) ((List.replicate (n : Int).toNat (false : Bool) : List Bool).length) ((n : Int).toNat)) rfl (slice_len (by first | rfl | omega | (simp; done) | (simp; omega)))
 clear f24
 have f28 := f29.sub (r := [(6, .int .i64 (0)), (5, .slice (some ⟨w1.heap.size, 0, none⟩) ((List.replicate (n : Int).toNat (false : Bool) : List Bool).length) ((n : Int).toNat)), (4, .slice none 0 0), (2, .pointer (some ⟨w.heap.size, 0, none⟩)), (1, .int .i64 (n))]) ⟨rfl, rfl, rfl, rfl, rfl, trivial⟩
 refine loop_g (fun (m_ : Nat) a_ w_ => ∃ (k : Int) (xs : List Bool) (A_26 : Option Addr) (c_27 : Nat), m_ = (n - k).toNat ∧ (Frm 32 a_ [(6, .int .i64 (k)), (5, .slice A_26 xs.length c_27), (4, .slice none 0 0), (2, .pointer (some ⟨w.heap.size, 0, none⟩)), (1, .int .i64 (n))]) ∧ (Ext w w_) ∧ (Bx w_ (w.heap.size) ((s : List Int).map wV) 28) ∧ (OwnR w_ (Sx (w1.heap.size) []) A_26 c_27 4 (xs : List Bool)) ∧ (0 ≤ k) ∧ (k ≤ n) ∧ (TruT s n xs k) ∧ (xs.length = n.toNat) ∧ (w1.heap.size ≤ w_.heap.size)) _ ⟨0, (List.replicate (n : Int).toNat (false : Bool) : List Bool), some ⟨w1.heap.size, 0, none⟩, (n : Int).toNat, rfl, f28, e0, bx8, hO15, (by omega), (by omega), tru_0, List.length_replicate, (by omega)⟩ ?_
 clear f28 f29
 clear bx8
 clear hO15
 clear e0
 intro m_ act30 w31 ⟨k, xs, A_26, c_27, hm33, f34, e32, bx35, ow36, i37, i38, hxs, i39, i40⟩
 have szw31 := e32.size
 have := bx35.lt
 refine wp_seq ?_
 refine wp_seq ?_
 refine At.start ?_
 rcases Bool.eq_false_or_eq_true (decide ((k : Int) < n)) with h41 | h41
 ·have q42 := of_decide_eq_true h41
  refine At.rd f34 7 [[], [], [], [.as_ (.bool true)], [], [], []] [(15, .bool (decide ((k : Int) < 256))), (14, .bool (decide ((k : Int) < 256))), (13, .int .i64 (k)), (12, .bool true), (11, .bool (decide ((k : Int) < n))), (10, .int .i64 (n)), (9, .int .i64 (k))] [((.bool (decide ((k : Int) < n)) : Value) = .bool true)] (by kernel_rfl) ⟨(congrArg Value.bool h41), trivial⟩ (fun act44 f43 => ?_)
  clear f34
  refine At.done rfl ?_
  refine t_n ?_
  refine cond_S f43 (t := decide ((k : Int) < 256)) rfl (fun h45 => ?_) (fun h45 => ?_)
  ·have q46 := of_decide_eq_true h45
   refine wp_skip ?_
   refine t_n ?_
   refine wp_seq ?_
   refine wp_block ?_
   refine At.start ?_
   obtain ⟨ad47, hA48, hb51, hc50, hc49⟩ := ow36.get (k) (by omega) (by omega) (sz := 1) rfl
   refine At.rd f43 13 [[], [], [], [.as_ (.int .i64 ((k : Int) / 64))], [], [.ld (.int .u64 (gI s ((k : Int) / 64)))], [], [.as_ (.int .i64 ((k : Int) % 64))], [.as_ (.int .u64 ((k : Int) % 64))], [], [], [.as_ (.bool (gB (fromW s) k))], [.ad ad47]] [(30, .pointer (some (ad47.add ((k : Int).toNat * 1)))), (29, .bool (gB (fromW s) k)), (28, .int .u64 (IntKind.u64.wrap ((BitVec.ofInt 64 ((gI s ((k : Int) / 64) : Int).fdiv (2 ^ (min ((k : Int) % 64 : Int).toNat IntKind.u64.bits))) &&& BitVec.ofInt 64 1).toNat : Int))), (27, .int .u64 ((gI s ((k : Int) / 64) : Int).fdiv (2 ^ (min ((k : Int) % 64 : Int).toNat IntKind.u64.bits)))), (26, .int .u64 ((k : Int) % 64)), (25, .int .i64 ((k : Int) % 64)), (24, .int .i64 (k)), (23, .int .u64 (gI s ((k : Int) / 64))), (22, .pointer (some ((⟨w.heap.size, 0, none⟩ : Addr).add (((k : Int) / 64 : Int).toNat * 1)))), (21, .int .i64 ((k : Int) / 64)), (20, .int .i64 (k)), (19, .int .i64 (k)), (18, .slice A_26 xs.length c_27)] [((64 : Int) ≠ 0), ((.int .i64 (IntKind.i64.wrap ((k : Int).tdiv 64)) : Value) = .int .i64 ((k : Int) / 64)), (0 ≤ ((k : Int) / 64 : Int)), (((k : Int) / 64 : Int) < (4 : Nat)), (w31.cell? ((⟨w.heap.size, 0, none⟩ : Addr).add (((k : Int) / 64 : Int).toNat * 1)) = some (.int .u64 (gI s ((k : Int) / 64)))), ((64 : Int) ≠ 0), ((.int .i64 ((k : Int).tmod 64) : Value) = .int .i64 ((k : Int) % 64)), ((.int .u64 (IntKind.u64.wrap ((k : Int) % 64)) : Value) = .int .u64 ((k : Int) % 64)), (0 ≤ ((k : Int) % 64 : Int)), ((.bool ((IntKind.u64.wrap ((BitVec.ofInt 64 ((gI s ((k : Int) / 64) : Int).fdiv (2 ^ (min ((k : Int) % 64 : Int).toNat IntKind.u64.bits))) &&& BitVec.ofInt 64 1).toNat : Int) : Int) == 1) : Value) = .bool (gB (fromW s) k)), (A_26 = some ad47), (0 ≤ (k : Int)), ((k : Int) < (xs.length : Nat))] (by kernel_rfl) ⟨(by omega), (congrArg (Value.int .i64) (w64q (by omega) (by omega) (by omega))), (by omega), (by omega), (Bx.arrM (f := wV) (0 : Int) bx35 ((k : Int) / 64) (by omega) (by omega)), (by omega), (congrArg (Value.int .i64) (tmodE (by omega) _)), (wu64 (by omega) (by omega)), (by omega), (congrArg Value.bool (by rw [gB_from (by omega) (by omega)]; exact bit_test (hs.2 _) (by omega) (by omega))), hA48, (by omega), (by omega), trivial⟩ (fun act53 f52 => ?_)
   clear f43
   refine At.act f52 (storeR (α := Bool) (t := 4) (i := k) (ad := ad47) (v := .bool (gB (fromW s) k)) (gB (fromW s) k) (by kernel_rfl) rfl rfl (by kernel_rfl) hA48 ow36 (by omega) (by omega)) ?_
   rintro d_ v_ w54 ⟨rfl, g55, ow56⟩
   refine ⟨_, rfl, fun act59 f58 => ?_⟩
   clear f52
   have hl57 : ((xs).set (k : Int).toNat (gB (fromW s) k)).length = (xs).length := List.length_set
   have szw54 := g55.size
   replace e32 := e32.gr g55 (fun k hk => by have := ow36.ge k hk; omega)
   replace bx35 := bx35.gr g55 (fun e => by have := ow36.ge _ e; omega)
   clear ow36 g55
   refine At.done rfl ?_
   refine b_n ?_
   refine t_n ?_
   have f62 := f58.sub (r := [(14, .bool (decide ((k : Int) < 256))), (13, .int .i64 (k)), (6, .int .i64 (k)), (5, .slice A_26 xs.length c_27), (4, .slice none 0 0), (2, .pointer (some ⟨w.heap.size, 0, none⟩)), (1, .int .i64 (n))]) ⟨rfl, rfl, rfl, rfl, rfl, rfl, rfl, trivial⟩
   clear f58
   refine At.start ?_
   refine At.rd f62 3 [[], [.as_ (.int .i64 (k + 1))], []] [(6, .int .i64 (k + 1)), (17, .int .i64 (k + 1)), (16, .int .i64 (k))] [((.int .i64 (IntKind.i64.wrap (k + 1)) : Value) = .int .i64 (k + 1))] (by kernel_rfl) ⟨(w64 (by omega) (by omega)), trivial⟩ (fun act64 f63 => ?_)
   clear f62
   refine At.done rfl ?_
   refine t_n ?_
   have f65 := f63.as 5 (.slice A_26 xs.length c_27) (.slice A_26 (((xs).set (k : Int).toNat (gB (fromW s) k) : List Bool).length) c_27) rfl (slice_len (by first | rfl | omega | (simp; done) | (simp; omega)))
   clear f63
   have f66 := f65.sub (r := [(6, .int .i64 (k + 1)), (5, .slice A_26 (((xs).set (k : Int).toNat (gB (fromW s) k) : List Bool).length) c_27), (4, .slice none 0 0), (2, .pointer (some ⟨w.heap.size, 0, none⟩)), (1, .int .i64 (n))]) ⟨rfl, rfl, rfl, rfl, rfl, trivial⟩
   exact ⟨_, (by omega), (k + 1), ((xs).set (k : Int).toNat (gB (fromW s) k) : List Bool), A_26, c_27, rfl, f66, e32, bx35, ow56, (by omega), (by omega), (tru_next hxs (by omega) (by omega)), (by rw [List.length_set]; assumption), (by omega)⟩
  ·have q67 := of_decide_eq_false h45
   refine wp_exit ?_
   refine t_e ?_
   refine t_e ?_
   refine b_e ?_
   refine t_n ?_
   refine wp_seq ?_
   refine At.start ?_
   refine At.rd f43 2 [[], []] [(4, .slice A_26 xs.length c_27), (31, .slice A_26 xs.length c_27)] [] (by kernel_rfl) trivial (fun act69 f68 => ?_)
   clear f43
   refine At.done rfl ?_
   refine t_n ?_
   refine wp_ret ?_
   refine ret_ f68 [] [.slice A_26 xs.length c_27] [] (by kernel_rfl) trivial ?_
   have hq_ : (xs : List Bool) = truL s n := tru_end hxs hn0 hn1 (by omega)
   exact ⟨A_26, c_27, ret_eq (slice_len (by first | (rw [← hq_]; done) | (rw [← hq_]; simp) | (rw [← hq_]; omega))), e32, (OwnR.as (ow36.imp (fun g _ hs => by have := Sx_base hs; show w.heap.size ≤ g; omega)) hq_)⟩
 ·have q70 := of_decide_eq_false h41
  refine At.rd f34 7 [[], [], [], [.as_ (.bool false)], [], [], []] [(15, .bool false), (14, undef), (13, undef), (12, .bool false), (11, .bool (decide ((k : Int) < n))), (10, .int .i64 (n)), (9, .int .i64 (k))] [((.bool (decide ((k : Int) < n)) : Value) = .bool false)] (by kernel_rfl) ⟨(congrArg Value.bool h41), trivial⟩ (fun act72 f71 => ?_)
  clear f34
  refine At.done rfl ?_
  refine t_n ?_
  refine cond_F f71 rfl ?_
  refine wp_exit ?_
  refine t_e ?_
  refine t_e ?_
  refine b_e ?_
  refine t_n ?_
  refine wp_seq ?_
  refine At.start ?_
  refine At.rd f71 2 [[], []] [(4, .slice A_26 xs.length c_27), (31, .slice A_26 xs.length c_27)] [] (by kernel_rfl) trivial (fun act74 f73 => ?_)
  clear f71
  refine At.done rfl ?_
  refine t_n ?_
  refine wp_ret ?_
  refine ret_ f73 [] [.slice A_26 xs.length c_27] [] (by kernel_rfl) trivial ?_
  have hq_ : (xs : List Bool) = truL s n := tru_end hxs hn0 hn1 (by omega)
  exact ⟨A_26, c_27, ret_eq (slice_len (by first | (rw [← hq_]; done) | (rw [← hq_]; simp) | (rw [← hq_]; omega))), e32, (OwnR.as (ow36.imp (fun g _ hs => by have := Sx_base hs; show w.heap.size ≤ g; omega)) hq_)⟩

set_option maxHeartbeats 4000000 in
theorem set12_any {Ab : Option Addr} {cb : Nat} {lb : List Bool} {w : World} (rb : RdR w 0 w.heap.size Ab lb) (hlb : lb.length ≤ 256) :
    Calls Tryd.prog 16 #[.slice Ab lb.length cb] w fun e w' => ∃ ss, e = .returned (.agg ((ss : List Int).map wV).toArray) ∧ Ext w w' ∧ OkW ss ∧ ∀ j : Int, 0 ≤ j → j < 256 → gB (fromW ss) j = gB lb j := by
 refine enter_ (args := [.slice Ab lb.length cb]) Tryd.func16 rfl Tryd.ntmps16 (Nat.le_of_ble_eq_true rfl) (fun act0 f0 => ?_)
 have e0 := Ext.refl w
 refine wp_seq ?_
 refine At.start ?_
 refine At.seq f0 1 [[]] [(2, .pointer (some ⟨w.heap.size, 0, none⟩))] (w.alloc (.cells ((List.replicate 4 (0 : Int) : List Int).map wV).toArray 28 (0, 0))) [] (by kernel_rfl) trivial (fun act4 w1 hw2 f3 => ?_)
 clear f0
 have g5 := gr_alloc hw2
 have szw1 := g5.size
 replace e0 := e0.gr g5 no_row
 have r8 := rb.gr g5 (fun _ h => by cases h)
 clear rb
 have bx9 : Bx w1 (w.heap.size) ((List.replicate 4 (0 : Int) : List Int).map wV) 28 := Bx.new hw2
 have := bx9.lt
 clear g5 hw2
 refine At.done rfl ?_
 refine t_n ?_
 refine wp_seq ?_
 refine At.start ?_
 refine At.seq f3 1 [[]] [(3, .pointer (some ⟨w1.heap.size, 0, none⟩))] (w1.alloc (.cells ((List.replicate 4 (0 : Int) : List Int).map wV).toArray 28 (0, 0))) [] (by kernel_rfl) trivial (fun act13 w10 hw11 f12 => ?_)
 clear f3
 have g14 := gr_alloc hw11
 have szw10 := g14.size
 replace e0 := e0.gr g14 no_row
 replace r8 := r8.gr g14 (fun _ h => by cases h)
 replace bx9 := bx9.gr g14 (by simp)
 have bx19 : Bx w10 (w1.heap.size) ((List.replicate 4 (0 : Int) : List Int).map wV) 28 := Bx.new hw11
 have := bx19.lt
 clear g14 hw11
 refine At.done rfl ?_
 refine t_n ?_
 refine wp_seq ?_
 refine wp_seq ?_
 refine At.start ?_
 refine At.rd f12 1 [[]] [(4, .int .i64 (0))] [] (by kernel_rfl) trivial (fun act21 f20 => ?_)
 clear f12
 refine At.done rfl ?_
 refine t_n ?_
 refine wp_block ?_
 have f22 := f20.sub (r := [(4, .int .i64 (0)), (3, .pointer (some ⟨w1.heap.size, 0, none⟩)), (2, .pointer (some ⟨w.heap.size, 0, none⟩)), (0, .slice Ab lb.length cb)]) ⟨rfl, rfl, rfl, rfl, trivial⟩
 refine loop_g (fun (m_ : Nat) a_ w_ => ∃ (k : Int) (xs : List Int), m_ = ((lb.length : Int) - k).toNat ∧ (Frm 28 a_ [(4, .int .i64 (k)), (3, .pointer (some ⟨w1.heap.size, 0, none⟩)), (2, .pointer (some ⟨w.heap.size, 0, none⟩)), (0, .slice Ab lb.length cb)]) ∧ (Ext w w_) ∧ (RdR w_ 0 w.heap.size Ab (lb : List Bool)) ∧ (Bx w_ (w.heap.size) ((List.replicate 4 (0 : Int) : List Int).map wV) 28) ∧ (Bx w_ (w1.heap.size) ((xs : List Int).map wV) 28) ∧ (0 ≤ k) ∧ (k ≤ (lb.length : Int)) ∧ (SetT lb xs k) ∧ (xs.length = 4)) _ ⟨0, List.replicate 4 (0 : Int), rfl, f22, e0, r8, bx9, bx19, (by omega), (by omega), set_0, rfl⟩ ?_
 clear f22 f20
 clear r8
 clear bx9
 clear bx19
 clear e0
 intro m_ act23 w24 ⟨k, xs, hm26, f27, e25, r28, bx29, bx30, i31, i32, hst, i33⟩
 have szw24 := e25.size
 have := bx29.lt
 have := bx30.lt
 refine wp_seq ?_
 refine wp_seq ?_
 refine At.start ?_
 refine At.rd f27 4 [[], [], [], []] [(8, .bool (decide ((k : Int) < ((lb.length : Nat) : Int)))), (7, .int .i64 (((lb.length : Nat) : Int))), (6, .slice Ab lb.length cb), (5, .int .i64 (k))] [] (by kernel_rfl) trivial (fun act35 f34 => ?_)
 clear f27
 refine At.done rfl ?_
 refine t_n ?_
 refine cond_S f34 (t := decide ((k : Int) < ((lb.length : Nat) : Int))) rfl (fun h36 => ?_) (fun h36 => ?_)
 ·have q37 := of_decide_eq_true h36
  refine wp_skip ?_
  refine t_n ?_
  refine wp_seq ?_
  refine wp_block ?_
  refine wp_seq ?_
  refine At.start ?_
  obtain ⟨ad38, hA39, hb42, hc41, hc40⟩ := r28.get (k) (by omega) (by omega) (sz := 1) rfl
  refine At.rd f34 4 [[], [], [.ad ad38], [.ld (.bool (gB lb k))]] [(14, .bool (gB lb k)), (13, .pointer (some (ad38.add ((k : Int).toNat * 1)))), (12, .int .i64 (k)), (11, .slice Ab lb.length cb)] [(Ab = some ad38), (0 ≤ (k : Int)), ((k : Int) < (lb.length : Nat)), (w24.cell? (ad38.add ((k : Int).toNat * 1)) = some (.bool (gB lb k)))] (by kernel_rfl) ⟨hA39, (by omega), (by omega), hc41, trivial⟩ (fun act44 f43 => ?_)
  clear f34
  refine At.done rfl ?_
  refine t_n ?_
  refine cond_S f43 (t := gB lb k) rfl (fun h45 => ?_) (fun h45 => ?_)
  ·refine At.start ?_
   refine At.rd f43 12 [[], [.as_ (.int .i64 ((k : Int) / 64))], [], [.as_ (.int .i64 ((k : Int) / 64))], [], [.ld (.int .u64 (gI xs ((k : Int) / 64)))], [], [.as_ (.int .i64 ((k : Int) % 64))], [.as_ (.int .u64 ((k : Int) % 64))], [.as_ (.int .u64 (oneW ((k : Int) % 64)))], [.as_ (.int .u64 (orW (gI xs ((k : Int) / 64)) (oneW ((k : Int) % 64))))], []] [(26, .pointer (some ((⟨w1.heap.size, 0, none⟩ : Addr).add (((k : Int) / 64 : Int).toNat * 1)))), (25, .int .u64 (orW (gI xs ((k : Int) / 64)) (oneW ((k : Int) % 64)))), (24, .int .u64 (oneW ((k : Int) % 64))), (23, .int .u64 ((k : Int) % 64)), (22, .int .i64 ((k : Int) % 64)), (21, .int .i64 (k)), (20, .int .u64 (gI xs ((k : Int) / 64))), (19, .pointer (some ((⟨w1.heap.size, 0, none⟩ : Addr).add (((k : Int) / 64 : Int).toNat * 1)))), (18, .int .i64 ((k : Int) / 64)), (17, .int .i64 (k)), (16, .int .i64 ((k : Int) / 64)), (15, .int .i64 (k))] [((64 : Int) ≠ 0), ((.int .i64 (IntKind.i64.wrap ((k : Int).tdiv 64)) : Value) = .int .i64 ((k : Int) / 64)), ((64 : Int) ≠ 0), ((.int .i64 (IntKind.i64.wrap ((k : Int).tdiv 64)) : Value) = .int .i64 ((k : Int) / 64)), (0 ≤ ((k : Int) / 64 : Int)), (((k : Int) / 64 : Int) < (4 : Nat)), (w24.cell? ((⟨w1.heap.size, 0, none⟩ : Addr).add (((k : Int) / 64 : Int).toNat * 1)) = some (.int .u64 (gI xs ((k : Int) / 64)))), ((64 : Int) ≠ 0), ((.int .i64 ((k : Int).tmod 64) : Value) = .int .i64 ((k : Int) % 64)), ((.int .u64 (IntKind.u64.wrap ((k : Int) % 64)) : Value) = .int .u64 ((k : Int) % 64)), (0 ≤ ((k : Int) % 64 : Int)), ((.int .u64 (IntKind.u64.wrap (1 * (2 ^ (min ((k : Int) % 64 : Int).toNat IntKind.u64.bits)))) : Value) = .int .u64 (oneW ((k : Int) % 64))), ((.int .u64 (IntKind.u64.wrap ((BitVec.ofInt 64 (gI xs ((k : Int) / 64)) ||| BitVec.ofInt 64 (oneW ((k : Int) % 64))).toNat : Int)) : Value) = .int .u64 (orW (gI xs ((k : Int) / 64)) (oneW ((k : Int) % 64)))), (0 ≤ ((k : Int) / 64 : Int)), (((k : Int) / 64 : Int) < (4 : Nat))] (by kernel_rfl) ⟨(by omega), (congrArg (Value.int .i64) (w64q (by omega) (by omega) (by omega))), (by omega), (congrArg (Value.int .i64) (w64q (by omega) (by omega) (by omega))), (by omega), (by omega), (Bx.arrM (f := wV) (0 : Int) bx30 ((k : Int) / 64) (by omega) (by omega)), (by omega), (congrArg (Value.int .i64) (tmodE (by omega) _)), (wu64 (by omega) (by omega)), (by omega), (congrArg (Value.int .u64) (shl_one (by omega) (by omega))), (congrArg (Value.int .u64) (or64 (by first | exact hst.ok.2 _ | exact oneW_W (by omega) (by omega)) (by first | exact hst.ok.2 _ | exact oneW_W (by omega) (by omega)))), (by omega), (by omega), trivial⟩ (fun act48 f47 => ?_)
   clear f43
   refine At.act f47 (storeArrM (f := wV) (t := 26) (b := w1.heap.size) (i := (k : Int) / 64) (x := orW (gI xs ((k : Int) / 64)) (oneW ((k : Int) % 64))) (v := .int .u64 (orW (gI xs ((k : Int) / 64)) (oneW ((k : Int) % 64)))) (by kernel_rfl) rfl rfl (by kernel_rfl) bx30 (by omega) (by omega)) ?_
   rintro d_ v_ w49 ⟨rfl, g50, bx51⟩
   refine ⟨_, rfl, fun act54 f53 => ?_⟩
   clear f47
   have hl52 : ((xs).set ((k : Int) / 64 : Int).toNat (orW (gI xs ((k : Int) / 64)) (oneW ((k : Int) % 64)))).length = (xs : List Int).length := List.length_set
   have szw49 := g50.size
   replace e25 := e25.gr g50 (fun k h => by injection h; omega)
   replace r28 := r28.gr g50 (fun k h => by injection h; omega)
   replace bx29 := bx29.gr g50 (fun h => by injection h; omega)
   clear bx30 g50
   refine At.done rfl ?_
   refine b_n ?_
   refine t_n ?_
   have f58 := f53.sub (r := [(4, .int .i64 (k)), (3, .pointer (some ⟨w1.heap.size, 0, none⟩)), (2, .pointer (some ⟨w.heap.size, 0, none⟩)), (0, .slice Ab lb.length cb)]) ⟨rfl, rfl, rfl, rfl, trivial⟩
   clear f53
   refine At.start ?_
   refine At.rd f58 3 [[], [.as_ (.int .i64 (k + 1))], []] [(4, .int .i64 (k + 1)), (10, .int .i64 (k + 1)), (9, .int .i64 (k))] [((.int .i64 (IntKind.i64.wrap (k + 1)) : Value) = .int .i64 (k + 1))] (by kernel_rfl) ⟨(w64 (by omega) (by omega)), trivial⟩ (fun act60 f59 => ?_)
   clear f58
   refine At.done rfl ?_
   refine t_n ?_
   have f61 := f59.sub (r := [(4, .int .i64 (k + 1)), (3, .pointer (some ⟨w1.heap.size, 0, none⟩)), (2, .pointer (some ⟨w.heap.size, 0, none⟩)), (0, .slice Ab lb.length cb)]) ⟨rfl, rfl, rfl, rfl, trivial⟩
   exact ⟨_, (by omega), (k + 1), (xs).set ((k : Int) / 64 : Int).toNat (orW (gI xs ((k : Int) / 64)) (oneW ((k : Int) % 64))), rfl, f61, e25, r28, bx29, bx51, (by omega), (by omega), (set_yes hst (by omega) (by omega) (by assumption)), (by rw [List.length_set]; assumption)⟩
  ·refine wp_skip ?_
   refine b_n ?_
   refine t_n ?_
   refine At.start ?_
   refine At.rd f43 3 [[], [.as_ (.int .i64 (k + 1))], []] [(4, .int .i64 (k + 1)), (10, .int .i64 (k + 1)), (9, .int .i64 (k))] [((.int .i64 (IntKind.i64.wrap (k + 1)) : Value) = .int .i64 (k + 1))] (by kernel_rfl) ⟨(w64 (by omega) (by omega)), trivial⟩ (fun act64 f63 => ?_)
   clear f43
   refine At.done rfl ?_
   refine t_n ?_
   have f65 := f63.sub (r := [(4, .int .i64 (k + 1)), (3, .pointer (some ⟨w1.heap.size, 0, none⟩)), (2, .pointer (some ⟨w.heap.size, 0, none⟩)), (0, .slice Ab lb.length cb)]) ⟨rfl, rfl, rfl, rfl, trivial⟩
   exact ⟨_, (by omega), (k + 1), xs, rfl, f65, e25, r28, bx29, bx30, (by omega), (by omega), (set_no hst (by assumption)), hst.ok.1⟩
 ·have q66 := of_decide_eq_false h36
  refine wp_exit ?_
  refine t_e ?_
  refine t_e ?_
  refine b_e ?_
  refine t_n ?_
  refine wp_seq ?_
  refine At.start ?_
  refine At.rd f34 1 [[.cs ((xs : List Int).map wV)]] [(27, .agg ((xs : List Int).map wV).toArray)] [(((xs : List Int).map wV).length = 4), (∀ (j : Nat) (v : Value), ((xs : List Int).map wV)[j]? = some v → w24.cell? ((⟨w1.heap.size, 0, none⟩ : Addr).add j) = some v)] (by kernel_rfl) ⟨((List.length_map _).trans (by assumption)), bx30.whole, trivial⟩ (fun act68 f67 => ?_)
  clear f34
  refine At.act f67 (storeBlk (t := 28) (b := w.heap.size) (n := 4) (cs' := ((xs : List Int).map wV)) (by kernel_rfl) (by kernel_rfl) ((List.length_map _).trans (by assumption)) oneW_ ((show ((xs : List Int).map wV).length = 4 from ((List.length_map _).trans (by assumption))).trans (show ((List.replicate 4 (0 : Int) : List Int).map wV).length = 4 from (by simp only [List.length_map, List.length_set, List.length_replicate, List.length_cons, List.length_nil]; first | done | assumption | exact from_len _ | exact of_len _ | exact ofZ_len _ | exact (ofW_ok _).1 | exact (fullW_W _).1 | exact (okW_with (by assumption)).1 | exact (okW_less (by assumption)).1 | exact put_len (from_len _) | exact orD_len _ _ | exact andD_len _ _ | exact minusD_len _ _ | exact fullD_len _ | (refine okLen ?_; (repeat (first | assumption | exact ofW_ok _ | exact fullW_W _ | apply okW_with | apply okW_less | refine okW_orS ?_ ?_ | refine okW_andS ?_ ?_ | refine okW_minusS ?_ ?_)); done) | omega | rfl)).symm) bx29) ?_
  rintro d_ v_ w69 ⟨rfl, g70, bx71⟩
  refine ⟨_, rfl, fun act73 f72 => ?_⟩
  clear f67
  have szw69 := g70.size
  replace e25 := e25.gr g70 (fun k h => by injection h; omega)
  replace r28 := r28.gr g70 (fun k h => by injection h; omega)
  replace bx30 := bx30.gr g70 (fun h => by injection h; omega)
  clear bx29 g70
  refine At.done rfl ?_
  refine t_n ?_
  refine wp_ret ?_
  refine retB_ f72 (sl := 2) (cs := ((xs : List Int).map wV)) (m := 4) rfl (by kernel_rfl) (by kernel_rfl) ((List.length_map _).trans (by assumption)) bx71 ?_
  exact ⟨_, rfl, e25, hst.ok, set_end hst (by omega)⟩

set_option maxHeartbeats 4000000 in
theorem step12_any {Ag0 Ag1 Ag2 : Option Addr} {cg0 cg1 cg2 : Nat} {g : GameL} {Ai : Option Addr} {ci : Nat} {li : List Bool} {Aa : Option Addr} {ca : Nat} {la : List Bool} {p i : Int} {w : World} (rg : RdG w 0 w.heap.size Ag0 Ag1 Ag2 cg0 cg1 cg2 g) (ri : RdR w 0 w.heap.size Ai li) (ra : RdR w 0 w.heap.size Aa la) (hG : RightG g) (hli : li.length = g.ow.length) (hla : la.length = g.ow.length) (hi0 : 0 ≤ i) (hi1 : i < (g.ow.length : Int)) :
    Calls Tryd.prog 32 #[.agg #[.slice Ag0 g.ow.length cg0, .slice Ag1 g.pr.length cg1, .slice Ag2 g.mv.length cg2], .slice Ai li.length ci, .int .i64 (p), .slice Aa la.length ca, .int .i64 (i)] w fun e w' => e = .returned (.bool (stepB g li p la i)) ∧ Ext w w' := by
 have hlg0 := rg.ow.len
 have hlg1 := rg.pr.len
 have hlg2 := rg.mv.len
 have hkg0 := rg.k0
 have hkg1 := rg.k1
 have hkg2 := rg.k2
 have hn1 := hG.n1
 have hpl := hG.pl
 have hml := hG.ml
 have hrl := row_len hG hi0 hi1
 refine enter_ (args := [.agg #[.slice Ag0 g.ow.length cg0, .slice Ag1 g.pr.length cg1, .slice Ag2 g.mv.length cg2], .slice Ai li.length ci, .int .i64 (p), .slice Aa la.length ca, .int .i64 (i)]) Tryd.func32 rfl Tryd.ntmps32 (Nat.le_of_ble_eq_true rfl) (fun act0 f0 => ?_)
 have e0 := Ext.refl w
 refine wp_seq ?_
 refine At.start ?_
 refine At.seq f0 1 [[]] [(5, .pointer (some ⟨w.heap.size, 0, none⟩))] (w.alloc (.cells #[.slice Ag0 g.ow.length cg0, .slice Ag1 g.pr.length cg1, .slice Ag2 g.mv.length cg2] 25 (0, 0))) [] (by kernel_rfl) trivial (fun act4 w1 hw2 f3 => ?_)
 clear f0
 have g5 := gr_alloc hw2
 have szw1 := g5.size
 replace e0 := e0.gr g5 no_row
 have r8 := rg.gr g5 (fun _ h => by cases h)
 clear rg
 have r9 := ri.gr g5 (fun _ h => by cases h)
 clear ri
 have r10 := ra.gr g5 (fun _ h => by cases h)
 clear ra
 have bx11 : Bx w1 (w.heap.size) [.slice Ag0 g.ow.length cg0, .slice Ag1 g.pr.length cg1, .slice Ag2 g.mv.length cg2] 25 := Bx.new hw2
 have := bx11.lt
 clear g5 hw2
 refine At.rd f3 1 [[]] [(10, .bool false)] [] (by kernel_rfl) trivial (fun act13 f12 => ?_)
 clear f3
 refine At.done rfl ?_
 refine t_n ?_
 refine wp_seq ?_
 refine At.start ?_
 refine At.rd f12 1 [[]] [(11, .int .i64 (0))] [] (by kernel_rfl) trivial (fun act15 f14 => ?_)
 clear f12
 refine At.done rfl ?_
 refine t_n ?_
 refine wp_seq ?_
 refine At.start ?_
 refine At.rd f14 1 [[]] [(12, .int .i64 (0))] [] (by kernel_rfl) trivial (fun act17 f16 => ?_)
 clear f14
 refine At.done rfl ?_
 refine t_n ?_
 refine wp_seq ?_
 refine wp_seq ?_
 refine At.start ?_
 refine At.rd f16 1 [[]] [(13, .int .i64 (0))] [] (by kernel_rfl) trivial (fun act19 f18 => ?_)
 clear f16
 refine At.done rfl ?_
 refine t_n ?_
 refine wp_block ?_
 have f20 := f18.sub (r := [(13, .int .i64 (0)), (11, .int .i64 (0)), (12, .int .i64 (0)), (10, .bool false), (5, .pointer (some ⟨w.heap.size, 0, none⟩)), (1, .slice Ai li.length ci), (2, .int .i64 (p)), (3, .slice Aa la.length ca), (4, .int .i64 (i))]) ⟨rfl, rfl, rfl, rfl, rfl, rfl, rfl, rfl, rfl, trivial⟩
 refine loop_g (fun (m_ : Nat) a_ w_ => ∃ (q : Int) (c1 : Int) (c2 : Int), m_ = (((gL g.mv i).length : Int) - q).toNat ∧ (Frm 61 a_ [(13, .int .i64 (q)), (11, .int .i64 (c1)), (12, .int .i64 (c2)), (10, .bool false), (5, .pointer (some ⟨w.heap.size, 0, none⟩)), (1, .slice Ai li.length ci), (2, .int .i64 (p)), (3, .slice Aa la.length ca), (4, .int .i64 (i))]) ∧ (Ext w w_) ∧ (RdG w_ 0 w.heap.size Ag0 Ag1 Ag2 cg0 cg1 cg2 g) ∧ (RdR w_ 0 w.heap.size Ai (li : List Bool)) ∧ (RdR w_ 0 w.heap.size Aa (la : List Bool)) ∧ (Bx w_ (w.heap.size) [.slice Ag0 g.ow.length cg0, .slice Ag1 g.pr.length cg1, .slice Ag2 g.mv.length cg2] 25) ∧ (0 ≤ q) ∧ (q ≤ ((gL g.mv i).length : Int)) ∧ (c1 = cM ((gL g.mv i).take q.toNat) (gB li)) ∧ (c2 = cM ((gL g.mv i).take q.toNat) (fun x => gB li x && gB la x)) ∧ (0 ≤ c1) ∧ (c1 ≤ q) ∧ (0 ≤ c2) ∧ (c2 ≤ q)) _ ⟨0, 0, 0, rfl, f20, e0, r8, r9, r10, bx11, (by omega), (Int.natCast_nonneg _), rfl, rfl, (by omega), (by omega), (by omega), (by omega)⟩ ?_
 clear f20 f18
 clear r8
 clear r9
 clear r10
 clear bx11
 clear e0
 intro m_ act21 w22 ⟨q, c1, c2, hm24, f25, e23, r26, r27, r28, bx29, i30, i31, hc1, hc2, i32, i33, i34, i35⟩
 have szw22 := e23.size
 have := bx29.lt
 refine wp_seq ?_
 refine wp_seq ?_
 refine At.start ?_
 obtain ⟨ad36, R39, C40, hA37, _, _, hc38, hC41, r42⟩ := RdII.get r26.mv (i) (by omega) (by omega)
 have hl43 := r42.len
 refine At.rd f25 8 [[], [], [.ld (.slice Ag2 g.mv.length cg2)], [], [.ad ad36], [.ld (.slice R39 ((gL g.mv (i)).length) C40)], [], []] [(22, .bool (decide ((q : Int) < (((gL g.mv (i)).length : Nat) : Int)))), (21, .int .i64 ((((gL g.mv (i)).length : Nat) : Int))), (20, .slice R39 ((gL g.mv (i)).length) C40), (19, .pointer (some (ad36.add ((i : Int).toNat * 1)))), (18, .int .i64 (i)), (17, .slice Ag2 g.mv.length cg2), (16, .pointer (some ⟨w.heap.size, 2, none⟩)), (15, .int .i64 (q))] [(w22.cell? ⟨w.heap.size, 2, none⟩ = some (.slice Ag2 g.mv.length cg2)), (Ag2 = some ad36), (0 ≤ (i : Int)), ((i : Int) < (g.mv.length : Nat)), (w22.cell? (ad36.add ((i : Int).toNat * 1)) = some (.slice R39 ((gL g.mv (i)).length) C40))] (by kernel_rfl) ⟨(bx29.cell (i := 2) rfl), hA37, (by omega), (by omega), hc38, trivial⟩ (fun act46 f45 => ?_)
 clear f25
 refine At.done rfl ?_
 refine t_n ?_
 refine cond_S f45 (t := decide ((q : Int) < (((gL g.mv (i)).length : Nat) : Int))) rfl (fun h47 => ?_) (fun h47 => ?_)
 ·have q48 := of_decide_eq_true h47
  refine wp_skip ?_
  refine t_n ?_
  refine wp_seq ?_
  refine wp_block ?_
  refine wp_seq ?_
  refine At.start ?_
  obtain ⟨ad49, R52, C53, hA50, _, _, hc51, hC54, r55⟩ := RdII.get r26.mv (i) (by omega) (by omega)
  have hl56 := r55.len
  obtain ⟨ad58, hA59, _, _, hc60⟩ := RdI.get r55 (q) (by omega) (by omega)
  refine At.rd f45 9 [[], [.ld (.slice Ag2 g.mv.length cg2)], [], [.ad ad49], [.ld (.slice R52 ((gL g.mv (i)).length) C53)], [], [.ad ad58], [.ld (.int .i64 (gI (gL g.mv (i)) (q)))], []] [(14, .int .i64 (gI (gL g.mv (i)) (q))), (32, .int .i64 (gI (gL g.mv (i)) (q))), (31, .pointer (some (ad58.add ((q : Int).toNat * 1)))), (30, .int .i64 (q)), (29, .slice R52 ((gL g.mv (i)).length) C53), (28, .pointer (some (ad49.add ((i : Int).toNat * 1)))), (27, .int .i64 (i)), (26, .slice Ag2 g.mv.length cg2), (25, .pointer (some ⟨w.heap.size, 2, none⟩))] [(w22.cell? ⟨w.heap.size, 2, none⟩ = some (.slice Ag2 g.mv.length cg2)), (Ag2 = some ad49), (0 ≤ (i : Int)), ((i : Int) < (g.mv.length : Nat)), (w22.cell? (ad49.add ((i : Int).toNat * 1)) = some (.slice R52 ((gL g.mv (i)).length) C53)), (R52 = some ad58), (0 ≤ (q : Int)), ((q : Int) < ((gL g.mv (i)).length : Nat)), (w22.cell? (ad58.add ((q : Int).toNat * 1)) = some (.int .i64 (gI (gL g.mv (i)) (q))))] (by kernel_rfl) ⟨(bx29.cell (i := 2) rfl), hA50, (by omega), (by omega), hc51, hA59, (by omega), (by omega), hc60, trivial⟩ (fun act62 f61 => ?_)
  clear f45
  refine At.done rfl ?_
  refine t_n ?_
  have f63 := f61.sub (r := [(14, .int .i64 (gI (gL g.mv (i)) (q))), (13, .int .i64 (q)), (11, .int .i64 (c1)), (12, .int .i64 (c2)), (10, .bool false), (5, .pointer (some ⟨w.heap.size, 0, none⟩)), (1, .slice Ai li.length ci), (2, .int .i64 (p)), (3, .slice Aa la.length ca), (4, .int .i64 (i))]) ⟨rfl, rfl, rfl, rfl, rfl, rfl, rfl, rfl, rfl, rfl, trivial⟩
  clear f61
  refine wp_seq ?_
  have hmk := hG.mv i hi0 hi1 q (by omega) (by omega)
  refine At.start ?_
  obtain ⟨ad64, hA65, hb68, hc67, hc66⟩ := r27.get (gI (gL g.mv (i)) (q)) (by omega) (by omega) (sz := 1) rfl
  refine At.rd f63 4 [[], [], [.ad ad64], [.ld (.bool (gB li (gI (gL g.mv (i)) (q))))]] [(36, .bool (gB li (gI (gL g.mv (i)) (q)))), (35, .pointer (some (ad64.add ((gI (gL g.mv (i)) (q) : Int).toNat * 1)))), (34, .int .i64 (gI (gL g.mv (i)) (q))), (33, .slice Ai li.length ci)] [(Ai = some ad64), (0 ≤ (gI (gL g.mv (i)) (q) : Int)), ((gI (gL g.mv (i)) (q) : Int) < (li.length : Nat)), (w22.cell? (ad64.add ((gI (gL g.mv (i)) (q) : Int).toNat * 1)) = some (.bool (gB li (gI (gL g.mv (i)) (q)))))] (by kernel_rfl) ⟨hA65, (by omega), (by omega), hc67, trivial⟩ (fun act70 f69 => ?_)
  clear f63
  refine At.done rfl ?_
  refine t_n ?_
  refine cond_S f69 (t := gB li (gI (gL g.mv (i)) (q))) rfl (fun h71 => ?_) (fun h71 => ?_)
  ·refine wp_seq ?_
   refine At.start ?_
   refine At.rd f69 3 [[], [.as_ (.int .i64 (c1 + 1))], []] [(11, .int .i64 (c1 + 1)), (38, .int .i64 (c1 + 1)), (37, .int .i64 (c1))] [((.int .i64 (IntKind.i64.wrap (c1 + 1)) : Value) = .int .i64 (c1 + 1))] (by kernel_rfl) ⟨(w64 (by omega) (by omega)), trivial⟩ (fun act74 f73 => ?_)
   clear f69
   refine At.done rfl ?_
   refine t_n ?_
   refine wp_seq ?_
   refine At.start ?_
   obtain ⟨ad75, hA76, hb79, hc78, hc77⟩ := r28.get (gI (gL g.mv (i)) (q)) (by omega) (by omega) (sz := 1) rfl
   refine At.rd f73 4 [[], [], [.ad ad75], [.ld (.bool (gB la (gI (gL g.mv (i)) (q))))]] [(42, .bool (gB la (gI (gL g.mv (i)) (q)))), (41, .pointer (some (ad75.add ((gI (gL g.mv (i)) (q) : Int).toNat * 1)))), (40, .int .i64 (gI (gL g.mv (i)) (q))), (39, .slice Aa la.length ca)] [(Aa = some ad75), (0 ≤ (gI (gL g.mv (i)) (q) : Int)), ((gI (gL g.mv (i)) (q) : Int) < (la.length : Nat)), (w22.cell? (ad75.add ((gI (gL g.mv (i)) (q) : Int).toNat * 1)) = some (.bool (gB la (gI (gL g.mv (i)) (q)))))] (by kernel_rfl) ⟨hA76, (by omega), (by omega), hc78, trivial⟩ (fun act81 f80 => ?_)
   clear f73
   refine At.done rfl ?_
   refine t_n ?_
   refine cond_S f80 (t := gB la (gI (gL g.mv (i)) (q))) rfl (fun h82 => ?_) (fun h82 => ?_)
   ·refine At.start ?_
    refine At.rd f80 3 [[], [.as_ (.int .i64 (c2 + 1))], []] [(12, .int .i64 (c2 + 1)), (44, .int .i64 (c2 + 1)), (43, .int .i64 (c2))] [((.int .i64 (IntKind.i64.wrap (c2 + 1)) : Value) = .int .i64 (c2 + 1))] (by kernel_rfl) ⟨(w64 (by omega) (by omega)), trivial⟩ (fun act85 f84 => ?_)
    clear f80
    refine At.done rfl ?_
    refine b_n ?_
    refine t_n ?_
    refine At.start ?_
    refine At.rd f84 3 [[], [.as_ (.int .i64 (q + 1))], []] [(13, .int .i64 (q + 1)), (24, .int .i64 (q + 1)), (23, .int .i64 (q))] [((.int .i64 (IntKind.i64.wrap (q + 1)) : Value) = .int .i64 (q + 1))] (by kernel_rfl) ⟨(w64 (by omega) (by omega)), trivial⟩ (fun act87 f86 => ?_)
    clear f84
    refine At.done rfl ?_
    refine t_n ?_
    have f88 := f86.sub (r := [(13, .int .i64 (q + 1)), (11, .int .i64 (c1 + 1)), (12, .int .i64 (c2 + 1)), (10, .bool false), (5, .pointer (some ⟨w.heap.size, 0, none⟩)), (1, .slice Ai li.length ci), (2, .int .i64 (p)), (3, .slice Aa la.length ca), (4, .int .i64 (i))]) ⟨rfl, rfl, rfl, rfl, rfl, rfl, rfl, rfl, rfl, trivial⟩
    exact ⟨_, (by omega), (q + 1), c1 + 1, c2 + 1, rfl, f88, e23, r26, r27, r28, bx29, (by omega), (by omega), (by rw [take_cM (by omega) (by omega), ← hc1]; first | (rw [if_pos (by assumption)]; done) | (rw [if_neg (by simp_all)]; omega)), (by rw [take_cM (by omega) (by omega), ← hc2]; first | (rw [if_pos (by simp_all)]; done) | (rw [if_neg (by simp_all)]; omega)), (by omega), (by omega), (by omega), (by omega)⟩
   ·refine wp_skip ?_
    refine b_n ?_
    refine t_n ?_
    refine At.start ?_
    refine At.rd f80 3 [[], [.as_ (.int .i64 (q + 1))], []] [(13, .int .i64 (q + 1)), (24, .int .i64 (q + 1)), (23, .int .i64 (q))] [((.int .i64 (IntKind.i64.wrap (q + 1)) : Value) = .int .i64 (q + 1))] (by kernel_rfl) ⟨(w64 (by omega) (by omega)), trivial⟩ (fun act91 f90 => ?_)
    clear f80
    refine At.done rfl ?_
    refine t_n ?_
    have f92 := f90.sub (r := [(13, .int .i64 (q + 1)), (11, .int .i64 (c1 + 1)), (12, .int .i64 (c2)), (10, .bool false), (5, .pointer (some ⟨w.heap.size, 0, none⟩)), (1, .slice Ai li.length ci), (2, .int .i64 (p)), (3, .slice Aa la.length ca), (4, .int .i64 (i))]) ⟨rfl, rfl, rfl, rfl, rfl, rfl, rfl, rfl, rfl, trivial⟩
    exact ⟨_, (by omega), (q + 1), c1 + 1, c2, rfl, f92, e23, r26, r27, r28, bx29, (by omega), (by omega), (by rw [take_cM (by omega) (by omega), ← hc1]; first | (rw [if_pos (by assumption)]; done) | (rw [if_neg (by simp_all)]; omega)), (by rw [take_cM (by omega) (by omega), ← hc2]; first | (rw [if_pos (by simp_all)]; done) | (rw [if_neg (by simp_all)]; omega)), (by omega), (by omega), (by omega), (by omega)⟩
  ·refine wp_skip ?_
   refine b_n ?_
   refine t_n ?_
   refine At.start ?_
   refine At.rd f69 3 [[], [.as_ (.int .i64 (q + 1))], []] [(13, .int .i64 (q + 1)), (24, .int .i64 (q + 1)), (23, .int .i64 (q))] [((.int .i64 (IntKind.i64.wrap (q + 1)) : Value) = .int .i64 (q + 1))] (by kernel_rfl) ⟨(w64 (by omega) (by omega)), trivial⟩ (fun act95 f94 => ?_)
   clear f69
   refine At.done rfl ?_
   refine t_n ?_
   have f96 := f94.sub (r := [(13, .int .i64 (q + 1)), (11, .int .i64 (c1)), (12, .int .i64 (c2)), (10, .bool false), (5, .pointer (some ⟨w.heap.size, 0, none⟩)), (1, .slice Ai li.length ci), (2, .int .i64 (p)), (3, .slice Aa la.length ca), (4, .int .i64 (i))]) ⟨rfl, rfl, rfl, rfl, rfl, rfl, rfl, rfl, rfl, trivial⟩
   exact ⟨_, (by omega), (q + 1), c1, c2, rfl, f96, e23, r26, r27, r28, bx29, (by omega), (by omega), (by rw [take_cM (by omega) (by omega), ← hc1]; first | (rw [if_pos (by assumption)]; done) | (rw [if_neg (by simp_all)]; omega)), (by rw [take_cM (by omega) (by omega), ← hc2]; first | (rw [if_pos (by simp_all)]; done) | (rw [if_neg (by simp_all)]; omega)), (by omega), (by omega), (by omega), (by omega)⟩
 ·have q97 := of_decide_eq_false h47
  refine wp_exit ?_
  refine t_e ?_
  refine t_e ?_
  refine b_e ?_
  refine t_n ?_
  refine wp_seq ?_
  refine wp_seq ?_
  refine At.start ?_
  obtain ⟨ad98, hA99, _, _, hc100⟩ := RdI.get r26.ow (i) (by omega) (by omega)
  refine At.rd f45 7 [[], [.ld (.slice Ag0 g.ow.length cg0)], [], [.ad ad98], [.ld (.int .i64 (gI g.ow (i)))], [], []] [(51, .bool ((gI g.ow (i) : Int) == p)), (50, .int .i64 (p)), (49, .int .i64 (gI g.ow (i))), (48, .pointer (some (ad98.add ((i : Int).toNat * 1)))), (47, .int .i64 (i)), (46, .slice Ag0 g.ow.length cg0), (45, .pointer (some ⟨w.heap.size, 0, none⟩))] [(w22.cell? ⟨w.heap.size, 0, none⟩ = some (.slice Ag0 g.ow.length cg0)), (Ag0 = some ad98), (0 ≤ (i : Int)), ((i : Int) < (g.ow.length : Nat)), (w22.cell? (ad98.add ((i : Int).toNat * 1)) = some (.int .i64 (gI g.ow (i))))] (by kernel_rfl) ⟨(bx29.cell (i := 0) rfl), hA99, (by omega), (by omega), hc100, trivial⟩ (fun act102 f101 => ?_)
  clear f45
  refine At.done rfl ?_
  refine t_n ?_
  have f103 := f101.sub (r := [(51, .bool ((gI g.ow (i) : Int) == p)), (11, .int .i64 (c1)), (12, .int .i64 (c2))]) ⟨rfl, rfl, rfl, trivial⟩
  clear f101
  refine cond_S f103 (t := (gI g.ow (i) : Int) == p) rfl (fun h104 => ?_) (fun h104 => ?_)
  ·have q105 := eq_of_beq h104
   refine wp_seq ?_
   refine At.start ?_
   refine At.rd f103 3 [[], [], []] [(10, .bool (decide ((c2 : Int) > 0))), (53, .bool (decide ((c2 : Int) > 0))), (52, .int .i64 (c2))] [] (by kernel_rfl) trivial (fun act107 f106 => ?_)
   clear f103
   refine At.done rfl ?_
   refine t_n ?_
   refine wp_ret ?_
   refine t_r ?_
   refine ret_ f106 [] [.bool (decide ((c2 : Int) > 0))] [] (by kernel_rfl) trivial ?_
   exact ⟨ret_eq (congrArg Value.bool (step_val (by omega) (by omega) hc1 hc2 (by first | exact .inl ⟨by omega, rfl⟩ | exact .inr (.inl ⟨by omega, by assumption, rfl⟩) | exact .inr (.inr ⟨by omega, by omega, rfl⟩)))), e23⟩
  ·have q108 := ne_of_beq_false h104
   refine wp_skip ?_
   refine t_n ?_
   refine wp_seq ?_
   refine At.start ?_
   rcases Bool.eq_false_or_eq_true (decide ((c1 : Int) > 0)) with h109 | h109
   ·have q110 := of_decide_eq_true h109
    refine At.rd f103 8 [[], [], [.as_ (.bool true)], [], [], [], [], []] [(10, .bool ((c2 : Int) == c1)), (60, .bool ((c2 : Int) == c1)), (59, .bool ((c2 : Int) == c1)), (58, .int .i64 (c1)), (57, .int .i64 (c2)), (56, .bool true), (55, .bool (decide ((c1 : Int) > 0))), (54, .int .i64 (c1))] [((.bool (decide ((c1 : Int) > 0)) : Value) = .bool true)] (by kernel_rfl) ⟨(congrArg Value.bool h109), trivial⟩ (fun act112 f111 => ?_)
    clear f103
    refine At.done rfl ?_
    refine t_n ?_
    refine wp_ret ?_
    refine ret_ f111 [] [.bool ((c2 : Int) == c1)] [] (by kernel_rfl) trivial ?_
    exact ⟨ret_eq (congrArg Value.bool (step_val (by omega) (by omega) hc1 hc2 (by first | exact .inl ⟨by omega, rfl⟩ | exact .inr (.inl ⟨by omega, by assumption, rfl⟩) | exact .inr (.inr ⟨by omega, by omega, rfl⟩)))), e23⟩
   ·have q113 := of_decide_eq_false h109
    refine At.rd f103 8 [[], [], [.as_ (.bool false)], [], [], [], [], []] [(10, .bool false), (60, .bool false), (59, undef), (58, undef), (57, undef), (56, .bool false), (55, .bool (decide ((c1 : Int) > 0))), (54, .int .i64 (c1))] [((.bool (decide ((c1 : Int) > 0)) : Value) = .bool false)] (by kernel_rfl) ⟨(congrArg Value.bool h109), trivial⟩ (fun act115 f114 => ?_)
    clear f103
    refine At.done rfl ?_
    refine t_n ?_
    refine wp_ret ?_
    refine ret_ f114 [] [.bool false] [] (by kernel_rfl) trivial ?_
    exact ⟨ret_eq (congrArg Value.bool (step_val (by omega) (by omega) hc1 hc2 (by first | exact .inl ⟨by omega, rfl⟩ | exact .inr (.inl ⟨by omega, by assumption, rfl⟩) | exact .inr (.inr ⟨by omega, by omega, rfl⟩)))), e23⟩

end Go.Proofs.YtkpljmalbmcdfaaDoor
