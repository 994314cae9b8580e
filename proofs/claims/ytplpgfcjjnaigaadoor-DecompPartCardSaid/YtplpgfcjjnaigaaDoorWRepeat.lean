/-
  A walk of a Go function, printed by a program of this repo. Conditions: what the theorems name.
-/
import Derived.Test.YtplpgfcjjnaigaaDoorFc
import Derived.Test.YtplpgfcjjnaigaaDoorLem
set_option linter.unusedVariables false
set_option linter.unusedSimpArgs false
namespace Go.Proofs.YtplpgfcjjnaigaaDoor
open Go Go.RowKit

set_option maxHeartbeats 4000000 in
theorem mul64_any {n : Int} {w : World} (h0 : 0 ≤ n) (h1 : n < 4294967296) :
    Calls Tryd.prog 61 #[.int .u64 (1), .int .u64 (n)] w fun e w' => e = .returned (.tuple #[.int .u64 0, .int .u64 n]) ∧ Ext w w' := by
 refine enter_ (args := [.int .u64 (1), .int .u64 (n)]) Tryd.func61 rfl Tryd.ntmps61 (Nat.le_of_ble_eq_true rfl) (fun act0 f0 => ?_)
 have e0 : Ext w w := Ext.refl w
 refine wp_seq ?_
 refine At.start ?_
 refine At.rd f0 2 [[], []] [(5, .int .u64 (0)), (4, .int .u64 (0))] [] (by kernel_rfl) trivial (fun act2 f1 => ?_)
 clear f0
 refine At.done rfl ?_
 refine t_n ?_
 refine wp_seq ?_
 refine At.start ?_
 refine At.rd f1 3 [[], [.as_ (.int .u64 (1))], []] [(6, .int .u64 (1)), (15, .int .u64 (1)), (14, .int .u64 (1))] [((.int .u64 (IntKind.u64.wrap ((BitVec.ofInt 64 1 &&& BitVec.ofInt 64 4294967295).toNat : Int)) : Value) = .int .u64 (1))] (by kernel_rfl) ⟨(congrArg (Value.int .u64) (by decide +kernel)), trivial⟩ (fun act4 f3 => ?_)
 clear f1
 refine At.done rfl ?_
 refine t_n ?_
 refine wp_seq ?_
 refine At.start ?_
 refine At.rd f3 3 [[], [.as_ (.int .u64 (0))], []] [(7, .int .u64 (0)), (17, .int .u64 (0)), (16, .int .u64 (1))] [(0 ≤ (32 : Int)), ((.int .u64 ((1 : Int).fdiv (2 ^ (min (32 : Int).toNat IntKind.u64.bits))) : Value) = .int .u64 (0))] (by kernel_rfl) ⟨(by omega), (congrArg (Value.int .u64) (by decide +kernel)), trivial⟩ (fun act6 f5 => ?_)
 clear f3
 refine At.done rfl ?_
 refine t_n ?_
 refine wp_seq ?_
 refine At.start ?_
 refine At.rd f5 3 [[], [.as_ (.int .u64 (n))], []] [(8, .int .u64 (n)), (19, .int .u64 (n)), (18, .int .u64 (n))] [((.int .u64 (IntKind.u64.wrap ((BitVec.ofInt 64 n &&& BitVec.ofInt 64 4294967295).toNat : Int)) : Value) = .int .u64 (n))] (by kernel_rfl) ⟨(congrArg (Value.int .u64) (mask32 h0 h1)), trivial⟩ (fun act8 f7 => ?_)
 clear f5
 refine At.done rfl ?_
 refine t_n ?_
 refine wp_seq ?_
 refine At.start ?_
 refine At.rd f7 3 [[], [.as_ (.int .u64 (0))], []] [(9, .int .u64 (0)), (21, .int .u64 (0)), (20, .int .u64 (n))] [(0 ≤ (32 : Int)), ((.int .u64 ((n : Int).fdiv (2 ^ (min (32 : Int).toNat IntKind.u64.bits))) : Value) = .int .u64 (0))] (by kernel_rfl) ⟨(by omega), (congrArg (Value.int .u64) (shr32 h0 h1)), trivial⟩ (fun aJ f9 => ?_)
 clear f7
 refine At.done rfl ?_
 refine t_n ?_
 refine wp_seq ?_
 refine At.start ?_
 refine At.rd f9 4 [[], [], [.as_ (.int .u64 (n))], []] [(10, .int .u64 (n)), (24, .int .u64 (n)), (23, .int .u64 (n)), (22, .int .u64 (1))] [((.int .u64 (IntKind.u64.wrap (1 * n)) : Value) = .int .u64 (n))] (by kernel_rfl) ⟨(congrArg (Value.int .u64) (wrapM (by omega) h0 h1)), trivial⟩ (fun aK aA => ?_)
 clear f9
 refine At.done rfl ?_
 refine t_n ?_
 refine wp_seq ?_
 refine At.start ?_
 refine At.rd aA 7 [[], [], [.as_ (.int .u64 (0))], [], [.as_ (.int .u64 (0))], [.as_ (.int .u64 (0))], []] [(11, .int .u64 (0)), (30, .int .u64 (0)), (29, .int .u64 (0)), (28, .int .u64 (n)), (27, .int .u64 (0)), (26, .int .u64 (n)), (25, .int .u64 (0))] [((.int .u64 (IntKind.u64.wrap (0 * n)) : Value) = .int .u64 (0)), (0 ≤ (32 : Int)), ((.int .u64 ((n : Int).fdiv (2 ^ (min (32 : Int).toNat IntKind.u64.bits))) : Value) = .int .u64 (0)), ((.int .u64 (IntKind.u64.wrap (0 + 0)) : Value) = .int .u64 (0))] (by kernel_rfl) ⟨(congrArg (Value.int .u64) (wrapM (by omega) (by omega) (by omega))), (by omega), (congrArg (Value.int .u64) (shr32 h0 h1)), (congrArg (Value.int .u64) (by decide +kernel)), trivial⟩ (fun aL aB => ?_)
 clear aA
 refine At.done rfl ?_
 refine t_n ?_
 have aC := aB.sub (r := [(11, .int .u64 (0)), (9, .int .u64 (0)), (7, .int .u64 (0)), (6, .int .u64 (1)), (0, .int .u64 (1)), (1, .int .u64 (n))]) ⟨rfl, rfl, rfl, rfl, rfl, rfl, trivial⟩
 clear aB
 refine wp_seq ?_
 refine At.start ?_
 refine At.rd aC 3 [[], [.as_ (.int .u64 (0))], []] [(12, .int .u64 (0)), (32, .int .u64 (0)), (31, .int .u64 (0))] [((.int .u64 (IntKind.u64.wrap ((BitVec.ofInt 64 0 &&& BitVec.ofInt 64 4294967295).toNat : Int)) : Value) = .int .u64 (0))] (by kernel_rfl) ⟨(congrArg (Value.int .u64) (by decide +kernel)), trivial⟩ (fun aM aD => ?_)
 clear aC
 refine At.done rfl ?_
 refine t_n ?_
 refine wp_seq ?_
 refine At.start ?_
 refine At.rd aD 3 [[], [.as_ (.int .u64 (0))], []] [(13, .int .u64 (0)), (34, .int .u64 (0)), (33, .int .u64 (0))] [(0 ≤ (32 : Int)), ((.int .u64 ((0 : Int).fdiv (2 ^ (min (32 : Int).toNat IntKind.u64.bits))) : Value) = .int .u64 (0))] (by kernel_rfl) ⟨(by omega), (congrArg (Value.int .u64) (by decide +kernel)), trivial⟩ (fun aN aE => ?_)
 clear aD
 refine At.done rfl ?_
 refine t_n ?_
 refine wp_seq ?_
 refine At.start ?_
 refine At.rd aE 6 [[], [], [], [.as_ (.int .u64 (0))], [.as_ (.int .u64 (0))], []] [(12, .int .u64 (0)), (39, .int .u64 (0)), (38, .int .u64 (0)), (37, .int .u64 (0)), (36, .int .u64 (1)), (35, .int .u64 (0))] [((.int .u64 (IntKind.u64.wrap (1 * 0)) : Value) = .int .u64 (0)), ((.int .u64 (IntKind.u64.wrap (0 + 0)) : Value) = .int .u64 (0))] (by kernel_rfl) ⟨(congrArg (Value.int .u64) (by decide +kernel)), (congrArg (Value.int .u64) (by decide +kernel)), trivial⟩ (fun aO aF => ?_)
 clear aE
 refine At.done rfl ?_
 refine t_n ?_
 refine wp_seq ?_
 refine At.start ?_
 refine At.rd aF 9 [[], [], [.as_ (.int .u64 (0))], [], [.as_ (.int .u64 (0))], [], [.as_ (.int .u64 (0))], [.as_ (.int .u64 (0))], []] [(4, .int .u64 (0)), (47, .int .u64 (0)), (46, .int .u64 (0)), (45, .int .u64 (0)), (44, .int .u64 (0)), (43, .int .u64 (0)), (42, .int .u64 (0)), (41, .int .u64 (0)), (40, .int .u64 (0))] [((.int .u64 (IntKind.u64.wrap (0 * 0)) : Value) = .int .u64 (0)), ((.int .u64 (IntKind.u64.wrap (0 + 0)) : Value) = .int .u64 (0)), (0 ≤ (32 : Int)), ((.int .u64 ((0 : Int).fdiv (2 ^ (min (32 : Int).toNat IntKind.u64.bits))) : Value) = .int .u64 (0)), ((.int .u64 (IntKind.u64.wrap (0 + 0)) : Value) = .int .u64 (0))] (by kernel_rfl) ⟨(congrArg (Value.int .u64) (by decide +kernel)), (congrArg (Value.int .u64) (by decide +kernel)), (by omega), (congrArg (Value.int .u64) (by decide +kernel)), (congrArg (Value.int .u64) (by decide +kernel)), trivial⟩ (fun aP aG => ?_)
 clear aF
 refine At.done rfl ?_
 refine t_n ?_
 have aH := aG.sub (r := [(4, .int .u64 (0)), (0, .int .u64 (1)), (1, .int .u64 (n))]) ⟨rfl, rfl, rfl, trivial⟩; clear aG
 refine wp_seq ?_
 refine At.start ?_
 refine At.rd aH 4 [[], [], [.as_ (.int .u64 (n))], []] [(5, .int .u64 (n)), (50, .int .u64 (n)), (49, .int .u64 (n)), (48, .int .u64 (1))] [((.int .u64 (IntKind.u64.wrap (1 * n)) : Value) = .int .u64 (n))] (by kernel_rfl) ⟨(congrArg (Value.int .u64) (wrapM (by omega) h0 h1)), trivial⟩ (fun aQ aI => ?_)
 clear aH
 refine At.done rfl ?_
 refine t_n ?_
 refine wp_ret ?_
 refine ret_ aI [] [.int .u64 (0), .int .u64 (n)] [] (by kernel_rfl) trivial ?_
 exact ⟨rfl, e0⟩

set_option maxHeartbeats 4000000 in
theorem mul_any {n : Int} {w : World} (h0 : 0 ≤ n) (h1 : n < 4294967296) :
    Calls Tryd.prog 55 #[.int .u64 (1), .int .u64 (n)] w fun e w' => e = .returned (.tuple #[.int .u64 0, .int .u64 n]) ∧ Ext w w' := by
 refine enter_ (args := [.int .u64 (1), .int .u64 (n)]) Tryd.func55 rfl Tryd.ntmps55 (Nat.le_of_ble_eq_true rfl) (fun act0 f0 => ?_)
 have e0 : Ext w w := Ext.refl w
 refine wp_seq ?_
 refine At.start ?_
 refine At.rd f0 2 [[], []] [(5, .int .u64 (0)), (4, .int .u64 (0))] [] (by kernel_rfl) trivial (fun act2 f1 => ?_)
 clear f0
 refine At.done rfl ?_
 refine t_n ?_
 refine wp_seq ?_
 refine cond_F f1 rfl ?_
 refine wp_skip ?_
 refine t_n ?_
 refine wp_seq ?_
 refine At.start ?_
 refine At.rd f1 2 [[], []] [(24, .int .u64 (n)), (23, .int .u64 (1))] [] (by kernel_rfl) trivial (fun act4 f3 => ?_)
 clear f1
 refine At.call f3 61 #[.int .u64 (1), .int .u64 (n)] (some 25) (by kernel_rfl) (mul64_any (n := n) (by omega) (by omega)) ?_
 rintro e_ w5 ⟨rfl, he⟩
 refine ⟨_, rfl, _, rfl, fun act6 f7 => ?_⟩
 clear f3; have g8 := gr_ext he; have := g8.size; replace e0 := e0.gn g8; clear g8 he
 refine At.rd f7 5 [[], [], [], [], []] [(9, .int .u64 (n)), (8, .int .u64 (0)), (27, .int .u64 (n)), (26, .int .u64 (0)), (22, .tuple #[.int .u64 (0), .int .u64 (n)])] [] (by kernel_rfl) trivial (fun aC aA => ?_)
 clear f7
 refine At.done rfl ?_
 refine t_n ?_
 refine wp_seq ?_
 refine At.start ?_
 refine At.rd aA 4 [[], [], [], []] [(5, .int .u64 (n)), (4, .int .u64 (0)), (29, .int .u64 (n)), (28, .int .u64 (0))] [] (by kernel_rfl) trivial (fun aD aB => ?_)
 clear aA
 refine At.done rfl ?_
 refine t_n ?_
 refine wp_ret ?_
 refine ret_ aB [] [.int .u64 (0), .int .u64 (n)] [] (by kernel_rfl) trivial ?_
 exact ⟨rfl, e0⟩

set_option maxHeartbeats 4000000 in
theorem repeat_any {Aa : Option Addr} {ca : Nat} {la : List Int} {n : Int} {w : World} (ra : RdI w 0 w.heap.size Aa la) (hla1 : la.length = 1) (h0 : 0 ≤ n) (h1 : n ≤ 256) :
    Calls Tryd.prog 36 #[.slice Aa la.length ca, .int .i64 (n)] w fun e w' => ∃ A c, e = .returned (.slice A (List.replicate n.toNat (gI la 0)).length c) ∧ Ext w w' ∧ OwnR w' (Sx w.heap.size []) A c 3 (List.replicate n.toNat (gI la 0) : List Int) := by
 have hla := ra.len
 refine enter_ (args := [.slice Aa la.length ca, .int .i64 (n)]) Tryd.func36 rfl Tryd.ntmps36 (Nat.le_of_ble_eq_true rfl) (fun act0 f0 => ?_)
 have e0 : Ext w w := Ext.refl w
 refine wp_seq ?_
 refine At.start ?_
 refine At.rd f0 1 [[]] [(4, .slice none 0 0)] [] (by kernel_rfl) trivial (fun act2 f1 => ?_)
 clear f0
 refine At.done rfl ?_
 refine t_n ?_
 refine wp_seq ?_
 refine wp_seq ?_
 refine At.start ?_
 refine At.rd f1 2 [[], [.as_ (.bool false)]] [(10, .bool false), (9, .int .i64 (n))] [((.bool (decide ((n : Int) < 0)) : Value) = .bool false)] (by kernel_rfl) ⟨(congrArg Value.bool (decide_eq_false (by omega))), trivial⟩ (fun act4 f3 => ?_)
 clear f1
 refine At.done rfl ?_
 refine t_n ?_
 refine cond_F f3 rfl ?_
 refine wp_skip ?_
 refine t_n ?_
 refine wp_seq ?_
 refine At.start ?_
 refine At.rd f3 5 [[], [.as_ (.int .i64 (1))], [.as_ (.int .u64 (1))], [], [.as_ (.int .u64 (n))]] [(17, .int .u64 (n)), (16, .int .i64 (n)), (15, .int .u64 (1)), (14, .int .i64 (1)), (13, .slice Aa la.length ca)] [((.int .i64 (((la.length : Nat) : Int)) : Value) = .int .i64 (1)), ((.int .u64 (IntKind.u64.wrap (1)) : Value) = .int .u64 (1)), ((.int .u64 (IntKind.u64.wrap (n)) : Value) = .int .u64 (n))] (by kernel_rfl) ⟨(congrArg (Value.int .i64) (by omega)), (wu64 (by omega) (by omega)), (wu64 (by omega) (by omega)), trivial⟩ (fun act6 f5 => ?_)
 clear f3
 refine At.call f5 55 #[.int .u64 (1), .int .u64 (n)] (some 18) (by kernel_rfl) (mul_any (n := n) (by omega) (by omega)) ?_
 rintro e_ w7 ⟨rfl, he⟩
 refine ⟨_, rfl, _, rfl, fun act8 f9 => ?_⟩
 clear f5; have aK := gr_ext he; have := aK.size; replace e0 := e0.gn aK; have aD := ra.gn aK; clear ra; clear aK he
 refine At.rd f9 5 [[], [], [], [], []] [(6, .int .u64 (n)), (5, .int .u64 (0)), (20, .int .u64 (n)), (19, .int .u64 (0)), (12, .tuple #[.int .u64 (0), .int .u64 (n)])] [] (by kernel_rfl) trivial (fun bQ aQ => ?_)
 clear f9
 refine At.done rfl ?_
 refine t_n ?_
 refine wp_seq ?_
 refine wp_seq ?_
 refine At.start ?_
 refine At.rd aQ 6 [[], [.as_ (.bool false)], [], [], [.as_ (.bool false)], []] [(26, .bool false), (25, .bool false), (24, .int .u64 (n)), (23, .bool false), (22, .bool false), (21, .int .u64 (0))] [((.bool (decide ((0 : Int) > 0)) : Value) = .bool false), ((.bool (decide ((n : Int) > 9223372036854775807)) : Value) = .bool false)] (by kernel_rfl) ⟨(by kernel_rfl), (congrArg Value.bool (decide_eq_false (by omega))), trivial⟩ (fun bR aR => ?_)
 clear aQ
 refine At.done rfl ?_
 refine t_n ?_
 have aO := aR.sub (r := [(26, .bool false), (6, .int .u64 (n)), (4, .slice none 0 0), (0, .slice Aa la.length ca)]) ⟨rfl, rfl, rfl, rfl, trivial⟩; clear aR
 refine cond_F aO rfl ?_
 refine wp_skip ?_
 refine t_n ?_
 refine wp_seq ?_
 refine At.start ?_
 refine At.rd aO 2 [[], [.as_ (.int .i64 (n))]] [(29, .int .i64 (n)), (28, .int .u64 (n))] [((.int .i64 (IntKind.i64.wrap (n)) : Value) = .int .i64 (n))] (by kernel_rfl) ⟨(w64 (by omega) (by omega)), trivial⟩ (fun bS aS => ?_)
 clear aO
 refine At.act aS (makeR (k1 := .i64) (k2 := .i64) (α := Int) (e := 3) (bytes := 8) (t := 22) (d := 30) (n := n) (cap := n) (0) (by kernel_rfl) rfl (by kernel_rfl) (by omega) (by omega) (by omega) (by omega)) ?_
 rintro d_ v_ bT ⟨rfl, rfl, aL, aF⟩
 refine ⟨_, rfl, fun bU aT => ?_⟩
 clear aS; replace aF := aF (Sx (w7.heap.size) []) (Nat.le_refl _); have := aL.size; replace e0 := e0.gn aL; replace aD := aD.gn aL; clear aL; have : (List.replicate (n : Int).toNat (0 : Int)).length = (n : Int).toNat := List.length_replicate
 refine At.rd aT 1 [[]] [(7, .slice (some ⟨w7.heap.size, 0, none⟩) ((List.replicate (n : Int).toNat (0 : Int)).length) ((n : Int).toNat))] [] (by kernel_rfl) trivial (fun bV aU => ?_)
 clear aT
 refine At.done rfl ?_
 refine t_n ?_
 refine wp_seq ?_
 refine At.start ?_
 refine At.rd aU 2 [[], []] [(32, .slice Aa la.length ca), (31, .slice (some ⟨w7.heap.size, 0, none⟩) ((List.replicate (n : Int).toNat (0 : Int)).length) ((n : Int).toNat))] [] (by kernel_rfl) trivial (fun bW aV => ?_)
 clear aU
 refine At.act aV (copyRd (t := 22) (d := 33) (n := (List.replicate (n : Int).toNat (0 : Int)).length) (m := la.length) (cc := ca) (xs := List.replicate (n : Int).toNat (0 : Int)) (ys := la) (bytes := 8) (by kernel_rfl) (by kernel_rfl) aF (aD.wide (Nat.zero_le _) (by omega)) (by first | rfl | omega | (simp; done) | (simp; omega)) (by first | rfl | omega | (simp; done) | (simp; omega))) ?_
 rintro d_ v_ bX ⟨rfl, rfl, aM, aW⟩
 refine ⟨_, rfl, fun bY aX => ?_⟩
 clear aV
 have bZ : (la.take (min la.length (List.replicate (n : Int).toNat (0 : Int)).length) ++ (List.replicate (n : Int).toNat (0 : Int)).drop (min la.length (List.replicate (n : Int).toNat (0 : Int)).length)).length = (List.replicate (n : Int).toNat (0 : Int) : List Int).length := by simp only [List.length_append, List.length_take, List.length_drop]; omega
 have := aM.size; replace e0 := e0.gr aM (fun k hk => by have := aF.ge k hk; omega); replace aD := aD.gr aM (fun k hk => by have := aF.ge k hk; omega); clear aF aM
 refine At.rd aX 1 [[]] [(8, .int .i64 ((((min la.length (List.replicate (n : Int).toNat (0 : Int)).length) : Nat) : Int)))] [] (by kernel_rfl) trivial (fun cA aY => ?_)
 clear aX
 refine At.done rfl ?_
 refine t_n ?_
 refine wp_seq ?_
 refine wp_block ?_
 have aZ := aY.as 7 (.slice (some ⟨w7.heap.size, 0, none⟩) ((List.replicate (n : Int).toNat (0 : Int)).length) ((n : Int).toNat)) (.slice (some ⟨w7.heap.size, 0, none⟩) ((la.take (min la.length (List.replicate (n : Int).toNat (0 : Int)).length) ++ (List.replicate (n : Int).toNat (0 : Int)).drop (min la.length (List.replicate (n : Int).toNat (0 : Int)).length) : List Int).length) ((n : Int).toNat)) rfl (slice_len (by first | rfl | omega | (simp; done) | (simp; omega)))
 clear aY
 have bA := aZ.sub (r := [(8, .int .i64 ((((min la.length (List.replicate (n : Int).toNat (0 : Int)).length) : Nat) : Int))), (7, .slice (some ⟨w7.heap.size, 0, none⟩) ((la.take (min la.length (List.replicate (n : Int).toNat (0 : Int)).length) ++ (List.replicate (n : Int).toNat (0 : Int)).drop (min la.length (List.replicate (n : Int).toNat (0 : Int)).length) : List Int).length) ((n : Int).toNat)), (4, .slice none 0 0)]) ⟨rfl, rfl, rfl, trivial⟩
 refine loop_g (fun (m_ : Nat) a_ w_ => ∃ (k : Int) (xs : List Int) (aB : Option Addr) (aA : Nat), m_ = (n - k).toNat ∧ (Frm 48 a_ [(8, .int .i64 (k)), (7, .slice aB xs.length aA), (4, .slice none 0 0)]) ∧ (Ext w w_) ∧ (RdI w_ 0 w.heap.size Aa la) ∧ (OwnR w_ (Sx (w7.heap.size) []) aB aA 3 (xs : List Int)) ∧ (0 ≤ k) ∧ (k ≤ n) ∧ (RepT (gI la 0) n xs k) ∧ (n = 0 ∨ 1 ≤ k) ∧ (w7.heap.size ≤ w_.heap.size)) _ ⟨(((min la.length (List.replicate (n : Int).toNat (0 : Int)).length) : Nat) : Int), (la.take (min la.length (List.replicate (n : Int).toNat (0 : Int)).length) ++ (List.replicate (n : Int).toNat (0 : Int)).drop (min la.length (List.replicate (n : Int).toNat (0 : Int)).length) : List Int), some ⟨w7.heap.size, 0, none⟩, (n : Int).toNat, rfl, bA, e0, aD, aW, (by omega), (by omega), (rep_0 hla1 h0 rfl), (by omega), (by omega)⟩ ?_
 clear bA aZ; clear aD; clear aW; clear e0
 intro m_ cB bL ⟨k, xs, aB, aA, hm50, bB, aE, aH, aC, i54, i55, hrp, i56, i57⟩
 have := aE.size; have hxl := rep_len hrp (by omega) (by omega)
 refine wp_seq ?_
 refine wp_seq ?_
 refine At.start ?_
 refine At.rd bB 4 [[], [], [], []] [(37, .bool (decide ((k : Int) < ((xs.length : Nat) : Int)))), (36, .int .i64 (((xs.length : Nat) : Int))), (35, .slice aB xs.length aA), (34, .int .i64 (k))] [] (by kernel_rfl) trivial (fun cC aI => ?_)
 clear bB
 refine At.done rfl ?_
 refine t_n ?_
 refine cond_S aI (t := decide ((k : Int) < ((xs.length : Nat) : Int))) rfl (fun aP => ?_) (fun aP => ?_)
 ·have cD := of_decide_eq_true aP
  refine wp_skip ?_
  refine t_n ?_
  refine wp_block ?_
  have := aC.cap
  obtain ⟨bC, bD⟩ : ∃ c : List (Addr × Value), c = [] := ⟨_, rfl⟩
  have bE : HoldsC bC bL := by rw [bD]; exact trivial
  refine AtH.start bC 10 #[false, false, false, false, false, false, false, false, false, false] (by kernel_rfl) rfl rfl (fun cE bF => ?_)
  have aG := gr_drew bF; have bG := bE.gr aG; have := aG.size; replace aE := aE.gn aG; replace aH := aH.gn aG; replace aC := aC.gn aG; clear aG bF bE
  refine AtH.rd (by kernel_rfl) (fun d v c a w h => by cases d <;> exact h) bG [0, 1, 2, 3, 4, 5, 6] [[], [], [], [], [], [], []] [(44, .slice aB ((k : Int).toNat) aA), (43, .int .i64 (k)), (42, .slice aB xs.length aA), (41, .slice (if aA = (k : Int).toNat then aB else Option.map (fun a_ : Addr => a_.add ((k : Int).toNat * 1)) (aB)) (xs.length - (k : Int).toNat) (aA - (k : Int).toNat)), (40, .int .i64 (k)), (39, .slice aB xs.length aA), (38, .int .i64 (k))] #[true, true, true, true, true, true, true, false, false, false] [(0 ≤ (k : Int)), ((k : Int) ≤ ((xs.length : Nat) : Int)), (0 ≤ (k : Int)), ((k : Int) ≤ (aA : Nat))] 3 aI (by kernel_rfl) ⟨(by omega), (by omega), (by omega), (by omega), trivial⟩ (fun cF bH => ?_)
  clear aI
  refine AtH.all [7] 2 (by kernel_rfl) (by simp) ⟨?_, trivial⟩
  refine OneH.act bH #[true, true, true, true, true, true, true, true, false, false] (by kernel_rfl) (copySelf (t := 22) (d := 45) (n := (xs).length) (q := (k : Int).toNat) (cc := aA) (xs := xs) (bytes := 8) (by kernel_rfl) (by kernel_rfl) aC rfl (by omega)) ?_
  rintro d_ v_ cG ⟨rfl, rfl, aJ, bM⟩
  have aN := bG.grO aJ (by rw [bD]; exact trivial)
  refine ⟨_, rfl, fun cH bI => ⟨aN, ?_⟩⟩
  clear bH
  have cI : ((xs).take (k : Int).toNat ++ (xs).take (min (k : Int).toNat ((xs).length - (k : Int).toNat)) ++ (xs).drop ((k : Int).toNat + (min (k : Int).toNat ((xs).length - (k : Int).toNat)))).length = (xs : List Int).length := by simp only [List.length_append, List.length_take, List.length_drop]; omega
  have := aJ.size; replace aE := aE.gr aJ (fun k hk => by have := aC.ge k hk; omega); replace aH := aH.gr aJ (fun k hk => by have := aC.ge k hk; omega); clear aC aJ
  refine AtH.rd (by kernel_rfl) (fun d v c a w h => by cases d <;> exact h) aN [8] [[.as_ (.int .i64 (k + (((min (k : Int).toNat ((xs).length - (k : Int).toNat)) : Nat) : Int)))]] [(46, .int .i64 (k + (((min (k : Int).toNat ((xs).length - (k : Int).toNat)) : Nat) : Int)))] #[true, true, true, true, true, true, true, true, true, false] [((.int .i64 (IntKind.i64.wrap (k + (((min (k : Int).toNat ((xs).length - (k : Int).toNat)) : Nat) : Int))) : Value) = .int .i64 (k + (((min (k : Int).toNat ((xs).length - (k : Int).toNat)) : Nat) : Int)))] 1 bI (by kernel_rfl) ⟨(w64 (by omega) (by omega)), trivial⟩ (fun cJ bJ => ?_)
  clear bI
  refine AtH.rd (by kernel_rfl) (fun d v c a w h => by cases d <;> exact h) aN [9] [[]] [(8, .int .i64 (k + (((min (k : Int).toNat ((xs).length - (k : Int).toNat)) : Nat) : Int)))] #[true, true, true, true, true, true, true, true, true, true] [] 0 bJ (by kernel_rfl) trivial (fun cK bK => ?_)
  clear bJ
  refine AtH.done (by kernel_rfl) ?_
  clear aN
  refine b_n ?_
  refine t_n ?_
  have bN := bK.as 7 (.slice aB xs.length aA) (.slice aB (((xs).take (k : Int).toNat ++ (xs).take (min (k : Int).toNat ((xs).length - (k : Int).toNat)) ++ (xs).drop ((k : Int).toNat + (min (k : Int).toNat ((xs).length - (k : Int).toNat))) : List Int).length) aA) rfl (slice_len (by first | rfl | omega | (simp; done) | (simp; omega)))
  clear bK
  have bO := bN.sub (r := [(8, .int .i64 (k + (((min (k : Int).toNat ((xs).length - (k : Int).toNat)) : Nat) : Int))), (7, .slice aB (((xs).take (k : Int).toNat ++ (xs).take (min (k : Int).toNat ((xs).length - (k : Int).toNat)) ++ (xs).drop ((k : Int).toNat + (min (k : Int).toNat ((xs).length - (k : Int).toNat))) : List Int).length) aA), (4, .slice none 0 0)]) ⟨rfl, rfl, rfl, trivial⟩
  exact ⟨_, (by omega), k + (((min (k : Int).toNat ((xs).length - (k : Int).toNat)) : Nat) : Int), ((xs).take (k : Int).toNat ++ (xs).take (min (k : Int).toNat ((xs).length - (k : Int).toNat)) ++ (xs).drop ((k : Int).toNat + (min (k : Int).toNat ((xs).length - (k : Int).toNat))) : List Int), aB, aA, rfl, bO, aE, aH, bM, (by omega), (by omega), (rep_next hrp (by omega) (by omega)), (by omega), (by omega)⟩
 have cL := of_decide_eq_false aP
 refine wp_exit ?_
 refine t_e ?_
 refine t_e ?_
 refine b_e ?_
 refine t_n ?_
 refine wp_seq ?_
 refine At.start ?_
 refine At.rd aI 2 [[], []] [(4, .slice aB xs.length aA), (47, .slice aB xs.length aA)] [] (by kernel_rfl) trivial (fun cM bP => ?_)
 clear aI
 refine At.done rfl ?_
 refine t_n ?_
 refine wp_ret ?_
 refine ret_ bP [] [.slice aB xs.length aA] [] (by kernel_rfl) trivial ?_
 have hq_ : (xs : List Int) = List.replicate n.toNat (gI la 0) := rep_end hrp (by omega) (by omega) (by omega)
 exact ⟨aB, aA, ret_eq (slice_len (by first | (rw [← hq_]; done) | (rw [← hq_]; simp) | (rw [← hq_]; omega))), aE, (OwnR.as (aC.imp (fun g _ hs => by have := Sx_base hs; show w.heap.size ≤ g; omega)) hq_)⟩

end Go.Proofs.YtplpgfcjjnaigaaDoor
