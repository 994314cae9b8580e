/-
  Texts of this repo, laid together: the frame of the walks, plain lemmas, walks of Go functions. Conditions: what the theorems name.
-/
import Derived.MapKept
import Derived.WideKeyRuns
import Derived.Test.YtplpgfcjjnaigaaDoorZ4
set_option linter.unusedVariables false
set_option linter.unusedSimpArgs false
namespace Go.Proofs.YtplpgfcjjnaigaaDoor
open Go Go.RowKit
set_option maxHeartbeats 4000000 in
theorem mul64_any {n : Int} {w : World} (h0 : 0 ≤ n) (h1 : n < 4294967296) :
    Calls Tryd.prog 61 #[.int .u64 (1), .int .u64 (n)] w fun e w' => e = .returned (.tuple #[.int .u64 0, .int .u64 n]) ∧ Ext w w' := by
 refine enter_ (args := [.int .u64 (1), .int .u64 (n)]) Tryd.func61 rfl Tryd.ntmps61 (Nat.le_of_ble_eq_true rfl) (fun act0 f0 => ?_)
 have e0 : Ext w w := Ext.refl w
 refine sqs ?_
 refine At.rk f0 2 [] .n (fun act2 f1 => ?_)
 clear f0
 refine At.dn ?_
 refine sqs ?_
 refine At.rk f1 3 [(6, .int .u64 (1))] (.v 15 (show (.int .u64 (IntKind.u64.wrap ((BitVec.ofInt 64 1 &&& BitVec.ofInt 64 4294967295).toNat : Int)) : Value) = .int .u64 (1) from (congrArg (Value.int .u64) (by decide +kernel))) <| .n) (fun act4 f3 => ?_)
 clear f1
 refine At.dn ?_
 refine sqs ?_
 refine At.rk f3 3 [(7, .int .u64 (0))] (.p (show 0 ≤ (32 : Int) from ω) <| .v 17 (show (.int .u64 ((1 : Int).fdiv (2 ^ (min (32 : Int).toNat IntKind.u64.bits))) : Value) = .int .u64 (0) from (congrArg (Value.int .u64) (by decide +kernel))) <| .n) (fun act6 f5 => ?_)
 clear f3
 refine At.dn ?_
 refine sqs ?_
 refine At.rk f5 3 [(8, .int .u64 (n))] (.v 19 (show (.int .u64 (IntKind.u64.wrap ((BitVec.ofInt 64 n &&& BitVec.ofInt 64 4294967295).toNat : Int)) : Value) = .int .u64 (n) from (congrArg (Value.int .u64) (mask32 h0 h1))) <| .n) (fun act8 f7 => ?_)
 clear f5
 refine At.dn ?_
 refine sqs ?_
 refine At.rk f7 3 [(9, .int .u64 (0))] (.p (show 0 ≤ (32 : Int) from ω) <| .v 21 (show (.int .u64 ((n : Int).fdiv (2 ^ (min (32 : Int).toNat IntKind.u64.bits))) : Value) = .int .u64 (0) from (congrArg (Value.int .u64) (shr32 h0 h1))) <| .n) (fun aH f9 => ?_)
 clear f7
 refine At.dn ?_
 refine sqs ?_
 refine At.rk f9 4 [(10, .int .u64 (n))] (.v 24 (show (.int .u64 (IntKind.u64.wrap (1 * n)) : Value) = .int .u64 (n) from (congrArg (Value.int .u64) (wrapM ω h0 h1))) <| .n) (fun aI aA => ?_)
 clear f9
 refine At.dn ?_
 refine sqs ?_
 refine At.rk aA 7 [(11, .int .u64 (0))] (.v 27 (show (.int .u64 (IntKind.u64.wrap (0 * n)) : Value) = .int .u64 (0) from (congrArg (Value.int .u64) (wrapM ω ω ω))) <| .p (show 0 ≤ (32 : Int) from ω) <| .v 29 (show (.int .u64 ((n : Int).fdiv (2 ^ (min (32 : Int).toNat IntKind.u64.bits))) : Value) = .int .u64 (0) from (congrArg (Value.int .u64) (shr32 h0 h1))) <| .v 30 (show (.int .u64 (IntKind.u64.wrap (0 + 0)) : Value) = .int .u64 (0) from (congrArg (Value.int .u64) (by decide +kernel))) <| .n) (fun aJ aB => ?_)
 clear aA
 refine At.dn ?_
 refine sqs ?_
 refine At.rk aB 3 [(12, .int .u64 (0))] (.v 32 (show (.int .u64 (IntKind.u64.wrap ((BitVec.ofInt 64 0 &&& BitVec.ofInt 64 4294967295).toNat : Int)) : Value) = .int .u64 (0) from (congrArg (Value.int .u64) (by decide +kernel))) <| .n) (fun aK aC => ?_)
 clear aB
 refine At.dn ?_
 refine sqs ?_
 refine At.rk aC 3 [(13, .int .u64 (0))] (.p (show 0 ≤ (32 : Int) from ω) <| .v 34 (show (.int .u64 ((0 : Int).fdiv (2 ^ (min (32 : Int).toNat IntKind.u64.bits))) : Value) = .int .u64 (0) from (congrArg (Value.int .u64) (by decide +kernel))) <| .n) (fun aL aD => ?_)
 clear aC
 refine At.dn ?_
 refine sqs ?_
 refine At.rk aD 6 [(12, .int .u64 (0))] (.v 38 (show (.int .u64 (IntKind.u64.wrap (1 * 0)) : Value) = .int .u64 (0) from (congrArg (Value.int .u64) (by decide +kernel))) <| .v 39 (show (.int .u64 (IntKind.u64.wrap (0 + 0)) : Value) = .int .u64 (0) from (congrArg (Value.int .u64) (by decide +kernel))) <| .n) (fun aM aE => ?_)
 clear aD
 refine At.dn ?_
 refine sqs ?_
 refine At.rk aE 9 [(4, .int .u64 (0))] (.v 42 (show (.int .u64 (IntKind.u64.wrap (0 * 0)) : Value) = .int .u64 (0) from (congrArg (Value.int .u64) (by decide +kernel))) <| .v 44 (show (.int .u64 (IntKind.u64.wrap (0 + 0)) : Value) = .int .u64 (0) from (congrArg (Value.int .u64) (by decide +kernel))) <| .p (show 0 ≤ (32 : Int) from ω) <| .v 46 (show (.int .u64 ((0 : Int).fdiv (2 ^ (min (32 : Int).toNat IntKind.u64.bits))) : Value) = .int .u64 (0) from (congrArg (Value.int .u64) (by decide +kernel))) <| .v 47 (show (.int .u64 (IntKind.u64.wrap (0 + 0)) : Value) = .int .u64 (0) from (congrArg (Value.int .u64) (by decide +kernel))) <| .n) (fun aN aF => ?_)
 clear aE
 refine At.dn ?_
 refine sqs ?_
 refine At.rk aF 4 [(5, .int .u64 (n))] (.v 50 (show (.int .u64 (IntKind.u64.wrap (1 * n)) : Value) = .int .u64 (n) from (congrArg (Value.int .u64) (wrapM ω h0 h1))) <| .n) (fun aO aG => ?_)
 clear aF
 refine At.dn ?_
 refine wp_ret ?_
 refine ret_ aG [] [.int .u64 (0), .int .u64 (n)] [] κ trivial ?_
 exact ⟨rfl, e0⟩
set_option maxHeartbeats 4000000 in
theorem mul_any {n : Int} {w : World} (h0 : 0 ≤ n) (h1 : n < 4294967296) :
    Calls Tryd.prog 55 #[.int .u64 (1), .int .u64 (n)] w fun e w' => e = .returned (.tuple #[.int .u64 0, .int .u64 n]) ∧ Ext w w' := by
 refine enter_ (args := [.int .u64 (1), .int .u64 (n)]) Tryd.func55 rfl Tryd.ntmps55 (Nat.le_of_ble_eq_true rfl) (fun act0 f0 => ?_)
 have e0 : Ext w w := Ext.refl w
 refine sqs ?_
 refine At.rk f0 2 [] .n (fun act2 f1 => ?_)
 clear f0
 refine At.dn ?_
 refine wp_seq ?_
 refine cond_F f1 rfl ?_
 refine wp_skip ?_
 refine t_n ?_
 refine sqs ?_
 refine At.rk f1 2 [(24, .int .u64 (n)), (23, .int .u64 (1))] .n (fun act4 f3 => ?_)
 clear f1
 refine At.cl f3 (some 25) (mul64_any (n := n) ω ω) ?_
 rintro e_ w5 ⟨rfl, he⟩
 refine ⟨_, rfl, _, rfl, fun act6 f7 => ?_⟩
 clear f3; have g8 := gr_ext he; have := g8.size; replace e0 := e0.gn g8; clear g8 he
 refine At.rk f7 5 [(9, .int .u64 (n)), (8, .int .u64 (0))] .n (fun aC aA => ?_)
 clear f7
 refine At.dn ?_
 refine sqs ?_
 refine At.rk aA 4 [(5, .int .u64 (n)), (4, .int .u64 (0))] .n (fun aD aB => ?_)
 clear aA
 refine At.dn ?_
 refine wp_ret ?_
 refine ret_ aB [] [.int .u64 (0), .int .u64 (n)] [] κ trivial ?_
 exact ⟨rfl, e0⟩
set_option maxHeartbeats 4000000 in
theorem repeat_any {Aa : Option Addr} {ca : Nat} {la : List Int} {n : Int} {w : World} (ra : RdI w 0 w.heap.size Aa la) (hla1 : la.length = 1) (h0 : 0 ≤ n) (h1 : n ≤ 256) :
    Calls Tryd.prog 36 #[.slice Aa la.length ca, .int .i64 (n)] w fun e w' => ∃ A c, e = .returned (.slice A (List.replicate n.toNat (gI la 0)).length c) ∧ Ext w w' ∧ OwnR w' (Sx w.heap.size []) A c 3 (List.replicate n.toNat (gI la 0) : List Int) := by
 have hla := ra.len
 refine enter_ (args := [.slice Aa la.length ca, .int .i64 (n)]) Tryd.func36 rfl Tryd.ntmps36 (Nat.le_of_ble_eq_true rfl) (fun act0 f0 => ?_)
 have e0 : Ext w w := Ext.refl w
 refine sqs ?_
 refine At.rk f0 1 [(4, .slice none 0 0)] .n (fun act2 f1 => ?_)
 clear f0
 refine At.dn ?_
 refine wp_seq ?_
 refine sqs ?_
 refine At.rk f1 2 [(10, .bool false)] (.v 10 (show (.bool (decide ((n : Int) < 0)) : Value) = .bool false from (congrArg Value.bool (decide_eq_false ω))) <| .n) (fun act4 f3 => ?_)
 clear f1
 refine At.dn ?_
 refine cond_F f3 rfl ?_
 refine wp_skip ?_
 refine t_n ?_
 refine sqs ?_
 refine At.rk f3 5 [(17, .int .u64 (n)), (15, .int .u64 (1))] (.v 14 (show (.int .i64 (((la.length : Nat) : Int)) : Value) = .int .i64 (1) from (congrArg (Value.int .i64) ω)) <| .v 15 (show (.int .u64 (IntKind.u64.wrap (1)) : Value) = .int .u64 (1) from (wu64 ω ω)) <| .v 17 (show (.int .u64 (IntKind.u64.wrap (n)) : Value) = .int .u64 (n) from (wu64 ω ω)) <| .n) (fun act6 f5 => ?_)
 clear f3
 refine At.cl f5 (some 18) (mul_any (n := n) ω ω) ?_
 rintro e_ w7 ⟨rfl, he⟩
 refine ⟨_, rfl, _, rfl, fun act8 f9 => ?_⟩
 clear f5; have aK := gr_ext he; have := aK.size; replace e0 := e0.gn aK; have aD := ra.gn aK; clear ra; clear aK he
 refine At.rk f9 5 [(6, .int .u64 (n)), (5, .int .u64 (0))] .n (fun bN aQ => ?_)
 clear f9
 refine At.dn ?_
 refine wp_seq ?_
 refine sqs ?_
 refine At.rk aQ 6 [(26, .bool false)] (.v 22 (show (.bool (decide ((0 : Int) > 0)) : Value) = .bool false from κ) <| .v 25 (show (.bool (decide ((n : Int) > 9223372036854775807)) : Value) = .bool false from (congrArg Value.bool (decide_eq_false ω))) <| .n) (fun bO aO => ?_)
 clear aQ
 refine At.dn ?_
 refine cond_F aO rfl ?_
 refine wp_skip ?_
 refine t_n ?_
 refine sqs ?_
 refine At.rk aO 2 [(29, .int .i64 (n))] (.w 29 n <| .n) (fun bP aR => ?_)
 clear aO
 refine At.act aR (makeR (k1 := .i64) (k2 := .i64) (α := Int) (e := 3) (bytes := 8) (t := 22) (d := 30) (n := n) (cap := n) (0) κ rfl κ ω ω ω ω) ?_
 rintro d_ v_ bQ ⟨rfl, rfl, aL, aF⟩
 refine ⟨_, rfl, fun bR aS => ?_⟩
 clear aR; replace aF := aF (Sx (w7.heap.size) []) (Nat.le_refl _); have := aL.size; replace e0 := e0.gn aL; replace aD := aD.gn aL; clear aL; have : (List.replicate (n : Int).toNat (0 : Int)).length = (n : Int).toNat := List.length_replicate
 refine At.rk aS 1 [(7, .slice (some ⟨w7.heap.size, 0, none⟩) ((List.replicate (n : Int).toNat (0 : Int)).length) ((n : Int).toNat))] .n (fun bS aT => ?_)
 clear aS
 refine At.dn ?_
 refine sqs ?_
 refine At.rk aT 2 [(32, .slice Aa la.length ca), (31, .slice (some ⟨w7.heap.size, 0, none⟩) ((List.replicate (n : Int).toNat (0 : Int)).length) ((n : Int).toNat))] .n (fun bT aU => ?_)
 clear aT
 refine At.act aU (copyRd (t := 22) (d := 33) (n := (List.replicate (n : Int).toNat (0 : Int)).length) (m := la.length) (cc := ca) (xs := List.replicate (n : Int).toNat (0 : Int)) (ys := la) (bytes := 8) κ κ aF (aD.wide (Nat.zero_le _) ω) (by first | rfl | omega | (simp; done) | (simp; omega)) (by first | rfl | omega | (simp; done) | (simp; omega))) ?_
 rintro d_ v_ bU ⟨rfl, rfl, aM, aV⟩
 refine ⟨_, rfl, fun bV aW => ?_⟩
 clear aU
 have bW : (la.take (min la.length (List.replicate (n : Int).toNat (0 : Int)).length) ++ (List.replicate (n : Int).toNat (0 : Int)).drop (min la.length (List.replicate (n : Int).toNat (0 : Int)).length)).length = (List.replicate (n : Int).toNat (0 : Int) : List Int).length := by simp only [List.length_append, List.length_take, List.length_drop]; omega
 have := aM.size; replace e0 := e0.gr aM (fun k hk => by have := aF.ge k hk; omega); replace aD := aD.gr aM (fun k hk => by have := aF.ge k hk; omega); clear aF aM
 refine At.rk aW 1 [(8, .int .i64 ((((min la.length (List.replicate (n : Int).toNat (0 : Int)).length) : Nat) : Int)))] .n (fun bX aX => ?_)
 clear aW
 refine At.dn ?_
 refine wp_seq ?_
 refine wp_block ?_
 have aY := aX.as 7 (.slice (some ⟨w7.heap.size, 0, none⟩) ((List.replicate (n : Int).toNat (0 : Int)).length) ((n : Int).toNat)) (.slice (some ⟨w7.heap.size, 0, none⟩) ((la.take (min la.length (List.replicate (n : Int).toNat (0 : Int)).length) ++ (List.replicate (n : Int).toNat (0 : Int)).drop (min la.length (List.replicate (n : Int).toNat (0 : Int)).length) : List Int).length) ((n : Int).toNat)) rfl (slice_len (by first | rfl | omega | (simp; done) | (simp; omega)))
 clear aX
 refine loop_g (fun (m_ : Nat) a_ w_ => ∃ (k : Int) (xs : List Int) (aB : Option Addr) (aA : Nat), m_ = (n - k).toNat ∧ (Frm 48 a_ [(8, .int .i64 (k)), (7, .slice aB xs.length aA), (4, .slice none 0 0)]) ∧ (Ext w w_) ∧ (RdI w_ 0 w.heap.size Aa la) ∧ (OwnR w_ (Sx (w7.heap.size) []) aB aA 3 (xs : List Int)) ∧ (0 ≤ k) ∧ (k ≤ n) ∧ (RepT (gI la 0) n xs k) ∧ (n = 0 ∨ 1 ≤ k) ∧ (w7.heap.size ≤ w_.heap.size)) _ ⟨(((min la.length (List.replicate (n : Int).toNat (0 : Int)).length) : Nat) : Int), (la.take (min la.length (List.replicate (n : Int).toNat (0 : Int)).length) ++ (List.replicate (n : Int).toNat (0 : Int)).drop (min la.length (List.replicate (n : Int).toNat (0 : Int)).length) : List Int), some ⟨w7.heap.size, 0, none⟩, (n : Int).toNat, rfl, aY.sb, e0, aD, aV, ω, ω, (rep_0 hla1 h0 rfl), ω, ω⟩ ?_
 clear aY; clear aD; clear aV; clear e0
 intro m_ bY bJ ⟨k, xs, aB, aA, hm49, aZ, aE, aH, aC, i53, i54, hrp, i55, i56⟩
 have := aE.size; have hxl := rep_len hrp ω ω
 refine wp_seq ?_
 refine sqs ?_
 refine At.rk aZ 4 [(37, .bool (decide ((k : Int) < ((xs.length : Nat) : Int))))] .n (fun bZ aI => ?_)
 clear aZ
 refine At.dn ?_
 refine cond_S aI (t := decide ((k : Int) < ((xs.length : Nat) : Int))) rfl (fun aP => ?_) (fun aP => ?_)
 ·have cA := of_decide_eq_true aP
  refine wp_skip ?_
  refine t_n ?_
  refine wp_block ?_
  have := aC.cap
  obtain ⟨bA, bB⟩ : ∃ c : List (Addr × Value), c = [] := ⟨_, rfl⟩
  have bC : HoldsC bA bJ := by rw [bB]; exact trivial
  refine AtH.start bA 10 _ κ rfl rfl (fun cB bD => ?_)
  have aG := gr_drew bD; have bE := bC.gr aG; have := aG.size; replace aE := aE.gn aG; replace aH := aH.gn aG; replace aC := aC.gn aG; clear aG bD bC
  refine AtH.rk bE aI [0, 1, 2, 3, 4, 5, 6] 3 [(44, .slice aB ((k : Int).toNat) aA), (41, .slice (if aA = (k : Int).toNat then aB else Option.map (fun a_ : Addr => a_.add ((k : Int).toNat * 1)) (aB)) (xs.length - (k : Int).toNat) (aA - (k : Int).toNat)), (38, .int .i64 (k))] (.p (show 0 ≤ (k : Int) from ω) <| .p (show (k : Int) ≤ ((xs.length : Nat) : Int) from ω) <| .p (show 0 ≤ (k : Int) from ω) <| .p (show (k : Int) ≤ (aA : Nat) from ω) <| .n) (fun cC bF => ?_)
  clear aI
  refine AtH.all [7] 2 κ (by simp) ⟨?_, trivial⟩
  refine OneH.act bF _ rfl (copySelf (t := 22) (d := 45) (n := (xs).length) (q := (k : Int).toNat) (cc := aA) (xs := xs) (bytes := 8) κ κ aC rfl ω) ?_
  rintro d_ v_ cD ⟨rfl, rfl, aJ, bK⟩
  have aN := bE.grO aJ (by rw [bB]; exact trivial)
  refine ⟨_, rfl, fun cE bG => ⟨aN, ?_⟩⟩
  clear bF
  have cF : ((xs).take (k : Int).toNat ++ (xs).take (min (k : Int).toNat ((xs).length - (k : Int).toNat)) ++ (xs).drop ((k : Int).toNat + (min (k : Int).toNat ((xs).length - (k : Int).toNat)))).length = (xs : List Int).length := by simp only [List.length_append, List.length_take, List.length_drop]; omega
  have := aJ.size; replace aE := aE.gr aJ (fun k hk => by have := aC.ge k hk; omega); replace aH := aH.gr aJ (fun k hk => by have := aC.ge k hk; omega); clear aC aJ
  refine AtH.rk aN bG [8] 1 [(46, .int .i64 (k + (((min (k : Int).toNat ((xs).length - (k : Int).toNat)) : Nat) : Int)))] (.w 46 (k + (((min (k : Int).toNat ((xs).length - (k : Int).toNat)) : Nat) : Int)) <| .n) (fun cG bH => ?_)
  clear bG
  refine AtH.rk aN bH [9] 0 [(8, .int .i64 (k + (((min (k : Int).toNat ((xs).length - (k : Int).toNat)) : Nat) : Int)))] .n (fun cH bI => ?_)
  clear bH
  refine AtH.done κ ?_
  clear aN
  refine b_n ?_
  refine t_n ?_
  have bL := bI.as 7 (.slice aB xs.length aA) (.slice aB (((xs).take (k : Int).toNat ++ (xs).take (min (k : Int).toNat ((xs).length - (k : Int).toNat)) ++ (xs).drop ((k : Int).toNat + (min (k : Int).toNat ((xs).length - (k : Int).toNat))) : List Int).length) aA) rfl (slice_len (by first | rfl | omega | (simp; done) | (simp; omega)))
  clear bI
  exact ⟨_, ω, k + (((min (k : Int).toNat ((xs).length - (k : Int).toNat)) : Nat) : Int), ((xs).take (k : Int).toNat ++ (xs).take (min (k : Int).toNat ((xs).length - (k : Int).toNat)) ++ (xs).drop ((k : Int).toNat + (min (k : Int).toNat ((xs).length - (k : Int).toNat))) : List Int), aB, aA, rfl, bL.sb, aE, aH, bK, ω, ω, (rep_next hrp ω ω), ω, ω⟩
 have cI := of_decide_eq_false aP
 refine wp_exit ?_
 refine t_e ?_
 clear hm49
 refine t_e ?_
 refine b_e ?_
 refine t_n ?_
 refine sqs ?_
 refine At.rk aI 2 [(4, .slice aB xs.length aA)] .n (fun cJ bM => ?_)
 clear aI
 refine At.dn ?_
 refine wp_ret ?_
 refine ret_ bM [] [.slice aB xs.length aA] [] κ trivial ?_
 have hq_ : (xs : List Int) = List.replicate n.toNat (gI la 0) := rep_end hrp ω ω ω
 exact ⟨aB, aA, ret_eq (slice_len (by first | (rw [← hq_]; done) | (rw [← hq_]; simp) | (rw [← hq_]; omega))), aE, (OwnR.as (aC.imp (fun g _ hs => by have := Sx_base hs; show w.heap.size ≤ g; omega)) hq_)⟩
end Go.Proofs.YtplpgfcjjnaigaaDoor
namespace Go.Proofs.YtplpgfcjjnaigaaDoor
open Go Go.RowKit
attribute [local irreducible] ofZ fromW wordsD ofD ofW lsD lenW lenN fullW withW lessW hasW hasD inW inD leastD putD onI tzI orS andS minusS orD andD minusD fullD emptyD
set_option maxHeartbeats 4000000 in
theorem solve_any {Ag0 Ag1 Ag2 : Option Addr} {cg0 cg1 cg2 : Nat} {g : GameL} {w : World} (rg : RdG w 0 w.heap.size Ag0 Ag1 Ag2 cg0 cg1 cg2 g) (rT : RdT w 0 w.heap.size) :
    Calls Tryd.prog 16 #[.agg #[.slice Ag0 g.ow.length cg0, .slice Ag1 g.pr.length cg1, .slice Ag2 g.mv.length cg2]] w fun e w' => ∃ A0 c0 A1 c1 A2 c2 A3 c3 l0 l1 m0 m1 d, e = .returned (.tuple #[.agg #[.slice A0 l0.length c0, .slice A1 l1.length c1, .slice A2 m0.length c2, .slice A3 m1.length c3], .int .i64 d]) ∧ Ext w w' ∧ OwnR w' (Sx w.heap.size [obk A1, obk A2, obk A3]) A0 c0 3 (l0 : List Int) ∧ OwnR w' (Sx w.heap.size [obk A0, obk A2, obk A3]) A1 c1 3 (l1 : List Int) ∧ OwnR w' (Sx w.heap.size [obk A0, obk A1, obk A3]) A2 c2 3 (m0 : List Int) ∧ OwnR w' (Sx w.heap.size [obk A0, obk A1, obk A2]) A3 c3 3 (m1 : List Int) ∧ SolveT g l0 l1 m0 m1 d := by
 have hlg0 := rg.ow.len; have hlg1 := rg.pr.len; have hlg2 := rg.mv.len; have hkg0 := rg.k0; have hkg1 := rg.k1; have hkg2 := rg.k2
 refine enter_ (args := [.agg #[.slice Ag0 g.ow.length cg0, .slice Ag1 g.pr.length cg1, .slice Ag2 g.mv.length cg2]]) Tryd.func16 rfl Tryd.ntmps16 (Nat.le_of_ble_eq_true rfl) (fun act0 f0 => ?_)
 have e0 : Ext w w := Ext.refl w
 refine sqs ?_
 refine At.bx f0 1 [.slice Ag0 g.ow.length cg0, .slice Ag1 g.pr.length cg1, .slice Ag2 g.mv.length cg2] 25 (fun w1 g5 bx6 act4 f3 => ?_)
 clear f0; have := g5.size; replace e0 := e0.gn g5; have r9 := rg.gn g5; clear rg; have aD := rT.gn g5; clear rT; have := bx6.lt; clear g5
 refine At.bx f3 2 [.slice none 0 0, .slice none 0 0, .slice none 0 0, .slice none 0 0] 32 (fun mV eP aF mW hA => ?_)
 clear f3; have := eP.size; replace e0 := e0.gn eP; replace r9 := r9.gn eP; replace aD := aD.gn eP; replace bx6 := bx6.gn eP; have := aF.lt; clear eP
 refine At.rk hA 1 [(3, .int .i64 (0))] .n (fun mX hB => ?_)
 clear hA
 refine At.dn ?_
 refine wp_seq ?_
 refine sqs ?_
 refine At.rk hB 1 [(17, .agg #[.slice Ag0 g.ow.length cg0, .slice Ag1 g.pr.length cg1, .slice Ag2 g.mv.length cg2])] (.l (bx6.cell (i := 0) rfl) <| .l (bx6.cell (i := 1) rfl) <| .l (bx6.cell (i := 2) rfl) <| .n) (fun mY hC => ?_)
 clear hB
 refine At.cl hC (some 18) (args := #[.agg #[.slice Ag0 g.ow.length cg0, .slice Ag1 g.pr.length cg1, .slice Ag2 g.mv.length cg2]]) (right_any (r9.wide (Nat.zero_le _) ω)) ?_
 rintro e_ aB ⟨rfl, he⟩
 refine ⟨_, rfl, _, rfl, fun mZ hD => ?_⟩
 clear hC; have eG := gr_ext he; have := eG.size; replace e0 := e0.gn eG; replace r9 := r9.gn eG; replace aD := aD.gn eG; replace bx6 := bx6.gn eG; replace aF := aF.gn eG; clear eG he
 refine At.rk hD 5 [(5, .int .i64 ((rightP g).2))] .n (fun nA hE => ?_)
 clear hD
 refine At.dn ?_
 refine sqs ?_
 refine At.rk hE 2 [(22, .bool (((rightP g).2 : Int) != 0))] .n (fun nB fB => ?_)
 clear hE
 refine At.dn ?_
 refine cond_S fB (t := ((rightP g).2 : Int) != 0) rfl (fun fW => ?_) (fun fW => ?_)
 ·have nC := bne_iff_ne.1 fW
  refine sqs ?_
  refine At.rk fB 1 [(23, .agg #[.slice none 0 0, .slice none 0 0, .slice none 0 0, .slice none 0 0])] .n (fun nD hF => ?_)
  clear fB
  refine At.store hF (t := 32) (b := w1.heap.size) (off := 0) (v := .agg #[.slice none 0 0, .slice none 0 0, .slice none 0 0, .slice none 0 0]) κ aF κ (fun nE fC eQ eR hH => ?_)
  clear hF; replace eR : Bx fC (w1.heap.size) [.slice none 0 0, .slice none 0 0, .slice none 0 0, .slice none 0 0] 32 := eR; have := eQ.size; replace e0 := e0.gr eQ (fun k h => by injection h; omega); replace r9 := r9.gb eQ ω; replace aD := aD.gb eQ ω; replace bx6 := bx6.gb eQ ω; clear aF eQ
  refine At.rk hH 1 [(3, .int .i64 (0))] .n (fun nF lL => ?_)
  clear hH
  refine At.dn ?_
  clear bx6
  refine wp_ret ?_
  refine t_r ?_
  refine ret_ lL [[.slice none 0 0, .slice none 0 0, .slice none 0 0, .slice none 0 0]] [.agg #[.slice none 0 0, .slice none 0 0, .slice none 0 0, .slice none 0 0], .int .i64 (0)] [(fC.cell? ⟨w1.heap.size, 0, none⟩ = some (.slice none 0 0)), (fC.cell? ⟨w1.heap.size, 1, none⟩ = some (.slice none 0 0)), (fC.cell? ⟨w1.heap.size, 2, none⟩ = some (.slice none 0 0)), (fC.cell? ⟨w1.heap.size, 3, none⟩ = some (.slice none 0 0))] κ ⟨(eR.cell (i := 0) rfl), (eR.cell (i := 1) rfl), (eR.cell (i := 2) rfl), (eR.cell (i := 3) rfl), trivial⟩ ?_
  exact ⟨none, 0, none, 0, none, 0, none, 0, [], [], [], [], 0, rfl, e0, OwnR.nil, OwnR.nil, OwnR.nil, OwnR.nil, .inl ⟨isR_no ω, rfl, rfl, rfl, rfl, rfl⟩⟩
 have nG := bne_eq_false_iff_eq.1 fW
 refine wp_skip ?_
 refine t_n ?_
 refine wp_seq ?_
 have hR : isR g = true := right_of2 ω; have hG := isR_ok hR; have hn1 := hG.n1; have hn0 := hG.n0; have hpl := hG.pl; have hml := hG.ml
 have hrl_ : (List.replicate (((g.ow.length : Nat) : Int) : Int).toNat (gI ([-1] : List Int) 0)).length = g.ow.length := by rw [List.length_replicate]; omega
 refine At.start ?_
 refine At.rk fB 3 [(26, .int .i64 (((g.ow.length : Nat) : Int)))] (.l (bx6.cell (i := 0) rfl) <| .n) (fun nH hI => ?_)
 clear fB
 refine At.bx hI 6 [.int .i64 (0)] 3 (fun aA eH fD nI hJ => ?_)
 clear hI; have := eH.size; replace e0 := e0.gn eH; replace r9 := r9.gn eH; replace aD := aD.gn eH; replace bx6 := bx6.gn eH; replace aF := aF.gn eH; have := fD.lt; clear eH
 refine At.bx hJ 7 [.int .i64 (0)] 3 (fun nJ dZ fE nK hK => ?_)
 clear hJ; have := dZ.size; replace e0 := e0.gn dZ; replace r9 := r9.gn dZ; replace aD := aD.gn dZ; replace bx6 := bx6.gn dZ; replace aF := aF.gn dZ; replace fD := fD.gn dZ; have := fE.lt; clear dZ
 refine At.store hK (t := 3) (b := aB.heap.size) (off := 0) (v := .int .i64 (((g.ow.length : Nat) : Int))) κ fD κ (fun nL lM eA aG hL => ?_)
 clear hK; replace aG : Bx lM (aB.heap.size) [.int .i64 (((g.ow.length : Nat) : Int))] 3 := aG; have := eA.size; replace e0 := e0.gr eA (fun k h => by injection h; omega); replace r9 := r9.gb eA ω; replace aD := aD.gb eA ω; replace bx6 := bx6.gb eA ω; replace aF := aF.gb eA ω; replace fE := fE.gb eA ω; clear fD eA
 refine At.store hL (t := 3) (b := aA.heap.size) (off := 0) (v := .int .i64 (0)) κ fE κ (fun nM aC eB aO hM => ?_)
 clear hL; replace aO : Bx aC (aA.heap.size) [.int .i64 (0)] 3 := aO; have := eB.size; replace e0 := e0.gr eB (fun k h => by injection h; omega); replace r9 := r9.gb eB ω; replace aD := aD.gb eB ω; replace bx6 := bx6.gb eB ω; replace aF := aF.gb eB ω; replace aG := aG.gb eB ω; clear fE eB
 refine At.dn ?_
 refine sqs ?_
 refine At.bx hM 8 [.slice none 0 0, .slice none 0 0] 29 (fun fN dU eI nN hN => ?_)
 clear hM; have := dU.size; replace e0 := e0.gn dU; replace r9 := r9.gn dU; replace aD := aD.gn dU; replace bx6 := bx6.gn dU; replace aF := aF.gn dU; replace aG := aG.gn dU; replace aO := aO.gn dU; have := eI.lt; clear dU
 refine At.dn ?_
 refine wp_seq ?_
 refine sqs ?_
 refine At.rk hN 1 [(27, .int .i64 (0))] .n (fun nO hO => ?_)
 clear hN
 refine At.dn ?_
 refine wp_block ?_
 have hP := hO.sb (r := [(27, .int .i64 (0)), (8, pt aC.heap.size 0), (7, pt aA.heap.size 0), (6, pt aB.heap.size 0), (3, .int .i64 (0)), (2, pt w1.heap.size 0), (1, pt w.heap.size 0)])
 clear hO
 refine loop_u0 ?_
 refine loop_u ?_
 refine sqs ?_
 refine At.rk hP 1 [(28, .bool true)] (.v 28 (show (.bool (decide ((0 : Int) < 2)) : Value) = .bool true from κ) <| .n) (fun nP fX => ?_)
 clear hP
 refine At.dn ?_
 refine wp_seq ?_
 refine cond_T fX rfl ?_
 refine wp_skip ?_
 refine t_n ?_
 refine wp_seq ?_
 refine wp_block ?_
 refine sqs ?_
 refine At.rk fX 2 [(9, .int .i64 (0))] .n (fun nQ hQ => ?_)
 clear fX
 refine At.dn ?_
 refine At.start ?_
 refine At.rk hQ 1 [(30, .int .i64 (0))] .n (fun nR hS => ?_)
 clear hQ
 refine At.seq hS 1 [[]] [(31, .slice (some ⟨fN.heap.size, 0, none⟩) 1 1)] (fN.alloc (.cells #[.int .i64 (-1)] 3 (0, 0))) [] κ trivial (fun nS cW fY hT => ?_)
 clear hS; have dS := gr_alloc fY; have := dS.size; replace e0 := e0.gn dS; replace r9 := r9.gn dS; replace aD := aD.gn dS; replace bx6 := bx6.gn dS; replace aF := aF.gn dS; replace aG := aG.gn dS; replace aO := aO.gn dS; replace eI := eI.gn dS; have eJ : Bx cW (fN.heap.size) [.int .i64 (-1)] 3 := Bx.new fY; have := eJ.lt; clear dS fY
 refine At.rk hT 1 [(32, .int .i64 (((g.ow.length : Nat) : Int)))] (.l (aG.cell (i := 0) rfl) <| .n) (fun nT hU => ?_)
 clear hT
 refine At.cl hU (some 33) (args := #[.slice (some ⟨fN.heap.size, 0, none⟩) 1 1, .int .i64 (((g.ow.length : Nat) : Int))]) (repeat_any (la := ([-1] : List Int)) (n := ((g.ow.length : Nat) : Int)) (Bx.rdI (l := ([-1] : List Int)) eJ rfl (by first | decide | exact Nat.le_of_ble_eq_true rfl)) rfl ω ω) ?_
 rintro e_ nU ⟨aJ, aN, rfl, he, aI⟩
 have : (List.replicate (((g.ow.length : Nat) : Int) : Int).toNat (gI ([-1] : List Int) 0)).length = (((g.ow.length : Nat) : Int) : Int).toNat := List.length_replicate
 refine ⟨_, rfl, _, rfl, fun nV hV => ?_⟩
 clear hU; have dH := gr_ext he; have := dH.size; replace e0 := e0.gn dH; replace r9 := r9.gn dH; replace aD := aD.gn dH; replace bx6 := bx6.gn dH; replace aF := aF.gn dH; replace aG := aG.gn dH; replace aO := aO.gn dH; replace eI := eI.gn dH; replace eJ := eJ.gn dH; clear dH he
 refine At.rk hV 1 [(34, pt aC.heap.size 0)] (.b 0 2 <| .n) (fun nW hW => ?_)
 clear hV
 refine At.store hW (t := 22) (b := aC.heap.size) (off := 0) (v := .slice aJ ((List.replicate (((g.ow.length : Nat) : Int) : Int).toNat (gI ([-1] : List Int) 0)).length) aN) κ eI κ (fun nX eS dI eC hX => ?_)
 clear hW
 replace eC : Bx eS (aC.heap.size) [.slice aJ ((List.replicate (((g.ow.length : Nat) : Int) : Int).toNat (gI ([-1] : List Int) 0)).length) aN, .slice none 0 0] 29 := eC
 have := dI.size; replace e0 := e0.gr dI (fun k h => by injection h; omega); replace r9 := r9.gb dI ω; replace aD := aD.gb dI ω; replace bx6 := bx6.gb dI ω; replace aF := aF.gb dI ω; replace aG := aG.gb dI ω; replace aO := aO.gb dI ω; replace eJ := eJ.gb dI ω; replace aI := aI.gr dI (fun k hk e => by have := Sx_base hk; injection e; omega); clear eI dI
 refine At.done rfl ?_
 refine b_n ?_
 refine t_n ?_
 clear eJ
 refine At.start ?_
 refine At.rk hX 2 [(27, .int .i64 (1))] (.v 35 (show (.int .i64 (IntKind.i64.wrap (0 + 1)) : Value) = .int .i64 (1) from κ) <| .n) (fun nY hY => ?_)
 clear hX
 refine At.dn ?_
 have hZ := hY.sb (r := [(27, .int .i64 (1)), (8, pt aC.heap.size 0), (7, pt aA.heap.size 0), (6, pt aB.heap.size 0), (3, .int .i64 (0)), (2, pt w1.heap.size 0), (1, pt w.heap.size 0)])
 clear hY
 refine loop_u ?_
 refine sqs ?_
 refine At.rk hZ 1 [(28, .bool true)] (.v 28 (show (.bool (decide ((1 : Int) < 2)) : Value) = .bool true from κ) <| .n) (fun nZ fZ => ?_)
 clear hZ
 refine At.dn ?_
 refine wp_seq ?_
 refine cond_T fZ rfl ?_
 refine wp_skip ?_
 refine t_n ?_
 refine wp_seq ?_
 refine wp_block ?_
 refine sqs ?_
 refine At.rk fZ 2 [(9, .int .i64 (1))] .n (fun oA iA => ?_)
 clear fZ
 refine At.dn ?_
 refine At.start ?_
 refine At.rk iA 1 [(30, .int .i64 (1))] .n (fun oB iB => ?_)
 clear iA
 refine At.seq iB 1 [[]] [(31, .slice (some ⟨eS.heap.size, 0, none⟩) 1 1)] (eS.alloc (.cells #[.int .i64 (-1)] 3 (0, 0))) [] κ trivial (fun oC cX gA iC => ?_)
 clear iB; have dJ := gr_alloc gA; have := dJ.size; replace e0 := e0.gn dJ; replace r9 := r9.gn dJ; replace aD := aD.gn dJ; replace bx6 := bx6.gn dJ; replace aF := aF.gn dJ; replace aG := aG.gn dJ; replace aO := aO.gn dJ; replace eC := eC.gn dJ; replace aI := aI.grN dJ; have eK : Bx cX (eS.heap.size) [.int .i64 (-1)] 3 := Bx.new gA; have := eK.lt; clear dJ gA
 refine At.rk iC 1 [(32, .int .i64 (((g.ow.length : Nat) : Int)))] (.l (aG.cell (i := 0) rfl) <| .n) (fun oD iD => ?_)
 clear iC
 refine At.cl iD (some 33) (args := #[.slice (some ⟨eS.heap.size, 0, none⟩) 1 1, .int .i64 (((g.ow.length : Nat) : Int))]) (repeat_any (la := ([-1] : List Int)) (n := ((g.ow.length : Nat) : Int)) (Bx.rdI (l := ([-1] : List Int)) eK rfl (by first | decide | exact Nat.le_of_ble_eq_true rfl)) rfl ω ω) ?_
 rintro e_ iE ⟨aE, aK, rfl, he, aM⟩
 have : (List.replicate (((g.ow.length : Nat) : Int) : Int).toNat (gI ([-1] : List Int) 0)).length = (((g.ow.length : Nat) : Int) : Int).toNat := List.length_replicate
 refine ⟨_, rfl, _, rfl, fun oE iF => ?_⟩
 clear iD; have cY := gr_ext he; have iG := aI.lt; have := cY.size; replace e0 := e0.gn cY; replace r9 := r9.gn cY; replace aD := aD.gn cY; replace bx6 := bx6.gn cY; replace aF := aF.gn cY; replace aG := aG.gn cY; replace aO := aO.gn cY; replace eC := eC.gn cY
 replace aI : OwnR iE (Sx (cW.heap.size) [obk (aE), some (eS.heap.size)]) aJ aN 3 (List.replicate (((g.ow.length : Nat) : Int) : Int).toNat (gI ([-1] : List Int) 0) : List Int) := aI.grA cY (fun _ _ h => by cases h) (fun k hk hs => ⟨(fun e => by have := aM.ge _ e; omega), hs.1, hs.2⟩)
 replace eK := eK.gn cY
 replace aM : OwnR iE (Sx (cX.heap.size) [obk (aJ)]) aE aK 3 (List.replicate (((g.ow.length : Nat) : Int) : Int).toNat (gI ([-1] : List Int) 0) : List Int) := aM.imp (fun g _ hs => ⟨(fun e => by have := iG _ e; have := Sx_base hs; omega), hs⟩)
 clear iG; clear cY he
 refine At.rk iF 1 [(34, pt aC.heap.size 1)] (.b 1 2 <| .n) (fun oF iH => ?_)
 clear iF
 refine At.store iH (t := 22) (b := aC.heap.size) (off := 1) (v := .slice aE ((List.replicate (((g.ow.length : Nat) : Int) : Int).toNat (gI ([-1] : List Int) 0)).length) aK) κ eC κ (fun oG aL cZ aP iI => ?_)
 clear iH
 replace aP : Bx aL (aC.heap.size) [.slice aJ ((List.replicate (((g.ow.length : Nat) : Int) : Int).toNat (gI ([-1] : List Int) 0)).length) aN, .slice aE ((List.replicate (((g.ow.length : Nat) : Int) : Int).toNat (gI ([-1] : List Int) 0)).length) aK] 29 := aP
 have := cZ.size; replace e0 := e0.gr cZ (fun k h => by injection h; omega); replace r9 := r9.gb cZ ω; replace aD := aD.gb cZ ω; replace bx6 := bx6.gb cZ ω; replace aF := aF.gb cZ ω; replace aG := aG.gb cZ ω; replace aO := aO.gb cZ ω; replace aI := aI.gr cZ (fun k hk e => by have := Sx_base hk; injection e; omega); replace eK := eK.gb cZ ω
 replace aM := aM.gr cZ (fun k hk e => by have := Sx_base hk; injection e; omega); clear eC cZ
 refine At.done rfl ?_
 refine b_n ?_
 refine t_n ?_
 clear eK
 refine At.start ?_
 refine At.rk iI 2 [(27, .int .i64 (2))] (.v 35 (show (.int .i64 (IntKind.i64.wrap (1 + 1)) : Value) = .int .i64 (2) from κ) <| .n) (fun oH iJ => ?_)
 clear iI
 refine At.dn ?_
 have iK := iJ.sb (r := [(27, .int .i64 (2)), (8, pt aC.heap.size 0), (7, pt aA.heap.size 0), (6, pt aB.heap.size 0), (3, .int .i64 (0)), (2, pt w1.heap.size 0), (1, pt w.heap.size 0)])
 clear iJ
 refine loop_u ?_
 refine sqs ?_
 refine At.rk iK 1 [(28, .bool false)] (.v 28 (show (.bool (decide ((2 : Int) < 2)) : Value) = .bool false from κ) <| .n) (fun oI gB => ?_)
 clear iK
 refine At.dn ?_
 refine wp_seq ?_
 refine cond_F gB rfl ?_
 refine wp_exit ?_
 refine t_e ?_
 refine t_e ?_
 refine b_e ?_
 refine t_n ?_
 refine sqs ?_
 refine At.rk gB 1 [(36, .func (.func 37) #[] #[pt aC.heap.size 0])] .n (fun oJ iL => ?_)
 clear gB
 refine At.bx iL 10 [.nilFunc] 64 (fun oK dA gC oL iM => ?_)
 clear iL; have := dA.size; replace e0 := e0.gn dA; replace r9 := r9.gn dA; replace aD := aD.gn dA; replace bx6 := bx6.gn dA; replace aF := aF.gn dA; replace aG := aG.gn dA; replace aO := aO.gn dA; replace aP := aP.gn dA; replace aI := aI.grN dA; replace aM := aM.grN dA; have := gC.lt; clear dA
 refine At.store iM (t := 64) (b := aL.heap.size) (off := 0) (v := .func (.func 37) #[] #[pt aC.heap.size 0]) κ gC κ (fun oM aH dB aQ iN => ?_)
 clear iM; replace aQ : Bx aH (aL.heap.size) [.func (.func 37) #[] #[pt aC.heap.size 0]] 64 := aQ; have := dB.size; replace e0 := e0.gr dB (fun k h => by injection h; omega); replace r9 := r9.gb dB ω; replace aD := aD.gb dB ω; replace bx6 := bx6.gb dB ω; replace aF := aF.gb dB ω; replace aG := aG.gb dB ω; replace aO := aO.gb dB ω; replace aP := aP.gb dB ω; replace aI := aI.gr dB (fun k hk => hk.1)
 replace aM := aM.gr dB (fun k hk => hk.1); clear gC dB
 refine At.dn ?_
 refine sqs ?_
 refine At.bx iN 11 [.nilFunc] 65 (fun oN cO gD oO iO => ?_)
 clear iN; have := cO.size; replace e0 := e0.gn cO; replace r9 := r9.gn cO; replace aD := aD.gn cO; replace bx6 := bx6.gn cO; replace aF := aF.gn cO; replace aG := aG.gn cO; replace aO := aO.gn cO; replace aP := aP.gn cO; replace aI := aI.grN cO; replace aM := aM.grN cO; replace aQ := aQ.gn cO; have := gD.lt; clear cO
 refine At.dn ?_
 refine sqs ?_
 refine At.rk iO 1 [(37, .func (.func 38) #[] #[pt aA.heap.size 0, pt w.heap.size 0, pt aH.heap.size 0, pt aL.heap.size 0, pt aC.heap.size 0, pt aB.heap.size 0])] .n (fun oP iP => ?_)
 clear iO
 refine At.store iP (t := 65) (b := aH.heap.size) (off := 0) (v := .func (.func 38) #[] #[pt aA.heap.size 0, pt w.heap.size 0, pt aH.heap.size 0, pt aL.heap.size 0, pt aC.heap.size 0, pt aB.heap.size 0]) κ gD κ (fun oQ fO cP aR gE => ?_)
 clear iP
 replace aR : Bx fO (aH.heap.size) [.func (.func 38) #[] #[pt aA.heap.size 0, pt w.heap.size 0, pt aH.heap.size 0, pt aL.heap.size 0, pt aC.heap.size 0, pt aB.heap.size 0]] 65 := aR
 have := cP.size; replace e0 := e0.gr cP (fun k h => by injection h; omega); replace r9 := r9.gb cP ω; replace aD := aD.gb cP ω; replace bx6 := bx6.gb cP ω; replace aF := aF.gb cP ω; replace aG := aG.gb cP ω; replace aO := aO.gb cP ω; replace aP := aP.gb cP ω; replace aI := aI.gr cP (fun k hk => hk.1); replace aM := aM.gr cP (fun k hk => hk.1); replace aQ := aQ.gb cP ω; clear gD cP
 refine At.dn ?_
 refine wp_seq (cut (fun a_ w_ => ∃ (sa : List Int) (sb : List Int) (na : List Int) (nb : List Int) (da : Int) (aX : Nat), (Frm 83 a_ [(12, pt aX 0), (8, pt aC.heap.size 0), (7, pt aA.heap.size 0), (6, pt aB.heap.size 0), (3, .int .i64 (0)), (2, pt w1.heap.size 0), (1, pt w.heap.size 0)]) ∧ (Ext w w_) ∧ (RdG w_ 0 w.heap.size Ag0 Ag1 Ag2 cg0 cg1 cg2 g) ∧ (RdT w_ 0 w.heap.size) ∧ (Bx w_ (w.heap.size) [.slice Ag0 g.ow.length cg0, .slice Ag1 g.pr.length cg1, .slice Ag2 g.mv.length cg2] 25) ∧ (Bx w_ (w1.heap.size) [.slice none 0 0, .slice none 0 0, .slice none 0 0, .slice none 0 0] 32) ∧ (Bx w_ (aB.heap.size) [.int .i64 (((g.ow.length : Nat) : Int))] 3) ∧ (Bx w_ (aA.heap.size) [.int .i64 (da)] 3) ∧ (Bx w_ (aC.heap.size) [.slice aJ ((List.replicate (((g.ow.length : Nat) : Int) : Int).toNat (gI ([-1] : List Int) 0)).length) aN, .slice aE ((List.replicate (((g.ow.length : Nat) : Int) : Int).toNat (gI ([-1] : List Int) 0)).length) aK] 29) ∧ (OwnR w_ (Sx (cW.heap.size) [some (aH.heap.size), some (aL.heap.size), obk (aE), some (aX)]) aJ aN 3 (na : List Int)) ∧ (OwnR w_ (Sx (cX.heap.size) [some (aH.heap.size), some (aL.heap.size), obk (aJ), some (aX)]) aE aK 3 (nb : List Int)) ∧ (Bx w_ (aL.heap.size) [.func (.func 37) #[] #[pt aC.heap.size 0]] 64) ∧ (Bx w_ (aH.heap.size) [.func (.func 38) #[] #[pt aA.heap.size 0, pt w.heap.size 0, pt aH.heap.size 0, pt aL.heap.size 0, pt aC.heap.size 0, pt aB.heap.size 0]] 65) ∧ (Bx w_ (aX) ((sa ++ sb : List Int).map wV) 67) ∧ (fO.heap.size ≤ aX) ∧ (fO.heap.size ≤ w_.heap.size) ∧ (PartS g (fullW ((g.ow.length : Nat) : Int)) 0 sa sb (List.replicate (((g.ow.length : Nat) : Int) : Int).toNat (gI ([-1] : List Int) 0)) (List.replicate (((g.ow.length : Nat) : Int) : Int).toNat (gI ([-1] : List Int) 0)) na nb) ∧ (1 ≤ da) ∧ (da ≤ max 0 (1 + lenW (fullW ((g.ow.length : Nat) : Int))))) ?_ ?_)
 ·obtain ⟨iQ, dV⟩ : ∃ c : List (Addr × Value), c = [(⟨aH.heap.size, 0, none⟩, (.func (.func 38) #[] #[pt aA.heap.size 0, pt w.heap.size 0, pt aH.heap.size 0, pt aL.heap.size 0, pt aC.heap.size 0, pt aB.heap.size 0])), (⟨aB.heap.size, 0, none⟩, (.int .i64 (((g.ow.length : Nat) : Int))))] := ⟨_, rfl⟩
  have iR : HoldsC iQ fO := by rw [dV]; exact ⟨(aR.cell (i := 0) rfl), (aG.cell (i := 0) rfl), trivial⟩
  refine AtH.start iQ 6 _ κ rfl rfl (fun gF iS => ?_)
  have bR := gr_drew iS; have gG := iR.gr bR; have := bR.size; replace e0 := e0.gn bR; replace r9 := r9.gn bR; replace aD := aD.gn bR; replace bx6 := bx6.gn bR; replace aF := aF.gn bR; replace aG := aG.gn bR; replace aO := aO.gn bR; replace aP := aP.gn bR; replace aI := aI.gn bR; replace aM := aM.gn bR; replace aQ := aQ.gn bR; replace aR := aR.gn bR; clear bR iS iR
  refine AtH.rk gG gE [0, 1] 4 [(39, .int .i64 (((g.ow.length : Nat) : Int))), (38, .func (.func 38) #[] #[pt aA.heap.size 0, pt w.heap.size 0, pt aH.heap.size 0, pt aL.heap.size 0, pt aC.heap.size 0, pt aB.heap.size 0])] (.l (CsC_at dV 0 rfl) <| .l (CsC_at dV 1 rfl) <| .n) (fun oR fP => ?_)
  clear gE
  refine AtH.all [2, 4] 3 κ (by simp) ⟨?_, ?_, trivial⟩
  ·refine OneH.cl fP (some 40) (full_any (n := ((g.ow.length : Nat) : Int)) ω) ?_
   rintro e_ gH ⟨rfl, he⟩
   refine ⟨_, rfl, _, rfl, fun oS fQ => ?_⟩
   clear fP; have bS := gr_ext he; have gJ := gG.gr bS; have := bS.size; replace e0 := e0.gn bS; replace r9 := r9.gn bS; replace aD := aD.gn bS; replace bx6 := bx6.gn bS; replace aF := aF.gn bS; replace aG := aG.gn bS; replace aO := aO.gn bS; replace aP := aP.gn bS; replace aI := aI.gn bS; replace aM := aM.gn bS; replace aQ := aQ.gn bS; replace aR := aR.gn bS; clear bS he
   refine ⟨gJ, ?_⟩
   refine AtH.all [3, 4] 2 κ (by simp) ⟨?_, ?_, trivial⟩
   ·have hT_ : ∀ k, DecS.T (⟨aA.heap.size, w.heap.size, aH.heap.size, aL.heap.size, aC.heap.size, aB.heap.size, aJ, aE, aN, aK, Ag0, Ag1, Ag2, cg0, cg1, cg2, w.heap.size, g⟩ : DecS) k → w.heap.size ≤ k := fun k (hk : obk (aJ) = some k ∨ obk (aE) = some k ∨ k = aA.heap.size) => hk.elim (fun h_ => by have := aI.ge k h_; omega) (fun h2_ => h2_.elim (fun h_ => by have := aM.ge k h_; omega) (fun h_ => by omega))
    have hK_ : DecK (⟨aA.heap.size, w.heap.size, aH.heap.size, aL.heap.size, aC.heap.size, aB.heap.size, aJ, aE, aN, aK, Ag0, Ag1, Ag2, cg0, cg1, cg2, w.heap.size, g⟩ : DecS) := ⟨hR, ⟨(show aA.heap.size ≠ w.heap.size by omega), (show aA.heap.size ≠ aH.heap.size by omega), (show aA.heap.size ≠ aL.heap.size by omega), (show aA.heap.size ≠ aC.heap.size by omega), (show aA.heap.size ≠ aB.heap.size by omega)⟩, (show w.heap.size ≤ aA.heap.size by omega), hT_⟩
    refine OneH.cl fQ (some 41) (part_any hK_ 257 (fullW ((g.ow.length : Nat) : Int)) (by have := (lenW_le (fullW ((g.ow.length : Nat) : Int))).2; omega) (List.replicate (((g.ow.length : Nat) : Int) : Int).toNat (gI ([-1] : List Int) 0)) (List.replicate (((g.ow.length : Nat) : Int) : Int).toNat (gI ([-1] : List Int) 0)) 0 1 _ ⟨aO, bx6, aR, aQ, (aP.as (by first | rfl | (simp only [List.cons.injEq, Value.slice.injEq, true_and, and_true, List.length_replicate]; omega))), aG, (aI.self.imp (fun g_ hg_ hs => ⟨hs.1.2.2.1, (fun e => by have := Sx_base hs.1; have e2 := Option.some.inj (show some (aA.heap.size) = some g_ from e); omega), (fun e => by have := Sx_base hs.1; have e2 := Option.some.inj (show some (w.heap.size) = some g_ from e); omega), hs.1.1, hs.1.2.1, (fun e => by have := Sx_base hs.1; have e2 := Option.some.inj (show some (aC.heap.size) = some g_ from e); omega), (fun e => by have := Sx_base hs.1; have e2 := Option.some.inj (show some (aB.heap.size) = some g_ from e); omega), .inl hs.2⟩)), (aM.self.imp (fun g_ hg_ hs => ⟨hs.1.2.2.1, (fun e => by have := Sx_base hs.1; have e2 := Option.some.inj (show some (aA.heap.size) = some g_ from e); omega), (fun e => by have := Sx_base hs.1; have e2 := Option.some.inj (show some (w.heap.size) = some g_ from e); omega), hs.1.1, hs.1.2.1, (fun e => by have := Sx_base hs.1; have e2 := Option.some.inj (show some (aC.heap.size) = some g_ from e); omega), (fun e => by have := Sx_base hs.1; have e2 := Option.some.inj (show some (aB.heap.size) = some g_ from e); omega), .inr (.inl hs.2)⟩)), r9, aD⟩ ⟨fullW_W _, live_full hR, (show _ = g.ow.length from hrl_), (show _ = g.ow.length from hrl_), by omega, by omega, by omega, by have := (lenW_le (fullW ((g.ow.length : Nat) : Int))).2; omega⟩) ?_
    rintro e_ fF ⟨sa, sb, na, nb, da, rfl, hex, hbd_, hr0_, hr1_, hpa, hd1_, hd2_, hd3_⟩
    replace hbd_ : Bx fF (aA.heap.size) [.int .i64 (da)] 3 := hbd_; replace hr0_ : OwnR fF (fun _ => True) aJ aN 3 (na : List Int) := hr0_; replace hr1_ : OwnR fF (fun _ => True) aE aK 3 (nb : List Int) := hr1_
    change Tch (DecS.T (⟨aA.heap.size, w.heap.size, aH.heap.size, aL.heap.size, aC.heap.size, aB.heap.size, aJ, aE, aN, aK, Ag0, Ag1, Ag2, cg0, cg1, cg2, w.heap.size, g⟩ : DecS)) _ _ at hex
    have hpa : PartS g (fullW ((g.ow.length : Nat) : Int)) 0 sa sb (List.replicate (((g.ow.length : Nat) : Int) : Int).toNat (gI ([-1] : List Int) 0)) (List.replicate (((g.ow.length : Nat) : Int) : Int).toNat (gI ([-1] : List Int) 0)) na nb := hpa
    have hd3_ : da ≤ max 0 (1 + lenW (fullW ((g.ow.length : Nat) : Int))) := hd3_; have hlaa_ := hpa.lp; have hlbb_ := hpa.lq; have hok_sa := hpa.okp; have hok_sb := hpa.okq; have hl4_sa := okLen hok_sa; have hl4_sb := okLen hok_sb
    refine ⟨_, rfl, _, rfl, fun oT iT => ?_⟩
    clear fQ
    have iU := gJ.tch hex (by rw [dV]; exact ⟨(show ¬ _ from by simp only [add_block]; exact (DecS.not (x := (⟨aA.heap.size, w.heap.size, aH.heap.size, aL.heap.size, aC.heap.size, aB.heap.size, aJ, aE, aN, aK, Ag0, Ag1, Ag2, cg0, cg1, cg2, w.heap.size, g⟩ : DecS)) (aI.neb (fun g hs => hs.1)) (aM.neb (fun g hs => hs.1)) (show aA.heap.size ≠ aH.heap.size by omega))), (show ¬ _ from by simp only [add_block]; exact (DecS.not (x := (⟨aA.heap.size, w.heap.size, aH.heap.size, aL.heap.size, aC.heap.size, aB.heap.size, aJ, aE, aN, aK, Ag0, Ag1, Ag2, cg0, cg1, cg2, w.heap.size, g⟩ : DecS)) (fun e => by have := aI.ge _ e; omega) (fun e => by have := aM.ge _ e; omega) (show aA.heap.size ≠ aB.heap.size by omega))), trivial⟩)
    have := hex.size; replace e0 := e0.tch hex hT_; replace r9 := r9.tch hex (fun k hk => .inr (by have := hT_ k hk; omega)); replace aD := aD.tch hex (fun k hk => .inr (by have := hT_ k hk; omega))
    replace bx6 := bx6.tch hex (DecS.not (x := (⟨aA.heap.size, w.heap.size, aH.heap.size, aL.heap.size, aC.heap.size, aB.heap.size, aJ, aE, aN, aK, Ag0, Ag1, Ag2, cg0, cg1, cg2, w.heap.size, g⟩ : DecS)) (fun e => by have := aI.ge _ e; omega) (fun e => by have := aM.ge _ e; omega) (show aA.heap.size ≠ w.heap.size by omega))
    replace aF := aF.tch hex (DecS.not (x := (⟨aA.heap.size, w.heap.size, aH.heap.size, aL.heap.size, aC.heap.size, aB.heap.size, aJ, aE, aN, aK, Ag0, Ag1, Ag2, cg0, cg1, cg2, w.heap.size, g⟩ : DecS)) (fun e => by have := aI.ge _ e; omega) (fun e => by have := aM.ge _ e; omega) (show aA.heap.size ≠ w1.heap.size by omega))
    replace aG := aG.tch hex (DecS.not (x := (⟨aA.heap.size, w.heap.size, aH.heap.size, aL.heap.size, aC.heap.size, aB.heap.size, aJ, aE, aN, aK, Ag0, Ag1, Ag2, cg0, cg1, cg2, w.heap.size, g⟩ : DecS)) (fun e => by have := aI.ge _ e; omega) (fun e => by have := aM.ge _ e; omega) (show aA.heap.size ≠ aB.heap.size by omega))
    clear aO
    replace aP := aP.tch hex (DecS.not (x := (⟨aA.heap.size, w.heap.size, aH.heap.size, aL.heap.size, aC.heap.size, aB.heap.size, aJ, aE, aN, aK, Ag0, Ag1, Ag2, cg0, cg1, cg2, w.heap.size, g⟩ : DecS)) (fun e => by have := aI.ge _ e; omega) (fun e => by have := aM.ge _ e; omega) (show aA.heap.size ≠ aC.heap.size by omega))
    have eL := OwnR.reS aI hr0_; clear aI hr0_; have eM := OwnR.reS aM hr1_; clear aM hr1_
    replace aQ := aQ.tch hex (DecS.not (x := (⟨aA.heap.size, w.heap.size, aH.heap.size, aL.heap.size, aC.heap.size, aB.heap.size, aJ, aE, aN, aK, Ag0, Ag1, Ag2, cg0, cg1, cg2, w.heap.size, g⟩ : DecS)) (eL.neb (fun g hs => hs.2.1)) (eM.neb (fun g hs => hs.2.1)) (show aA.heap.size ≠ aL.heap.size by omega))
    replace aR := aR.tch hex (DecS.not (x := (⟨aA.heap.size, w.heap.size, aH.heap.size, aL.heap.size, aC.heap.size, aB.heap.size, aJ, aE, aN, aK, Ag0, Ag1, Ag2, cg0, cg1, cg2, w.heap.size, g⟩ : DecS)) (eL.neb (fun g hs => hs.1)) (eM.neb (fun g hs => hs.1)) (show aA.heap.size ≠ aH.heap.size by omega))
    clear hex
    refine ⟨iU, ?_⟩
    refine AtH.all [4] 1 κ (by simp) ⟨?_, trivial⟩
    refine OneH.bx iT iU 12 ((([0, 0, 0, 0]) ++ ([0, 0, 0, 0]) : List Int).map wV) 67 (fun oU cB gK lN oV iV => ?_)
    clear iT; have := cB.size; replace e0 := e0.gn cB; replace r9 := r9.gn cB; replace aD := aD.gn cB; replace bx6 := bx6.gn cB; replace aF := aF.gn cB; replace aG := aG.gn cB; have gL := hbd_.gn cB; clear hbd_; replace aP := aP.gn cB; replace eL := eL.grN cB; replace eM := eM.grN cB; replace aQ := aQ.gn cB; replace aR := aR.gn cB; have := gK.lt; clear cB
    refine AtH.all [5] 0 κ (by simp) ⟨?_, trivial⟩
    refine OneH.act iV _ rfl (storeBlk (t := 67) (b := fF.heap.size) (n := 8) (cs' := ((sa ++ sb : List Int).map wV)) κ κ (len8 σ σ) oneW_ ((show ((sa ++ sb : List Int).map wV).length = 8 from (len8 σ σ)).trans (show ((([0, 0, 0, 0]) ++ ([0, 0, 0, 0]) : List Int).map wV).length = 8 from (len8 (okLen okW_00) (okLen okW_00))).symm) gK) ?_
    rintro d_ v_ oW ⟨rfl, bT, lO⟩
    have iW := lN.gr' bT (by rw [dV]; exact ⟨(by simp only [add_block]; omega), (by simp only [add_block]; omega), trivial⟩)
    refine ⟨_, rfl, fun oX lP => ⟨iW, ?_⟩⟩
    clear iV; have := bT.size; replace e0 := e0.gr bT (fun k h => by injection h; omega); replace r9 := r9.gb bT ω; replace aD := aD.gb bT ω; replace bx6 := bx6.gb bT ω; replace aF := aF.gb bT ω; replace aG := aG.gb bT ω; replace gL := gL.gb bT ω; replace aP := aP.gb bT ω; replace eL := eL.gr bT (fun k hk => hk.1); replace eM := eM.gr bT (fun k hk => hk.1); replace aQ := aQ.gb bT ω
    replace aR := aR.gb bT ω; clear gK bT
    refine AtH.done κ ?_
    clear iW
    refine t_n ?_
    exact ⟨sa, sb, na, nb, da, fF.heap.size, lP.sb, e0, r9, aD, bx6, aF, aG, gL, aP, (eL.imp (fun g _ hs => ⟨hs.2.1, hs.2.2.1, hs.2.2.2.1, hs.1, (by have := Sx_base hs; show cW.heap.size ≤ g; omega)⟩)), (eM.imp (fun g _ hs => ⟨hs.2.1, hs.2.2.1, hs.2.2.2.1, hs.1, (by have := Sx_base hs; show cX.heap.size ≤ g; omega)⟩)), aQ, aR, lO, ω, ω, hpa, hd2_, hd3_⟩
   refine OneH.bx fQ gJ 12 ((([0, 0, 0, 0]) ++ ([0, 0, 0, 0]) : List Int).map wV) 67 (fun oY cC fG lQ oZ iX => ?_)
   clear fQ; have := cC.size; replace e0 := e0.gn cC; replace r9 := r9.gn cC; replace aD := aD.gn cC; replace bx6 := bx6.gn cC; replace aF := aF.gn cC; replace aG := aG.gn cC; replace aO := aO.gn cC; replace aP := aP.gn cC; replace aI := aI.grN cC; replace aM := aM.grN cC; replace aQ := aQ.gn cC; replace aR := aR.gn cC; have := fG.lt; clear cC
   refine AtH.all [3] 1 κ (by simp) ⟨?_, trivial⟩
   have hT_ : ∀ k, DecS.T (⟨aA.heap.size, w.heap.size, aH.heap.size, aL.heap.size, aC.heap.size, aB.heap.size, aJ, aE, aN, aK, Ag0, Ag1, Ag2, cg0, cg1, cg2, w.heap.size, g⟩ : DecS) k → w.heap.size ≤ k := fun k (hk : obk (aJ) = some k ∨ obk (aE) = some k ∨ k = aA.heap.size) => hk.elim (fun h_ => by have := aI.ge k h_; omega) (fun h2_ => h2_.elim (fun h_ => by have := aM.ge k h_; omega) (fun h_ => by omega))
   have hK_ : DecK (⟨aA.heap.size, w.heap.size, aH.heap.size, aL.heap.size, aC.heap.size, aB.heap.size, aJ, aE, aN, aK, Ag0, Ag1, Ag2, cg0, cg1, cg2, w.heap.size, g⟩ : DecS) := ⟨hR, ⟨(show aA.heap.size ≠ w.heap.size by omega), (show aA.heap.size ≠ aH.heap.size by omega), (show aA.heap.size ≠ aL.heap.size by omega), (show aA.heap.size ≠ aC.heap.size by omega), (show aA.heap.size ≠ aB.heap.size by omega)⟩, (show w.heap.size ≤ aA.heap.size by omega), hT_⟩
   refine OneH.cl iX (some 41) (part_any hK_ 257 (fullW ((g.ow.length : Nat) : Int)) (by have := (lenW_le (fullW ((g.ow.length : Nat) : Int))).2; omega) (List.replicate (((g.ow.length : Nat) : Int) : Int).toNat (gI ([-1] : List Int) 0)) (List.replicate (((g.ow.length : Nat) : Int) : Int).toNat (gI ([-1] : List Int) 0)) 0 1 _ ⟨aO, bx6, aR, aQ, (aP.as (by first | rfl | (simp only [List.cons.injEq, Value.slice.injEq, true_and, and_true, List.length_replicate]; omega))), aG, (aI.self.imp (fun g_ hg_ hs => ⟨hs.1.2.2.2.1, (fun e => by have := Sx_base hs.1; have e2 := Option.some.inj (show some (aA.heap.size) = some g_ from e); omega), (fun e => by have := Sx_base hs.1; have e2 := Option.some.inj (show some (w.heap.size) = some g_ from e); omega), hs.1.2.1, hs.1.2.2.1, (fun e => by have := Sx_base hs.1; have e2 := Option.some.inj (show some (aC.heap.size) = some g_ from e); omega), (fun e => by have := Sx_base hs.1; have e2 := Option.some.inj (show some (aB.heap.size) = some g_ from e); omega), .inl hs.2⟩)), (aM.self.imp (fun g_ hg_ hs => ⟨hs.1.2.2.2.1, (fun e => by have := Sx_base hs.1; have e2 := Option.some.inj (show some (aA.heap.size) = some g_ from e); omega), (fun e => by have := Sx_base hs.1; have e2 := Option.some.inj (show some (w.heap.size) = some g_ from e); omega), hs.1.2.1, hs.1.2.2.1, (fun e => by have := Sx_base hs.1; have e2 := Option.some.inj (show some (aC.heap.size) = some g_ from e); omega), (fun e => by have := Sx_base hs.1; have e2 := Option.some.inj (show some (aB.heap.size) = some g_ from e); omega), .inr (.inl hs.2)⟩)), r9, aD⟩ ⟨fullW_W _, live_full hR, (show _ = g.ow.length from hrl_), (show _ = g.ow.length from hrl_), by omega, by omega, by omega, by have := (lenW_le (fullW ((g.ow.length : Nat) : Int))).2; omega⟩) ?_
   rintro e_ gM ⟨sa, sb, na, nb, da, rfl, hex, hbd_, hr0_, hr1_, hpa, hd1_, hd2_, hd3_⟩
   replace hbd_ : Bx gM (aA.heap.size) [.int .i64 (da)] 3 := hbd_; replace hr0_ : OwnR gM (fun _ => True) aJ aN 3 (na : List Int) := hr0_; replace hr1_ : OwnR gM (fun _ => True) aE aK 3 (nb : List Int) := hr1_
   change Tch (DecS.T (⟨aA.heap.size, w.heap.size, aH.heap.size, aL.heap.size, aC.heap.size, aB.heap.size, aJ, aE, aN, aK, Ag0, Ag1, Ag2, cg0, cg1, cg2, w.heap.size, g⟩ : DecS)) _ _ at hex
   have hpa : PartS g (fullW ((g.ow.length : Nat) : Int)) 0 sa sb (List.replicate (((g.ow.length : Nat) : Int) : Int).toNat (gI ([-1] : List Int) 0)) (List.replicate (((g.ow.length : Nat) : Int) : Int).toNat (gI ([-1] : List Int) 0)) na nb := hpa
   have hd3_ : da ≤ max 0 (1 + lenW (fullW ((g.ow.length : Nat) : Int))) := hd3_; have hlaa_ := hpa.lp; have hlbb_ := hpa.lq; have hok_sa := hpa.okp; have hok_sb := hpa.okq; have hl4_sa := okLen hok_sa; have hl4_sb := okLen hok_sb
   refine ⟨_, rfl, _, rfl, fun pA iY => ?_⟩
   clear iX
   have iZ := lQ.tch hex (by rw [dV]; exact ⟨(show ¬ _ from by simp only [add_block]; exact (DecS.not (x := (⟨aA.heap.size, w.heap.size, aH.heap.size, aL.heap.size, aC.heap.size, aB.heap.size, aJ, aE, aN, aK, Ag0, Ag1, Ag2, cg0, cg1, cg2, w.heap.size, g⟩ : DecS)) (aI.neb (fun g hs => hs.2.1)) (aM.neb (fun g hs => hs.2.1)) (show aA.heap.size ≠ aH.heap.size by omega))), (show ¬ _ from by simp only [add_block]; exact (DecS.not (x := (⟨aA.heap.size, w.heap.size, aH.heap.size, aL.heap.size, aC.heap.size, aB.heap.size, aJ, aE, aN, aK, Ag0, Ag1, Ag2, cg0, cg1, cg2, w.heap.size, g⟩ : DecS)) (fun e => by have := aI.ge _ e; omega) (fun e => by have := aM.ge _ e; omega) (show aA.heap.size ≠ aB.heap.size by omega))), trivial⟩)
   have := hex.size; replace e0 := e0.tch hex hT_; replace r9 := r9.tch hex (fun k hk => .inr (by have := hT_ k hk; omega)); replace aD := aD.tch hex (fun k hk => .inr (by have := hT_ k hk; omega))
   replace bx6 := bx6.tch hex (DecS.not (x := (⟨aA.heap.size, w.heap.size, aH.heap.size, aL.heap.size, aC.heap.size, aB.heap.size, aJ, aE, aN, aK, Ag0, Ag1, Ag2, cg0, cg1, cg2, w.heap.size, g⟩ : DecS)) (fun e => by have := aI.ge _ e; omega) (fun e => by have := aM.ge _ e; omega) (show aA.heap.size ≠ w.heap.size by omega))
   replace aF := aF.tch hex (DecS.not (x := (⟨aA.heap.size, w.heap.size, aH.heap.size, aL.heap.size, aC.heap.size, aB.heap.size, aJ, aE, aN, aK, Ag0, Ag1, Ag2, cg0, cg1, cg2, w.heap.size, g⟩ : DecS)) (fun e => by have := aI.ge _ e; omega) (fun e => by have := aM.ge _ e; omega) (show aA.heap.size ≠ w1.heap.size by omega))
   replace aG := aG.tch hex (DecS.not (x := (⟨aA.heap.size, w.heap.size, aH.heap.size, aL.heap.size, aC.heap.size, aB.heap.size, aJ, aE, aN, aK, Ag0, Ag1, Ag2, cg0, cg1, cg2, w.heap.size, g⟩ : DecS)) (fun e => by have := aI.ge _ e; omega) (fun e => by have := aM.ge _ e; omega) (show aA.heap.size ≠ aB.heap.size by omega))
   clear aO
   replace aP := aP.tch hex (DecS.not (x := (⟨aA.heap.size, w.heap.size, aH.heap.size, aL.heap.size, aC.heap.size, aB.heap.size, aJ, aE, aN, aK, Ag0, Ag1, Ag2, cg0, cg1, cg2, w.heap.size, g⟩ : DecS)) (fun e => by have := aI.ge _ e; omega) (fun e => by have := aM.ge _ e; omega) (show aA.heap.size ≠ aC.heap.size by omega))
   have eT := OwnR.reS aI hr0_; clear aI hr0_; have eU := OwnR.reS aM hr1_; clear aM hr1_
   replace aQ := aQ.tch hex (DecS.not (x := (⟨aA.heap.size, w.heap.size, aH.heap.size, aL.heap.size, aC.heap.size, aB.heap.size, aJ, aE, aN, aK, Ag0, Ag1, Ag2, cg0, cg1, cg2, w.heap.size, g⟩ : DecS)) (eT.neb (fun g hs => hs.2.2.1)) (eU.neb (fun g hs => hs.2.2.1)) (show aA.heap.size ≠ aL.heap.size by omega))
   replace aR := aR.tch hex (DecS.not (x := (⟨aA.heap.size, w.heap.size, aH.heap.size, aL.heap.size, aC.heap.size, aB.heap.size, aJ, aE, aN, aK, Ag0, Ag1, Ag2, cg0, cg1, cg2, w.heap.size, g⟩ : DecS)) (eT.neb (fun g hs => hs.2.1)) (eU.neb (fun g hs => hs.2.1)) (show aA.heap.size ≠ aH.heap.size by omega))
   replace fG := fG.tch hex (DecS.not (x := (⟨aA.heap.size, w.heap.size, aH.heap.size, aL.heap.size, aC.heap.size, aB.heap.size, aJ, aE, aN, aK, Ag0, Ag1, Ag2, cg0, cg1, cg2, w.heap.size, g⟩ : DecS)) (eT.neb (fun g hs => hs.1)) (eU.neb (fun g hs => hs.1)) (show aA.heap.size ≠ gH.heap.size by omega))
   clear hex
   refine ⟨iZ, ?_⟩
   refine AtH.all [5] 0 κ (by simp) ⟨?_, trivial⟩
   refine OneH.act iY _ rfl (storeBlk (t := 67) (b := gH.heap.size) (n := 8) (cs' := ((sa ++ sb : List Int).map wV)) κ κ (len8 σ σ) oneW_ ((show ((sa ++ sb : List Int).map wV).length = 8 from (len8 σ σ)).trans (show ((([0, 0, 0, 0]) ++ ([0, 0, 0, 0]) : List Int).map wV).length = 8 from (len8 (okLen okW_00) (okLen okW_00))).symm) fG) ?_
   rintro d_ v_ pB ⟨rfl, bU, lR⟩
   have jA := iZ.gr' bU (by rw [dV]; exact ⟨(by simp only [add_block]; omega), (by simp only [add_block]; omega), trivial⟩)
   refine ⟨_, rfl, fun pC lS => ⟨jA, ?_⟩⟩
   clear iY; have := bU.size; replace e0 := e0.gr bU (fun k h => by injection h; omega); replace r9 := r9.gb bU ω; replace aD := aD.gb bU ω; replace bx6 := bx6.gb bU ω; replace aF := aF.gb bU ω; replace aG := aG.gb bU ω; have lT := hbd_.gb bU ω; clear hbd_; replace aP := aP.gb bU ω; replace eT := eT.gr bU (fun k hk => hk.1); replace eU := eU.gr bU (fun k hk => hk.1); replace aQ := aQ.gb bU ω
   replace aR := aR.gb bU ω; clear fG bU
   refine AtH.done κ ?_
   clear jA
   refine t_n ?_
   exact ⟨sa, sb, na, nb, da, gH.heap.size, lS.sb, e0, r9, aD, bx6, aF, aG, lT, aP, (eT.imp (fun g _ hs => ⟨hs.2.1, hs.2.2.1, hs.2.2.2.1, hs.1, (by have := Sx_base hs; show cW.heap.size ≤ g; omega)⟩)), (eU.imp (fun g _ hs => ⟨hs.2.1, hs.2.2.1, hs.2.2.2.1, hs.1, (by have := Sx_base hs; show cX.heap.size ≤ g; omega)⟩)), aQ, aR, lR, ω, ω, hpa, hd2_, hd3_⟩
  refine OneH.bx fP gG 12 ((([0, 0, 0, 0]) ++ ([0, 0, 0, 0]) : List Int).map wV) 67 (fun pD cD eN lU pE jB => ?_)
  clear fP; have := cD.size; replace e0 := e0.gn cD; replace r9 := r9.gn cD; replace aD := aD.gn cD; replace bx6 := bx6.gn cD; replace aF := aF.gn cD; replace aG := aG.gn cD; replace aO := aO.gn cD; replace aP := aP.gn cD; replace aI := aI.grN cD; replace aM := aM.grN cD; replace aQ := aQ.gn cD; replace aR := aR.gn cD; have := eN.lt; clear cD
  refine AtH.all [2] 2 κ (by simp) ⟨?_, trivial⟩
  refine OneH.cl jB (some 40) (full_any (n := ((g.ow.length : Nat) : Int)) ω) ?_
  rintro e_ pF ⟨rfl, he⟩
  refine ⟨_, rfl, _, rfl, fun pG jC => ?_⟩
  clear jB; have bH := gr_ext he; have jD := lU.gr bH; have := bH.size; replace e0 := e0.gn bH; replace r9 := r9.gn bH; replace aD := aD.gn bH; replace bx6 := bx6.gn bH; replace aF := aF.gn bH; replace aG := aG.gn bH; replace aO := aO.gn bH; replace aP := aP.gn bH; replace aI := aI.gn bH; replace aM := aM.gn bH; replace aQ := aQ.gn bH; replace aR := aR.gn bH; replace eN := eN.gn bH; clear bH he
  refine ⟨jD, ?_⟩
  refine AtH.all [3] 1 κ (by simp) ⟨?_, trivial⟩
  have hT_ : ∀ k, DecS.T (⟨aA.heap.size, w.heap.size, aH.heap.size, aL.heap.size, aC.heap.size, aB.heap.size, aJ, aE, aN, aK, Ag0, Ag1, Ag2, cg0, cg1, cg2, w.heap.size, g⟩ : DecS) k → w.heap.size ≤ k := fun k (hk : obk (aJ) = some k ∨ obk (aE) = some k ∨ k = aA.heap.size) => hk.elim (fun h_ => by have := aI.ge k h_; omega) (fun h2_ => h2_.elim (fun h_ => by have := aM.ge k h_; omega) (fun h_ => by omega))
  have hK_ : DecK (⟨aA.heap.size, w.heap.size, aH.heap.size, aL.heap.size, aC.heap.size, aB.heap.size, aJ, aE, aN, aK, Ag0, Ag1, Ag2, cg0, cg1, cg2, w.heap.size, g⟩ : DecS) := ⟨hR, ⟨(show aA.heap.size ≠ w.heap.size by omega), (show aA.heap.size ≠ aH.heap.size by omega), (show aA.heap.size ≠ aL.heap.size by omega), (show aA.heap.size ≠ aC.heap.size by omega), (show aA.heap.size ≠ aB.heap.size by omega)⟩, (show w.heap.size ≤ aA.heap.size by omega), hT_⟩
  refine OneH.cl jC (some 41) (part_any hK_ 257 (fullW ((g.ow.length : Nat) : Int)) (by have := (lenW_le (fullW ((g.ow.length : Nat) : Int))).2; omega) (List.replicate (((g.ow.length : Nat) : Int) : Int).toNat (gI ([-1] : List Int) 0)) (List.replicate (((g.ow.length : Nat) : Int) : Int).toNat (gI ([-1] : List Int) 0)) 0 1 _ ⟨aO, bx6, aR, aQ, (aP.as (by first | rfl | (simp only [List.cons.injEq, Value.slice.injEq, true_and, and_true, List.length_replicate]; omega))), aG, (aI.self.imp (fun g_ hg_ hs => ⟨hs.1.2.2.2.1, (fun e => by have := Sx_base hs.1; have e2 := Option.some.inj (show some (aA.heap.size) = some g_ from e); omega), (fun e => by have := Sx_base hs.1; have e2 := Option.some.inj (show some (w.heap.size) = some g_ from e); omega), hs.1.2.1, hs.1.2.2.1, (fun e => by have := Sx_base hs.1; have e2 := Option.some.inj (show some (aC.heap.size) = some g_ from e); omega), (fun e => by have := Sx_base hs.1; have e2 := Option.some.inj (show some (aB.heap.size) = some g_ from e); omega), .inl hs.2⟩)), (aM.self.imp (fun g_ hg_ hs => ⟨hs.1.2.2.2.1, (fun e => by have := Sx_base hs.1; have e2 := Option.some.inj (show some (aA.heap.size) = some g_ from e); omega), (fun e => by have := Sx_base hs.1; have e2 := Option.some.inj (show some (w.heap.size) = some g_ from e); omega), hs.1.2.1, hs.1.2.2.1, (fun e => by have := Sx_base hs.1; have e2 := Option.some.inj (show some (aC.heap.size) = some g_ from e); omega), (fun e => by have := Sx_base hs.1; have e2 := Option.some.inj (show some (aB.heap.size) = some g_ from e); omega), .inr (.inl hs.2)⟩)), r9, aD⟩ ⟨fullW_W _, live_full hR, (show _ = g.ow.length from hrl_), (show _ = g.ow.length from hrl_), by omega, by omega, by omega, by have := (lenW_le (fullW ((g.ow.length : Nat) : Int))).2; omega⟩) ?_
  rintro e_ gN ⟨sa, sb, na, nb, da, rfl, hex, hbd_, hr0_, hr1_, hpa, hd1_, hd2_, hd3_⟩
  replace hbd_ : Bx gN (aA.heap.size) [.int .i64 (da)] 3 := hbd_; replace hr0_ : OwnR gN (fun _ => True) aJ aN 3 (na : List Int) := hr0_; replace hr1_ : OwnR gN (fun _ => True) aE aK 3 (nb : List Int) := hr1_
  change Tch (DecS.T (⟨aA.heap.size, w.heap.size, aH.heap.size, aL.heap.size, aC.heap.size, aB.heap.size, aJ, aE, aN, aK, Ag0, Ag1, Ag2, cg0, cg1, cg2, w.heap.size, g⟩ : DecS)) _ _ at hex
  have hpa : PartS g (fullW ((g.ow.length : Nat) : Int)) 0 sa sb (List.replicate (((g.ow.length : Nat) : Int) : Int).toNat (gI ([-1] : List Int) 0)) (List.replicate (((g.ow.length : Nat) : Int) : Int).toNat (gI ([-1] : List Int) 0)) na nb := hpa
  have hd3_ : da ≤ max 0 (1 + lenW (fullW ((g.ow.length : Nat) : Int))) := hd3_; have hlaa_ := hpa.lp; have hlbb_ := hpa.lq; have hok_sa := hpa.okp; have hok_sb := hpa.okq; have hl4_sa := okLen hok_sa; have hl4_sb := okLen hok_sb
  refine ⟨_, rfl, _, rfl, fun pH jE => ?_⟩
  clear jC
  have jF := jD.tch hex (by rw [dV]; exact ⟨(show ¬ _ from by simp only [add_block]; exact (DecS.not (x := (⟨aA.heap.size, w.heap.size, aH.heap.size, aL.heap.size, aC.heap.size, aB.heap.size, aJ, aE, aN, aK, Ag0, Ag1, Ag2, cg0, cg1, cg2, w.heap.size, g⟩ : DecS)) (aI.neb (fun g hs => hs.2.1)) (aM.neb (fun g hs => hs.2.1)) (show aA.heap.size ≠ aH.heap.size by omega))), (show ¬ _ from by simp only [add_block]; exact (DecS.not (x := (⟨aA.heap.size, w.heap.size, aH.heap.size, aL.heap.size, aC.heap.size, aB.heap.size, aJ, aE, aN, aK, Ag0, Ag1, Ag2, cg0, cg1, cg2, w.heap.size, g⟩ : DecS)) (fun e => by have := aI.ge _ e; omega) (fun e => by have := aM.ge _ e; omega) (show aA.heap.size ≠ aB.heap.size by omega))), trivial⟩)
  have := hex.size; replace e0 := e0.tch hex hT_; replace r9 := r9.tch hex (fun k hk => .inr (by have := hT_ k hk; omega)); replace aD := aD.tch hex (fun k hk => .inr (by have := hT_ k hk; omega))
  replace bx6 := bx6.tch hex (DecS.not (x := (⟨aA.heap.size, w.heap.size, aH.heap.size, aL.heap.size, aC.heap.size, aB.heap.size, aJ, aE, aN, aK, Ag0, Ag1, Ag2, cg0, cg1, cg2, w.heap.size, g⟩ : DecS)) (fun e => by have := aI.ge _ e; omega) (fun e => by have := aM.ge _ e; omega) (show aA.heap.size ≠ w.heap.size by omega))
  replace aF := aF.tch hex (DecS.not (x := (⟨aA.heap.size, w.heap.size, aH.heap.size, aL.heap.size, aC.heap.size, aB.heap.size, aJ, aE, aN, aK, Ag0, Ag1, Ag2, cg0, cg1, cg2, w.heap.size, g⟩ : DecS)) (fun e => by have := aI.ge _ e; omega) (fun e => by have := aM.ge _ e; omega) (show aA.heap.size ≠ w1.heap.size by omega))
  replace aG := aG.tch hex (DecS.not (x := (⟨aA.heap.size, w.heap.size, aH.heap.size, aL.heap.size, aC.heap.size, aB.heap.size, aJ, aE, aN, aK, Ag0, Ag1, Ag2, cg0, cg1, cg2, w.heap.size, g⟩ : DecS)) (fun e => by have := aI.ge _ e; omega) (fun e => by have := aM.ge _ e; omega) (show aA.heap.size ≠ aB.heap.size by omega))
  clear aO
  replace aP := aP.tch hex (DecS.not (x := (⟨aA.heap.size, w.heap.size, aH.heap.size, aL.heap.size, aC.heap.size, aB.heap.size, aJ, aE, aN, aK, Ag0, Ag1, Ag2, cg0, cg1, cg2, w.heap.size, g⟩ : DecS)) (fun e => by have := aI.ge _ e; omega) (fun e => by have := aM.ge _ e; omega) (show aA.heap.size ≠ aC.heap.size by omega))
  have eV := OwnR.reS aI hr0_; clear aI hr0_; have eW := OwnR.reS aM hr1_; clear aM hr1_
  replace aQ := aQ.tch hex (DecS.not (x := (⟨aA.heap.size, w.heap.size, aH.heap.size, aL.heap.size, aC.heap.size, aB.heap.size, aJ, aE, aN, aK, Ag0, Ag1, Ag2, cg0, cg1, cg2, w.heap.size, g⟩ : DecS)) (eV.neb (fun g hs => hs.2.2.1)) (eW.neb (fun g hs => hs.2.2.1)) (show aA.heap.size ≠ aL.heap.size by omega))
  replace aR := aR.tch hex (DecS.not (x := (⟨aA.heap.size, w.heap.size, aH.heap.size, aL.heap.size, aC.heap.size, aB.heap.size, aJ, aE, aN, aK, Ag0, Ag1, Ag2, cg0, cg1, cg2, w.heap.size, g⟩ : DecS)) (eV.neb (fun g hs => hs.2.1)) (eW.neb (fun g hs => hs.2.1)) (show aA.heap.size ≠ aH.heap.size by omega))
  replace eN := eN.tch hex (DecS.not (x := (⟨aA.heap.size, w.heap.size, aH.heap.size, aL.heap.size, aC.heap.size, aB.heap.size, aJ, aE, aN, aK, Ag0, Ag1, Ag2, cg0, cg1, cg2, w.heap.size, g⟩ : DecS)) (eV.neb (fun g hs => hs.1)) (eW.neb (fun g hs => hs.1)) (show aA.heap.size ≠ gF.heap.size by omega))
  clear hex
  refine ⟨jF, ?_⟩
  refine AtH.all [5] 0 κ (by simp) ⟨?_, trivial⟩
  refine OneH.act jE _ rfl (storeBlk (t := 67) (b := gF.heap.size) (n := 8) (cs' := ((sa ++ sb : List Int).map wV)) κ κ (len8 σ σ) oneW_ ((show ((sa ++ sb : List Int).map wV).length = 8 from (len8 σ σ)).trans (show ((([0, 0, 0, 0]) ++ ([0, 0, 0, 0]) : List Int).map wV).length = 8 from (len8 (okLen okW_00) (okLen okW_00))).symm) eN) ?_
  rintro d_ v_ pI ⟨rfl, bV, lV⟩
  have jG := jF.gr' bV (by rw [dV]; exact ⟨(by simp only [add_block]; omega), (by simp only [add_block]; omega), trivial⟩)
  refine ⟨_, rfl, fun pJ lW => ⟨jG, ?_⟩⟩
  clear jE; have := bV.size; replace e0 := e0.gr bV (fun k h => by injection h; omega); replace r9 := r9.gb bV ω; replace aD := aD.gb bV ω; replace bx6 := bx6.gb bV ω; replace aF := aF.gb bV ω; replace aG := aG.gb bV ω; have lX := hbd_.gb bV ω; clear hbd_; replace aP := aP.gb bV ω; replace eV := eV.gr bV (fun k hk => hk.1); replace eW := eW.gr bV (fun k hk => hk.1); replace aQ := aQ.gb bV ω
  replace aR := aR.gb bV ω; clear eN bV
  refine AtH.done κ ?_
  clear jG
  refine t_n ?_
  exact ⟨sa, sb, na, nb, da, gF.heap.size, lW.sb, e0, r9, aD, bx6, aF, aG, lX, aP, (eV.imp (fun g _ hs => ⟨hs.2.1, hs.2.2.1, hs.2.2.2.1, hs.1, (by have := Sx_base hs; show cW.heap.size ≤ g; omega)⟩)), (eW.imp (fun g _ hs => ⟨hs.2.1, hs.2.2.1, hs.2.2.2.1, hs.1, (by have := Sx_base hs; show cX.heap.size ≤ g; omega)⟩)), aQ, aR, lV, ω, ω, hpa, hd2_, hd3_⟩
 clear r9; clear aD; clear bx6; clear aF; clear aG; clear aO; clear aP; clear aI; clear aM; clear aQ; clear aR; clear gE e0
 intro pK aU ⟨sa, sb, na, nb, da, aX, jH, dK, dT, dL, dM, dN, dC, dO, eD, dP, dQ, eX, eY, dD, pL, pM, hpa, hd2_, hd3_⟩
 have := dK.size; have hlaa_ := hpa.lp; have hlbb_ := hpa.lq; have hok_sa := hpa.okp; have hok_sb := hpa.okq; have hl4_sa := okLen hok_sa; have hl4_sb := okLen hok_sb; have := dM.lt; have := dN.lt; have := dC.lt; have := dO.lt; have := eD.lt; have := eX.lt; have := eY.lt; have := dD.lt
 refine sqs ?_
 refine At.rk jH 2 [(43, .agg #[.slice none 0 0, .slice none 0 0, .slice aJ ((List.replicate (((g.ow.length : Nat) : Int) : Int).toNat (gI ([-1] : List Int) 0)).length) aN, .slice aE ((List.replicate (((g.ow.length : Nat) : Int) : Int).toNat (gI ([-1] : List Int) 0)).length) aK])] (.l (eD.cell (i := 0) rfl) <| .l (eD.cell (i := 1) rfl) <| .n) (fun pN jI => ?_)
 clear jH
 refine At.bx jI 13 [.slice none 0 0, .slice none 0 0, .slice none 0 0, .slice none 0 0] 32 (fun pO bW gO pP jJ => ?_)
 clear jI; have := bW.size; replace dK := dK.gn bW; replace dT := dT.gn bW; replace dL := dL.gn bW; replace dM := dM.gn bW; replace dN := dN.gn bW; replace dC := dC.gn bW; replace dO := dO.gn bW; replace eD := eD.gn bW; replace dP := dP.grN bW; replace dQ := dQ.grN bW; replace eX := eX.gn bW; replace eY := eY.gn bW; replace dD := dD.gn bW; have := gO.lt; clear bW
 refine At.store jJ (t := 32) (b := aU.heap.size) (off := 0) (v := .agg #[.slice none 0 0, .slice none 0 0, .slice aJ ((List.replicate (((g.ow.length : Nat) : Int) : Int).toNat (gI ([-1] : List Int) 0)).length) aN, .slice aE ((List.replicate (((g.ow.length : Nat) : Int) : Int).toNat (gI ([-1] : List Int) 0)).length) aK]) κ gO κ (fun pQ eE bX eZ jK => ?_)
 clear jJ
 replace eZ : Bx eE (aU.heap.size) [.slice none 0 0, .slice none 0 0, .slice aJ ((List.replicate (((g.ow.length : Nat) : Int) : Int).toNat (gI ([-1] : List Int) 0)).length) aN, .slice aE ((List.replicate (((g.ow.length : Nat) : Int) : Int).toNat (gI ([-1] : List Int) 0)).length) aK] 32 := eZ
 have := bX.size; replace dK := dK.gr bX (fun k h => by injection h; omega); replace dT := dT.gb bX ω; replace dL := dL.gb bX ω; replace dM := dM.gb bX ω; replace dN := dN.gb bX ω; replace dC := dC.gb bX ω; replace dO := dO.gb bX ω; replace eD := eD.gb bX ω; replace dP := dP.gr bX (fun k hk => hk.1); replace dQ := dQ.gr bX (fun k hk => hk.1); replace eX := eX.gb bX ω; replace eY := eY.gb bX ω
 replace dD := dD.gb bX ω; clear gO bX
 refine At.dn ?_
 clear eD; clear eX; clear eY
 refine wp_seq ?_
 refine sqs ?_
 refine At.rk jK 1 [(44, .int .i64 (0))] .n (fun pR jL => ?_)
 clear jK
 refine At.dn ?_
 refine wp_block ?_
 have jM := jL.sb (r := [(44, .int .i64 (0)), (13, pt aU.heap.size 0), (12, pt aX 0), (7, pt aA.heap.size 0), (6, pt aB.heap.size 0), (3, .int .i64 (0)), (2, pt w1.heap.size 0), (1, pt w.heap.size 0)])
 clear jL
 refine loop_u0 ?_
 refine loop_u ?_
 refine sqs ?_
 refine At.rk jM 1 [(45, .bool true)] (.v 45 (show (.bool (decide ((0 : Int) < 2)) : Value) = .bool true from κ) <| .n) (fun pS gP => ?_)
 clear jM
 refine At.dn ?_
 refine wp_seq ?_
 refine cond_T gP rfl ?_
 refine wp_skip ?_
 refine t_n ?_
 refine wp_seq ?_
 refine wp_block ?_
 refine sqs ?_
 refine At.rk gP 2 [(14, .int .i64 (0))] .n (fun pT jN => ?_)
 clear gP
 refine At.dn ?_
 refine sqs ?_
 refine At.rk jN 4 [(50, .agg ((sa : List Int).map wV).toArray), (47, .int .i64 (0))] (.b 0 2 <| .p (show ((sa : List Int).map wV).length = 4 from ((List.length_map _).trans σ)) <| .p (show ∀ (j : Nat) (v : Value), ((sa : List Int).map wV)[j]? = some v → eE.cell? ((⟨aX, 0, none⟩ : Addr).add j) = some v from (Bx.wholeL dD)) <| .o (.cs ((sa : List Int).map wV)) <| .n) (fun pU jO => ?_)
 clear jN
 refine At.cl jO (some 51) (list_any (s := sa) σ (dL.wide (Nat.zero_le _) ω)) ?_
 rintro e_ gQ ⟨aV, bA, rfl, he, eF⟩
 have := ls_len (fromW sa) 256
 refine ⟨_, rfl, _, rfl, fun pV jP => ?_⟩
 clear jO; have cQ := gr_ext he; have jQ := dP.lt; have jR := dQ.lt; have := cQ.size; replace dK := dK.gn cQ; replace dT := dT.gn cQ; replace dL := dL.gn cQ; replace dM := dM.gn cQ; replace dN := dN.gn cQ; replace dC := dC.gn cQ; replace dO := dO.gn cQ
 replace dP : OwnR gQ (Sx (cW.heap.size) [obk (aV), some (aU.heap.size), some (aH.heap.size), some (aL.heap.size), obk (aE), some (aX)]) aJ aN 3 (na : List Int) := dP.grA cQ (fun _ _ h => by cases h) (fun k hk hs => ⟨(fun e => by have := eF.ge _ e; omega), hs.1, hs.2.1, hs.2.2.1, hs.2.2.2.1, hs.2.2.2.2.1, hs.2.2.2.2.2⟩)
 replace dQ : OwnR gQ (Sx (cX.heap.size) [obk (aV), some (aU.heap.size), some (aH.heap.size), some (aL.heap.size), obk (aJ), some (aX)]) aE aK 3 (nb : List Int) := dQ.grA cQ (fun _ _ h => by cases h) (fun k hk hs => ⟨(fun e => by have := eF.ge _ e; omega), hs.1, hs.2.1, hs.2.2.1, hs.2.2.2.1, hs.2.2.2.2.1, hs.2.2.2.2.2⟩)
 replace dD := dD.gn cQ; replace eZ := eZ.gn cQ
 replace eF : OwnR gQ (Sx (eE.heap.size) [obk (aJ), obk (aE)]) aV bA 3 ((lsD (fromW sa) 256) : List Int) := eF.imp (fun g _ hs => ⟨(fun e => by have := jQ _ e; have := Sx_base hs; omega), (fun e => by have := jR _ e; have := Sx_base hs; omega), hs⟩)
 clear jQ jR; clear cQ he
 refine At.rk jP 2 [(53, pt aU.heap.size 0)] (.b 0 2 <| .n) (fun pW jS => ?_)
 clear jP
 refine At.store jS (t := 22) (b := aU.heap.size) (off := 0) (v := .slice aV ((lsD (fromW sa) 256).length) bA) κ eZ κ (fun pX lY cR fR jT => ?_)
 clear jS
 replace fR : Bx lY (aU.heap.size) [.slice aV ((lsD (fromW sa) 256).length) bA, .slice none 0 0, .slice aJ ((List.replicate (((g.ow.length : Nat) : Int) : Int).toNat (gI ([-1] : List Int) 0)).length) aN, .slice aE ((List.replicate (((g.ow.length : Nat) : Int) : Int).toNat (gI ([-1] : List Int) 0)).length) aK] 32 := fR
 have := cR.size; replace dK := dK.gr cR (fun k h => by injection h; omega); replace dT := dT.gb cR ω; replace dL := dL.gb cR ω; replace dM := dM.gb cR ω; replace dN := dN.gb cR ω; replace dC := dC.gb cR ω; replace dO := dO.gb cR ω; replace dP := dP.gr cR (fun k hk => hk.2.1); replace dQ := dQ.gr cR (fun k hk => hk.2.1); replace dD := dD.gb cR ω
 replace eF := eF.gr cR (fun k hk e => by have := Sx_base hk; injection e; omega); clear eZ cR
 refine At.dn ?_
 refine sqs ?_
 refine At.rk jT 2 [(55, .int .i64 (0)), (54, .int .i64 (((g.ow.length : Nat) : Int)))] (.l (dC.cell (i := 0) rfl) <| .n) (fun pY jU => ?_)
 clear jT
 refine At.dn ?_
 refine wp_block ?_
 refine loop_g (fun (m_ : Nat) a_ w_ => ∃ (k0 : Int) (x0 : List Int) (aW : Option Addr) (aZ : Nat), m_ = ((g.ow.length : Int) - k0).toNat ∧ (Frm 83 a_ [(55, .int .i64 (k0)), (54, .int .i64 (((g.ow.length : Nat) : Int))), (14, .int .i64 (0)), (44, .int .i64 (0)), (13, pt aU.heap.size 0), (12, pt aX 0), (7, pt aA.heap.size 0), (6, pt aB.heap.size 0), (3, .int .i64 (0)), (2, pt w1.heap.size 0), (1, pt w.heap.size 0)]) ∧ (Ext w w_) ∧ (RdG w_ 0 w.heap.size Ag0 Ag1 Ag2 cg0 cg1 cg2 g) ∧ (RdT w_ 0 w.heap.size) ∧ (Bx w_ (w.heap.size) [.slice Ag0 g.ow.length cg0, .slice Ag1 g.pr.length cg1, .slice Ag2 g.mv.length cg2] 25) ∧ (Bx w_ (w1.heap.size) [.slice none 0 0, .slice none 0 0, .slice none 0 0, .slice none 0 0] 32) ∧ (Bx w_ (aB.heap.size) [.int .i64 (((g.ow.length : Nat) : Int))] 3) ∧ (Bx w_ (aA.heap.size) [.int .i64 (da)] 3) ∧ (OwnR w_ (Sx (cW.heap.size) [obk (aV), some (aU.heap.size), obk (aE), some (aX)]) aW aZ 3 (x0 : List Int)) ∧ (OwnR w_ (Sx (cX.heap.size) [obk (aV), some (aU.heap.size), obk (aW), some (aX)]) aE aK 3 (nb : List Int)) ∧ (Bx w_ (aX) ((sa ++ sb : List Int).map wV) 67) ∧ (Bx w_ (aU.heap.size) [.slice aV ((lsD (fromW sa) 256).length) bA, .slice none 0 0, .slice aW x0.length aZ, .slice aE ((List.replicate (((g.ow.length : Nat) : Int) : Int).toNat (gI ([-1] : List Int) 0)).length) aK] 32) ∧ (OwnR w_ (Sx (eE.heap.size) [obk (aW), obk (aE)]) aV bA 3 ((lsD (fromW sa) 256) : List Int)) ∧ (0 ≤ k0) ∧ (k0 ≤ (g.ow.length : Int)) ∧ (CutK g sa 0 na x0 k0) ∧ (x0.length = g.ow.length) ∧ (cW.heap.size ≤ w_.heap.size) ∧ (cX.heap.size ≤ w_.heap.size) ∧ (eE.heap.size ≤ w_.heap.size)) _ ⟨0, (na : List Int), aJ, aN, rfl, jU.sb, dK, dT, dL, dM, dN, dC, dO, (dP.imp (fun g _ hs => ⟨hs.1, hs.2.1, hs.2.2.2.2.1, hs.2.2.2.2.2.1, hs.2.2.2.2.2.2⟩)), (dQ.imp (fun g _ hs => ⟨hs.1, hs.2.1, hs.2.2.2.2.1, hs.2.2.2.2.2.1, hs.2.2.2.2.2.2⟩)), dD, (fR.as (by first | rfl | (simp only [List.cons.injEq, Value.slice.injEq, true_and, and_true]; omega))), eF, ω, ω, cutK_0, ω, ω, ω, ω⟩ ?_
 clear jU; clear dT; clear dL; clear dM; clear dN; clear dC; clear dO; clear dP; clear dQ; clear dD; clear fR; clear eF; clear dK
 intro m_ pZ fH ⟨k0, x0, aW, aZ, hm656, jV, bI, bJ, bK, bF, bL, bG, bM, aS, bN, bE, bC, bO, i669, i670, hck0, i671, i672, i673, i674⟩
 have := bI.size; have := bF.lt; have := bL.lt; have := bG.lt; have := bM.lt; have := bE.lt; have := bC.lt
 refine sqs ?_
 refine At.rk jV 1 [(56, .bool (decide ((k0 : Int) < ((g.ow.length : Nat) : Int))))] .n (fun qA fI => ?_)
 clear jV
 refine At.dn ?_
 refine wp_seq ?_
 refine cond_S fI (t := decide ((k0 : Int) < ((g.ow.length : Nat) : Int))) rfl (fun gR => ?_) (fun gR => ?_)
 ·have qB := of_decide_eq_true gR
  refine wp_skip ?_
  refine t_n ?_
  refine wp_seq ?_
  refine wp_block ?_
  refine sqs ?_
  refine At.rk fI 2 [(15, .int .i64 (k0))] .n (fun qC jW => ?_)
  clear fI
  refine At.dn ?_
  refine sqs ?_
  refine At.rk jW 4 [(61, .int .i64 (k0)), (60, .agg ((sa : List Int).map wV).toArray)] (.b 0 2 <| .p (show ((sa : List Int).map wV).length = 4 from ((List.length_map _).trans σ)) <| .p (show ∀ (j : Nat) (v : Value), ((sa : List Int).map wV)[j]? = some v → fH.cell? ((⟨aX, 0, none⟩ : Addr).add j) = some v from (Bx.wholeL bE)) <| .o (.cs ((sa : List Int).map wV)) <| .n) (fun qD jX => ?_)
  clear jW
  refine At.cl jX (some 62) (has_any (s := sa) (n := k0) σ) ?_
  rintro e_ qE ⟨rfl, he⟩
  refine ⟨_, rfl, _, rfl, fun qF fS => ?_⟩
  clear jX; have cE := gr_ext he; have := cE.size; replace bI := bI.gn cE; replace bJ := bJ.gn cE; replace bK := bK.gn cE; replace bF := bF.gn cE; replace bL := bL.gn cE; replace bG := bG.gn cE; replace bM := bM.gn cE; replace aS := aS.gn cE; replace bN := bN.gn cE; replace bE := bE.gn cE; replace bC := bC.gn cE; replace bO := bO.gn cE; clear cE he
  rcases Bool.eq_false_or_eq_true (!(hasW sa k0)) with dW | dW
  ·have qG : (hasW sa k0) = false := by first | exact Eq.mp (Bool.not_eq_true' _) dW | exact Eq.mp (Bool.not_eq_false' _) dW | simpa using dW
   refine At.rk fS 10 [(72, .bool true)] (.e 64 dW <| .n) (fun qH gS => ?_)
   clear fS
   refine At.dn ?_
   refine cond_T gS rfl ?_
   refine At.start ?_
   obtain ⟨jY, jZ, qI, qJ, qK⟩ := aS.get (k0) ω ω (sz := 1) rfl
   refine At.rk gS 6 [(78, .pointer (some (jY.add ((k0 : Int).toNat * 1))))] (.b 0 2 <| .l (bC.cell (i := 2) rfl) <| .a k0 x0.length jZ <| .n) (fun qL kA => ?_)
   clear gS
   refine At.act kA (storeR (α := Int) (t := 3) (i := k0) (ad := jY) (v := .int .i64 (-1)) (-1) κ rfl rfl κ jZ aS ω ω) ?_
   rintro d_ v_ lZ ⟨rfl, cS, mA⟩
   refine ⟨_, rfl, fun qM kB => ?_⟩
   clear kA; have qN : ((x0).set (k0 : Int).toNat (-1)).length = (x0).length := List.length_set; have := cS.size; replace bI := bI.gr cS (fun k hk => by have := aS.ge k hk; omega); replace bJ := bJ.gr cS (fun k hk => by have := aS.ge k hk; omega); replace bK := bK.gr cS (fun k hk => by have := aS.ge k hk; omega); replace bF := bF.gr cS (fun e => by have := aS.ge _ e; omega)
   replace bL := bL.gr cS (fun e => by have := aS.ge _ e; omega); replace bG := bG.gr cS (fun e => by have := aS.ge _ e; omega); replace bM := bM.gr cS (fun e => by have := aS.ge _ e; omega); replace bN := bN.gr cS (fun k hk => hk.2.2.1); replace bE := bE.gr cS (aS.neb (fun g hs => hs.2.2.2.1)); replace bC := bC.gr cS (aS.neb (fun g hs => hs.2.1)); replace bO := bO.gr cS (fun k hk => hk.1)
   clear aS cS
   replace bC : Bx lZ (aU.heap.size) [.slice aV ((lsD (fromW sa) 256).length) bA, .slice none 0 0, .slice aW (((x0).set (k0 : Int).toNat (-1)).length) aZ, .slice aE ((List.replicate (((g.ow.length : Nat) : Int) : Int).toNat (gI ([-1] : List Int) 0)).length) aK] 32 := bC.as (by first | rfl | (simp only [List.length_set]; done))
   refine At.done rfl ?_
   refine b_n ?_
   refine t_n ?_
   refine At.start ?_
   refine At.rk kB 2 [(55, .int .i64 (k0 + 1))] (.w 79 (k0 + 1) <| .n) (fun qO mB => ?_)
   clear kB
   refine At.dn ?_
   exact ⟨_, ω, (k0 + 1), ((x0).set (k0 : Int).toNat (-1) : List Int), aW, aZ, rfl, mB.sb, bI, bJ, bK, bF, bL, bG, bM, mA, bN, bE, bC, bO, ω, ω, (cutK_yes hck0 ω ω (by first | exact (fun h_ => has_nP σ h_.1) | exact (fun h_ => absurd h_.2 ω))), (by rw [List.length_set]; omega), ω, ω, ω⟩
  have qP : (hasW sa k0) = true := by first | exact Eq.mp (Bool.not_eq_true' _) dW | exact Eq.mp (Bool.not_eq_false' _) dW | simpa using dW
  obtain ⟨mC, mD, _, _, mE⟩ := RdI.get bJ.ow (k0) ω ω
  refine At.rk fS 10 [(72, .bool ((gI g.ow (k0) : Int) != 0)), (71, .bool ((gI g.ow (k0) : Int) != 0)), (70, .int .i64 (0)), (69, .int .i64 (gI g.ow (k0))), (68, .pointer (some (mC.add ((k0 : Int).toNat * 1)))), (67, .int .i64 (k0)), (66, .slice Ag0 g.ow.length cg0), (65, pt w.heap.size 0)] (.e 64 dW <| .l (bF.cell (i := 0) rfl) <| .a k0 g.ow.length mD <| .l mE <| .n) (fun qQ fJ => ?_)
  clear fS
  refine At.dn ?_
  refine cond_S fJ (t := (gI g.ow (k0) : Int) != 0) rfl (fun gT => ?_) (fun gT => ?_)
  ·have qR := bne_iff_ne.1 gT
   refine At.start ?_
   obtain ⟨kC, kD, qS, qT, qU⟩ := aS.get (k0) ω ω (sz := 1) rfl
   refine At.rk fJ 6 [(78, .pointer (some (kC.add ((k0 : Int).toNat * 1))))] (.b 0 2 <| .l (bC.cell (i := 2) rfl) <| .a k0 x0.length kD <| .n) (fun qV kE => ?_)
   clear fJ
   refine At.act kE (storeR (α := Int) (t := 3) (i := k0) (ad := kC) (v := .int .i64 (-1)) (-1) κ rfl rfl κ kD aS ω ω) ?_
   rintro d_ v_ mF ⟨rfl, cT, mG⟩
   refine ⟨_, rfl, fun qW kF => ?_⟩
   clear kE; have qX : ((x0).set (k0 : Int).toNat (-1)).length = (x0).length := List.length_set; have := cT.size; replace bI := bI.gr cT (fun k hk => by have := aS.ge k hk; omega); replace bJ := bJ.gr cT (fun k hk => by have := aS.ge k hk; omega); replace bK := bK.gr cT (fun k hk => by have := aS.ge k hk; omega); replace bF := bF.gr cT (fun e => by have := aS.ge _ e; omega)
   replace bL := bL.gr cT (fun e => by have := aS.ge _ e; omega); replace bG := bG.gr cT (fun e => by have := aS.ge _ e; omega); replace bM := bM.gr cT (fun e => by have := aS.ge _ e; omega); replace bN := bN.gr cT (fun k hk => hk.2.2.1); replace bE := bE.gr cT (aS.neb (fun g hs => hs.2.2.2.1)); replace bC := bC.gr cT (aS.neb (fun g hs => hs.2.1)); replace bO := bO.gr cT (fun k hk => hk.1)
   clear aS cT
   replace bC : Bx mF (aU.heap.size) [.slice aV ((lsD (fromW sa) 256).length) bA, .slice none 0 0, .slice aW (((x0).set (k0 : Int).toNat (-1)).length) aZ, .slice aE ((List.replicate (((g.ow.length : Nat) : Int) : Int).toNat (gI ([-1] : List Int) 0)).length) aK] 32 := bC.as (by first | rfl | (simp only [List.length_set]; done))
   refine At.done rfl ?_
   refine b_n ?_
   refine t_n ?_
   refine At.start ?_
   refine At.rk kF 2 [(55, .int .i64 (k0 + 1))] (.w 79 (k0 + 1) <| .n) (fun qY mH => ?_)
   clear kF
   refine At.dn ?_
   exact ⟨_, ω, (k0 + 1), ((x0).set (k0 : Int).toNat (-1) : List Int), aW, aZ, rfl, mH.sb, bI, bJ, bK, bF, bL, bG, bM, mG, bN, bE, bC, bO, ω, ω, (cutK_yes hck0 ω ω (by first | exact (fun h_ => has_nP σ h_.1) | exact (fun h_ => absurd h_.2 ω))), (by rw [List.length_set]; omega), ω, ω, ω⟩
  have qZ := bne_eq_false_iff_eq.1 gT
  refine wp_skip ?_
  refine b_n ?_
  refine t_n ?_
  refine At.start ?_
  refine At.rk fJ 2 [(55, .int .i64 (k0 + 1))] (.w 79 (k0 + 1) <| .n) (fun rA mI => ?_)
  clear fJ
  refine At.dn ?_
  exact ⟨_, ω, (k0 + 1), (x0 : List Int), aW, aZ, rfl, mI.sb, bI, bJ, bK, bF, bL, bG, bM, aS, bN, bE, bC, bO, ω, ω, (cutK_no hck0 ⟨inP_has.1 σ, by omega⟩), ω, ω, ω, ω⟩
 have rB := of_decide_eq_false gR
 refine wp_exit ?_
 refine t_e ?_
 clear hm656
 refine t_e ?_
 refine b_e ?_
 refine b_n ?_
 refine t_n ?_
 refine At.start ?_
 refine At.rk fI 2 [(44, .int .i64 (1))] (.v 80 (show (.int .i64 (IntKind.i64.wrap (0 + 1)) : Value) = .int .i64 (1) from κ) <| .n) (fun rC kG => ?_)
 clear fI
 refine At.dn ?_
 have kH := kG.sb (r := [(44, .int .i64 (1)), (13, pt aU.heap.size 0), (12, pt aX 0), (7, pt aA.heap.size 0), (6, pt aB.heap.size 0), (3, .int .i64 (0)), (2, pt w1.heap.size 0), (1, pt w.heap.size 0)])
 clear kG
 refine loop_u ?_
 refine sqs ?_
 refine At.rk kH 1 [(45, .bool true)] (.v 45 (show (.bool (decide ((1 : Int) < 2)) : Value) = .bool true from κ) <| .n) (fun rD gU => ?_)
 clear kH
 refine At.dn ?_
 refine wp_seq ?_
 refine cond_T gU rfl ?_
 refine wp_skip ?_
 refine t_n ?_
 refine wp_seq ?_
 refine wp_block ?_
 refine sqs ?_
 refine At.rk gU 2 [(14, .int .i64 (1))] .n (fun rE kI => ?_)
 clear gU
 refine At.dn ?_
 refine sqs ?_
 refine At.rk kI 4 [(50, .agg ((sb : List Int).map wV).toArray), (47, .int .i64 (1))] (.b 1 2 <| .p (show ((sb : List Int).map wV).length = 4 from ((List.length_map _).trans σ)) <| .p (show ∀ (j : Nat) (v : Value), ((sb : List Int).map wV)[j]? = some v → fH.cell? ((⟨aX, 4, none⟩ : Addr).add j) = some v from (Bx.wholeR σ bE)) <| .o (.cs ((sb : List Int).map wV)) <| .n) (fun rF kJ => ?_)
 clear kI
 refine At.cl kJ (some 51) (list_any (s := sb) σ (bK.wide (Nat.zero_le _) ω)) ?_
 rintro e_ fT ⟨bB, bY, rfl, he, dX⟩
 have := ls_len (fromW sb) 256
 refine ⟨_, rfl, _, rfl, fun rG kK => ?_⟩
 clear kJ; have cF := gr_ext he; have kL := aS.lt; have kM := bN.lt; have kN := bO.lt; have := cF.size; replace bI := bI.gn cF; replace bJ := bJ.gn cF; replace bK := bK.gn cF; replace bF := bF.gn cF; replace bL := bL.gn cF; replace bG := bG.gn cF; replace bM := bM.gn cF
 replace aS : OwnR fT (Sx (cW.heap.size) [obk (bB), obk (aV), some (aU.heap.size), obk (aE), some (aX)]) aW aZ 3 (x0 : List Int) := aS.grA cF (fun _ _ h => by cases h) (fun k hk hs => ⟨(fun e => by have := dX.ge _ e; omega), hs.1, hs.2.1, hs.2.2.1, hs.2.2.2.1, hs.2.2.2.2⟩)
 replace bN : OwnR fT (Sx (cX.heap.size) [obk (bB), obk (aV), some (aU.heap.size), obk (aW), some (aX)]) aE aK 3 (nb : List Int) := bN.grA cF (fun _ _ h => by cases h) (fun k hk hs => ⟨(fun e => by have := dX.ge _ e; omega), hs.1, hs.2.1, hs.2.2.1, hs.2.2.2.1, hs.2.2.2.2⟩)
 replace bE := bE.gn cF; replace bC := bC.gn cF
 replace bO : OwnR fT (Sx (eE.heap.size) [obk (bB), obk (aW), obk (aE)]) aV bA 3 ((lsD (fromW sa) 256) : List Int) := bO.grA cF (fun _ _ h => by cases h) (fun k hk hs => ⟨(fun e => by have := dX.ge _ e; omega), hs.1, hs.2.1, hs.2.2⟩)
 replace dX : OwnR fT (Sx (fH.heap.size) [obk (aW), obk (aE), obk (aV)]) bB bY 3 ((lsD (fromW sb) 256) : List Int) := dX.imp (fun g _ hs => ⟨(fun e => by have := kL _ e; have := Sx_base hs; omega), (fun e => by have := kM _ e; have := Sx_base hs; omega), (fun e => by have := kN _ e; have := Sx_base hs; omega), hs⟩)
 clear kL kM kN; clear cF he
 refine At.rk kK 2 [(53, pt aU.heap.size 1)] (.b 1 2 <| .n) (fun rH kO => ?_)
 clear kK
 refine At.store kO (t := 22) (b := aU.heap.size) (off := 1) (v := .slice bB ((lsD (fromW sb) 256).length) bY) κ bC κ (fun rI mJ cG fU kP => ?_)
 clear kO
 replace fU : Bx mJ (aU.heap.size) [.slice aV ((lsD (fromW sa) 256).length) bA, .slice bB ((lsD (fromW sb) 256).length) bY, .slice aW x0.length aZ, .slice aE ((List.replicate (((g.ow.length : Nat) : Int) : Int).toNat (gI ([-1] : List Int) 0)).length) aK] 32 := fU
 have := cG.size; replace bI := bI.gr cG (fun k h => by injection h; omega); replace bJ := bJ.gb cG ω; replace bK := bK.gb cG ω; replace bF := bF.gb cG ω; replace bL := bL.gb cG ω; replace bG := bG.gb cG ω; replace bM := bM.gb cG ω; replace aS := aS.gr cG (fun k hk => hk.2.2.1); replace bN := bN.gr cG (fun k hk => hk.2.2.1); replace bE := bE.gb cG ω
 replace bO := bO.gr cG (fun k hk e => by have := Sx_base hk; injection e; omega); replace dX := dX.gr cG (fun k hk e => by have := Sx_base hk; injection e; omega); clear bC cG
 refine At.dn ?_
 refine sqs ?_
 refine At.rk kP 2 [(55, .int .i64 (0)), (54, .int .i64 (((g.ow.length : Nat) : Int)))] (.l (bG.cell (i := 0) rfl) <| .n) (fun rJ kQ => ?_)
 clear kP
 refine At.dn ?_
 refine wp_block ?_
 refine loop_g (fun (m_ : Nat) a_ w_ => ∃ (k1 : Int) (x1 : List Int) (bD : Option Addr) (bP : Nat), m_ = ((g.ow.length : Int) - k1).toNat ∧ (Frm 83 a_ [(55, .int .i64 (k1)), (54, .int .i64 (((g.ow.length : Nat) : Int))), (14, .int .i64 (1)), (44, .int .i64 (1)), (13, pt aU.heap.size 0), (12, pt aX 0), (7, pt aA.heap.size 0), (6, pt aB.heap.size 0), (3, .int .i64 (0)), (2, pt w1.heap.size 0), (1, pt w.heap.size 0)]) ∧ (Ext w w_) ∧ (RdG w_ 0 w.heap.size Ag0 Ag1 Ag2 cg0 cg1 cg2 g) ∧ (RdT w_ 0 w.heap.size) ∧ (Bx w_ (w.heap.size) [.slice Ag0 g.ow.length cg0, .slice Ag1 g.pr.length cg1, .slice Ag2 g.mv.length cg2] 25) ∧ (Bx w_ (w1.heap.size) [.slice none 0 0, .slice none 0 0, .slice none 0 0, .slice none 0 0] 32) ∧ (Bx w_ (aB.heap.size) [.int .i64 (((g.ow.length : Nat) : Int))] 3) ∧ (Bx w_ (aA.heap.size) [.int .i64 (da)] 3) ∧ (OwnR w_ (Sx (cW.heap.size) [obk (bB), obk (aV), some (aU.heap.size), obk (bD), some (aX)]) aW aZ 3 (x0 : List Int)) ∧ (OwnR w_ (Sx (cX.heap.size) [obk (bB), obk (aV), some (aU.heap.size), obk (aW), some (aX)]) bD bP 3 (x1 : List Int)) ∧ (Bx w_ (aX) ((sa ++ sb : List Int).map wV) 67) ∧ (Bx w_ (aU.heap.size) [.slice aV ((lsD (fromW sa) 256).length) bA, .slice bB ((lsD (fromW sb) 256).length) bY, .slice aW x0.length aZ, .slice bD x1.length bP] 32) ∧ (OwnR w_ (Sx (eE.heap.size) [obk (bB), obk (aW), obk (bD)]) aV bA 3 ((lsD (fromW sa) 256) : List Int)) ∧ (OwnR w_ (Sx (fH.heap.size) [obk (aW), obk (bD), obk (aV)]) bB bY 3 ((lsD (fromW sb) 256) : List Int)) ∧ (0 ≤ k1) ∧ (k1 ≤ (g.ow.length : Int)) ∧ (CutK g sb 1 nb x1 k1) ∧ (x1.length = g.ow.length) ∧ (cW.heap.size ≤ w_.heap.size) ∧ (cX.heap.size ≤ w_.heap.size) ∧ (eE.heap.size ≤ w_.heap.size) ∧ (fH.heap.size ≤ w_.heap.size)) _ ⟨0, (nb : List Int), aE, aK, rfl, kQ.sb, bI, bJ, bK, bF, bL, bG, bM, aS, bN, bE, (fU.as (by first | rfl | (simp only [List.cons.injEq, Value.slice.injEq, true_and, and_true]; omega))), bO, dX, ω, ω, cutK_0, ω, ω, ω, ω, ω⟩ ?_
 clear kQ; clear bJ; clear bK; clear bF; clear bL; clear bG; clear bM; clear aS; clear bN; clear bE; clear fU; clear bO; clear dX; clear bI
 intro m_ rK kR ⟨k1, x1, bD, bP, hm829, kS, bZ, cH, cU, dE, cI, dR, bQ, cJ, aT, dF, aY, cK, cL, i843, i844, hck1, i845, i846, i847, i848, i849⟩
 have := bZ.size; have := dE.lt; have := cI.lt; have := dR.lt; have := bQ.lt; have := dF.lt; have := aY.lt
 refine sqs ?_
 refine At.rk kS 1 [(56, .bool (decide ((k1 : Int) < ((g.ow.length : Nat) : Int))))] .n (fun rL fK => ?_)
 clear kS
 refine At.dn ?_
 refine wp_seq ?_
 refine cond_S fK (t := decide ((k1 : Int) < ((g.ow.length : Nat) : Int))) rfl (fun gV => ?_) (fun gV => ?_)
 ·have rM := of_decide_eq_true gV
  refine wp_skip ?_
  refine t_n ?_
  refine wp_seq ?_
  refine wp_block ?_
  refine sqs ?_
  refine At.rk fK 2 [(15, .int .i64 (k1))] .n (fun rN kT => ?_)
  clear fK
  refine At.dn ?_
  refine sqs ?_
  refine At.rk kT 4 [(61, .int .i64 (k1)), (60, .agg ((sb : List Int).map wV).toArray)] (.b 1 2 <| .p (show ((sb : List Int).map wV).length = 4 from ((List.length_map _).trans σ)) <| .p (show ∀ (j : Nat) (v : Value), ((sb : List Int).map wV)[j]? = some v → kR.cell? ((⟨aX, 4, none⟩ : Addr).add j) = some v from (Bx.wholeR σ dF)) <| .o (.cs ((sb : List Int).map wV)) <| .n) (fun rO kU => ?_)
  clear kT
  refine At.cl kU (some 62) (has_any (s := sb) (n := k1) σ) ?_
  rintro e_ rP ⟨rfl, he⟩
  refine ⟨_, rfl, _, rfl, fun rQ fV => ?_⟩
  clear kU; have cA := gr_ext he; have := cA.size; replace bZ := bZ.gn cA; replace cH := cH.gn cA; replace cU := cU.gn cA; replace dE := dE.gn cA; replace cI := cI.gn cA; replace dR := dR.gn cA; replace bQ := bQ.gn cA; replace cJ := cJ.gn cA; replace aT := aT.gn cA; replace dF := dF.gn cA; replace aY := aY.gn cA; replace cK := cK.gn cA; replace cL := cL.gn cA; clear cA he
  rcases Bool.eq_false_or_eq_true (!(hasW sb k1)) with dY | dY
  ·have rR : (hasW sb k1) = false := by first | exact Eq.mp (Bool.not_eq_true' _) dY | exact Eq.mp (Bool.not_eq_false' _) dY | simpa using dY
   refine At.rk fV 10 [(72, .bool true)] (.e 64 dY <| .n) (fun rS gW => ?_)
   clear fV
   refine At.dn ?_
   refine cond_T gW rfl ?_
   refine At.start ?_
   obtain ⟨kV, kW, rU, rV, rW⟩ := aT.get (k1) ω ω (sz := 1) rfl
   refine At.rk gW 6 [(78, .pointer (some (kV.add ((k1 : Int).toNat * 1))))] (.b 1 2 <| .l (aY.cell (i := 3) rfl) <| .a k1 x1.length kW <| .n) (fun rX kX => ?_)
   clear gW
   refine At.act kX (storeR (α := Int) (t := 3) (i := k1) (ad := kV) (v := .int .i64 (-1)) (-1) κ rfl rfl κ kW aT ω ω) ?_
   rintro d_ v_ mK ⟨rfl, cM, mL⟩
   refine ⟨_, rfl, fun rY kY => ?_⟩
   clear kX; have rZ : ((x1).set (k1 : Int).toNat (-1)).length = (x1).length := List.length_set; have := cM.size; replace bZ := bZ.gr cM (fun k hk => by have := aT.ge k hk; omega); replace cH := cH.gr cM (fun k hk => by have := aT.ge k hk; omega); replace cU := cU.gr cM (fun k hk => by have := aT.ge k hk; omega); replace dE := dE.gr cM (fun e => by have := aT.ge _ e; omega)
   replace cI := cI.gr cM (fun e => by have := aT.ge _ e; omega); replace dR := dR.gr cM (fun e => by have := aT.ge _ e; omega); replace bQ := bQ.gr cM (fun e => by have := aT.ge _ e; omega); replace cJ := cJ.gr cM (fun k hk => hk.2.2.2.1); replace dF := dF.gr cM (aT.neb (fun g hs => hs.2.2.2.2.1)); replace aY := aY.gr cM (aT.neb (fun g hs => hs.2.2.1)); replace cK := cK.gr cM (fun k hk => hk.2.2.1)
   replace cL := cL.gr cM (fun k hk => hk.2.1); clear aT cM
   replace aY : Bx mK (aU.heap.size) [.slice aV ((lsD (fromW sa) 256).length) bA, .slice bB ((lsD (fromW sb) 256).length) bY, .slice aW x0.length aZ, .slice bD (((x1).set (k1 : Int).toNat (-1)).length) bP] 32 := aY.as (by first | rfl | (simp only [List.length_set]; done))
   refine At.done rfl ?_
   refine b_n ?_
   refine t_n ?_
   refine At.start ?_
   refine At.rk kY 2 [(55, .int .i64 (k1 + 1))] (.w 79 (k1 + 1) <| .n) (fun sA mM => ?_)
   clear kY
   refine At.dn ?_
   exact ⟨_, ω, (k1 + 1), ((x1).set (k1 : Int).toNat (-1) : List Int), bD, bP, rfl, mM.sb, bZ, cH, cU, dE, cI, dR, bQ, cJ, mL, dF, aY, cK, cL, ω, ω, (cutK_yes hck1 ω ω (by first | exact (fun h_ => has_nP σ h_.1) | exact (fun h_ => absurd h_.2 ω))), (by rw [List.length_set]; omega), ω, ω, ω, ω⟩
  have sB : (hasW sb k1) = true := by first | exact Eq.mp (Bool.not_eq_true' _) dY | exact Eq.mp (Bool.not_eq_false' _) dY | simpa using dY
  obtain ⟨mN, mO, _, _, mP⟩ := RdI.get cH.ow (k1) ω ω
  refine At.rk fV 10 [(72, .bool ((gI g.ow (k1) : Int) != 1)), (71, .bool ((gI g.ow (k1) : Int) != 1)), (70, .int .i64 (1)), (69, .int .i64 (gI g.ow (k1))), (68, .pointer (some (mN.add ((k1 : Int).toNat * 1)))), (67, .int .i64 (k1)), (66, .slice Ag0 g.ow.length cg0), (65, pt w.heap.size 0)] (.e 64 dY <| .l (dE.cell (i := 0) rfl) <| .a k1 g.ow.length mO <| .l mP <| .n) (fun sC fL => ?_)
  clear fV
  refine At.dn ?_
  refine cond_S fL (t := (gI g.ow (k1) : Int) != 1) rfl (fun gX => ?_) (fun gX => ?_)
  ·have sD := bne_iff_ne.1 gX
   refine At.start ?_
   obtain ⟨kZ, lA, sE, sF, sG⟩ := aT.get (k1) ω ω (sz := 1) rfl
   refine At.rk fL 6 [(78, .pointer (some (kZ.add ((k1 : Int).toNat * 1))))] (.b 1 2 <| .l (aY.cell (i := 3) rfl) <| .a k1 x1.length lA <| .n) (fun sH lB => ?_)
   clear fL
   refine At.act lB (storeR (α := Int) (t := 3) (i := k1) (ad := kZ) (v := .int .i64 (-1)) (-1) κ rfl rfl κ lA aT ω ω) ?_
   rintro d_ v_ mQ ⟨rfl, cN, mR⟩
   refine ⟨_, rfl, fun sI lC => ?_⟩
   clear lB; have sJ : ((x1).set (k1 : Int).toNat (-1)).length = (x1).length := List.length_set; have := cN.size; replace bZ := bZ.gr cN (fun k hk => by have := aT.ge k hk; omega); replace cH := cH.gr cN (fun k hk => by have := aT.ge k hk; omega); replace cU := cU.gr cN (fun k hk => by have := aT.ge k hk; omega); replace dE := dE.gr cN (fun e => by have := aT.ge _ e; omega)
   replace cI := cI.gr cN (fun e => by have := aT.ge _ e; omega); replace dR := dR.gr cN (fun e => by have := aT.ge _ e; omega); replace bQ := bQ.gr cN (fun e => by have := aT.ge _ e; omega); replace cJ := cJ.gr cN (fun k hk => hk.2.2.2.1); replace dF := dF.gr cN (aT.neb (fun g hs => hs.2.2.2.2.1)); replace aY := aY.gr cN (aT.neb (fun g hs => hs.2.2.1)); replace cK := cK.gr cN (fun k hk => hk.2.2.1)
   replace cL := cL.gr cN (fun k hk => hk.2.1); clear aT cN
   replace aY : Bx mQ (aU.heap.size) [.slice aV ((lsD (fromW sa) 256).length) bA, .slice bB ((lsD (fromW sb) 256).length) bY, .slice aW x0.length aZ, .slice bD (((x1).set (k1 : Int).toNat (-1)).length) bP] 32 := aY.as (by first | rfl | (simp only [List.length_set]; done))
   refine At.done rfl ?_
   refine b_n ?_
   refine t_n ?_
   refine At.start ?_
   refine At.rk lC 2 [(55, .int .i64 (k1 + 1))] (.w 79 (k1 + 1) <| .n) (fun sK mS => ?_)
   clear lC
   refine At.dn ?_
   exact ⟨_, ω, (k1 + 1), ((x1).set (k1 : Int).toNat (-1) : List Int), bD, bP, rfl, mS.sb, bZ, cH, cU, dE, cI, dR, bQ, cJ, mR, dF, aY, cK, cL, ω, ω, (cutK_yes hck1 ω ω (by first | exact (fun h_ => has_nP σ h_.1) | exact (fun h_ => absurd h_.2 ω))), (by rw [List.length_set]; omega), ω, ω, ω, ω⟩
  have sL := bne_eq_false_iff_eq.1 gX
  refine wp_skip ?_
  refine b_n ?_
  refine t_n ?_
  refine At.start ?_
  refine At.rk fL 2 [(55, .int .i64 (k1 + 1))] (.w 79 (k1 + 1) <| .n) (fun sM mT => ?_)
  clear fL
  refine At.dn ?_
  exact ⟨_, ω, (k1 + 1), (x1 : List Int), bD, bP, rfl, mT.sb, bZ, cH, cU, dE, cI, dR, bQ, cJ, aT, dF, aY, cK, cL, ω, ω, (cutK_no hck1 ⟨inP_has.1 σ, by omega⟩), ω, ω, ω, ω, ω⟩
 have sN := of_decide_eq_false gV
 refine wp_exit ?_
 refine t_e ?_
 clear hm829
 refine t_e ?_
 refine b_e ?_
 refine b_n ?_
 refine t_n ?_
 refine At.start ?_
 refine At.rk fK 2 [(44, .int .i64 (2))] (.v 80 (show (.int .i64 (IntKind.i64.wrap (1 + 1)) : Value) = .int .i64 (2) from κ) <| .n) (fun sO lD => ?_)
 clear fK
 refine At.dn ?_
 have lE := lD.sb (r := [(44, .int .i64 (2)), (13, pt aU.heap.size 0), (12, pt aX 0), (7, pt aA.heap.size 0), (6, pt aB.heap.size 0), (3, .int .i64 (0)), (2, pt w1.heap.size 0), (1, pt w.heap.size 0)])
 clear lD
 refine loop_u ?_
 refine sqs ?_
 refine At.rk lE 1 [(45, .bool false)] (.v 45 (show (.bool (decide ((2 : Int) < 2)) : Value) = .bool false from κ) <| .n) (fun sP gY => ?_)
 clear lE
 refine At.dn ?_
 refine wp_seq ?_
 refine cond_F gY rfl ?_
 refine wp_exit ?_
 refine t_e ?_
 refine t_e ?_
 refine b_e ?_
 refine t_n ?_
 clear dE; clear dR; clear dF; have hcutA := hck0; have hcutB := hck1
 refine wp_seq ?_
 obtain ⟨lF, eO⟩ : ∃ c : List (Addr × Value), c = [(⟨aU.heap.size, 0, none⟩, (.slice aV ((lsD (fromW sa) 256).length) bA)), (⟨aU.heap.size, 1, none⟩, (.slice bB ((lsD (fromW sb) 256).length) bY)), (⟨aU.heap.size, 2, none⟩, (.slice aW x0.length aZ)), (⟨aU.heap.size, 3, none⟩, (.slice bD x1.length bP)), (⟨aA.heap.size, 0, none⟩, (.int .i64 (da)))] := ⟨_, rfl⟩
 have lG : HoldsC lF kR := by rw [eO]; exact ⟨(aY.cell (i := 0) rfl), (aY.cell (i := 1) rfl), (aY.cell (i := 2) rfl), (aY.cell (i := 3) rfl), (bQ.cell (i := 0) rfl), trivial⟩
 refine AtH.start lF 4 _ κ rfl rfl (fun sQ lH => ?_)
 have cV := gr_drew lH; have lI := lG.gr cV; have := cV.size; replace bZ := bZ.gn cV; replace cH := cH.gn cV; replace cU := cU.gn cV; replace cI := cI.gn cV; replace bQ := bQ.gn cV; replace cJ := cJ.gn cV; replace aT := aT.gn cV; replace aY := aY.gn cV; replace cK := cK.gn cV; replace cL := cL.gn cV; clear cV lH lG
 refine AtH.rk lI gY [0, 1] 2 [(82, .int .i64 (da)), (81, .agg #[.slice aV ((lsD (fromW sa) 256).length) bA, .slice bB ((lsD (fromW sb) 256).length) bY, .slice aW x0.length aZ, .slice bD x1.length bP])] (.l (CsC_at eO 0 rfl) <| .l (CsC_at eO 1 rfl) <| .l (CsC_at eO 2 rfl) <| .l (CsC_at eO 3 rfl) <| .l (CsC_at eO 4 rfl) <| .n) (fun sR lJ => ?_)
 clear gY
 refine AtH.all [2] 1 κ (by simp) ⟨?_, trivial⟩
 refine OneH.store lJ (t := 32) (b := w1.heap.size) (off := 0) (v := .agg #[.slice aV ((lsD (fromW sa) 256).length) bA, .slice bB ((lsD (fromW sb) 256).length) bY, .slice aW x0.length aZ, .slice bD x1.length bP]) _ rfl κ cI κ (fun sS fM dG fA lK => ?_)
 clear lJ
 replace fA : Bx fM (w1.heap.size) [.slice aV ((lsD (fromW sa) 256).length) bA, .slice bB ((lsD (fromW sb) 256).length) bY, .slice aW x0.length aZ, .slice bD x1.length bP] 32 := fA
 have gZ := lI.gr' dG (by rw [eO]; exact ⟨(by simp only [add_block]; omega), (by simp only [add_block]; omega), (by simp only [add_block]; omega), (by simp only [add_block]; omega), (by simp only [add_block]; omega), trivial⟩)
 have := dG.size; replace bZ := bZ.gr dG (fun k h => by injection h; omega); replace cH := cH.gb dG ω; replace cU := cU.gb dG ω; replace bQ := bQ.gb dG ω; replace cJ := cJ.gr dG (fun k hk e => by have := Sx_base hk; injection e; omega); replace aT := aT.gr dG (fun k hk e => by have := Sx_base hk; injection e; omega); replace aY := aY.gb dG ω
 replace cK := cK.gr dG (fun k hk e => by have := Sx_base hk; injection e; omega); replace cL := cL.gr dG (fun k hk e => by have := Sx_base hk; injection e; omega); clear cI dG
 refine ⟨gZ, ?_⟩
 refine AtH.rk gZ lK [3] 0 [(3, .int .i64 (da))] .n (fun sT mU => ?_)
 clear lK
 refine AtH.done κ ?_
 clear gZ
 refine t_n ?_
 clear bQ; clear aY
 refine wp_ret ?_
 refine ret_ mU [[.slice aV ((lsD (fromW sa) 256).length) bA, .slice bB ((lsD (fromW sb) 256).length) bY, .slice aW x0.length aZ, .slice bD x1.length bP]] [.agg #[.slice aV ((lsD (fromW sa) 256).length) bA, .slice bB ((lsD (fromW sb) 256).length) bY, .slice aW x0.length aZ, .slice bD x1.length bP], .int .i64 (da)] [(fM.cell? ⟨w1.heap.size, 0, none⟩ = some (.slice aV ((lsD (fromW sa) 256).length) bA)), (fM.cell? ⟨w1.heap.size, 1, none⟩ = some (.slice bB ((lsD (fromW sb) 256).length) bY)), (fM.cell? ⟨w1.heap.size, 2, none⟩ = some (.slice aW x0.length aZ)), (fM.cell? ⟨w1.heap.size, 3, none⟩ = some (.slice bD x1.length bP))] κ ⟨(fA.cell (i := 0) rfl), (fA.cell (i := 1) rfl), (fA.cell (i := 2) rfl), (fA.cell (i := 3) rfl), trivial⟩ ?_
 exact ⟨aV, bA, bB, bY, aW, aZ, bD, bP, _, _, _, _, _, rfl, bZ, ((cK.imp (fun g _ hs => ⟨hs.1, hs.2.1, hs.2.2.1, (by have := Sx_base hs; show w.heap.size ≤ g; omega)⟩))), ((cL.imp (fun g _ hs => ⟨hs.2.2.1, hs.1, hs.2.1, (by have := Sx_base hs; show w.heap.size ≤ g; omega)⟩))), ((cJ.imp (fun g _ hs => ⟨hs.2.1, hs.1, hs.2.2.2.1, (by have := Sx_base hs; show w.heap.size ≤ g; omega)⟩))), ((aT.imp (fun g _ hs => ⟨hs.2.1, hs.1, hs.2.2.2.1, (by have := Sx_base hs; show w.heap.size ≤ g; omega)⟩))), .inr ⟨hR, sa, sb, rfl, rfl, sol_end hR hpa hrl_ hrl_ hcutA hcutB ω ω ω ω⟩⟩
end Go.Proofs.YtplpgfcjjnaigaaDoor
namespace Go.Proofs.YtplpgfcjjnaigaaDoor
open Go Go.RowKit
theorem Way.map {E F : Int → Int → Prop} {u : Int → Int} (hi : ∀ a b, E a b → F (u a) (u b)) : ∀ {a b : Int}, Way E a b → Way F (u a) (u b)
  | _, _, .one h => .one (hi _ _ h)
  | _, _, .more h k => .more (hi _ _ h) (Way.map hi k)
end Go.Proofs.YtplpgfcjjnaigaaDoor
namespace Go.Proofs.YtplpgfcjjnaigaaDoor
open Go Go.RowKit
theorem SolveT.right {g : GameL} {l0 l1 m0 m1 : List Int} {d : Int} (h : SolveT g l0 l1 m0 m1 d) (hR : isR g = true) : ∃ s0 s1, l0 = lsD (fromW s0) 256 ∧ l1 = lsD (fromW s1) 256 ∧ SolT g s0 s1 m0 m1 d := by
  rcases h with ⟨h, _⟩ | ⟨_, h⟩
  · rw [h] at hR
    cases hR
  · exact h
end Go.Proofs.YtplpgfcjjnaigaaDoor
namespace Go.Proofs.YtplpgfcjjnaigaaDoor
open Go Go.RowKit
attribute [local irreducible] ofZ fromW wordsD ofD ofW lsD lenW lenN fullW withW lessW hasW hasD inW inD leastD putD onI tzI orS andS minusS orD andD minusD fullD emptyD
end Go.Proofs.YtplpgfcjjnaigaaDoor
namespace Go.Proofs.YtplpgfcjjnaigaaDoor
open Go Go.RowKit Go.MapKept
def key2 (x : Int × Int) : Value := .agg #[.int .i64 x.1, .int .i64 x.2]
def encM (y : (Int × Int) × Int) : Value × Value := (key2 y.1, .int .i64 y.2)
def Mp (w : World) (b : Nat) (L : List ((Int × Int) × Int)) : Prop := ∃ es clock, w.heap[b]? = some (.map es clock) ∧ es.toList.map (fun e => (e.key, e.val)) = L.map encM
def findL (x : Int × Int) : List ((Int × Int) × Int) → Nat → Option (Nat × Value)
  | [], _ => none
  | y :: L, i => if x = y.1 then some (i, .int .i64 y.2) else findL x L (i + 1)
section
variable {P : Program} {kt : TypeId} {w : World} {x : Int × Int}
theorem asking (heq : ∀ a b : Int × Int, (Op.equal kt (key2 a) (key2 b)).run P w = .ok (decide (a = b)) w) : ∀ (es : List MapEntry) (L : List ((Int × Int) × Int)) (i : Nat), es.map (fun e => (e.key, e.val)) = L.map encM →
    (Instr.findAsking kt (key2 x) es i).run P w = .ok (findL x L i) w
  | [], [], i, _ => by simp [Instr.findAsking, findL]
  | [], _ :: _, _, h => by simp at h
  | _ :: _, [], _, h => by simp at h
  | e :: es, y :: L, i, h => by
    simp only [List.map_cons, List.cons.injEq, encM, Prod.mk.injEq] at h
    obtain ⟨⟨h1, h2⟩, h3⟩ := h
    have ih := asking heq es L (i + 1) h3
    by_cases e1 : x = y.1
    · simp [Instr.findAsking, h1, h2, heq, findL, e1, Result.andThen]
    · simp [Instr.findAsking, h1, heq, findL, e1, Result.andThen, ih]
def valL (x : Int × Int) : List ((Int × Int) × Int) → Int
  | [] => 0
  | y :: L => if x = y.1 then y.2 else valL x L
def inL (x : Int × Int) : List ((Int × Int) × Int) → Bool
  | [] => false
  | y :: L => if x = y.1 then true else inL x L
theorem find_yes : ∀ {L : List ((Int × Int) × Int)} (i : Nat), inL x L = true → ∃ j, findL x L i = some (j, .int .i64 (valL x L))
  | [], _, h => by simp [inL] at h
  | y :: L, i, h => by
    unfold inL at h
    unfold findL valL
    by_cases e : x = y.1
    · rw [if_pos e, if_pos e]
      exact ⟨i, rfl⟩
    · rw [if_neg e] at h ⊢
      rw [if_neg e]
      exact find_yes (i + 1) h
theorem find_no : ∀ {L : List ((Int × Int) × Int)} (i : Nat), inL x L = false → findL x L i = none ∧ valL x L = 0
  | [], _, _ => ⟨rfl, rfl⟩
  | y :: L, i, h => by
    unfold inL at h
    unfold findL valL
    by_cases e : x = y.1
    · rw [if_pos e] at h
      cases h
    · rw [if_neg e] at h ⊢
      rw [if_neg e]
      exact find_no (i + 1) h
variable {t et : TypeId} {b : Nat} {L : List ((Int × Int) × Int)}
theorem run_look (hm : P.underlying t = some (.map kt et)) (hwide : (match P.underlying kt with | some (.array _ _) | some (.struct _) => true | _ => false) = true) (hck : ∀ em, (Instr.checkKey em 10000 kt (key2 x)).run P w = .ok () w)
    (heq : ∀ a b : Int × Int, (Op.equal kt (key2 a) (key2 b)).run P w = .ok (decide (a = b)) w) (hz : (zeroValue et).run P w = .ok (.int .i64 0) w) (h : Mp w b L) :
    (Instr.lookup t (.map (some b)) (key2 x) true).run P w = .ok (.tuple #[.int .i64 (valL x L), .bool (inL x L)]) w := by
  obtain ⟨es, clock, hb, hl⟩ := h
  have hf := (run_findKey_eq (w := w) hwide (key2 x) es.toList).trans (asking heq es.toList L 0 hl)
  cases e : inL x L with
  | true =>
    obtain ⟨j, hj⟩ := find_yes (x := x) 0 e
    rw [hj] at hf
    simp [Instr.lookup, run_underlying hm, Go.MapKept.run_getObj_map hb, hck, hf, Result.andThen]
  | false =>
    obtain ⟨h1, h2⟩ := find_no (x := x) 0 e
    rw [h1] at hf
    simp [Instr.lookup, run_underlying hm, Go.MapKept.run_getObj_map hb, hck, hf, hz, h2, Result.andThen]
theorem run_put (hm : P.underlying t = some (.map kt et)) (hwide : (match P.underlying kt with | some (.array _ _) | some (.struct _) => true | _ => false) = true) (hck : ∀ em, (Instr.checkKey em 10000 kt (key2 x)).run P w = .ok () w)
    (heq : ∀ a b : Int × Int, (Op.equal kt (key2 a) (key2 b)).run P w = .ok (decide (a = b)) w) (h : Mp w b L) (hn : inL x L = false) (v : Int) :
    ∃ w1, (Instr.mapUpdate t (.map (some b)) (key2 x) (.int .i64 v)).run P w = .ok () w1 ∧ w.grownBy w1 (some b) ∧ Mp w1 b (L ++ [(x, v)]) := by
  obtain ⟨es, clock, hb, hl⟩ := h
  have hf := (run_findKey_eq (w := w) hwide (key2 x) es.toList).trans (asking heq es.toList L 0 hl)
  rw [(find_no (x := x) 0 hn).1] at hf
  refine ⟨{ w with heap := w.heap.setIfInBounds b (.map (es.push ⟨key2 x, .int .i64 v, clock⟩) (clock + 1)) }, ?_, ?_, ?_⟩
  · simp [Instr.mapUpdate, run_underlying hm, Go.MapKept.run_getObj_map hb, hck, hf, Go.MapKept.run_setObj_map _ hb, Result.andThen]
  · exact ⟨rfl, rfl, rfl, by simp, fun k _ hk => by
      show (w.heap.setIfInBounds b _)[k]? = w.heap[k]?
      rw [Array.getElem?_setIfInBounds_ne (fun e => hk (by rw [e]))]⟩
  · refine ⟨es.push ⟨key2 x, .int .i64 v, clock⟩, clock + 1, ?_, ?_⟩
    · show (w.heap.setIfInBounds b _)[b]? = _
      have hlt : b < w.heap.size := by
        rcases Nat.lt_or_ge b w.heap.size with h2 | h2
        · exact h2
        · rw [Array.getElem?_eq_none h2] at hb
          cases hb
      rw [Array.getElem?_setIfInBounds_self_of_lt hlt]
    · rw [Array.toList_push, List.map_append, List.map_append, hl]
      rfl
theorem Mp.gr {w1 : World} {row : Option Nat} (h : Mp w b L) (hg : w.grownBy w1 row) (hne : row ≠ some b) : Mp w1 b L := by
  obtain ⟨es, clock, hb, hl⟩ := h
  have hlt : b < w.heap.size := by
    rcases Nat.lt_or_ge b w.heap.size with h2 | h2
    · exact h2
    · rw [Array.getElem?_eq_none h2] at hb
      cases hb
  exact ⟨es, clock, (hg.block b hlt (fun e => hne e.symm)).trans hb, hl⟩
theorem Mp.lt (h : Mp w b L) : b < w.heap.size := by
  obtain ⟨es, clock, hb, hl⟩ := h
  rcases Nat.lt_or_ge b w.heap.size with h2 | h2
  · exact h2
  · rw [Array.getElem?_eq_none h2] at hb
    cases hb
theorem Mp.as {L' : List ((Int × Int) × Int)} (h : Mp w b L) (e : L = L') : Mp w b L' := by subst e; exact h
theorem Mp.new : Mp (w.alloc (.map #[] 0)) w.heap.size [] := ⟨#[], 0, heap_alloc_new w _, rfl⟩
end
def lookAt (l : List (Nat × Value)) (ops : List Oper) (k : Nat) : Option (TypeId × Value × Value × Option Nat) :=
  match ops[k]? with
  | none => none
  | some o => match opOk l ops o, o.op with
    | true, .lookup t m x true => some (t, rho l m, rho l x, o.dst)
    | _, _ => none
def putAt (l : List (Nat × Value)) (ops : List Oper) (k : Nat) : Option (TypeId × Value × Value × Value) :=
  match ops[k]? with
  | none => none
  | some o => match opOk l ops o, o.op, o.dst with
    | true, .mapUpdate t m x v, none => some (t, rho l m, rho l x, rho l v)
    | _, _, _ => none
def newAt (l : List (Nat × Value)) (ops : List Oper) (k : Nat) : Option (TypeId × Option Nat) :=
  match ops[k]? with
  | none => none
  | some o => match opOk l ops o, o.op with
    | true, .makeMap t none => some (t, o.dst)
    | _, _ => none
section
variable {P : Program} {l : List (Nat × Value)} {ops : List Oper} {k d : Nat} {w : World} {t kt et : TypeId} {b : Nat} {L : List ((Int × Int) × Int)} {x y : Int}
structure KeyT (P : Program) (t kt et : TypeId) : Prop where
  m : P.underlying t = some (.map kt et)
  wide : (match P.underlying kt with | some (.array _ _) | some (.struct _) => true | _ => false) = true
  ck : ∀ em x w, (Instr.checkKey em 10000 kt (key2 x)).run P w = .ok () w
  eq : ∀ a b : Int × Int, ∀ w, (Op.equal kt (key2 a) (key2 b)).run P w = .ok (decide (a = b)) w
  z : ∀ w, (zeroValue et).run P w = .ok (.int .i64 0) w
theorem lookM (K : KeyT P t kt et) (ha : lookAt l ops k = some (t, .map (some b), .agg #[.int .i64 x, .int .i64 y], some d)) (h : Mp w b L) :
    ActOp P l ops k w fun d' v w1 => d' = some d ∧ v = .tuple #[.int .i64 (valL (x, y) L), .bool (inL (x, y) L)] ∧ w1 = w := by
  unfold lookAt at ha
  cases ho : ops[k]? with
  | none => rw [ho] at ha; simp at ha
  | some o =>
    rw [ho] at ha
    simp only at ha
    split at ha
    · rename_i t' a c hok' hop
      simp only [Option.some.injEq, Prod.mk.injEq] at ha
      obtain ⟨rfl, ha1, ha2, hd⟩ := ha
      have hr := run_look (x := (x, y)) K.m K.wide (fun em => K.ck em _ w) (fun a b => K.eq a b w) (K.z w) h
      refine ⟨o, ho, hok', .value _, _, w, ?_, .inl rfl, hd, rfl, rfl⟩
      simp only [execOp, hop, ha1, ha2]
      simp [show (.agg #[.int .i64 x, .int .i64 y] : Value) = key2 (x, y) from rfl, hr]
    · simp at ha
theorem putM (K : KeyT P t kt et) {v : Int} (ha : putAt l ops k = some (t, .map (some b), .agg #[.int .i64 x, .int .i64 y], .int .i64 v)) (h : Mp w b L) (hn : inL (x, y) L = false) :
    ActOp P l ops k w fun d' v' w1 => d' = none ∧ w.grownBy w1 (some b) ∧ Mp w1 b (L ++ [((x, y), v)]) := by
  unfold putAt at ha
  cases ho : ops[k]? with
  | none => rw [ho] at ha; simp at ha
  | some o =>
    rw [ho] at ha
    simp only at ha
    split at ha
    · rename_i t' a c e hok' hop hdst
      simp only [Option.some.injEq, Prod.mk.injEq] at ha
      obtain ⟨rfl, ha1, ha2, ha3⟩ := ha
      obtain ⟨w1, hr, hg, hM⟩ := run_put (x := (x, y)) K.m K.wide (fun em => K.ck em _ w) (fun a b => K.eq a b w) h hn v
      refine ⟨o, ho, hok', .skip, undef, w1, ?_, .inr ⟨rfl, rfl⟩, hdst, hg, hM⟩
      simp only [execOp, hop, ha1, ha2, ha3]
      simp [show (.agg #[.int .i64 x, .int .i64 y] : Value) = key2 (x, y) from rfl, hr]
    · simp at ha
theorem newM (ha : newAt l ops k = some (t, some d)) :
    ActOp P l ops k w fun d' v w1 => d' = some d ∧ v = .map (some w.heap.size) ∧ w.grownBy w1 none ∧ Mp w1 w.heap.size [] := by
  unfold newAt at ha
  cases ho : ops[k]? with
  | none => rw [ho] at ha; simp at ha
  | some o =>
    rw [ho] at ha
    simp only at ha
    split at ha
    · rename_i t' hok' hop
      simp only [Option.some.injEq, Prod.mk.injEq] at ha
      obtain ⟨rfl, hd⟩ := ha
      refine ⟨o, ho, hok', .value _, .map (some w.heap.size), w.alloc (.map #[] 0), ?_, .inl rfl, hd, rfl, World.grownBy_alloc w _ none, Mp.new⟩
      simp only [execOp, hop]
      simp [Instr.makeMap]
    · simp at ha
end
abbrev Pr2 := Int × Int
instance : Enc Pr2 := ⟨fun x => [.int .i64 x.1, .int .i64 x.2], 2, (0, 0), fun _ => rfl, fun x u h => by simp at h; rcases h with rfl | rfl <;> rfl, by decide, 16, by decide⟩
theorem RdI.take {w : World} {lo hi : Nat} {A : Option Addr} {l : List Int} (h : RdI w lo hi A l) (k : Nat) : RdI w lo hi A (l.take k) := by
  refine ⟨by have := h.len; rw [List.length_take]; omega, fun i q hi hq => ?_⟩
  rw [List.length_take] at hi
  obtain ⟨ad, hA, h1, h2, hc⟩ := h.row i q (by omega) hq
  refine ⟨ad, hA, h1, h2, ?_⟩
  simp only [List.getD_eq_getElem?_getD] at hc ⊢
  rw [List.getElem?_take_of_lt (by omega)]
  exact hc
theorem RdI.drop {w : World} {lo hi c : Nat} {A : Option Addr} {l : List Int} (h : RdI w lo hi A l) (k : Nat) (hc : l.length ≤ c) (hk : k ≤ l.length) : RdI w lo hi (if c = k then A else Option.map (fun a_ : Addr => a_.add (k * 1)) A) (l.drop k) := by
  refine ⟨by have := h.len; rw [List.length_drop]; omega, fun i q hi hq => ?_⟩
  rw [List.length_drop] at hi
  obtain ⟨ad, hA, h1, h2, hc⟩ := h.row (k + i) q (by omega) hq
  rw [if_neg (by omega), hA]
  refine ⟨ad.add (k * 1), rfl, by rw [add_block]; exact h1, by rw [add_block]; exact h2, ?_⟩
  simp only [List.getD_eq_getElem?_getD] at hc ⊢
  rw [List.getElem?_drop, add_add' ad, show k * 1 + i * 1 = (k + i) * 1 by omega]
  exact hc
theorem Bx.rdI1 {w : World} {b : Nat} {cs : List Value} {T : TypeId} {l : List Int} (h : Bx w b cs T) (e : cs = ints l) (hl : l.length * 8 ≤ 140737488351232) : RdI w b (b + 1) (some ⟨b, 0, none⟩) l := by
  have h2 := h.rdI e hl
  refine ⟨h2.len, fun i q hi hq => ?_⟩
  obtain ⟨ad, hA, _, _, hc⟩ := h2.row i q hi hq
  injection hA with hA
  subst hA
  exact ⟨_, rfl, Nat.le_refl _, Nat.lt_succ_self _, hc⟩
def numL : Nat → List (Int × Int) → List ((Int × Int) × Int)
  | _, [] => []
  | n, s :: l => (s, (n : Int)) :: numL (n + 1) l
theorem num_push (x : Int × Int) : ∀ (l : List (Int × Int)) (n : Nat), numL n (l ++ [x]) = numL n l ++ [(x, ((n + l.length : Nat) : Int))]
  | [], n => rfl
  | s :: l, n => by
    show _ :: numL (n + 1) (l ++ [x]) = _ :: (numL (n + 1) l ++ _)
    rw [num_push x l (n + 1), show n + 1 + l.length = n + (s :: l).length by simp only [List.length_cons]; omega]
theorem num_in (x : Int × Int) : ∀ (l : List (Int × Int)) (n : Nat), inL x (numL n l) = decide (x ∈ l)
  | [], n => by simp [numL, inL]
  | s :: l, n => by
    show (if x = s then true else inL x (numL (n + 1) l)) = _
    by_cases e : x = s
    · rw [if_pos e]
      simp [e]
    · rw [if_neg e, num_in x l (n + 1)]
      simp [e]
theorem num_val (x : Int × Int) : ∀ (l : List (Int × Int)) (n : Nat), x ∈ l → ∃ k : Nat, valL x (numL n l) = ((n + k : Nat) : Int) ∧ l[k]? = some x
  | [], n, h => by simp at h
  | s :: l, n, h => by
    show ∃ k : Nat, (if x = s then ((n : Nat) : Int) else valL x (numL (n + 1) l)) = _ ∧ _
    by_cases e : x = s
    · rw [if_pos e]
      exact ⟨0, rfl, by rw [e]; rfl⟩
    · rw [if_neg e]
      obtain ⟨k, h1, h2⟩ := num_val x l (n + 1) (by simpa [e] using h)
      exact ⟨k + 1, by rw [h1, show n + 1 + k = n + (k + 1) by omega], by simpa using h2⟩
end Go.Proofs.YtplpgfcjjnaigaaDoor
namespace Go.Proofs.YtplpgfcjjnaigaaDoor
open Go Go.RowKit
def nextS (g : GameL) (p : Int) (mv sc : List Int) (s : Int × Int) : Option (Int × Int) :=
  if gI g.ow s.1 = p then (if (if s.1 < (mv.length : Int) then gI mv s.1 else -1) ∈ gL g.mv s.1 then some (if s.1 < (mv.length : Int) then gI mv s.1 else -1, s.2) else none)
  else some (gI (gL g.mv s.1) (if Int.tmod (gI sc s.2) ((gL g.mv s.1).length : Int) < 0 then Int.tmod (gI sc s.2) ((gL g.mv s.1).length : Int) + ((gL g.mv s.1).length : Int) else Int.tmod (gI sc s.2) ((gL g.mv s.1).length : Int)), (s.2 + 1) % (sc.length : Int))
inductive StandT (g : GameL) (p : Int) (mv sc : List Int) (i : Int) : List (Int × Int) → (Int × Int) → Prop
  | nil : StandT g p mv sc i [] (i, 0)
  | push {l : List (Int × Int)} {s t : Int × Int} : StandT g p mv sc i l s → s ∉ l → nextS g p mv sc s = some t → StandT g p mv sc i (l ++ [s]) t
section
variable {g : GameL} {p i : Int} {mv sc : List Int} {l l2 : List (Int × Int)} {s s2 : Int × Int}
theorem StandT.nodup (h : StandT g p mv sc i l s) : l.Nodup := by
  induction h with
  | nil => exact List.nodup_nil
  | push h hn _ ih =>
    rw [List.nodup_append]
    refine ⟨ih, by simp, fun a ha b hb e => ?_⟩
    rw [List.mem_singleton] at hb
    subst hb
    subst e
    exact hn ha
theorem StandT.one (h : StandT g p mv sc i l s) : ∀ {l2 : List (Int × Int)} {s2 : Int × Int}, StandT g p mv sc i l2 s2 → l.length = l2.length → l = l2 ∧ s = s2 := by
  induction h with
  | nil =>
    intro l2 s2 h2 e
    cases h2 with
    | nil => exact ⟨rfl, rfl⟩
    | push _ _ _ => simp at e
  | push h hn ht ih =>
    intro l2 s2 h2 e
    cases h2 with
    | nil => simp at e
    | push h3 hn3 ht3 =>
      simp only [List.length_append, List.length_singleton, Nat.add_right_cancel_iff] at e
      obtain ⟨rfl, rfl⟩ := ih h3 e
      rw [ht] at ht3
      injection ht3 with e4
      exact ⟨rfl, e4⟩
theorem StandT.pre (h : StandT g p mv sc i l s) : ∀ n, n < l.length → ∃ t u, StandT g p mv sc i (l.take n) t ∧ t ∉ l.take n ∧ nextS g p mv sc t = some u ∧ l[n]? = some t := by
  induction h with
  | nil => intro n hn; simp at hn
  | push h hn ht ih =>
    rename_i l s t
    intro n hlt
    rw [List.length_append, List.length_singleton] at hlt
    by_cases e : n < l.length
    · obtain ⟨a, b, h1, h2, h3, h4⟩ := ih n e
      rw [List.take_append_of_le_length (by omega)]
      exact ⟨a, b, h1, h2, h3, by rw [List.getElem?_append_left e]; exact h4⟩
    · have e2 : n = l.length := by omega
      subst e2
      rw [List.take_left]
      exact ⟨s, t, h, hn, ht, by simp⟩
def StopT (g : GameL) (p : Int) (mv sc : List Int) (l : List (Int × Int)) (s : Int × Int) : Prop := s ∈ l ∨ nextS g p mv sc s = none
theorem stop_le (h : StandT g p mv sc i l s) (hs : StopT g p mv sc l s) (h2 : StandT g p mv sc i l2 s2) : l2.length ≤ l.length := by
  apply Classical.byContradiction
  intro hlt
  obtain ⟨t, u, h3, h4, h5, _⟩ := h2.pre l.length (by omega)
  obtain ⟨e1, e2⟩ := h.one h3 (by rw [List.length_take]; omega)
  subst e2
  rw [← e1] at h4
  rcases hs with hs | hs
  · exact h4 hs
  · rw [hs] at h5
    cases h5
theorem stop_one (h : StandT g p mv sc i l s) (hs : StopT g p mv sc l s) (h2 : StandT g p mv sc i l2 s2) (hs2 : StopT g p mv sc l2 s2) : l = l2 ∧ s = s2 := by
  have := stop_le h hs h2
  have := stop_le h2 hs2 h
  exact h.one h2 (by omega)
theorem next_rng (hG : RightG g) (hsc : 0 < sc.length) (a : 0 ≤ s.1) (b : s.1 < (g.ow.length : Int)) (c : 0 ≤ s.2) (d : s.2 < (sc.length : Int)) (h : nextS g p mv sc s = some s2) : (0 ≤ s2.1 ∧ s2.1 < (g.ow.length : Int)) ∧ 0 ≤ s2.2 ∧ s2.2 < (sc.length : Int) := by
  unfold nextS at h
  have hne := hG.ne s.1 a b
  by_cases e0 : gI g.ow s.1 = p
  · rw [if_pos e0] at h
    generalize (if s.1 < (mv.length : Int) then gI mv s.1 else -1) = m at h
    split at h
    · rename_i hm
      injection h with h
      subst h
      obtain ⟨k, hk, e⟩ := List.mem_iff_getElem.1 hm
      have h2 := hG.mv s.1 a b (k : Int) (by omega) (by omega)
      rw [show gI (gL g.mv s.1) (k : Int) = m by rw [gI, List.getD_eq_getElem?_getD, Int.toNat_natCast, List.getElem?_eq_getElem hk, Option.getD_some, e]] at h2
      exact ⟨h2, c, d⟩
    · cases h
  · rw [if_neg e0] at h
    injection h with h
    subst h
    have h3 : ((gL g.mv s.1).length : Int) ≠ 0 := by omega
    have h4 := Int.lt_tmod_of_pos (gI sc s.2) (show 0 < ((gL g.mv s.1).length : Int) by omega)
    have h5 := Int.tmod_lt_of_pos (gI sc s.2) (show 0 < ((gL g.mv s.1).length : Int) by omega)
    refine ⟨?_, Int.emod_nonneg _ (by omega), Int.emod_lt_of_pos _ (by omega)⟩
    dsimp only
    split
    · exact hG.mv s.1 a b _ (by omega) (by omega)
    · exact hG.mv s.1 a b _ (by omega) (by omega)
theorem StandT.rng (hG : RightG g) (hsc : 0 < sc.length) (a : 0 ≤ i) (b : i < (g.ow.length : Int)) (h : StandT g p mv sc i l s) : (∀ x ∈ l, (0 ≤ x.1 ∧ x.1 < (g.ow.length : Int)) ∧ 0 ≤ x.2 ∧ x.2 < (sc.length : Int)) ∧ (0 ≤ s.1 ∧ s.1 < (g.ow.length : Int)) ∧ 0 ≤ s.2 ∧ s.2 < (sc.length : Int) := by
  induction h with
  | nil => exact ⟨fun x hx => by simp at hx, ⟨a, b⟩, by simp, by simpa using hsc⟩
  | push h hn ht ih =>
    refine ⟨fun x hx => ?_, next_rng hG hsc ih.2.1.1 ih.2.1.2 ih.2.2.1 ih.2.2.2 ht⟩
    rcases List.mem_append.1 hx with hx | hx
    · exact ih.1 x hx
    · rw [List.mem_singleton] at hx
      subst hx
      exact ih.2
theorem StandT.le (hG : RightG g) (hsc : 0 < sc.length) (hs64 : sc.length ≤ 64) (a : 0 ≤ i) (b : i < (g.ow.length : Int)) (h : StandT g p mv sc i l s) : l.length ≤ 12800 := by
  apply Classical.byContradiction
  intro hlt
  have hr := (h.rng hG hsc a b).1
  have hn := hG.n1
  have hk : ∀ k, k ≤ 12800 → ∃ hk : k < l.length, (0 ≤ (l[k]).1 ∧ (l[k]).1 < (g.ow.length : Int)) ∧ 0 ≤ (l[k]).2 ∧ (l[k]).2 < (sc.length : Int) := fun k hk => ⟨by omega, hr _ (List.getElem_mem (by omega))⟩
  obtain ⟨x, y, hxy, hy, e⟩ := pigeon 12800 (fun k => (l.getD k (0, 0)).1 * 64 + (l.getD k (0, 0)).2) (fun k hk2 => by
    obtain ⟨h1, h2⟩ := hk k hk2
    rw [List.getD_eq_getElem?_getD, List.getElem?_eq_getElem h1, Option.getD_some]
    omega)
  obtain ⟨h1, h2⟩ := hk x (by omega)
  obtain ⟨h3, h4⟩ := hk y hy
  rw [List.getD_eq_getElem?_getD, List.getElem?_eq_getElem h1, Option.getD_some, List.getD_eq_getElem?_getD, List.getElem?_eq_getElem h3, Option.getD_some] at e
  have e2 : l[x] = l[y] := Prod.ext (by omega) (by omega)
  exact List.pairwise_iff_getElem.1 h.nodup x y h1 h3 hxy e2
end
end Go.Proofs.YtplpgfcjjnaigaaDoor
namespace Go.Proofs.YtplpgfcjjnaigaaDoor
open Go Go.RowKit
structure PlayR where
  ah : List Int
  ro : List Int
  win : Int
  err : Int
def okP (g : GameL) (i p : Int) : Prop := isR g = true ∧ 0 ≤ i ∧ i < (g.ow.length : Int) ∧ (p = 0 ∨ p = 1)
def scN (sc : List Int) : List Int := if sc.length = 0 then [0] else sc
def topP (g : GameL) (r : List Int) : Int := r.foldl (fun t x => max t (gI g.pr x)) 0
inductive RunT (g : GameL) (i p : Int) (mv sc : List Int) : PlayR → Prop
  | arg : ¬ okP g i p → RunT g i p mv sc ⟨[], [], 0, 1⟩
  | many : okP g i p → 64 < sc.length → RunT g i p mv sc ⟨[], [], 0, 10⟩
  | move {l : List (Int × Int)} {s : Int × Int} : okP g i p → sc.length ≤ 64 → StandT g p mv (scN sc) i l s → s ∉ l → nextS g p mv (scN sc) s = none → RunT g i p mv sc ⟨[], [], 0, 16⟩
  | play {l : List (Int × Int)} {s : Int × Int} {k : Nat} : okP g i p → sc.length ≤ 64 → StandT g p mv (scN sc) i l s → l[k]? = some s → RunT g i p mv sc ⟨(l.take k).map Prod.fst, (l.drop k).map Prod.fst, topP g ((l.drop k).map Prod.fst) % 2, 0⟩
section
variable {g : GameL} {p i : Int} {mv sc : List Int} {l : List (Int × Int)} {s : Int × Int}
theorem scN_pos (sc : List Int) : 0 < (scN sc).length := by
  unfold scN
  split
  · simp
  · omega
theorem scN_le (h : sc.length ≤ 64) : (scN sc).length ≤ 64 := by
  unfold scN
  split
  · simp
  · omega
theorem run_one {a b : PlayR} (ha : RunT g i p mv sc a) (hb : RunT g i p mv sc b) : a = b := by
  cases ha with
  | arg h => cases hb <;> first | rfl | contradiction
  | many h h2 =>
    cases hb with
    | arg h3 => contradiction
    | many _ _ => rfl
    | move _ _ _ _ _ => omega
    | play _ _ _ _ => omega
  | move h h2 hs hn hx =>
    cases hb with
    | arg h3 => contradiction
    | many _ _ => omega
    | move _ _ _ _ _ => rfl
    | play _ _ hs2 hk =>
      obtain ⟨rfl, rfl⟩ := stop_one hs (.inr hx) hs2 (.inl (List.mem_of_getElem? hk))
      exact absurd (List.mem_of_getElem? hk) hn
  | play h h2 hs hk =>
    cases hb with
    | arg h3 => contradiction
    | many _ _ => omega
    | move _ _ hs2 hn hx =>
      obtain ⟨rfl, rfl⟩ := stop_one hs (.inl (List.mem_of_getElem? hk)) hs2 (.inr hx)
      exact absurd (List.mem_of_getElem? hk) hn
    | play _ _ hs2 hk2 =>
      rename_i l s k l2 s2 k2 _ _
      obtain ⟨rfl, rfl⟩ := stop_one hs (.inl (List.mem_of_getElem? hk)) hs2 (.inl (List.mem_of_getElem? hk2))
      obtain ⟨h3, h4⟩ := List.getElem?_eq_some_iff.1 hk
      obtain ⟨h5, h6⟩ := List.getElem?_eq_some_iff.1 hk2
      have : k = k2 := by
        apply Classical.byContradiction
        intro hne
        rcases Nat.lt_or_gt_of_ne hne with h | h
        · exact List.pairwise_iff_getElem.1 hs.nodup k k2 h3 h5 h (h4.trans h6.symm)
        · exact List.pairwise_iff_getElem.1 hs.nodup k2 k h5 h3 h (h6.trans h4.symm)
      subst this
      rfl
def traj (g : GameL) (p : Int) (mv sc : List Int) (i : Int) : Nat → Option (Int × Int)
  | 0 => some (i, 0)
  | k + 1 => (traj g p mv sc i k).bind (nextS g p mv sc)
theorem stand_traj (h : StandT g p mv sc i l s) : (∀ k, k < l.length → traj g p mv sc i k = l[k]?) ∧ traj g p mv sc i l.length = some s := by
  induction h with
  | nil => exact ⟨fun k hk => by simp at hk, rfl⟩
  | push h hn ht ih =>
    rename_i l s t
    refine ⟨fun k hk => ?_, ?_⟩
    · rw [List.length_append, List.length_singleton] at hk
      by_cases e : k < l.length
      · rw [List.getElem?_append_left e]
        exact ih.1 k e
      · obtain rfl : k = l.length := by omega
        rw [ih.2]
        simp
    · rw [List.length_append, List.length_singleton]
      show (traj g p mv sc i l.length).bind _ = _
      rw [ih.2]
      exact ht
theorem traj_add {a b : Nat} (h : traj g p mv sc i a = traj g p mv sc i b) : ∀ m, traj g p mv sc i (a + m) = traj g p mv sc i (b + m)
  | 0 => h
  | m + 1 => by
    show (traj g p mv sc i (a + m)).bind _ = (traj g p mv sc i (b + m)).bind _
    rw [traj_add h m]
def stepP (r : PlayR) (j : Nat) : Int := if j < r.ah.length then r.ah.getD j 0 else r.ro.getD ((j - r.ah.length) % r.ro.length) 0
structure RoundT (g : GameL) (i p : Int) (mv sc : List Int) (r : PlayR) : Prop where
  ne : 0 < r.ro.length
  st : ∀ j, ∃ y, traj g p mv sc i j = some (stepP r j, y)
  win : r.win = topP g r.ro % 2
theorem getD_map {l : List (Int × Int)} {j : Nat} {a : Int × Int} (h : l[j]? = some a) : (l.map Prod.fst).getD j 0 = a.1 := by
  rw [List.getD_eq_getElem?_getD, List.getElem?_map, h]
  rfl
theorem round_of {k : Nat} (h : StandT g p mv sc i l s) (hk : l[k]? = some s) : RoundT g i p mv sc ⟨(l.take k).map Prod.fst, (l.drop k).map Prod.fst, topP g ((l.drop k).map Prod.fst) % 2, 0⟩ := by
  obtain ⟨hkl, hk2⟩ := List.getElem?_eq_some_iff.1 hk
  have ht := stand_traj h
  have hper : ∀ m, traj g p mv sc i (l.length + m) = traj g p mv sc i (k + m) := traj_add (by rw [ht.2, ht.1 k hkl, hk])
  have hla : ((l.take k).map Prod.fst).length = k := by rw [List.length_map, List.length_take]; omega
  have hlr : ((l.drop k).map Prod.fst).length = l.length - k := by rw [List.length_map, List.length_drop]
  refine ⟨by show 0 < ((l.drop k).map Prod.fst).length; omega, fun j => ?_, rfl⟩
  induction j using Nat.strongRecOn with
  | ind j ih =>
    by_cases hj : j < l.length
    · rw [ht.1 j hj, List.getElem?_eq_getElem hj]
      refine ⟨(l[j]).2, ?_⟩
      unfold stepP
      dsimp only
      rw [hla, hlr]
      split
      · rename_i h2
        rw [getD_map (a := l[j]) (by rw [List.getElem?_take_of_lt h2, List.getElem?_eq_getElem hj])]
      · rename_i h2
        rw [Nat.mod_eq_of_lt (by omega), getD_map (a := l[j]) (by rw [List.getElem?_drop, show k + (j - k) = j by omega, List.getElem?_eq_getElem hj])]
    · obtain ⟨m, rfl⟩ : ∃ m, j = l.length + m := ⟨j - l.length, by omega⟩
      obtain ⟨y, hy⟩ := ih (k + m) (by omega)
      refine ⟨y, ?_⟩
      rw [hper, hy]
      unfold stepP
      dsimp only
      rw [hla, hlr, if_neg (by omega), if_neg (by omega), show l.length + m - k = (k + m - k) + (l.length - k) by omega, Nat.add_mod_right]
theorem step_ro {r : PlayR} {j : Nat} (h : r.ah.length ≤ j) (hn : 0 < r.ro.length) : stepP r j ∈ r.ro := by
  unfold stepP
  rw [if_neg (by omega), List.getD_eq_getElem?_getD, List.getElem?_eq_getElem (Nat.mod_lt _ hn)]
  exact List.getElem_mem _
theorem ro_step {r : PlayR} {x : Int} (h : x ∈ r.ro) (n : Nat) : ∃ j, n ≤ j ∧ stepP r j = x := by
  obtain ⟨t, ht, rfl⟩ := List.mem_iff_getElem.1 h
  have h1 : n ≤ n * r.ro.length := Nat.le_mul_of_pos_right _ (by omega)
  refine ⟨r.ah.length + t + n * r.ro.length, by omega, ?_⟩
  unfold stepP
  rw [if_neg (by omega), show r.ah.length + t + n * r.ro.length - r.ah.length = t + n * r.ro.length by omega, Nat.add_mul_mod_self_right, Nat.mod_eq_of_lt ht, List.getD_eq_getElem?_getD, List.getElem?_eq_getElem ht]
  rfl
theorem top_le' (g : GameL) : ∀ (r : List Int) (t : Int), t ≤ r.foldl (fun t x => max t (gI g.pr x)) t ∧ (∀ x ∈ r, gI g.pr x ≤ r.foldl (fun t x => max t (gI g.pr x)) t) ∧ (r.foldl (fun t x => max t (gI g.pr x)) t = t ∨ ∃ x ∈ r, gI g.pr x = r.foldl (fun t x => max t (gI g.pr x)) t)
  | [], t => ⟨Int.le_refl _, fun x hx => by simp at hx, .inl rfl⟩
  | y :: r, t => by
    obtain ⟨h1, h2, h3⟩ := top_le' g r (max t (gI g.pr y))
    simp only [List.foldl_cons]
    refine ⟨by omega, fun x hx => ?_, ?_⟩
    · rcases List.mem_cons.1 hx with rfl | hx
      · omega
      · exact h2 x hx
    · rcases h3 with h3 | ⟨x, hx, h3⟩
      · by_cases e : t ≤ gI g.pr y
        · exact .inr ⟨y, List.mem_cons_self, by rw [h3]; omega⟩
        · exact .inl (by rw [h3]; omega)
      · exact .inr ⟨x, List.mem_cons_of_mem _ hx, h3⟩
theorem top_ge (g : GameL) (r : List Int) : 0 ≤ topP g r := (top_le' g r 0).1
theorem top_mem {g : GameL} {r : List Int} {x : Int} (h : x ∈ r) : gI g.pr x ≤ topP g r := (top_le' g r 0).2.1 x h
theorem top_at (g : GameL) (r : List Int) : topP g r = 0 ∨ ∃ x ∈ r, gI g.pr x = topP g r := (top_le' g r 0).2.2
theorem err_traj {r : PlayR} (hok : okP g i p) (hl : sc.length ≤ 64) (h : RunT g i p mv sc r) : (r.err = 0 ∧ RoundT g i p mv (scN sc) r) ∨ (r.err = 16 ∧ ∃ j, traj g p mv (scN sc) i j = none) := by
  cases h with
  | arg h => contradiction
  | many _ _ => omega
  | move h2 h3 hs h4 hx =>
    rename_i l s
    refine .inr ⟨rfl, l.length + 1, ?_⟩
    show (traj g p mv (scN sc) i _).bind _ = none
    rw [(stand_traj hs).2]
    exact hx
  | play _ _ hs hk => exact .inl ⟨rfl, round_of hs hk⟩
end
end Go.Proofs.YtplpgfcjjnaigaaDoor
namespace Go.Proofs.YtplpgfcjjnaigaaDoor
open Go Go.RowKit
section
variable {g : GameL} {l : List Int} {k j t : Int}
theorem drop_mem (h0 : 0 ≤ j) (h1 : j < ((l.drop k.toNat).length : Int)) : gI (l.drop k.toNat) j ∈ l := List.mem_of_mem_drop (in_at (l := l.drop k.toNat) h0 h1 rfl)
theorem top_next (h : t = topP g (l.take j.toNat)) (h0 : 0 ≤ j) (h1 : j < (l.length : Int)) : max t (gI g.pr (gI l j)) = topP g (l.take (j + 1).toNat) := by
  rw [show (j + 1).toNat = j.toNat + 1 by omega, List.take_succ_eq_append_getElem (by omega), h]
  simp only [topP, List.foldl_append, List.foldl_cons, List.foldl_nil]
  simp only [gI, List.getD_eq_getElem?_getD, List.getElem?_eq_getElem (show j.toNat < l.length by omega), Option.getD_some]
theorem top_all (h : (l.length : Int) ≤ k) : topP g (l.take k.toNat) = topP g l := by rw [List.take_of_length_le (by omega)]
end
def nxt (g : GameL) (p : Int) (mv sc : List Int) (s : Int × Int) : (Int × Int) × Bool :=
  if gI g.ow s.1 = p then ((if s.1 < (mv.length : Int) then gI mv s.1 else -1, s.2), decide ((if s.1 < (mv.length : Int) then gI mv s.1 else -1) ∈ gL g.mv s.1))
  else ((gI (gL g.mv s.1) (if Int.tmod (gI sc s.2) ((gL g.mv s.1).length : Int) < 0 then Int.tmod (gI sc s.2) ((gL g.mv s.1).length : Int) + ((gL g.mv s.1).length : Int) else Int.tmod (gI sc s.2) ((gL g.mv s.1).length : Int)), (s.2 + 1) % (sc.length : Int)), true)
section
variable {g : GameL} {p i m k x y : Int} {mv sc : List Int} {s : Int × Int} {ls : List (Int × Int)} {la : List Int}
theorem nxt_next : nextS g p mv sc s = if (nxt g p mv sc s).2 = true then some (nxt g p mv sc s).1 else none := by
  unfold nextS nxt
  by_cases e : gI g.ow s.1 = p
  · rw [if_pos e, if_pos e]
    generalize (if s.1 < (mv.length : Int) then gI mv s.1 else -1) = m
    by_cases h : m ∈ gL g.mv s.1
    · simp [h]
    · simp [h]
  · rw [if_neg e, if_neg e]
    rfl
theorem nxt_yes (h : (nxt g p mv sc s).2 = true) : nextS g p mv sc s = some (nxt g p mv sc s).1 := by rw [nxt_next, if_pos h]
theorem nxt_no (h : (nxt g p mv sc s).2 = false) : nextS g p mv sc s = none := by rw [nxt_next, if_neg (by rw [h]; decide)]
theorem nxt_own (h : gI g.ow x = p) (hm : m = if x < (mv.length : Int) then gI mv x else -1) : nxt g p mv sc (x, y) = ((m, y), decide (m ∈ gL g.mv x)) := by
  unfold nxt
  rw [if_pos h, hm]
theorem nxt_oth (h : gI g.ow x ≠ p) (hk : k = if Int.tmod (gI sc y) ((gL g.mv x).length : Int) < 0 then Int.tmod (gI sc y) ((gL g.mv x).length : Int) + ((gL g.mv x).length : Int) else Int.tmod (gI sc y) ((gL g.mv x).length : Int)) :
    nxt g p mv sc (x, y) = ((gI (gL g.mv x) k, (y + 1) % (sc.length : Int)), true) := by
  unfold nxt
  rw [if_neg h, hk]
theorem nok (h : (rightP g).2 ≠ 0 ∨ i < 0 ∨ (g.ow.length : Int) ≤ i ∨ (p ≠ 0 ∧ p ≠ 1)) : ¬ okP g i p := by
  rintro ⟨h1, h2, h3, h4⟩
  have : (rightP g).2 = 0 := by unfold isR at h1; exact eq_of_beq h1
  omega
theorem isok (h : (rightP g).2 = 0) (h0 : 0 ≤ i) (h1 : i < (g.ow.length : Int)) (h2 : p = 0 ∨ p = 1) : okP g i p := ⟨by unfold isR; rw [h]; rfl, h0, h1, h2⟩
theorem scN_0 {l : List Int} (h : l.length = 0) : ([0] : List Int) = scN l := by unfold scN; rw [if_pos h]
theorem scN_1 {l : List Int} (h : l.length ≠ 0) : l = scN l := by unfold scN; rw [if_neg h]
theorem run_play (hok : okP g i p) (h64 : sc.length ≤ 64) (hst : StandT g p mv (scN sc) i ls s) (hla : la = ls.map Prod.fst) {v : Int} {k : Nat} (hv : v = ((0 + k : Nat) : Int)) (hk : ls[k]? = some s) :
    RunT g i p mv sc ⟨la.take v.toNat, la.drop v.toNat, topP g (la.drop v.toNat) % 2, 0⟩ := by
  subst hla
  subst hv
  have := RunT.play hok h64 hst hk
  rw [show (((0 + k : Nat) : Int)).toNat = k by omega, ← List.map_take, ← List.map_drop]
  exact this
theorem stand_in {n : Int} (hst : StandT g p mv sc i ls s) (hG : RightG g) (hp : (g.pr.length : Int) = n) (hg : (g.ow.length : Int) = n) (hsc : 0 < sc.length) (a : 0 ≤ i) (b : i < (g.ow.length : Int)) (hla : la = ls.map Prod.fst) : ∀ x ∈ la, 0 ≤ x ∧ x < (g.pr.length : Int) := by
  subst hla
  intro x hx
  obtain ⟨y, hy, rfl⟩ := List.mem_map.1 hx
  have := (hst.rng hG hsc a b).1 y hy
  omega
end
section
variable {g : GameL} {l : List Pr2} {i k t x p : Int} {xa xr : List Int} {mv sc : List Int} {s : Int × Int}
theorem nok2 (h : isR g = false) : ¬ okP g i p := fun h2 => by have := h2.1; rw [h] at this; cases this
end
end Go.Proofs.YtplpgfcjjnaigaaDoor
namespace Go.Proofs.YtplpgfcjjnaigaaDoor
open Go Go.RowKit
theorem pneF {a b : Int} (h : a = b) : (a != b) = false := by simp [h]
section
variable {g : GameL} {p i : Int} {mv sc : List Int} {l : List (Int × Int)} {s t : Int × Int} {r : PlayR}
theorem StandT.le2 (hG : RightG g) (hsc : 0 < sc.length) (hs64 : sc.length ≤ 64) (a : 0 ≤ i) (b : i < (g.ow.length : Int)) (h : StandT g p mv sc i l s) : l.length ≤ 64 * g.ow.length := by
  apply Classical.byContradiction
  intro hlt
  have hr := (h.rng hG hsc a b).1
  have hk : ∀ k, k ≤ 64 * g.ow.length → ∃ hk : k < l.length, (0 ≤ (l[k]).1 ∧ (l[k]).1 < (g.ow.length : Int)) ∧ 0 ≤ (l[k]).2 ∧ (l[k]).2 < (sc.length : Int) := fun k hk => ⟨by omega, hr _ (List.getElem_mem (by omega))⟩
  obtain ⟨x, y, hxy, hy, e⟩ := pigeon (64 * g.ow.length) (fun k => (l.getD k (0, 0)).1 * 64 + (l.getD k (0, 0)).2) (fun k hk2 => by
    obtain ⟨h1, h2⟩ := hk k hk2
    rw [List.getD_eq_getElem?_getD, List.getElem?_eq_getElem h1, Option.getD_some]
    omega)
  obtain ⟨h1, h2⟩ := hk x (by omega)
  obtain ⟨h3, h4⟩ := hk y hy
  rw [List.getD_eq_getElem?_getD, List.getElem?_eq_getElem h1, Option.getD_some, List.getD_eq_getElem?_getD, List.getElem?_eq_getElem h3, Option.getD_some] at e
  have e2 : l[x] = l[y] := Prod.ext (by omega) (by omega)
  exact List.pairwise_iff_getElem.1 h.nodup x y h1 h3 hxy e2
theorem run_len (h : RunT g i p mv sc r) : r.ah.length + r.ro.length ≤ 12800 ∧ r.ah.length + r.ro.length ≤ 64 * g.ow.length := by
  cases h with
  | arg _ => simp
  | many _ _ => simp
  | move _ _ _ _ _ => simp
  | play hok h64 hs hk =>
    have h1 := hs.le (isR_ok hok.1) (scN_pos sc) (scN_le h64) hok.2.1 hok.2.2.1
    have h2 := hs.le2 (isR_ok hok.1) (scN_pos sc) (scN_le h64) hok.2.1 hok.2.2.1
    simp only [List.length_map, List.length_take, List.length_drop]
    omega
theorem next_in (hG : RightG g) (a : 0 ≤ s.1) (b : s.1 < (g.ow.length : Int)) (h : nextS g p mv sc s = some t) : t.1 ∈ gL g.mv s.1 ∧ (gI g.ow s.1 = p → s.1 < (mv.length : Int) ∧ gI mv s.1 = t.1) := by
  unfold nextS at h
  have hne := hG.ne s.1 a b
  by_cases e0 : gI g.ow s.1 = p
  · rw [if_pos e0] at h
    generalize hm : (if s.1 < (mv.length : Int) then gI mv s.1 else -1) = m at h
    split at h
    · rename_i hin
      injection h with h
      subst h
      refine ⟨hin, fun _ => ?_⟩
      obtain ⟨k, hk, e⟩ := List.mem_iff_getElem.1 hin
      have h2 := (hG.mv s.1 a b (k : Int) (by omega) (by omega)).1
      rw [show gI (gL g.mv s.1) (k : Int) = m by rw [gI, List.getD_eq_getElem?_getD, Int.toNat_natCast, List.getElem?_eq_getElem hk, Option.getD_some, e]] at h2
      split at hm
      · rename_i h3
        exact ⟨h3, hm⟩
      · omega
    · cases h
  · rw [if_neg e0] at h
    injection h with h
    subst h
    refine ⟨?_, fun h => absurd h e0⟩
    have h4 := Int.lt_tmod_of_pos (gI sc s.2) (show 0 < ((gL g.mv s.1).length : Int) by omega)
    have h5 := Int.tmod_lt_of_pos (gI sc s.2) (show 0 < ((gL g.mv s.1).length : Int) by omega)
    dsimp only
    split
    · exact in_at (by omega) (by omega) rfl
    · exact in_at (by omega) (by omega) rfl
def goL (r : PlayR) : List Int := r.ah ++ r.ro ++ [gI r.ro 0]
structure GoT (g : GameL) (i p : Int) (mv : List Int) (r : PlayR) : Prop where
  R : RightG g
  ne : 0 < r.ro.length
  first : gI (r.ah ++ r.ro) 0 = i
  rng : ∀ j : Int, 0 ≤ j → j < ((goL r).length : Int) → 0 ≤ gI (goL r) j ∧ gI (goL r) j < (g.ow.length : Int)
  step : ∀ j : Int, 0 ≤ j → j + 1 < ((goL r).length : Int) → gI (goL r) (j + 1) ∈ gL g.mv (gI (goL r) j) ∧ (gI g.ow (gI (goL r) j) = p → gI (goL r) j < (mv.length : Int) ∧ gI mv (gI (goL r) j) = gI (goL r) (j + 1))
  win : r.win = topP g r.ro % 2
def showG17 : GameL := ⟨[0, 1], [0, 1], [[0, 1], [0, 1]]⟩
theorem shown_run {r : PlayR} (h : RunT showG17 1 0 [0] [1, 1, 0] r) : r = ⟨[1, 1, 1], [0], 0, 0⟩ := by
  refine run_one h ?_
  have h1 : StandT showG17 0 [0] (scN [1, 1, 0]) 1 [(1, 0), (1, 1), (1, 2), (0, 0)] (0, 0) :=
    .push (l := [(1, 0), (1, 1), (1, 2)]) (.push (l := [(1, 0), (1, 1)]) (.push (l := [(1, 0)]) (.push (l := []) .nil (by decide) (by decide)) (by decide) (by decide)) (by decide) (by decide)) (by decide) (by decide)
  exact RunT.play (k := 3) ⟨by decide, by decide, by decide, .inl rfl⟩ (by decide) h1 rfl
end
end Go.Proofs.YtplpgfcjjnaigaaDoor
namespace Go.Proofs.YtplpgfcjjnaigaaDoor
open Go Go.RowKit
set_option maxHeartbeats 4000000 in
theorem index_any {Aa : Option Addr} {ca : Nat} {la : List Int} {v : Int} {w : World} (ra : RdI w 0 w.heap.size Aa la) :
    Calls Tryd.prog 58 #[.slice Aa la.length ca, .int .i64 (v)] w fun e w' => e = .returned (.int .i64 (idxI la v)) ∧ Ext w w' := by
 have hla := ra.len
 refine enter_ (args := [.slice Aa la.length ca, .int .i64 (v)]) Tryd.func58 rfl Tryd.ntmps58 (Nat.le_of_ble_eq_true rfl) (fun act0 f0 => ?_)
 have e0 : Ext w w := Ext.refl w
 refine sqs ?_
 refine At.rk f0 1 [(4, .int .i64 (0))] .n (fun act2 f1 => ?_)
 clear f0
 refine At.dn ?_
 refine wp_seq ?_
 refine sqs ?_
 refine At.rk f1 3 [(8, .int .i64 (0)), (7, .int .i64 (((la.length : Nat) : Int)))] .n (fun act4 f3 => ?_)
 clear f1
 refine At.dn ?_
 refine wp_block ?_
 refine loop_g (fun (m_ : Nat) a_ w_ => ∃ (k : Int), m_ = ((la.length : Int) - k).toNat ∧ (Frm 19 a_ [(8, .int .i64 (k)), (7, .int .i64 (((la.length : Nat) : Int))), (0, .slice Aa la.length ca), (1, .int .i64 (v))]) ∧ (Ext w w_) ∧ (RdI w_ 0 w.heap.size Aa la) ∧ (0 ≤ k) ∧ (k ≤ (la.length : Int)) ∧ (v ∉ la.take k.toNat)) _ ⟨0, rfl, f3.sb, e0, ra, ω, ω, (notin_zero _ _)⟩ ?_
 clear f3; clear ra; clear e0
 intro m_ act6 w7 ⟨k, hm9, aE, e8, aF, i12, i13, i14⟩
 have := e8.size
 refine sqs ?_
 refine At.rk aE 1 [(9, .bool (decide ((k : Int) < ((la.length : Nat) : Int))))] .n (fun aM aA => ?_)
 clear aE
 refine At.dn ?_
 refine wp_seq ?_
 refine cond_S aA (t := decide ((k : Int) < ((la.length : Nat) : Int))) rfl (fun aC => ?_) (fun aC => ?_)
 ·have aN := of_decide_eq_true aC
  refine wp_skip ?_
  refine t_n ?_
  refine wp_seq ?_
  refine wp_block ?_
  refine sqs ?_
  refine At.rk aA 2 [(5, .int .i64 (k))] .n (fun aO aG => ?_)
  clear aA
  refine At.dn ?_
  refine sqs ?_
  obtain ⟨aP, aH, _, _, aI⟩ := RdI.get aF (k) ω ω
  refine At.rk aG 6 [(16, .bool ((v : Int) == (gI la (k))))] (.a k la.length aH <| .l aI <| .n) (fun aQ aB => ?_)
  clear aG
  refine At.dn ?_
  refine cond_S aB (t := (v : Int) == (gI la (k))) rfl (fun aD => ?_) (fun aD => ?_)
  ·have aR := eq_of_beq aD
   refine sqs ?_
   refine At.rk aB 2 [(4, .int .i64 (k))] .n (fun aS aJ => ?_)
   clear aB
   refine At.dn ?_
   refine wp_ret ?_
   refine b_r ?_
   refine t_r ?_
   refine t_r ?_
   refine b_r ?_
   refine t_r ?_
   refine ret_ aJ [] [.int .i64 (k)] [] κ trivial ?_
   exact ⟨ret_eq (congrArg (Value.int .i64) (idx_at ω ω σ σ)), e8⟩
  have aT := ne_of_beq_false aD
  refine wp_skip ?_
  refine b_n ?_
  refine t_n ?_
  refine At.start ?_
  refine At.rk aB 2 [(8, .int .i64 (k + 1))] (.w 18 (k + 1) <| .n) (fun aU aK => ?_)
  clear aB
  refine At.dn ?_
  exact ⟨_, ω, (k + 1), rfl, aK.sb, e8, aF, ω, ω, (notin_next ω ω σ σ)⟩
 have aV := of_decide_eq_false aC
 refine wp_exit ?_
 refine t_e ?_
 clear hm9
 refine t_e ?_
 refine b_e ?_
 refine t_n ?_
 refine sqs ?_
 refine At.rk aA 1 [(4, .int .i64 (-1))] .n (fun aW aL => ?_)
 clear aA
 refine At.dn ?_
 refine wp_ret ?_
 refine ret_ aL [] [.int .i64 (-1)] [] κ trivial ?_
 exact ⟨ret_eq (congrArg (Value.int .i64) (idx_no σ ω)), e8⟩
set_option maxHeartbeats 4000000 in
theorem contains_any {Aa : Option Addr} {ca : Nat} {la : List Int} {v : Int} {w : World} (ra : RdI w 0 w.heap.size Aa la) :
    Calls Tryd.prog 49 #[.slice Aa la.length ca, .int .i64 (v)] w fun e w' => e = .returned (.bool (decide (v ∈ la))) ∧ Ext w w' := by
 have hla := ra.len
 refine enter_ (args := [.slice Aa la.length ca, .int .i64 (v)]) Tryd.func49 rfl Tryd.ntmps49 (Nat.le_of_ble_eq_true rfl) (fun act0 f0 => ?_)
 have e0 : Ext w w := Ext.refl w
 refine sqs ?_
 refine At.rk f0 1 [] .n (fun act2 f1 => ?_)
 clear f0
 refine At.dn ?_
 refine sqs ?_
 refine At.rk f1 2 [(6, .int .i64 (v)), (5, .slice Aa la.length ca)] .n (fun act4 f3 => ?_)
 clear f1
 refine At.cl f3 (some 7) (args := #[.slice Aa la.length ca, .int .i64 (v)]) (index_any (v := v) (ra.wide (Nat.zero_le _) ω)) ?_
 rintro e_ w5 ⟨rfl, he⟩
 refine ⟨_, rfl, _, rfl, fun act6 f7 => ?_⟩
 clear f3; have g8 := gr_ext he; have := g8.size; replace e0 := e0.gn g8; have aB := ra.gn g8; clear ra; clear g8 he
 refine At.rk f7 2 [(4, .bool (decide ((idxI la v : Int) ≥ 0)))] .n (fun aC aA => ?_)
 clear f7
 refine At.dn ?_
 refine wp_ret ?_
 refine ret_ aA [] [.bool (decide ((idxI la v : Int) ≥ 0))] [] κ trivial ?_
 exact ⟨ret_eq (congrArg Value.bool (idx_in _ _)), e0⟩
end Go.Proofs.YtplpgfcjjnaigaaDoor
namespace Go.Proofs.YtplpgfcjjnaigaaDoor
open Go Go.RowKit
set_option maxHeartbeats 4000000 in
theorem next_any {Ag0 Ag1 Ag2 : Option Addr} {cg0 cg1 cg2 : Nat} {g : GameL} {Am : Option Addr} {cm : Nat} {lm : List Int} {As : Option Addr} {cs : Nat} {ls : List Int} {b : Nat} {p x y : Int} {w : World} (hb : Bx w b [.slice Ag0 g.ow.length cg0, .slice Ag1 g.pr.length cg1, .slice Ag2 g.mv.length cg2, .int .i64 (p), .slice Am lm.length cm, .slice As ls.length cs] 82) (rg : RdG w 0 w.heap.size Ag0 Ag1 Ag2 cg0 cg1 cg2 g) (rm : RdI w 0 w.heap.size Am lm) (rs : RdI w 0 w.heap.size As ls) (hG : RightG g) (hx0 : 0 ≤ x) (hx1 : x < (g.ow.length : Int)) (hy0 : 0 ≤ y) (hy1 : y < (ls.length : Int)) (hs6 : ls.length ≤ 64) :
    Calls Tryd.prog 51 #[pt b 0, .agg #[.int .i64 (x), .int .i64 (y)]] w fun e w' => e = .returned (.tuple #[.agg #[.int .i64 (nxt g p lm ls (x, y)).1.1, .int .i64 (nxt g p lm ls (x, y)).1.2], .bool (nxt g p lm ls (x, y)).2]) ∧ Ext w w' := by
 have hbl := hb.lt; have hlg0 := rg.ow.len; have hlg1 := rg.pr.len; have hlg2 := rg.mv.len; have hkg0 := rg.k0; have hkg1 := rg.k1; have hkg2 := rg.k2; have hlm := rm.len; have hls := rs.len; have hpl := hG.pl; have hml := hG.ml; have hn1 := hG.n1; have hne := hG.ne x hx0 hx1; have hrl := row_len hG hx0 hx1
 refine enter_ (args := [pt b 0, .agg #[.int .i64 (x), .int .i64 (y)]]) Tryd.func51 rfl Tryd.ntmps51 (Nat.le_of_ble_eq_true rfl) (fun act0 f0 => ?_)
 have e0 : Ext w w := Ext.refl w
 refine sqs ?_
 refine At.bx f0 3 [.int .i64 (x), .int .i64 (y)] 85 (fun w1 g5 bx6 act4 f3 => ?_)
 clear f0; have := g5.size; replace e0 := e0.gn g5; have bx9 := hb.gn g5; clear hb; have aA := rg.gn g5; clear rg; have aB := rm.gn g5; clear rm; have aC := rs.gn g5; clear rs; have := bx6.lt; clear g5
 refine At.bx f3 4 [.int .i64 (0), .int .i64 (0)] 85 (fun dP aP aD dQ bY => ?_)
 clear f3; have := aP.size; replace e0 := e0.gn aP; replace bx9 := bx9.gn aP; replace aA := aA.gn aP; replace aB := aB.gn aP; replace aC := aC.gn aP; replace bx6 := bx6.gn aP; have := aD.lt; clear aP
 refine At.rk bY 1 [] .n (fun dR bZ => ?_)
 clear bY
 refine At.dn ?_
 refine wp_seq ?_
 obtain ⟨dS, aS, bC, cW, _, _, cX, dT, aE⟩ := RdII.get aA.mv (x) ω ω
 have dU := aE.len
 refine drawn_rk bZ [(6, .slice aS ((gL g.mv (x)).length) bC)] (.l (bx9.cell (i := 2) rfl) <| .l (bx6.cell (i := 0) rfl) <| .a x g.mv.length cW <| .l cX <| .n) (fun dV dW cA cB => ?_)
 clear bZ; have aI := gr_drew cA; have := aI.size; replace e0 := e0.gn aI; replace bx9 := bx9.gn aI; replace aA := aA.gn aI; replace aB := aB.gn aI; replace aC := aC.gn aI; replace bx6 := bx6.gn aI; replace aD := aD.gn aI; replace aE := aE.gn aI; clear aI cA
 refine t_n ?_
 refine wp_seq ?_
 refine wp_seq ?_
 obtain ⟨dX, cY, _, _, cZ⟩ := RdI.get aA.ow (x) ω ω
 refine drawn_rk cB [(31, .bool ((gI g.ow (x) : Int) == p))] (.l (bx9.cell (i := 0) rfl) <| .l (bx6.cell (i := 0) rfl) <| .a x g.ow.length cY <| .l cZ <| .l (bx9.cell (i := 3) rfl) <| .n) (fun dY dA cC bD => ?_)
 clear cB; have aJ := gr_drew cC; have := aJ.size; replace e0 := e0.gn aJ; replace bx9 := bx9.gn aJ; replace aA := aA.gn aJ; replace aB := aB.gn aJ; replace aC := aC.gn aJ; replace bx6 := bx6.gn aJ; replace aD := aD.gn aJ; replace aE := aE.gn aJ; clear aJ cC
 refine t_n ?_
 refine cond_S bD (t := (gI g.ow (x) : Int) == p) rfl (fun bO => ?_) (fun bO => ?_)
 ·have dZ := eq_of_beq bO
  refine sqs ?_
  refine At.rk bD 1 [(7, .int .i64 (-1))] .n (fun eA bP => ?_)
  clear bD
  refine At.dn ?_
  refine wp_seq (cut (fun a_ w_ => ∃ (m : Int), (Frm 86 a_ [(7, .int .i64 (m)), (6, .slice aS ((gL g.mv (x)).length) bC), (4, pt w1.heap.size 0), (3, pt w.heap.size 0)]) ∧ (Ext w w_) ∧ (Bx w_ (b) [.slice Ag0 g.ow.length cg0, .slice Ag1 g.pr.length cg1, .slice Ag2 g.mv.length cg2, .int .i64 (p), .slice Am lm.length cm, .slice As ls.length cs] 82) ∧ (RdG w_ 0 w.heap.size Ag0 Ag1 Ag2 cg0 cg1 cg2 g) ∧ (RdI w_ 0 w.heap.size Am lm) ∧ (RdI w_ 0 w.heap.size As ls) ∧ (Bx w_ (w.heap.size) [.int .i64 (x), .int .i64 (y)] 85) ∧ (Bx w_ (w1.heap.size) [.int .i64 (0), .int .i64 (0)] 85) ∧ (RdI w_ 0 w.heap.size aS (gL g.mv (x))) ∧ (m = if x < (lm.length : Int) then gI lm x else -1) ∧ (dA.heap.size ≤ w_.heap.size)) ?_ ?_)
  ·refine wp_seq ?_
   refine drawn_rk bP [(39, .bool (decide ((x : Int) < ((lm.length : Nat) : Int))))] (.l (bx6.cell (i := 0) rfl) <| .l (bx9.cell (i := 4) rfl) <| .n) (fun eB eC cD bH => ?_)
   clear bP; have aK := gr_drew cD; have := aK.size; replace e0 := e0.gn aK; replace bx9 := bx9.gn aK; replace aA := aA.gn aK; replace aB := aB.gn aK; replace aC := aC.gn aK; replace bx6 := bx6.gn aK; replace aD := aD.gn aK; replace aE := aE.gn aK; clear aK cD
   refine t_n ?_
   refine cond_S bH (t := decide ((x : Int) < ((lm.length : Nat) : Int))) rfl (fun bQ => ?_) (fun bQ => ?_)
   ·have eD := of_decide_eq_true bQ
    obtain ⟨eE, dB, _, _, dC⟩ := RdI.get aB (x) ω ω
    refine drawn_rk bH [(7, .int .i64 (gI lm (x)))] (.l (bx9.cell (i := 4) rfl) <| .l (bx6.cell (i := 0) rfl) <| .a x lm.length dB <| .l dC <| .n) (fun eF eG cE dD => ?_)
    clear bH; have aL := gr_drew cE; have := aL.size; replace e0 := e0.gn aL; replace bx9 := bx9.gn aL; replace aA := aA.gn aL; replace aB := aB.gn aL; replace aC := aC.gn aL; replace bx6 := bx6.gn aL; replace aD := aD.gn aL; replace aE := aE.gn aL; clear aL cE
    refine t_n ?_
    exact ⟨gI lm (x), dD.sb, e0, bx9, aA, aB, aC, bx6, aD, aE, (by first | rw [if_pos ω] | rw [if_neg ω]), ω⟩
   have eH := of_decide_eq_false bQ
   refine wp_skip ?_
   refine t_n ?_
   exact ⟨-1, bH.sb, e0, bx9, aA, aB, aC, bx6, aD, aE, (by first | rw [if_pos ω] | rw [if_neg ω]), ω⟩
  clear bx9; clear aA; clear aB; clear aC; clear bx6; clear aD; clear aE; clear bP e0
  intro eI dE ⟨m, cF, aQ, aT, aW, aX, aY, aR, aU, aV, hm, i113⟩
  have := aQ.size; have := aT.lt; have := aR.lt; have := aU.lt
  refine wp_seq ?_
  obtain ⟨cG, bR⟩ : ∃ c : List (Addr × Value), c = [(⟨w.heap.size, 1, none⟩, (.int .i64 (y)))] := ⟨_, rfl⟩
  have cH : HoldsC cG dE := by rw [bR]; exact ⟨(aR.cell (i := 1) rfl), trivial⟩
  refine AtH.start cG 9 _ κ rfl rfl (fun eJ cI => ?_)
  have aF := gr_drew cI; have cJ := cH.gr aF; have := aF.size; replace aQ := aQ.gn aF; replace aT := aT.gn aF; replace aW := aW.gn aF; replace aX := aX.gn aF; replace aY := aY.gn aF; replace aR := aR.gn aF; replace aU := aU.gn aF; replace aV := aV.gn aF; clear aF cI cH
  refine AtH.rk cJ cF [0, 1, 2, 3, 4, 5] 3 [(53, .int .i64 (m)), (52, .slice aS ((gL g.mv (x)).length) bC), (51, .agg #[.int .i64 (m), .int .i64 (y)])] (.l (CsC_at bR 0 rfl) <| .n) (fun eK cK => ?_)
  clear cF
  refine AtH.all [6] 2 κ (by simp) ⟨?_, trivial⟩
  refine OneH.cl cK (some 54) (args := #[.slice aS ((gL g.mv (x)).length) bC, .int .i64 (m)]) (contains_any (v := m) (aV.wide (Nat.zero_le _) ω)) ?_
  rintro e_ eL ⟨rfl, he⟩
  refine ⟨_, rfl, _, rfl, fun eM cL => ?_⟩
  clear cK; have aG := gr_ext he; have cM := cJ.gr aG; have := aG.size; replace aQ := aQ.gn aG; replace aT := aT.gn aG; replace aW := aW.gn aG; replace aX := aX.gn aG; replace aY := aY.gn aG; replace aR := aR.gn aG; replace aU := aU.gn aG; replace aV := aV.gn aG; clear aG he
  refine ⟨cM, ?_⟩
  refine AtH.all [7] 1 κ (by simp) ⟨?_, trivial⟩
  refine OneH.store cL (t := 85) (b := w1.heap.size) (off := 0) (v := .agg #[.int .i64 (m), .int .i64 (y)]) _ rfl κ aU κ (fun eN bS aM bI cN => ?_)
  clear cL; replace bI : Bx bS (w1.heap.size) [.int .i64 (m), .int .i64 (y)] 85 := bI; have bT := cM.gr' aM (by rw [bR]; exact ⟨(by simp only [add_block]; omega), trivial⟩); have := aM.size; replace aQ := aQ.gr aM (fun k h => by injection h; omega); replace aT := aT.gb aM ω; replace aW := aW.gb aM ω; replace aX := aX.gb aM ω; replace aY := aY.gb aM ω; replace aR := aR.gb aM ω
  replace aV := aV.gb aM ω; clear aU aM
  refine ⟨bT, ?_⟩
  refine AtH.rk bT cN [8] 0 [(5, .bool (decide (m ∈ gL g.mv (x))))] .n (fun eO dF => ?_)
  clear cN
  refine AtH.done κ ?_
  clear bT
  refine t_n ?_
  refine wp_ret ?_
  refine t_r ?_
  refine ret_ dF [[.int .i64 (m), .int .i64 (y)]] [.agg #[.int .i64 (m), .int .i64 (y)], .bool (decide (m ∈ gL g.mv (x)))] [(bS.cell? ⟨w1.heap.size, 0, none⟩ = some (.int .i64 (m))), (bS.cell? ⟨w1.heap.size, 1, none⟩ = some (.int .i64 (y)))] κ ⟨(bI.cell (i := 0) rfl), (bI.cell (i := 1) rfl), trivial⟩ ?_
  exact ⟨by rw [nxt_own (m := m) ω hm]; rfl, aQ⟩
 have eP := ne_of_beq_false bO
 refine wp_skip ?_
 refine t_n ?_
 refine wp_seq ?_
 obtain ⟨eQ, dG, _, _, dH⟩ := RdI.get aC (y) ω ω
 refine drawn_rk bD [(8, .int .i64 ((gI ls (y) : Int).tmod (((gL g.mv (x)).length : Nat) : Int)))] (.l (bx9.cell (i := 5) rfl) <| .l (bx6.cell (i := 1) rfl) <| .a y ls.length dG <| .l dH <| .p (show ((((gL g.mv (x)).length : Nat) : Int) : Int) ≠ 0 from ω) <| .n) (fun eR dI cO bU => ?_)
 clear bD; have aN := gr_drew cO; have := aN.size; replace e0 := e0.gn aN; replace bx9 := bx9.gn aN; replace aA := aA.gn aN; replace aB := aB.gn aN; replace aC := aC.gn aN; replace bx6 := bx6.gn aN; replace aD := aD.gn aN; replace aE := aE.gn aN; clear aN cO
 refine t_n ?_
 refine wp_seq (cut (fun a_ w_ => ∃ (k : Int), (Frm 86 a_ [(8, .int .i64 (k)), (6, .slice aS ((gL g.mv (x)).length) bC), (4, pt w1.heap.size 0), (3, pt w.heap.size 0), (0, pt b 0)]) ∧ (Ext w w_) ∧ (Bx w_ (b) [.slice Ag0 g.ow.length cg0, .slice Ag1 g.pr.length cg1, .slice Ag2 g.mv.length cg2, .int .i64 (p), .slice Am lm.length cm, .slice As ls.length cs] 82) ∧ (RdG w_ 0 w.heap.size Ag0 Ag1 Ag2 cg0 cg1 cg2 g) ∧ (RdI w_ 0 w.heap.size Am lm) ∧ (RdI w_ 0 w.heap.size As ls) ∧ (Bx w_ (w.heap.size) [.int .i64 (x), .int .i64 (y)] 85) ∧ (Bx w_ (w1.heap.size) [.int .i64 (0), .int .i64 (0)] 85) ∧ (RdI w_ 0 w.heap.size aS (gL g.mv (x))) ∧ (k = if Int.tmod (gI ls y) ((gL g.mv x).length : Int) < 0 then Int.tmod (gI ls y) ((gL g.mv x).length : Int) + ((gL g.mv x).length : Int) else Int.tmod (gI ls y) ((gL g.mv x).length : Int)) ∧ (0 ≤ k) ∧ (k < ((gL g.mv x).length : Int)) ∧ (dI.heap.size ≤ w_.heap.size)) ?_ ?_)
 ·refine wp_seq ?_
  have ht1 := Int.lt_tmod_of_pos (gI ls y) (show 0 < ((gL g.mv x).length : Int) by omega); have ht2 := Int.tmod_lt_of_pos (gI ls y) (show 0 < ((gL g.mv x).length : Int) by omega)
  refine At.start ?_
  refine At.rk bU 2 [(67, .bool (decide (((gI ls (y) : Int).tmod (((gL g.mv (x)).length : Nat) : Int) : Int) < 0)))] .n (fun eS bJ => ?_)
  clear bU
  refine At.dn ?_
  refine cond_S bJ (t := decide (((gI ls (y) : Int).tmod (((gL g.mv (x)).length : Nat) : Int) : Int) < 0)) rfl (fun bV => ?_) (fun bV => ?_)
  ·have eT := of_decide_eq_true bV
   refine At.start ?_
   refine At.rk bJ 5 [(8, .int .i64 (((gI ls (y) : Int).tmod (((gL g.mv (x)).length : Nat) : Int)) + (((gL g.mv (x)).length : Nat) : Int)))] (.w 71 (((gI ls (y) : Int).tmod (((gL g.mv (x)).length : Nat) : Int)) + (((gL g.mv (x)).length : Nat) : Int)) <| .n) (fun eU dJ => ?_)
   clear bJ
   refine At.dn ?_
   exact ⟨((gI ls (y) : Int).tmod (((gL g.mv (x)).length : Nat) : Int)) + (((gL g.mv (x)).length : Nat) : Int), dJ.sb, e0, bx9, aA, aB, aC, bx6, aD, aE, (by first | rw [if_pos ω] | rw [if_neg ω]), ω, ω, ω⟩
  have eV := of_decide_eq_false bV
  refine wp_skip ?_
  refine t_n ?_
  exact ⟨(gI ls (y) : Int).tmod (((gL g.mv (x)).length : Nat) : Int), bJ.sb, e0, bx9, aA, aB, aC, bx6, aD, aE, (by first | rw [if_pos ω] | rw [if_neg ω]), ω, ω, ω⟩
 clear bx9; clear aA; clear aB; clear aC; clear bx6; clear aD; clear aE; clear bU e0
 intro eW dK ⟨k, cP, aZ, bA, bK, bL, bM, bB, bE, bF, hk, i194, i195, i196⟩
 have := aZ.size; have := bA.lt; have := bB.lt; have := bE.lt
 refine wp_seq ?_
 obtain ⟨dL, dM, _, _, dN⟩ := RdI.get bF (k) ω ω
 obtain ⟨cQ, bG⟩ : ∃ c : List (Addr × Value), c = [((dL.add ((k : Int).toNat * 1)), (.int .i64 (gI (gL g.mv (x)) (k)))), (⟨w.heap.size, 1, none⟩, (.int .i64 (y))), (⟨b, 5, none⟩, (.slice As ls.length cs))] := ⟨_, rfl⟩
 have cR : HoldsC cQ dK := by rw [bG]; exact ⟨dN, (bB.cell (i := 1) rfl), (bA.cell (i := 5) rfl), trivial⟩
 refine AtH.start cQ 16 _ κ rfl rfl (fun eX cS => ?_)
 have aH := gr_drew cS; have cT := cR.gr aH; have := aH.size; replace aZ := aZ.gn aH; replace bA := bA.gn aH; replace bK := bK.gn aH; replace bL := bL.gn aH; replace bM := bM.gn aH; replace bB := bB.gn aH; replace bE := bE.gn aH; replace bF := bF.gn aH; clear aH cS cR
 refine AtH.rk cT cP [0, 1, 2, 3, 4, 5, 6, 7, 8, 9, 10, 11, 12, 13] 2 [(85, .agg #[.int .i64 (gI (gL g.mv (x)) (k)), .int .i64 ((y + 1 : Int) % ((ls.length : Nat) : Int))])] (.a k ((gL g.mv (x)).length) dM <| .l (CsC_at bG 0 rfl) <| .l (CsC_at bG 1 rfl) <| .w 78 (y + 1) <| .l (CsC_at bG 2 rfl) <| .p (show (((ls.length : Nat) : Int) : Int) ≠ 0 from ω) <| .v 84 (show (.int .i64 ((y + 1 : Int).tmod ((ls.length : Nat) : Int)) : Value) = .int .i64 ((y + 1 : Int) % ((ls.length : Nat) : Int)) from (congrArg (Value.int .i64) (Int.tmod_eq_emod_of_nonneg ω))) <| .n) (fun eY cU => ?_)
 clear cP
 refine AtH.all [14] 1 κ (by simp) ⟨?_, trivial⟩
 refine OneH.store cU (t := 85) (b := w1.heap.size) (off := 0) (v := .agg #[.int .i64 (gI (gL g.mv (x)) (k)), .int .i64 ((y + 1 : Int) % ((ls.length : Nat) : Int))]) _ rfl κ bE κ (fun eZ bW aO bN cV => ?_)
 clear cU; replace bN : Bx bW (w1.heap.size) [.int .i64 (gI (gL g.mv (x)) (k)), .int .i64 ((y + 1 : Int) % ((ls.length : Nat) : Int))] 85 := bN; have bX := cT.gr' aO (by rw [bG]; exact ⟨(by simp only [add_block]; omega), (by simp only [add_block]; omega), (by simp only [add_block]; omega), trivial⟩); have := aO.size; replace aZ := aZ.gr aO (fun k h => by injection h; omega); replace bA := bA.gb aO ω
 replace bK := bK.gb aO ω; replace bL := bL.gb aO ω; replace bM := bM.gb aO ω; replace bB := bB.gb aO ω; replace bF := bF.gb aO ω; clear bE aO
 refine ⟨bX, ?_⟩
 refine AtH.rk bX cV [15] 0 [(5, .bool true)] .n (fun fA dO => ?_)
 clear cV
 refine AtH.done κ ?_
 clear bX
 refine t_n ?_
 refine wp_ret ?_
 refine ret_ dO [[.int .i64 (gI (gL g.mv (x)) (k)), .int .i64 ((y + 1 : Int) % ((ls.length : Nat) : Int))]] [.agg #[.int .i64 (gI (gL g.mv (x)) (k)), .int .i64 ((y + 1 : Int) % ((ls.length : Nat) : Int))], .bool true] [(bW.cell? ⟨w1.heap.size, 0, none⟩ = some (.int .i64 (gI (gL g.mv (x)) (k)))), (bW.cell? ⟨w1.heap.size, 1, none⟩ = some (.int .i64 ((y + 1 : Int) % ((ls.length : Nat) : Int))))] κ ⟨(bN.cell (i := 0) rfl), (bN.cell (i := 1) rfl), trivial⟩ ?_
 exact ⟨by rw [nxt_oth (k := k) ω hk]; rfl, aZ⟩
end Go.Proofs.YtplpgfcjjnaigaaDoor
namespace Go.Proofs.YtplpgfcjjnaigaaDoor
open Go Go.RowKit
set_option maxHeartbeats 4000000 in
theorem clone_nil {ca : Nat} {w : World} :
    Calls Tryd.prog 47 #[.slice none 0 ca] w fun e w' => e = .returned (.slice none 0 0) ∧ Ext w w' := by
 refine enter_ (args := [.slice none 0 ca]) Tryd.func47 rfl Tryd.ntmps47 (Nat.le_of_ble_eq_true rfl) (fun act0 f0 => ?_)
 have e0 : Ext w w := Ext.refl w
 refine sqs ?_
 refine At.rk f0 1 [] .n (fun act2 f1 => ?_)
 clear f0
 refine At.dn ?_
 refine wp_seq ?_
 refine sqs ?_
 refine At.rk f1 2 [(4, .bool true)] .n (fun act4 f3 => ?_)
 clear f1
 refine At.dn ?_
 refine cond_T f3 rfl ?_
 refine sqs ?_
 refine At.rk f3 1 [(2, .slice none 0 0)] .n (fun act6 f5 => ?_)
 clear f3
 refine At.dn ?_
 have f7 := f5.sb (r := [(2, .slice none 0 0)]); clear f5
 refine wp_ret ?_
 refine t_r ?_
 refine ret_ f7 [] [.slice none 0 0] [] κ trivial ?_
 exact ⟨rfl, e0⟩
set_option maxHeartbeats 4000000 in
theorem clone_some {aa : Addr} {ca : Nat} {la : List Int} {w : World} (ra : RdI w 0 w.heap.size (some aa) la) :
    Calls Tryd.prog 47 #[.slice (some aa) la.length ca] w fun e w' => ∃ A c, e = .returned (.slice A (la).length c) ∧ Ext w w' ∧ OwnR w' (Sx w.heap.size []) A c 3 (la : List Int) := by
 have hla := ra.len
 refine enter_ (args := [.slice (some aa) la.length ca]) Tryd.func47 rfl Tryd.ntmps47 (Nat.le_of_ble_eq_true rfl) (fun act0 f0 => ?_)
 have e0 : Ext w w := Ext.refl w
 refine sqs ?_
 refine At.rk f0 1 [] .n (fun act2 f1 => ?_)
 clear f0
 refine At.dn ?_
 refine wp_seq ?_
 refine sqs ?_
 refine At.rk f1 2 [(4, .bool false)] .n (fun act4 f3 => ?_)
 clear f1
 refine At.dn ?_
 refine cond_F f3 rfl ?_
 refine wp_skip ?_
 refine t_n ?_
 have f5 := f3.sb (r := [(0, .slice (some aa) la.length ca)]); clear f3
 refine sqs ?_
 refine At.seq f5 1 [[]] [(5, .slice (some ⟨w.heap.size, 0, none⟩) 0 0)] (w.alloc (.cells #[] 3 (0, 0))) [] κ trivial (fun act9 w6 hw7 f8 => ?_)
 clear f5; have aC := gr_alloc hw7; have := aC.size; replace e0 := e0.gn aC; have aG := ra.gn aC; clear ra; have aH : Bx w6 (w.heap.size) [] 3 := Bx.new hw7; have := aH.lt; clear aC hw7
 refine At.rk f8 1 [(6, .slice (some aa) la.length ca)] .n (fun aP aJ => ?_)
 clear f8; have aD : OwnR w6 (Sx (w.heap.size) []) (some ⟨w.heap.size, 0, none⟩) 0 3 ([] : List Int) := Bx.own0 aH (Nat.le_refl _); clear aH; have aM : (([] : List Int) ++ la).length = (([] : List Int)).length + (la : List Int).length := List.length_append
 simp only [List.length_cons, List.length_nil] at aM
 refine At.act aJ (appendR (α := Int) (t := 22) (d := 7) (n := 0) (m := la.length) (cc := ca) (xs := []) (ys := la) (bytes := 8) (by first | rfl | omega | (simp; done) | (simp; omega)) (by first | rfl | omega | (simp; done) | (simp; omega)) κ rfl κ aD aG.srcR (by simp only [List.length_cons, List.length_nil]; omega) (by simp only [List.length_cons, List.length_nil]; omega)) ?_
 rintro d_ v_ aN ⟨rfl, aA, aB, aE⟩
 obtain rfl := aE.val
 have aF := aE.gr
 refine ⟨_, rfl, fun aQ aK => ?_⟩
 clear aJ; have aI := aE.own (Sx (w.heap.size) []) (fun g _ hs => hs) (show w.heap.size ≤ w6.heap.size by omega); have := aF.size; replace e0 := e0.gr aF (fun k hk => by have := aD.ge k hk; omega); replace aG := aG.gr aF (fun k hk => by have := aD.ge k hk; omega); clear aD aF aE; replace aI : OwnR aN (Sx (w.heap.size) []) aA aB 3 (la : List Int) := aI
 refine At.rk aK 1 [(2, .slice aA ((([] : List Int) ++ la).length) aB)] .n (fun aR aL => ?_)
 clear aK
 refine At.dn ?_
 have aO := aL.sb (r := [(2, .slice aA ((([] : List Int) ++ la).length) aB)]); clear aL
 refine wp_ret ?_
 refine ret_ aO [] [.slice aA ((([] : List Int) ++ la).length) aB] [] κ trivial ?_
 exact ⟨aA, aB, rfl, e0, (aI.imp (fun g _ hs => by have := Sx_base hs; show w.heap.size ≤ g; omega))⟩
theorem clone_any {Aa : Option Addr} {ca : Nat} {la : List Int} {w : World} (ra : RdI w 0 w.heap.size Aa la) :
    Calls Tryd.prog 47 #[.slice Aa la.length ca] w fun e w' => ∃ A c, e = .returned (.slice A la.length c) ∧ Ext w w' ∧ OwnR w' (Sx w.heap.size []) A c 3 (la : List Int) := by
  cases Aa with
  | none =>
    obtain rfl := rdI_isNone ra rfl
    exact clone_nil.mono fun e w' h => ⟨none, 0, h.1, h.2, OwnR.nil⟩
  | some aa => exact clone_some ra
end Go.Proofs.YtplpgfcjjnaigaaDoor
namespace Go.Proofs.YtplpgfcjjnaigaaDoor
open Go Go.RowKit
set_option maxHeartbeats 4000000 in
theorem toldM_any {Ag0 Ag1 Ag2 : Option Addr} {cg0 cg1 cg2 : Nat} {g : GameL} {Aa : Option Addr} {ca : Nat} {la : List Int} {k : Int} {w : World} (rg : RdG w 0 w.heap.size Ag0 Ag1 Ag2 cg0 cg1 cg2 g) (ra : RdI w 0 w.heap.size Aa la) (hc : la.length ≤ ca) (h0 : 0 ≤ k) (h1 : k ≤ (la.length : Int)) (hr : ∀ x ∈ la, 0 ≤ x ∧ x < (g.pr.length : Int)) :
    Calls Tryd.prog 50 #[.agg #[.slice Ag0 g.ow.length cg0, .slice Ag1 g.pr.length cg1, .slice Ag2 g.mv.length cg2], .slice Aa la.length ca, .int .i64 (k)] w fun e w' => ∃ A0 c0 A1 c1, e = .returned (.agg #[.slice A0 (la.take k.toNat).length c0, .slice A1 (la.drop k.toNat).length c1, .int .i64 (topP g (la.drop k.toNat) % 2)]) ∧ Ext w w' ∧ OwnR w' (Sx w.heap.size [obk A1]) A0 c0 3 (la.take k.toNat) ∧ OwnR w' (Sx w.heap.size [obk A0]) A1 c1 3 (la.drop k.toNat) := by
 have hlg0 := rg.ow.len; have hlg1 := rg.pr.len; have hlg2 := rg.mv.len; have hkg0 := rg.k0; have hkg1 := rg.k1; have hkg2 := rg.k2; have hla := ra.len; have hld := List.length_drop (l := la) (i := k.toNat)
 refine enter_ (args := [.agg #[.slice Ag0 g.ow.length cg0, .slice Ag1 g.pr.length cg1, .slice Ag2 g.mv.length cg2], .slice Aa la.length ca, .int .i64 (k)]) Tryd.func50 rfl Tryd.ntmps50 (Nat.le_of_ble_eq_true rfl) (fun act0 f0 => ?_)
 have e0 : Ext w w := Ext.refl w
 refine sqs ?_
 refine At.bx f0 3 [.slice Ag0 g.ow.length cg0, .slice Ag1 g.pr.length cg1, .slice Ag2 g.mv.length cg2] 25 (fun w1 g5 bx6 act4 f3 => ?_)
 clear f0; have := g5.size; replace e0 := e0.gn g5; have r9 := rg.gn g5; clear rg; have aA := ra.gn g5; clear ra; have := bx6.lt; clear g5
 refine At.bx f3 6 [.slice none 0 0, .slice none 0 0, .int .i64 (0)] 55 (fun aI bH aB fB cK => ?_)
 clear f3; have := bH.size; replace e0 := e0.gn bH; replace r9 := r9.gn bH; replace aA := aA.gn bH; replace bx6 := bx6.gn bH; have := aB.lt; clear bH
 refine At.dn ?_
 refine wp_seq (cut (fun a_ w_ => ∃ (aJ : Nat) (aG : Option Addr) (aE : Option Addr) (aK : Nat) (aH : Nat), (Frm 39 a_ [(7, pt aJ 0), (6, pt w1.heap.size 0), (3, pt w.heap.size 0)]) ∧ (Ext w w_) ∧ (RdG w_ 0 w.heap.size Ag0 Ag1 Ag2 cg0 cg1 cg2 g) ∧ (RdI w_ 0 w.heap.size Aa la) ∧ (Bx w_ (w.heap.size) [.slice Ag0 g.ow.length cg0, .slice Ag1 g.pr.length cg1, .slice Ag2 g.mv.length cg2] 25) ∧ (Bx w_ (w1.heap.size) [.slice none 0 0, .slice none 0 0, .int .i64 (0)] 55) ∧ (OwnR w_ (Sx (aI.heap.size) [obk (aE), some (aJ)]) (aG) (aK) 3 ((la.take (k : Int).toNat) : List Int)) ∧ (OwnR w_ (Sx (aI.heap.size) [obk (aG), some (aJ)]) (aE) (aH) 3 ((la.drop (k : Int).toNat) : List Int)) ∧ (Bx w_ (aJ) [.slice (aG) (((la.take (k : Int).toNat)).length) (aK), .slice (aE) (((la.drop (k : Int).toNat)).length) (aH), .int .i64 (0)] 55) ∧ (aI.heap.size ≤ aJ) ∧ (aI.heap.size ≤ w_.heap.size)) ?_ ?_)
 ·have aD := RdI.take aA ((k : Int).toNat)
  have : (la.take (k : Int).toNat).length = (k : Int).toNat := by rw [List.length_take]; omega
  obtain ⟨bS, cY⟩ : ∃ A_ : Option Addr, (if ca = (k : Int).toNat then Aa else Option.map (fun a_ : Addr => a_.add ((k : Int).toNat * 1)) Aa) = A_ := ⟨_, rfl⟩
  have aC := RdI.drop aA ((k : Int).toNat) (c := ca) ω ω
  rw [cY] at aC
  have : (la.drop (k : Int).toNat).length = la.length - (k : Int).toNat := List.length_drop
  obtain ⟨cZ, cE⟩ : ∃ c : List (Addr × Value), c = [] := ⟨_, rfl⟩
  have dA : HoldsC cZ aI := by rw [cE]; exact trivial
  refine AtH.start cZ 11 _ κ rfl rfl (fun bT dB => ?_)
  have aU := gr_drew dB; have cL := dA.gr aU; have := aU.size; replace e0 := e0.gn aU; replace r9 := r9.gn aU; replace aA := aA.gn aU; replace bx6 := bx6.gn aU; replace aB := aB.gn aU; replace aD := aD.gn aU; replace aC := aC.gn aU; clear aU dB dA
  refine AtH.rk cL cK [0, 1, 2, 4, 5, 6] 5 [(17, .slice bS ((la.drop (k : Int).toNat).length) (ca - (k : Int).toNat)), (13, .slice Aa ((la.take (k : Int).toNat).length) ca)] (.p (show 0 ≤ (k : Int) from ω) <| .p (show (k : Int) ≤ (ca : Nat) from ω) <| .v 13 (show (.slice Aa ((k : Int).toNat) ca : Value) = .slice Aa ((la.take (k : Int).toNat).length) ca from (slice_len (by rw [List.length_take]; omega))) <| .p (show 0 ≤ (k : Int) from ω) <| .p (show (k : Int) ≤ ((la.length : Nat) : Int) from ω) <| .v 17 (show (.slice (if ca = (k : Int).toNat then Aa else Option.map (fun a_ : Addr => a_.add ((k : Int).toNat * 1)) Aa) (la.length - (k : Int).toNat) (ca - (k : Int).toNat) : Value) = .slice bS ((la.drop (k : Int).toNat).length) (ca - (k : Int).toNat) from (by rw [cY, List.length_drop])) <| .n) (fun fC cF => ?_)
  clear cK
  refine AtH.all [3, 9] 4 κ (by simp) ⟨?_, ?_, trivial⟩
  ·refine OneH.cl cF (some 14) (args := #[.slice Aa ((la.take (k : Int).toNat).length) ca]) (clone_any (la := (la.take (k : Int).toNat)) (aD.wide (Nat.zero_le _) ω)) ?_
   rintro e_ bU ⟨aL, aV, rfl, he, aF⟩
   refine ⟨_, rfl, _, rfl, fun fD cG => ?_⟩
   clear cF; have aW := gr_ext he; have cM := cL.gr aW; have := aW.size; replace e0 := e0.gn aW; replace r9 := r9.gn aW; replace aA := aA.gn aW; replace bx6 := bx6.gn aW; replace aB := aB.gn aW; replace aD := aD.gn aW; replace aC := aC.gn aW; clear aW he
   refine ⟨cM, ?_⟩
   refine AtH.all [7, 9] 3 κ (by simp) ⟨?_, ?_, trivial⟩
   ·refine OneH.cl cG (some 18) (args := #[.slice bS ((la.drop (k : Int).toNat).length) (ca - (k : Int).toNat)]) (clone_any (la := (la.drop (k : Int).toNat)) (aC.wide (Nat.zero_le _) ω)) ?_
    rintro e_ bV ⟨bI, bW, rfl, he, bB⟩
    refine ⟨_, rfl, _, rfl, fun fE dC => ?_⟩
    clear cG; have aR := gr_ext he; have cN := cM.gr aR; have dD := aF.lt; have := aR.size; replace e0 := e0.gn aR; replace r9 := r9.gn aR; replace aA := aA.gn aR; replace bx6 := bx6.gn aR; replace aB := aB.gn aR; replace aD := aD.gn aR; replace aC := aC.gn aR
    replace aF : OwnR bV (Sx (bT.heap.size) [obk (bI)]) aL aV 3 ((la.take (k : Int).toNat) : List Int) := aF.grA aR (fun _ _ h => by cases h) (fun k hk hs => ⟨(fun e => by have := bB.ge _ e; omega), hs⟩)
    replace bB : OwnR bV (Sx (bU.heap.size) [obk (aL)]) bI bW 3 ((la.drop (k : Int).toNat) : List Int) := bB.imp (fun g _ hs => ⟨(fun e => by have := dD _ e; have := Sx_base hs; omega), hs⟩)
    clear dD; clear aR he
    refine ⟨cN, ?_⟩
    refine AtH.rk cN dC [8] 2 [(19, .agg #[.slice aL (((la.take (k : Int).toNat)).length) aV, .slice bI (((la.drop (k : Int).toNat)).length) bW, .int .i64 (0)])] .n (fun fF dE => ?_)
    clear dC
    refine AtH.all [9] 1 κ (by simp) ⟨?_, trivial⟩
    refine OneH.bx dE cN 7 [.slice none 0 0, .slice none 0 0, .int .i64 (0)] 55 (fun fG aS cO eI fH dF => ?_)
    clear dE; have := aS.size; replace e0 := e0.gn aS; replace r9 := r9.gn aS; replace aA := aA.gn aS; replace bx6 := bx6.gn aS; replace aB := aB.gn aS; replace aD := aD.gn aS; replace aC := aC.gn aS; replace aF := aF.grN aS; replace bB := bB.grN aS; have := cO.lt; clear aS
    refine AtH.all [10] 0 κ (by simp) ⟨?_, trivial⟩
    refine OneH.store dF (t := 55) (b := bV.heap.size) (off := 0) (v := .agg #[.slice aL (((la.take (k : Int).toNat)).length) aV, .slice bI (((la.drop (k : Int).toNat)).length) bW, .int .i64 (0)]) _ rfl κ cO κ (fun fI eJ aM cP eK => ?_)
    clear dF
    replace cP : Bx eJ (bV.heap.size) [.slice aL (((la.take (k : Int).toNat)).length) aV, .slice bI (((la.drop (k : Int).toNat)).length) bW, .int .i64 (0)] 55 := cP
    have dG := eI.gr' aM (by rw [cE]; exact trivial); have := aM.size; replace e0 := e0.gr aM (fun k h => by injection h; omega); replace r9 := r9.gb aM ω; replace aA := aA.gb aM ω; replace bx6 := bx6.gb aM ω; replace aB := aB.gb aM ω; replace aD := aD.gb aM ω; replace aC := aC.gb aM ω; replace aF := aF.gr aM (fun k hk => hk.1); replace bB := bB.gr aM (fun k hk => hk.1); clear cO aM
    refine ⟨dG, ?_⟩
    refine AtH.done κ ?_
    clear dG
    refine t_n ?_
    exact ⟨bV.heap.size, aL, bI, aV, bW, eK.sb, e0, r9, aA, bx6, aB, (aF.imp (fun g _ hs => ⟨hs.2.1, hs.1, (by have := Sx_base hs; show aI.heap.size ≤ g; omega)⟩)), (bB.imp (fun g _ hs => ⟨hs.2.1, hs.1, (by have := Sx_base hs; show aI.heap.size ≤ g; omega)⟩)), cP, ω, ω⟩
   refine OneH.bx cG cM 7 [.slice none 0 0, .slice none 0 0, .int .i64 (0)] 55 (fun eL aX bX eM fJ dH => ?_)
   clear cG; have := aX.size; replace e0 := e0.gn aX; replace r9 := r9.gn aX; replace aA := aA.gn aX; replace bx6 := bx6.gn aX; replace aB := aB.gn aX; replace aD := aD.gn aX; replace aC := aC.gn aX; replace aF := aF.grN aX; have := bX.lt; clear aX
   refine AtH.all [7] 2 κ (by simp) ⟨?_, trivial⟩
   refine OneH.cl dH (some 18) (args := #[.slice bS ((la.drop (k : Int).toNat).length) (ca - (k : Int).toNat)]) (clone_any (la := (la.drop (k : Int).toNat)) (aC.wide (Nat.zero_le _) ω)) ?_
   rintro e_ dI ⟨bJ, bY, rfl, he, bK⟩
   refine ⟨_, rfl, _, rfl, fun fK dJ => ?_⟩
   clear dH; have aN := gr_ext he; have cQ := eM.gr aN; have dK := aF.lt; have := aN.size; replace e0 := e0.gn aN; replace r9 := r9.gn aN; replace aA := aA.gn aN; replace bx6 := bx6.gn aN; replace aB := aB.gn aN; replace aD := aD.gn aN; replace aC := aC.gn aN
   replace aF : OwnR dI (Sx (bT.heap.size) [obk (bJ), some (bU.heap.size)]) aL aV 3 ((la.take (k : Int).toNat) : List Int) := aF.grA aN (fun _ _ h => by cases h) (fun k hk hs => ⟨(fun e => by have := bK.ge _ e; omega), hs.1, hs.2⟩)
   replace bX := bX.gn aN
   replace bK : OwnR dI (Sx (eL.heap.size) [obk (aL)]) bJ bY 3 ((la.drop (k : Int).toNat) : List Int) := bK.imp (fun g _ hs => ⟨(fun e => by have := dK _ e; have := Sx_base hs; omega), hs⟩)
   clear dK; clear aN he
   refine ⟨cQ, ?_⟩
   refine AtH.rk cQ dJ [8] 1 [(19, .agg #[.slice aL (((la.take (k : Int).toNat)).length) aV, .slice bJ (((la.drop (k : Int).toNat)).length) bY, .int .i64 (0)])] .n (fun fL dL => ?_)
   clear dJ
   refine AtH.all [10] 0 κ (by simp) ⟨?_, trivial⟩
   refine OneH.store dL (t := 55) (b := bU.heap.size) (off := 0) (v := .agg #[.slice aL (((la.take (k : Int).toNat)).length) aV, .slice bJ (((la.drop (k : Int).toNat)).length) bY, .int .i64 (0)]) _ rfl κ bX κ (fun fM eN aO cR eO => ?_)
   clear dL
   replace cR : Bx eN (bU.heap.size) [.slice aL (((la.take (k : Int).toNat)).length) aV, .slice bJ (((la.drop (k : Int).toNat)).length) bY, .int .i64 (0)] 55 := cR
   have dM := cQ.gr' aO (by rw [cE]; exact trivial); have := aO.size; replace e0 := e0.gr aO (fun k h => by injection h; omega); replace r9 := r9.gb aO ω; replace aA := aA.gb aO ω; replace bx6 := bx6.gb aO ω; replace aB := aB.gb aO ω; replace aD := aD.gb aO ω; replace aC := aC.gb aO ω; replace aF := aF.gr aO (fun k hk => hk.2.1)
   replace bK := bK.gr aO (fun k hk e => by have := Sx_base hk; injection e; omega); clear bX aO
   refine ⟨dM, ?_⟩
   refine AtH.done κ ?_
   clear dM
   refine t_n ?_
   exact ⟨bU.heap.size, aL, bJ, aV, bY, eO.sb, e0, r9, aA, bx6, aB, (aF.imp (fun g _ hs => ⟨hs.1, hs.2.1, (by have := Sx_base hs; show aI.heap.size ≤ g; omega)⟩)), (bK.imp (fun g _ hs => ⟨hs.1, (fun e => by have := Sx_base hs; injection e; omega), (by have := Sx_base hs; show aI.heap.size ≤ g; omega)⟩)), cR, ω, ω⟩
  refine OneH.bx cF cL 7 [.slice none 0 0, .slice none 0 0, .int .i64 (0)] 55 (fun eP aY bC eQ fN dN => ?_)
  clear cF; have := aY.size; replace e0 := e0.gn aY; replace r9 := r9.gn aY; replace aA := aA.gn aY; replace bx6 := bx6.gn aY; replace aB := aB.gn aY; replace aD := aD.gn aY; replace aC := aC.gn aY; have := bC.lt; clear aY
  refine AtH.all [3] 3 κ (by simp) ⟨?_, trivial⟩
  refine OneH.cl dN (some 14) (args := #[.slice Aa ((la.take (k : Int).toNat).length) ca]) (clone_any (la := (la.take (k : Int).toNat)) (aD.wide (Nat.zero_le _) ω)) ?_
  rintro e_ eR ⟨bL, bZ, rfl, he, bM⟩
  refine ⟨_, rfl, _, rfl, fun fO dO => ?_⟩
  clear dN; have aT := gr_ext he; have dP := eQ.gr aT; have := aT.size; replace e0 := e0.gn aT; replace r9 := r9.gn aT; replace aA := aA.gn aT; replace bx6 := bx6.gn aT; replace aB := aB.gn aT; replace aD := aD.gn aT; replace aC := aC.gn aT; replace bC := bC.gn aT; clear aT he
  refine ⟨dP, ?_⟩
  refine AtH.all [7] 2 κ (by simp) ⟨?_, trivial⟩
  refine OneH.cl dO (some 18) (args := #[.slice bS ((la.drop (k : Int).toNat).length) (ca - (k : Int).toNat)]) (clone_any (la := (la.drop (k : Int).toNat)) (aC.wide (Nat.zero_le _) ω)) ?_
  rintro e_ dQ ⟨bN, cA, rfl, he, bO⟩
  refine ⟨_, rfl, _, rfl, fun fP dR => ?_⟩
  clear dO; have aP := gr_ext he; have cS := dP.gr aP; have dS := bM.lt; have := aP.size; replace e0 := e0.gn aP; replace r9 := r9.gn aP; replace aA := aA.gn aP; replace bx6 := bx6.gn aP; replace aB := aB.gn aP; replace aD := aD.gn aP; replace aC := aC.gn aP; replace bC := bC.gn aP
  replace bM : OwnR dQ (Sx (eP.heap.size) [obk (bN)]) bL bZ 3 ((la.take (k : Int).toNat) : List Int) := bM.grA aP (fun _ _ h => by cases h) (fun k hk hs => ⟨(fun e => by have := bO.ge _ e; omega), hs⟩)
  replace bO : OwnR dQ (Sx (eR.heap.size) [obk (bL)]) bN cA 3 ((la.drop (k : Int).toNat) : List Int) := bO.imp (fun g _ hs => ⟨(fun e => by have := dS _ e; have := Sx_base hs; omega), hs⟩)
  clear dS; clear aP he
  refine ⟨cS, ?_⟩
  refine AtH.rk cS dR [8] 1 [(19, .agg #[.slice bL (((la.take (k : Int).toNat)).length) bZ, .slice bN (((la.drop (k : Int).toNat)).length) cA, .int .i64 (0)])] .n (fun fQ dT => ?_)
  clear dR
  refine AtH.all [10] 0 κ (by simp) ⟨?_, trivial⟩
  refine OneH.store dT (t := 55) (b := bT.heap.size) (off := 0) (v := .agg #[.slice bL (((la.take (k : Int).toNat)).length) bZ, .slice bN (((la.drop (k : Int).toNat)).length) cA, .int .i64 (0)]) _ rfl κ bC κ (fun fR eS aQ cT eT => ?_)
  clear dT
  replace cT : Bx eS (bT.heap.size) [.slice bL (((la.take (k : Int).toNat)).length) bZ, .slice bN (((la.drop (k : Int).toNat)).length) cA, .int .i64 (0)] 55 := cT
  have dU := cS.gr' aQ (by rw [cE]; exact trivial); have := aQ.size; replace e0 := e0.gr aQ (fun k h => by injection h; omega); replace r9 := r9.gb aQ ω; replace aA := aA.gb aQ ω; replace bx6 := bx6.gb aQ ω; replace aB := aB.gb aQ ω; replace aD := aD.gb aQ ω; replace aC := aC.gb aQ ω; replace bM := bM.gr aQ (fun k hk e => by have := Sx_base hk; injection e; omega)
  replace bO := bO.gr aQ (fun k hk e => by have := Sx_base hk; injection e; omega); clear bC aQ
  refine ⟨dU, ?_⟩
  refine AtH.done κ ?_
  clear dU
  refine t_n ?_
  exact ⟨bT.heap.size, bL, bN, bZ, cA, eT.sb, e0, r9, aA, bx6, aB, (bM.imp (fun g _ hs => ⟨hs.1, (fun e => by have := Sx_base hs; injection e; omega), (by have := Sx_base hs; show aI.heap.size ≤ g; omega)⟩)), (bO.imp (fun g _ hs => ⟨hs.1, (fun e => by have := Sx_base hs; injection e; omega), (by have := Sx_base hs; show aI.heap.size ≤ g; omega)⟩)), cT, ω, ω⟩
 clear r9; clear aA; clear bx6; clear aB; clear cK e0
 intro fS fT ⟨aJ, aG, aE, aK, aH, dV, cU, dW, dX, cV, cW, dY, dZ, cH, fU, fV⟩
 have := cU.size; have := cV.lt; have := cW.lt; have := cH.lt
 refine sqs ?_
 refine At.rk dV 1 [(8, .int .i64 (0))] .n (fun fW eA => ?_)
 clear dV
 refine At.dn ?_
 refine wp_seq ?_
 refine sqs ?_
 refine At.rk eA 4 [(23, .int .i64 (0)), (22, .int .i64 (((((la.drop (k : Int).toNat)).length : Nat) : Int))), (21, .slice aE (((la.drop (k : Int).toNat)).length) aH)] (.l (cH.cell (i := 1) rfl) <| .n) (fun fX eB => ?_)
 clear eA
 refine At.dn ?_
 refine wp_block ?_
 refine loop_g (fun (m_ : Nat) a_ w_ => ∃ (j : Int) (t : Int), m_ = (((la.drop k.toNat).length : Int) - j).toNat ∧ (Frm 39 a_ [(23, .int .i64 (j)), (8, .int .i64 (t)), (22, .int .i64 (((((la.drop (k : Int).toNat)).length : Nat) : Int))), (21, .slice aE (((la.drop (k : Int).toNat)).length) aH), (7, pt aJ 0), (6, pt w1.heap.size 0), (3, pt w.heap.size 0)]) ∧ (Ext w w_) ∧ (RdG w_ 0 w.heap.size Ag0 Ag1 Ag2 cg0 cg1 cg2 g) ∧ (RdI w_ 0 w.heap.size Aa la) ∧ (Bx w_ (w.heap.size) [.slice Ag0 g.ow.length cg0, .slice Ag1 g.pr.length cg1, .slice Ag2 g.mv.length cg2] 25) ∧ (Bx w_ (w1.heap.size) [.slice none 0 0, .slice none 0 0, .int .i64 (0)] 55) ∧ (OwnR w_ (Sx (aI.heap.size) [obk (aE), some (aJ)]) aG aK 3 ((la.take (k : Int).toNat) : List Int)) ∧ (OwnR w_ (Sx (aI.heap.size) [obk (aG), some (aJ)]) aE aH 3 ((la.drop (k : Int).toNat) : List Int)) ∧ (Bx w_ (aJ) [.slice aG (((la.take (k : Int).toNat)).length) aK, .slice aE (((la.drop (k : Int).toNat)).length) aH, .int .i64 (0)] 55) ∧ (0 ≤ j) ∧ (j ≤ ((la.drop k.toNat).length : Int)) ∧ (t = topP g ((la.drop k.toNat).take j.toNat)) ∧ (aI.heap.size ≤ w_.heap.size)) _ ⟨0, 0, rfl, eB.sb, cU, dW, dX, cV, cW, dY, dZ, cH, ω, (Int.natCast_nonneg _), rfl, ω⟩ ?_
 clear eB; clear dW; clear dX; clear cV; clear cW; clear dY; clear dZ; clear cH; clear cU
 intro m_ fY fZ ⟨j, t, hm264, eC, bD, bP, cB, bE, bQ, bR, bF, cI, i273, i274, ht, i275⟩
 have := bD.size; have := bE.lt; have := bQ.lt; have := cI.lt
 refine sqs ?_
 refine At.rk eC 1 [(24, .bool (decide ((j : Int) < ((((la.drop (k : Int).toNat)).length : Nat) : Int))))] .n (fun gA cC => ?_)
 clear eC
 refine At.dn ?_
 refine wp_seq ?_
 refine cond_S cC (t := decide ((j : Int) < ((((la.drop (k : Int).toNat)).length : Nat) : Int))) rfl (fun cX => ?_) (fun cX => ?_)
 ·have gB := of_decide_eq_true cX
  refine wp_skip ?_
  refine t_n ?_
  refine wp_seq ?_
  refine wp_block ?_
  refine sqs ?_
  obtain ⟨gC, eU, gD, eV, gE⟩ := bF.get (j) ω ω (sz := 1) rfl
  refine At.rk cC 3 [(10, .int .i64 (gI (la.drop (k : Int).toNat) j))] (.a j (((la.drop (k : Int).toNat)).length) eU <| .l eV <| .n) (fun gF eD => ?_)
  clear cC
  refine At.dn ?_
  have hat := hr _ (drop_mem (k := k) ω ω)
  refine At.start ?_
  obtain ⟨gG, eW, _, _, eX⟩ := RdI.get bP.pr (gI (la.drop (k : Int).toNat) j) ω ω
  refine At.rk eD 8 [(8, .int .i64 (max t (gI g.pr (gI (la.drop (k : Int).toNat) j))))] (.l (bE.cell (i := 1) rfl) <| .a (gI (la.drop (k : Int).toNat) j) g.pr.length eW <| .l eX <| .v 33 (show (.int .i64 (if (gI g.pr (gI (la.drop (k : Int).toNat) j)) > t then (gI g.pr (gI (la.drop (k : Int).toNat) j)) else t) : Value) = .int .i64 (max t (gI g.pr (gI (la.drop (k : Int).toNat) j))) from (congrArg (Value.int .i64) (max_if _ _))) <| .n) (fun gH eE => ?_)
  clear eD
  refine At.done rfl ?_
  refine b_n ?_
  refine t_n ?_
  refine At.start ?_
  refine At.rk eE 2 [(23, .int .i64 (j + 1))] (.w 34 (j + 1) <| .n) (fun gJ eY => ?_)
  clear eE
  refine At.dn ?_
  exact ⟨_, ω, (j + 1), max t (gI g.pr (gI (la.drop (k : Int).toNat) j)), rfl, eY.sb, bD, bP, cB, bE, bQ, bR, bF, cI, ω, ω, (top_next ht ω ω), ω⟩
 have gK := of_decide_eq_false cX
 refine wp_exit ?_
 refine t_e ?_
 clear hm264
 refine t_e ?_
 refine b_e ?_
 refine t_n ?_
 refine wp_seq ?_
 have htg := top_ge g (la.drop k.toNat); have hte : t = topP g (la.drop k.toNat) := ht.trans (top_all ω)
 refine At.start ?_
 refine At.rk cC 3 [(37, pt aJ 2), (36, .int .i64 ((t : Int) % 2))] (.p (show (2 : Int) ≠ 0 from ω) <| .v 36 (show (.int .i64 ((t : Int).tmod 2) : Value) = .int .i64 ((t : Int) % 2) from (congrArg (Value.int .i64) (Int.tmod_eq_emod_of_nonneg ω))) <| .n) (fun gL eF => ?_)
 clear cC
 refine At.store eF (t := 3) (b := aJ) (off := 2) (v := .int .i64 ((t : Int) % 2)) κ cI κ (fun gM eZ aZ bG eG => ?_)
 clear eF
 replace bG : Bx eZ (aJ) [.slice aG (((la.take (k : Int).toNat)).length) aK, .slice aE (((la.drop (k : Int).toNat)).length) aH, .int .i64 ((t : Int) % 2)] 55 := bG
 have := aZ.size; replace bD := bD.gr aZ (fun k h => by injection h; omega); replace bP := bP.gb aZ ω; replace cB := cB.gb aZ ω; replace bE := bE.gb aZ ω; replace bQ := bQ.gb aZ ω; replace bR := bR.gr aZ (fun k hk => hk.2.1); replace bF := bF.gr aZ (fun k hk => hk.2.1); clear cI aZ
 refine At.dn ?_
 refine sqs ?_
 refine At.rk eG 1 [(38, .agg #[.slice aG (((la.take (k : Int).toNat)).length) aK, .slice aE (((la.drop (k : Int).toNat)).length) aH, .int .i64 ((t : Int) % 2)])] (.l (bG.cell (i := 0) rfl) <| .l (bG.cell (i := 1) rfl) <| .l (bG.cell (i := 2) rfl) <| .n) (fun gN eH => ?_)
 clear eG
 refine At.store eH (t := 55) (b := w1.heap.size) (off := 0) (v := .agg #[.slice aG (((la.take (k : Int).toNat)).length) aK, .slice aE (((la.drop (k : Int).toNat)).length) aH, .int .i64 ((t : Int) % 2)]) κ bQ κ (fun gO cJ bA cD fA => ?_)
 clear eH
 replace cD : Bx cJ (w1.heap.size) [.slice aG (((la.take (k : Int).toNat)).length) aK, .slice aE (((la.drop (k : Int).toNat)).length) aH, .int .i64 ((t : Int) % 2)] 55 := cD
 have := bA.size; replace bD := bD.gr bA (fun k h => by injection h; omega); replace bP := bP.gb bA ω; replace cB := cB.gb bA ω; replace bE := bE.gb bA ω; replace bR := bR.gr bA (fun k hk e => by have := Sx_base hk; injection e; omega); replace bF := bF.gr bA (fun k hk e => by have := Sx_base hk; injection e; omega); replace bG := bG.gb bA ω; clear bQ bA
 refine At.dn ?_
 refine wp_ret ?_
 refine ret_ fA [[.slice aG (((la.take (k : Int).toNat)).length) aK, .slice aE (((la.drop (k : Int).toNat)).length) aH, .int .i64 ((t : Int) % 2)]] [.agg #[.slice aG (((la.take (k : Int).toNat)).length) aK, .slice aE (((la.drop (k : Int).toNat)).length) aH, .int .i64 ((t : Int) % 2)]] [(cJ.cell? ⟨w1.heap.size, 0, none⟩ = some (.slice aG (((la.take (k : Int).toNat)).length) aK)), (cJ.cell? ⟨w1.heap.size, 1, none⟩ = some (.slice aE (((la.drop (k : Int).toNat)).length) aH)), (cJ.cell? ⟨w1.heap.size, 2, none⟩ = some (.int .i64 ((t : Int) % 2)))] κ ⟨(cD.cell (i := 0) rfl), (cD.cell (i := 1) rfl), (cD.cell (i := 2) rfl), trivial⟩ ?_
 rw [← hte]
 exact ⟨aG, aK, aE, aH, rfl, bD, (bR.imp (fun g _ hs => ⟨hs.1, (by have := Sx_base hs; show w.heap.size ≤ g; omega)⟩)), (bF.imp (fun g _ hs => ⟨hs.1, (by have := Sx_base hs; show w.heap.size ≤ g; omega)⟩))⟩
end Go.Proofs.YtplpgfcjjnaigaaDoor
namespace Go.Proofs.YtplpgfcjjnaigaaDoor
open Go Go.RowKit
theorem keyT : KeyT Tryd.prog 83 85 3 where
  m := by kernel_rfl
  wide := by kernel_rfl
  ck := fun em x w => by kernel_rfl
  eq := fun a b w => by
    have h := eqV_sound (P := Tryd.prog) (d := 10000) (t := 85) (x := key2 a) (y := key2 b) (b := (a.1 == b.1) && ((a.2 == b.2) && true)) (by kernel_rfl) w
    have e : ((a.1 == b.1) && ((a.2 == b.2) && true)) = decide (a = b) := by
      rw [Bool.eq_iff_iff]
      simp [Prod.ext_iff]
    rw [e] at h
    exact h
  z := fun w => by rfl
end Go.Proofs.YtplpgfcjjnaigaaDoor
