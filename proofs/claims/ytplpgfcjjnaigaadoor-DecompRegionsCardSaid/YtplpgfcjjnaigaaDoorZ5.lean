/-
  Texts of this repo, laid together: the frame of the walks, plain lemmas, walks of Go functions. Conditions: what the theorems name.
-/
import Derived.Test.YtplpgfcjjnaigaaDoorZ4
set_option linter.unusedVariables false
set_option linter.unusedSimpArgs false
namespace Go.Proofs.YtplpgfcjjnaigaaDoor
open Go Go.RowKit
set_option maxHeartbeats 4000000 in
theorem mul64_any {n : Int} {w : World} (h0 : 0 ≤ n) (h1 : n < 4294967296) :
    Calls Tryd.prog 61 #[.int .u64 (1), .int .u64 (n)] w fun e w' => e = .returned (.tuple #[.int .u64 0, .int .u64 n]) ∧ Ext w w' := by
 refine enter_ (args := [.int .u64 (1), .int .u64 (n)]) Tryd.func61 rfl Tryd.ntmps61 (Nat.le_of_ble_eq_true rfl) (fun act0 f0 => ?_)
 have e0 : Ext w w := Ext.refl w
 refine sqs ?_
 refine At.rk f0 2 [] .n (fun act2 f1 => ?_)
 clear f0
 refine At.dn ?_
 refine sqs ?_
 refine At.rk f1 3 [(6, .int .u64 (1))] (.v 15 (show (.int .u64 (IntKind.u64.wrap ((BitVec.ofInt 64 1 &&& BitVec.ofInt 64 4294967295).toNat : Int)) : Value) = .int .u64 (1) from (congrArg (Value.int .u64) (by decide +kernel))) <| .n) (fun act4 f3 => ?_)
 clear f1
 refine At.dn ?_
 refine sqs ?_
 refine At.rk f3 3 [(7, .int .u64 (0))] (.p (show 0 ≤ (32 : Int) from ω) <| .v 17 (show (.int .u64 ((1 : Int).fdiv (2 ^ (min (32 : Int).toNat IntKind.u64.bits))) : Value) = .int .u64 (0) from (congrArg (Value.int .u64) (by decide +kernel))) <| .n) (fun act6 f5 => ?_)
 clear f3
 refine At.dn ?_
 refine sqs ?_
 refine At.rk f5 3 [(8, .int .u64 (n))] (.v 19 (show (.int .u64 (IntKind.u64.wrap ((BitVec.ofInt 64 n &&& BitVec.ofInt 64 4294967295).toNat : Int)) : Value) = .int .u64 (n) from (congrArg (Value.int .u64) (mask32 h0 h1))) <| .n) (fun act8 f7 => ?_)
 clear f5
 refine At.dn ?_
 refine sqs ?_
 refine At.rk f7 3 [(9, .int .u64 (0))] (.p (show 0 ≤ (32 : Int) from ω) <| .v 21 (show (.int .u64 ((n : Int).fdiv (2 ^ (min (32 : Int).toNat IntKind.u64.bits))) : Value) = .int .u64 (0) from (congrArg (Value.int .u64) (shr32 h0 h1))) <| .n) (fun aH f9 => ?_)
 clear f7
 refine At.dn ?_
 refine sqs ?_
 refine At.rk f9 4 [(10, .int .u64 (n))] (.v 24 (show (.int .u64 (IntKind.u64.wrap (1 * n)) : Value) = .int .u64 (n) from (congrArg (Value.int .u64) (wrapM ω h0 h1))) <| .n) (fun aI aA => ?_)
 clear f9
 refine At.dn ?_
 refine sqs ?_
 refine At.rk aA 7 [(11, .int .u64 (0))] (.v 27 (show (.int .u64 (IntKind.u64.wrap (0 * n)) : Value) = .int .u64 (0) from (congrArg (Value.int .u64) (wrapM ω ω ω))) <| .p (show 0 ≤ (32 : Int) from ω) <| .v 29 (show (.int .u64 ((n : Int).fdiv (2 ^ (min (32 : Int).toNat IntKind.u64.bits))) : Value) = .int .u64 (0) from (congrArg (Value.int .u64) (shr32 h0 h1))) <| .v 30 (show (.int .u64 (IntKind.u64.wrap (0 + 0)) : Value) = .int .u64 (0) from (congrArg (Value.int .u64) (by decide +kernel))) <| .n) (fun aJ aB => ?_)
 clear aA
 refine At.dn ?_
 refine sqs ?_
 refine At.rk aB 3 [(12, .int .u64 (0))] (.v 32 (show (.int .u64 (IntKind.u64.wrap ((BitVec.ofInt 64 0 &&& BitVec.ofInt 64 4294967295).toNat : Int)) : Value) = .int .u64 (0) from (congrArg (Value.int .u64) (by decide +kernel))) <| .n) (fun aK aC => ?_)
 clear aB
 refine At.dn ?_
 refine sqs ?_
 refine At.rk aC 3 [(13, .int .u64 (0))] (.p (show 0 ≤ (32 : Int) from ω) <| .v 34 (show (.int .u64 ((0 : Int).fdiv (2 ^ (min (32 : Int).toNat IntKind.u64.bits))) : Value) = .int .u64 (0) from (congrArg (Value.int .u64) (by decide +kernel))) <| .n) (fun aL aD => ?_)
 clear aC
 refine At.dn ?_
 refine sqs ?_
 refine At.rk aD 6 [(12, .int .u64 (0))] (.v 38 (show (.int .u64 (IntKind.u64.wrap (1 * 0)) : Value) = .int .u64 (0) from (congrArg (Value.int .u64) (by decide +kernel))) <| .v 39 (show (.int .u64 (IntKind.u64.wrap (0 + 0)) : Value) = .int .u64 (0) from (congrArg (Value.int .u64) (by decide +kernel))) <| .n) (fun aM aE => ?_)
 clear aD
 refine At.dn ?_
 refine sqs ?_
 refine At.rk aE 9 [(4, .int .u64 (0))] (.v 42 (show (.int .u64 (IntKind.u64.wrap (0 * 0)) : Value) = .int .u64 (0) from (congrArg (Value.int .u64) (by decide +kernel))) <| .v 44 (show (.int .u64 (IntKind.u64.wrap (0 + 0)) : Value) = .int .u64 (0) from (congrArg (Value.int .u64) (by decide +kernel))) <| .p (show 0 ≤ (32 : Int) from ω) <| .v 46 (show (.int .u64 ((0 : Int).fdiv (2 ^ (min (32 : Int).toNat IntKind.u64.bits))) : Value) = .int .u64 (0) from (congrArg (Value.int .u64) (by decide +kernel))) <| .v 47 (show (.int .u64 (IntKind.u64.wrap (0 + 0)) : Value) = .int .u64 (0) from (congrArg (Value.int .u64) (by decide +kernel))) <| .n) (fun aN aF => ?_)
 clear aE
 refine At.dn ?_
 refine sqs ?_
 refine At.rk aF 4 [(5, .int .u64 (n))] (.v 50 (show (.int .u64 (IntKind.u64.wrap (1 * n)) : Value) = .int .u64 (n) from (congrArg (Value.int .u64) (wrapM ω h0 h1))) <| .n) (fun aO aG => ?_)
 clear aF
 refine At.dn ?_
 refine wp_ret ?_
 refine ret_ aG [] [.int .u64 (0), .int .u64 (n)] [] κ trivial ?_
 exact ⟨rfl, e0⟩
set_option maxHeartbeats 4000000 in
theorem mul_any {n : Int} {w : World} (h0 : 0 ≤ n) (h1 : n < 4294967296) :
    Calls Tryd.prog 55 #[.int .u64 (1), .int .u64 (n)] w fun e w' => e = .returned (.tuple #[.int .u64 0, .int .u64 n]) ∧ Ext w w' := by
 refine enter_ (args := [.int .u64 (1), .int .u64 (n)]) Tryd.func55 rfl Tryd.ntmps55 (Nat.le_of_ble_eq_true rfl) (fun act0 f0 => ?_)
 have e0 : Ext w w := Ext.refl w
 refine sqs ?_
 refine At.rk f0 2 [] .n (fun act2 f1 => ?_)
 clear f0
 refine At.dn ?_
 refine wp_seq ?_
 refine cond_F f1 rfl ?_
 refine wp_skip ?_
 refine t_n ?_
 refine sqs ?_
 refine At.rk f1 2 [(24, .int .u64 (n)), (23, .int .u64 (1))] .n (fun act4 f3 => ?_)
 clear f1
 refine At.cl f3 (some 25) (mul64_any (n := n) ω ω) ?_
 rintro e_ w5 ⟨rfl, he⟩
 refine ⟨_, rfl, _, rfl, fun act6 f7 => ?_⟩
 clear f3; have g8 := gr_ext he; have := g8.size; replace e0 := e0.gn g8; clear g8 he
 refine At.rk f7 5 [(9, .int .u64 (n)), (8, .int .u64 (0))] .n (fun aC aA => ?_)
 clear f7
 refine At.dn ?_
 refine sqs ?_
 refine At.rk aA 4 [(5, .int .u64 (n)), (4, .int .u64 (0))] .n (fun aD aB => ?_)
 clear aA
 refine At.dn ?_
 refine wp_ret ?_
 refine ret_ aB [] [.int .u64 (0), .int .u64 (n)] [] κ trivial ?_
 exact ⟨rfl, e0⟩
set_option maxHeartbeats 4000000 in
theorem repeat_any {Aa : Option Addr} {ca : Nat} {la : List Int} {n : Int} {w : World} (ra : RdI w 0 w.heap.size Aa la) (hla1 : la.length = 1) (h0 : 0 ≤ n) (h1 : n ≤ 256) :
    Calls Tryd.prog 36 #[.slice Aa la.length ca, .int .i64 (n)] w fun e w' => ∃ A c, e = .returned (.slice A (List.replicate n.toNat (gI la 0)).length c) ∧ Ext w w' ∧ OwnR w' (Sx w.heap.size []) A c 3 (List.replicate n.toNat (gI la 0) : List Int) := by
 have hla := ra.len
 refine enter_ (args := [.slice Aa la.length ca, .int .i64 (n)]) Tryd.func36 rfl Tryd.ntmps36 (Nat.le_of_ble_eq_true rfl) (fun act0 f0 => ?_)
 have e0 : Ext w w := Ext.refl w
 refine sqs ?_
 refine At.rk f0 1 [(4, .slice none 0 0)] .n (fun act2 f1 => ?_)
 clear f0
 refine At.dn ?_
 refine wp_seq ?_
 refine sqs ?_
 refine At.rk f1 2 [(10, .bool false)] (.v 10 (show (.bool (decide ((n : Int) < 0)) : Value) = .bool false from (congrArg Value.bool (decide_eq_false ω))) <| .n) (fun act4 f3 => ?_)
 clear f1
 refine At.dn ?_
 refine cond_F f3 rfl ?_
 refine wp_skip ?_
 refine t_n ?_
 refine sqs ?_
 refine At.rk f3 5 [(17, .int .u64 (n)), (15, .int .u64 (1))] (.v 14 (show (.int .i64 (((la.length : Nat) : Int)) : Value) = .int .i64 (1) from (congrArg (Value.int .i64) ω)) <| .v 15 (show (.int .u64 (IntKind.u64.wrap (1)) : Value) = .int .u64 (1) from (wu64 ω ω)) <| .v 17 (show (.int .u64 (IntKind.u64.wrap (n)) : Value) = .int .u64 (n) from (wu64 ω ω)) <| .n) (fun act6 f5 => ?_)
 clear f3
 refine At.cl f5 (some 18) (mul_any (n := n) ω ω) ?_
 rintro e_ w7 ⟨rfl, he⟩
 refine ⟨_, rfl, _, rfl, fun act8 f9 => ?_⟩
 clear f5; have aK := gr_ext he; have := aK.size; replace e0 := e0.gn aK; have aD := ra.gn aK; clear ra; clear aK he
 refine At.rk f9 5 [(6, .int .u64 (n)), (5, .int .u64 (0))] .n (fun bN aQ => ?_)
 clear f9
 refine At.dn ?_
 refine wp_seq ?_
 refine sqs ?_
 refine At.rk aQ 6 [(26, .bool false)] (.v 22 (show (.bool (decide ((0 : Int) > 0)) : Value) = .bool false from κ) <| .v 25 (show (.bool (decide ((n : Int) > 9223372036854775807)) : Value) = .bool false from (congrArg Value.bool (decide_eq_false ω))) <| .n) (fun bO aO => ?_)
 clear aQ
 refine At.dn ?_
 refine cond_F aO rfl ?_
 refine wp_skip ?_
 refine t_n ?_
 refine sqs ?_
 refine At.rk aO 2 [(29, .int .i64 (n))] (.w 29 n <| .n) (fun bP aR => ?_)
 clear aO
 refine At.act aR (makeR (k1 := .i64) (k2 := .i64) (α := Int) (e := 3) (bytes := 8) (t := 22) (d := 30) (n := n) (cap := n) (0) κ rfl κ ω ω ω ω) ?_
 rintro d_ v_ bQ ⟨rfl, rfl, aL, aF⟩
 refine ⟨_, rfl, fun bR aS => ?_⟩
 clear aR; replace aF := aF (Sx (w7.heap.size) []) (Nat.le_refl _); have := aL.size; replace e0 := e0.gn aL; replace aD := aD.gn aL; clear aL; have : (List.replicate (n : Int).toNat (0 : Int)).length = (n : Int).toNat := List.length_replicate
 refine At.rk aS 1 [(7, .slice (some ⟨w7.heap.size, 0, none⟩) ((List.replicate (n : Int).toNat (0 : Int)).length) ((n : Int).toNat))] .n (fun bS aT => ?_)
 clear aS
 refine At.dn ?_
 refine sqs ?_
 refine At.rk aT 2 [(32, .slice Aa la.length ca), (31, .slice (some ⟨w7.heap.size, 0, none⟩) ((List.replicate (n : Int).toNat (0 : Int)).length) ((n : Int).toNat))] .n (fun bT aU => ?_)
 clear aT
 refine At.act aU (copyRd (t := 22) (d := 33) (n := (List.replicate (n : Int).toNat (0 : Int)).length) (m := la.length) (cc := ca) (xs := List.replicate (n : Int).toNat (0 : Int)) (ys := la) (bytes := 8) κ κ aF (aD.wide (Nat.zero_le _) ω) (by first | rfl | omega | (simp; done) | (simp; omega)) (by first | rfl | omega | (simp; done) | (simp; omega))) ?_
 rintro d_ v_ bU ⟨rfl, rfl, aM, aV⟩
 refine ⟨_, rfl, fun bV aW => ?_⟩
 clear aU
 have bW : (la.take (min la.length (List.replicate (n : Int).toNat (0 : Int)).length) ++ (List.replicate (n : Int).toNat (0 : Int)).drop (min la.length (List.replicate (n : Int).toNat (0 : Int)).length)).length = (List.replicate (n : Int).toNat (0 : Int) : List Int).length := by simp only [List.length_append, List.length_take, List.length_drop]; omega
 have := aM.size; replace e0 := e0.gr aM (fun k hk => by have := aF.ge k hk; omega); replace aD := aD.gr aM (fun k hk => by have := aF.ge k hk; omega); clear aF aM
 refine At.rk aW 1 [(8, .int .i64 ((((min la.length (List.replicate (n : Int).toNat (0 : Int)).length) : Nat) : Int)))] .n (fun bX aX => ?_)
 clear aW
 refine At.dn ?_
 refine wp_seq ?_
 refine wp_block ?_
 have aY := aX.as 7 (.slice (some ⟨w7.heap.size, 0, none⟩) ((List.replicate (n : Int).toNat (0 : Int)).length) ((n : Int).toNat)) (.slice (some ⟨w7.heap.size, 0, none⟩) ((la.take (min la.length (List.replicate (n : Int).toNat (0 : Int)).length) ++ (List.replicate (n : Int).toNat (0 : Int)).drop (min la.length (List.replicate (n : Int).toNat (0 : Int)).length) : List Int).length) ((n : Int).toNat)) rfl (slice_len (by first | rfl | omega | (simp; done) | (simp; omega)))
 clear aX
 refine loop_g (fun (m_ : Nat) a_ w_ => ∃ (k : Int) (xs : List Int) (aB : Option Addr) (aA : Nat), m_ = (n - k).toNat ∧ (Frm 48 a_ [(8, .int .i64 (k)), (7, .slice aB xs.length aA), (4, .slice none 0 0)]) ∧ (Ext w w_) ∧ (RdI w_ 0 w.heap.size Aa la) ∧ (OwnR w_ (Sx (w7.heap.size) []) aB aA 3 (xs : List Int)) ∧ (0 ≤ k) ∧ (k ≤ n) ∧ (RepT (gI la 0) n xs k) ∧ (n = 0 ∨ 1 ≤ k) ∧ (w7.heap.size ≤ w_.heap.size)) _ ⟨(((min la.length (List.replicate (n : Int).toNat (0 : Int)).length) : Nat) : Int), (la.take (min la.length (List.replicate (n : Int).toNat (0 : Int)).length) ++ (List.replicate (n : Int).toNat (0 : Int)).drop (min la.length (List.replicate (n : Int).toNat (0 : Int)).length) : List Int), some ⟨w7.heap.size, 0, none⟩, (n : Int).toNat, rfl, aY.sb, e0, aD, aV, ω, ω, (rep_0 hla1 h0 rfl), ω, ω⟩ ?_
 clear aY; clear aD; clear aV; clear e0
 intro m_ bY bJ ⟨k, xs, aB, aA, hm49, aZ, aE, aH, aC, i53, i54, hrp, i55, i56⟩
 have := aE.size; have hxl := rep_len hrp ω ω
 refine wp_seq ?_
 refine sqs ?_
 refine At.rk aZ 4 [(37, .bool (decide ((k : Int) < ((xs.length : Nat) : Int))))] .n (fun bZ aI => ?_)
 clear aZ
 refine At.dn ?_
 refine cond_S aI (t := decide ((k : Int) < ((xs.length : Nat) : Int))) rfl (fun aP => ?_) (fun aP => ?_)
 ·have cA := of_decide_eq_true aP
  refine wp_skip ?_
  refine t_n ?_
  refine wp_block ?_
  have := aC.cap
  obtain ⟨bA, bB⟩ : ∃ c : List (Addr × Value), c = [] := ⟨_, rfl⟩
  have bC : HoldsC bA bJ := by rw [bB]; exact trivial
  refine AtH.start bA 10 _ κ rfl rfl (fun cB bD => ?_)
  have aG := gr_drew bD; have bE := bC.gr aG; have := aG.size; replace aE := aE.gn aG; replace aH := aH.gn aG; replace aC := aC.gn aG; clear aG bD bC
  refine AtH.rk bE aI [0, 1, 2, 3, 4, 5, 6] 3 [(44, .slice aB ((k : Int).toNat) aA), (41, .slice (if aA = (k : Int).toNat then aB else Option.map (fun a_ : Addr => a_.add ((k : Int).toNat * 1)) (aB)) (xs.length - (k : Int).toNat) (aA - (k : Int).toNat)), (38, .int .i64 (k))] (.p (show 0 ≤ (k : Int) from ω) <| .p (show (k : Int) ≤ ((xs.length : Nat) : Int) from ω) <| .p (show 0 ≤ (k : Int) from ω) <| .p (show (k : Int) ≤ (aA : Nat) from ω) <| .n) (fun cC bF => ?_)
  clear aI
  refine AtH.all [7] 2 κ (by simp) ⟨?_, trivial⟩
  refine OneH.act bF _ rfl (copySelf (t := 22) (d := 45) (n := (xs).length) (q := (k : Int).toNat) (cc := aA) (xs := xs) (bytes := 8) κ κ aC rfl ω) ?_
  rintro d_ v_ cD ⟨rfl, rfl, aJ, bK⟩
  have aN := bE.grO aJ (by rw [bB]; exact trivial)
  refine ⟨_, rfl, fun cE bG => ⟨aN, ?_⟩⟩
  clear bF
  have cF : ((xs).take (k : Int).toNat ++ (xs).take (min (k : Int).toNat ((xs).length - (k : Int).toNat)) ++ (xs).drop ((k : Int).toNat + (min (k : Int).toNat ((xs).length - (k : Int).toNat)))).length = (xs : List Int).length := by simp only [List.length_append, List.length_take, List.length_drop]; omega
  have := aJ.size; replace aE := aE.gr aJ (fun k hk => by have := aC.ge k hk; omega); replace aH := aH.gr aJ (fun k hk => by have := aC.ge k hk; omega); clear aC aJ
  refine AtH.rk aN bG [8] 1 [(46, .int .i64 (k + (((min (k : Int).toNat ((xs).length - (k : Int).toNat)) : Nat) : Int)))] (.w 46 (k + (((min (k : Int).toNat ((xs).length - (k : Int).toNat)) : Nat) : Int)) <| .n) (fun cG bH => ?_)
  clear bG
  refine AtH.rk aN bH [9] 0 [(8, .int .i64 (k + (((min (k : Int).toNat ((xs).length - (k : Int).toNat)) : Nat) : Int)))] .n (fun cH bI => ?_)
  clear bH
  refine AtH.done κ ?_
  clear aN
  refine b_n ?_
  refine t_n ?_
  have bL := bI.as 7 (.slice aB xs.length aA) (.slice aB (((xs).take (k : Int).toNat ++ (xs).take (min (k : Int).toNat ((xs).length - (k : Int).toNat)) ++ (xs).drop ((k : Int).toNat + (min (k : Int).toNat ((xs).length - (k : Int).toNat))) : List Int).length) aA) rfl (slice_len (by first | rfl | omega | (simp; done) | (simp; omega)))
  clear bI
  exact ⟨_, ω, k + (((min (k : Int).toNat ((xs).length - (k : Int).toNat)) : Nat) : Int), ((xs).take (k : Int).toNat ++ (xs).take (min (k : Int).toNat ((xs).length - (k : Int).toNat)) ++ (xs).drop ((k : Int).toNat + (min (k : Int).toNat ((xs).length - (k : Int).toNat))) : List Int), aB, aA, rfl, bL.sb, aE, aH, bK, ω, ω, (rep_next hrp ω ω), ω, ω⟩
 have cI := of_decide_eq_false aP
 refine wp_exit ?_
 refine t_e ?_
 clear hm49
 refine t_e ?_
 refine b_e ?_
 refine t_n ?_
 refine sqs ?_
 refine At.rk aI 2 [(4, .slice aB xs.length aA)] .n (fun cJ bM => ?_)
 clear aI
 refine At.dn ?_
 refine wp_ret ?_
 refine ret_ bM [] [.slice aB xs.length aA] [] κ trivial ?_
 have hq_ : (xs : List Int) = List.replicate n.toNat (gI la 0) := rep_end hrp ω ω ω
 exact ⟨aB, aA, ret_eq (slice_len (by first | (rw [← hq_]; done) | (rw [← hq_]; simp) | (rw [← hq_]; omega))), aE, (OwnR.as (aC.imp (fun g _ hs => by have := Sx_base hs; show w.heap.size ≤ g; omega)) hq_)⟩
end Go.Proofs.YtplpgfcjjnaigaaDoor
namespace Go.Proofs.YtplpgfcjjnaigaaDoor
open Go Go.RowKit
attribute [local irreducible] ofZ fromW wordsD ofD ofW lsD lenW lenN fullW withW lessW hasW hasD inW inD leastD putD onI tzI orS andS minusS orD andD minusD fullD emptyD
set_option maxHeartbeats 4000000 in
theorem solve_any {Ag0 Ag1 Ag2 : Option Addr} {cg0 cg1 cg2 : Nat} {g : GameL} {w : World} (rg : RdG w 0 w.heap.size Ag0 Ag1 Ag2 cg0 cg1 cg2 g) (rT : RdT w 0 w.heap.size) :
    Calls Tryd.prog 16 #[.agg #[.slice Ag0 g.ow.length cg0, .slice Ag1 g.pr.length cg1, .slice Ag2 g.mv.length cg2]] w fun e w' => ∃ A0 c0 A1 c1 A2 c2 A3 c3 l0 l1 m0 m1 d, e = .returned (.tuple #[.agg #[.slice A0 l0.length c0, .slice A1 l1.length c1, .slice A2 m0.length c2, .slice A3 m1.length c3], .int .i64 d]) ∧ Ext w w' ∧ OwnR w' (Sx w.heap.size [obk A1, obk A2, obk A3]) A0 c0 3 (l0 : List Int) ∧ OwnR w' (Sx w.heap.size [obk A0, obk A2, obk A3]) A1 c1 3 (l1 : List Int) ∧ OwnR w' (Sx w.heap.size [obk A0, obk A1, obk A3]) A2 c2 3 (m0 : List Int) ∧ OwnR w' (Sx w.heap.size [obk A0, obk A1, obk A2]) A3 c3 3 (m1 : List Int) ∧ SolveT g l0 l1 m0 m1 d := by
 have hlg0 := rg.ow.len; have hlg1 := rg.pr.len; have hlg2 := rg.mv.len; have hkg0 := rg.k0; have hkg1 := rg.k1; have hkg2 := rg.k2
 refine enter_ (args := [.agg #[.slice Ag0 g.ow.length cg0, .slice Ag1 g.pr.length cg1, .slice Ag2 g.mv.length cg2]]) Tryd.func16 rfl Tryd.ntmps16 (Nat.le_of_ble_eq_true rfl) (fun act0 f0 => ?_)
 have e0 : Ext w w := Ext.refl w
 refine sqs ?_
 refine At.bx f0 1 [.slice Ag0 g.ow.length cg0, .slice Ag1 g.pr.length cg1, .slice Ag2 g.mv.length cg2] 25 (fun w1 g5 bx6 act4 f3 => ?_)
 clear f0; have := g5.size; replace e0 := e0.gn g5; have r9 := rg.gn g5; clear rg; have aD := rT.gn g5; clear rT; have := bx6.lt; clear g5
 refine At.bx f3 2 [.slice none 0 0, .slice none 0 0, .slice none 0 0, .slice none 0 0] 32 (fun mV eP aF mW hA => ?_)
 clear f3; have := eP.size; replace e0 := e0.gn eP; replace r9 := r9.gn eP; replace aD := aD.gn eP; replace bx6 := bx6.gn eP; have := aF.lt; clear eP
 refine At.rk hA 1 [(3, .int .i64 (0))] .n (fun mX hB => ?_)
 clear hA
 refine At.dn ?_
 refine wp_seq ?_
 refine sqs ?_
 refine At.rk hB 1 [(17, .agg #[.slice Ag0 g.ow.length cg0, .slice Ag1 g.pr.length cg1, .slice Ag2 g.mv.length cg2])] (.l (bx6.cell (i := 0) rfl) <| .l (bx6.cell (i := 1) rfl) <| .l (bx6.cell (i := 2) rfl) <| .n) (fun mY hC => ?_)
 clear hB
 refine At.cl hC (some 18) (args := #[.agg #[.slice Ag0 g.ow.length cg0, .slice Ag1 g.pr.length cg1, .slice Ag2 g.mv.length cg2]]) (right_any (r9.wide (Nat.zero_le _) ω)) ?_
 rintro e_ aB ⟨rfl, he⟩
 refine ⟨_, rfl, _, rfl, fun mZ hD => ?_⟩
 clear hC; have eG := gr_ext he; have := eG.size; replace e0 := e0.gn eG; replace r9 := r9.gn eG; replace aD := aD.gn eG; replace bx6 := bx6.gn eG; replace aF := aF.gn eG; clear eG he
 refine At.rk hD 5 [(5, .int .i64 ((rightP g).2))] .n (fun nA hE => ?_)
 clear hD
 refine At.dn ?_
 refine sqs ?_
 refine At.rk hE 2 [(22, .bool (((rightP g).2 : Int) != 0))] .n (fun nB fB => ?_)
 clear hE
 refine At.dn ?_
 refine cond_S fB (t := ((rightP g).2 : Int) != 0) rfl (fun fW => ?_) (fun fW => ?_)
 ·have nC := bne_iff_ne.1 fW
  refine sqs ?_
  refine At.rk fB 1 [(23, .agg #[.slice none 0 0, .slice none 0 0, .slice none 0 0, .slice none 0 0])] .n (fun nD hF => ?_)
  clear fB
  refine At.store hF (t := 32) (b := w1.heap.size) (off := 0) (v := .agg #[.slice none 0 0, .slice none 0 0, .slice none 0 0, .slice none 0 0]) κ aF κ (fun nE fC eQ eR hH => ?_)
  clear hF; replace eR : Bx fC (w1.heap.size) [.slice none 0 0, .slice none 0 0, .slice none 0 0, .slice none 0 0] 32 := eR; have := eQ.size; replace e0 := e0.gr eQ (fun k h => by injection h; omega); replace r9 := r9.gb eQ ω; replace aD := aD.gb eQ ω; replace bx6 := bx6.gb eQ ω; clear aF eQ
  refine At.rk hH 1 [(3, .int .i64 (0))] .n (fun nF lL => ?_)
  clear hH
  refine At.dn ?_
  clear bx6
  refine wp_ret ?_
  refine t_r ?_
  refine ret_ lL [[.slice none 0 0, .slice none 0 0, .slice none 0 0, .slice none 0 0]] [.agg #[.slice none 0 0, .slice none 0 0, .slice none 0 0, .slice none 0 0], .int .i64 (0)] [(fC.cell? ⟨w1.heap.size, 0, none⟩ = some (.slice none 0 0)), (fC.cell? ⟨w1.heap.size, 1, none⟩ = some (.slice none 0 0)), (fC.cell? ⟨w1.heap.size, 2, none⟩ = some (.slice none 0 0)), (fC.cell? ⟨w1.heap.size, 3, none⟩ = some (.slice none 0 0))] κ ⟨(eR.cell (i := 0) rfl), (eR.cell (i := 1) rfl), (eR.cell (i := 2) rfl), (eR.cell (i := 3) rfl), trivial⟩ ?_
  exact ⟨none, 0, none, 0, none, 0, none, 0, [], [], [], [], 0, rfl, e0, OwnR.nil, OwnR.nil, OwnR.nil, OwnR.nil, .inl ⟨isR_no ω, rfl, rfl, rfl, rfl, rfl⟩⟩
 have nG := bne_eq_false_iff_eq.1 fW
 refine wp_skip ?_
 refine t_n ?_
 refine wp_seq ?_
 have hR : isR g = true := right_of2 ω; have hG := isR_ok hR; have hn1 := hG.n1; have hn0 := hG.n0; have hpl := hG.pl; have hml := hG.ml
 have hrl_ : (List.replicate (((g.ow.length : Nat) : Int) : Int).toNat (gI ([-1] : List Int) 0)).length = g.ow.length := by rw [List.length_replicate]; omega
 refine At.start ?_
 refine At.rk fB 3 [(26, .int .i64 (((g.ow.length : Nat) : Int)))] (.l (bx6.cell (i := 0) rfl) <| .n) (fun nH hI => ?_)
 clear fB
 refine At.bx hI 6 [.int .i64 (0)] 3 (fun aA eH fD nI hJ => ?_)
 clear hI; have := eH.size; replace e0 := e0.gn eH; replace r9 := r9.gn eH; replace aD := aD.gn eH; replace bx6 := bx6.gn eH; replace aF := aF.gn eH; have := fD.lt; clear eH
 refine At.bx hJ 7 [.int .i64 (0)] 3 (fun nJ dZ fE nK hK => ?_)
 clear hJ; have := dZ.size; replace e0 := e0.gn dZ; replace r9 := r9.gn dZ; replace aD := aD.gn dZ; replace bx6 := bx6.gn dZ; replace aF := aF.gn dZ; replace fD := fD.gn dZ; have := fE.lt; clear dZ
 refine At.store hK (t := 3) (b := aB.heap.size) (off := 0) (v := .int .i64 (((g.ow.length : Nat) : Int))) κ fD κ (fun nL lM eA aG hL => ?_)
 clear hK; replace aG : Bx lM (aB.heap.size) [.int .i64 (((g.ow.length : Nat) : Int))] 3 := aG; have := eA.size; replace e0 := e0.gr eA (fun k h => by injection h; omega); replace r9 := r9.gb eA ω; replace aD := aD.gb eA ω; replace bx6 := bx6.gb eA ω; replace aF := aF.gb eA ω; replace fE := fE.gb eA ω; clear fD eA
 refine At.store hL (t := 3) (b := aA.heap.size) (off := 0) (v := .int .i64 (0)) κ fE κ (fun nM aC eB aO hM => ?_)
 clear hL; replace aO : Bx aC (aA.heap.size) [.int .i64 (0)] 3 := aO; have := eB.size; replace e0 := e0.gr eB (fun k h => by injection h; omega); replace r9 := r9.gb eB ω; replace aD := aD.gb eB ω; replace bx6 := bx6.gb eB ω; replace aF := aF.gb eB ω; replace aG := aG.gb eB ω; clear fE eB
 refine At.dn ?_
 refine sqs ?_
 refine At.bx hM 8 [.slice none 0 0, .slice none 0 0] 29 (fun fN dU eI nN hN => ?_)
 clear hM; have := dU.size; replace e0 := e0.gn dU; replace r9 := r9.gn dU; replace aD := aD.gn dU; replace bx6 := bx6.gn dU; replace aF := aF.gn dU; replace aG := aG.gn dU; replace aO := aO.gn dU; have := eI.lt; clear dU
 refine At.dn ?_
 refine wp_seq ?_
 refine sqs ?_
 refine At.rk hN 1 [(27, .int .i64 (0))] .n (fun nO hO => ?_)
 clear hN
 refine At.dn ?_
 refine wp_block ?_
 have hP := hO.sb (r := [(27, .int .i64 (0)), (8, pt aC.heap.size 0), (7, pt aA.heap.size 0), (6, pt aB.heap.size 0), (3, .int .i64 (0)), (2, pt w1.heap.size 0), (1, pt w.heap.size 0)])
 clear hO
 refine loop_u0 ?_
 refine loop_u ?_
 refine sqs ?_
 refine At.rk hP 1 [(28, .bool true)] (.v 28 (show (.bool (decide ((0 : Int) < 2)) : Value) = .bool true from κ) <| .n) (fun nP fX => ?_)
 clear hP
 refine At.dn ?_
 refine wp_seq ?_
 refine cond_T fX rfl ?_
 refine wp_skip ?_
 refine t_n ?_
 refine wp_seq ?_
 refine wp_block ?_
 refine sqs ?_
 refine At.rk fX 2 [(9, .int .i64 (0))] .n (fun nQ hQ => ?_)
 clear fX
 refine At.dn ?_
 refine At.start ?_
 refine At.rk hQ 1 [(30, .int .i64 (0))] .n (fun nR hS => ?_)
 clear hQ
 refine At.seq hS 1 [[]] [(31, .slice (some ⟨fN.heap.size, 0, none⟩) 1 1)] (fN.alloc (.cells #[.int .i64 (-1)] 3 (0, 0))) [] κ trivial (fun nS cW fY hT => ?_)
 clear hS; have dS := gr_alloc fY; have := dS.size; replace e0 := e0.gn dS; replace r9 := r9.gn dS; replace aD := aD.gn dS; replace bx6 := bx6.gn dS; replace aF := aF.gn dS; replace aG := aG.gn dS; replace aO := aO.gn dS; replace eI := eI.gn dS; have eJ : Bx cW (fN.heap.size) [.int .i64 (-1)] 3 := Bx.new fY; have := eJ.lt; clear dS fY
 refine At.rk hT 1 [(32, .int .i64 (((g.ow.length : Nat) : Int)))] (.l (aG.cell (i := 0) rfl) <| .n) (fun nT hU => ?_)
 clear hT
 refine At.cl hU (some 33) (args := #[.slice (some ⟨fN.heap.size, 0, none⟩) 1 1, .int .i64 (((g.ow.length : Nat) : Int))]) (repeat_any (la := ([-1] : List Int)) (n := ((g.ow.length : Nat) : Int)) (Bx.rdI (l := ([-1] : List Int)) eJ rfl (by first | decide | exact Nat.le_of_ble_eq_true rfl)) rfl ω ω) ?_
 rintro e_ nU ⟨aJ, aN, rfl, he, aI⟩
 have : (List.replicate (((g.ow.length : Nat) : Int) : Int).toNat (gI ([-1] : List Int) 0)).length = (((g.ow.length : Nat) : Int) : Int).toNat := List.length_replicate
 refine ⟨_, rfl, _, rfl, fun nV hV => ?_⟩
 clear hU; have dH := gr_ext he; have := dH.size; replace e0 := e0.gn dH; replace r9 := r9.gn dH; replace aD := aD.gn dH; replace bx6 := bx6.gn dH; replace aF := aF.gn dH; replace aG := aG.gn dH; replace aO := aO.gn dH; replace eI := eI.gn dH; replace eJ := eJ.gn dH; clear dH he
 refine At.rk hV 1 [(34, pt aC.heap.size 0)] (.b 0 2 <| .n) (fun nW hW => ?_)
 clear hV
 refine At.store hW (t := 22) (b := aC.heap.size) (off := 0) (v := .slice aJ ((List.replicate (((g.ow.length : Nat) : Int) : Int).toNat (gI ([-1] : List Int) 0)).length) aN) κ eI κ (fun nX eS dI eC hX => ?_)
 clear hW
 replace eC : Bx eS (aC.heap.size) [.slice aJ ((List.replicate (((g.ow.length : Nat) : Int) : Int).toNat (gI ([-1] : List Int) 0)).length) aN, .slice none 0 0] 29 := eC
 have := dI.size; replace e0 := e0.gr dI (fun k h => by injection h; omega); replace r9 := r9.gb dI ω; replace aD := aD.gb dI ω; replace bx6 := bx6.gb dI ω; replace aF := aF.gb dI ω; replace aG := aG.gb dI ω; replace aO := aO.gb dI ω; replace eJ := eJ.gb dI ω; replace aI := aI.gr dI (fun k hk e => by have := Sx_base hk; injection e; omega); clear eI dI
 refine At.done rfl ?_
 refine b_n ?_
 refine t_n ?_
 clear eJ
 refine At.start ?_
 refine At.rk hX 2 [(27, .int .i64 (1))] (.v 35 (show (.int .i64 (IntKind.i64.wrap (0 + 1)) : Value) = .int .i64 (1) from κ) <| .n) (fun nY hY => ?_)
 clear hX
 refine At.dn ?_
 have hZ := hY.sb (r := [(27, .int .i64 (1)), (8, pt aC.heap.size 0), (7, pt aA.heap.size 0), (6, pt aB.heap.size 0), (3, .int .i64 (0)), (2, pt w1.heap.size 0), (1, pt w.heap.size 0)])
 clear hY
 refine loop_u ?_
 refine sqs ?_
 refine At.rk hZ 1 [(28, .bool true)] (.v 28 (show (.bool (decide ((1 : Int) < 2)) : Value) = .bool true from κ) <| .n) (fun nZ fZ => ?_)
 clear hZ
 refine At.dn ?_
 refine wp_seq ?_
 refine cond_T fZ rfl ?_
 refine wp_skip ?_
 refine t_n ?_
 refine wp_seq ?_
 refine wp_block ?_
 refine sqs ?_
 refine At.rk fZ 2 [(9, .int .i64 (1))] .n (fun oA iA => ?_)
 clear fZ
 refine At.dn ?_
 refine At.start ?_
 refine At.rk iA 1 [(30, .int .i64 (1))] .n (fun oB iB => ?_)
 clear iA
 refine At.seq iB 1 [[]] [(31, .slice (some ⟨eS.heap.size, 0, none⟩) 1 1)] (eS.alloc (.cells #[.int .i64 (-1)] 3 (0, 0))) [] κ trivial (fun oC cX gA iC => ?_)
 clear iB; have dJ := gr_alloc gA; have := dJ.size; replace e0 := e0.gn dJ; replace r9 := r9.gn dJ; replace aD := aD.gn dJ; replace bx6 := bx6.gn dJ; replace aF := aF.gn dJ; replace aG := aG.gn dJ; replace aO := aO.gn dJ; replace eC := eC.gn dJ; replace aI := aI.grN dJ; have eK : Bx cX (eS.heap.size) [.int .i64 (-1)] 3 := Bx.new gA; have := eK.lt; clear dJ gA
 refine At.rk iC 1 [(32, .int .i64 (((g.ow.length : Nat) : Int)))] (.l (aG.cell (i := 0) rfl) <| .n) (fun oD iD => ?_)
 clear iC
 refine At.cl iD (some 33) (args := #[.slice (some ⟨eS.heap.size, 0, none⟩) 1 1, .int .i64 (((g.ow.length : Nat) : Int))]) (repeat_any (la := ([-1] : List Int)) (n := ((g.ow.length : Nat) : Int)) (Bx.rdI (l := ([-1] : List Int)) eK rfl (by first | decide | exact Nat.le_of_ble_eq_true rfl)) rfl ω ω) ?_
 rintro e_ iE ⟨aE, aK, rfl, he, aM⟩
 have : (List.replicate (((g.ow.length : Nat) : Int) : Int).toNat (gI ([-1] : List Int) 0)).length = (((g.ow.length : Nat) : Int) : Int).toNat := List.length_replicate
 refine ⟨_, rfl, _, rfl, fun oE iF => ?_⟩
 clear iD; have cY := gr_ext he; have iG := aI.lt; have := cY.size; replace e0 := e0.gn cY; replace r9 := r9.gn cY; replace aD := aD.gn cY; replace bx6 := bx6.gn cY; replace aF := aF.gn cY; replace aG := aG.gn cY; replace aO := aO.gn cY; replace eC := eC.gn cY
 replace aI : OwnR iE (Sx (cW.heap.size) [obk (aE), some (eS.heap.size)]) aJ aN 3 (List.replicate (((g.ow.length : Nat) : Int) : Int).toNat (gI ([-1] : List Int) 0) : List Int) := aI.grA cY (fun _ _ h => by cases h) (fun k hk hs => ⟨(fun e => by have := aM.ge _ e; omega), hs.1, hs.2⟩)
 replace eK := eK.gn cY
 replace aM : OwnR iE (Sx (cX.heap.size) [obk (aJ)]) aE aK 3 (List.replicate (((g.ow.length : Nat) : Int) : Int).toNat (gI ([-1] : List Int) 0) : List Int) := aM.imp (fun g _ hs => ⟨(fun e => by have := iG _ e; have := Sx_base hs; omega), hs⟩)
 clear iG; clear cY he
 refine At.rk iF 1 [(34, pt aC.heap.size 1)] (.b 1 2 <| .n) (fun oF iH => ?_)
 clear iF
 refine At.store iH (t := 22) (b := aC.heap.size) (off := 1) (v := .slice aE ((List.replicate (((g.ow.length : Nat) : Int) : Int).toNat (gI ([-1] : List Int) 0)).length) aK) κ eC κ (fun oG aL cZ aP iI => ?_)
 clear iH
 replace aP : Bx aL (aC.heap.size) [.slice aJ ((List.replicate (((g.ow.length : Nat) : Int) : Int).toNat (gI ([-1] : List Int) 0)).length) aN, .slice aE ((List.replicate (((g.ow.length : Nat) : Int) : Int).toNat (gI ([-1] : List Int) 0)).length) aK] 29 := aP
 have := cZ.size; replace e0 := e0.gr cZ (fun k h => by injection h; omega); replace r9 := r9.gb cZ ω; replace aD := aD.gb cZ ω; replace bx6 := bx6.gb cZ ω; replace aF := aF.gb cZ ω; replace aG := aG.gb cZ ω; replace aO := aO.gb cZ ω; replace aI := aI.gr cZ (fun k hk e => by have := Sx_base hk; injection e; omega); replace eK := eK.gb cZ ω
 replace aM := aM.gr cZ (fun k hk e => by have := Sx_base hk; injection e; omega); clear eC cZ
 refine At.done rfl ?_
 refine b_n ?_
 refine t_n ?_
 clear eK
 refine At.start ?_
 refine At.rk iI 2 [(27, .int .i64 (2))] (.v 35 (show (.int .i64 (IntKind.i64.wrap (1 + 1)) : Value) = .int .i64 (2) from κ) <| .n) (fun oH iJ => ?_)
 clear iI
 refine At.dn ?_
 have iK := iJ.sb (r := [(27, .int .i64 (2)), (8, pt aC.heap.size 0), (7, pt aA.heap.size 0), (6, pt aB.heap.size 0), (3, .int .i64 (0)), (2, pt w1.heap.size 0), (1, pt w.heap.size 0)])
 clear iJ
 refine loop_u ?_
 refine sqs ?_
 refine At.rk iK 1 [(28, .bool false)] (.v 28 (show (.bool (decide ((2 : Int) < 2)) : Value) = .bool false from κ) <| .n) (fun oI gB => ?_)
 clear iK
 refine At.dn ?_
 refine wp_seq ?_
 refine cond_F gB rfl ?_
 refine wp_exit ?_
 refine t_e ?_
 refine t_e ?_
 refine b_e ?_
 refine t_n ?_
 refine sqs ?_
 refine At.rk gB 1 [(36, .func (.func 37) #[] #[pt aC.heap.size 0])] .n (fun oJ iL => ?_)
 clear gB
 refine At.bx iL 10 [.nilFunc] 64 (fun oK dA gC oL iM => ?_)
 clear iL; have := dA.size; replace e0 := e0.gn dA; replace r9 := r9.gn dA; replace aD := aD.gn dA; replace bx6 := bx6.gn dA; replace aF := aF.gn dA; replace aG := aG.gn dA; replace aO := aO.gn dA; replace aP := aP.gn dA; replace aI := aI.grN dA; replace aM := aM.grN dA; have := gC.lt; clear dA
 refine At.store iM (t := 64) (b := aL.heap.size) (off := 0) (v := .func (.func 37) #[] #[pt aC.heap.size 0]) κ gC κ (fun oM aH dB aQ iN => ?_)
 clear iM; replace aQ : Bx aH (aL.heap.size) [.func (.func 37) #[] #[pt aC.heap.size 0]] 64 := aQ; have := dB.size; replace e0 := e0.gr dB (fun k h => by injection h; omega); replace r9 := r9.gb dB ω; replace aD := aD.gb dB ω; replace bx6 := bx6.gb dB ω; replace aF := aF.gb dB ω; replace aG := aG.gb dB ω; replace aO := aO.gb dB ω; replace aP := aP.gb dB ω; replace aI := aI.gr dB (fun k hk => hk.1)
 replace aM := aM.gr dB (fun k hk => hk.1); clear gC dB
 refine At.dn ?_
 refine sqs ?_
 refine At.bx iN 11 [.nilFunc] 65 (fun oN cO gD oO iO => ?_)
 clear iN; have := cO.size; replace e0 := e0.gn cO; replace r9 := r9.gn cO; replace aD := aD.gn cO; replace bx6 := bx6.gn cO; replace aF := aF.gn cO; replace aG := aG.gn cO; replace aO := aO.gn cO; replace aP := aP.gn cO; replace aI := aI.grN cO; replace aM := aM.grN cO; replace aQ := aQ.gn cO; have := gD.lt; clear cO
 refine At.dn ?_
 refine sqs ?_
 refine At.rk iO 1 [(37, .func (.func 38) #[] #[pt aA.heap.size 0, pt w.heap.size 0, pt aH.heap.size 0, pt aL.heap.size 0, pt aC.heap.size 0, pt aB.heap.size 0])] .n (fun oP iP => ?_)
 clear iO
 refine At.store iP (t := 65) (b := aH.heap.size) (off := 0) (v := .func (.func 38) #[] #[pt aA.heap.size 0, pt w.heap.size 0, pt aH.heap.size 0, pt aL.heap.size 0, pt aC.heap.size 0, pt aB.heap.size 0]) κ gD κ (fun oQ fO cP aR gE => ?_)
 clear iP
 replace aR : Bx fO (aH.heap.size) [.func (.func 38) #[] #[pt aA.heap.size 0, pt w.heap.size 0, pt aH.heap.size 0, pt aL.heap.size 0, pt aC.heap.size 0, pt aB.heap.size 0]] 65 := aR
 have := cP.size; replace e0 := e0.gr cP (fun k h => by injection h; omega); replace r9 := r9.gb cP ω; replace aD := aD.gb cP ω; replace bx6 := bx6.gb cP ω; replace aF := aF.gb cP ω; replace aG := aG.gb cP ω; replace aO := aO.gb cP ω; replace aP := aP.gb cP ω; replace aI := aI.gr cP (fun k hk => hk.1); replace aM := aM.gr cP (fun k hk => hk.1); replace aQ := aQ.gb cP ω; clear gD cP
 refine At.dn ?_
 refine wp_seq (cut (fun a_ w_ => ∃ (sa : List Int) (sb : List Int) (na : List Int) (nb : List Int) (da : Int) (aX : Nat), (Frm 83 a_ [(12, pt aX 0), (8, pt aC.heap.size 0), (7, pt aA.heap.size 0), (6, pt aB.heap.size 0), (3, .int .i64 (0)), (2, pt w1.heap.size 0), (1, pt w.heap.size 0)]) ∧ (Ext w w_) ∧ (RdG w_ 0 w.heap.size Ag0 Ag1 Ag2 cg0 cg1 cg2 g) ∧ (RdT w_ 0 w.heap.size) ∧ (Bx w_ (w.heap.size) [.slice Ag0 g.ow.length cg0, .slice Ag1 g.pr.length cg1, .slice Ag2 g.mv.length cg2] 25) ∧ (Bx w_ (w1.heap.size) [.slice none 0 0, .slice none 0 0, .slice none 0 0, .slice none 0 0] 32) ∧ (Bx w_ (aB.heap.size) [.int .i64 (((g.ow.length : Nat) : Int))] 3) ∧ (Bx w_ (aA.heap.size) [.int .i64 (da)] 3) ∧ (Bx w_ (aC.heap.size) [.slice aJ ((List.replicate (((g.ow.length : Nat) : Int) : Int).toNat (gI ([-1] : List Int) 0)).length) aN, .slice aE ((List.replicate (((g.ow.length : Nat) : Int) : Int).toNat (gI ([-1] : List Int) 0)).length) aK] 29) ∧ (OwnR w_ (Sx (cW.heap.size) [some (aH.heap.size), some (aL.heap.size), obk (aE), some (aX)]) aJ aN 3 (na : List Int)) ∧ (OwnR w_ (Sx (cX.heap.size) [some (aH.heap.size), some (aL.heap.size), obk (aJ), some (aX)]) aE aK 3 (nb : List Int)) ∧ (Bx w_ (aL.heap.size) [.func (.func 37) #[] #[pt aC.heap.size 0]] 64) ∧ (Bx w_ (aH.heap.size) [.func (.func 38) #[] #[pt aA.heap.size 0, pt w.heap.size 0, pt aH.heap.size 0, pt aL.heap.size 0, pt aC.heap.size 0, pt aB.heap.size 0]] 65) ∧ (Bx w_ (aX) ((sa ++ sb : List Int).map wV) 67) ∧ (fO.heap.size ≤ aX) ∧ (fO.heap.size ≤ w_.heap.size) ∧ (PartS g (fullW ((g.ow.length : Nat) : Int)) 0 sa sb (List.replicate (((g.ow.length : Nat) : Int) : Int).toNat (gI ([-1] : List Int) 0)) (List.replicate (((g.ow.length : Nat) : Int) : Int).toNat (gI ([-1] : List Int) 0)) na nb) ∧ (1 ≤ da) ∧ (da ≤ max 0 (1 + lenW (fullW ((g.ow.length : Nat) : Int))))) ?_ ?_)
 ·obtain ⟨iQ, dV⟩ : ∃ c : List (Addr × Value), c = [(⟨aH.heap.size, 0, none⟩, (.func (.func 38) #[] #[pt aA.heap.size 0, pt w.heap.size 0, pt aH.heap.size 0, pt aL.heap.size 0, pt aC.heap.size 0, pt aB.heap.size 0])), (⟨aB.heap.size, 0, none⟩, (.int .i64 (((g.ow.length : Nat) : Int))))] := ⟨_, rfl⟩
  have iR : HoldsC iQ fO := by rw [dV]; exact ⟨(aR.cell (i := 0) rfl), (aG.cell (i := 0) rfl), trivial⟩
  refine AtH.start iQ 6 _ κ rfl rfl (fun gF iS => ?_)
  have bR := gr_drew iS; have gG := iR.gr bR; have := bR.size; replace e0 := e0.gn bR; replace r9 := r9.gn bR; replace aD := aD.gn bR; replace bx6 := bx6.gn bR; replace aF := aF.gn bR; replace aG := aG.gn bR; replace aO := aO.gn bR; replace aP := aP.gn bR; replace aI := aI.gn bR; replace aM := aM.gn bR; replace aQ := aQ.gn bR; replace aR := aR.gn bR; clear bR iS iR
  refine AtH.rk gG gE [0, 1] 4 [(39, .int .i64 (((g.ow.length : Nat) : Int))), (38, .func (.func 38) #[] #[pt aA.heap.size 0, pt w.heap.size 0, pt aH.heap.size 0, pt aL.heap.size 0, pt aC.heap.size 0, pt aB.heap.size 0])] (.l (CsC_at dV 0 rfl) <| .l (CsC_at dV 1 rfl) <| .n) (fun oR fP => ?_)
  clear gE
  refine AtH.all [2, 4] 3 κ (by simp) ⟨?_, ?_, trivial⟩
  ·refine OneH.cl fP (some 40) (full_any (n := ((g.ow.length : Nat) : Int)) ω) ?_
   rintro e_ gH ⟨rfl, he⟩
   refine ⟨_, rfl, _, rfl, fun oS fQ => ?_⟩
   clear fP; have bS := gr_ext he; have gJ := gG.gr bS; have := bS.size; replace e0 := e0.gn bS; replace r9 := r9.gn bS; replace aD := aD.gn bS; replace bx6 := bx6.gn bS; replace aF := aF.gn bS; replace aG := aG.gn bS; replace aO := aO.gn bS; replace aP := aP.gn bS; replace aI := aI.gn bS; replace aM := aM.gn bS; replace aQ := aQ.gn bS; replace aR := aR.gn bS; clear bS he
   refine ⟨gJ, ?_⟩
   refine AtH.all [3, 4] 2 κ (by simp) ⟨?_, ?_, trivial⟩
   ·have hT_ : ∀ k, DecS.T (⟨aA.heap.size, w.heap.size, aH.heap.size, aL.heap.size, aC.heap.size, aB.heap.size, aJ, aE, aN, aK, Ag0, Ag1, Ag2, cg0, cg1, cg2, w.heap.size, g⟩ : DecS) k → w.heap.size ≤ k := fun k (hk : obk (aJ) = some k ∨ obk (aE) = some k ∨ k = aA.heap.size) => hk.elim (fun h_ => by have := aI.ge k h_; omega) (fun h2_ => h2_.elim (fun h_ => by have := aM.ge k h_; omega) (fun h_ => by omega))
    have hK_ : DecK (⟨aA.heap.size, w.heap.size, aH.heap.size, aL.heap.size, aC.heap.size, aB.heap.size, aJ, aE, aN, aK, Ag0, Ag1, Ag2, cg0, cg1, cg2, w.heap.size, g⟩ : DecS) := ⟨hR, ⟨(show aA.heap.size ≠ w.heap.size by omega), (show aA.heap.size ≠ aH.heap.size by omega), (show aA.heap.size ≠ aL.heap.size by omega), (show aA.heap.size ≠ aC.heap.size by omega), (show aA.heap.size ≠ aB.heap.size by omega)⟩, (show w.heap.size ≤ aA.heap.size by omega), hT_⟩
    refine OneH.cl fQ (some 41) (part_any hK_ 257 (fullW ((g.ow.length : Nat) : Int)) (by have := (lenW_le (fullW ((g.ow.length : Nat) : Int))).2; omega) (List.replicate (((g.ow.length : Nat) : Int) : Int).toNat (gI ([-1] : List Int) 0)) (List.replicate (((g.ow.length : Nat) : Int) : Int).toNat (gI ([-1] : List Int) 0)) 0 1 _ ⟨aO, bx6, aR, aQ, (aP.as (by first | rfl | (simp only [List.cons.injEq, Value.slice.injEq, true_and, and_true, List.length_replicate]; omega))), aG, (aI.self.imp (fun g_ hg_ hs => ⟨hs.1.2.2.1, (fun e => by have := Sx_base hs.1; have e2 := Option.some.inj (show some (aA.heap.size) = some g_ from e); omega), (fun e => by have := Sx_base hs.1; have e2 := Option.some.inj (show some (w.heap.size) = some g_ from e); omega), hs.1.1, hs.1.2.1, (fun e => by have := Sx_base hs.1; have e2 := Option.some.inj (show some (aC.heap.size) = some g_ from e); omega), (fun e => by have := Sx_base hs.1; have e2 := Option.some.inj (show some (aB.heap.size) = some g_ from e); omega), .inl hs.2⟩)), (aM.self.imp (fun g_ hg_ hs => ⟨hs.1.2.2.1, (fun e => by have := Sx_base hs.1; have e2 := Option.some.inj (show some (aA.heap.size) = some g_ from e); omega), (fun e => by have := Sx_base hs.1; have e2 := Option.some.inj (show some (w.heap.size) = some g_ from e); omega), hs.1.1, hs.1.2.1, (fun e => by have := Sx_base hs.1; have e2 := Option.some.inj (show some (aC.heap.size) = some g_ from e); omega), (fun e => by have := Sx_base hs.1; have e2 := Option.some.inj (show some (aB.heap.size) = some g_ from e); omega), .inr (.inl hs.2)⟩)), r9, aD⟩ ⟨fullW_W _, live_full hR, (show _ = g.ow.length from hrl_), (show _ = g.ow.length from hrl_), by omega, by omega, by omega, by have := (lenW_le (fullW ((g.ow.length : Nat) : Int))).2; omega⟩) ?_
    rintro e_ fF ⟨sa, sb, na, nb, da, rfl, hex, hbd_, hr0_, hr1_, hpa, hd1_, hd2_, hd3_⟩
    replace hbd_ : Bx fF (aA.heap.size) [.int .i64 (da)] 3 := hbd_; replace hr0_ : OwnR fF (fun _ => True) aJ aN 3 (na : List Int) := hr0_; replace hr1_ : OwnR fF (fun _ => True) aE aK 3 (nb : List Int) := hr1_
    change Tch (DecS.T (⟨aA.heap.size, w.heap.size, aH.heap.size, aL.heap.size, aC.heap.size, aB.heap.size, aJ, aE, aN, aK, Ag0, Ag1, Ag2, cg0, cg1, cg2, w.heap.size, g⟩ : DecS)) _ _ at hex
    have hpa : PartS g (fullW ((g.ow.length : Nat) : Int)) 0 sa sb (List.replicate (((g.ow.length : Nat) : Int) : Int).toNat (gI ([-1] : List Int) 0)) (List.replicate (((g.ow.length : Nat) : Int) : Int).toNat (gI ([-1] : List Int) 0)) na nb := hpa
    have hd3_ : da ≤ max 0 (1 + lenW (fullW ((g.ow.length : Nat) : Int))) := hd3_; have hlaa_ := hpa.lp; have hlbb_ := hpa.lq; have hok_sa := hpa.okp; have hok_sb := hpa.okq; have hl4_sa := okLen hok_sa; have hl4_sb := okLen hok_sb
    refine ⟨_, rfl, _, rfl, fun oT iT => ?_⟩
    clear fQ
    have iU := gJ.tch hex (by rw [dV]; exact ⟨(show ¬ _ from by simp only [add_block]; exact (DecS.not (x := (⟨aA.heap.size, w.heap.size, aH.heap.size, aL.heap.size, aC.heap.size, aB.heap.size, aJ, aE, aN, aK, Ag0, Ag1, Ag2, cg0, cg1, cg2, w.heap.size, g⟩ : DecS)) (aI.neb (fun g hs => hs.1)) (aM.neb (fun g hs => hs.1)) (show aA.heap.size ≠ aH.heap.size by omega))), (show ¬ _ from by simp only [add_block]; exact (DecS.not (x := (⟨aA.heap.size, w.heap.size, aH.heap.size, aL.heap.size, aC.heap.size, aB.heap.size, aJ, aE, aN, aK, Ag0, Ag1, Ag2, cg0, cg1, cg2, w.heap.size, g⟩ : DecS)) (fun e => by have := aI.ge _ e; omega) (fun e => by have := aM.ge _ e; omega) (show aA.heap.size ≠ aB.heap.size by omega))), trivial⟩)
    have := hex.size; replace e0 := e0.tch hex hT_; replace r9 := r9.tch hex (fun k hk => .inr (by have := hT_ k hk; omega)); replace aD := aD.tch hex (fun k hk => .inr (by have := hT_ k hk; omega))
    replace bx6 := bx6.tch hex (DecS.not (x := (⟨aA.heap.size, w.heap.size, aH.heap.size, aL.heap.size, aC.heap.size, aB.heap.size, aJ, aE, aN, aK, Ag0, Ag1, Ag2, cg0, cg1, cg2, w.heap.size, g⟩ : DecS)) (fun e => by have := aI.ge _ e; omega) (fun e => by have := aM.ge _ e; omega) (show aA.heap.size ≠ w.heap.size by omega))
    replace aF := aF.tch hex (DecS.not (x := (⟨aA.heap.size, w.heap.size, aH.heap.size, aL.heap.size, aC.heap.size, aB.heap.size, aJ, aE, aN, aK, Ag0, Ag1, Ag2, cg0, cg1, cg2, w.heap.size, g⟩ : DecS)) (fun e => by have := aI.ge _ e; omega) (fun e => by have := aM.ge _ e; omega) (show aA.heap.size ≠ w1.heap.size by omega))
    replace aG := aG.tch hex (DecS.not (x := (⟨aA.heap.size, w.heap.size, aH.heap.size, aL.heap.size, aC.heap.size, aB.heap.size, aJ, aE, aN, aK, Ag0, Ag1, Ag2, cg0, cg1, cg2, w.heap.size, g⟩ : DecS)) (fun e => by have := aI.ge _ e; omega) (fun e => by have := aM.ge _ e; omega) (show aA.heap.size ≠ aB.heap.size by omega))
    clear aO
    replace aP := aP.tch hex (DecS.not (x := (⟨aA.heap.size, w.heap.size, aH.heap.size, aL.heap.size, aC.heap.size, aB.heap.size, aJ, aE, aN, aK, Ag0, Ag1, Ag2, cg0, cg1, cg2, w.heap.size, g⟩ : DecS)) (fun e => by have := aI.ge _ e; omega) (fun e => by have := aM.ge _ e; omega) (show aA.heap.size ≠ aC.heap.size by omega))
    have eL := OwnR.reS aI hr0_; clear aI hr0_; have eM := OwnR.reS aM hr1_; clear aM hr1_
    replace aQ := aQ.tch hex (DecS.not (x := (⟨aA.heap.size, w.heap.size, aH.heap.size, aL.heap.size, aC.heap.size, aB.heap.size, aJ, aE, aN, aK, Ag0, Ag1, Ag2, cg0, cg1, cg2, w.heap.size, g⟩ : DecS)) (eL.neb (fun g hs => hs.2.1)) (eM.neb (fun g hs => hs.2.1)) (show aA.heap.size ≠ aL.heap.size by omega))
    replace aR := aR.tch hex (DecS.not (x := (⟨aA.heap.size, w.heap.size, aH.heap.size, aL.heap.size, aC.heap.size, aB.heap.size, aJ, aE, aN, aK, Ag0, Ag1, Ag2, cg0, cg1, cg2, w.heap.size, g⟩ : DecS)) (eL.neb (fun g hs => hs.1)) (eM.neb (fun g hs => hs.1)) (show aA.heap.size ≠ aH.heap.size by omega))
    clear hex
    refine ⟨iU, ?_⟩
    refine AtH.all [4] 1 κ (by simp) ⟨?_, trivial⟩
    refine OneH.bx iT iU 12 ((([0, 0, 0, 0]) ++ ([0, 0, 0, 0]) : List Int).map wV) 67 (fun oU cB gK lN oV iV => ?_)
    clear iT; have := cB.size; replace e0 := e0.gn cB; replace r9 := r9.gn cB; replace aD := aD.gn cB; replace bx6 := bx6.gn cB; replace aF := aF.gn cB; replace aG := aG.gn cB; have gL := hbd_.gn cB; clear hbd_; replace aP := aP.gn cB; replace eL := eL.grN cB; replace eM := eM.grN cB; replace aQ := aQ.gn cB; replace aR := aR.gn cB; have := gK.lt; clear cB
    refine AtH.all [5] 0 κ (by simp) ⟨?_, trivial⟩
    refine OneH.act iV _ rfl (storeBlk (t := 67) (b := fF.heap.size) (n := 8) (cs' := ((sa ++ sb : List Int).map wV)) κ κ (len8 σ σ) oneW_ ((show ((sa ++ sb : List Int).map wV).length = 8 from (len8 σ σ)).trans (show ((([0, 0, 0, 0]) ++ ([0, 0, 0, 0]) : List Int).map wV).length = 8 from (len8 (okLen okW_00) (okLen okW_00))).symm) gK) ?_
    rintro d_ v_ oW ⟨rfl, bT, lO⟩
    have iW := lN.gr' bT (by rw [dV]; exact ⟨(by simp only [add_block]; omega), (by simp only [add_block]; omega), trivial⟩)
    refine ⟨_, rfl, fun oX lP => ⟨iW, ?_⟩⟩
    clear iV; have := bT.size; replace e0 := e0.gr bT (fun k h => by injection h; omega); replace r9 := r9.gb bT ω; replace aD := aD.gb bT ω; replace bx6 := bx6.gb bT ω; replace aF := aF.gb bT ω; replace aG := aG.gb bT ω; replace gL := gL.gb bT ω; replace aP := aP.gb bT ω; replace eL := eL.gr bT (fun k hk => hk.1); replace eM := eM.gr bT (fun k hk => hk.1); replace aQ := aQ.gb bT ω
    replace aR := aR.gb bT ω; clear gK bT
    refine AtH.done κ ?_
    clear iW
    refine t_n ?_
    exact ⟨sa, sb, na, nb, da, fF.heap.size, lP.sb, e0, r9, aD, bx6, aF, aG, gL, aP, (eL.imp (fun g _ hs => ⟨hs.2.1, hs.2.2.1, hs.2.2.2.1, hs.1, (by have := Sx_base hs; show cW.heap.size ≤ g; omega)⟩)), (eM.imp (fun g _ hs => ⟨hs.2.1, hs.2.2.1, hs.2.2.2.1, hs.1, (by have := Sx_base hs; show cX.heap.size ≤ g; omega)⟩)), aQ, aR, lO, ω, ω, hpa, hd2_, hd3_⟩
   refine OneH.bx fQ gJ 12 ((([0, 0, 0, 0]) ++ ([0, 0, 0, 0]) : List Int).map wV) 67 (fun oY cC fG lQ oZ iX => ?_)
   clear fQ; have := cC.size; replace e0 := e0.gn cC; replace r9 := r9.gn cC; replace aD := aD.gn cC; replace bx6 := bx6.gn cC; replace aF := aF.gn cC; replace aG := aG.gn cC; replace aO := aO.gn cC; replace aP := aP.gn cC; replace aI := aI.grN cC; replace aM := aM.grN cC; replace aQ := aQ.gn cC; replace aR := aR.gn cC; have := fG.lt; clear cC
   refine AtH.all [3] 1 κ (by simp) ⟨?_, trivial⟩
   have hT_ : ∀ k, DecS.T (⟨aA.heap.size, w.heap.size, aH.heap.size, aL.heap.size, aC.heap.size, aB.heap.size, aJ, aE, aN, aK, Ag0, Ag1, Ag2, cg0, cg1, cg2, w.heap.size, g⟩ : DecS) k → w.heap.size ≤ k := fun k (hk : obk (aJ) = some k ∨ obk (aE) = some k ∨ k = aA.heap.size) => hk.elim (fun h_ => by have := aI.ge k h_; omega) (fun h2_ => h2_.elim (fun h_ => by have := aM.ge k h_; omega) (fun h_ => by omega))
   have hK_ : DecK (⟨aA.heap.size, w.heap.size, aH.heap.size, aL.heap.size, aC.heap.size, aB.heap.size, aJ, aE, aN, aK, Ag0, Ag1, Ag2, cg0, cg1, cg2, w.heap.size, g⟩ : DecS) := ⟨hR, ⟨(show aA.heap.size ≠ w.heap.size by omega), (show aA.heap.size ≠ aH.heap.size by omega), (show aA.heap.size ≠ aL.heap.size by omega), (show aA.heap.size ≠ aC.heap.size by omega), (show aA.heap.size ≠ aB.heap.size by omega)⟩, (show w.heap.size ≤ aA.heap.size by omega), hT_⟩
   refine OneH.cl iX (some 41) (part_any hK_ 257 (fullW ((g.ow.length : Nat) : Int)) (by have := (lenW_le (fullW ((g.ow.length : Nat) : Int))).2; omega) (List.replicate (((g.ow.length : Nat) : Int) : Int).toNat (gI ([-1] : List Int) 0)) (List.replicate (((g.ow.length : Nat) : Int) : Int).toNat (gI ([-1] : List Int) 0)) 0 1 _ ⟨aO, bx6, aR, aQ, (aP.as (by first | rfl | (simp only [List.cons.injEq, Value.slice.injEq, true_and, and_true, List.length_replicate]; omega))), aG, (aI.self.imp (fun g_ hg_ hs => ⟨hs.1.2.2.2.1, (fun e => by have := Sx_base hs.1; have e2 := Option.some.inj (show some (aA.heap.size) = some g_ from e); omega), (fun e => by have := Sx_base hs.1; have e2 := Option.some.inj (show some (w.heap.size) = some g_ from e); omega), hs.1.2.1, hs.1.2.2.1, (fun e => by have := Sx_base hs.1; have e2 := Option.some.inj (show some (aC.heap.size) = some g_ from e); omega), (fun e => by have := Sx_base hs.1; have e2 := Option.some.inj (show some (aB.heap.size) = some g_ from e); omega), .inl hs.2⟩)), (aM.self.imp (fun g_ hg_ hs => ⟨hs.1.2.2.2.1, (fun e => by have := Sx_base hs.1; have e2 := Option.some.inj (show some (aA.heap.size) = some g_ from e); omega), (fun e => by have := Sx_base hs.1; have e2 := Option.some.inj (show some (w.heap.size) = some g_ from e); omega), hs.1.2.1, hs.1.2.2.1, (fun e => by have := Sx_base hs.1; have e2 := Option.some.inj (show some (aC.heap.size) = some g_ from e); omega), (fun e => by have := Sx_base hs.1; have e2 := Option.some.inj (show some (aB.heap.size) = some g_ from e); omega), .inr (.inl hs.2)⟩)), r9, aD⟩ ⟨fullW_W _, live_full hR, (show _ = g.ow.length from hrl_), (show _ = g.ow.length from hrl_), by omega, by omega, by omega, by have := (lenW_le (fullW ((g.ow.length : Nat) : Int))).2; omega⟩) ?_
   rintro e_ gM ⟨sa, sb, na, nb, da, rfl, hex, hbd_, hr0_, hr1_, hpa, hd1_, hd2_, hd3_⟩
   replace hbd_ : Bx gM (aA.heap.size) [.int .i64 (da)] 3 := hbd_; replace hr0_ : OwnR gM (fun _ => True) aJ aN 3 (na : List Int) := hr0_; replace hr1_ : OwnR gM (fun _ => True) aE aK 3 (nb : List Int) := hr1_
   change Tch (DecS.T (⟨aA.heap.size, w.heap.size, aH.heap.size, aL.heap.size, aC.heap.size, aB.heap.size, aJ, aE, aN, aK, Ag0, Ag1, Ag2, cg0, cg1, cg2, w.heap.size, g⟩ : DecS)) _ _ at hex
   have hpa : PartS g (fullW ((g.ow.length : Nat) : Int)) 0 sa sb (List.replicate (((g.ow.length : Nat) : Int) : Int).toNat (gI ([-1] : List Int) 0)) (List.replicate (((g.ow.length : Nat) : Int) : Int).toNat (gI ([-1] : List Int) 0)) na nb := hpa
   have hd3_ : da ≤ max 0 (1 + lenW (fullW ((g.ow.length : Nat) : Int))) := hd3_; have hlaa_ := hpa.lp; have hlbb_ := hpa.lq; have hok_sa := hpa.okp; have hok_sb := hpa.okq; have hl4_sa := okLen hok_sa; have hl4_sb := okLen hok_sb
   refine ⟨_, rfl, _, rfl, fun pA iY => ?_⟩
   clear iX
   have iZ := lQ.tch hex (by rw [dV]; exact ⟨(show ¬ _ from by simp only [add_block]; exact (DecS.not (x := (⟨aA.heap.size, w.heap.size, aH.heap.size, aL.heap.size, aC.heap.size, aB.heap.size, aJ, aE, aN, aK, Ag0, Ag1, Ag2, cg0, cg1, cg2, w.heap.size, g⟩ : DecS)) (aI.neb (fun g hs => hs.2.1)) (aM.neb (fun g hs => hs.2.1)) (show aA.heap.size ≠ aH.heap.size by omega))), (show ¬ _ from by simp only [add_block]; exact (DecS.not (x := (⟨aA.heap.size, w.heap.size, aH.heap.size, aL.heap.size, aC.heap.size, aB.heap.size, aJ, aE, aN, aK, Ag0, Ag1, Ag2, cg0, cg1, cg2, w.heap.size, g⟩ : DecS)) (fun e => by have := aI.ge _ e; omega) (fun e => by have := aM.ge _ e; omega) (show aA.heap.size ≠ aB.heap.size by omega))), trivial⟩)
   have := hex.size; replace e0 := e0.tch hex hT_; replace r9 := r9.tch hex (fun k hk => .inr (by have := hT_ k hk; omega)); replace aD := aD.tch hex (fun k hk => .inr (by have := hT_ k hk; omega))
   replace bx6 := bx6.tch hex (DecS.not (x := (⟨aA.heap.size, w.heap.size, aH.heap.size, aL.heap.size, aC.heap.size, aB.heap.size, aJ, aE, aN, aK, Ag0, Ag1, Ag2, cg0, cg1, cg2, w.heap.size, g⟩ : DecS)) (fun e => by have := aI.ge _ e; omega) (fun e => by have := aM.ge _ e; omega) (show aA.heap.size ≠ w.heap.size by omega))
   replace aF := aF.tch hex (DecS.not (x := (⟨aA.heap.size, w.heap.size, aH.heap.size, aL.heap.size, aC.heap.size, aB.heap.size, aJ, aE, aN, aK, Ag0, Ag1, Ag2, cg0, cg1, cg2, w.heap.size, g⟩ : DecS)) (fun e => by have := aI.ge _ e; omega) (fun e => by have := aM.ge _ e; omega) (show aA.heap.size ≠ w1.heap.size by omega))
   replace aG := aG.tch hex (DecS.not (x := (⟨aA.heap.size, w.heap.size, aH.heap.size, aL.heap.size, aC.heap.size, aB.heap.size, aJ, aE, aN, aK, Ag0, Ag1, Ag2, cg0, cg1, cg2, w.heap.size, g⟩ : DecS)) (fun e => by have := aI.ge _ e; omega) (fun e => by have := aM.ge _ e; omega) (show aA.heap.size ≠ aB.heap.size by omega))
   clear aO
   replace aP := aP.tch hex (DecS.not (x := (⟨aA.heap.size, w.heap.size, aH.heap.size, aL.heap.size, aC.heap.size, aB.heap.size, aJ, aE, aN, aK, Ag0, Ag1, Ag2, cg0, cg1, cg2, w.heap.size, g⟩ : DecS)) (fun e => by have := aI.ge _ e; omega) (fun e => by have := aM.ge _ e; omega) (show aA.heap.size ≠ aC.heap.size by omega))
   have eT := OwnR.reS aI hr0_; clear aI hr0_; have eU := OwnR.reS aM hr1_; clear aM hr1_
   replace aQ := aQ.tch hex (DecS.not (x := (⟨aA.heap.size, w.heap.size, aH.heap.size, aL.heap.size, aC.heap.size, aB.heap.size, aJ, aE, aN, aK, Ag0, Ag1, Ag2, cg0, cg1, cg2, w.heap.size, g⟩ : DecS)) (eT.neb (fun g hs => hs.2.2.1)) (eU.neb (fun g hs => hs.2.2.1)) (show aA.heap.size ≠ aL.heap.size by omega))
   replace aR := aR.tch hex (DecS.not (x := (⟨aA.heap.size, w.heap.size, aH.heap.size, aL.heap.size, aC.heap.size, aB.heap.size, aJ, aE, aN, aK, Ag0, Ag1, Ag2, cg0, cg1, cg2, w.heap.size, g⟩ : DecS)) (eT.neb (fun g hs => hs.2.1)) (eU.neb (fun g hs => hs.2.1)) (show aA.heap.size ≠ aH.heap.size by omega))
   replace fG := fG.tch hex (DecS.not (x := (⟨aA.heap.size, w.heap.size, aH.heap.size, aL.heap.size, aC.heap.size, aB.heap.size, aJ, aE, aN, aK, Ag0, Ag1, Ag2, cg0, cg1, cg2, w.heap.size, g⟩ : DecS)) (eT.neb (fun g hs => hs.1)) (eU.neb (fun g hs => hs.1)) (show aA.heap.size ≠ gH.heap.size by omega))
   clear hex
   refine ⟨iZ, ?_⟩
   refine AtH.all [5] 0 κ (by simp) ⟨?_, trivial⟩
   refine OneH.act iY _ rfl (storeBlk (t := 67) (b := gH.heap.size) (n := 8) (cs' := ((sa ++ sb : List Int).map wV)) κ κ (len8 σ σ) oneW_ ((show ((sa ++ sb : List Int).map wV).length = 8 from (len8 σ σ)).trans (show ((([0, 0, 0, 0]) ++ ([0, 0, 0, 0]) : List Int).map wV).length = 8 from (len8 (okLen okW_00) (okLen okW_00))).symm) fG) ?_
   rintro d_ v_ pB ⟨rfl, bU, lR⟩
   have jA := iZ.gr' bU (by rw [dV]; exact ⟨(by simp only [add_block]; omega), (by simp only [add_block]; omega), trivial⟩)
   refine ⟨_, rfl, fun pC lS => ⟨jA, ?_⟩⟩
   clear iY; have := bU.size; replace e0 := e0.gr bU (fun k h => by injection h; omega); replace r9 := r9.gb bU ω; replace aD := aD.gb bU ω; replace bx6 := bx6.gb bU ω; replace aF := aF.gb bU ω; replace aG := aG.gb bU ω; have lT := hbd_.gb bU ω; clear hbd_; replace aP := aP.gb bU ω; replace eT := eT.gr bU (fun k hk => hk.1); replace eU := eU.gr bU (fun k hk => hk.1); replace aQ := aQ.gb bU ω
   replace aR := aR.gb bU ω; clear fG bU
   refine AtH.done κ ?_
   clear jA
   refine t_n ?_
   exact ⟨sa, sb, na, nb, da, gH.heap.size, lS.sb, e0, r9, aD, bx6, aF, aG, lT, aP, (eT.imp (fun g _ hs => ⟨hs.2.1, hs.2.2.1, hs.2.2.2.1, hs.1, (by have := Sx_base hs; show cW.heap.size ≤ g; omega)⟩)), (eU.imp (fun g _ hs => ⟨hs.2.1, hs.2.2.1, hs.2.2.2.1, hs.1, (by have := Sx_base hs; show cX.heap.size ≤ g; omega)⟩)), aQ, aR, lR, ω, ω, hpa, hd2_, hd3_⟩
  refine OneH.bx fP gG 12 ((([0, 0, 0, 0]) ++ ([0, 0, 0, 0]) : List Int).map wV) 67 (fun pD cD eN lU pE jB => ?_)
  clear fP; have := cD.size; replace e0 := e0.gn cD; replace r9 := r9.gn cD; replace aD := aD.gn cD; replace bx6 := bx6.gn cD; replace aF := aF.gn cD; replace aG := aG.gn cD; replace aO := aO.gn cD; replace aP := aP.gn cD; replace aI := aI.grN cD; replace aM := aM.grN cD; replace aQ := aQ.gn cD; replace aR := aR.gn cD; have := eN.lt; clear cD
  refine AtH.all [2] 2 κ (by simp) ⟨?_, trivial⟩
  refine OneH.cl jB (some 40) (full_any (n := ((g.ow.length : Nat) : Int)) ω) ?_
  rintro e_ pF ⟨rfl, he⟩
  refine ⟨_, rfl, _, rfl, fun pG jC => ?_⟩
  clear jB; have bH := gr_ext he; have jD := lU.gr bH; have := bH.size; replace e0 := e0.gn bH; replace r9 := r9.gn bH; replace aD := aD.gn bH; replace bx6 := bx6.gn bH; replace aF := aF.gn bH; replace aG := aG.gn bH; replace aO := aO.gn bH; replace aP := aP.gn bH; replace aI := aI.gn bH; replace aM := aM.gn bH; replace aQ := aQ.gn bH; replace aR := aR.gn bH; replace eN := eN.gn bH; clear bH he
  refine ⟨jD, ?_⟩
  refine AtH.all [3] 1 κ (by simp) ⟨?_, trivial⟩
  have hT_ : ∀ k, DecS.T (⟨aA.heap.size, w.heap.size, aH.heap.size, aL.heap.size, aC.heap.size, aB.heap.size, aJ, aE, aN, aK, Ag0, Ag1, Ag2, cg0, cg1, cg2, w.heap.size, g⟩ : DecS) k → w.heap.size ≤ k := fun k (hk : obk (aJ) = some k ∨ obk (aE) = some k ∨ k = aA.heap.size) => hk.elim (fun h_ => by have := aI.ge k h_; omega) (fun h2_ => h2_.elim (fun h_ => by have := aM.ge k h_; omega) (fun h_ => by omega))
  have hK_ : DecK (⟨aA.heap.size, w.heap.size, aH.heap.size, aL.heap.size, aC.heap.size, aB.heap.size, aJ, aE, aN, aK, Ag0, Ag1, Ag2, cg0, cg1, cg2, w.heap.size, g⟩ : DecS) := ⟨hR, ⟨(show aA.heap.size ≠ w.heap.size by omega), (show aA.heap.size ≠ aH.heap.size by omega), (show aA.heap.size ≠ aL.heap.size by omega), (show aA.heap.size ≠ aC.heap.size by omega), (show aA.heap.size ≠ aB.heap.size by omega)⟩, (show w.heap.size ≤ aA.heap.size by omega), hT_⟩
  refine OneH.cl jC (some 41) (part_any hK_ 257 (fullW ((g.ow.length : Nat) : Int)) (by have := (lenW_le (fullW ((g.ow.length : Nat) : Int))).2; omega) (List.replicate (((g.ow.length : Nat) : Int) : Int).toNat (gI ([-1] : List Int) 0)) (List.replicate (((g.ow.length : Nat) : Int) : Int).toNat (gI ([-1] : List Int) 0)) 0 1 _ ⟨aO, bx6, aR, aQ, (aP.as (by first | rfl | (simp only [List.cons.injEq, Value.slice.injEq, true_and, and_true, List.length_replicate]; omega))), aG, (aI.self.imp (fun g_ hg_ hs => ⟨hs.1.2.2.2.1, (fun e => by have := Sx_base hs.1; have e2 := Option.some.inj (show some (aA.heap.size) = some g_ from e); omega), (fun e => by have := Sx_base hs.1; have e2 := Option.some.inj (show some (w.heap.size) = some g_ from e); omega), hs.1.2.1, hs.1.2.2.1, (fun e => by have := Sx_base hs.1; have e2 := Option.some.inj (show some (aC.heap.size) = some g_ from e); omega), (fun e => by have := Sx_base hs.1; have e2 := Option.some.inj (show some (aB.heap.size) = some g_ from e); omega), .inl hs.2⟩)), (aM.self.imp (fun g_ hg_ hs => ⟨hs.1.2.2.2.1, (fun e => by have := Sx_base hs.1; have e2 := Option.some.inj (show some (aA.heap.size) = some g_ from e); omega), (fun e => by have := Sx_base hs.1; have e2 := Option.some.inj (show some (w.heap.size) = some g_ from e); omega), hs.1.2.1, hs.1.2.2.1, (fun e => by have := Sx_base hs.1; have e2 := Option.some.inj (show some (aC.heap.size) = some g_ from e); omega), (fun e => by have := Sx_base hs.1; have e2 := Option.some.inj (show some (aB.heap.size) = some g_ from e); omega), .inr (.inl hs.2)⟩)), r9, aD⟩ ⟨fullW_W _, live_full hR, (show _ = g.ow.length from hrl_), (show _ = g.ow.length from hrl_), by omega, by omega, by omega, by have := (lenW_le (fullW ((g.ow.length : Nat) : Int))).2; omega⟩) ?_
  rintro e_ gN ⟨sa, sb, na, nb, da, rfl, hex, hbd_, hr0_, hr1_, hpa, hd1_, hd2_, hd3_⟩
  replace hbd_ : Bx gN (aA.heap.size) [.int .i64 (da)] 3 := hbd_; replace hr0_ : OwnR gN (fun _ => True) aJ aN 3 (na : List Int) := hr0_; replace hr1_ : OwnR gN (fun _ => True) aE aK 3 (nb : List Int) := hr1_
  change Tch (DecS.T (⟨aA.heap.size, w.heap.size, aH.heap.size, aL.heap.size, aC.heap.size, aB.heap.size, aJ, aE, aN, aK, Ag0, Ag1, Ag2, cg0, cg1, cg2, w.heap.size, g⟩ : DecS)) _ _ at hex
  have hpa : PartS g (fullW ((g.ow.length : Nat) : Int)) 0 sa sb (List.replicate (((g.ow.length : Nat) : Int) : Int).toNat (gI ([-1] : List Int) 0)) (List.replicate (((g.ow.length : Nat) : Int) : Int).toNat (gI ([-1] : List Int) 0)) na nb := hpa
  have hd3_ : da ≤ max 0 (1 + lenW (fullW ((g.ow.length : Nat) : Int))) := hd3_; have hlaa_ := hpa.lp; have hlbb_ := hpa.lq; have hok_sa := hpa.okp; have hok_sb := hpa.okq; have hl4_sa := okLen hok_sa; have hl4_sb := okLen hok_sb
  refine ⟨_, rfl, _, rfl, fun pH jE => ?_⟩
  clear jC
  have jF := jD.tch hex (by rw [dV]; exact ⟨(show ¬ _ from by simp only [add_block]; exact (DecS.not (x := (⟨aA.heap.size, w.heap.size, aH.heap.size, aL.heap.size, aC.heap.size, aB.heap.size, aJ, aE, aN, aK, Ag0, Ag1, Ag2, cg0, cg1, cg2, w.heap.size, g⟩ : DecS)) (aI.neb (fun g hs => hs.2.1)) (aM.neb (fun g hs => hs.2.1)) (show aA.heap.size ≠ aH.heap.size by omega))), (show ¬ _ from by simp only [add_block]; exact (DecS.not (x := (⟨aA.heap.size, w.heap.size, aH.heap.size, aL.heap.size, aC.heap.size, aB.heap.size, aJ, aE, aN, aK, Ag0, Ag1, Ag2, cg0, cg1, cg2, w.heap.size, g⟩ : DecS)) (fun e => by have := aI.ge _ e; omega) (fun e => by have := aM.ge _ e; omega) (show aA.heap.size ≠ aB.heap.size by omega))), trivial⟩)
  have := hex.size; replace e0 := e0.tch hex hT_; replace r9 := r9.tch hex (fun k hk => .inr (by have := hT_ k hk; omega)); replace aD := aD.tch hex (fun k hk => .inr (by have := hT_ k hk; omega))
  replace bx6 := bx6.tch hex (DecS.not (x := (⟨aA.heap.size, w.heap.size, aH.heap.size, aL.heap.size, aC.heap.size, aB.heap.size, aJ, aE, aN, aK, Ag0, Ag1, Ag2, cg0, cg1, cg2, w.heap.size, g⟩ : DecS)) (fun e => by have := aI.ge _ e; omega) (fun e => by have := aM.ge _ e; omega) (show aA.heap.size ≠ w.heap.size by omega))
  replace aF := aF.tch hex (DecS.not (x := (⟨aA.heap.size, w.heap.size, aH.heap.size, aL.heap.size, aC.heap.size, aB.heap.size, aJ, aE, aN, aK, Ag0, Ag1, Ag2, cg0, cg1, cg2, w.heap.size, g⟩ : DecS)) (fun e => by have := aI.ge _ e; omega) (fun e => by have := aM.ge _ e; omega) (show aA.heap.size ≠ w1.heap.size by omega))
  replace aG := aG.tch hex (DecS.not (x := (⟨aA.heap.size, w.heap.size, aH.heap.size, aL.heap.size, aC.heap.size, aB.heap.size, aJ, aE, aN, aK, Ag0, Ag1, Ag2, cg0, cg1, cg2, w.heap.size, g⟩ : DecS)) (fun e => by have := aI.ge _ e; omega) (fun e => by have := aM.ge _ e; omega) (show aA.heap.size ≠ aB.heap.size by omega))
  clear aO
  replace aP := aP.tch hex (DecS.not (x := (⟨aA.heap.size, w.heap.size, aH.heap.size, aL.heap.size, aC.heap.size, aB.heap.size, aJ, aE, aN, aK, Ag0, Ag1, Ag2, cg0, cg1, cg2, w.heap.size, g⟩ : DecS)) (fun e => by have := aI.ge _ e; omega) (fun e => by have := aM.ge _ e; omega) (show aA.heap.size ≠ aC.heap.size by omega))
  have eV := OwnR.reS aI hr0_; clear aI hr0_; have eW := OwnR.reS aM hr1_; clear aM hr1_
  replace aQ := aQ.tch hex (DecS.not (x := (⟨aA.heap.size, w.heap.size, aH.heap.size, aL.heap.size, aC.heap.size, aB.heap.size, aJ, aE, aN, aK, Ag0, Ag1, Ag2, cg0, cg1, cg2, w.heap.size, g⟩ : DecS)) (eV.neb (fun g hs => hs.2.2.1)) (eW.neb (fun g hs => hs.2.2.1)) (show aA.heap.size ≠ aL.heap.size by omega))
  replace aR := aR.tch hex (DecS.not (x := (⟨aA.heap.size, w.heap.size, aH.heap.size, aL.heap.size, aC.heap.size, aB.heap.size, aJ, aE, aN, aK, Ag0, Ag1, Ag2, cg0, cg1, cg2, w.heap.size, g⟩ : DecS)) (eV.neb (fun g hs => hs.2.1)) (eW.neb (fun g hs => hs.2.1)) (show aA.heap.size ≠ aH.heap.size by omega))
  replace eN := eN.tch hex (DecS.not (x := (⟨aA.heap.size, w.heap.size, aH.heap.size, aL.heap.size, aC.heap.size, aB.heap.size, aJ, aE, aN, aK, Ag0, Ag1, Ag2, cg0, cg1, cg2, w.heap.size, g⟩ : DecS)) (eV.neb (fun g hs => hs.1)) (eW.neb (fun g hs => hs.1)) (show aA.heap.size ≠ gF.heap.size by omega))
  clear hex
  refine ⟨jF, ?_⟩
  refine AtH.all [5] 0 κ (by simp) ⟨?_, trivial⟩
  refine OneH.act jE _ rfl (storeBlk (t := 67) (b := gF.heap.size) (n := 8) (cs' := ((sa ++ sb : List Int).map wV)) κ κ (len8 σ σ) oneW_ ((show ((sa ++ sb : List Int).map wV).length = 8 from (len8 σ σ)).trans (show ((([0, 0, 0, 0]) ++ ([0, 0, 0, 0]) : List Int).map wV).length = 8 from (len8 (okLen okW_00) (okLen okW_00))).symm) eN) ?_
  rintro d_ v_ pI ⟨rfl, bV, lV⟩
  have jG := jF.gr' bV (by rw [dV]; exact ⟨(by simp only [add_block]; omega), (by simp only [add_block]; omega), trivial⟩)
  refine ⟨_, rfl, fun pJ lW => ⟨jG, ?_⟩⟩
  clear jE; have := bV.size; replace e0 := e0.gr bV (fun k h => by injection h; omega); replace r9 := r9.gb bV ω; replace aD := aD.gb bV ω; replace bx6 := bx6.gb bV ω; replace aF := aF.gb bV ω; replace aG := aG.gb bV ω; have lX := hbd_.gb bV ω; clear hbd_; replace aP := aP.gb bV ω; replace eV := eV.gr bV (fun k hk => hk.1); replace eW := eW.gr bV (fun k hk => hk.1); replace aQ := aQ.gb bV ω
  replace aR := aR.gb bV ω; clear eN bV
  refine AtH.done κ ?_
  clear jG
  refine t_n ?_
  exact ⟨sa, sb, na, nb, da, gF.heap.size, lW.sb, e0, r9, aD, bx6, aF, aG, lX, aP, (eV.imp (fun g _ hs => ⟨hs.2.1, hs.2.2.1, hs.2.2.2.1, hs.1, (by have := Sx_base hs; show cW.heap.size ≤ g; omega)⟩)), (eW.imp (fun g _ hs => ⟨hs.2.1, hs.2.2.1, hs.2.2.2.1, hs.1, (by have := Sx_base hs; show cX.heap.size ≤ g; omega)⟩)), aQ, aR, lV, ω, ω, hpa, hd2_, hd3_⟩
 clear r9; clear aD; clear bx6; clear aF; clear aG; clear aO; clear aP; clear aI; clear aM; clear aQ; clear aR; clear gE e0
 intro pK aU ⟨sa, sb, na, nb, da, aX, jH, dK, dT, dL, dM, dN, dC, dO, eD, dP, dQ, eX, eY, dD, pL, pM, hpa, hd2_, hd3_⟩
 have := dK.size; have hlaa_ := hpa.lp; have hlbb_ := hpa.lq; have hok_sa := hpa.okp; have hok_sb := hpa.okq; have hl4_sa := okLen hok_sa; have hl4_sb := okLen hok_sb; have := dM.lt; have := dN.lt; have := dC.lt; have := dO.lt; have := eD.lt; have := eX.lt; have := eY.lt; have := dD.lt
 refine sqs ?_
 refine At.rk jH 2 [(43, .agg #[.slice none 0 0, .slice none 0 0, .slice aJ ((List.replicate (((g.ow.length : Nat) : Int) : Int).toNat (gI ([-1] : List Int) 0)).length) aN, .slice aE ((List.replicate (((g.ow.length : Nat) : Int) : Int).toNat (gI ([-1] : List Int) 0)).length) aK])] (.l (eD.cell (i := 0) rfl) <| .l (eD.cell (i := 1) rfl) <| .n) (fun pN jI => ?_)
 clear jH
 refine At.bx jI 13 [.slice none 0 0, .slice none 0 0, .slice none 0 0, .slice none 0 0] 32 (fun pO bW gO pP jJ => ?_)
 clear jI; have := bW.size; replace dK := dK.gn bW; replace dT := dT.gn bW; replace dL := dL.gn bW; replace dM := dM.gn bW; replace dN := dN.gn bW; replace dC := dC.gn bW; replace dO := dO.gn bW; replace eD := eD.gn bW; replace dP := dP.grN bW; replace dQ := dQ.grN bW; replace eX := eX.gn bW; replace eY := eY.gn bW; replace dD := dD.gn bW; have := gO.lt; clear bW
 refine At.store jJ (t := 32) (b := aU.heap.size) (off := 0) (v := .agg #[.slice none 0 0, .slice none 0 0, .slice aJ ((List.replicate (((g.ow.length : Nat) : Int) : Int).toNat (gI ([-1] : List Int) 0)).length) aN, .slice aE ((List.replicate (((g.ow.length : Nat) : Int) : Int).toNat (gI ([-1] : List Int) 0)).length) aK]) κ gO κ (fun pQ eE bX eZ jK => ?_)
 clear jJ
 replace eZ : Bx eE (aU.heap.size) [.slice none 0 0, .slice none 0 0, .slice aJ ((List.replicate (((g.ow.length : Nat) : Int) : Int).toNat (gI ([-1] : List Int) 0)).length) aN, .slice aE ((List.replicate (((g.ow.length : Nat) : Int) : Int).toNat (gI ([-1] : List Int) 0)).length) aK] 32 := eZ
 have := bX.size; replace dK := dK.gr bX (fun k h => by injection h; omega); replace dT := dT.gb bX ω; replace dL := dL.gb bX ω; replace dM := dM.gb bX ω; replace dN := dN.gb bX ω; replace dC := dC.gb bX ω; replace dO := dO.gb bX ω; replace eD := eD.gb bX ω; replace dP := dP.gr bX (fun k hk => hk.1); replace dQ := dQ.gr bX (fun k hk => hk.1); replace eX := eX.gb bX ω; replace eY := eY.gb bX ω
 replace dD := dD.gb bX ω; clear gO bX
 refine At.dn ?_
 clear eD; clear eX; clear eY
 refine wp_seq ?_
 refine sqs ?_
 refine At.rk jK 1 [(44, .int .i64 (0))] .n (fun pR jL => ?_)
 clear jK
 refine At.dn ?_
 refine wp_block ?_
 have jM := jL.sb (r := [(44, .int .i64 (0)), (13, pt aU.heap.size 0), (12, pt aX 0), (7, pt aA.heap.size 0), (6, pt aB.heap.size 0), (3, .int .i64 (0)), (2, pt w1.heap.size 0), (1, pt w.heap.size 0)])
 clear jL
 refine loop_u0 ?_
 refine loop_u ?_
 refine sqs ?_
 refine At.rk jM 1 [(45, .bool true)] (.v 45 (show (.bool (decide ((0 : Int) < 2)) : Value) = .bool true from κ) <| .n) (fun pS gP => ?_)
 clear jM
 refine At.dn ?_
 refine wp_seq ?_
 refine cond_T gP rfl ?_
 refine wp_skip ?_
 refine t_n ?_
 refine wp_seq ?_
 refine wp_block ?_
 refine sqs ?_
 refine At.rk gP 2 [(14, .int .i64 (0))] .n (fun pT jN => ?_)
 clear gP
 refine At.dn ?_
 refine sqs ?_
 refine At.rk jN 4 [(50, .agg ((sa : List Int).map wV).toArray), (47, .int .i64 (0))] (.b 0 2 <| .p (show ((sa : List Int).map wV).length = 4 from ((List.length_map _).trans σ)) <| .p (show ∀ (j : Nat) (v : Value), ((sa : List Int).map wV)[j]? = some v → eE.cell? ((⟨aX, 0, none⟩ : Addr).add j) = some v from (Bx.wholeL dD)) <| .o (.cs ((sa : List Int).map wV)) <| .n) (fun pU jO => ?_)
 clear jN
 refine At.cl jO (some 51) (list_any (s := sa) σ (dL.wide (Nat.zero_le _) ω)) ?_
 rintro e_ gQ ⟨aV, bA, rfl, he, eF⟩
 have := ls_len (fromW sa) 256
 refine ⟨_, rfl, _, rfl, fun pV jP => ?_⟩
 clear jO; have cQ := gr_ext he; have jQ := dP.lt; have jR := dQ.lt; have := cQ.size; replace dK := dK.gn cQ; replace dT := dT.gn cQ; replace dL := dL.gn cQ; replace dM := dM.gn cQ; replace dN := dN.gn cQ; replace dC := dC.gn cQ; replace dO := dO.gn cQ
 replace dP : OwnR gQ (Sx (cW.heap.size) [obk (aV), some (aU.heap.size), some (aH.heap.size), some (aL.heap.size), obk (aE), some (aX)]) aJ aN 3 (na : List Int) := dP.grA cQ (fun _ _ h => by cases h) (fun k hk hs => ⟨(fun e => by have := eF.ge _ e; omega), hs.1, hs.2.1, hs.2.2.1, hs.2.2.2.1, hs.2.2.2.2.1, hs.2.2.2.2.2⟩)
 replace dQ : OwnR gQ (Sx (cX.heap.size) [obk (aV), some (aU.heap.size), some (aH.heap.size), some (aL.heap.size), obk (aJ), some (aX)]) aE aK 3 (nb : List Int) := dQ.grA cQ (fun _ _ h => by cases h) (fun k hk hs => ⟨(fun e => by have := eF.ge _ e; omega), hs.1, hs.2.1, hs.2.2.1, hs.2.2.2.1, hs.2.2.2.2.1, hs.2.2.2.2.2⟩)
 replace dD := dD.gn cQ; replace eZ := eZ.gn cQ
 replace eF : OwnR gQ (Sx (eE.heap.size) [obk (aJ), obk (aE)]) aV bA 3 ((lsD (fromW sa) 256) : List Int) := eF.imp (fun g _ hs => ⟨(fun e => by have := jQ _ e; have := Sx_base hs; omega), (fun e => by have := jR _ e; have := Sx_base hs; omega), hs⟩)
 clear jQ jR; clear cQ he
 refine At.rk jP 2 [(53, pt aU.heap.size 0)] (.b 0 2 <| .n) (fun pW jS => ?_)
 clear jP
 refine At.store jS (t := 22) (b := aU.heap.size) (off := 0) (v := .slice aV ((lsD (fromW sa) 256).length) bA) κ eZ κ (fun pX lY cR fR jT => ?_)
 clear jS
 replace fR : Bx lY (aU.heap.size) [.slice aV ((lsD (fromW sa) 256).length) bA, .slice none 0 0, .slice aJ ((List.replicate (((g.ow.length : Nat) : Int) : Int).toNat (gI ([-1] : List Int) 0)).length) aN, .slice aE ((List.replicate (((g.ow.length : Nat) : Int) : Int).toNat (gI ([-1] : List Int) 0)).length) aK] 32 := fR
 have := cR.size; replace dK := dK.gr cR (fun k h => by injection h; omega); replace dT := dT.gb cR ω; replace dL := dL.gb cR ω; replace dM := dM.gb cR ω; replace dN := dN.gb cR ω; replace dC := dC.gb cR ω; replace dO := dO.gb cR ω; replace dP := dP.gr cR (fun k hk => hk.2.1); replace dQ := dQ.gr cR (fun k hk => hk.2.1); replace dD := dD.gb cR ω
 replace eF := eF.gr cR (fun k hk e => by have := Sx_base hk; injection e; omega); clear eZ cR
 refine At.dn ?_
 refine sqs ?_
 refine At.rk jT 2 [(55, .int .i64 (0)), (54, .int .i64 (((g.ow.length : Nat) : Int)))] (.l (dC.cell (i := 0) rfl) <| .n) (fun pY jU => ?_)
 clear jT
 refine At.dn ?_
 refine wp_block ?_
 refine loop_g (fun (m_ : Nat) a_ w_ => ∃ (k0 : Int) (x0 : List Int) (aW : Option Addr) (aZ : Nat), m_ = ((g.ow.length : Int) - k0).toNat ∧ (Frm 83 a_ [(55, .int .i64 (k0)), (54, .int .i64 (((g.ow.length : Nat) : Int))), (14, .int .i64 (0)), (44, .int .i64 (0)), (13, pt aU.heap.size 0), (12, pt aX 0), (7, pt aA.heap.size 0), (6, pt aB.heap.size 0), (3, .int .i64 (0)), (2, pt w1.heap.size 0), (1, pt w.heap.size 0)]) ∧ (Ext w w_) ∧ (RdG w_ 0 w.heap.size Ag0 Ag1 Ag2 cg0 cg1 cg2 g) ∧ (RdT w_ 0 w.heap.size) ∧ (Bx w_ (w.heap.size) [.slice Ag0 g.ow.length cg0, .slice Ag1 g.pr.length cg1, .slice Ag2 g.mv.length cg2] 25) ∧ (Bx w_ (w1.heap.size) [.slice none 0 0, .slice none 0 0, .slice none 0 0, .slice none 0 0] 32) ∧ (Bx w_ (aB.heap.size) [.int .i64 (((g.ow.length : Nat) : Int))] 3) ∧ (Bx w_ (aA.heap.size) [.int .i64 (da)] 3) ∧ (OwnR w_ (Sx (cW.heap.size) [obk (aV), some (aU.heap.size), obk (aE), some (aX)]) aW aZ 3 (x0 : List Int)) ∧ (OwnR w_ (Sx (cX.heap.size) [obk (aV), some (aU.heap.size), obk (aW), some (aX)]) aE aK 3 (nb : List Int)) ∧ (Bx w_ (aX) ((sa ++ sb : List Int).map wV) 67) ∧ (Bx w_ (aU.heap.size) [.slice aV ((lsD (fromW sa) 256).length) bA, .slice none 0 0, .slice aW x0.length aZ, .slice aE ((List.replicate (((g.ow.length : Nat) : Int) : Int).toNat (gI ([-1] : List Int) 0)).length) aK] 32) ∧ (OwnR w_ (Sx (eE.heap.size) [obk (aW), obk (aE)]) aV bA 3 ((lsD (fromW sa) 256) : List Int)) ∧ (0 ≤ k0) ∧ (k0 ≤ (g.ow.length : Int)) ∧ (CutK g sa 0 na x0 k0) ∧ (x0.length = g.ow.length) ∧ (cW.heap.size ≤ w_.heap.size) ∧ (cX.heap.size ≤ w_.heap.size) ∧ (eE.heap.size ≤ w_.heap.size)) _ ⟨0, (na : List Int), aJ, aN, rfl, jU.sb, dK, dT, dL, dM, dN, dC, dO, (dP.imp (fun g _ hs => ⟨hs.1, hs.2.1, hs.2.2.2.2.1, hs.2.2.2.2.2.1, hs.2.2.2.2.2.2⟩)), (dQ.imp (fun g _ hs => ⟨hs.1, hs.2.1, hs.2.2.2.2.1, hs.2.2.2.2.2.1, hs.2.2.2.2.2.2⟩)), dD, (fR.as (by first | rfl | (simp only [List.cons.injEq, Value.slice.injEq, true_and, and_true]; omega))), eF, ω, ω, cutK_0, ω, ω, ω, ω⟩ ?_
 clear jU; clear dT; clear dL; clear dM; clear dN; clear dC; clear dO; clear dP; clear dQ; clear dD; clear fR; clear eF; clear dK
 intro m_ pZ fH ⟨k0, x0, aW, aZ, hm656, jV, bI, bJ, bK, bF, bL, bG, bM, aS, bN, bE, bC, bO, i669, i670, hck0, i671, i672, i673, i674⟩
 have := bI.size; have := bF.lt; have := bL.lt; have := bG.lt; have := bM.lt; have := bE.lt; have := bC.lt
 refine sqs ?_
 refine At.rk jV 1 [(56, .bool (decide ((k0 : Int) < ((g.ow.length : Nat) : Int))))] .n (fun qA fI => ?_)
 clear jV
 refine At.dn ?_
 refine wp_seq ?_
 refine cond_S fI (t := decide ((k0 : Int) < ((g.ow.length : Nat) : Int))) rfl (fun gR => ?_) (fun gR => ?_)
 ·have qB := of_decide_eq_true gR
  refine wp_skip ?_
  refine t_n ?_
  refine wp_seq ?_
  refine wp_block ?_
  refine sqs ?_
  refine At.rk fI 2 [(15, .int .i64 (k0))] .n (fun qC jW => ?_)
  clear fI
  refine At.dn ?_
  refine sqs ?_
  refine At.rk jW 4 [(61, .int .i64 (k0)), (60, .agg ((sa : List Int).map wV).toArray)] (.b 0 2 <| .p (show ((sa : List Int).map wV).length = 4 from ((List.length_map _).trans σ)) <| .p (show ∀ (j : Nat) (v : Value), ((sa : List Int).map wV)[j]? = some v → fH.cell? ((⟨aX, 0, none⟩ : Addr).add j) = some v from (Bx.wholeL bE)) <| .o (.cs ((sa : List Int).map wV)) <| .n) (fun qD jX => ?_)
  clear jW
  refine At.cl jX (some 62) (has_any (s := sa) (n := k0) σ) ?_
  rintro e_ qE ⟨rfl, he⟩
  refine ⟨_, rfl, _, rfl, fun qF fS => ?_⟩
  clear jX; have cE := gr_ext he; have := cE.size; replace bI := bI.gn cE; replace bJ := bJ.gn cE; replace bK := bK.gn cE; replace bF := bF.gn cE; replace bL := bL.gn cE; replace bG := bG.gn cE; replace bM := bM.gn cE; replace aS := aS.gn cE; replace bN := bN.gn cE; replace bE := bE.gn cE; replace bC := bC.gn cE; replace bO := bO.gn cE; clear cE he
  rcases Bool.eq_false_or_eq_true (!(hasW sa k0)) with dW | dW
  ·have qG : (hasW sa k0) = false := by first | exact Eq.mp (Bool.not_eq_true' _) dW | exact Eq.mp (Bool.not_eq_false' _) dW | simpa using dW
   refine At.rk fS 10 [(72, .bool true)] (.e 64 dW <| .n) (fun qH gS => ?_)
   clear fS
   refine At.dn ?_
   refine cond_T gS rfl ?_
   refine At.start ?_
   obtain ⟨jY, jZ, qI, qJ, qK⟩ := aS.get (k0) ω ω (sz := 1) rfl
   refine At.rk gS 6 [(78, .pointer (some (jY.add ((k0 : Int).toNat * 1))))] (.b 0 2 <| .l (bC.cell (i := 2) rfl) <| .a k0 x0.length jZ <| .n) (fun qL kA => ?_)
   clear gS
   refine At.act kA (storeR (α := Int) (t := 3) (i := k0) (ad := jY) (v := .int .i64 (-1)) (-1) κ rfl rfl κ jZ aS ω ω) ?_
   rintro d_ v_ lZ ⟨rfl, cS, mA⟩
   refine ⟨_, rfl, fun qM kB => ?_⟩
   clear kA; have qN : ((x0).set (k0 : Int).toNat (-1)).length = (x0).length := List.length_set; have := cS.size; replace bI := bI.gr cS (fun k hk => by have := aS.ge k hk; omega); replace bJ := bJ.gr cS (fun k hk => by have := aS.ge k hk; omega); replace bK := bK.gr cS (fun k hk => by have := aS.ge k hk; omega); replace bF := bF.gr cS (fun e => by have := aS.ge _ e; omega)
   replace bL := bL.gr cS (fun e => by have := aS.ge _ e; omega); replace bG := bG.gr cS (fun e => by have := aS.ge _ e; omega); replace bM := bM.gr cS (fun e => by have := aS.ge _ e; omega); replace bN := bN.gr cS (fun k hk => hk.2.2.1); replace bE := bE.gr cS (aS.neb (fun g hs => hs.2.2.2.1)); replace bC := bC.gr cS (aS.neb (fun g hs => hs.2.1)); replace bO := bO.gr cS (fun k hk => hk.1)
   clear aS cS
   replace bC : Bx lZ (aU.heap.size) [.slice aV ((lsD (fromW sa) 256).length) bA, .slice none 0 0, .slice aW (((x0).set (k0 : Int).toNat (-1)).length) aZ, .slice aE ((List.replicate (((g.ow.length : Nat) : Int) : Int).toNat (gI ([-1] : List Int) 0)).length) aK] 32 := bC.as (by first | rfl | (simp only [List.length_set]; done))
   refine At.done rfl ?_
   refine b_n ?_
   refine t_n ?_
   refine At.start ?_
   refine At.rk kB 2 [(55, .int .i64 (k0 + 1))] (.w 79 (k0 + 1) <| .n) (fun qO mB => ?_)
   clear kB
   refine At.dn ?_
   exact ⟨_, ω, (k0 + 1), ((x0).set (k0 : Int).toNat (-1) : List Int), aW, aZ, rfl, mB.sb, bI, bJ, bK, bF, bL, bG, bM, mA, bN, bE, bC, bO, ω, ω, (cutK_yes hck0 ω ω (by first | exact (fun h_ => has_nP σ h_.1) | exact (fun h_ => absurd h_.2 ω))), (by rw [List.length_set]; omega), ω, ω, ω⟩
  have qP : (hasW sa k0) = true := by first | exact Eq.mp (Bool.not_eq_true' _) dW | exact Eq.mp (Bool.not_eq_false' _) dW | simpa using dW
  obtain ⟨mC, mD, _, _, mE⟩ := RdI.get bJ.ow (k0) ω ω
  refine At.rk fS 10 [(72, .bool ((gI g.ow (k0) : Int) != 0)), (71, .bool ((gI g.ow (k0) : Int) != 0)), (70, .int .i64 (0)), (69, .int .i64 (gI g.ow (k0))), (68, .pointer (some (mC.add ((k0 : Int).toNat * 1)))), (67, .int .i64 (k0)), (66, .slice Ag0 g.ow.length cg0), (65, pt w.heap.size 0)] (.e 64 dW <| .l (bF.cell (i := 0) rfl) <| .a k0 g.ow.length mD <| .l mE <| .n) (fun qQ fJ => ?_)
  clear fS
  refine At.dn ?_
  refine cond_S fJ (t := (gI g.ow (k0) : Int) != 0) rfl (fun gT => ?_) (fun gT => ?_)
  ·have qR := bne_iff_ne.1 gT
   refine At.start ?_
   obtain ⟨kC, kD, qS, qT, qU⟩ := aS.get (k0) ω ω (sz := 1) rfl
   refine At.rk fJ 6 [(78, .pointer (some (kC.add ((k0 : Int).toNat * 1))))] (.b 0 2 <| .l (bC.cell (i := 2) rfl) <| .a k0 x0.length kD <| .n) (fun qV kE => ?_)
   clear fJ
   refine At.act kE (storeR (α := Int) (t := 3) (i := k0) (ad := kC) (v := .int .i64 (-1)) (-1) κ rfl rfl κ kD aS ω ω) ?_
   rintro d_ v_ mF ⟨rfl, cT, mG⟩
   refine ⟨_, rfl, fun qW kF => ?_⟩
   clear kE; have qX : ((x0).set (k0 : Int).toNat (-1)).length = (x0).length := List.length_set; have := cT.size; replace bI := bI.gr cT (fun k hk => by have := aS.ge k hk; omega); replace bJ := bJ.gr cT (fun k hk => by have := aS.ge k hk; omega); replace bK := bK.gr cT (fun k hk => by have := aS.ge k hk; omega); replace bF := bF.gr cT (fun e => by have := aS.ge _ e; omega)
   replace bL := bL.gr cT (fun e => by have := aS.ge _ e; omega); replace bG := bG.gr cT (fun e => by have := aS.ge _ e; omega); replace bM := bM.gr cT (fun e => by have := aS.ge _ e; omega); replace bN := bN.gr cT (fun k hk => hk.2.2.1); replace bE := bE.gr cT (aS.neb (fun g hs => hs.2.2.2.1)); replace bC := bC.gr cT (aS.neb (fun g hs => hs.2.1)); replace bO := bO.gr cT (fun k hk => hk.1)
   clear aS cT
   replace bC : Bx mF (aU.heap.size) [.slice aV ((lsD (fromW sa) 256).length) bA, .slice none 0 0, .slice aW (((x0).set (k0 : Int).toNat (-1)).length) aZ, .slice aE ((List.replicate (((g.ow.length : Nat) : Int) : Int).toNat (gI ([-1] : List Int) 0)).length) aK] 32 := bC.as (by first | rfl | (simp only [List.length_set]; done))
   refine At.done rfl ?_
   refine b_n ?_
   refine t_n ?_
   refine At.start ?_
   refine At.rk kF 2 [(55, .int .i64 (k0 + 1))] (.w 79 (k0 + 1) <| .n) (fun qY mH => ?_)
   clear kF
   refine At.dn ?_
   exact ⟨_, ω, (k0 + 1), ((x0).set (k0 : Int).toNat (-1) : List Int), aW, aZ, rfl, mH.sb, bI, bJ, bK, bF, bL, bG, bM, mG, bN, bE, bC, bO, ω, ω, (cutK_yes hck0 ω ω (by first | exact (fun h_ => has_nP σ h_.1) | exact (fun h_ => absurd h_.2 ω))), (by rw [List.length_set]; omega), ω, ω, ω⟩
  have qZ := bne_eq_false_iff_eq.1 gT
  refine wp_skip ?_
  refine b_n ?_
  refine t_n ?_
  refine At.start ?_
  refine At.rk fJ 2 [(55, .int .i64 (k0 + 1))] (.w 79 (k0 + 1) <| .n) (fun rA mI => ?_)
  clear fJ
  refine At.dn ?_
  exact ⟨_, ω, (k0 + 1), (x0 : List Int), aW, aZ, rfl, mI.sb, bI, bJ, bK, bF, bL, bG, bM, aS, bN, bE, bC, bO, ω, ω, (cutK_no hck0 ⟨inP_has.1 σ, by omega⟩), ω, ω, ω, ω⟩
 have rB := of_decide_eq_false gR
 refine wp_exit ?_
 refine t_e ?_
 clear hm656
 refine t_e ?_
 refine b_e ?_
 refine b_n ?_
 refine t_n ?_
 refine At.start ?_
 refine At.rk fI 2 [(44, .int .i64 (1))] (.v 80 (show (.int .i64 (IntKind.i64.wrap (0 + 1)) : Value) = .int .i64 (1) from κ) <| .n) (fun rC kG => ?_)
 clear fI
 refine At.dn ?_
 have kH := kG.sb (r := [(44, .int .i64 (1)), (13, pt aU.heap.size 0), (12, pt aX 0), (7, pt aA.heap.size 0), (6, pt aB.heap.size 0), (3, .int .i64 (0)), (2, pt w1.heap.size 0), (1, pt w.heap.size 0)])
 clear kG
 refine loop_u ?_
 refine sqs ?_
 refine At.rk kH 1 [(45, .bool true)] (.v 45 (show (.bool (decide ((1 : Int) < 2)) : Value) = .bool true from κ) <| .n) (fun rD gU => ?_)
 clear kH
 refine At.dn ?_
 refine wp_seq ?_
 refine cond_T gU rfl ?_
 refine wp_skip ?_
 refine t_n ?_
 refine wp_seq ?_
 refine wp_block ?_
 refine sqs ?_
 refine At.rk gU 2 [(14, .int .i64 (1))] .n (fun rE kI => ?_)
 clear gU
 refine At.dn ?_
 refine sqs ?_
 refine At.rk kI 4 [(50, .agg ((sb : List Int).map wV).toArray), (47, .int .i64 (1))] (.b 1 2 <| .p (show ((sb : List Int).map wV).length = 4 from ((List.length_map _).trans σ)) <| .p (show ∀ (j : Nat) (v : Value), ((sb : List Int).map wV)[j]? = some v → fH.cell? ((⟨aX, 4, none⟩ : Addr).add j) = some v from (Bx.wholeR σ bE)) <| .o (.cs ((sb : List Int).map wV)) <| .n) (fun rF kJ => ?_)
 clear kI
 refine At.cl kJ (some 51) (list_any (s := sb) σ (bK.wide (Nat.zero_le _) ω)) ?_
 rintro e_ fT ⟨bB, bY, rfl, he, dX⟩
 have := ls_len (fromW sb) 256
 refine ⟨_, rfl, _, rfl, fun rG kK => ?_⟩
 clear kJ; have cF := gr_ext he; have kL := aS.lt; have kM := bN.lt; have kN := bO.lt; have := cF.size; replace bI := bI.gn cF; replace bJ := bJ.gn cF; replace bK := bK.gn cF; replace bF := bF.gn cF; replace bL := bL.gn cF; replace bG := bG.gn cF; replace bM := bM.gn cF
 replace aS : OwnR fT (Sx (cW.heap.size) [obk (bB), obk (aV), some (aU.heap.size), obk (aE), some (aX)]) aW aZ 3 (x0 : List Int) := aS.grA cF (fun _ _ h => by cases h) (fun k hk hs => ⟨(fun e => by have := dX.ge _ e; omega), hs.1, hs.2.1, hs.2.2.1, hs.2.2.2.1, hs.2.2.2.2⟩)
 replace bN : OwnR fT (Sx (cX.heap.size) [obk (bB), obk (aV), some (aU.heap.size), obk (aW), some (aX)]) aE aK 3 (nb : List Int) := bN.grA cF (fun _ _ h => by cases h) (fun k hk hs => ⟨(fun e => by have := dX.ge _ e; omega), hs.1, hs.2.1, hs.2.2.1, hs.2.2.2.1, hs.2.2.2.2⟩)
 replace bE := bE.gn cF; replace bC := bC.gn cF
 replace bO : OwnR fT (Sx (eE.heap.size) [obk (bB), obk (aW), obk (aE)]) aV bA 3 ((lsD (fromW sa) 256) : List Int) := bO.grA cF (fun _ _ h => by cases h) (fun k hk hs => ⟨(fun e => by have := dX.ge _ e; omega), hs.1, hs.2.1, hs.2.2⟩)
 replace dX : OwnR fT (Sx (fH.heap.size) [obk (aW), obk (aE), obk (aV)]) bB bY 3 ((lsD (fromW sb) 256) : List Int) := dX.imp (fun g _ hs => ⟨(fun e => by have := kL _ e; have := Sx_base hs; omega), (fun e => by have := kM _ e; have := Sx_base hs; omega), (fun e => by have := kN _ e; have := Sx_base hs; omega), hs⟩)
 clear kL kM kN; clear cF he
 refine At.rk kK 2 [(53, pt aU.heap.size 1)] (.b 1 2 <| .n) (fun rH kO => ?_)
 clear kK
 refine At.store kO (t := 22) (b := aU.heap.size) (off := 1) (v := .slice bB ((lsD (fromW sb) 256).length) bY) κ bC κ (fun rI mJ cG fU kP => ?_)
 clear kO
 replace fU : Bx mJ (aU.heap.size) [.slice aV ((lsD (fromW sa) 256).length) bA, .slice bB ((lsD (fromW sb) 256).length) bY, .slice aW x0.length aZ, .slice aE ((List.replicate (((g.ow.length : Nat) : Int) : Int).toNat (gI ([-1] : List Int) 0)).length) aK] 32 := fU
 have := cG.size; replace bI := bI.gr cG (fun k h => by injection h; omega); replace bJ := bJ.gb cG ω; replace bK := bK.gb cG ω; replace bF := bF.gb cG ω; replace bL := bL.gb cG ω; replace bG := bG.gb cG ω; replace bM := bM.gb cG ω; replace aS := aS.gr cG (fun k hk => hk.2.2.1); replace bN := bN.gr cG (fun k hk => hk.2.2.1); replace bE := bE.gb cG ω
 replace bO := bO.gr cG (fun k hk e => by have := Sx_base hk; injection e; omega); replace dX := dX.gr cG (fun k hk e => by have := Sx_base hk; injection e; omega); clear bC cG
 refine At.dn ?_
 refine sqs ?_
 refine At.rk kP 2 [(55, .int .i64 (0)), (54, .int .i64 (((g.ow.length : Nat) : Int)))] (.l (bG.cell (i := 0) rfl) <| .n) (fun rJ kQ => ?_)
 clear kP
 refine At.dn ?_
 refine wp_block ?_
 refine loop_g (fun (m_ : Nat) a_ w_ => ∃ (k1 : Int) (x1 : List Int) (bD : Option Addr) (bP : Nat), m_ = ((g.ow.length : Int) - k1).toNat ∧ (Frm 83 a_ [(55, .int .i64 (k1)), (54, .int .i64 (((g.ow.length : Nat) : Int))), (14, .int .i64 (1)), (44, .int .i64 (1)), (13, pt aU.heap.size 0), (12, pt aX 0), (7, pt aA.heap.size 0), (6, pt aB.heap.size 0), (3, .int .i64 (0)), (2, pt w1.heap.size 0), (1, pt w.heap.size 0)]) ∧ (Ext w w_) ∧ (RdG w_ 0 w.heap.size Ag0 Ag1 Ag2 cg0 cg1 cg2 g) ∧ (RdT w_ 0 w.heap.size) ∧ (Bx w_ (w.heap.size) [.slice Ag0 g.ow.length cg0, .slice Ag1 g.pr.length cg1, .slice Ag2 g.mv.length cg2] 25) ∧ (Bx w_ (w1.heap.size) [.slice none 0 0, .slice none 0 0, .slice none 0 0, .slice none 0 0] 32) ∧ (Bx w_ (aB.heap.size) [.int .i64 (((g.ow.length : Nat) : Int))] 3) ∧ (Bx w_ (aA.heap.size) [.int .i64 (da)] 3) ∧ (OwnR w_ (Sx (cW.heap.size) [obk (bB), obk (aV), some (aU.heap.size), obk (bD), some (aX)]) aW aZ 3 (x0 : List Int)) ∧ (OwnR w_ (Sx (cX.heap.size) [obk (bB), obk (aV), some (aU.heap.size), obk (aW), some (aX)]) bD bP 3 (x1 : List Int)) ∧ (Bx w_ (aX) ((sa ++ sb : List Int).map wV) 67) ∧ (Bx w_ (aU.heap.size) [.slice aV ((lsD (fromW sa) 256).length) bA, .slice bB ((lsD (fromW sb) 256).length) bY, .slice aW x0.length aZ, .slice bD x1.length bP] 32) ∧ (OwnR w_ (Sx (eE.heap.size) [obk (bB), obk (aW), obk (bD)]) aV bA 3 ((lsD (fromW sa) 256) : List Int)) ∧ (OwnR w_ (Sx (fH.heap.size) [obk (aW), obk (bD), obk (aV)]) bB bY 3 ((lsD (fromW sb) 256) : List Int)) ∧ (0 ≤ k1) ∧ (k1 ≤ (g.ow.length : Int)) ∧ (CutK g sb 1 nb x1 k1) ∧ (x1.length = g.ow.length) ∧ (cW.heap.size ≤ w_.heap.size) ∧ (cX.heap.size ≤ w_.heap.size) ∧ (eE.heap.size ≤ w_.heap.size) ∧ (fH.heap.size ≤ w_.heap.size)) _ ⟨0, (nb : List Int), aE, aK, rfl, kQ.sb, bI, bJ, bK, bF, bL, bG, bM, aS, bN, bE, (fU.as (by first | rfl | (simp only [List.cons.injEq, Value.slice.injEq, true_and, and_true]; omega))), bO, dX, ω, ω, cutK_0, ω, ω, ω, ω, ω⟩ ?_
 clear kQ; clear bJ; clear bK; clear bF; clear bL; clear bG; clear bM; clear aS; clear bN; clear bE; clear fU; clear bO; clear dX; clear bI
 intro m_ rK kR ⟨k1, x1, bD, bP, hm829, kS, bZ, cH, cU, dE, cI, dR, bQ, cJ, aT, dF, aY, cK, cL, i843, i844, hck1, i845, i846, i847, i848, i849⟩
 have := bZ.size; have := dE.lt; have := cI.lt; have := dR.lt; have := bQ.lt; have := dF.lt; have := aY.lt
 refine sqs ?_
 refine At.rk kS 1 [(56, .bool (decide ((k1 : Int) < ((g.ow.length : Nat) : Int))))] .n (fun rL fK => ?_)
 clear kS
 refine At.dn ?_
 refine wp_seq ?_
 refine cond_S fK (t := decide ((k1 : Int) < ((g.ow.length : Nat) : Int))) rfl (fun gV => ?_) (fun gV => ?_)
 ·have rM := of_decide_eq_true gV
  refine wp_skip ?_
  refine t_n ?_
  refine wp_seq ?_
  refine wp_block ?_
  refine sqs ?_
  refine At.rk fK 2 [(15, .int .i64 (k1))] .n (fun rN kT => ?_)
  clear fK
  refine At.dn ?_
  refine sqs ?_
  refine At.rk kT 4 [(61, .int .i64 (k1)), (60, .agg ((sb : List Int).map wV).toArray)] (.b 1 2 <| .p (show ((sb : List Int).map wV).length = 4 from ((List.length_map _).trans σ)) <| .p (show ∀ (j : Nat) (v : Value), ((sb : List Int).map wV)[j]? = some v → kR.cell? ((⟨aX, 4, none⟩ : Addr).add j) = some v from (Bx.wholeR σ dF)) <| .o (.cs ((sb : List Int).map wV)) <| .n) (fun rO kU => ?_)
  clear kT
  refine At.cl kU (some 62) (has_any (s := sb) (n := k1) σ) ?_
  rintro e_ rP ⟨rfl, he⟩
  refine ⟨_, rfl, _, rfl, fun rQ fV => ?_⟩
  clear kU; have cA := gr_ext he; have := cA.size; replace bZ := bZ.gn cA; replace cH := cH.gn cA; replace cU := cU.gn cA; replace dE := dE.gn cA; replace cI := cI.gn cA; replace dR := dR.gn cA; replace bQ := bQ.gn cA; replace cJ := cJ.gn cA; replace aT := aT.gn cA; replace dF := dF.gn cA; replace aY := aY.gn cA; replace cK := cK.gn cA; replace cL := cL.gn cA; clear cA he
  rcases Bool.eq_false_or_eq_true (!(hasW sb k1)) with dY | dY
  ·have rR : (hasW sb k1) = false := by first | exact Eq.mp (Bool.not_eq_true' _) dY | exact Eq.mp (Bool.not_eq_false' _) dY | simpa using dY
   refine At.rk fV 10 [(72, .bool true)] (.e 64 dY <| .n) (fun rS gW => ?_)
   clear fV
   refine At.dn ?_
   refine cond_T gW rfl ?_
   refine At.start ?_
   obtain ⟨kV, kW, rU, rV, rW⟩ := aT.get (k1) ω ω (sz := 1) rfl
   refine At.rk gW 6 [(78, .pointer (some (kV.add ((k1 : Int).toNat * 1))))] (.b 1 2 <| .l (aY.cell (i := 3) rfl) <| .a k1 x1.length kW <| .n) (fun rX kX => ?_)
   clear gW
   refine At.act kX (storeR (α := Int) (t := 3) (i := k1) (ad := kV) (v := .int .i64 (-1)) (-1) κ rfl rfl κ kW aT ω ω) ?_
   rintro d_ v_ mK ⟨rfl, cM, mL⟩
   refine ⟨_, rfl, fun rY kY => ?_⟩
   clear kX; have rZ : ((x1).set (k1 : Int).toNat (-1)).length = (x1).length := List.length_set; have := cM.size; replace bZ := bZ.gr cM (fun k hk => by have := aT.ge k hk; omega); replace cH := cH.gr cM (fun k hk => by have := aT.ge k hk; omega); replace cU := cU.gr cM (fun k hk => by have := aT.ge k hk; omega); replace dE := dE.gr cM (fun e => by have := aT.ge _ e; omega)
   replace cI := cI.gr cM (fun e => by have := aT.ge _ e; omega); replace dR := dR.gr cM (fun e => by have := aT.ge _ e; omega); replace bQ := bQ.gr cM (fun e => by have := aT.ge _ e; omega); replace cJ := cJ.gr cM (fun k hk => hk.2.2.2.1); replace dF := dF.gr cM (aT.neb (fun g hs => hs.2.2.2.2.1)); replace aY := aY.gr cM (aT.neb (fun g hs => hs.2.2.1)); replace cK := cK.gr cM (fun k hk => hk.2.2.1)
   replace cL := cL.gr cM (fun k hk => hk.2.1); clear aT cM
   replace aY : Bx mK (aU.heap.size) [.slice aV ((lsD (fromW sa) 256).length) bA, .slice bB ((lsD (fromW sb) 256).length) bY, .slice aW x0.length aZ, .slice bD (((x1).set (k1 : Int).toNat (-1)).length) bP] 32 := aY.as (by first | rfl | (simp only [List.length_set]; done))
   refine At.done rfl ?_
   refine b_n ?_
   refine t_n ?_
   refine At.start ?_
   refine At.rk kY 2 [(55, .int .i64 (k1 + 1))] (.w 79 (k1 + 1) <| .n) (fun sA mM => ?_)
   clear kY
   refine At.dn ?_
   exact ⟨_, ω, (k1 + 1), ((x1).set (k1 : Int).toNat (-1) : List Int), bD, bP, rfl, mM.sb, bZ, cH, cU, dE, cI, dR, bQ, cJ, mL, dF, aY, cK, cL, ω, ω, (cutK_yes hck1 ω ω (by first | exact (fun h_ => has_nP σ h_.1) | exact (fun h_ => absurd h_.2 ω))), (by rw [List.length_set]; omega), ω, ω, ω, ω⟩
  have sB : (hasW sb k1) = true := by first | exact Eq.mp (Bool.not_eq_true' _) dY | exact Eq.mp (Bool.not_eq_false' _) dY | simpa using dY
  obtain ⟨mN, mO, _, _, mP⟩ := RdI.get cH.ow (k1) ω ω
  refine At.rk fV 10 [(72, .bool ((gI g.ow (k1) : Int) != 1)), (71, .bool ((gI g.ow (k1) : Int) != 1)), (70, .int .i64 (1)), (69, .int .i64 (gI g.ow (k1))), (68, .pointer (some (mN.add ((k1 : Int).toNat * 1)))), (67, .int .i64 (k1)), (66, .slice Ag0 g.ow.length cg0), (65, pt w.heap.size 0)] (.e 64 dY <| .l (dE.cell (i := 0) rfl) <| .a k1 g.ow.length mO <| .l mP <| .n) (fun sC fL => ?_)
  clear fV
  refine At.dn ?_
  refine cond_S fL (t := (gI g.ow (k1) : Int) != 1) rfl (fun gX => ?_) (fun gX => ?_)
  ·have sD := bne_iff_ne.1 gX
   refine At.start ?_
   obtain ⟨kZ, lA, sE, sF, sG⟩ := aT.get (k1) ω ω (sz := 1) rfl
   refine At.rk fL 6 [(78, .pointer (some (kZ.add ((k1 : Int).toNat * 1))))] (.b 1 2 <| .l (aY.cell (i := 3) rfl) <| .a k1 x1.length lA <| .n) (fun sH lB => ?_)
   clear fL
   refine At.act lB (storeR (α := Int) (t := 3) (i := k1) (ad := kZ) (v := .int .i64 (-1)) (-1) κ rfl rfl κ lA aT ω ω) ?_
   rintro d_ v_ mQ ⟨rfl, cN, mR⟩
   refine ⟨_, rfl, fun sI lC => ?_⟩
   clear lB; have sJ : ((x1).set (k1 : Int).toNat (-1)).length = (x1).length := List.length_set; have := cN.size; replace bZ := bZ.gr cN (fun k hk => by have := aT.ge k hk; omega); replace cH := cH.gr cN (fun k hk => by have := aT.ge k hk; omega); replace cU := cU.gr cN (fun k hk => by have := aT.ge k hk; omega); replace dE := dE.gr cN (fun e => by have := aT.ge _ e; omega)
   replace cI := cI.gr cN (fun e => by have := aT.ge _ e; omega); replace dR := dR.gr cN (fun e => by have := aT.ge _ e; omega); replace bQ := bQ.gr cN (fun e => by have := aT.ge _ e; omega); replace cJ := cJ.gr cN (fun k hk => hk.2.2.2.1); replace dF := dF.gr cN (aT.neb (fun g hs => hs.2.2.2.2.1)); replace aY := aY.gr cN (aT.neb (fun g hs => hs.2.2.1)); replace cK := cK.gr cN (fun k hk => hk.2.2.1)
   replace cL := cL.gr cN (fun k hk => hk.2.1); clear aT cN
   replace aY : Bx mQ (aU.heap.size) [.slice aV ((lsD (fromW sa) 256).length) bA, .slice bB ((lsD (fromW sb) 256).length) bY, .slice aW x0.length aZ, .slice bD (((x1).set (k1 : Int).toNat (-1)).length) bP] 32 := aY.as (by first | rfl | (simp only [List.length_set]; done))
   refine At.done rfl ?_
   refine b_n ?_
   refine t_n ?_
   refine At.start ?_
   refine At.rk lC 2 [(55, .int .i64 (k1 + 1))] (.w 79 (k1 + 1) <| .n) (fun sK mS => ?_)
   clear lC
   refine At.dn ?_
   exact ⟨_, ω, (k1 + 1), ((x1).set (k1 : Int).toNat (-1) : List Int), bD, bP, rfl, mS.sb, bZ, cH, cU, dE, cI, dR, bQ, cJ, mR, dF, aY, cK, cL, ω, ω, (cutK_yes hck1 ω ω (by first | exact (fun h_ => has_nP σ h_.1) | exact (fun h_ => absurd h_.2 ω))), (by rw [List.length_set]; omega), ω, ω, ω, ω⟩
  have sL := bne_eq_false_iff_eq.1 gX
  refine wp_skip ?_
  refine b_n ?_
  refine t_n ?_
  refine At.start ?_
  refine At.rk fL 2 [(55, .int .i64 (k1 + 1))] (.w 79 (k1 + 1) <| .n) (fun sM mT => ?_)
  clear fL
  refine At.dn ?_
  exact ⟨_, ω, (k1 + 1), (x1 : List Int), bD, bP, rfl, mT.sb, bZ, cH, cU, dE, cI, dR, bQ, cJ, aT, dF, aY, cK, cL, ω, ω, (cutK_no hck1 ⟨inP_has.1 σ, by omega⟩), ω, ω, ω, ω, ω⟩
 have sN := of_decide_eq_false gV
 refine wp_exit ?_
 refine t_e ?_
 clear hm829
 refine t_e ?_
 refine b_e ?_
 refine b_n ?_
 refine t_n ?_
 refine At.start ?_
 refine At.rk fK 2 [(44, .int .i64 (2))] (.v 80 (show (.int .i64 (IntKind.i64.wrap (1 + 1)) : Value) = .int .i64 (2) from κ) <| .n) (fun sO lD => ?_)
 clear fK
 refine At.dn ?_
 have lE := lD.sb (r := [(44, .int .i64 (2)), (13, pt aU.heap.size 0), (12, pt aX 0), (7, pt aA.heap.size 0), (6, pt aB.heap.size 0), (3, .int .i64 (0)), (2, pt w1.heap.size 0), (1, pt w.heap.size 0)])
 clear lD
 refine loop_u ?_
 refine sqs ?_
 refine At.rk lE 1 [(45, .bool false)] (.v 45 (show (.bool (decide ((2 : Int) < 2)) : Value) = .bool false from κ) <| .n) (fun sP gY => ?_)
 clear lE
 refine At.dn ?_
 refine wp_seq ?_
 refine cond_F gY rfl ?_
 refine wp_exit ?_
 refine t_e ?_
 refine t_e ?_
 refine b_e ?_
 refine t_n ?_
 clear dE; clear dR; clear dF; have hcutA := hck0; have hcutB := hck1
 refine wp_seq ?_
 obtain ⟨lF, eO⟩ : ∃ c : List (Addr × Value), c = [(⟨aU.heap.size, 0, none⟩, (.slice aV ((lsD (fromW sa) 256).length) bA)), (⟨aU.heap.size, 1, none⟩, (.slice bB ((lsD (fromW sb) 256).length) bY)), (⟨aU.heap.size, 2, none⟩, (.slice aW x0.length aZ)), (⟨aU.heap.size, 3, none⟩, (.slice bD x1.length bP)), (⟨aA.heap.size, 0, none⟩, (.int .i64 (da)))] := ⟨_, rfl⟩
 have lG : HoldsC lF kR := by rw [eO]; exact ⟨(aY.cell (i := 0) rfl), (aY.cell (i := 1) rfl), (aY.cell (i := 2) rfl), (aY.cell (i := 3) rfl), (bQ.cell (i := 0) rfl), trivial⟩
 refine AtH.start lF 4 _ κ rfl rfl (fun sQ lH => ?_)
 have cV := gr_drew lH; have lI := lG.gr cV; have := cV.size; replace bZ := bZ.gn cV; replace cH := cH.gn cV; replace cU := cU.gn cV; replace cI := cI.gn cV; replace bQ := bQ.gn cV; replace cJ := cJ.gn cV; replace aT := aT.gn cV; replace aY := aY.gn cV; replace cK := cK.gn cV; replace cL := cL.gn cV; clear cV lH lG
 refine AtH.rk lI gY [0, 1] 2 [(82, .int .i64 (da)), (81, .agg #[.slice aV ((lsD (fromW sa) 256).length) bA, .slice bB ((lsD (fromW sb) 256).length) bY, .slice aW x0.length aZ, .slice bD x1.length bP])] (.l (CsC_at eO 0 rfl) <| .l (CsC_at eO 1 rfl) <| .l (CsC_at eO 2 rfl) <| .l (CsC_at eO 3 rfl) <| .l (CsC_at eO 4 rfl) <| .n) (fun sR lJ => ?_)
 clear gY
 refine AtH.all [2] 1 κ (by simp) ⟨?_, trivial⟩
 refine OneH.store lJ (t := 32) (b := w1.heap.size) (off := 0) (v := .agg #[.slice aV ((lsD (fromW sa) 256).length) bA, .slice bB ((lsD (fromW sb) 256).length) bY, .slice aW x0.length aZ, .slice bD x1.length bP]) _ rfl κ cI κ (fun sS fM dG fA lK => ?_)
 clear lJ
 replace fA : Bx fM (w1.heap.size) [.slice aV ((lsD (fromW sa) 256).length) bA, .slice bB ((lsD (fromW sb) 256).length) bY, .slice aW x0.length aZ, .slice bD x1.length bP] 32 := fA
 have gZ := lI.gr' dG (by rw [eO]; exact ⟨(by simp only [add_block]; omega), (by simp only [add_block]; omega), (by simp only [add_block]; omega), (by simp only [add_block]; omega), (by simp only [add_block]; omega), trivial⟩)
 have := dG.size; replace bZ := bZ.gr dG (fun k h => by injection h; omega); replace cH := cH.gb dG ω; replace cU := cU.gb dG ω; replace bQ := bQ.gb dG ω; replace cJ := cJ.gr dG (fun k hk e => by have := Sx_base hk; injection e; omega); replace aT := aT.gr dG (fun k hk e => by have := Sx_base hk; injection e; omega); replace aY := aY.gb dG ω
 replace cK := cK.gr dG (fun k hk e => by have := Sx_base hk; injection e; omega); replace cL := cL.gr dG (fun k hk e => by have := Sx_base hk; injection e; omega); clear cI dG
 refine ⟨gZ, ?_⟩
 refine AtH.rk gZ lK [3] 0 [(3, .int .i64 (da))] .n (fun sT mU => ?_)
 clear lK
 refine AtH.done κ ?_
 clear gZ
 refine t_n ?_
 clear bQ; clear aY
 refine wp_ret ?_
 refine ret_ mU [[.slice aV ((lsD (fromW sa) 256).length) bA, .slice bB ((lsD (fromW sb) 256).length) bY, .slice aW x0.length aZ, .slice bD x1.length bP]] [.agg #[.slice aV ((lsD (fromW sa) 256).length) bA, .slice bB ((lsD (fromW sb) 256).length) bY, .slice aW x0.length aZ, .slice bD x1.length bP], .int .i64 (da)] [(fM.cell? ⟨w1.heap.size, 0, none⟩ = some (.slice aV ((lsD (fromW sa) 256).length) bA)), (fM.cell? ⟨w1.heap.size, 1, none⟩ = some (.slice bB ((lsD (fromW sb) 256).length) bY)), (fM.cell? ⟨w1.heap.size, 2, none⟩ = some (.slice aW x0.length aZ)), (fM.cell? ⟨w1.heap.size, 3, none⟩ = some (.slice bD x1.length bP))] κ ⟨(fA.cell (i := 0) rfl), (fA.cell (i := 1) rfl), (fA.cell (i := 2) rfl), (fA.cell (i := 3) rfl), trivial⟩ ?_
 exact ⟨aV, bA, bB, bY, aW, aZ, bD, bP, _, _, _, _, _, rfl, bZ, ((cK.imp (fun g _ hs => ⟨hs.1, hs.2.1, hs.2.2.1, (by have := Sx_base hs; show w.heap.size ≤ g; omega)⟩))), ((cL.imp (fun g _ hs => ⟨hs.2.2.1, hs.1, hs.2.1, (by have := Sx_base hs; show w.heap.size ≤ g; omega)⟩))), ((cJ.imp (fun g _ hs => ⟨hs.2.1, hs.1, hs.2.2.2.1, (by have := Sx_base hs; show w.heap.size ≤ g; omega)⟩))), ((aT.imp (fun g _ hs => ⟨hs.2.1, hs.1, hs.2.2.2.1, (by have := Sx_base hs; show w.heap.size ≤ g; omega)⟩))), .inr ⟨hR, sa, sb, rfl, rfl, sol_end hR hpa hrl_ hrl_ hcutA hcutB ω ω ω ω⟩⟩
end Go.Proofs.YtplpgfcjjnaigaaDoor
namespace Go.Proofs.YtplpgfcjjnaigaaDoor
open Go Go.RowKit
theorem Way.map {E F : Int → Int → Prop} {u : Int → Int} (hi : ∀ a b, E a b → F (u a) (u b)) : ∀ {a b : Int}, Way E a b → Way F (u a) (u b)
  | _, _, .one h => .one (hi _ _ h)
  | _, _, .more h k => .more (hi _ _ h) (Way.map hi k)
theorem ls_same {s t : List Int} (hs : OkW s) (ht : OkW t) (h : ∀ i, inP s i ↔ inP t i) : s = t :=
  (set_iff hs ht).2 fun j a b => by
    rw [Bool.eq_iff_iff]
    have := h j
    unfold inP at this
    exact ⟨fun e => (this.1 ⟨a, b, e⟩).2.2, fun e => (this.2 ⟨a, b, e⟩).2.2⟩
theorem sol_same {g : GameL} (hR : isR g = true) {s0 s1 m0 m1 t0 t1 : List Int} {d : Int} {f0 f1 : Int → Int} (h : SolT g s0 s1 m0 m1 d) (h0 : OkW t0) (h1 : OkW t1) (k : Split g g.ow.length (inP t0) (inP t1) f0 f1) : s0 = t0 ∧ s1 = t1 := by
  have := split_one (isR_ok hR) h.sp k
  exact ⟨ls_same h.ok0 h0 this.1, ls_same h.ok1 h1 this.2⟩
end Go.Proofs.YtplpgfcjjnaigaaDoor
namespace Go.Proofs.YtplpgfcjjnaigaaDoor
open Go Go.RowKit
theorem SolveT.right {g : GameL} {l0 l1 m0 m1 : List Int} {d : Int} (h : SolveT g l0 l1 m0 m1 d) (hR : isR g = true) : ∃ s0 s1, l0 = lsD (fromW s0) 256 ∧ l1 = lsD (fromW s1) 256 ∧ SolT g s0 s1 m0 m1 d := by
  rcases h with ⟨h, _⟩ | ⟨_, h⟩
  · rw [h] at hR
    cases hR
  · exact h
def exG13 : GameL := ⟨[0, 1], [0, 1], [[0, 1], [0, 1]]⟩
theorem exG13_R : isR exG13 = true := by decide
theorem shown13 {l0 l1 m0 m1 : List Int} {d : Int} (h : SolveT exG13 l0 l1 m0 m1 d) : l0 = [0] ∧ l1 = [1] ∧ m0.length = 2 ∧ m1.length = 2 ∧ gI m0 0 = 0 ∧ gI m1 1 = 1 ∧ 1 ≤ d := by
  obtain ⟨s0, s1, rfl, rfl, hS⟩ := h.right exG13_R
  have e0 : ∀ i, inP [1, 0, 0, 0] i ↔ i = 0 := fun i => by
    constructor
    · intro hi
      have := inP_ls.2 hi
      rw [show lsD (fromW ([1, 0, 0, 0] : List Int)) 256 = [0] by decide +kernel] at this
      simpa using this
    · rintro rfl
      exact inP_ls.1 (by rw [show lsD (fromW ([1, 0, 0, 0] : List Int)) 256 = [0] by decide +kernel]; simp)
  have e1 : ∀ i, inP [2, 0, 0, 0] i ↔ i = 1 := fun i => by
    constructor
    · intro hi
      have := inP_ls.2 hi
      rw [show lsD (fromW ([2, 0, 0, 0] : List Int)) 256 = [1] by decide +kernel] at this
      simpa using this
    · rintro rfl
      exact inP_ls.1 (by rw [show lsD (fromW ([2, 0, 0, 0] : List Int)) 256 = [1] by decide +kernel]; simp)
  have hsp : Split exG13 exG13.ow.length (inP [1, 0, 0, 0]) (inP [2, 0, 0, 0]) (fun _ => 0) (fun _ => 1) := by
    refine ⟨fun i a b => ?_, ⟨fun i hi => ?_, fun i hi e => ?_, fun i hi e => ?_, fun i hi e => ?_⟩, ⟨fun i hi => ?_, fun i hi e => ?_, fun i hi e => ?_, fun i hi e => ?_⟩⟩
    · have b : i < 2 := b
      rw [e0, e1]
      omega
    · rw [e0] at hi
      subst hi
      decide
    · rw [e0] at hi
      subst hi
      exact ⟨by decide, (e0 0).2 rfl⟩
    · rw [e0] at hi
      subst hi
      exact absurd rfl e
    · rw [e0] at hi
      subst hi
      exact absurd rfl e
    · rw [e1] at hi
      subst hi
      decide
    · rw [e1] at hi
      subst hi
      exact ⟨by decide, (e1 1).2 rfl⟩
    · rw [e1] at hi
      subst hi
      exact absurd rfl e
    · rw [e1] at hi
      subst hi
      exact absurd rfl e
  obtain ⟨r0, r1⟩ := sol_same exG13_R hS (okW_lit ⟨by omega, by omega⟩ ⟨by omega, by omega⟩ ⟨by omega, by omega⟩ ⟨by omega, by omega⟩) (okW_lit ⟨by omega, by omega⟩ ⟨by omega, by omega⟩ ⟨by omega, by omega⟩ ⟨by omega, by omega⟩) hsp
  subst r0 r1
  refine ⟨by decide +kernel, by decide +kernel, hS.l0, hS.l1, ?_, ?_, hS.d1⟩
  · have := (hS.sp.w0.own 0 ((e0 0).2 rfl) rfl).2
    exact (e0 _).1 this
  · have := (hS.sp.w1.own 1 ((e1 1).2 rfl) rfl).2
    exact (e1 _).1 this
end Go.Proofs.YtplpgfcjjnaigaaDoor
namespace Go.Proofs.YtplpgfcjjnaigaaDoor
open Go Go.RowKit
attribute [local irreducible] ofZ fromW wordsD ofD ofW lsD lenW lenN fullW withW lessW hasW hasD inW inD leastD putD onI tzI orS andS minusS orD andD minusD fullD emptyD
set_option maxHeartbeats 4000000 in
theorem shown13_any {w : World} (rT : RdT w 0 w.heap.size) :
    Calls Tryd.prog 12 #[] w fun e w' => e = .returned (.bool true) ∧ Ext w w' := by
 refine enter_ (args := []) Tryd.func12 rfl Tryd.ntmps12 (Nat.le_of_ble_eq_true rfl) (fun act0 f0 => ?_)
 have e0 : Ext w w := Ext.refl w
 refine sqs ?_
 refine At.rk f0 1 [] .n (fun act2 f1 => ?_)
 clear f0
 refine At.dn ?_
 refine sqs ?_
 refine At.seq f1 1 [[]] [(4, .slice (some ⟨w.heap.size, 0, none⟩) 2 2)] (w.alloc (.cells #[.int .i64 (0), .int .i64 (1)] 3 (0, 0))) [] κ trivial (fun act6 w3 hw4 f5 => ?_)
 clear f1; have g7 := gr_alloc hw4; have := g7.size; replace e0 := e0.gn g7; have aA := rT.gn g7; clear rT; have bx9 : Bx w3 (w.heap.size) [.int .i64 (0), .int .i64 (1)] 3 := Bx.new hw4; have := bx9.lt; clear g7 hw4
 refine At.seq f5 1 [[]] [(5, .slice (some ⟨w3.heap.size, 0, none⟩) 2 2)] (w3.alloc (.cells #[.int .i64 (0), .int .i64 (1)] 3 (0, 0))) [] κ trivial (fun cQ aQ bD bP => ?_)
 clear f5; have aT := gr_alloc bD; have := aT.size; replace e0 := e0.gn aT; replace aA := aA.gn aT; replace bx9 := bx9.gn aT; have aB : Bx aQ (w3.heap.size) [.int .i64 (0), .int .i64 (1)] 3 := Bx.new bD; have := aB.lt; clear aT bD
 refine At.seq bP 1 [[]] [(6, .slice (some ⟨aQ.heap.size, 0, none⟩) 2 2)] (aQ.alloc (.cells #[.int .i64 (0), .int .i64 (1)] 3 (0, 0))) [] κ trivial (fun cR aR bE bQ => ?_)
 clear bP; have aS := gr_alloc bE; have := aS.size; replace e0 := e0.gn aS; replace aA := aA.gn aS; replace bx9 := bx9.gn aS; replace aB := aB.gn aS; have aC : Bx aR (aQ.heap.size) [.int .i64 (0), .int .i64 (1)] 3 := Bx.new bE; have := aC.lt; clear aS bE
 refine At.seq bQ 1 [[]] [(7, .slice (some ⟨aR.heap.size, 0, none⟩) 2 2)] (aR.alloc (.cells #[.int .i64 (0), .int .i64 (1)] 3 (0, 0))) [] κ trivial (fun cS aL bF bR => ?_)
 clear bQ; have aP := gr_alloc bF; have := aP.size; replace e0 := e0.gn aP; replace aA := aA.gn aP; replace bx9 := bx9.gn aP; replace aB := aB.gn aP; replace aC := aC.gn aP; have aD : Bx aL (aR.heap.size) [.int .i64 (0), .int .i64 (1)] 3 := Bx.new bF; have := aD.lt; clear aP bF
 refine At.seq bR 1 [[]] [(8, .slice (some ⟨aL.heap.size, 0, none⟩) 2 2)] (aL.alloc (.cells #[.slice (some ⟨aQ.heap.size, 0, none⟩) 2 2, .slice (some ⟨aR.heap.size, 0, none⟩) 2 2] 22 (0, 0))) [] κ trivial (fun cT bG bH bS => ?_)
 clear bR; have aO := gr_alloc bH; have := aO.size; replace e0 := e0.gn aO; replace aA := aA.gn aO; replace bx9 := bx9.gn aO; replace aB := aB.gn aO; replace aC := aC.gn aO; replace aD := aD.gn aO; have aG : Bx bG (aL.heap.size) [.slice (some ⟨aQ.heap.size, 0, none⟩) 2 2, .slice (some ⟨aR.heap.size, 0, none⟩) 2 2] 22 := Bx.new bH; have := aG.lt; clear aO bH
 refine At.rk bS 1 [(9, .agg #[.slice (some ⟨w.heap.size, 0, none⟩) 2 2, .slice (some ⟨w3.heap.size, 0, none⟩) 2 2, .slice (some ⟨aL.heap.size, 0, none⟩) 2 2])] .n (fun cU bT => ?_)
 clear bS
 refine At.bx bT 1 [.slice none 0 0, .slice none 0 0, .slice none 0 0] 25 (fun cV aM bI cW bU => ?_)
 clear bT; have := aM.size; replace e0 := e0.gn aM; replace aA := aA.gn aM; replace bx9 := bx9.gn aM; replace aB := aB.gn aM; replace aC := aC.gn aM; replace aD := aD.gn aM; replace aG := aG.gn aM; have := bI.lt; clear aM
 refine At.store bU (t := 25) (b := bG.heap.size) (off := 0) (v := .agg #[.slice (some ⟨w.heap.size, 0, none⟩) 2 2, .slice (some ⟨w3.heap.size, 0, none⟩) 2 2, .slice (some ⟨aL.heap.size, 0, none⟩) 2 2]) κ bI κ (fun cX aU aN aH bV => ?_)
 clear bU
 replace aH : Bx aU (bG.heap.size) [.slice (some ⟨w.heap.size, 0, none⟩) 2 2, .slice (some ⟨w3.heap.size, 0, none⟩) 2 2, .slice (some ⟨aL.heap.size, 0, none⟩) 2 2] 25 := aH
 have := aN.size; replace e0 := e0.gr aN (fun k h => by injection h; omega); replace aA := aA.gb aN ω; replace bx9 := bx9.gb aN ω; replace aB := aB.gb aN ω; replace aC := aC.gb aN ω; replace aD := aD.gb aN ω; replace aG := aG.gb aN ω; clear bI aN
 refine At.dn ?_
 refine sqs ?_
 refine At.rk bV 1 [(11, .agg #[.slice (some ⟨w.heap.size, 0, none⟩) 2 2, .slice (some ⟨w3.heap.size, 0, none⟩) 2 2, .slice (some ⟨aL.heap.size, 0, none⟩) 2 2])] (.l (aH.cell (i := 0) rfl) <| .l (aH.cell (i := 1) rfl) <| .l (aH.cell (i := 2) rfl) <| .n) (fun cY bW => ?_)
 clear bV
 refine At.cl bW (some 12) (args := #[.agg #[.slice (some ⟨w.heap.size, 0, none⟩) 2 2, .slice (some ⟨w3.heap.size, 0, none⟩) 2 2, .slice (some ⟨aL.heap.size, 0, none⟩) 2 2]]) (solve_any (g := exG13) (RdG.mk (G := exG13) (Bx.rdI (l := ([0, 1] : List Int)) bx9 rfl (by first | decide | exact Nat.le_of_ble_eq_true rfl)) (Bx.rdI (l := ([0, 1] : List Int)) aB rfl (by first | decide | exact Nat.le_of_ble_eq_true rfl)) (Bx.rdII (ls := ([([0, 1] : List Int), ([0, 1] : List Int)] : List (List Int))) aG ⟨⟨_, _, rfl, (by decide), (Bx.rdI (l := ([0, 1] : List Int)) aC rfl (by first | decide | exact Nat.le_of_ble_eq_true rfl))⟩, ⟨_, _, rfl, (by decide), (Bx.rdI (l := ([0, 1] : List Int)) aD rfl (by first | decide | exact Nat.le_of_ble_eq_true rfl))⟩, trivial⟩ (by decide)) (by decide) (by decide) (by decide)) (aA.wide (Nat.zero_le _) ω)) ?_
 rintro e_ aJ ⟨aZ, bJ, bA, bK, bB, bL, bC, bM, la, lb, ma, mb, dd, rfl, he, bX, bY, bZ, cA, hsol⟩
 have hln_hsol := solve_lens hsol
 obtain ⟨hx1_, hx2_, hx3_, hx4_, hx5_, hx6_, hx7_⟩ := shown13 hsol
 have hx8_ : la.length = 1 := by rw [hx1_]; rfl
 have hx9_ : lb.length = 1 := by rw [hx2_]; rfl
 have hxa_ : gI la 0 = 0 := by rw [hx1_]; rfl
 have hxb_ : gI lb 0 = 1 := by rw [hx2_]; rfl
 have aV : RdI aJ (aU.heap.size) aJ.heap.size aZ la := (OwnR.rdR bX (by show _ * 8 ≤ _; omega)).rdI; clear bX; have aW : RdI aJ (aU.heap.size) aJ.heap.size bA lb := (OwnR.rdR bY (by show _ * 8 ≤ _; omega)).rdI; clear bY; have aX : RdI aJ (aU.heap.size) aJ.heap.size bB ma := (OwnR.rdR bZ (by show _ * 8 ≤ _; omega)).rdI; clear bZ
 have aY : RdI aJ (aU.heap.size) aJ.heap.size bC mb := (OwnR.rdR cA (by show _ * 8 ≤ _; omega)).rdI; clear cA
 refine ⟨_, rfl, _, rfl, fun cZ cB => ?_⟩
 clear bW; have aK := gr_ext he; have := aK.size; replace e0 := e0.gn aK; replace aA := aA.gn aK; replace bx9 := bx9.gn aK; replace aB := aB.gn aK; replace aC := aC.gn aK; replace aD := aD.gn aK; replace aG := aG.gn aK; replace aH := aH.gn aK; clear aK he
 refine At.rk cB 3 [(14, .int .i64 (dd)), (13, .agg #[.slice aZ la.length bJ, .slice bA lb.length bK, .slice bB ma.length bL, .slice bC mb.length bM])] .n (fun dA cC => ?_)
 clear cB
 refine At.bx cC 2 [.slice none 0 0, .slice none 0 0, .slice none 0 0, .slice none 0 0] 32 (fun dB aE bN dC cD => ?_)
 clear cC; have := aE.size; replace e0 := e0.gn aE; replace aA := aA.gn aE; replace bx9 := bx9.gn aE; replace aB := aB.gn aE; replace aC := aC.gn aE; replace aD := aD.gn aE; replace aG := aG.gn aE; replace aH := aH.gn aE; replace aV := aV.gn aE; replace aW := aW.gn aE; replace aX := aX.gn aE; replace aY := aY.gn aE; have := bN.lt; clear aE
 refine At.store cD (t := 32) (b := aJ.heap.size) (off := 0) (v := .agg #[.slice aZ la.length bJ, .slice bA lb.length bK, .slice bB ma.length bL, .slice bC mb.length bM]) κ bN κ (fun dD cG aF aI cE => ?_)
 clear cD; replace aI : Bx cG (aJ.heap.size) [.slice aZ la.length bJ, .slice bA lb.length bK, .slice bB ma.length bL, .slice bC mb.length bM] 32 := aI; have := aF.size; replace e0 := e0.gr aF (fun k h => by injection h; omega); replace aA := aA.gb aF ω; replace bx9 := bx9.gb aF ω; replace aB := aB.gb aF ω; replace aC := aC.gb aF ω; replace aD := aD.gb aF ω; replace aG := aG.gb aF ω
 replace aH := aH.gb aF ω; replace aV := aV.gb aF ω; replace aW := aW.gb aF ω; replace aX := aX.gb aF ω; replace aY := aY.gb aF ω; clear bN aF
 refine At.rk cE 1 [(3, .int .i64 (dd))] .n (fun dE cF => ?_)
 clear cE
 refine At.dn ?_
 clear bx9; clear aB; clear aC; clear aD; clear aG; clear aH
 refine wp_seq ?_
 refine sqs ?_
 refine At.rk cF 26 [(40, .bool false)] (.b 0 2 <| .l (aI.cell (i := 0) rfl) <| .v 19 (show (.bool ((((la.length : Nat) : Int) : Int) != 1) : Value) = .bool false from (congrArg Value.bool (bneF ω))) <| .b 1 2 <| .l (aI.cell (i := 1) rfl) <| .v 25 (show (.bool ((((lb.length : Nat) : Int) : Int) != 1) : Value) = .bool false from (congrArg Value.bool (bneF ω))) <| .b 0 2 <| .l (aI.cell (i := 2) rfl) <| .v 32 (show (.bool ((((ma.length : Nat) : Int) : Int) != 2) : Value) = .bool false from (congrArg Value.bool (bneF ω))) <| .b 1 2 <| .l (aI.cell (i := 3) rfl) <| .v 39 (show (.bool ((((mb.length : Nat) : Int) : Int) != 2) : Value) = .bool false from (congrArg Value.bool (bneF ω))) <| .n) (fun dF bO => ?_)
 clear cF
 refine At.dn ?_
 refine cond_F bO rfl ?_
 refine wp_skip ?_
 refine t_n ?_
 refine sqs ?_
 obtain ⟨dG, cH, _, _, cI⟩ := RdI.get aV (0) ω ω
 obtain ⟨dH, cJ, _, _, cK⟩ := RdI.get aW (0) ω ω
 obtain ⟨dI, cL, _, _, cM⟩ := RdI.get aX (0) ω ω
 obtain ⟨dJ, cN, _, _, cO⟩ := RdI.get aY (1) ω ω
 refine At.rk bO 35 [(0, .bool true)] (.b 0 2 <| .l (aI.cell (i := 0) rfl) <| .a 0 la.length cH <| .l cI <| .v 46 (show (.bool ((gI la (0) : Int) == 0) : Value) = .bool true from (congrArg Value.bool (beqT ω))) <| .b 1 2 <| .l (aI.cell (i := 1) rfl) <| .a 0 lb.length cJ <| .l cK <| .v 53 (show (.bool ((gI lb (0) : Int) == 1) : Value) = .bool true from (congrArg Value.bool (beqT ω))) <| .b 0 2 <| .l (aI.cell (i := 2) rfl) <| .a 0 ma.length cL <| .l cM <| .v 61 (show (.bool ((gI ma (0) : Int) == 0) : Value) = .bool true from (congrArg Value.bool (beqT ω))) <| .b 1 2 <| .l (aI.cell (i := 3) rfl) <| .a 1 mb.length cN <| .l cO <| .v 69 (show (.bool ((gI mb (1) : Int) == 1) : Value) = .bool true from (congrArg Value.bool (beqT ω))) <| .v 73 (show (.bool (decide ((dd : Int) ≥ 1)) : Value) = .bool true from (congrArg Value.bool (decide_eq_true ω))) <| .n) (fun dK cP => ?_)
 clear bO
 refine At.dn ?_
 clear aI
 refine wp_ret ?_
 refine ret_ cP [] [.bool true] [] κ trivial ?_
 exact ⟨rfl, e0⟩
end Go.Proofs.YtplpgfcjjnaigaaDoor
namespace Go.Proofs.YtplpgfcjjnaigaaDoor
open Go Go.RowKit
def inB (l : List Bool) (i : Int) : Prop := 0 ≤ i ∧ gB l i = true
instance (l : List Bool) (i : Int) : Decidable (inB l i) := by unfold inB; exact inferInstance
theorem inB_lt {l : List Bool} {i : Int} (h : inB l i) : i < (l.length : Int) := by
  apply Classical.byContradiction
  intro hn
  have := h.2
  rw [gB_out (by omega)] at this
  cases this
structure LiveB (g : GameL) (l : List Bool) : Prop where
  len : l.length = g.ow.length
  mv : ∀ i, inB l i → ∃ x ∈ gL g.mv i, inB l x
structure LessT (a b c : List Bool) : Prop where
  len : c.length = a.length
  at_ : ∀ j : Int, 0 ≤ j → j < (a.length : Int) → gB c j = (gB a j && !gB b j)
structure WonP (g : GameL) (l : List Bool) (p : Int) (a b : List Bool) : Prop where
  la : a.length = g.ow.length
  lb : b.length = g.ow.length
  all : ∀ i, inB l i ↔ inB a i ∨ inB b i
  wp : ∃ f, WinT g (inB l) p f (inB a)
  wq : ∃ f, WinT g (inB l) (1 - p) f (inB b)
section
variable {g : GameL} {I A B M T S a b c c2 a2 b2 a3 b3 : List Bool} {p t : Int}
theorem WonP.swap (h : WonP g I p a b) : WonP g I (1 - p) b a := ⟨h.lb, h.la, fun i => (h.all i).trans or_comm, h.wq, by rw [show 1 - (1 - p) = p by omega]; exact h.wp⟩
theorem less_in (h : LessT a b c) (i : Int) : inB c i ↔ inB a i ∧ ¬ inB b i := by
  constructor
  · intro hi
    have h1 := inB_lt hi
    have h2 := hi.2
    rw [h.at_ i hi.1 (by rw [← h.len]; exact h1), Bool.and_eq_true] at h2
    exact ⟨⟨hi.1, h2.1⟩, fun hb => by rw [hb.2] at h2; cases h2.2⟩
  · rintro ⟨h1, h2⟩
    refine ⟨h1.1, ?_⟩
    rw [h.at_ i h1.1 (inB_lt h1), h1.2]
    cases hb : gB b i with
    | false => rfl
    | true => exact absurd ⟨h1.1, hb⟩ h2
theorem live_lt (hL : LiveB g I) {i : Int} (h : inB I i) : i < (g.ow.length : Int) := by rw [← hL.len]; exact inB_lt h
theorem attB_sub (hL : LiveB g I) (hn : g.ow.length ≤ 200) (hl : S.length = g.ow.length) (h : AttrT g I p T S) : ∀ i, inB S i → inB I i := fun i hi => ⟨hi.1, h.sub i hi.1 (by have := inB_lt hi; omega) hi.2⟩
theorem attB_base (hL : LiveB g I) (hn : g.ow.length ≤ 200) (h : AttrT g I p T S) : ∀ i, inB T i → inB I i → inB S i := fun i hi hI => ⟨hi.1, h.cl.base i hi.1 (by have := live_lt hL hI; omega) hi.2 hI.2⟩
theorem attB_own (hL : LiveB g I) (h : AttrT g I p T S) : ∀ i, inB I i → ¬ inB S i → gI g.ow i = p → ∀ m ∈ gL g.mv i, inB I m → ¬ inB S m := fun i hi hs e m hm hI hS =>
  hs ⟨hi.1, h.cl.own i hi.1 (live_lt hL hi) hi.2 e m hm hI.2 hS.2⟩
theorem attB_live (hR : isR g = true) (hL : LiveB g I) (hl : S.length = g.ow.length) (h : AttrT g I p T S) (hc : LessT I S c) : LiveB g c := by
  refine ⟨by rw [hc.len, hL.len], fun i hi => ?_⟩
  obtain ⟨h1, h2⟩ := (less_in hc i).1 hi
  by_cases e : gI g.ow i = p
  · obtain ⟨x, hx, hI⟩ := hL.mv i h1
    exact ⟨x, hx, (less_in hc x).2 ⟨hI, attB_own hL h i h1 h2 e x hx hI⟩⟩
  · apply Classical.byContradiction
    intro hno
    obtain ⟨x, hx, hI⟩ := hL.mv i h1
    refine h2 ⟨h1.1, h.cl.oth i h1.1 (live_lt hL h1) h1.2 e ⟨x, hx, hI.2⟩ fun y hy hyI => ?_⟩
    have hy0 := row_rng hR h1.1 (live_lt hL h1) hy
    cases hs : gB S y with
    | true => rfl
    | false => exact absurd ⟨y, hy, (less_in hc y).2 ⟨⟨hy0.1, hyI⟩, fun k => by rw [k.2] at hs; cases hs⟩⟩ hno
inductive DrN (g : GameL) (I : Int → Prop) (p : Int) (T : Int → Prop) : Nat → Int → Prop
  | base {n : Nat} {i : Int} : T i → I i → DrN g I p T n i
  | own {n : Nat} {i x : Int} : I i → gI g.ow i = p → x ∈ gL g.mv i → I x → DrN g I p T n x → DrN g I p T (n + 1) i
  | oth {n : Nat} {i : Int} : I i → gI g.ow i ≠ p → (∃ x ∈ gL g.mv i, I x) → (∀ x ∈ gL g.mv i, I x → DrN g I p T n x) → DrN g I p T (n + 1) i
theorem DrN.mono {J U : Int → Prop} {n : Nat} {i : Int} (h : DrN g J p U n i) : ∀ m, n ≤ m → DrN g J p U m i := by
  induction h with
  | base h1 h2 => exact fun m _ => .base h1 h2
  | own h1 h2 h3 h4 _ ih =>
    intro m hm
    obtain ⟨k, rfl⟩ : ∃ k, m = k + 1 := ⟨m - 1, by omega⟩
    exact .own h1 h2 h3 h4 (ih k (by omega))
  | oth h1 h2 h3 _ ih =>
    intro m hm
    obtain ⟨k, rfl⟩ : ∃ k, m = k + 1 := ⟨m - 1, by omega⟩
    exact .oth h1 h2 h3 (fun x hx hJ => ih x hx hJ k (by omega))
theorem all_bound {P : Int → Prop} {Q : Nat → Int → Prop} (hm : ∀ n m i, n ≤ m → Q n i → Q m i) : ∀ (l : List Int), (∀ x ∈ l, P x → ∃ n, Q n x) → ∃ n, ∀ x ∈ l, P x → Q n x
  | [], _ => ⟨0, fun x hx => by cases hx⟩
  | y :: l, h => by
    obtain ⟨n, hn⟩ := all_bound hm l fun x hx => h x (List.mem_cons_of_mem _ hx)
    by_cases hp : P y
    · obtain ⟨k, hk⟩ := h y List.mem_cons_self hp
      refine ⟨n + k, fun x hx hP => ?_⟩
      rcases List.mem_cons.1 hx with rfl | hx
      · exact hm k _ _ (by omega) hk
      · exact hm n _ _ (by omega) (hn x hx hP)
    · refine ⟨n, fun x hx hP => ?_⟩
      rcases List.mem_cons.1 hx with rfl | hx
      · exact absurd hP hp
      · exact hn x hx hP
theorem least_n {Q : Nat → Prop} : ∀ n, Q n → ∃ r, Q r ∧ ∀ m, Q m → r ≤ m
  | n, h => by
    induction n using Nat.strongRecOn with
    | ind n ih =>
      by_cases he : ∃ m, m < n ∧ Q m
      · obtain ⟨m, h1, h2⟩ := he
        exact ih m h1 h2
      · exact ⟨n, h, fun m hm => Nat.le_of_not_lt fun k => he ⟨m, k, hm⟩⟩
theorem dr_in (hR : isR g = true) (hL : LiveB g I) (h : AttrT g I p T S) {n : Nat} {i : Int} (hd : DrN g (inB I) p (inB T) n i) : inB S i := by
  have hn := (isR_ok hR).n1
  induction hd with
  | base h1 h2 => exact attB_base hL hn h _ h1 h2
  | own h1 h2 h3 h4 _ ih => exact ⟨h1.1, h.cl.own _ h1.1 (live_lt hL h1) h1.2 h2 _ h3 h4.2 ih.2⟩
  | oth h1 h2 h3 _ ih =>
    obtain ⟨x, hx, hI⟩ := h3
    refine ⟨h1.1, h.cl.oth _ h1.1 (live_lt hL h1) h1.2 h2 ⟨x, hx, hI.2⟩ fun y hy hyI => (ih y hy ⟨(row_rng hR h1.1 (live_lt hL h1) hy).1, hyI⟩).2⟩
theorem in_dr (hR : isR g = true) (hL : LiveB g I) (hl : S.length = g.ow.length) (h : AttrT g I p T S) {i : Int} (hi : inB S i) : ∃ n, DrN g (inB I) p (inB T) n i := by
  classical
  have hn := (isR_ok hR).n1
  have key : ∀ j : Int, 0 ≤ j → j < 256 → (gB ((List.range 256).map (fun k : Nat => decide (∃ n, DrN g (inB I) p (inB T) n (k : Int)))) j = true ↔ ∃ n, DrN g (inB I) p (inB T) n j) := fun j a b => by
    simp only [gB, List.getD_eq_getElem?_getD, List.getElem?_map, List.getElem?_range (show j.toNat < 256 by omega), Option.map_some, Option.getD_some]
    rw [decide_eq_true_iff, show ((j.toNat : Nat) : Int) = j by omega]
  have hlt := inB_lt hi
  refine (key i hi.1 (by omega)).1 (h.least _ ⟨fun j a b c d => (key j a b).2 ⟨0, .base ⟨a, c⟩ ⟨a, d⟩⟩, fun j a b c e x hx d f => ?_, fun j a b c e d f => ?_⟩ i hi.1 (by omega) hi.2)
  · have hr := row_rng hR a b hx
    obtain ⟨n, hd⟩ := (key x hr.1 (by omega)).1 f
    exact (key j a (by omega)).2 ⟨n + 1, .own ⟨a, c⟩ e hx ⟨hr.1, d⟩ hd⟩
  · obtain ⟨n, hd⟩ := all_bound (P := inB I) (Q := fun n x => DrN g (inB I) p (inB T) n x) (fun n m i h k => k.mono m h) (gL g.mv j) (fun x hx hI => (key x hI.1 (by have := row_rng hR a b hx; omega)).1 (f x hx hI.2))
    obtain ⟨x, hx, hI⟩ := d
    exact (key j a (by omega)).2 ⟨n + 1, .oth ⟨a, c⟩ e ⟨x, hx, (row_rng hR a b hx).1, hI⟩ hd⟩
theorem draw_A (hR : isR g = true) (hL : LiveB g I) (hl : S.length = g.ow.length) (h : AttrT g I p T S) : ∃ (f : Int → Int) (rk : Int → Nat), Draw g (inB I) p f (inB T) (inB S) rk := by
  classical
  have hn := (isR_ok hR).n1
  have h1 : ∀ i, ∃ r, (∃ n, DrN g (inB I) p (inB T) n i) → DrN g (inB I) p (inB T) r i ∧ ∀ m, DrN g (inB I) p (inB T) m i → r ≤ m := fun i => by
    by_cases he : ∃ n, DrN g (inB I) p (inB T) n i
    · obtain ⟨n, hd⟩ := he
      obtain ⟨r, hr⟩ := least_n (Q := fun n => DrN g (inB I) p (inB T) n i) n hd
      exact ⟨r, fun _ => hr⟩
    · exact ⟨0, fun k => absurd k he⟩
  have h2 : ∃ rk : Int → Nat, ∀ i, (∃ n, DrN g (inB I) p (inB T) n i) → DrN g (inB I) p (inB T) (rk i) i ∧ ∀ m, DrN g (inB I) p (inB T) m i → rk i ≤ m := ⟨fun i => (h1 i).choose, fun i => (h1 i).choose_spec⟩
  obtain ⟨rk, hrk⟩ := h2
  have h3 : ∀ i, ∃ y, inB S i → ¬ inB T i → gI g.ow i = p → y ∈ gL g.mv i ∧ inB S y ∧ rk y < rk i := fun i => by
    by_cases hc : inB S i ∧ ¬ inB T i ∧ gI g.ow i = p
    · obtain ⟨ha, hb, hp⟩ := hc
      have hd := (hrk i (in_dr hR hL hl h ha)).1
      generalize hq : rk i = q at hd
      cases hd with
      | base k1 k2 => exact absurd k1 hb
      | own k1 k2 k3 k4 k5 =>
        rename_i m x
        have := (hrk x ⟨m, k5⟩).2 m k5
        exact ⟨x, fun _ _ _ => ⟨k3, dr_in hR hL h k5, by omega⟩⟩
      | oth k1 k2 k3 k4 => exact absurd hp k2
    · exact ⟨0, fun k1 k2 k3 => absurd ⟨k1, k2, k3⟩ hc⟩
  refine ⟨fun i => (h3 i).choose, rk, attB_sub hL hn hl h, fun i ha hb hp => (h3 i).choose_spec ha hb hp, fun i ha hb hp m hm hI => ?_⟩
  have hd := (hrk i (in_dr hR hL hl h ha)).1
  generalize hq : rk i = q at hd
  cases hd with
  | base k1 k2 => exact absurd k1 hb
  | own k1 k2 k3 k4 k5 => exact absurd k2 hp
  | oth k1 k2 k3 k4 =>
    rename_i m'
    have k5 := k4 m hm hI
    have := (hrk m ⟨m', k5⟩).2 m' k5
    exact ⟨dr_in hR hL h k5, by omega⟩
theorem Draw.congr {J T A : Int → Prop} {f f' : Int → Int} {rk : Int → Nat} (h : Draw g J p f T A rk) (he : ∀ i, A i → ¬ T i → gI g.ow i = p → f' i = f i) : Draw g J p f' T A rk :=
  ⟨h.sub, fun i a b e => by rw [he i a b e]; exact h.own i a b e, h.oth⟩
theorem won_all (hR : isR g = true) (hL : LiveB g I) (hM : ∀ i, inB M i ↔ inB I i ∧ gI g.pr i = t) (ht : ∀ i, inB I i → gI g.pr i ≤ t) (hp : t % 2 = p) (hl : A.length = g.ow.length) (hA : AttrT g I p M A) (hc : LessT I A c) (h : WonP g c p a b) (hb : ∀ i, ¬ inB b i) :
    ∃ f, WinT g (inB I) p f (inB I) := by
  classical
  have hn := (isR_ok hR).n1
  obtain ⟨fA, rk, hd⟩ := draw_A hR hL hl hA
  obtain ⟨fr, hw⟩ := h.wp
  have h1 : ∀ i, ∃ y, inB I i → y ∈ gL g.mv i ∧ inB I y := fun i => by
    by_cases hi : inB I i
    · obtain ⟨x, hx, hI⟩ := hL.mv i hi
      exact ⟨x, fun _ => ⟨hx, hI⟩⟩
    · exact ⟨0, fun k => absurd k hi⟩
  have hMA : ∀ i, inB M i → inB A i := fun i hi => attB_base hL hn hA i hi ((hM i).1 hi).1
  refine ⟨fun i => if inB M i then (h1 i).choose else if inB A i then fA i else fr i, ?_⟩
  refine win_top (A := inB A) (M := inB M) (t := t) (rk := rk) hM ht hp (hd.congr fun i ha hm e => by rw [if_neg hm, if_pos ha]) hMA (fun i hm e => ?_) ?_
  · rw [if_pos hm]
    exact (h1 i).choose_spec ((hM i).1 hm).1
  · have h2 : WinT g (fun i => inB I i ∧ ¬ inB A i) p fr (fun i => inB I i ∧ ¬ inB A i) :=
      (hw.iffI (fun i => (less_in hc i).symm)).iff (fun i => by
        rw [← less_in hc i, h.all i]
        exact ⟨fun k => k.elim id (fun k => absurd k (hb i)), .inl⟩)
    exact h2.congr fun i hi e => by rw [if_neg (fun k => hi.2 (hMA i k)), if_neg hi.2]
theorem won_two (hR : isR g = true) (hp : p = 0 ∨ p = 1) (hL : LiveB g I) (hl : A.length = g.ow.length) (hA : AttrT g I p M A) (hc : LessT I A c) (h : WonP g c p a b) (hlB : B.length = g.ow.length) (hB : AttrT g I (1 - p) b B) (hc2 : LessT I B c2) (h2 : WonP g c2 p a2 b2)
    (hla : a3.length = g.ow.length) (hlb : b3.length = g.ow.length) (ha3 : ∀ i, inB a3 i ↔ inB a2 i) (hb3 : ∀ i, inB b3 i ↔ inB b2 i ∨ inB B i) : WonP g I p a3 b3 := by
  classical
  have hG := isR_ok hR
  have hn := hG.n1
  have hsB := attB_sub hL hn hlB hB
  have hbc : ∀ i, inB b i → inB I i ∧ ¬ inB A i := fun i hi => (less_in hc i).1 ((h.all i).2 (.inr hi))
  have hbB : ∀ i, inB b i → inB B i := fun i hi => attB_base hL hn hB i hi (hbc i hi).1
  have how : ∀ i, inB I i → gI g.ow i = 0 ∨ gI g.ow i = 1 := fun i hi => hG.ow i hi.1 (live_lt hL hi)
  obtain ⟨fb, hwb⟩ := h.wq
  obtain ⟨fB, rk, hd⟩ := draw_A hR hL hlB hB
  obtain ⟨f2, hw2⟩ := h2.wq
  have k1 : WinT g (fun i => inB I i ∧ ¬ inB A i) (1 - p) fb (inB b) := hwb.iffI (fun i => (less_in hc i).symm)
  have k2 : WinT g (inB I) (1 - p) fb (inB b) := win_part k1 (fun i hi => hi.1) (fun i hi e m hm hI => ⟨hI, attB_own hL hA i (hbc i hi).1 (hbc i hi).2 (by
    have := how i (hbc i hi).1
    omega) m hm hI⟩)
  have k3 : WinT g (inB I) (1 - p) (fun i => if inB b i then fb i else fB i) (inB B) :=
    win_draw (r := fun n => n) (k2.congr fun i hi e => if_pos hi) (hd.congr fun i _ hi e => if_neg hi) hbB
  refine ⟨hla, hlb, fun i => ?_, ?_, ?_⟩
  · rw [ha3, hb3]
    have h3 := h2.all i
    rw [less_in hc2 i] at h3
    constructor
    · intro hi
      by_cases hg : inB B i
      · exact .inr (.inr hg)
      · exact (h3.1 ⟨hi, hg⟩).elim .inl (fun k => .inr (.inl k))
    · rintro (k | k | k)
      · exact (h3.2 (.inl k)).1
      · exact (h3.2 (.inr k)).1
      · exact hsB i k
  · obtain ⟨f1, hw1⟩ := h2.wp
    have h3 : WinT g (fun i => inB I i ∧ ¬ inB B i) p f1 (inB a2) := hw1.iffI (fun i => (less_in hc2 i).symm)
    refine ⟨f1, (win_part h3 (fun i hi => hi.1) (fun i hi e m hm hI => ⟨hI, ?_⟩)).iff ha3⟩
    have h4 := h3.sub i hi
    have := how i h4.1
    exact attB_own hL hB i h4.1 h4.2 (by omega) m hm hI
  · have h3 : WinT g (fun i => inB I i ∧ ¬ inB B i) (1 - p) f2 (inB b2) := hw2.iffI (fun i => (less_in hc2 i).symm)
    refine ⟨fun i => if inB B i then (if inB b i then fb i else fB i) else f2 i, (win_both (A := inB B) (V := inB b2) (k3.congr fun i hi e => if_pos hi) (h3.congr fun i hi e => if_neg (h3.sub i hi).2)).iff (fun i => by rw [hb3]; exact or_comm)⟩
theorem won_empty (h : ∀ i, ¬ inB I i) (hla : a.length = g.ow.length) (hlb : b.length = g.ow.length) (ha : ∀ i, ¬ inB a i) (hb : ∀ i, ¬ inB b i) : WonP g I p a b :=
  ⟨hla, hlb, fun i => ⟨fun k => absurd k (h i), fun k => absurd k (fun k => k.elim (ha i) (hb i))⟩, ⟨fun i => i, win_none.iff (fun i => ⟨fun k => ha i k, fun k => k.elim⟩)⟩, ⟨fun i => i, win_none.iff (fun i => ⟨fun k => hb i k, fun k => k.elim⟩)⟩⟩
theorem won_one (h : ∃ f, WinT g (inB I) p f (inB I)) (hl : I.length = g.ow.length) (hlb : b.length = g.ow.length) (hb : ∀ i, ¬ inB b i) : WonP g I p I b :=
  ⟨hl, hlb, fun i => ⟨.inl, fun k => k.elim id (fun k => absurd k (hb i))⟩, h, ⟨fun i => i, win_none.iff (fun i => ⟨fun k => hb i k, fun k => k.elim⟩)⟩⟩
theorem rep_in (n : Nat) (i : Int) : ¬ inB (List.replicate n false) i := fun h => by
  have := h.2
  rw [gB_rep] at this
  cases this
theorem less_dec (hc : LessT I A c) (hn : I.length ≤ 200) (h : ∃ i, inB I i ∧ inB A i) : cT c 256 < cT I 256 := by
  obtain ⟨i, h1, h2⟩ := h
  have hlt := inB_lt h1
  have hno : ¬ gB c i = true := fun k => ((less_in hc i).1 ⟨h1.1, k⟩).2 h2
  have key : ∀ n : Nat, cT c n + (if i < (n : Int) then 1 else 0) ≤ cT I n := by
    intro n
    induction n with
    | zero => rw [cT_0, cT_0, if_neg (by have := h1.1; omega)]; omega
    | succ n ih =>
      rw [cT_s, cT_s]
      by_cases e : i = (n : Int)
      · rw [← e, if_neg hno, if_pos h1.2, if_pos (by omega)]
        rw [if_neg (by omega)] at ih
        omega
      · have h3 : gB c (n : Int) = true → gB I (n : Int) = true := fun k => ((less_in hc _).1 ⟨by omega, k⟩).1.2
        have e3 : (if i < ((n + 1 : Nat) : Int) then (1 : Int) else 0) = if i < (n : Int) then 1 else 0 := by
          by_cases h5 : i < (n : Int)
          · rw [if_pos h5, if_pos (by omega)]
          · rw [if_neg h5, if_neg (by omega)]
        rw [e3]
        cases h4 : gB c (n : Int)
        · cases gB I (n : Int) <;> simp <;> omega
        · rw [h3 h4]
          simp
          omega
  have := key 256
  rw [if_pos (by omega)] at this
  omega
theorem rep_live (hR : isR g = true) : LiveB g (List.replicate g.ow.length true) ∧ ∀ i, inB (List.replicate g.ow.length true) i ↔ 0 ≤ i ∧ i < (g.ow.length : Int) := by
  have hG := isR_ok hR
  have key : ∀ i, inB (List.replicate g.ow.length true) i ↔ 0 ≤ i ∧ i < (g.ow.length : Int) := fun i => by
    constructor
    · intro h
      have := inB_lt h
      rw [List.length_replicate] at this
      exact ⟨h.1, this⟩
    · rintro ⟨h1, h2⟩
      refine ⟨h1, ?_⟩
      simp only [gB, List.getD_eq_getElem?_getD, List.getElem?_replicate]
      rw [if_pos (by omega)]
      rfl
  refine ⟨⟨List.length_replicate, fun i hi => ?_⟩, key⟩
  obtain ⟨a, b⟩ := (key i).1 hi
  have hne := hG.ne i a b
  have hm := hG.mv i a b 0 (Int.le_refl _) (by omega)
  refine ⟨gI (gL g.mv i) 0, ?_, (key _).2 hm⟩
  rw [gI_eq (Int.le_refl _) (by omega)]
  exact List.getElem_mem _
theorem won_split (hR : isR g = true) (h : WonP g (List.replicate g.ow.length true) 0 a b) : ∃ f0 f1, Split g g.ow.length (inB a) (inB b) f0 f1 := by
  have hk := (rep_live hR).2
  obtain ⟨f0, w0⟩ := h.wp
  obtain ⟨f1, w1⟩ := h.wq
  exact ⟨f0, f1, fun i x y => (h.all i).1 ((hk i).2 ⟨x, y⟩), w0.iffI (fun i => (hk i).symm), w1.iffI (fun i => (hk i).symm)⟩
end
end Go.Proofs.YtplpgfcjjnaigaaDoor
namespace Go.Proofs.YtplpgfcjjnaigaaDoor
open Go Go.RowKit
def someB (l : List Bool) : Bool := l.any id
theorem gB_at {l : List Bool} {k : Int} (h0 : 0 ≤ k) (h1 : k < (l.length : Int)) : gB l k = l[k.toNat]'(by omega) := by
  rw [gB, List.getD_eq_getElem?_getD, List.getElem?_eq_getElem (by omega), Option.getD_some]
theorem some_iff {l : List Bool} : someB l = true ↔ ∃ i, inB l i := by
  unfold someB
  rw [List.any_eq_true]
  constructor
  · rintro ⟨x, hx, h⟩
    obtain ⟨k, hk, rfl⟩ := List.mem_iff_getElem.1 hx
    refine ⟨(k : Int), by omega, ?_⟩
    rw [gB_at (by omega) (by omega)]
    exact h
  · rintro ⟨i, h⟩
    have h1 := inB_lt h
    refine ⟨gB l i, ?_, h.2⟩
    rw [gB_at h.1 h1]
    exact List.getElem_mem _
theorem some_yes {l : List Bool} {k : Int} (h0 : 0 ≤ k) (h : gB l k = true) : true = someB l := (some_iff.2 ⟨k, h0, h⟩).symm
theorem someB_no {l : List Bool} {k : Int} (h : ∀ j : Int, 0 ≤ j → j < k → gB l j = false) (h1 : (l.length : Int) ≤ k) : false = someB l := by
  cases hs : someB l with
  | false => rfl
  | true =>
    obtain ⟨i, hi⟩ := some_iff.1 hs
    have := h i hi.1 (by have := inB_lt hi; omega)
    rw [hi.2] at this
    cases this
theorem none_next {l : List Bool} {k : Int} (h : ∀ j : Int, 0 ≤ j → j < k → gB l j = false) (h1 : gB l k = false) : ∀ j : Int, 0 ≤ j → j < k + 1 → gB l j = false := fun j a b => by
  by_cases e : j = k
  · rw [e]
    exact h1
  · exact h j a (by omega)
structure LessK (a b c : List Bool) (k : Int) : Prop where
  len : c.length = a.length
  at_ : ∀ j : Int, 0 ≤ j → j < k → gB c j = (gB a j && !gB b j)
theorem lessK_0 {a b : List Bool} : LessK a b (List.replicate a.length false) 0 := ⟨List.length_replicate, fun j x y => by omega⟩
theorem setB_next {P : Int → Bool → Prop} {c : List Bool} {k : Int} {v : Bool} (h : ∀ j : Int, 0 ≤ j → j < k → P j (gB c j)) (h0 : 0 ≤ k) (h1 : k < (c.length : Int)) (hv : P k v) : ∀ j : Int, 0 ≤ j → j < k + 1 → P j (gB (c.set k.toNat v) j) := fun j a b => by
  rw [gB_setL h0 h1 a]
  by_cases e : k = j
  · subst e
    rw [if_pos rfl]
    exact hv
  · rw [if_neg e]
    exact h j a (by omega)
theorem lessK_next {a b c : List Bool} {k : Int} {v : Bool} (h : LessK a b c k) (h0 : 0 ≤ k) (h1 : k < (a.length : Int)) (hv : v = (gB a k && !gB b k)) : LessK a b (c.set k.toNat v) (k + 1) :=
  ⟨by rw [List.length_set]; exact h.len, setB_next (P := fun j x => x = (gB a j && !gB b j)) h.at_ h0 (by rw [h.len]; exact h1) hv⟩
theorem lessK_end {a b c : List Bool} {k : Int} (h : LessK a b c k) (h1 : (a.length : Int) ≤ k) : LessT a b c := ⟨h.len, fun j x y => h.at_ j x (by omega)⟩
def MaxT (g : GameL) (l : List Bool) (t k : Int) : Prop := (t = -1 ∨ ∃ i, 0 ≤ i ∧ i < k ∧ gB l i = true ∧ gI g.pr i = t) ∧ ∀ i, 0 ≤ i → i < k → gB l i = true → gI g.pr i ≤ t
theorem max_0 {g : GameL} {l : List Bool} : MaxT g l (-1) 0 := ⟨.inl rfl, fun i a b => by omega⟩
section
variable {g : GameL} {l m : List Bool} {t k : Int} {v : Bool}
theorem max_keep (h : MaxT g l t k) (hn : gB l k = true → ¬ gI g.pr k > t) : MaxT g l t (k + 1) := by
  refine ⟨h.1.imp id (fun ⟨i, a, b, c⟩ => ⟨i, a, by omega, c⟩), fun i a b c => ?_⟩
  by_cases e : i = k
  · subst e
    have := hn c
    omega
  · exact h.2 i a (by omega) c
theorem max_up (h : MaxT g l t k) (h0 : 0 ≤ k) (hb : gB l k = true) (hn : gI g.pr k > t) : MaxT g l (gI g.pr k) (k + 1) := by
  refine ⟨.inr ⟨k, h0, by omega, hb, rfl⟩, fun i a b c => ?_⟩
  by_cases e : i = k
  · subst e
    exact Int.le_refl _
  · have := h.2 i a (by omega) c
    omega
structure MosK (g : GameL) (l m : List Bool) (t k : Int) : Prop where
  len : m.length = l.length
  at_ : ∀ j : Int, 0 ≤ j → j < k → gB m j = (gB l j && (gI g.pr j == t))
theorem mosK_0 : MosK g l (List.replicate l.length false) t 0 := ⟨List.length_replicate, fun j a b => by omega⟩
theorem mosK_next (h : MosK g l m t k) (h0 : 0 ≤ k) (h1 : k < (l.length : Int)) (hv : v = (gB l k && (gI g.pr k == t))) : MosK g l (m.set k.toNat v) t (k + 1) :=
  ⟨by rw [List.length_set]; exact h.len, setB_next (P := fun j x => x = (gB l j && (gI g.pr j == t))) h.at_ h0 (by rw [h.len]; exact h1) hv⟩
theorem most_in (h : MosK g l m t k) (h1 : (l.length : Int) ≤ k) (i : Int) : inB m i ↔ inB l i ∧ gI g.pr i = t := by
  constructor
  · intro hi
    have hlt := inB_lt hi
    rw [h.len] at hlt
    have := hi.2
    rw [h.at_ i hi.1 (by omega), Bool.and_eq_true, beq_iff_eq] at this
    exact ⟨⟨hi.1, this.1⟩, this.2⟩
  · rintro ⟨h2, h3⟩
    refine ⟨h2.1, ?_⟩
    rw [h.at_ i h2.1 (by have := inB_lt h2; omega), h2.2, h3]
    simp
structure HghT (g : GameL) (l : List Bool) (t : Int) : Prop where
  le : ∀ i, inB l i → gI g.pr i ≤ t
  ex : ∃ i, inB l i ∧ gI g.pr i = t
  ge : 0 ≤ t
theorem max_end (hG : RightG g) (hL : LiveB g l) (h : MaxT g l t k) (h1 : (l.length : Int) ≤ k) (hs : someB l = true) : HghT g l t := by
  obtain ⟨i, hi⟩ := some_iff.1 hs
  have hle : ∀ i, inB l i → gI g.pr i ≤ t := fun i hi => h.2 i hi.1 (by have := inB_lt hi; omega) hi.2
  have h2 := hle i hi
  have h3 := (hG.pr i hi.1 (live_lt hL hi)).1
  refine ⟨hle, ?_, by omega⟩
  rcases h.1 with h4 | ⟨j, a, b, c, d⟩
  · omega
  · exact ⟨j, ⟨a, c⟩, d⟩
structure GotK (b x x3 : List Bool) (v : Bool) (k : Int) : Prop where
  len : x3.length = x.length
  at_ : ∀ j : Int, 0 ≤ j → j < (x.length : Int) → gB x3 j = if j < k ∧ gB b j = true then v else gB x j
theorem got_0 {b x : List Bool} : GotK b x x v 0 := ⟨rfl, fun j a c => by rw [if_neg (by omega)]⟩
theorem got_yes {b x x3 : List Bool} {u : Bool} (h : GotK b x x3 v k) (h0 : 0 ≤ k) (h1 : k < (x.length : Int)) (hb : gB b k = true) (hu : u = v) : GotK b x (x3.set k.toNat u) v (k + 1) := by
  have hl := h.len
  refine ⟨by rw [List.length_set]; exact hl, fun j a c => ?_⟩
  rw [gB_setL h0 (by omega) a]
  by_cases e : k = j
  · subst e
    rw [if_pos rfl, if_pos ⟨by omega, hb⟩, hu]
  · rw [if_neg e, h.at_ j a c]
    by_cases e2 : j < k ∧ gB b j = true
    · rw [if_pos e2, if_pos ⟨by omega, e2.2⟩]
    · rw [if_neg e2, if_neg (fun e3 => e2 ⟨by omega, e3.2⟩)]
theorem got_no {b x x3 : List Bool} (h : GotK b x x3 v k) (hb : gB b k = false) : GotK b x x3 v (k + 1) := by
  refine ⟨h.len, fun j a c => ?_⟩
  rw [h.at_ j a c]
  by_cases e : j = k
  · subst e
    rw [if_neg (by omega), if_neg (by rw [hb]; simp)]
  · by_cases e2 : j < k ∧ gB b j = true
    · rw [if_pos e2, if_pos ⟨by omega, e2.2⟩]
    · rw [if_neg e2, if_neg (fun e3 => e2 ⟨by omega, e3.2⟩)]
theorem got_in {b x x3 : List Bool} (h : GotK b x x3 v k) (hk : (x.length : Int) ≤ k) (hbx : ∀ i, inB x i → ¬ inB b i) (hbl : b.length = x.length) (i : Int) : inB x3 i ↔ inB x i ∨ (v = true ∧ inB b i) := by
  have hl := h.len
  constructor
  · intro hi
    have hlt := inB_lt hi
    have h2 := hi.2
    rw [h.at_ i hi.1 (by omega)] at h2
    by_cases e : i < k ∧ gB b i = true
    · rw [if_pos e] at h2
      exact .inr ⟨h2, hi.1, e.2⟩
    · rw [if_neg e] at h2
      exact .inl ⟨hi.1, h2⟩
  · rintro (h2 | ⟨h2, h3⟩)
    · have hlt := inB_lt h2
      refine ⟨h2.1, ?_⟩
      rw [h.at_ i h2.1 hlt, if_neg (fun e => hbx i h2 ⟨h2.1, e.2⟩)]
      exact h2.2
    · have hlt := inB_lt h3
      refine ⟨h3.1, ?_⟩
      rw [h.at_ i h3.1 (by omega), if_pos ⟨by omega, h3.2⟩, h2]
end
def onesL (l : List Bool) (k : Nat) : List Int := ((List.range k).filter (fun j : Nat => gB l (j : Int))).map (fun j : Nat => (j : Int))
theorem ones_next {l : List Bool} {xs : List Int} {k : Int} (h : xs = onesL l k.toNat) (h0 : 0 ≤ k) (hb : gB l k = true) : xs ++ [k] = onesL l (k + 1).toNat := by
  unfold onesL at h ⊢
  rw [show (k + 1).toNat = k.toNat + 1 by omega, List.range_succ, List.filter_append, List.map_append, ← h]
  simp only [List.filter_cons, List.filter_nil]
  rw [show ((k.toNat : Nat) : Int) = k by omega, hb]
  simp
  omega
theorem ones_skip {l : List Bool} {xs : List Int} {k : Int} (h : xs = onesL l k.toNat) (h0 : 0 ≤ k) (hb : gB l k = false) : xs = onesL l (k + 1).toNat := by
  unfold onesL at h ⊢
  rw [show (k + 1).toNat = k.toNat + 1 by omega, List.range_succ, List.filter_append, List.map_append, ← h]
  simp only [List.filter_cons, List.filter_nil]
  rw [show ((k.toNat : Nat) : Int) = k by omega, hb]
  simp
theorem ones_mem {l : List Bool} {k : Nat} (hk : l.length ≤ k) (i : Int) : i ∈ onesL l k ↔ inB l i := by
  unfold onesL
  rw [List.mem_map]
  constructor
  · rintro ⟨j, hj, rfl⟩
    rw [List.mem_filter] at hj
    exact ⟨by omega, hj.2⟩
  · intro h
    have := inB_lt h
    have h0 := h.1
    exact ⟨i.toNat, List.mem_filter.2 ⟨List.mem_range.2 (by omega), by rw [show ((i.toNat : Nat) : Int) = i by omega]; exact h.2⟩, by omega⟩
theorem ones_len (l : List Bool) (k : Nat) : (onesL l k).length ≤ k := by
  unfold onesL
  rw [List.length_map]
  have := List.length_filter_le (fun j : Nat => gB l (j : Int)) (List.range k)
  rw [List.length_range] at this
  exact this
section
variable {g : GameL} {I M A B b c c2 x2 y2 x3 y3 oth lo : List Bool} {p t k : Int}
theorem WonP.swap0 (h : WonP g I 1 x2 y2) : WonP g I 0 y2 x2 := h.swap
theorem most_ex (h : HghT g I t) (hm : ∀ i, inB M i ↔ inB I i ∧ gI g.pr i = t) (hL : LiveB g I) (hn : g.ow.length ≤ 200) (hA : AttrT g I p M A) : ∃ i, inB I i ∧ inB A i := by
  obtain ⟨i, h1, h2⟩ := h.ex
  exact ⟨i, h1, attB_base hL hn hA i ((hm i).2 ⟨h1, h2⟩) h1⟩
theorem won_top (hR : isR g = true) (hL : LiveB g I) (h : HghT g I t) (hm : ∀ i, inB M i ↔ inB I i ∧ gI g.pr i = t) (hp : t % 2 = p) (hl : A.length = g.ow.length) (hA : AttrT g I p M A) (hc : LessT I A c) (hw : WonP g c p oth lo) (hs : someB lo = false) : ∃ f, WinT g (inB I) p f (inB I) :=
  won_all hR hL hm h.le hp hl hA hc hw (fun i hi => by have := some_iff.2 ⟨i, hi⟩; rw [hs] at this; cases this)
theorem lost_ex (hL : LiveB g I) (hn : g.ow.length ≤ 200) (hc : LessT I A c) (hw : WonP g c p oth lo) (hs : someB lo = true) {q : Int} (hB : AttrT g I q lo B) : ∃ i, inB I i ∧ inB B i := by
  obtain ⟨i, hi⟩ := some_iff.1 hs
  have h1 := ((less_in hc i).1 ((hw.all i).2 (.inr hi))).1
  exact ⟨i, h1, attB_base hL hn hB i hi h1⟩
theorem won_fin (hR : isR g = true) (hL : LiveB g I) (h : HghT g I t) (hp : t % 2 = p) (hl : A.length = g.ow.length) (hA : AttrT g I p M A) (hc : LessT I A c) (hw : WonP g c p oth lo) (hlB : B.length = g.ow.length) (hB : AttrT g I (1 - p) lo B) (hc2 : LessT I B c2) (h2 : WonP g c2 0 x2 y2)
    (hx : GotK B x2 x3 (p == 1) k) (hy : GotK B y2 y3 (p == 0) k) (hk : (I.length : Int) ≤ k) : WonP g I 0 x3 y3 := by
  have hlx := h2.la
  have hly := h2.lb
  have hI := hL.len
  have hnB : ∀ i, (inB x2 i ∨ inB y2 i) → ¬ inB B i := fun i hi => ((less_in hc2 i).1 ((h2.all i).2 hi)).2
  have ix := got_in hx (by omega) (fun i hi => hnB i (.inl hi)) (by omega)
  have iy := got_in hy (by omega) (fun i hi => hnB i (.inr hi)) (by omega)
  by_cases e : p = 0
  · rw [e] at hA hw hB ix iy
    refine won_two hR (.inl rfl) hL hl hA hc hw hlB hB hc2 h2 (by rw [hx.len]; exact hlx) (by rw [hy.len]; exact hly) (fun i => ?_) (fun i => ?_)
    · rw [ix]
      simp
    · rw [iy]
      simp
  · have e : p = 1 := by omega
    rw [e] at hA hw hB ix iy
    refine (won_two hR (.inr rfl) hL hl hA hc hw hlB hB hc2 h2.swap (by rw [hy.len]; exact hly) (by rw [hx.len]; exact hlx) (fun i => ?_) (fun i => ?_)).swap0
    · rw [iy]
      simp
    · rw [ix]
      simp
end
end Go.Proofs.YtplpgfcjjnaigaaDoor
namespace Go.Proofs.YtplpgfcjjnaigaaDoor
open Go Go.RowKit
theorem rise_eq : ∀ {l r : List Int}, l.Pairwise (· < ·) → r.Pairwise (· < ·) → (∀ x, x ∈ l ↔ x ∈ r) → l = r
  | [], [], _, _, _ => rfl
  | [], y :: r, _, _, h => absurd ((h y).2 List.mem_cons_self) List.not_mem_nil
  | x :: l, [], _, _, h => absurd ((h x).1 List.mem_cons_self) List.not_mem_nil
  | x :: l, y :: r, hl, hr, h => by
    rw [List.pairwise_cons] at hl hr
    have e : x = y := by
      rcases List.mem_cons.1 ((h x).1 List.mem_cons_self) with e | e
      · exact e
      · rcases List.mem_cons.1 ((h y).2 List.mem_cons_self) with e2 | e2
        · exact e2.symm
        · have := hl.1 y e2
          have := hr.1 x e
          omega
    subst e
    refine congrArg _ (rise_eq hl.2 hr.2 fun z => ⟨fun hz => ?_, fun hz => ?_⟩)
    · rcases List.mem_cons.1 ((h z).1 (List.mem_cons_of_mem _ hz)) with e | e
      · have := hl.1 z hz
        omega
      · exact e
    · rcases List.mem_cons.1 ((h z).2 (List.mem_cons_of_mem _ hz)) with e | e
      · have := hr.1 z hz
        omega
      · exact e
theorem ones_rise (l : List Bool) (k : Nat) : (onesL l k).Pairwise (· < ·) := by
  unfold onesL
  rw [List.pairwise_map]
  exact (List.Pairwise.filter _ List.pairwise_lt_range).imp (fun h => by omega)
theorem rise_count : ∀ {l : List Int} {i : Int}, l.Pairwise (· < ·) → i ∈ l → l.count i = 1
  | y :: l, i, h, hi => by
    rw [List.pairwise_cons] at h
    rcases List.mem_cons.1 hi with rfl | hi
    · rw [List.count_cons_self, List.count_eq_zero.2 fun k => by have := h.1 _ k; omega]
    · have := h.1 _ hi
      rw [List.count_cons_of_ne (by omega), rise_count h.2 hi]
def DocT (g : GameL) (l0 l1 : List Int) : Prop := (isR g = false ∧ l0 = [] ∧ l1 = []) ∨ (isR g = true ∧ ∃ x y : List Bool, x.length = g.ow.length ∧ y.length = g.ow.length ∧ l0 = onesL x g.ow.length ∧ l1 = onesL y g.ow.length ∧ ∃ f0 f1, Split g g.ow.length (inB x) (inB y) f0 f1)
section
variable {g : GameL} {l0 l1 xa xb : List Int} {al x y : List Bool} {k : Int}
theorem all_end (hl : al.length = g.ow.length) (h : ∀ j : Int, 0 ≤ j → j < k → gB al j = true) (hk : (g.ow.length : Int) ≤ k) : al = List.replicate g.ow.length true := by
  refine listB_ext (by rw [hl, List.length_replicate]) fun j a b => ?_
  rw [h j a (by omega)]
  simp only [gB, List.getD_eq_getElem?_getD, List.getElem?_replicate]
  rw [if_pos (by omega)]
  rfl
theorem doc_yes (hR : isR g = true) (h : WonP g (List.replicate g.ow.length true) 0 x y) (ha : xa = onesL x k.toNat) (hb : xb = onesL y k.toNat) (hk : k = (g.ow.length : Int)) : DocT g xa xb := by
  subst hk
  rw [Int.toNat_natCast] at ha hb
  exact .inr ⟨hR, x, y, h.la, h.lb, ha, hb, won_split hR h⟩
theorem doc_no (h : isR g = false) : DocT g [] [] := .inl ⟨h, rfl, rfl⟩
theorem doc_len (h : DocT g l0 l1) : l0.length ≤ 200 ∧ l1.length ≤ 200 := by
  rcases h with ⟨_, h1, h2⟩ | ⟨hR, x, y, _, _, h1, h2, _⟩
  · rw [h1, h2]
    simp
  · have := (isR_ok hR).n1
    have := ones_len x g.ow.length
    have := ones_len y g.ow.length
    rw [h1, h2]
    omega
end
end Go.Proofs.YtplpgfcjjnaigaaDoor
namespace Go.Proofs.YtplpgfcjjnaigaaDoor
open Go Go.RowKit
theorem count_next {l : List Int} {v k c : Int} (h : c = ((l.take k.toNat).count v : Int)) (h0 : 0 ≤ k) (h1 : k < (l.length : Int)) (he : gI l k = v) : c + 1 = ((l.take (k + 1).toNat).count v : Int) := by
  rw [show (k + 1).toNat = k.toNat + 1 by omega, List.take_succ_eq_append_getElem (by omega), List.count_append, ← gI_eq h0 h1, he]
  simp
  omega
theorem count_skip {l : List Int} {v k c : Int} (h : c = ((l.take k.toNat).count v : Int)) (h0 : 0 ≤ k) (h1 : k < (l.length : Int)) (he : gI l k ≠ v) : c = ((l.take (k + 1).toNat).count v : Int) := by
  rw [show (k + 1).toNat = k.toNat + 1 by omega, List.take_succ_eq_append_getElem (by omega), List.count_append, ← gI_eq h0 h1]
  rw [List.count_singleton, if_neg (by simpa using he)]
  omega
theorem count_end {l : List Int} {v k c : Int} (h : c = ((l.take k.toNat).count v : Int)) (h1 : (l.length : Int) ≤ k) : c = (l.count v : Int) := by rwa [List.take_of_length_le (by omega)] at h
theorem count_b {l : List Int} {v k c : Int} (h : c = ((l.take k.toNat).count v : Int)) (h0 : 0 ≤ k) : 0 ≤ c ∧ c ≤ k := by
  have := List.count_le_length (a := v) (l := l.take k.toNat)
  rw [List.length_take] at this
  omega
theorem count_in {l : List Int} {v : Int} (h : v ∈ l) : ((l.count v : Int) == 0) = false := by
  have := List.count_pos_iff.2 h
  simp
  omega
def nxL (g : GameL) (p : Int) (lm : List Int) (i : Int) : List Int := if gI g.ow i = p then [gI lm i] else gL g.mv i
theorem nxL_own {g : GameL} {p i : Int} {lm : List Int} (h : gI g.ow i = p) : ([gI lm i] : List Int) = nxL g p lm i := by unfold nxL; rw [if_pos h]
theorem nxL_oth {g : GameL} {p i : Int} {lm : List Int} (h : gI g.ow i ≠ p) : gL g.mv i = nxL g p lm i := by unfold nxL; rw [if_neg h]
theorem mem_at {l : List Int} {k : Int} (h0 : 0 ≤ k) (h1 : k < (l.length : Int)) : gI l k ∈ l := by
  rw [gI_eq h0 h1]
  exact List.getElem_mem _
def EL (g : GameL) (ls : List (List Int)) (i : Int) (P : Int → Prop) (x y : Int) : Prop := P x ∧ y ∈ gL ls x ∧ gI g.pr x ≤ gI g.pr i ∧ gI g.pr y ≤ gI g.pr i
structure LoT (g : GameL) (ls : List (List Int)) (i : Int) (P : Int → Prop) (iv : List Bool) (op : List Int) : Prop where
  inn : ∀ y, inB iv y → Way (EL g ls i P) i y
  opn : ∀ x ∈ op, P x ∧ gI g.pr x ≤ gI g.pr i ∧ (x = i ∨ Way (EL g ls i P) i x)
section
variable {g : GameL} {ls : List (List Int)} {i x m k : Int} {P : Int → Prop} {iv : List Bool} {op : List Int}
theorem lo_0 {n : Nat} (h : P i) : LoT g ls i P (List.replicate n false) [i] :=
  ⟨fun y hy => absurd hy (rep_in n y), fun x hx => by
    rw [List.mem_singleton] at hx
    subst hx
    exact ⟨h, Int.le_refl _, .inl rfl⟩⟩
theorem lo_pop (h : LoT g ls i P iv op) (h0 : 0 ≤ k) (h1 : k + 1 = (op.length : Int)) : LoT g ls i P iv (op.take k.toNat) ∧ P (gI op k) ∧ gI g.pr (gI op k) ≤ gI g.pr i ∧ (gI op k = i ∨ Way (EL g ls i P) i (gI op k)) :=
  ⟨⟨h.inn, fun x hx => h.opn x (List.mem_of_mem_take hx)⟩, h.opn _ (mem_at h0 (by omega))⟩
theorem lo_push (h : LoT g ls i P iv op) (hx : P x ∧ gI g.pr x ≤ gI g.pr i ∧ (x = i ∨ Way (EL g ls i P) i x)) (hm : m ∈ gL ls x) (hP : P m) (hp : gI g.pr m ≤ gI g.pr i) (h0 : 0 ≤ m) (h1 : m < (iv.length : Int)) : LoT g ls i P (iv.set m.toNat true) (op ++ [m]) := by
  have hw : Way (EL g ls i P) i m := by
    rcases hx.2.2 with e | e
    · rw [e] at hx hm
      exact .one ⟨hx.1, hm, hx.2.1, hp⟩
    · exact e.trans (.one ⟨hx.1, hm, hx.2.1, hp⟩)
  refine ⟨fun y hy => ?_, fun y hy => ?_⟩
  · have h2 := hy.2
    rw [gB_setL h0 h1 hy.1] at h2
    by_cases e : m = y
    · rw [← e]
      exact hw
    · rw [if_neg e] at h2
      exact h.inn y ⟨hy.1, h2⟩
  · rcases List.mem_append.1 hy with hy | hy
    · exact h.opn y hy
    · rw [List.mem_singleton] at hy
      subst hy
      exact ⟨hP, hp, .inr hw⟩
theorem cT_set {l : List Bool} {m : Int} (h0 : 0 ≤ m) (h1 : m < (l.length : Int)) (h2 : m < 256) (hf : gB l m = false) : cT (l.set m.toNat true) 256 = cT l 256 + 1 := by
  have key : ∀ n : Nat, cT (l.set m.toNat true) n = cT l n + (if m < (n : Int) then 1 else 0) := by
    intro n
    induction n with
    | zero => rw [cT_0, cT_0, if_neg (by omega)]; rfl
    | succ n ih =>
      rw [cT_s, cT_s, ih, gB_setL h0 h1 (by omega)]
      by_cases e : m = (n : Int)
      · rw [if_pos e, if_neg (show ¬ m < (n : Int) by omega), if_pos (show m < ((n + 1 : Nat) : Int) by omega), ← e, hf]
        simp
      · rw [if_neg e]
        by_cases e2 : m < (n : Int)
        · rw [if_pos e2, if_pos (show m < ((n + 1 : Nat) : Int) by omega)]
          omega
        · rw [if_neg e2, if_neg (show ¬ m < ((n + 1 : Nat) : Int) by omega)]
          omega
  rw [key 256, if_pos (by omega)]
theorem cT_rep (n : Nat) : ∀ k : Nat, cT (List.replicate n false) k = 0
  | 0 => rfl
  | k + 1 => by rw [cT_s, cT_rep n k, gB_rep]; simp
theorem cT_len (l : List Bool) : cT l 256 ≤ (l.length : Int) := cT_le l l.length 256 fun j a _ h => inB_lt ⟨a, h⟩
end
def NxK (g : GameL) (p : Int) (lm lr : List Int) (ls : List (List Int)) (k : Int) : Prop := ∀ j : Int, 0 ≤ j → j < k → gL ls (gI lr j) = nxL g p lm (gI lr j)
section
variable {g : GameL} {p i k : Int} {lm lr : List Int} {ls : List (List Int)}
theorem nx_next (h : NxK g p lm lr ls k) (h0 : 0 ≤ k) (hr : ∀ x ∈ lr, 0 ≤ x ∧ x < (ls.length : Int)) (h1 : k < (lr.length : Int)) : NxK g p lm lr (ls.set (gI lr k).toNat (nxL g p lm (gI lr k))) (k + 1) := fun j a b => by
  have h2 := hr _ (mem_at (l := lr) h0 h1)
  have h3 := hr _ (mem_at (l := lr) a (by omega))
  unfold gL
  simp only [List.getD_eq_getElem?_getD, List.getElem?_set]
  by_cases e : gI lr k = gI lr j
  · rw [e, if_pos rfl, if_pos (by omega)]
    rfl
  · rw [if_neg (by omega)]
    by_cases e2 : j = k
    · rw [e2] at e
      exact absurd rfl e
    · have := h j a (by omega)
      unfold gL at this
      simpa only [List.getD_eq_getElem?_getD] using this
theorem nx_all (h : NxK g p lm lr ls k) (hk : (lr.length : Int) ≤ k) : ∀ x ∈ lr, gL ls x = nxL g p lm x := fun x hx => by
  obtain ⟨j, hj, rfl⟩ := List.mem_iff_getElem.1 hx
  have := h (j : Int) (by omega) (by omega)
  rwa [gI_eq (by omega) (by omega)] at this
structure WinsT (g : GameL) (p : Int) (lm lr : List Int) : Prop where
  win : WinT g (fun i => 0 ≤ i ∧ i < (g.ow.length : Int)) p (gI lm) (fun i => i ∈ lr)
  ml : lm.length = g.ow.length
theorem wins_next (hR : isR g = true) (h : WinsT g p lm lr) : ∀ x ∈ lr, (0 ≤ x ∧ x < (g.ow.length : Int)) ∧ (∀ m ∈ nxL g p lm x, m ∈ lr) ∧ (gI g.ow x = p → gI lm x ∈ gL g.mv x) := fun x hx => by
  have hr := h.win.sub x hx
  refine ⟨hr, fun m hm => ?_, fun e => (h.win.own x hx e).1⟩
  unfold nxL at hm
  by_cases e : gI g.ow x = p
  · rw [if_pos e, List.mem_singleton] at hm
    rw [hm]
    exact (h.win.own x hx e).2
  · rw [if_neg e] at hm
    exact h.win.oth x hx e m hm (row_rng hR hr.1 hr.2 hm)
theorem wins_cyc (hR : isR g = true) (h : WinsT g p lm lr) (hn : ∀ x ∈ lr, gL ls x = nxL g p lm x) {i : Int} (hi : i ∈ lr) (hp : gI g.pr i % 2 ≠ p) : ¬ Way (EL g ls i (fun x => x ∈ lr)) i i := fun hw =>
  h.win.cyc i hi hp (hw.mono fun x y hxy => by
    obtain ⟨h1, h2, h3, h4⟩ := hxy
    have h5 := wins_next hR h x h1
    rw [hn x h1] at h2
    have h6 := h5.2.1 y h2
    refine ⟨⟨h1, ?_, (wins_next hR h y h6).1, fun e => ?_⟩, h3, h4⟩
    · unfold nxL at h2
      by_cases e : gI g.ow x = p
      · rw [if_pos e, List.mem_singleton] at h2
        rw [h2]
        exact h5.2.2 e
      · rw [if_neg e] at h2
        exact h2
    · unfold nxL at h2
      rw [if_pos e, List.mem_singleton] at h2
      exact h2)
end
theorem nx_len {g : GameL} {p x : Int} {lm : List Int} (hG : RightG g) (h : 0 ≤ x ∧ x < (g.ow.length : Int)) : (nxL g p lm x).length ≤ 200 := by
  have := row_len hG h.1 h.2
  have := hG.n1
  unfold nxL
  split
  · simp
  · omega
end Go.Proofs.YtplpgfcjjnaigaaDoor
namespace Go.Proofs.YtplpgfcjjnaigaaDoor
open Go Go.RowKit
theorem ls_rise (s : List Int) : (lsD (fromW s) 256).Pairwise (· < ·) := ls_lt _ 256
section
variable {g : GameL} {la lb ma mb wa wb : List Int} {d : Int}
theorem reg_same (hA : SolveT g la lb ma mb d) (hD : DocT g wa wb) : la = wa ∧ lb = wb := by
  rcases hA with ⟨h0, rfl, rfl, _⟩ | ⟨hR, s0, s1, rfl, rfl, h⟩
  · rcases hD with ⟨_, rfl, rfl⟩ | ⟨h1, _⟩
    · exact ⟨rfl, rfl⟩
    · rw [h0] at h1
      cases h1
  · rcases hD with ⟨h1, _⟩ | ⟨_, x, y, hx, hy, rfl, rfl, f0, f1, hs⟩
    · rw [hR] at h1
      cases h1
    · have h2 := split_one (isR_ok hR) h.sp hs
      exact ⟨rise_eq (ls_rise s0) (ones_rise x _) fun i => by rw [inP_ls, ones_mem (by omega)]; exact h2.1 i, rise_eq (ls_rise s1) (ones_rise y _) fun i => by rw [inP_ls, ones_mem (by omega)]; exact h2.2 i⟩
theorem reg_right (hR : isR g = true) (hA : SolveT g la lb ma mb d) : ∃ s0 s1, la = lsD (fromW s0) 256 ∧ lb = lsD (fromW s1) 256 ∧ SolT g s0 s1 ma mb d := by
  rcases hA with ⟨h0, _⟩ | ⟨_, h⟩
  · rw [hR] at h0
    cases h0
  · exact h
theorem reg_no (hR : isR g = false) (hA : SolveT g la lb ma mb d) : d = 0 ∧ ma.length = 0 ∧ mb.length = 0 := by
  rcases hA with ⟨_, _, _, rfl, rfl, rfl⟩ | ⟨h, _⟩
  · exact ⟨rfl, rfl, rfl⟩
  · rw [hR] at h
    cases h
theorem reg_wins0 (hR : isR g = true) (hA : SolveT g la lb ma mb d) : WinsT g 0 ma la := by
  obtain ⟨s0, s1, rfl, rfl, h⟩ := reg_right hR hA
  exact ⟨h.sp.w0.iff fun i => inP_ls, h.l0⟩
theorem reg_wins1 (hR : isR g = true) (hA : SolveT g la lb ma mb d) : WinsT g 1 mb lb := by
  obtain ⟨s0, s1, rfl, rfl, h⟩ := reg_right hR hA
  exact ⟨h.sp.w1.iff fun i => inP_ls, h.l1⟩
theorem reg_d (hR : isR g = true) (hA : SolveT g la lb ma mb d) : 1 ≤ d ∧ d ≤ (g.ow.length : Int) + 1 ∧ ma.length = g.ow.length ∧ mb.length = g.ow.length := by
  obtain ⟨s0, s1, rfl, rfl, h⟩ := reg_right hR hA
  exact ⟨h.d1, h.d2, h.l0, h.l1⟩
theorem reg_mv0 (hR : isR g = true) (hA : SolveT g la lb ma mb d) (hD : DocT g wa wb) {i : Int} (a : 0 ≤ i) (b : i < (g.ow.length : Int)) (h : gI g.ow i ≠ 0 ∨ (wa.count i : Int) ≠ 1) : gI ma i = -1 := by
  obtain ⟨e1, _⟩ := reg_same hA hD
  obtain ⟨s0, s1, rfl, rfl, k⟩ := reg_right hR hA
  refine k.no0 i a b fun ⟨h1, h2⟩ => ?_
  rcases h with h | h
  · exact h h2
  · rw [← e1, rise_count (ls_rise s0) (inP_ls.2 h1)] at h
    exact h rfl
theorem reg_mv1 (hR : isR g = true) (hA : SolveT g la lb ma mb d) (hD : DocT g wa wb) {i : Int} (a : 0 ≤ i) (b : i < (g.ow.length : Int)) (h : gI g.ow i ≠ 1 ∨ (wb.count i : Int) ≠ 1) : gI mb i = -1 := by
  obtain ⟨_, e1⟩ := reg_same hA hD
  obtain ⟨s0, s1, rfl, rfl, k⟩ := reg_right hR hA
  refine k.no1 i a b fun ⟨h1, h2⟩ => ?_
  rcases h with h | h
  · exact h h2
  · rw [← e1, rise_count (ls_rise s1) (inP_ls.2 h1)] at h
    exact h rfl
end
def OverK (m xs : List Int) (k : Int) : Prop := xs.length = m.length ∧ ∀ j : Int, k ≤ j → gI xs j = gI m j
theorem over_0 {m : List Int} : OverK m m 0 := ⟨rfl, fun _ _ => rfl⟩
theorem over_next {m xs : List Int} {k v : Int} (h : OverK m xs k) (h0 : 0 ≤ k) : OverK m (xs.set k.toNat v) (k + 1) := by
  refine ⟨by rw [List.length_set]; exact h.1, fun j hj => ?_⟩
  rw [← h.2 j (by omega)]
  simp only [gI, List.getD_eq_getElem?_getD]
  rw [List.getElem?_set_ne (by omega)]
end Go.Proofs.YtplpgfcjjnaigaaDoor
namespace Go.Proofs.YtplpgfcjjnaigaaDoor
open Go Go.RowKit
set_option maxHeartbeats 4000000 in
theorem someB_any {Aa : Option Addr} {ca : Nat} {la : List Bool} {w : World} (ra : RdR w 0 w.heap.size Aa la) :
    Calls Tryd.prog 52 #[.slice Aa la.length ca] w fun e w' => e = .returned (.bool (someB la)) ∧ Ext w w' := by
 have hla := ra.len
 simp only [Enc.bytes] at hla
 refine enter_ (args := [.slice Aa la.length ca]) Tryd.func52 rfl Tryd.ntmps52 (Nat.le_of_ble_eq_true rfl) (fun act0 f0 => ?_)
 have e0 : Ext w w := Ext.refl w
 refine sqs ?_
 refine At.rk f0 1 [(2, .bool false)] .n (fun act2 f1 => ?_)
 clear f0
 refine At.dn ?_
 refine wp_seq ?_
 refine sqs ?_
 refine At.rk f1 1 [(3, .int .i64 (0))] .n (fun act4 f3 => ?_)
 clear f1
 refine At.dn ?_
 refine wp_block ?_
 refine loop_g (fun (m_ : Nat) a_ w_ => ∃ (k : Int), m_ = ((la.length : Int) - k).toNat ∧ (Frm 14 a_ [(3, .int .i64 (k)), (0, .slice Aa la.length ca)]) ∧ (Ext w w_) ∧ (RdR w_ 0 w.heap.size Aa (la : List Bool)) ∧ (0 ≤ k) ∧ (k ≤ (la.length : Int)) ∧ (∀ j : Int, 0 ≤ j → j < k → gB la j = false)) _ ⟨0, rfl, f3.sb, e0, ra, ω, (Int.natCast_nonneg _), (fun j a b => by omega)⟩ ?_
 clear f3; clear ra; clear e0
 intro m_ act6 w7 ⟨k, hm9, aD, e8, aE, i12, i13, hno⟩
 have := e8.size
 refine wp_seq ?_
 refine sqs ?_
 refine At.rk aD 4 [(7, .bool (decide ((k : Int) < ((la.length : Nat) : Int))))] .n (fun aL aA => ?_)
 clear aD
 refine At.dn ?_
 refine cond_S aA (t := decide ((k : Int) < ((la.length : Nat) : Int))) rfl (fun aC => ?_) (fun aC => ?_)
 ·have aM := of_decide_eq_true aC
  refine wp_skip ?_
  refine t_n ?_
  refine wp_seq ?_
  refine wp_block ?_
  refine sqs ?_
  obtain ⟨aN, aF, aO, aG, aP⟩ := aE.get (k) ω ω (sz := 1) rfl
  refine At.rk aA 4 [(13, .bool (gB la k))] (.a k la.length aF <| .l aG <| .n) (fun aQ aB => ?_)
  clear aA
  refine At.dn ?_
  refine cond_S aB (t := gB la k) rfl (fun aH => ?_) (fun aH => ?_)
  ·refine sqs ?_
   refine At.rk aB 1 [(2, .bool true)] .n (fun aR aI => ?_)
   clear aB
   refine At.dn ?_
   refine wp_ret ?_
   refine b_r ?_
   refine t_r ?_
   refine t_r ?_
   refine b_r ?_
   refine t_r ?_
   refine ret_ aI [] [.bool true] [] κ trivial ?_
   exact ⟨ret_eq (congrArg Value.bool (some_yes (k := k) ω σ)), e8⟩
  refine wp_skip ?_
  refine b_n ?_
  refine t_n ?_
  refine At.start ?_
  refine At.rk aB 3 [(3, .int .i64 (k + 1))] (.w 9 (k + 1) <| .n) (fun aS aJ => ?_)
  clear aB
  refine At.dn ?_
  exact ⟨_, ω, (k + 1), rfl, aJ.sb, e8, aE, ω, ω, (none_next hno σ)⟩
 have aT := of_decide_eq_false aC
 refine wp_exit ?_
 refine t_e ?_
 clear hm9
 refine t_e ?_
 refine b_e ?_
 refine t_n ?_
 refine sqs ?_
 refine At.rk aA 1 [(2, .bool false)] .n (fun aU aK => ?_)
 clear aA
 refine At.dn ?_
 refine wp_ret ?_
 refine ret_ aK [] [.bool false] [] κ trivial ?_
 exact ⟨ret_eq (congrArg Value.bool (someB_no hno ω)), e8⟩
set_option maxHeartbeats 4000000 in
theorem lessB_any {Aa : Option Addr} {ca : Nat} {la : List Bool} {Ab : Option Addr} {cb : Nat} {lb : List Bool} {w : World} (ra : RdR w 0 w.heap.size Aa la) (rb : RdR w 0 w.heap.size Ab lb) (hlb : lb.length = la.length) :
    Calls Tryd.prog 54 #[.slice Aa la.length ca, .slice Ab lb.length cb] w fun e w' => ∃ A c xs, e = .returned (.slice A (xs : List Bool).length c) ∧ Ext w w' ∧ OwnR w' (Sx w.heap.size []) A c 4 xs ∧ LessT la lb xs := by
 have hla := ra.len
 simp only [Enc.bytes] at hla
 refine enter_ (args := [.slice Aa la.length ca, .slice Ab lb.length cb]) Tryd.func54 rfl Tryd.ntmps54 (Nat.le_of_ble_eq_true rfl) (fun act0 f0 => ?_)
 have e0 : Ext w w := Ext.refl w
 refine sqs ?_
 refine At.rk f0 1 [(4, .slice none 0 0)] .n (fun act2 f1 => ?_)
 clear f0
 refine At.dn ?_
 refine sqs ?_
 refine At.rk f1 2 [(8, .int .i64 (((la.length : Nat) : Int)))] .n (fun act4 f3 => ?_)
 clear f1
 refine At.act f3 (makeR (k1 := .i64) (k2 := .i64) (α := Bool) (e := 4) (bytes := 1) (t := 60) (d := 9) (n := ((la.length : Nat) : Int)) (cap := ((la.length : Nat) : Int)) (false) κ rfl κ ω ω ω ω) ?_
 rintro d_ v_ w5 ⟨rfl, rfl, g6, hO7⟩
 refine ⟨_, rfl, fun bM aL => ?_⟩
 clear f3; replace hO7 := hO7 (Sx (w.heap.size) []) (Nat.le_refl _); have := g6.size; replace e0 := e0.gn g6; have aM := ra.gn g6; clear ra; have aN := rb.gn g6; clear rb; clear g6; have : (List.replicate (((la.length : Nat) : Int) : Int).toNat (false : Bool)).length = (((la.length : Nat) : Int) : Int).toNat := List.length_replicate
 refine At.rk aL 1 [(5, .slice (some ⟨w.heap.size, 0, none⟩) ((List.replicate (((la.length : Nat) : Int) : Int).toNat (false : Bool)).length) ((((la.length : Nat) : Int) : Int).toNat))] .n (fun bN aO => ?_)
 clear aL
 refine At.dn ?_
 refine wp_seq ?_
 refine sqs ?_
 refine At.rk aO 1 [(6, .int .i64 (0))] .n (fun bO aP => ?_)
 clear aO
 refine At.dn ?_
 refine wp_block ?_
 have aQ := aP.as 5 (.slice (some ⟨w.heap.size, 0, none⟩) ((List.replicate (((la.length : Nat) : Int) : Int).toNat (false : Bool)).length) ((((la.length : Nat) : Int) : Int).toNat)) (.slice (some ⟨w.heap.size, 0, none⟩) ((List.replicate (((la.length : Nat) : Int) : Int).toNat (false : Bool) : List Bool).length) ((((la.length : Nat) : Int) : Int).toNat)) rfl (slice_len (by first | rfl | omega | (simp; done) | (simp; omega)))
 clear aP
 refine loop_g (fun (m_ : Nat) a_ w_ => ∃ (k : Int) (xs : List Bool) (aB : Option Addr) (aC : Nat), m_ = ((la.length : Int) - k).toNat ∧ (Frm 31 a_ [(6, .int .i64 (k)), (5, .slice aB xs.length aC), (4, .slice none 0 0), (0, .slice Aa la.length ca), (1, .slice Ab lb.length cb)]) ∧ (Ext w w_) ∧ (RdR w_ 0 w.heap.size Aa (la : List Bool)) ∧ (RdR w_ 0 w.heap.size Ab (lb : List Bool)) ∧ (OwnR w_ (Sx (w.heap.size) []) aB aC 4 (xs : List Bool)) ∧ (0 ≤ k) ∧ (k ≤ (la.length : Int)) ∧ (LessK la lb xs k) ∧ (xs.length = la.length)) _ ⟨0, (List.replicate (((la.length : Nat) : Int) : Int).toNat (false : Bool) : List Bool), some ⟨w.heap.size, 0, none⟩, (((la.length : Nat) : Int) : Int).toNat, rfl, aQ.sb, e0, aM, aN, hO7, ω, (Int.natCast_nonneg _), (by rw [Int.toNat_natCast]; exact lessK_0), (by simp)⟩ ?_
 clear aQ; clear aM; clear aN; clear hO7; clear e0
 intro m_ bP bQ ⟨k, xs, aB, aC, hm26, aR, aD, aE, aF, aA, i31, i32, hlk, i33⟩
 have := aD.size
 refine wp_seq ?_
 refine sqs ?_
 refine At.rk aR 4 [(13, .bool (decide ((k : Int) < ((la.length : Nat) : Int))))] .n (fun bR aG => ?_)
 clear aR
 refine At.dn ?_
 refine cond_S aG (t := decide ((k : Int) < ((la.length : Nat) : Int))) rfl (fun aJ => ?_) (fun aJ => ?_)
 ·have bS := of_decide_eq_true aJ
  refine wp_skip ?_
  refine t_n ?_
  refine wp_seq ?_
  refine wp_block ?_
  refine At.start ?_
  obtain ⟨bT, aS, bU, aT, bV⟩ := aE.get (k) ω ω (sz := 1) rfl
  rcases Bool.eq_false_or_eq_true (gB la k) with aK | aK
  ·obtain ⟨bE, bF, bW, bG, bX⟩ := aF.get (k) ω ω (sz := 1) rfl
   obtain ⟨aU, aV, bY, bZ, cA⟩ := aA.get (k) ω ω (sz := 1) rfl
   refine At.rk aG 14 [(29, .pointer (some (aU.add ((k : Int).toNat * 1)))), (28, .bool (!(gB lb k))), (27, .bool (!(gB lb k))), (26, .bool (gB lb k)), (25, .pointer (some (bE.add ((k : Int).toNat * 1)))), (24, .int .i64 (k)), (23, .slice Ab lb.length cb)] (.a k la.length aS <| .l aT <| .e 22 aK <| .a k lb.length bF <| .l bG <| .a k xs.length aV <| .n) (fun cB aW => ?_)
   clear aG
   refine At.act aW (storeR (α := Bool) (t := 4) (i := k) (ad := aU) (v := .bool (!(gB lb k))) (!(gB lb k)) κ rfl rfl κ aV aA ω ω) ?_
   rintro d_ v_ cC ⟨rfl, aH, bH⟩
   refine ⟨_, rfl, fun cD aX => ?_⟩
   clear aW; have cE : ((xs).set (k : Int).toNat (!(gB lb k))).length = (xs).length := List.length_set; have := aH.size; replace aD := aD.gr aH (fun k hk => by have := aA.ge k hk; omega); replace aE := aE.gr aH (fun k hk => by have := aA.ge k hk; omega); replace aF := aF.gr aH (fun k hk => by have := aA.ge k hk; omega); clear aA aH
   refine At.done rfl ?_
   refine b_n ?_
   refine t_n ?_
   refine At.start ?_
   refine At.rk aX 3 [(6, .int .i64 (k + 1))] (.w 15 (k + 1) <| .n) (fun cF aY => ?_)
   clear aX
   refine At.dn ?_
   have bI := aY.as 5 (.slice aB xs.length aC) (.slice aB (((xs).set (k : Int).toNat (!(gB lb k)) : List Bool).length) aC) rfl (slice_len (by first | (simp only [List.length_set]; done) | rfl | omega | (simp; done) | (simp; omega)))
   clear aY
   exact ⟨_, ω, (k + 1), ((xs).set (k : Int).toNat (!(gB lb k)) : List Bool), aB, aC, rfl, bI.sb, aD, aE, aF, bH, ω, ω, (lessK_next hlk ω ω (by simp_all)), (by rw [List.length_set]; assumption)⟩
  obtain ⟨aZ, bA, cG, cH, cI⟩ := aA.get (k) ω ω (sz := 1) rfl
  refine At.rk aG 14 [(29, .pointer (some (aZ.add ((k : Int).toNat * 1)))), (28, .bool false)] (.a k la.length aS <| .l aT <| .e 22 aK <| .a k xs.length bA <| .n) (fun cJ bB => ?_)
  clear aG
  refine At.act bB (storeR (α := Bool) (t := 4) (i := k) (ad := aZ) (v := .bool false) (false) κ rfl rfl κ bA aA ω ω) ?_
  rintro d_ v_ cK ⟨rfl, aI, bJ⟩
  refine ⟨_, rfl, fun cL bC => ?_⟩
  clear bB; have cM : ((xs).set (k : Int).toNat false).length = (xs).length := List.length_set; have := aI.size; replace aD := aD.gr aI (fun k hk => by have := aA.ge k hk; omega); replace aE := aE.gr aI (fun k hk => by have := aA.ge k hk; omega); replace aF := aF.gr aI (fun k hk => by have := aA.ge k hk; omega); clear aA aI
  refine At.done rfl ?_
  refine b_n ?_
  refine t_n ?_
  refine At.start ?_
  refine At.rk bC 3 [(6, .int .i64 (k + 1))] (.w 15 (k + 1) <| .n) (fun cN bD => ?_)
  clear bC
  refine At.dn ?_
  have bK := bD.as 5 (.slice aB xs.length aC) (.slice aB (((xs).set (k : Int).toNat false : List Bool).length) aC) rfl (slice_len (by first | (simp only [List.length_set]; done) | rfl | omega | (simp; done) | (simp; omega)))
  clear bD
  exact ⟨_, ω, (k + 1), ((xs).set (k : Int).toNat false : List Bool), aB, aC, rfl, bK.sb, aD, aE, aF, bJ, ω, ω, (lessK_next hlk ω ω (by simp_all)), (by rw [List.length_set]; assumption)⟩
 have cO := of_decide_eq_false aJ
 refine wp_exit ?_
 refine t_e ?_
 clear hm26
 refine t_e ?_
 refine b_e ?_
 refine t_n ?_
 refine sqs ?_
 refine At.rk aG 2 [(4, .slice aB xs.length aC)] .n (fun cP bL => ?_)
 clear aG
 refine At.dn ?_
 refine wp_ret ?_
 refine ret_ bL [] [.slice aB xs.length aC] [] κ trivial ?_
 exact ⟨aB, aC, _, rfl, aD, (aA.imp (fun g _ hs => by have := Sx_base hs; show w.heap.size ≤ g; omega)), lessK_end hlk ω⟩
end Go.Proofs.YtplpgfcjjnaigaaDoor
