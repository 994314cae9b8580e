/-
  A walk of a Go function, printed by a program of this repo. Conditions: what the theorems name.
-/
import Derived.Test.YtklbpajmoklheaaPureWonW
import Derived.Test.YtklbpajmoklheaaFs
set_option linter.unusedVariables false
set_option linter.unusedSimpArgs false
namespace Go.Proofs.Ytklbpajmoklheaa
open Go Go.RowKit

set_option maxHeartbeats 4000000 in
theorem someB_any {Aa : Option Addr} {ca : Nat} {la : List Bool} {w : World} (ra : RdR w 0 w.heap.size Aa la) :
    Calls Try.prog 57 #[.slice Aa la.length ca] w fun e w' => e = .returned (.bool (someB la)) ∧ Ext w w' := by
 have hla := ra.len
 simp only [Enc.bytes] at hla
 refine enter_ (args := [.slice Aa la.length ca]) Try.func57 rfl Try.ntmps57 (Nat.le_of_ble_eq_true rfl) (fun act0 f0 => ?_)
 have e0 : Ext w w := Ext.refl w
 refine wp_seq ?_
 refine At.start ?_
 refine At.rd f0 1 [[]] [(2, .bool false)] [] (by kernel_rfl) trivial (fun act2 f1 => ?_)
 clear f0
 refine At.done rfl ?_
 refine t_n ?_
 refine wp_seq ?_
 refine wp_seq ?_
 refine At.start ?_
 refine At.rd f1 1 [[]] [(3, .int .i64 (0))] [] (by kernel_rfl) trivial (fun act4 f3 => ?_)
 clear f1
 refine At.done rfl ?_
 refine t_n ?_
 refine wp_block ?_
 have f5 := f3.sub (r := [(3, .int .i64 (0)), (0, .slice Aa la.length ca)]) ⟨rfl, rfl, trivial⟩
 refine loop_g (fun (m_ : Nat) a_ w_ => ∃ (k : Int), m_ = ((la.length : Int) - k).toNat ∧ (Frm 14 a_ [(3, .int .i64 (k)), (0, .slice Aa la.length ca)]) ∧ (Ext w w_) ∧ (RdR w_ 0 w.heap.size Aa (la : List Bool)) ∧ (0 ≤ k) ∧ (k ≤ (la.length : Int)) ∧ (∀ j : Int, 0 ≤ j → j < k → gB la j = false)) _ ⟨0, rfl, f5, e0, ra, (by omega), (Int.natCast_nonneg _), (fun j a b => by omega)⟩ ?_
 clear f5 f3; clear ra; clear e0
 intro m_ act6 w7 ⟨k, hm9, aE, e8, aF, i12, i13, hno⟩
 have := e8.size
 refine wp_seq ?_
 refine wp_seq ?_
 refine At.start ?_
 refine At.rd aE 4 [[], [], [], []] [(7, .bool (decide ((k : Int) < ((la.length : Nat) : Int)))), (6, .int .i64 (((la.length : Nat) : Int))), (5, .slice Aa la.length ca), (4, .int .i64 (k))] [] (by kernel_rfl) trivial (fun aN aA => ?_)
 clear aE
 refine At.done rfl ?_
 refine t_n ?_
 refine cond_S aA (t := decide ((k : Int) < ((la.length : Nat) : Int))) rfl (fun aD => ?_) (fun aD => ?_)
 ·have aO := of_decide_eq_true aD
  refine wp_skip ?_
  refine t_n ?_
  refine wp_seq ?_
  refine wp_block ?_
  refine wp_seq ?_
  refine At.start ?_
  obtain ⟨aC, aG, aP, aH, aQ⟩ := aF.get (k) (by omega) (by omega) (sz := 1) rfl
  refine At.rd aA 4 [[], [], [.ad aC], [.ld (.bool (gB la k))]] [(13, .bool (gB la k)), (12, .pointer (some (aC.add ((k : Int).toNat * 1)))), (11, .int .i64 (k)), (10, .slice Aa la.length ca)] [(Aa = some aC), (0 ≤ (k : Int)), ((k : Int) < (la.length : Nat)), (w7.cell? (aC.add ((k : Int).toNat * 1)) = some (.bool (gB la k)))] (by kernel_rfl) ⟨aG, (by omega), (by omega), aH, trivial⟩ (fun aR aB => ?_)
  clear aA
  refine At.done rfl ?_
  refine t_n ?_
  refine cond_S aB (t := gB la k) rfl (fun aI => ?_) (fun aI => ?_)
  ·refine wp_seq ?_
   refine At.start ?_
   refine At.rd aB 1 [[]] [(2, .bool true)] [] (by kernel_rfl) trivial (fun aS aJ => ?_)
   clear aB
   refine At.done rfl ?_
   refine t_n ?_
   refine wp_ret ?_
   refine b_r ?_
   refine t_r ?_
   refine t_r ?_
   refine b_r ?_
   refine t_r ?_
   refine ret_ aJ [] [.bool true] [] (by kernel_rfl) trivial ?_
   exact ⟨ret_eq (congrArg Value.bool (some_yes (k := k) (by omega) (by assumption))), e8⟩
  refine wp_skip ?_
  refine b_n ?_
  refine t_n ?_
  refine At.start ?_
  refine At.rd aB 3 [[], [.as_ (.int .i64 (k + 1))], []] [(3, .int .i64 (k + 1)), (9, .int .i64 (k + 1)), (8, .int .i64 (k))] [((.int .i64 (IntKind.i64.wrap (k + 1)) : Value) = .int .i64 (k + 1))] (by kernel_rfl) ⟨(w64 (by omega) (by omega)), trivial⟩ (fun aT aK => ?_)
  clear aB
  refine At.done rfl ?_
  refine t_n ?_
  have aL := aK.sub (r := [(3, .int .i64 (k + 1)), (0, .slice Aa la.length ca)]) ⟨rfl, rfl, trivial⟩
  exact ⟨_, (by omega), (k + 1), rfl, aL, e8, aF, (by omega), (by omega), (none_next hno (by assumption))⟩
 have aU := of_decide_eq_false aD
 refine wp_exit ?_
 refine t_e ?_
 clear hm9
 refine t_e ?_
 refine b_e ?_
 refine t_n ?_
 refine wp_seq ?_
 refine At.start ?_
 refine At.rd aA 1 [[]] [(2, .bool false)] [] (by kernel_rfl) trivial (fun aV aM => ?_)
 clear aA
 refine At.done rfl ?_
 refine t_n ?_
 refine wp_ret ?_
 refine ret_ aM [] [.bool false] [] (by kernel_rfl) trivial ?_
 exact ⟨ret_eq (congrArg Value.bool (someB_no hno (by omega))), e8⟩

set_option maxHeartbeats 4000000 in
theorem lessB_any {Aa : Option Addr} {ca : Nat} {la : List Bool} {Ab : Option Addr} {cb : Nat} {lb : List Bool} {w : World} (ra : RdR w 0 w.heap.size Aa la) (rb : RdR w 0 w.heap.size Ab lb) (hlb : lb.length = la.length) :
    Calls Try.prog 59 #[.slice Aa la.length ca, .slice Ab lb.length cb] w fun e w' => ∃ A c xs, e = .returned (.slice A (xs : List Bool).length c) ∧ Ext w w' ∧ OwnR w' (Sx w.heap.size []) A c 4 xs ∧ LessT la lb xs := by
 have hla := ra.len
 simp only [Enc.bytes] at hla
 refine enter_ (args := [.slice Aa la.length ca, .slice Ab lb.length cb]) Try.func59 rfl Try.ntmps59 (Nat.le_of_ble_eq_true rfl) (fun act0 f0 => ?_)
 have e0 : Ext w w := Ext.refl w
 refine wp_seq ?_
 refine At.start ?_
 refine At.rd f0 1 [[]] [(4, .slice none 0 0)] [] (by kernel_rfl) trivial (fun act2 f1 => ?_)
 clear f0
 refine At.done rfl ?_
 refine t_n ?_
 refine wp_seq ?_
 refine At.start ?_
 refine At.rd f1 2 [[], []] [(8, .int .i64 (((la.length : Nat) : Int))), (7, .slice Aa la.length ca)] [] (by kernel_rfl) trivial (fun act4 f3 => ?_)
 clear f1
 refine At.act f3 (makeR (k1 := .i64) (k2 := .i64) (α := Bool) (e := 4) (bytes := 1) (t := 83) (d := 9) (n := ((la.length : Nat) : Int)) (cap := ((la.length : Nat) : Int)) (false) (by kernel_rfl) rfl (by kernel_rfl) (by omega) (by omega) (by omega) (by omega)) ?_
 rintro d_ v_ w5 ⟨rfl, rfl, g6, hO7⟩
 refine ⟨_, rfl, fun bS aQ => ?_⟩
 clear f3; replace hO7 := hO7 (Sx (w.heap.size) []) (Nat.le_refl _); have := g6.size; replace e0 := e0.gn g6; have aR := ra.gn g6; clear ra; have aS := rb.gn g6; clear rb; clear g6; have : (List.replicate (((la.length : Nat) : Int) : Int).toNat (false : Bool)).length = (((la.length : Nat) : Int) : Int).toNat := List.length_replicate
 refine At.rd aQ 1 [[]] [(5, .slice (some ⟨w.heap.size, 0, none⟩) ((List.replicate (((la.length : Nat) : Int) : Int).toNat (false : Bool)).length) ((((la.length : Nat) : Int) : Int).toNat))] [] (by kernel_rfl) trivial (fun bT aT => ?_)
 clear aQ
 refine At.done rfl ?_
 refine t_n ?_
 refine wp_seq ?_
 refine wp_seq ?_
 refine At.start ?_
 refine At.rd aT 1 [[]] [(6, .int .i64 (0))] [] (by kernel_rfl) trivial (fun bU aU => ?_)
 clear aT
 refine At.done rfl ?_
 refine t_n ?_
 refine wp_block ?_
 have aV := aU.as 5 (.slice (some ⟨w.heap.size, 0, none⟩) ((List.replicate (((la.length : Nat) : Int) : Int).toNat (false : Bool)).length) ((((la.length : Nat) : Int) : Int).toNat)) (.slice (some ⟨w.heap.size, 0, none⟩) ((List.replicate (((la.length : Nat) : Int) : Int).toNat (false : Bool) : List Bool).length) ((((la.length : Nat) : Int) : Int).toNat)) rfl (slice_len (by first | rfl | omega | (simp; done) | (simp; omega)))
 clear aU
 have aW := aV.sub (r := [(6, .int .i64 (0)), (5, .slice (some ⟨w.heap.size, 0, none⟩) ((List.replicate (((la.length : Nat) : Int) : Int).toNat (false : Bool) : List Bool).length) ((((la.length : Nat) : Int) : Int).toNat)), (4, .slice none 0 0), (0, .slice Aa la.length ca), (1, .slice Ab lb.length cb)]) ⟨rfl, rfl, rfl, rfl, rfl, trivial⟩
 refine loop_g (fun (m_ : Nat) a_ w_ => ∃ (k : Int) (xs : List Bool) (aA : Option Addr) (aB : Nat), m_ = ((la.length : Int) - k).toNat ∧ (Frm 31 a_ [(6, .int .i64 (k)), (5, .slice aA xs.length aB), (4, .slice none 0 0), (0, .slice Aa la.length ca), (1, .slice Ab lb.length cb)]) ∧ (Ext w w_) ∧ (RdR w_ 0 w.heap.size Aa (la : List Bool)) ∧ (RdR w_ 0 w.heap.size Ab (lb : List Bool)) ∧ (OwnR w_ (Sx (w.heap.size) []) aA aB 4 (xs : List Bool)) ∧ (0 ≤ k) ∧ (k ≤ (la.length : Int)) ∧ (LessK la lb xs k) ∧ (xs.length = la.length)) _ ⟨0, (List.replicate (((la.length : Nat) : Int) : Int).toNat (false : Bool) : List Bool), some ⟨w.heap.size, 0, none⟩, (((la.length : Nat) : Int) : Int).toNat, rfl, aW, e0, aR, aS, hO7, (by omega), (Int.natCast_nonneg _), (by rw [Int.toNat_natCast]; exact lessK_0), (by simp)⟩ ?_
 clear aW aV; clear aR; clear aS; clear hO7; clear e0
 intro m_ bV aN ⟨k, xs, aA, aB, hm26, aX, aD, aF, aG, aC, i31, i32, hlk, i33⟩
 have := aD.size
 refine wp_seq ?_
 refine wp_seq ?_
 refine At.start ?_
 refine At.rd aX 4 [[], [], [], []] [(13, .bool (decide ((k : Int) < ((la.length : Nat) : Int)))), (12, .int .i64 (((la.length : Nat) : Int))), (11, .slice Aa la.length ca), (10, .int .i64 (k))] [] (by kernel_rfl) trivial (fun bW aH => ?_)
 clear aX
 refine At.done rfl ?_
 refine t_n ?_
 refine cond_S aH (t := decide ((k : Int) < ((la.length : Nat) : Int))) rfl (fun aO => ?_) (fun aO => ?_)
 ·have bX := of_decide_eq_true aO
  refine wp_skip ?_
  refine t_n ?_
  refine wp_seq ?_
  refine wp_block ?_
  refine At.start ?_
  obtain ⟨aE, aY, bY, aZ, bZ⟩ := aF.get (k) (by omega) (by omega) (sz := 1) rfl
  rcases Bool.eq_false_or_eq_true (gB la k) with aP | aP
  ·obtain ⟨aK, bJ, cA, bK, cB⟩ := aG.get (k) (by omega) (by omega) (sz := 1) rfl
   obtain ⟨aL, bA, cC, cD, cE⟩ := aC.get (k) (by omega) (by omega) (sz := 1) rfl
   refine At.rd aH 14 [[], [], [], [], [.ad aE], [.ld (.bool (gB la k))], [.as_ (.bool true)], [], [], [.ad aK], [.ld (.bool (gB lb k))], [], [], [.ad aL]] [(29, .pointer (some (aL.add ((k : Int).toNat * 1)))), (28, .bool (!(gB lb k))), (27, .bool (!(gB lb k))), (26, .bool (gB lb k)), (25, .pointer (some (aK.add ((k : Int).toNat * 1)))), (24, .int .i64 (k)), (23, .slice Ab lb.length cb), (22, .bool true), (21, .bool (gB la k)), (20, .pointer (some (aE.add ((k : Int).toNat * 1)))), (19, .int .i64 (k)), (18, .slice Aa la.length ca), (17, .int .i64 (k)), (16, .slice aA xs.length aB)] [(Aa = some aE), (0 ≤ (k : Int)), ((k : Int) < (la.length : Nat)), (aN.cell? (aE.add ((k : Int).toNat * 1)) = some (.bool (gB la k))), ((.bool (gB la k) : Value) = .bool true), (Ab = some aK), (0 ≤ (k : Int)), ((k : Int) < (lb.length : Nat)), (aN.cell? (aK.add ((k : Int).toNat * 1)) = some (.bool (gB lb k))), (aA = some aL), (0 ≤ (k : Int)), ((k : Int) < (xs.length : Nat))] (by kernel_rfl) ⟨aY, (by omega), (by omega), aZ, (congrArg Value.bool aP), bJ, (by omega), (by omega), bK, bA, (by omega), (by omega), trivial⟩ (fun cF bB => ?_)
   clear aH
   refine At.act bB (storeR (α := Bool) (t := 4) (i := k) (ad := aL) (v := .bool (!(gB lb k))) (!(gB lb k)) (by kernel_rfl) rfl rfl (by kernel_rfl) bA aC (by omega) (by omega)) ?_
   rintro d_ v_ cG ⟨rfl, aI, bL⟩
   refine ⟨_, rfl, fun cH bC => ?_⟩
   clear bB; have cI : ((xs).set (k : Int).toNat (!(gB lb k))).length = (xs).length := List.length_set; have := aI.size; replace aD := aD.gr aI (fun k hk => by have := aC.ge k hk; omega); replace aF := aF.gr aI (fun k hk => by have := aC.ge k hk; omega); replace aG := aG.gr aI (fun k hk => by have := aC.ge k hk; omega); clear aC aI
   refine At.done rfl ?_
   refine b_n ?_
   refine t_n ?_
   refine At.start ?_
   refine At.rd bC 3 [[], [.as_ (.int .i64 (k + 1))], []] [(6, .int .i64 (k + 1)), (15, .int .i64 (k + 1)), (14, .int .i64 (k))] [((.int .i64 (IntKind.i64.wrap (k + 1)) : Value) = .int .i64 (k + 1))] (by kernel_rfl) ⟨(w64 (by omega) (by omega)), trivial⟩ (fun cJ bD => ?_)
   clear bC
   refine At.done rfl ?_
   refine t_n ?_
   have bM := bD.as 5 (.slice aA xs.length aB) (.slice aA (((xs).set (k : Int).toNat (!(gB lb k)) : List Bool).length) aB) rfl (slice_len (by first | (simp only [List.length_set]; done) | rfl | omega | (simp; done) | (simp; omega)))
   clear bD
   have bN := bM.sub (r := [(6, .int .i64 (k + 1)), (5, .slice aA (((xs).set (k : Int).toNat (!(gB lb k)) : List Bool).length) aB), (4, .slice none 0 0), (0, .slice Aa la.length ca), (1, .slice Ab lb.length cb)]) ⟨rfl, rfl, rfl, rfl, rfl, trivial⟩
   exact ⟨_, (by omega), (k + 1), ((xs).set (k : Int).toNat (!(gB lb k)) : List Bool), aA, aB, rfl, bN, aD, aF, aG, bL, (by omega), (by omega), (lessK_next hlk (by omega) (by omega) (by simp_all)), (by rw [List.length_set]; assumption)⟩
  obtain ⟨aM, bE, cK, cL, cM⟩ := aC.get (k) (by omega) (by omega) (sz := 1) rfl
  refine At.rd aH 14 [[], [], [], [], [.ad aE], [.ld (.bool (gB la k))], [.as_ (.bool false)], [], [], [], [], [], [], [.ad aM]] [(29, .pointer (some (aM.add ((k : Int).toNat * 1)))), (28, .bool false), (27, undef), (26, undef), (25, undef), (24, undef), (23, undef), (22, .bool false), (21, .bool (gB la k)), (20, .pointer (some (aE.add ((k : Int).toNat * 1)))), (19, .int .i64 (k)), (18, .slice Aa la.length ca), (17, .int .i64 (k)), (16, .slice aA xs.length aB)] [(Aa = some aE), (0 ≤ (k : Int)), ((k : Int) < (la.length : Nat)), (aN.cell? (aE.add ((k : Int).toNat * 1)) = some (.bool (gB la k))), ((.bool (gB la k) : Value) = .bool false), (aA = some aM), (0 ≤ (k : Int)), ((k : Int) < (xs.length : Nat))] (by kernel_rfl) ⟨aY, (by omega), (by omega), aZ, (congrArg Value.bool aP), bE, (by omega), (by omega), trivial⟩ (fun cN bF => ?_)
  clear aH
  refine At.act bF (storeR (α := Bool) (t := 4) (i := k) (ad := aM) (v := .bool false) (false) (by kernel_rfl) rfl rfl (by kernel_rfl) bE aC (by omega) (by omega)) ?_
  rintro d_ v_ cO ⟨rfl, aJ, bO⟩
  refine ⟨_, rfl, fun cP bG => ?_⟩
  clear bF; have cQ : ((xs).set (k : Int).toNat false).length = (xs).length := List.length_set; have := aJ.size; replace aD := aD.gr aJ (fun k hk => by have := aC.ge k hk; omega); replace aF := aF.gr aJ (fun k hk => by have := aC.ge k hk; omega); replace aG := aG.gr aJ (fun k hk => by have := aC.ge k hk; omega); clear aC aJ
  refine At.done rfl ?_
  refine b_n ?_
  refine t_n ?_
  have bH := bG.sub (r := [(6, .int .i64 (k)), (5, .slice aA xs.length aB), (4, .slice none 0 0), (0, .slice Aa la.length ca), (1, .slice Ab lb.length cb)]) ⟨rfl, rfl, rfl, rfl, rfl, trivial⟩
  clear bG
  refine At.start ?_
  refine At.rd bH 3 [[], [.as_ (.int .i64 (k + 1))], []] [(6, .int .i64 (k + 1)), (15, .int .i64 (k + 1)), (14, .int .i64 (k))] [((.int .i64 (IntKind.i64.wrap (k + 1)) : Value) = .int .i64 (k + 1))] (by kernel_rfl) ⟨(w64 (by omega) (by omega)), trivial⟩ (fun cR bI => ?_)
  clear bH
  refine At.done rfl ?_
  refine t_n ?_
  have bP := bI.as 5 (.slice aA xs.length aB) (.slice aA (((xs).set (k : Int).toNat false : List Bool).length) aB) rfl (slice_len (by first | (simp only [List.length_set]; done) | rfl | omega | (simp; done) | (simp; omega)))
  clear bI
  have bQ := bP.sub (r := [(6, .int .i64 (k + 1)), (5, .slice aA (((xs).set (k : Int).toNat false : List Bool).length) aB), (4, .slice none 0 0), (0, .slice Aa la.length ca), (1, .slice Ab lb.length cb)]) ⟨rfl, rfl, rfl, rfl, rfl, trivial⟩
  exact ⟨_, (by omega), (k + 1), ((xs).set (k : Int).toNat false : List Bool), aA, aB, rfl, bQ, aD, aF, aG, bO, (by omega), (by omega), (lessK_next hlk (by omega) (by omega) (by simp_all)), (by rw [List.length_set]; assumption)⟩
 have cS := of_decide_eq_false aO
 refine wp_exit ?_
 refine t_e ?_
 clear hm26
 refine t_e ?_
 refine b_e ?_
 refine t_n ?_
 refine wp_seq ?_
 refine At.start ?_
 refine At.rd aH 2 [[], []] [(4, .slice aA xs.length aB), (30, .slice aA xs.length aB)] [] (by kernel_rfl) trivial (fun cT bR => ?_)
 clear aH
 refine At.done rfl ?_
 refine t_n ?_
 refine wp_ret ?_
 refine ret_ bR [] [.slice aA xs.length aB] [] (by kernel_rfl) trivial ?_
 exact ⟨aA, aB, _, rfl, aD, (aC.imp (fun g _ hs => by have := Sx_base hs; show w.heap.size ≤ g; omega)), lessK_end hlk (by omega)⟩

end Go.Proofs.Ytklbpajmoklheaa
