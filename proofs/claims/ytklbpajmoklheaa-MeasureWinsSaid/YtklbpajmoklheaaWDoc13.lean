/-
  A walk of a Go function, printed by a program of this repo. Conditions: what the theorems name.
-/
import Derived.Test.YtklbpajmoklheaaWWon
import Derived.Test.YtklbpajmoklheaaWIsR
import Derived.Test.YtklbpajmoklheaaPureDoc
set_option linter.unusedVariables false
set_option linter.unusedSimpArgs false
namespace Go.Proofs.Ytklbpajmoklheaa
open Go Go.RowKit

set_option maxHeartbeats 4000000 in
theorem solve13_any {Ag0 Ag1 Ag2 : Option Addr} {cg0 cg1 cg2 : Nat} {g : GameL} {w : World} (rg : RdG w 0 w.heap.size Ag0 Ag1 Ag2 cg0 cg1 cg2 g) :
    Calls Try.prog 33 #[.agg #[.slice Ag0 g.ow.length cg0, .slice Ag1 g.pr.length cg1, .slice Ag2 g.mv.length cg2]] w fun e w' => ∃ A0 c0 A1 c1 l0 l1, e = .returned (.agg #[.slice A0 (l0 : List Int).length c0, .slice A1 (l1 : List Int).length c1]) ∧ Ext w w' ∧ OwnR w' (Sx w.heap.size [obk A1]) A0 c0 3 l0 ∧ OwnR w' (Sx w.heap.size [obk A0]) A1 c1 3 l1 ∧ DocT g l0 l1 := by
 have hlg0 := rg.ow.len; have hlg1 := rg.pr.len; have hlg2 := rg.mv.len; have hkg0 := rg.k0; have hkg1 := rg.k1; have hkg2 := rg.k2
 refine enter_ (args := [.agg #[.slice Ag0 g.ow.length cg0, .slice Ag1 g.pr.length cg1, .slice Ag2 g.mv.length cg2]]) Try.func33 rfl Try.ntmps33 (Nat.le_of_ble_eq_true rfl) (fun act0 f0 => ?_)
 have e0 : Ext w w := Ext.refl w
 refine wp_seq ?_
 refine At.start ?_
 refine At.seq f0 1 [[]] [(1, .pointer (some ⟨w.heap.size, 0, none⟩))] (w.alloc (.cells #[.slice Ag0 g.ow.length cg0, .slice Ag1 g.pr.length cg1, .slice Ag2 g.mv.length cg2] 25 (0, 0))) [] (by kernel_rfl) trivial (fun act4 w1 hw2 f3 => ?_)
 clear f0; have g5 := gr_alloc hw2; have szw1 := g5.size; replace e0 := e0.gn g5; have r8 := rg.gn g5; clear rg; have bx9 : Bx w1 (w.heap.size) [.slice Ag0 g.ow.length cg0, .slice Ag1 g.pr.length cg1, .slice Ag2 g.mv.length cg2] 25 := Bx.new hw2; have := bx9.lt; clear g5 hw2
 refine At.seq f3 1 [[]] [(2, .pointer (some ⟨w1.heap.size, 0, none⟩))] (w1.alloc (.cells #[.slice none 0 0, .slice none 0 0] 56 (0, 0))) [] (by kernel_rfl) trivial (fun gO aA cU dP => ?_)
 clear f3; have cD := gr_alloc cU; have szw10 := cD.size; replace e0 := e0.gn cD; replace r8 := r8.gn cD; replace bx9 := bx9.gn cD; have aV : Bx aA (w1.heap.size) [.slice none 0 0, .slice none 0 0] 56 := Bx.new cU; have := aV.lt; clear cD cU
 refine At.done rfl ?_
 refine t_n ?_
 refine wp_seq ?_
 refine At.start ?_
 refine At.seq dP 1 [[]] [(3, .pointer (some ⟨aA.heap.size, 0, none⟩))] (aA.alloc (.cells #[.slice none 0 0, .slice none 0 0] 56 (0, 0))) [] (by kernel_rfl) trivial (fun gP cK cV dQ => ?_)
 clear dP; have bW := gr_alloc cV; have szw20 := bW.size; replace e0 := e0.gn bW; replace r8 := r8.gn bW; replace bx9 := bx9.gn bW; replace aV := aV.gn bW; have aT : Bx cK (aA.heap.size) [.slice none 0 0, .slice none 0 0] 56 := Bx.new cV; have := aT.lt; clear bW cV
 refine At.done rfl ?_
 refine t_n ?_
 refine wp_seq ?_
 refine At.start ?_
 refine At.rd dQ 1 [[.ld (.slice Ag0 g.ow.length cg0), .ld (.slice Ag1 g.pr.length cg1), .ld (.slice Ag2 g.mv.length cg2)]] [(10, .agg #[.slice Ag0 g.ow.length cg0, .slice Ag1 g.pr.length cg1, .slice Ag2 g.mv.length cg2])] [(cK.cell? ⟨w.heap.size, 0, none⟩ = some (.slice Ag0 g.ow.length cg0)), (cK.cell? ⟨w.heap.size, 1, none⟩ = some (.slice Ag1 g.pr.length cg1)), (cK.cell? ⟨w.heap.size, 2, none⟩ = some (.slice Ag2 g.mv.length cg2))] (by kernel_rfl) ⟨(bx9.cell (i := 0) rfl), (bx9.cell (i := 1) rfl), (bx9.cell (i := 2) rfl), trivial⟩ (fun gQ dR => ?_)
 clear dQ
 refine At.call dR 32 #[.agg #[.slice Ag0 g.ow.length cg0, .slice Ag1 g.pr.length cg1, .slice Ag2 g.mv.length cg2]] (some 11) (by kernel_rfl) (isR_any (r8.wide (Nat.zero_le _) (by omega))) ?_
 rintro e_ aB ⟨rfl, he⟩
 refine ⟨_, rfl, _, rfl, fun gR dS => ?_⟩
 clear dR; have bN := gr_ext he; have szw33 := bN.size; replace e0 := e0.gn bN; replace r8 := r8.gn bN; replace bx9 := bx9.gn bN; replace aV := aV.gn bN; replace aT := aT.gn bN; clear bN he
 refine At.rd dS 1 [[]] [(4, .bool (isR g))] [] (by kernel_rfl) trivial (fun gS dT => ?_)
 clear dS
 refine At.done rfl ?_
 refine t_n ?_
 refine wp_seq ?_
 refine wp_seq ?_
 refine At.start ?_
 refine At.rd dT 2 [[], []] [(13, .bool (!(isR g))), (12, .bool (isR g))] [] (by kernel_rfl) trivial (fun gT cE => ?_)
 clear dT
 refine At.done rfl ?_
 refine t_n ?_
 refine cond_S cE (t := !(isR g)) rfl (fun bO => ?_) (fun bO => ?_)
 ·have gU : (isR g) = false := by first | exact Eq.mp (Bool.not_eq_true' _) bO | exact Eq.mp (Bool.not_eq_false' _) bO | simpa using bO
  refine wp_seq ?_
  refine At.start ?_
  refine At.rd cE 1 [[.ld (.slice none 0 0), .ld (.slice none 0 0)]] [(14, .agg #[.slice none 0 0, .slice none 0 0])] [(aB.cell? ⟨aA.heap.size, 0, none⟩ = some (.slice none 0 0)), (aB.cell? ⟨aA.heap.size, 1, none⟩ = some (.slice none 0 0))] (by kernel_rfl) ⟨(aT.cell (i := 0) rfl), (aT.cell (i := 1) rfl), trivial⟩ (fun gV dU => ?_)
  clear cE
  refine At.store dU (t := 56) (b := w1.heap.size) (off := 0) (v := .agg #[.slice none 0 0, .slice none 0 0]) (by kernel_rfl) aV (by kernel_rfl) (fun gW cW bX cL fM => ?_)
  clear dU; replace cL : Bx cW (w1.heap.size) [.slice none 0 0, .slice none 0 0] 56 := cL; have := bX.size; replace e0 := e0.gr bX (fun k h => by injection h; omega); replace r8 := r8.gb bX (by omega); replace bx9 := bx9.gb bX (by omega); replace aT := aT.gb bX (by omega); clear aV bX
  refine At.done rfl ?_
  refine t_n ?_
  clear bx9; clear aT
  refine wp_ret ?_
  refine t_r ?_
  refine ret_ fM [[.slice none 0 0, .slice none 0 0]] [.agg #[.slice none 0 0, .slice none 0 0]] [(cW.cell? ⟨w1.heap.size, 0, none⟩ = some (.slice none 0 0)), (cW.cell? ⟨w1.heap.size, 1, none⟩ = some (.slice none 0 0))] (by kernel_rfl) ⟨(cL.cell (i := 0) rfl), (cL.cell (i := 1) rfl), trivial⟩ ?_
  exact ⟨none, 0, none, 0, _, _, rfl, e0, OwnR.nil, OwnR.nil, (doc_no (by assumption))⟩
 have gX : (isR g) = true := by first | exact Eq.mp (Bool.not_eq_true' _) bO | exact Eq.mp (Bool.not_eq_false' _) bO | simpa using bO
 refine wp_skip ?_
 refine t_n ?_
 refine wp_seq ?_
 have hR : isR g = true := by simp_all
 have hG := isR_ok hR; have hn1 := hG.n1
 refine At.start ?_
 refine At.rd cE 3 [[], [.ld (.slice Ag0 g.ow.length cg0)], []] [(17, .int .i64 (((g.ow.length : Nat) : Int))), (16, .slice Ag0 g.ow.length cg0), (15, .pointer (some ⟨w.heap.size, 0, none⟩))] [(aB.cell? ⟨w.heap.size, 0, none⟩ = some (.slice Ag0 g.ow.length cg0))] (by kernel_rfl) ⟨(bx9.cell (i := 0) rfl), trivial⟩ (fun gY dV => ?_)
 clear cE
 refine At.act dV (makeR (k1 := .i64) (k2 := .i64) (α := Bool) (e := 4) (bytes := 1) (t := 83) (d := 18) (n := ((g.ow.length : Nat) : Int)) (cap := ((g.ow.length : Nat) : Int)) (false) (by kernel_rfl) rfl (by kernel_rfl) (by omega) (by omega) (by omega) (by omega)) ?_
 rintro d_ v_ gZ ⟨rfl, rfl, bP, cM⟩
 refine ⟨_, rfl, fun hA dW => ?_⟩
 clear dV; replace cM := cM (Sx (aB.heap.size) []) (Nat.le_refl _); have szw65 := bP.size; replace e0 := e0.gn bP; replace r8 := r8.gn bP; replace bx9 := bx9.gn bP; replace aV := aV.gn bP; replace aT := aT.gn bP; clear bP; have : (List.replicate (((g.ow.length : Nat) : Int) : Int).toNat (false : Bool)).length = (((g.ow.length : Nat) : Int) : Int).toNat := List.length_replicate
 refine At.rd dW 1 [[]] [(5, .slice (some ⟨aB.heap.size, 0, none⟩) ((List.replicate (((g.ow.length : Nat) : Int) : Int).toNat (false : Bool)).length) ((((g.ow.length : Nat) : Int) : Int).toNat))] [] (by kernel_rfl) trivial (fun hB dX => ?_)
 clear dW
 refine At.done rfl ?_
 refine t_n ?_
 refine wp_seq ?_
 refine wp_seq ?_
 refine At.start ?_
 refine At.rd dX 1 [[]] [(6, .int .i64 (0))] [] (by kernel_rfl) trivial (fun hC dY => ?_)
 clear dX
 refine At.done rfl ?_
 refine t_n ?_
 refine wp_block ?_
 have dZ := dY.as 5 (.slice (some ⟨aB.heap.size, 0, none⟩) ((List.replicate (((g.ow.length : Nat) : Int) : Int).toNat (false : Bool)).length) ((((g.ow.length : Nat) : Int) : Int).toNat)) (.slice (some ⟨aB.heap.size, 0, none⟩) ((List.replicate (((g.ow.length : Nat) : Int) : Int).toNat (false : Bool) : List Bool).length) ((((g.ow.length : Nat) : Int) : Int).toNat)) rfl (slice_len (by first | rfl | omega | (simp; done) | (simp; omega)))
 clear dY
 have eA := dZ.sub (r := [(6, .int .i64 (0)), (5, .slice (some ⟨aB.heap.size, 0, none⟩) ((List.replicate (((g.ow.length : Nat) : Int) : Int).toNat (false : Bool) : List Bool).length) ((((g.ow.length : Nat) : Int) : Int).toNat)), (3, .pointer (some ⟨aA.heap.size, 0, none⟩)), (2, .pointer (some ⟨w1.heap.size, 0, none⟩)), (1, .pointer (some ⟨w.heap.size, 0, none⟩))]) ⟨rfl, rfl, rfl, rfl, rfl, trivial⟩
 refine loop_g (fun (m_ : Nat) a_ w_ => ∃ (k : Int) (al : List Bool) (aI : Option Addr) (aL : Nat), m_ = ((g.ow.length : Int) - k).toNat ∧ (Frm 61 a_ [(6, .int .i64 (k)), (5, .slice aI al.length aL), (3, .pointer (some ⟨aA.heap.size, 0, none⟩)), (2, .pointer (some ⟨w1.heap.size, 0, none⟩)), (1, .pointer (some ⟨w.heap.size, 0, none⟩))]) ∧ (Ext w w_) ∧ (RdG w_ 0 w.heap.size Ag0 Ag1 Ag2 cg0 cg1 cg2 g) ∧ (Bx w_ (w.heap.size) [.slice Ag0 g.ow.length cg0, .slice Ag1 g.pr.length cg1, .slice Ag2 g.mv.length cg2] 25) ∧ (Bx w_ (w1.heap.size) [.slice none 0 0, .slice none 0 0] 56) ∧ (Bx w_ (aA.heap.size) [.slice none 0 0, .slice none 0 0] 56) ∧ (OwnR w_ (Sx (aB.heap.size) []) aI aL 4 (al : List Bool)) ∧ (0 ≤ k) ∧ (k ≤ (g.ow.length : Int)) ∧ (al.length = g.ow.length) ∧ (∀ j : Int, 0 ≤ j → j < k → gB al j = true) ∧ (aB.heap.size ≤ w_.heap.size)) _ ⟨0, (List.replicate (((g.ow.length : Nat) : Int) : Int).toNat (false : Bool) : List Bool), some ⟨aB.heap.size, 0, none⟩, (((g.ow.length : Nat) : Int) : Int).toNat, rfl, eA, e0, r8, bx9, aV, aT, cM, (by omega), (Int.natCast_nonneg _), (by simp), (fun j a b => by omega), (by omega)⟩ ?_
 clear eA dZ; clear r8; clear bx9; clear aV; clear aT; clear cM; clear e0
 intro m_ hD cN ⟨k, al, aI, aL, hm88, eB, bJ, bK, aX, bL, bM, aS, i95, i96, hal, hall_, i97⟩
 have szw86 := bJ.size; have := aX.lt; have := bL.lt; have := bM.lt
 have szc98 : w.heap.size < w1.heap.size := by omega
 have szc99 : w1.heap.size < aA.heap.size := by omega
 have szc100 : aA.heap.size < aB.heap.size := by omega
 have szc101 : aB.heap.size ≤ cN.heap.size := by omega
 clear szw1 szw10 szw20 szw33 szw65 szw86
 refine wp_seq ?_
 refine wp_seq ?_
 refine At.start ?_
 refine At.rd eB 4 [[], [], [], []] [(22, .bool (decide ((k : Int) < ((al.length : Nat) : Int)))), (21, .int .i64 (((al.length : Nat) : Int))), (20, .slice aI al.length aL), (19, .int .i64 (k))] [] (by kernel_rfl) trivial (fun hE cF => ?_)
 clear eB
 refine At.done rfl ?_
 refine t_n ?_
 refine cond_S cF (t := decide ((k : Int) < ((al.length : Nat) : Int))) rfl (fun cX => ?_) (fun cX => ?_)
 ·have hF := of_decide_eq_true cX
  refine wp_skip ?_
  refine t_n ?_
  refine wp_seq ?_
  refine wp_block ?_
  refine At.start ?_
  obtain ⟨cO, eC, hH, hI, hJ⟩ := aS.get (k) (by omega) (by omega) (sz := 1) rfl
  refine At.rd cF 3 [[], [], [.ad cO]] [(27, .pointer (some (cO.add ((k : Int).toNat * 1)))), (26, .int .i64 (k)), (25, .slice aI al.length aL)] [(aI = some cO), (0 ≤ (k : Int)), ((k : Int) < (al.length : Nat))] (by kernel_rfl) ⟨eC, (by omega), (by omega), trivial⟩ (fun hK eD => ?_)
  clear cF
  refine At.act eD (storeR (α := Bool) (t := 4) (i := k) (ad := cO) (v := .bool true) (true) (by kernel_rfl) rfl rfl (by kernel_rfl) eC aS (by omega) (by omega)) ?_
  rintro d_ v_ hL ⟨rfl, bQ, fN⟩
  refine ⟨_, rfl, fun hM eE => ?_⟩
  clear eD; have hN : ((al).set (k : Int).toNat true).length = (al).length := List.length_set; have := bQ.size; replace bJ := bJ.gr bQ (fun k hk => by have := aS.ge k hk; omega); replace bK := bK.gr bQ (fun k hk => by have := aS.ge k hk; omega); replace aX := aX.gr bQ (fun e => by have := aS.ge _ e; omega); replace bL := bL.gr bQ (fun e => by have := aS.ge _ e; omega)
  replace bM := bM.gr bQ (fun e => by have := aS.ge _ e; omega); clear aS bQ
  have eF := eE.as 25 (.slice aI al.length aL) (.slice aI (((al).set (k : Int).toNat true : List Bool).length) aL) rfl (slice_len (by first | (simp only [List.length_set]; done) | rfl | omega | (simp; done) | (simp; omega)))
  clear eE
  have eG := eF.as 20 (.slice aI al.length aL) (.slice aI (((al).set (k : Int).toNat true : List Bool).length) aL) rfl (slice_len (by first | (simp only [List.length_set]; done) | rfl | omega | (simp; done) | (simp; omega)))
  clear eF
  have eH := eG.as 5 (.slice aI al.length aL) (.slice aI (((al).set (k : Int).toNat true : List Bool).length) aL) rfl (slice_len (by first | (simp only [List.length_set]; done) | rfl | omega | (simp; done) | (simp; omega)))
  clear eG
  refine At.done rfl ?_
  refine b_n ?_
  refine t_n ?_
  refine At.start ?_
  refine At.rd eH 3 [[], [.as_ (.int .i64 (k + 1))], []] [(6, .int .i64 (k + 1)), (24, .int .i64 (k + 1)), (23, .int .i64 (k))] [((.int .i64 (IntKind.i64.wrap (k + 1)) : Value) = .int .i64 (k + 1))] (by kernel_rfl) ⟨(w64 (by omega) (by omega)), trivial⟩ (fun hO fO => ?_)
  clear eH
  refine At.done rfl ?_
  refine t_n ?_
  have fP := fO.sub (r := [(6, .int .i64 (k + 1)), (5, .slice aI (((al).set (k : Int).toNat true : List Bool).length) aL), (3, .pointer (some ⟨aA.heap.size, 0, none⟩)), (2, .pointer (some ⟨w1.heap.size, 0, none⟩)), (1, .pointer (some ⟨w.heap.size, 0, none⟩))]) ⟨rfl, rfl, rfl, rfl, rfl, trivial⟩
  exact ⟨_, (by omega), (k + 1), ((al).set (k : Int).toNat true : List Bool), aI, aL, rfl, fP, bJ, bK, aX, bL, bM, fN, (by omega), (by omega), (by rw [List.length_set]; exact hal), (setB_next (P := fun _ x => x = true) hall_ (by omega) (by omega) rfl), (by omega)⟩
 have hP := of_decide_eq_false cX
 refine wp_exit ?_
 refine t_e ?_
 clear hm88
 refine t_e ?_
 refine b_e ?_
 refine t_n ?_
 refine wp_seq ?_
 have hae := all_end hal hall_ (by omega)
 have hLv : LiveB g al := by rw [hae]; exact (rep_live hR).1
 refine At.start ?_
 refine At.rd cF 2 [[.ld (.slice Ag0 g.ow.length cg0), .ld (.slice Ag1 g.pr.length cg1), .ld (.slice Ag2 g.mv.length cg2)], []] [(30, .slice aI al.length aL), (29, .agg #[.slice Ag0 g.ow.length cg0, .slice Ag1 g.pr.length cg1, .slice Ag2 g.mv.length cg2])] [(cN.cell? ⟨w.heap.size, 0, none⟩ = some (.slice Ag0 g.ow.length cg0)), (cN.cell? ⟨w.heap.size, 1, none⟩ = some (.slice Ag1 g.pr.length cg1)), (cN.cell? ⟨w.heap.size, 2, none⟩ = some (.slice Ag2 g.mv.length cg2))] (by kernel_rfl) ⟨(aX.cell (i := 0) rfl), (aX.cell (i := 1) rfl), (aX.cell (i := 2) rfl), trivial⟩ (fun hQ eI => ?_)
 clear cF
 refine At.call eI 50 #[.agg #[.slice Ag0 g.ow.length cg0, .slice Ag1 g.pr.length cg1, .slice Ag2 g.mv.length cg2], .slice aI al.length aL] (some 31) (by kernel_rfl) ((won_any hR 257 al hLv (by have := (cT_up al 256).2; omega)) (bK.wide (Nat.zero_le _) (by omega)) (aS.imp (fun g _ hs => (show aB.heap.size ≤ g from by have := Sx_base hs; omega))) (by omega)) ?_
 rintro e_ aG ⟨B133, d134, B135, d136, x1, y1, rfl, he, eJ, eK, hwx1⟩
 have hlx1 := hwx1.la; have hly1 := hwx1.lb
 refine ⟨_, rfl, _, rfl, fun hS eL => ?_⟩
 clear eI; have bR := gr_ext he; have lL_ := aS.lt; have szw141 := bR.size; replace bJ := bJ.gn bR; replace bK := bK.gn bR; replace aX := aX.gn bR; replace bL := bL.gn bR; replace bM := bM.gn bR
 have bY : OwnR aG (Sx (aB.heap.size) [obk (B135)]) B133 d134 4 (x1 : List Bool) := eJ.imp (fun g _ hs => ⟨hs.1, (hs.2.elim (fun h_ => aS.ge g h_) (fun h_ => by show aB.heap.size ≤ g; omega))⟩)
 have bZ : OwnR aG (Sx (aB.heap.size) [obk (B133)]) B135 d136 4 (y1 : List Bool) := eK.imp (fun g _ hs => ⟨hs.1, (hs.2.elim (fun h_ => aS.ge g h_) (fun h_ => by show aB.heap.size ≤ g; omega))⟩)
 clear eJ eK aS lL_ ; clear bR he
 refine At.rd eL 5 [[], [], [], [], []] [(8, .slice B135 y1.length d136), (7, .slice B133 x1.length d134), (33, .slice B135 y1.length d136), (32, .slice B133 x1.length d134), (28, .tuple #[.slice B133 x1.length d134, .slice B135 y1.length d136])] [] (by kernel_rfl) trivial (fun hT eM => ?_)
 clear eL
 refine At.done rfl ?_
 refine t_n ?_
 clear aX
 refine wp_seq ?_
 refine wp_seq ?_
 rw [hae] at hwx1
 refine At.start ?_
 refine At.rd eM 1 [[]] [(9, .int .i64 (0))] [] (by kernel_rfl) trivial (fun hU eN => ?_)
 clear eM
 refine At.done rfl ?_
 refine t_n ?_
 refine wp_block ?_
 have cP : OwnR aG (Sx (aG.heap.size) [obk (B133), obk (B135)]) none 0 3 ([] : List Int) := OwnR.nil; replace bY : OwnR aG (Sx (aB.heap.size) [obk none, obk (B135)]) B133 d134 4 (x1 : List Bool) := bY.imp (fun g _ hs => ⟨by simp [obk], hs⟩); replace bZ : OwnR aG (Sx (aB.heap.size) [obk none, obk (B133)]) B135 d136 4 (y1 : List Bool) := bZ.imp (fun g _ hs => ⟨by simp [obk], hs⟩)
 have eO : OwnR aG (Sx (aG.heap.size) [obk (B133), obk (B135), obk (none)]) none 0 3 ([] : List Int) := OwnR.nil; replace bY : OwnR aG (Sx (aB.heap.size) [obk none, obk none, obk (B135)]) B133 d134 4 (x1 : List Bool) := bY.imp (fun g _ hs => ⟨by simp [obk], hs⟩)
 replace bZ : OwnR aG (Sx (aB.heap.size) [obk none, obk none, obk (B133)]) B135 d136 4 (y1 : List Bool) := bZ.imp (fun g _ hs => ⟨by simp [obk], hs⟩); replace cP : OwnR aG (Sx (aG.heap.size) [obk none, obk (B133), obk (B135)]) none 0 3 ([] : List Int) := cP.imp (fun g _ hs => ⟨by simp [obk], hs⟩)
 have eP := eN.sub (r := [(9, .int .i64 (0)), (8, .slice B135 y1.length d136), (7, .slice B133 x1.length d134), (5, .slice aI al.length aL), (3, .pointer (some ⟨aA.heap.size, 0, none⟩)), (2, .pointer (some ⟨w1.heap.size, 0, none⟩))]) ⟨rfl, rfl, rfl, rfl, rfl, rfl, trivial⟩
 refine loop_g (fun (m_ : Nat) a_ w_ => ∃ (k1 : Int) (xa : List Int) (aJ : Option Addr) (aR : Nat) (xb : List Int) (aC : Option Addr) (aN : Nat), m_ = ((g.ow.length : Int) - k1).toNat ∧ (Frm 61 a_ [(9, .int .i64 (k1)), (8, .slice B135 y1.length d136), (7, .slice B133 x1.length d134), (5, .slice aI al.length aL), (3, .pointer (some ⟨aA.heap.size, 0, none⟩)), (2, .pointer (some ⟨w1.heap.size, 0, none⟩))]) ∧ (Ext w w_) ∧ (RdG w_ 0 w.heap.size Ag0 Ag1 Ag2 cg0 cg1 cg2 g) ∧ (Bx w_ (w1.heap.size) [.slice none 0 0, .slice none 0 0] 56) ∧ (Bx w_ (aA.heap.size) [.slice aJ xa.length aR, .slice aC xb.length aN] 56) ∧ (OwnR w_ (Sx (aB.heap.size) [obk (aC), obk (aJ), obk (B135)]) B133 d134 4 (x1 : List Bool)) ∧ (OwnR w_ (Sx (aB.heap.size) [obk (aC), obk (aJ), obk (B133)]) B135 d136 4 (y1 : List Bool)) ∧ (OwnR w_ (Sx (aG.heap.size) [obk (aC), obk (B133), obk (B135)]) aJ aR 3 (xa : List Int)) ∧ (OwnR w_ (Sx (aG.heap.size) [obk (B133), obk (B135), obk (aJ)]) aC aN 3 (xb : List Int)) ∧ (0 ≤ k1) ∧ (k1 ≤ (g.ow.length : Int)) ∧ (xa = onesL x1 k1.toNat) ∧ (xb = onesL y1 k1.toNat) ∧ (aB.heap.size ≤ w_.heap.size) ∧ (aG.heap.size ≤ w_.heap.size)) _ ⟨0, ([] : List Int), none, 0, ([] : List Int), none, 0, rfl, eP, bJ, bK, bL, (bM.as (by first | rfl | (simp only [List.cons.injEq, Value.slice.injEq, true_and, and_true]; omega))), bY, bZ, cP, eO, (by omega), (Int.natCast_nonneg _), rfl, rfl, (by omega), (by omega)⟩ ?_
 clear eP eN; clear bK; clear bL; clear bM; clear bY; clear bZ; clear cP; clear eO; clear bJ
 intro m_ hV aO ⟨k1, xa, aJ, aR, xb, aC, aN, hm173, eQ, aH, aM, aK, aP, aF, aD, aQ, aE, i182, i183, hxa, hxb, i184, i185⟩
 have szw171 := aH.size; have := aK.lt; have := aP.lt
 have szc186 : w.heap.size ≤ w1.heap.size := by omega
 have szc187 : w1.heap.size < aA.heap.size := by omega
 have szc188 : aA.heap.size < aB.heap.size := by omega
 have szc189 : aB.heap.size ≤ aG.heap.size := by omega
 have szc190 : aG.heap.size ≤ aO.heap.size := by omega
 clear szc98 szc99 szc100 szc101 szw141 szw171; have hxal := ones_len x1 k1.toNat; have hxbl := ones_len y1 k1.toNat
 rw [← hxa] at hxal
 rw [← hxb] at hxbl
 refine wp_seq ?_
 refine wp_seq ?_
 refine At.start ?_
 refine At.rd eQ 4 [[], [], [], []] [(37, .bool (decide ((k1 : Int) < ((al.length : Nat) : Int)))), (36, .int .i64 (((al.length : Nat) : Int))), (35, .slice aI al.length aL), (34, .int .i64 (k1))] [] (by kernel_rfl) trivial (fun hW cG => ?_)
 clear eQ
 refine At.done rfl ?_
 refine t_n ?_
 refine cond_S cG (t := decide ((k1 : Int) < ((al.length : Nat) : Int))) rfl (fun cY => ?_) (fun cY => ?_)
 ·have hX := of_decide_eq_true cY
  refine wp_skip ?_
  refine t_n ?_
  refine wp_seq ?_
  refine wp_block ?_
  refine wp_seq ?_
  refine wp_seq ?_
  refine At.start ?_
  obtain ⟨cQ, fQ, hY, fR, hZ⟩ := aF.get (k1) (by omega) (by omega) (sz := 1) rfl
  refine At.rd cG 4 [[], [], [.ad cQ], [.ld (.bool (gB x1 k1))]] [(43, .bool (gB x1 k1)), (42, .pointer (some (cQ.add ((k1 : Int).toNat * 1)))), (41, .int .i64 (k1)), (40, .slice B133 x1.length d134)] [(B133 = some cQ), (0 ≤ (k1 : Int)), ((k1 : Int) < (x1.length : Nat)), (aO.cell? (cQ.add ((k1 : Int).toNat * 1)) = some (.bool (gB x1 k1)))] (by kernel_rfl) ⟨fQ, (by omega), (by omega), fR, trivial⟩ (fun iA cH => ?_)
  clear cG
  refine At.done rfl ?_
  refine t_n ?_
  refine cond_S cH (t := gB x1 k1) rfl (fun fS => ?_) (fun fS => ?_)
  ·refine At.start ?_
   refine At.rd cH 3 [[], [.ld (.slice aJ xa.length aR)], []] [(46, .int .i64 (k1)), (45, .slice aJ xa.length aR), (44, .pointer (some ⟨aA.heap.size, 0, none⟩))] [(0 ≤ (0 : Int)), ((0 : Int) < (2 : Nat)), (aO.cell? ⟨aA.heap.size, 0, none⟩ = some (.slice aJ xa.length aR))] (by kernel_rfl) ⟨(by decide), (by decide), (aP.cell (i := 0) rfl), trivial⟩ (fun iB eR => ?_)
   clear cH
   refine At.seq eR 1 [[]] [(47, .slice (some ⟨aO.heap.size, 0, none⟩) 1 1)] (aO.alloc (.cells #[.int .i64 (k1)] 3 (0, 0))) [] (by kernel_rfl) trivial (fun iC eS cZ eT => ?_)
   clear eR; have aY := gr_alloc cZ; have := aY.size; replace aH := aH.gn aY; replace aM := aM.gn aY; replace aK := aK.gn aY; replace aP := aP.gn aY; replace aF := aF.grN aY; replace aD := aD.grN aY; replace aQ := aQ.grN aY; replace aE := aE.grN aY; have dA : Bx eS (aO.heap.size) [.int .i64 (k1)] 3 := Bx.new cZ; have := dA.lt; clear aY cZ
   have fT : (xa ++ ([k1])).length = (xa).length + ([k1] : List Int).length := List.length_append
   simp only [List.length_cons, List.length_nil] at fT
   refine At.act eT (appendR (α := Int) (t := 22) (d := 48) (n := xa.length) (m := 1) (cc := 1) (xs := xa) (ys := [k1]) (bytes := 8) (by first | rfl | omega | (simp; done) | (simp; omega)) (by first | rfl | omega | (simp; done) | (simp; omega)) (by kernel_rfl) rfl (by kernel_rfl) aQ (Bx.srcR (l := ([k1] : List Int)) dA rfl) (by simp only [List.length_cons, List.length_nil]; omega) (by simp only [List.length_cons, List.length_nil]; omega)) ?_
   rintro d_ v_ dB ⟨rfl, aU, cA, bS⟩
   obtain rfl := bS.val
   have bC := bS.gr
   refine ⟨_, rfl, fun iD eU => ?_⟩
   clear eT; clear dA
   have aW := bS.own (Sx (aG.heap.size) [obk (aC), obk (B133), obk (B135)]) (fun g _ hs => ⟨hs.2.1, hs.2.2.1, hs.2.2.2.1, hs.2.2.2.2⟩) ⟨aE.ne_new, aF.ne_new, aD.ne_new, (show aG.heap.size ≤ eS.heap.size by omega)⟩
   have := bC.size; replace aH := aH.gr bC (fun k hk => by have := aQ.ge k hk; omega); replace aM := aM.gr bC (fun k hk => by have := aQ.ge k hk; omega); replace aK := aK.gr bC (fun e => by have := aQ.ge _ e; omega); replace aP := aP.gr bC (fun e => by have := aQ.ge _ e; omega)
   replace aF : OwnR dB (Sx (aB.heap.size) [some (aO.heap.size), obk (aC), obk (aU), obk (B135)]) B133 d134 4 (x1 : List Bool) := aF.grA bC (fun k hk => hk.2.2.1) (fun k hk hs => ⟨hs.1, hs.2.1, own_repl bS.at_ hs.2.2.1 hk, hs.2.2.2.1, hs.2.2.2.2⟩)
   replace aD : OwnR dB (Sx (aB.heap.size) [some (aO.heap.size), obk (aC), obk (aU), obk (B133)]) B135 d136 4 (y1 : List Bool) := aD.grA bC (fun k hk => hk.2.2.1) (fun k hk hs => ⟨hs.1, hs.2.1, own_repl bS.at_ hs.2.2.1 hk, hs.2.2.2.1, hs.2.2.2.2⟩)
   replace aE : OwnR dB (Sx (aG.heap.size) [some (aO.heap.size), obk (B133), obk (B135), obk (aU)]) aC aN 3 (xb : List Int) := aE.grA bC (fun k hk => hk.2.2.2.1) (fun k hk hs => ⟨hs.1, hs.2.1, hs.2.2.1, own_repl bS.at_ hs.2.2.2.1 hk, hs.2.2.2.2⟩)
   clear aQ bC bS
   refine At.rd eU 1 [[]] [(49, .pointer (some ⟨aA.heap.size, 0, none⟩))] [(0 ≤ (0 : Int)), ((0 : Int) < (2 : Nat))] (by kernel_rfl) ⟨(by decide), (by decide), trivial⟩ (fun iE eV => ?_)
   clear eU
   refine At.store eV (t := 22) (b := aA.heap.size) (off := 0) (v := .slice aU ((xa ++ ([k1])).length) cA) (by kernel_rfl) aP (by kernel_rfl) (fun iF bD bE aZ eW => ?_)
   clear eV; replace aZ : Bx bD (aA.heap.size) [.slice aU ((xa ++ ([k1])).length) cA, .slice aC xb.length aN] 56 := aZ; have := bE.size; replace aH := aH.gr bE (fun k h => by injection h; omega); replace aM := aM.gb bE (by omega); replace aK := aK.gb bE (by omega); replace aF := aF.gr bE (fun k hk e => by have := Sx_base hk; injection e; omega)
   replace aD := aD.gr bE (fun k hk e => by have := Sx_base hk; injection e; omega); replace aW := aW.gr bE (fun k hk e => by have := Sx_base hk; injection e; omega); replace aE := aE.gr bE (fun k hk e => by have := Sx_base hk; injection e; omega); clear aP bE
   refine At.done rfl ?_
   refine t_n ?_
   refine wp_seq ?_
   refine At.start ?_
   obtain ⟨cR, fU, iG, fV, iH⟩ := aD.get (k1) (by omega) (by omega) (sz := 1) rfl
   refine At.rd eW 4 [[], [], [.ad cR], [.ld (.bool (gB y1 k1))]] [(53, .bool (gB y1 k1)), (52, .pointer (some (cR.add ((k1 : Int).toNat * 1)))), (51, .int .i64 (k1)), (50, .slice B135 y1.length d136)] [(B135 = some cR), (0 ≤ (k1 : Int)), ((k1 : Int) < (y1.length : Nat)), (bD.cell? (cR.add ((k1 : Int).toNat * 1)) = some (.bool (gB y1 k1)))] (by kernel_rfl) ⟨fU, (by omega), (by omega), fV, trivial⟩ (fun iI eX => ?_)
   clear eW
   refine At.done rfl ?_
   refine t_n ?_
   have cI := eX.sub (r := [(53, .bool (gB y1 k1)), (9, .int .i64 (k1)), (8, .slice B135 y1.length d136), (7, .slice B133 x1.length d134), (5, .slice aI al.length aL), (3, .pointer (some ⟨aA.heap.size, 0, none⟩)), (2, .pointer (some ⟨w1.heap.size, 0, none⟩))]) ⟨rfl, rfl, rfl, rfl, rfl, rfl, rfl, trivial⟩
   clear eX
   refine cond_S cI (t := gB y1 k1) rfl (fun fW => ?_) (fun fW => ?_)
   ·refine At.start ?_
    refine At.rd cI 3 [[], [.ld (.slice aC xb.length aN)], []] [(56, .int .i64 (k1)), (55, .slice aC xb.length aN), (54, .pointer (some ⟨aA.heap.size, 1, none⟩))] [(0 ≤ (1 : Int)), ((1 : Int) < (2 : Nat)), (bD.cell? ⟨aA.heap.size, 1, none⟩ = some (.slice aC xb.length aN))] (by kernel_rfl) ⟨(by decide), (by decide), (aZ.cell (i := 1) rfl), trivial⟩ (fun iJ eY => ?_)
    clear cI
    refine At.seq eY 1 [[]] [(57, .slice (some ⟨bD.heap.size, 0, none⟩) 1 1)] (bD.alloc (.cells #[.int .i64 (k1)] 3 (0, 0))) [] (by kernel_rfl) trivial (fun iK eZ dC fA => ?_)
    clear eY; have bA := gr_alloc dC; have := bA.size; replace aH := aH.gn bA; replace aM := aM.gn bA; replace aK := aK.gn bA; replace aZ := aZ.gn bA; replace aF := aF.grN bA; replace aD := aD.grN bA; replace aW := aW.grN bA; replace aE := aE.grN bA; have dD : Bx eZ (bD.heap.size) [.int .i64 (k1)] 3 := Bx.new dC; have := dD.lt; clear bA dC
    have fX : (xb ++ ([k1])).length = (xb).length + ([k1] : List Int).length := List.length_append
    simp only [List.length_cons, List.length_nil] at fX
    refine At.act fA (appendR (α := Int) (t := 22) (d := 58) (n := xb.length) (m := 1) (cc := 1) (xs := xb) (ys := [k1]) (bytes := 8) (by first | rfl | omega | (simp; done) | (simp; omega)) (by first | rfl | omega | (simp; done) | (simp; omega)) (by kernel_rfl) rfl (by kernel_rfl) aE (Bx.srcR (l := ([k1] : List Int)) dD rfl) (by simp only [List.length_cons, List.length_nil]; omega) (by simp only [List.length_cons, List.length_nil]; omega)) ?_
    rintro d_ v_ dE ⟨rfl, cB, dF, bT⟩
    obtain rfl := bT.val
    have bF := bT.gr
    refine ⟨_, rfl, fun iL fB => ?_⟩
    clear fA; clear dD
    have dG := bT.own (Sx (aG.heap.size) [obk (B133), obk (B135), obk (aU)]) (fun g _ hs => ⟨hs.2.2.1, hs.2.2.2.1, hs.2.2.2.2.1, hs.2.2.2.2.2⟩) ⟨aF.ne_new, aD.ne_new, aW.ne_new, (show aG.heap.size ≤ eZ.heap.size by omega)⟩
    have := bF.size; replace aH := aH.gr bF (fun k hk => by have := aE.ge k hk; omega); replace aM := aM.gr bF (fun k hk => by have := aE.ge k hk; omega); replace aK := aK.gr bF (fun e => by have := aE.ge _ e; omega); replace aZ := aZ.gr bF (fun e => by have := aE.ge _ e; omega)
    replace aF : OwnR dE (Sx (aB.heap.size) [some (bD.heap.size), some (aO.heap.size), obk (cB), obk (aU), obk (B135)]) B133 d134 4 (x1 : List Bool) := aF.grA bF (fun k hk => hk.2.2.1) (fun k hk hs => ⟨hs.1, hs.2.1, own_repl bT.at_ hs.2.2.1 hk, hs.2.2.2.1, hs.2.2.2.2.1, hs.2.2.2.2.2⟩)
    replace aD : OwnR dE (Sx (aB.heap.size) [some (bD.heap.size), some (aO.heap.size), obk (cB), obk (aU), obk (B133)]) B135 d136 4 (y1 : List Bool) := aD.grA bF (fun k hk => hk.2.2.1) (fun k hk hs => ⟨hs.1, hs.2.1, own_repl bT.at_ hs.2.2.1 hk, hs.2.2.2.1, hs.2.2.2.2.1, hs.2.2.2.2.2⟩)
    replace aW : OwnR dE (Sx (aG.heap.size) [some (bD.heap.size), obk (cB), obk (B133), obk (B135)]) aU cA 3 (xa ++ ([k1]) : List Int) := aW.grA bF (fun k hk => hk.2.1) (fun k hk hs => ⟨hs.1, own_repl bT.at_ hs.2.1 hk, hs.2.2.1, hs.2.2.2.1, hs.2.2.2.2⟩)
    clear aE bF bT
    refine At.rd fB 1 [[]] [(59, .pointer (some ⟨aA.heap.size, 1, none⟩))] [(0 ≤ (1 : Int)), ((1 : Int) < (2 : Nat))] (by kernel_rfl) ⟨(by decide), (by decide), trivial⟩ (fun iM fC => ?_)
    clear fB
    refine At.store fC (t := 22) (b := aA.heap.size) (off := 1) (v := .slice cB ((xb ++ ([k1])).length) dF) (by kernel_rfl) aZ (by kernel_rfl) (fun iN fY bG dH fD => ?_)
    clear fC; replace dH : Bx fY (aA.heap.size) [.slice aU ((xa ++ ([k1])).length) cA, .slice cB ((xb ++ ([k1])).length) dF] 56 := dH; have := bG.size; replace aH := aH.gr bG (fun k h => by injection h; omega); replace aM := aM.gb bG (by omega); replace aK := aK.gb bG (by omega); replace aF := aF.gr bG (fun k hk e => by have := Sx_base hk; injection e; omega)
    replace aD := aD.gr bG (fun k hk e => by have := Sx_base hk; injection e; omega); replace aW := aW.gr bG (fun k hk e => by have := Sx_base hk; injection e; omega); replace dG := dG.gr bG (fun k hk e => by have := Sx_base hk; injection e; omega); clear aZ bG
    refine At.done rfl ?_
    refine b_n ?_
    refine t_n ?_
    refine At.start ?_
    refine At.rd fD 3 [[], [.as_ (.int .i64 (k1 + 1))], []] [(9, .int .i64 (k1 + 1)), (39, .int .i64 (k1 + 1)), (38, .int .i64 (k1))] [((.int .i64 (IntKind.i64.wrap (k1 + 1)) : Value) = .int .i64 (k1 + 1))] (by kernel_rfl) ⟨(w64 (by omega) (by omega)), trivial⟩ (fun iO fZ => ?_)
    clear fD
    refine At.done rfl ?_
    refine t_n ?_
    have gA := fZ.sub (r := [(9, .int .i64 (k1 + 1)), (8, .slice B135 y1.length d136), (7, .slice B133 x1.length d134), (5, .slice aI al.length aL), (3, .pointer (some ⟨aA.heap.size, 0, none⟩)), (2, .pointer (some ⟨w1.heap.size, 0, none⟩))]) ⟨rfl, rfl, rfl, rfl, rfl, rfl, trivial⟩
    exact ⟨_, (by omega), (k1 + 1), (xa ++ ([k1]) : List Int), aU, cA, (xb ++ ([k1]) : List Int), cB, dF, rfl, gA, aH, aM, aK, dH, (aF.imp (fun g _ hs => ⟨hs.2.2.1, hs.2.2.2.1, hs.2.2.2.2.1, hs.2.2.2.2.2⟩)), (aD.imp (fun g _ hs => ⟨hs.2.2.1, hs.2.2.2.1, hs.2.2.2.2.1, hs.2.2.2.2.2⟩)), (aW.imp (fun g _ hs => ⟨hs.2.1, hs.2.2.1, hs.2.2.2.1, hs.2.2.2.2⟩)), dG, (by omega), (by omega), (by first | exact ones_next hxa (by omega) (by assumption) | exact ones_skip hxa (by omega) (by assumption)), (by first | exact ones_next hxb (by omega) (by assumption) | exact ones_skip hxb (by omega) (by assumption)), (by omega), (by omega)⟩
   refine wp_skip ?_
   refine b_n ?_
   refine t_n ?_
   refine At.start ?_
   refine At.rd cI 3 [[], [.as_ (.int .i64 (k1 + 1))], []] [(9, .int .i64 (k1 + 1)), (39, .int .i64 (k1 + 1)), (38, .int .i64 (k1))] [((.int .i64 (IntKind.i64.wrap (k1 + 1)) : Value) = .int .i64 (k1 + 1))] (by kernel_rfl) ⟨(w64 (by omega) (by omega)), trivial⟩ (fun iP gC => ?_)
   clear cI
   refine At.done rfl ?_
   refine t_n ?_
   have gD := gC.sub (r := [(9, .int .i64 (k1 + 1)), (8, .slice B135 y1.length d136), (7, .slice B133 x1.length d134), (5, .slice aI al.length aL), (3, .pointer (some ⟨aA.heap.size, 0, none⟩)), (2, .pointer (some ⟨w1.heap.size, 0, none⟩))]) ⟨rfl, rfl, rfl, rfl, rfl, rfl, trivial⟩
   exact ⟨_, (by omega), (k1 + 1), (xa ++ ([k1]) : List Int), aU, cA, (xb : List Int), aC, aN, rfl, gD, aH, aM, aK, aZ, (aF.imp (fun g _ hs => ⟨hs.2.1, hs.2.2.1, hs.2.2.2.1, hs.2.2.2.2⟩)), (aD.imp (fun g _ hs => ⟨hs.2.1, hs.2.2.1, hs.2.2.2.1, hs.2.2.2.2⟩)), aW, (aE.imp (fun g _ hs => ⟨hs.2.1, hs.2.2.1, hs.2.2.2.1, hs.2.2.2.2⟩)), (by omega), (by omega), (by first | exact ones_next hxa (by omega) (by assumption) | exact ones_skip hxa (by omega) (by assumption)), (by first | exact ones_next hxb (by omega) (by assumption) | exact ones_skip hxb (by omega) (by assumption)), (by omega), (by omega)⟩
  refine wp_skip ?_
  refine t_n ?_
  refine wp_seq ?_
  refine At.start ?_
  obtain ⟨cS, gE, iQ, gF, iR⟩ := aD.get (k1) (by omega) (by omega) (sz := 1) rfl
  refine At.rd cH 4 [[], [], [.ad cS], [.ld (.bool (gB y1 k1))]] [(53, .bool (gB y1 k1)), (52, .pointer (some (cS.add ((k1 : Int).toNat * 1)))), (51, .int .i64 (k1)), (50, .slice B135 y1.length d136)] [(B135 = some cS), (0 ≤ (k1 : Int)), ((k1 : Int) < (y1.length : Nat)), (aO.cell? (cS.add ((k1 : Int).toNat * 1)) = some (.bool (gB y1 k1)))] (by kernel_rfl) ⟨gE, (by omega), (by omega), gF, trivial⟩ (fun iS cJ => ?_)
  clear cH
  refine At.done rfl ?_
  refine t_n ?_
  refine cond_S cJ (t := gB y1 k1) rfl (fun gG => ?_) (fun gG => ?_)
  ·refine At.start ?_
   refine At.rd cJ 3 [[], [.ld (.slice aC xb.length aN)], []] [(56, .int .i64 (k1)), (55, .slice aC xb.length aN), (54, .pointer (some ⟨aA.heap.size, 1, none⟩))] [(0 ≤ (1 : Int)), ((1 : Int) < (2 : Nat)), (aO.cell? ⟨aA.heap.size, 1, none⟩ = some (.slice aC xb.length aN))] (by kernel_rfl) ⟨(by decide), (by decide), (aP.cell (i := 1) rfl), trivial⟩ (fun iT fE => ?_)
   clear cJ
   refine At.seq fE 1 [[]] [(57, .slice (some ⟨aO.heap.size, 0, none⟩) 1 1)] (aO.alloc (.cells #[.int .i64 (k1)] 3 (0, 0))) [] (by kernel_rfl) trivial (fun iU fF dI fG => ?_)
   clear fE; have bB := gr_alloc dI; have := bB.size; replace aH := aH.gn bB; replace aM := aM.gn bB; replace aK := aK.gn bB; replace aP := aP.gn bB; replace aF := aF.grN bB; replace aD := aD.grN bB; replace aQ := aQ.grN bB; replace aE := aE.grN bB; have dJ : Bx fF (aO.heap.size) [.int .i64 (k1)] 3 := Bx.new dI; have := dJ.lt; clear bB dI
   have gH : (xb ++ ([k1])).length = (xb).length + ([k1] : List Int).length := List.length_append
   simp only [List.length_cons, List.length_nil] at gH
   refine At.act fG (appendR (α := Int) (t := 22) (d := 58) (n := xb.length) (m := 1) (cc := 1) (xs := xb) (ys := [k1]) (bytes := 8) (by first | rfl | omega | (simp; done) | (simp; omega)) (by first | rfl | omega | (simp; done) | (simp; omega)) (by kernel_rfl) rfl (by kernel_rfl) aE (Bx.srcR (l := ([k1] : List Int)) dJ rfl) (by simp only [List.length_cons, List.length_nil]; omega) (by simp only [List.length_cons, List.length_nil]; omega)) ?_
   rintro d_ v_ dK ⟨rfl, cC, dL, bU⟩
   obtain rfl := bU.val
   have bH := bU.gr
   refine ⟨_, rfl, fun iV fH => ?_⟩
   clear fG; clear dJ
   have dM := bU.own (Sx (aG.heap.size) [obk (B133), obk (B135), obk (aJ)]) (fun g _ hs => ⟨hs.2.1, hs.2.2.1, hs.2.2.2.1, hs.2.2.2.2⟩) ⟨aF.ne_new, aD.ne_new, aQ.ne_new, (show aG.heap.size ≤ fF.heap.size by omega)⟩
   have := bH.size; replace aH := aH.gr bH (fun k hk => by have := aE.ge k hk; omega); replace aM := aM.gr bH (fun k hk => by have := aE.ge k hk; omega); replace aK := aK.gr bH (fun e => by have := aE.ge _ e; omega); replace aP := aP.gr bH (fun e => by have := aE.ge _ e; omega)
   replace aF : OwnR dK (Sx (aB.heap.size) [some (aO.heap.size), obk (cC), obk (aJ), obk (B135)]) B133 d134 4 (x1 : List Bool) := aF.grA bH (fun k hk => hk.2.1) (fun k hk hs => ⟨hs.1, own_repl bU.at_ hs.2.1 hk, hs.2.2.1, hs.2.2.2.1, hs.2.2.2.2⟩)
   replace aD : OwnR dK (Sx (aB.heap.size) [some (aO.heap.size), obk (cC), obk (aJ), obk (B133)]) B135 d136 4 (y1 : List Bool) := aD.grA bH (fun k hk => hk.2.1) (fun k hk hs => ⟨hs.1, own_repl bU.at_ hs.2.1 hk, hs.2.2.1, hs.2.2.2.1, hs.2.2.2.2⟩)
   replace aQ : OwnR dK (Sx (aG.heap.size) [some (aO.heap.size), obk (cC), obk (B133), obk (B135)]) aJ aR 3 (xa : List Int) := aQ.grA bH (fun k hk => hk.2.1) (fun k hk hs => ⟨hs.1, own_repl bU.at_ hs.2.1 hk, hs.2.2.1, hs.2.2.2.1, hs.2.2.2.2⟩)
   clear aE bH bU
   refine At.rd fH 1 [[]] [(59, .pointer (some ⟨aA.heap.size, 1, none⟩))] [(0 ≤ (1 : Int)), ((1 : Int) < (2 : Nat))] (by kernel_rfl) ⟨(by decide), (by decide), trivial⟩ (fun iW fI => ?_)
   clear fH
   refine At.store fI (t := 22) (b := aA.heap.size) (off := 1) (v := .slice cC ((xb ++ ([k1])).length) dL) (by kernel_rfl) aP (by kernel_rfl) (fun iX gI bI dN fJ => ?_)
   clear fI; replace dN : Bx gI (aA.heap.size) [.slice aJ xa.length aR, .slice cC ((xb ++ ([k1])).length) dL] 56 := dN; have := bI.size; replace aH := aH.gr bI (fun k h => by injection h; omega); replace aM := aM.gb bI (by omega); replace aK := aK.gb bI (by omega); replace aF := aF.gr bI (fun k hk e => by have := Sx_base hk; injection e; omega)
   replace aD := aD.gr bI (fun k hk e => by have := Sx_base hk; injection e; omega); replace aQ := aQ.gr bI (fun k hk e => by have := Sx_base hk; injection e; omega); replace dM := dM.gr bI (fun k hk e => by have := Sx_base hk; injection e; omega); clear aP bI
   refine At.done rfl ?_
   refine b_n ?_
   refine t_n ?_
   have fK := fJ.sub (r := [(9, .int .i64 (k1)), (8, .slice B135 y1.length d136), (7, .slice B133 x1.length d134), (5, .slice aI al.length aL), (3, .pointer (some ⟨aA.heap.size, 0, none⟩)), (2, .pointer (some ⟨w1.heap.size, 0, none⟩))]) ⟨rfl, rfl, rfl, rfl, rfl, rfl, trivial⟩
   clear fJ
   refine At.start ?_
   refine At.rd fK 3 [[], [.as_ (.int .i64 (k1 + 1))], []] [(9, .int .i64 (k1 + 1)), (39, .int .i64 (k1 + 1)), (38, .int .i64 (k1))] [((.int .i64 (IntKind.i64.wrap (k1 + 1)) : Value) = .int .i64 (k1 + 1))] (by kernel_rfl) ⟨(w64 (by omega) (by omega)), trivial⟩ (fun iY gJ => ?_)
   clear fK
   refine At.done rfl ?_
   refine t_n ?_
   have gK := gJ.sub (r := [(9, .int .i64 (k1 + 1)), (8, .slice B135 y1.length d136), (7, .slice B133 x1.length d134), (5, .slice aI al.length aL), (3, .pointer (some ⟨aA.heap.size, 0, none⟩)), (2, .pointer (some ⟨w1.heap.size, 0, none⟩))]) ⟨rfl, rfl, rfl, rfl, rfl, rfl, trivial⟩
   exact ⟨_, (by omega), (k1 + 1), (xa : List Int), aJ, aR, (xb ++ ([k1]) : List Int), cC, dL, rfl, gK, aH, aM, aK, dN, (aF.imp (fun g _ hs => ⟨hs.2.1, hs.2.2.1, hs.2.2.2.1, hs.2.2.2.2⟩)), (aD.imp (fun g _ hs => ⟨hs.2.1, hs.2.2.1, hs.2.2.2.1, hs.2.2.2.2⟩)), (aQ.imp (fun g _ hs => ⟨hs.2.1, hs.2.2.1, hs.2.2.2.1, hs.2.2.2.2⟩)), dM, (by omega), (by omega), (by first | exact ones_next hxa (by omega) (by assumption) | exact ones_skip hxa (by omega) (by assumption)), (by first | exact ones_next hxb (by omega) (by assumption) | exact ones_skip hxb (by omega) (by assumption)), (by omega), (by omega)⟩
  refine wp_skip ?_
  refine b_n ?_
  refine t_n ?_
  refine At.start ?_
  refine At.rd cJ 3 [[], [.as_ (.int .i64 (k1 + 1))], []] [(9, .int .i64 (k1 + 1)), (39, .int .i64 (k1 + 1)), (38, .int .i64 (k1))] [((.int .i64 (IntKind.i64.wrap (k1 + 1)) : Value) = .int .i64 (k1 + 1))] (by kernel_rfl) ⟨(w64 (by omega) (by omega)), trivial⟩ (fun iZ gL => ?_)
  clear cJ
  refine At.done rfl ?_
  refine t_n ?_
  have gM := gL.sub (r := [(9, .int .i64 (k1 + 1)), (8, .slice B135 y1.length d136), (7, .slice B133 x1.length d134), (5, .slice aI al.length aL), (3, .pointer (some ⟨aA.heap.size, 0, none⟩)), (2, .pointer (some ⟨w1.heap.size, 0, none⟩))]) ⟨rfl, rfl, rfl, rfl, rfl, rfl, trivial⟩
  exact ⟨_, (by omega), (k1 + 1), (xa : List Int), aJ, aR, (xb : List Int), aC, aN, rfl, gM, aH, aM, aK, aP, aF, aD, aQ, aE, (by omega), (by omega), (by first | exact ones_next hxa (by omega) (by assumption) | exact ones_skip hxa (by omega) (by assumption)), (by first | exact ones_next hxb (by omega) (by assumption) | exact ones_skip hxb (by omega) (by assumption)), (by omega), (by omega)⟩
 have jA := of_decide_eq_false cY
 refine wp_exit ?_
 refine t_e ?_
 clear hm173
 refine t_e ?_
 refine b_e ?_
 refine t_n ?_
 clear aF; clear aD
 refine wp_seq ?_
 refine At.start ?_
 refine At.rd cG 1 [[.ld (.slice aJ xa.length aR), .ld (.slice aC xb.length aN)]] [(60, .agg #[.slice aJ xa.length aR, .slice aC xb.length aN])] [(aO.cell? ⟨aA.heap.size, 0, none⟩ = some (.slice aJ xa.length aR)), (aO.cell? ⟨aA.heap.size, 1, none⟩ = some (.slice aC xb.length aN))] (by kernel_rfl) ⟨(aP.cell (i := 0) rfl), (aP.cell (i := 1) rfl), trivial⟩ (fun jB fL => ?_)
 clear cG
 refine At.store fL (t := 56) (b := w1.heap.size) (off := 0) (v := .agg #[.slice aJ xa.length aR, .slice aC xb.length aN]) (by kernel_rfl) aK (by kernel_rfl) (fun jC dO bV cT gN => ?_)
 clear fL; replace cT : Bx dO (w1.heap.size) [.slice aJ xa.length aR, .slice aC xb.length aN] 56 := cT; have := bV.size; replace aH := aH.gr bV (fun k h => by injection h; omega); replace aM := aM.gb bV (by omega); replace aP := aP.gb bV (by omega); replace aQ := aQ.gr bV (fun k hk e => by have := Sx_base hk; injection e; omega)
 replace aE := aE.gr bV (fun k hk e => by have := Sx_base hk; injection e; omega); clear aK bV
 refine At.done rfl ?_
 refine t_n ?_
 clear aP
 refine wp_ret ?_
 refine ret_ gN [[.slice aJ xa.length aR, .slice aC xb.length aN]] [.agg #[.slice aJ xa.length aR, .slice aC xb.length aN]] [(dO.cell? ⟨w1.heap.size, 0, none⟩ = some (.slice aJ xa.length aR)), (dO.cell? ⟨w1.heap.size, 1, none⟩ = some (.slice aC xb.length aN))] (by kernel_rfl) ⟨(cT.cell (i := 0) rfl), (cT.cell (i := 1) rfl), trivial⟩ ?_
 exact ⟨aJ, aR, aC, aN, _, _, rfl, aH, (aQ.imp (fun g _ hs => ⟨hs.1, (by have := Sx_base hs; show w.heap.size ≤ g; omega)⟩)), (aE.imp (fun g _ hs => ⟨hs.2.2.1, (by have := Sx_base hs; show w.heap.size ≤ g; omega)⟩)), (doc_yes hR hwx1 hxa hxb (by omega))⟩

end Go.Proofs.Ytklbpajmoklheaa
