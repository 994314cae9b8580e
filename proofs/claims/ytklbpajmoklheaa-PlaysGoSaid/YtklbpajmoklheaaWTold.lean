/-
  A walk of a Go function, printed by a program of this repo. Conditions: what the theorems name.
-/
import Derived.Test.YtklbpajmoklheaaPurePlayW
import Derived.Test.YtklbpajmoklheaaWClone
set_option linter.unusedVariables false
set_option linter.unusedSimpArgs false
namespace Go.Proofs.Ytklbpajmoklheaa
open Go Go.RowKit

set_option maxHeartbeats 4000000 in
theorem toldM_any {Ag0 Ag1 Ag2 : Option Addr} {cg0 cg1 cg2 : Nat} {g : GameL} {Aa : Option Addr} {ca : Nat} {la : List Int} {k : Int} {w : World} (rg : RdG w 0 w.heap.size Ag0 Ag1 Ag2 cg0 cg1 cg2 g) (ra : RdI w 0 w.heap.size Aa la) (hc : la.length ≤ ca) (h0 : 0 ≤ k) (h1 : k ≤ (la.length : Int)) (hr : ∀ x ∈ la, 0 ≤ x ∧ x < (g.pr.length : Int)) :
    Calls Try.prog 41 #[.agg #[.slice Ag0 g.ow.length cg0, .slice Ag1 g.pr.length cg1, .slice Ag2 g.mv.length cg2], .slice Aa la.length ca, .int .i64 (k)] w fun e w' => ∃ A0 c0 A1 c1, e = .returned (.agg #[.slice A0 (la.take k.toNat).length c0, .slice A1 (la.drop k.toNat).length c1, .int .i64 (topP g (la.drop k.toNat) % 2)]) ∧ Ext w w' ∧ OwnR w' (Sx w.heap.size [obk A1]) A0 c0 3 (la.take k.toNat) ∧ OwnR w' (Sx w.heap.size [obk A0]) A1 c1 3 (la.drop k.toNat) := by
 have hlg0 := rg.ow.len; have hlg1 := rg.pr.len; have hlg2 := rg.mv.len; have hkg0 := rg.k0; have hkg1 := rg.k1; have hkg2 := rg.k2; have hla := ra.len; have hld := List.length_drop (l := la) (i := k.toNat)
 refine enter_ (args := [.agg #[.slice Ag0 g.ow.length cg0, .slice Ag1 g.pr.length cg1, .slice Ag2 g.mv.length cg2], .slice Aa la.length ca, .int .i64 (k)]) Try.func41 rfl Try.ntmps41 (Nat.le_of_ble_eq_true rfl) (fun act0 f0 => ?_)
 have e0 : Ext w w := Ext.refl w
 refine wp_seq ?_
 refine At.start ?_
 refine At.seq f0 1 [[]] [(3, .pointer (some ⟨w.heap.size, 0, none⟩))] (w.alloc (.cells #[.slice Ag0 g.ow.length cg0, .slice Ag1 g.pr.length cg1, .slice Ag2 g.mv.length cg2] 25 (0, 0))) [] (by kernel_rfl) trivial (fun act4 w1 hw2 f3 => ?_)
 clear f0; have g5 := gr_alloc hw2; have := g5.size; replace e0 := e0.gn g5; have r8 := rg.gn g5; clear rg; have r9 := ra.gn g5; clear ra; have aA : Bx w1 (w.heap.size) [.slice Ag0 g.ow.length cg0, .slice Ag1 g.pr.length cg1, .slice Ag2 g.mv.length cg2] 25 := Bx.new hw2; have := aA.lt; clear g5 hw2
 refine At.seq f3 1 [[]] [(6, .pointer (some ⟨w1.heap.size, 0, none⟩))] (w1.alloc (.cells #[.slice none 0 0, .slice none 0 0, .int .i64 (0)] 29 (0, 0))) [] (by kernel_rfl) trivial (fun fP aJ cN cO => ?_)
 clear f3; have bK := gr_alloc cN; have := bK.size; replace e0 := e0.gn bK; replace r8 := r8.gn bK; replace r9 := r9.gn bK; replace aA := aA.gn bK; have aB : Bx aJ (w1.heap.size) [.slice none 0 0, .slice none 0 0, .int .i64 (0)] 29 := Bx.new cN; have := aB.lt; clear bK cN
 refine At.done rfl ?_
 refine t_n ?_
 refine wp_seq (cut (fun a_ w_ => ∃ (aG : Nat) (aH : Option Addr) (aE : Option Addr) (aK : Nat) (aF : Nat), (Frm 39 a_ [(7, .pointer (some ⟨aG, 0, none⟩)), (6, .pointer (some ⟨w1.heap.size, 0, none⟩)), (3, .pointer (some ⟨w.heap.size, 0, none⟩))]) ∧ (Ext w w_) ∧ (RdG w_ 0 w.heap.size Ag0 Ag1 Ag2 cg0 cg1 cg2 g) ∧ (RdI w_ 0 w.heap.size Aa la) ∧ (Bx w_ (w.heap.size) [.slice Ag0 g.ow.length cg0, .slice Ag1 g.pr.length cg1, .slice Ag2 g.mv.length cg2] 25) ∧ (Bx w_ (w1.heap.size) [.slice none 0 0, .slice none 0 0, .int .i64 (0)] 29) ∧ (OwnR w_ (Sx (aJ.heap.size) [obk (aE), some (aG)]) (aH) (aK) 3 ((la.take (k : Int).toNat) : List Int)) ∧ (OwnR w_ (Sx (aJ.heap.size) [obk (aH), some (aG)]) (aE) (aF) 3 ((la.drop (k : Int).toNat) : List Int)) ∧ (Bx w_ (aG) [.slice (aH) (((la.take (k : Int).toNat)).length) (aK), .slice (aE) (((la.drop (k : Int).toNat)).length) (aF), .int .i64 (0)] 29) ∧ (aJ.heap.size ≤ aG) ∧ (aJ.heap.size ≤ w_.heap.size)) ?_ ?_)
 ·have aD := RdI.take r9 ((k : Int).toNat)
  have : (la.take (k : Int).toNat).length = (k : Int).toNat := by rw [List.length_take]; omega
  obtain ⟨bL, dG⟩ : ∃ A_ : Option Addr, (if ca = (k : Int).toNat then Aa else Option.map (fun a_ : Addr => a_.add ((k : Int).toNat * 1)) Aa) = A_ := ⟨_, rfl⟩
  have aC := RdI.drop r9 ((k : Int).toNat) (c := ca) (by omega) (by omega)
  rw [dG] at aC
  have : (la.drop (k : Int).toNat).length = la.length - (k : Int).toNat := List.length_drop
  obtain ⟨dH, cE⟩ : ∃ c : List (Addr × Value), c = [] := ⟨_, rfl⟩
  have dI : HoldsC dH aJ := by rw [cE]; exact trivial
  refine AtH.start dH 11 #[false, false, false, false, false, false, false, false, false, false, false] (by kernel_rfl) rfl rfl (fun aZ dJ => ?_)
  have aV := gr_drew dJ; have cP := dI.gr aV; have := aV.size; replace e0 := e0.gn aV; replace r8 := r8.gn aV; replace r9 := r9.gn aV; replace aA := aA.gn aV; replace aB := aB.gn aV; replace aD := aD.gn aV; replace aC := aC.gn aV; clear aV dJ dI
  refine AtH.rd (by kernel_rfl) (fun d v c a w h => by cases d <;> exact h) cP [0, 1, 2, 4, 5, 6] [[], [], [.as_ (.slice Aa ((la.take (k : Int).toNat).length) ca)], [], [], [.as_ (.slice bL ((la.drop (k : Int).toNat).length) (ca - (k : Int).toNat))]] [(17, .slice bL ((la.drop (k : Int).toNat).length) (ca - (k : Int).toNat)), (16, .int .i64 (k)), (15, .slice Aa la.length ca), (13, .slice Aa ((la.take (k : Int).toNat).length) ca), (12, .int .i64 (k)), (11, .slice Aa la.length ca)] #[true, true, true, false, true, true, true, false, false, false, false] [(0 ≤ (k : Int)), ((k : Int) ≤ (ca : Nat)), ((.slice Aa ((k : Int).toNat) ca : Value) = .slice Aa ((la.take (k : Int).toNat).length) ca), (0 ≤ (k : Int)), ((k : Int) ≤ ((la.length : Nat) : Int)), ((.slice (if ca = (k : Int).toNat then Aa else Option.map (fun a_ : Addr => a_.add ((k : Int).toNat * 1)) Aa) (la.length - (k : Int).toNat) (ca - (k : Int).toNat) : Value) = .slice bL ((la.drop (k : Int).toNat).length) (ca - (k : Int).toNat))] 5 cO (by kernel_rfl) ⟨(by omega), (by omega), (slice_len (by rw [List.length_take]; omega)), (by omega), (by omega), (by rw [dG, List.length_drop]), trivial⟩ (fun fQ cF => ?_)
  clear cO
  refine AtH.all [3, 9] 4 (by kernel_rfl) (by simp) ⟨?_, ?_, trivial⟩
  ·refine OneH.call cF 53 #[.slice Aa ((la.take (k : Int).toNat).length) ca] (some 14) #[true, true, true, true, true, true, true, false, false, false, false] (by kernel_rfl) (by kernel_rfl) (clone_any (la := (la.take (k : Int).toNat)) (aD.wide (Nat.zero_le _) (by omega))) ?_
   rintro e_ bA ⟨aL, aW, rfl, he, aI⟩
   refine ⟨_, rfl, _, rfl, fun fR cG => ?_⟩
   clear cF; have aX := gr_ext he; have cQ := cP.gr aX; have := aX.size; replace e0 := e0.gn aX; replace r8 := r8.gn aX; replace r9 := r9.gn aX; replace aA := aA.gn aX; replace aB := aB.gn aX; replace aD := aD.gn aX; replace aC := aC.gn aX; clear aX he
   refine ⟨cQ, ?_⟩
   refine AtH.all [7, 9] 3 (by kernel_rfl) (by simp) ⟨?_, ?_, trivial⟩
   ·refine OneH.call cG 53 #[.slice bL ((la.drop (k : Int).toNat).length) (ca - (k : Int).toNat)] (some 18) #[true, true, true, true, true, true, true, true, false, false, false] (by kernel_rfl) (by kernel_rfl) (clone_any (la := (la.drop (k : Int).toNat)) (aC.wide (Nat.zero_le _) (by omega))) ?_
    rintro e_ bB ⟨bM, bW, rfl, he, bE⟩
    refine ⟨_, rfl, _, rfl, fun fS dK => ?_⟩
    clear cG; have aS := gr_ext he; have cR := cQ.gr aS; have dL := aI.lt; have := aS.size; replace e0 := e0.gn aS; replace r8 := r8.gn aS; replace r9 := r9.gn aS; replace aA := aA.gn aS; replace aB := aB.gn aS; replace aD := aD.gn aS; replace aC := aC.gn aS
    replace aI : OwnR bB (Sx (aZ.heap.size) [obk (bM)]) aL aW 3 ((la.take (k : Int).toNat) : List Int) := aI.grA aS (fun _ _ h => by cases h) (fun k hk hs => ⟨(fun e => by have := bE.ge _ e; omega), hs⟩)
    replace bE : OwnR bB (Sx (bA.heap.size) [obk (aL)]) bM bW 3 ((la.drop (k : Int).toNat) : List Int) := bE.imp (fun g _ hs => ⟨(fun e => by have := dL _ e; have := Sx_base hs; omega), hs⟩)
    clear dL; clear aS he
    refine ⟨cR, ?_⟩
    refine AtH.rd (by kernel_rfl) (fun d v c a w h => by cases d <;> exact h) cR [8] [[]] [(19, .agg #[.slice aL (((la.take (k : Int).toNat)).length) aW, .slice bM (((la.drop (k : Int).toNat)).length) bW, .int .i64 (0)])] #[true, true, true, true, true, true, true, true, true, false, false] [] 2 dK (by kernel_rfl) trivial (fun fT dM => ?_)
    clear dK
    refine AtH.all [9] 1 (by kernel_rfl) (by simp) ⟨?_, trivial⟩
    refine OneH.seq dM [[]] [(7, .pointer (some ⟨bB.heap.size, 0, none⟩))] (bB.alloc (.cells #[.slice none 0 0, .slice none 0 0, .int .i64 (0)] 29 (0, 0))) [] #[true, true, true, true, true, true, true, true, true, true, false] (by kernel_rfl) (by kernel_rfl) (by kernel_rfl) trivial (fun fU eW cS dN => ?_)
    clear dM; have aM := gr_alloc cS; have dO := cR.gr aM; have := aM.size; replace e0 := e0.gn aM; replace r8 := r8.gn aM; replace r9 := r9.gn aM; replace aA := aA.gn aM; replace aB := aB.gn aM; replace aD := aD.gn aM; replace aC := aC.gn aM; replace aI := aI.grN aM; replace bE := bE.grN aM; have cT : Bx eW (bB.heap.size) [.slice none 0 0, .slice none 0 0, .int .i64 (0)] 29 := Bx.new cS; have := cT.lt
    clear aM cS
    refine ⟨dO, ?_⟩
    refine AtH.all [10] 0 (by kernel_rfl) (by simp) ⟨?_, trivial⟩
    refine OneH.store dN (t := 29) (b := bB.heap.size) (off := 0) (v := .agg #[.slice aL (((la.take (k : Int).toNat)).length) aW, .slice bM (((la.drop (k : Int).toNat)).length) bW, .int .i64 (0)]) #[true, true, true, true, true, true, true, true, true, true, true] (by kernel_rfl) (by kernel_rfl) cT (by kernel_rfl) (fun fV eX aN cU eY => ?_)
    clear dN
    replace cU : Bx eX (bB.heap.size) [.slice aL (((la.take (k : Int).toNat)).length) aW, .slice bM (((la.drop (k : Int).toNat)).length) bW, .int .i64 (0)] 29 := cU
    have dP := dO.gr' aN (by rw [cE]; exact trivial); have := aN.size; replace e0 := e0.gr aN (fun k h => by injection h; omega); replace r8 := r8.gb aN (by omega); replace r9 := r9.gb aN (by omega); replace aA := aA.gb aN (by omega); replace aB := aB.gb aN (by omega); replace aD := aD.gb aN (by omega); replace aC := aC.gb aN (by omega); replace aI := aI.gr aN (fun k hk => hk.1)
    replace bE := bE.gr aN (fun k hk => hk.1); clear cT aN
    refine ⟨dP, ?_⟩
    refine AtH.done (by kernel_rfl) ?_
    clear dP
    refine t_n ?_
    have eZ := eY.sub (r := [(7, .pointer (some ⟨bB.heap.size, 0, none⟩)), (6, .pointer (some ⟨w1.heap.size, 0, none⟩)), (3, .pointer (some ⟨w.heap.size, 0, none⟩))]) ⟨rfl, rfl, rfl, trivial⟩
    exact ⟨bB.heap.size, aL, bM, aW, bW, eZ, e0, r8, r9, aA, aB, (aI.imp (fun g _ hs => ⟨hs.2.1, hs.1, (by have := Sx_base hs; show aJ.heap.size ≤ g; omega)⟩)), (bE.imp (fun g _ hs => ⟨hs.2.1, hs.1, (by have := Sx_base hs; show aJ.heap.size ≤ g; omega)⟩)), cU, (by omega), (by omega)⟩
   refine OneH.seq cG [[]] [(7, .pointer (some ⟨bA.heap.size, 0, none⟩))] (bA.alloc (.cells #[.slice none 0 0, .slice none 0 0, .int .i64 (0)] 29 (0, 0))) [] #[true, true, true, true, true, true, true, false, false, true, false] (by kernel_rfl) (by kernel_rfl) (by kernel_rfl) trivial (fun fW dQ cV dR => ?_)
   clear cG; have aT := gr_alloc cV; have dS := cQ.gr aT; have := aT.size; replace e0 := e0.gn aT; replace r8 := r8.gn aT; replace r9 := r9.gn aT; replace aA := aA.gn aT; replace aB := aB.gn aT; replace aD := aD.gn aT; replace aC := aC.gn aT; replace aI := aI.grN aT; have bX : Bx dQ (bA.heap.size) [.slice none 0 0, .slice none 0 0, .int .i64 (0)] 29 := Bx.new cV; have := bX.lt; clear aT cV
   refine ⟨dS, ?_⟩
   refine AtH.all [7] 2 (by kernel_rfl) (by simp) ⟨?_, trivial⟩
   refine OneH.call dR 53 #[.slice bL ((la.drop (k : Int).toNat).length) (ca - (k : Int).toNat)] (some 18) #[true, true, true, true, true, true, true, true, false, true, false] (by kernel_rfl) (by kernel_rfl) (clone_any (la := (la.drop (k : Int).toNat)) (aC.wide (Nat.zero_le _) (by omega))) ?_
   rintro e_ dT ⟨bN, bY, rfl, he, bO⟩
   refine ⟨_, rfl, _, rfl, fun fX dU => ?_⟩
   clear dR; have aO := gr_ext he; have cW := dS.gr aO; have dV := aI.lt; have := aO.size; replace e0 := e0.gn aO; replace r8 := r8.gn aO; replace r9 := r9.gn aO; replace aA := aA.gn aO; replace aB := aB.gn aO; replace aD := aD.gn aO; replace aC := aC.gn aO
   replace aI : OwnR dT (Sx (aZ.heap.size) [obk (bN), some (bA.heap.size)]) aL aW 3 ((la.take (k : Int).toNat) : List Int) := aI.grA aO (fun _ _ h => by cases h) (fun k hk hs => ⟨(fun e => by have := bO.ge _ e; omega), hs.1, hs.2⟩)
   replace bX := bX.gn aO
   replace bO : OwnR dT (Sx (dQ.heap.size) [obk (aL)]) bN bY 3 ((la.drop (k : Int).toNat) : List Int) := bO.imp (fun g _ hs => ⟨(fun e => by have := dV _ e; have := Sx_base hs; omega), hs⟩)
   clear dV; clear aO he
   refine ⟨cW, ?_⟩
   refine AtH.rd (by kernel_rfl) (fun d v c a w h => by cases d <;> exact h) cW [8] [[]] [(19, .agg #[.slice aL (((la.take (k : Int).toNat)).length) aW, .slice bN (((la.drop (k : Int).toNat)).length) bY, .int .i64 (0)])] #[true, true, true, true, true, true, true, true, true, true, false] [] 1 dU (by kernel_rfl) trivial (fun fY dW => ?_)
   clear dU
   refine AtH.all [10] 0 (by kernel_rfl) (by simp) ⟨?_, trivial⟩
   refine OneH.store dW (t := 29) (b := bA.heap.size) (off := 0) (v := .agg #[.slice aL (((la.take (k : Int).toNat)).length) aW, .slice bN (((la.drop (k : Int).toNat)).length) bY, .int .i64 (0)]) #[true, true, true, true, true, true, true, true, true, true, true] (by kernel_rfl) (by kernel_rfl) bX (by kernel_rfl) (fun fZ fA aP cX fB => ?_)
   clear dW
   replace cX : Bx fA (bA.heap.size) [.slice aL (((la.take (k : Int).toNat)).length) aW, .slice bN (((la.drop (k : Int).toNat)).length) bY, .int .i64 (0)] 29 := cX
   have dX := cW.gr' aP (by rw [cE]; exact trivial); have := aP.size; replace e0 := e0.gr aP (fun k h => by injection h; omega); replace r8 := r8.gb aP (by omega); replace r9 := r9.gb aP (by omega); replace aA := aA.gb aP (by omega); replace aB := aB.gb aP (by omega); replace aD := aD.gb aP (by omega); replace aC := aC.gb aP (by omega); replace aI := aI.gr aP (fun k hk => hk.2.1)
   replace bO := bO.gr aP (fun k hk e => by have := Sx_base hk; injection e; omega); clear bX aP
   refine ⟨dX, ?_⟩
   refine AtH.done (by kernel_rfl) ?_
   clear dX
   refine t_n ?_
   have fC := fB.sub (r := [(7, .pointer (some ⟨bA.heap.size, 0, none⟩)), (6, .pointer (some ⟨w1.heap.size, 0, none⟩)), (3, .pointer (some ⟨w.heap.size, 0, none⟩))]) ⟨rfl, rfl, rfl, trivial⟩
   exact ⟨bA.heap.size, aL, bN, aW, bY, fC, e0, r8, r9, aA, aB, (aI.imp (fun g _ hs => ⟨hs.1, hs.2.1, (by have := Sx_base hs; show aJ.heap.size ≤ g; omega)⟩)), (bO.imp (fun g _ hs => ⟨hs.1, (fun e => by have := Sx_base hs; injection e; omega), (by have := Sx_base hs; show aJ.heap.size ≤ g; omega)⟩)), cX, (by omega), (by omega)⟩
  refine OneH.seq cF [[]] [(7, .pointer (some ⟨aZ.heap.size, 0, none⟩))] (aZ.alloc (.cells #[.slice none 0 0, .slice none 0 0, .int .i64 (0)] 29 (0, 0))) [] #[true, true, true, false, true, true, true, false, false, true, false] (by kernel_rfl) (by kernel_rfl) (by kernel_rfl) trivial (fun gA dY cY dZ => ?_)
  clear cF; have aY := gr_alloc cY; have eA := cP.gr aY; have := aY.size; replace e0 := e0.gn aY; replace r8 := r8.gn aY; replace r9 := r9.gn aY; replace aA := aA.gn aY; replace aB := aB.gn aY; replace aD := aD.gn aY; replace aC := aC.gn aY; have bF : Bx dY (aZ.heap.size) [.slice none 0 0, .slice none 0 0, .int .i64 (0)] 29 := Bx.new cY; have := bF.lt; clear aY cY
  refine ⟨eA, ?_⟩
  refine AtH.all [3] 3 (by kernel_rfl) (by simp) ⟨?_, trivial⟩
  refine OneH.call dZ 53 #[.slice Aa ((la.take (k : Int).toNat).length) ca] (some 14) #[true, true, true, true, true, true, true, false, false, true, false] (by kernel_rfl) (by kernel_rfl) (clone_any (la := (la.take (k : Int).toNat)) (aD.wide (Nat.zero_le _) (by omega))) ?_
  rintro e_ fD ⟨bP, bZ, rfl, he, bQ⟩
  refine ⟨_, rfl, _, rfl, fun gB eB => ?_⟩
  clear dZ; have aU := gr_ext he; have eC := eA.gr aU; have := aU.size; replace e0 := e0.gn aU; replace r8 := r8.gn aU; replace r9 := r9.gn aU; replace aA := aA.gn aU; replace aB := aB.gn aU; replace aD := aD.gn aU; replace aC := aC.gn aU; replace bF := bF.gn aU; clear aU he
  refine ⟨eC, ?_⟩
  refine AtH.all [7] 2 (by kernel_rfl) (by simp) ⟨?_, trivial⟩
  refine OneH.call eB 53 #[.slice bL ((la.drop (k : Int).toNat).length) (ca - (k : Int).toNat)] (some 18) #[true, true, true, true, true, true, true, true, false, true, false] (by kernel_rfl) (by kernel_rfl) (clone_any (la := (la.drop (k : Int).toNat)) (aC.wide (Nat.zero_le _) (by omega))) ?_
  rintro e_ eD ⟨bR, cA, rfl, he, bS⟩
  refine ⟨_, rfl, _, rfl, fun gC eE => ?_⟩
  clear eB; have aQ := gr_ext he; have cZ := eC.gr aQ; have eF := bQ.lt; have := aQ.size; replace e0 := e0.gn aQ; replace r8 := r8.gn aQ; replace r9 := r9.gn aQ; replace aA := aA.gn aQ; replace aB := aB.gn aQ; replace aD := aD.gn aQ; replace aC := aC.gn aQ; replace bF := bF.gn aQ
  replace bQ : OwnR eD (Sx (dY.heap.size) [obk (bR)]) bP bZ 3 ((la.take (k : Int).toNat) : List Int) := bQ.grA aQ (fun _ _ h => by cases h) (fun k hk hs => ⟨(fun e => by have := bS.ge _ e; omega), hs⟩)
  replace bS : OwnR eD (Sx (fD.heap.size) [obk (bP)]) bR cA 3 ((la.drop (k : Int).toNat) : List Int) := bS.imp (fun g _ hs => ⟨(fun e => by have := eF _ e; have := Sx_base hs; omega), hs⟩)
  clear eF; clear aQ he
  refine ⟨cZ, ?_⟩
  refine AtH.rd (by kernel_rfl) (fun d v c a w h => by cases d <;> exact h) cZ [8] [[]] [(19, .agg #[.slice bP (((la.take (k : Int).toNat)).length) bZ, .slice bR (((la.drop (k : Int).toNat)).length) cA, .int .i64 (0)])] #[true, true, true, true, true, true, true, true, true, true, false] [] 1 eE (by kernel_rfl) trivial (fun gD eG => ?_)
  clear eE
  refine AtH.all [10] 0 (by kernel_rfl) (by simp) ⟨?_, trivial⟩
  refine OneH.store eG (t := 29) (b := aZ.heap.size) (off := 0) (v := .agg #[.slice bP (((la.take (k : Int).toNat)).length) bZ, .slice bR (((la.drop (k : Int).toNat)).length) cA, .int .i64 (0)]) #[true, true, true, true, true, true, true, true, true, true, true] (by kernel_rfl) (by kernel_rfl) bF (by kernel_rfl) (fun gE fE aR dA fF => ?_)
  clear eG
  replace dA : Bx fE (aZ.heap.size) [.slice bP (((la.take (k : Int).toNat)).length) bZ, .slice bR (((la.drop (k : Int).toNat)).length) cA, .int .i64 (0)] 29 := dA
  have eH := cZ.gr' aR (by rw [cE]; exact trivial); have := aR.size; replace e0 := e0.gr aR (fun k h => by injection h; omega); replace r8 := r8.gb aR (by omega); replace r9 := r9.gb aR (by omega); replace aA := aA.gb aR (by omega); replace aB := aB.gb aR (by omega); replace aD := aD.gb aR (by omega); replace aC := aC.gb aR (by omega)
  replace bQ := bQ.gr aR (fun k hk e => by have := Sx_base hk; injection e; omega); replace bS := bS.gr aR (fun k hk e => by have := Sx_base hk; injection e; omega); clear bF aR
  refine ⟨eH, ?_⟩
  refine AtH.done (by kernel_rfl) ?_
  clear eH
  refine t_n ?_
  have fG := fF.sub (r := [(7, .pointer (some ⟨aZ.heap.size, 0, none⟩)), (6, .pointer (some ⟨w1.heap.size, 0, none⟩)), (3, .pointer (some ⟨w.heap.size, 0, none⟩))]) ⟨rfl, rfl, rfl, trivial⟩
  exact ⟨aZ.heap.size, bP, bR, bZ, cA, fG, e0, r8, r9, aA, aB, (bQ.imp (fun g _ hs => ⟨hs.1, (fun e => by have := Sx_base hs; injection e; omega), (by have := Sx_base hs; show aJ.heap.size ≤ g; omega)⟩)), (bS.imp (fun g _ hs => ⟨hs.1, (fun e => by have := Sx_base hs; injection e; omega), (by have := Sx_base hs; show aJ.heap.size ≤ g; omega)⟩)), dA, (by omega), (by omega)⟩
 clear r8; clear r9; clear aA; clear aB; clear cO e0
 intro gF fH ⟨aG, aH, aE, aK, aF, eI, dB, eJ, eK, dC, dD, eL, eM, cH, gG, gH⟩
 have := dB.size; have := dC.lt; have := dD.lt; have := cH.lt
 refine wp_seq ?_
 refine At.start ?_
 refine At.rd eI 1 [[]] [(8, .int .i64 (0))] [] (by kernel_rfl) trivial (fun gJ eN => ?_)
 clear eI
 refine At.done rfl ?_
 refine t_n ?_
 refine wp_seq ?_
 refine wp_seq ?_
 refine At.start ?_
 refine At.rd eN 4 [[], [.ld (.slice aE (((la.drop (k : Int).toNat)).length) aF)], [], []] [(23, .int .i64 (0)), (22, .int .i64 (((((la.drop (k : Int).toNat)).length : Nat) : Int))), (21, .slice aE (((la.drop (k : Int).toNat)).length) aF), (20, .pointer (some ⟨aG, 1, none⟩))] [(fH.cell? ⟨aG, 1, none⟩ = some (.slice aE (((la.drop (k : Int).toNat)).length) aF))] (by kernel_rfl) ⟨(cH.cell (i := 1) rfl), trivial⟩ (fun gK eO => ?_)
 clear eN
 refine At.done rfl ?_
 refine t_n ?_
 refine wp_block ?_
 have eP := eO.sub (r := [(23, .int .i64 (0)), (8, .int .i64 (0)), (22, .int .i64 (((((la.drop (k : Int).toNat)).length : Nat) : Int))), (21, .slice aE (((la.drop (k : Int).toNat)).length) aF), (7, .pointer (some ⟨aG, 0, none⟩)), (6, .pointer (some ⟨w1.heap.size, 0, none⟩)), (3, .pointer (some ⟨w.heap.size, 0, none⟩))]) ⟨rfl, rfl, rfl, rfl, rfl, rfl, rfl, trivial⟩
 refine loop_g (fun (m_ : Nat) a_ w_ => ∃ (j : Int) (t : Int), m_ = (((la.drop k.toNat).length : Int) - j).toNat ∧ (Frm 39 a_ [(23, .int .i64 (j)), (8, .int .i64 (t)), (22, .int .i64 (((((la.drop (k : Int).toNat)).length : Nat) : Int))), (21, .slice aE (((la.drop (k : Int).toNat)).length) aF), (7, .pointer (some ⟨aG, 0, none⟩)), (6, .pointer (some ⟨w1.heap.size, 0, none⟩)), (3, .pointer (some ⟨w.heap.size, 0, none⟩))]) ∧ (Ext w w_) ∧ (RdG w_ 0 w.heap.size Ag0 Ag1 Ag2 cg0 cg1 cg2 g) ∧ (RdI w_ 0 w.heap.size Aa la) ∧ (Bx w_ (w.heap.size) [.slice Ag0 g.ow.length cg0, .slice Ag1 g.pr.length cg1, .slice Ag2 g.mv.length cg2] 25) ∧ (Bx w_ (w1.heap.size) [.slice none 0 0, .slice none 0 0, .int .i64 (0)] 29) ∧ (OwnR w_ (Sx (aJ.heap.size) [obk (aE), some (aG)]) aH aK 3 ((la.take (k : Int).toNat) : List Int)) ∧ (OwnR w_ (Sx (aJ.heap.size) [obk (aH), some (aG)]) aE aF 3 ((la.drop (k : Int).toNat) : List Int)) ∧ (Bx w_ (aG) [.slice aH (((la.take (k : Int).toNat)).length) aK, .slice aE (((la.drop (k : Int).toNat)).length) aF, .int .i64 (0)] 29) ∧ (0 ≤ j) ∧ (j ≤ ((la.drop k.toNat).length : Int)) ∧ (t = topP g ((la.drop k.toNat).take j.toNat)) ∧ (aJ.heap.size ≤ w_.heap.size)) _ ⟨0, 0, rfl, eP, dB, eJ, eK, dC, dD, eL, eM, cH, (by omega), (Int.natCast_nonneg _), rfl, (by omega)⟩ ?_
 clear eP eO; clear eJ; clear eK; clear dC; clear dD; clear eL; clear eM; clear cH; clear dB
 intro m_ gL dE ⟨j, t, hm267, eQ, bG, bT, cB, bH, bU, bV, bI, cI, i276, i277, ht, i278⟩
 have := bG.size; have := bH.lt; have := bU.lt; have := cI.lt
 refine wp_seq ?_
 refine At.start ?_
 refine At.rd eQ 1 [[]] [(24, .bool (decide ((j : Int) < ((((la.drop (k : Int).toNat)).length : Nat) : Int))))] [] (by kernel_rfl) trivial (fun gM cC => ?_)
 clear eQ
 refine At.done rfl ?_
 refine t_n ?_
 refine wp_seq ?_
 refine cond_S cC (t := decide ((j : Int) < ((((la.drop (k : Int).toNat)).length : Nat) : Int))) rfl (fun dF => ?_) (fun dF => ?_)
 ·have gN := of_decide_eq_true dF
  refine wp_skip ?_
  refine t_n ?_
  refine wp_seq ?_
  refine wp_block ?_
  refine wp_seq ?_
  refine At.start ?_
  obtain ⟨cJ, fI, gO, fJ, gP⟩ := bI.get (j) (by omega) (by omega) (sz := 1) rfl
  refine At.rd cC 3 [[.ad cJ], [.ld (.int .i64 (gI (la.drop (k : Int).toNat) j))], []] [(10, .int .i64 (gI (la.drop (k : Int).toNat) j)), (26, .int .i64 (gI (la.drop (k : Int).toNat) j)), (25, .pointer (some (cJ.add ((j : Int).toNat * 1))))] [(aE = some cJ), (0 ≤ (j : Int)), ((j : Int) < (((la.drop (k : Int).toNat)).length : Nat)), (dE.cell? (cJ.add ((j : Int).toNat * 1)) = some (.int .i64 (gI (la.drop (k : Int).toNat) j)))] (by kernel_rfl) ⟨fI, (by omega), (by omega), fJ, trivial⟩ (fun gQ eR => ?_)
  clear cC
  refine At.done rfl ?_
  refine t_n ?_
  have hat := hr _ (drop_mem (k := k) (by omega) (by omega))
  refine At.start ?_
  obtain ⟨cK, fK, _, _, fL⟩ := RdI.get bT.pr (gI (la.drop (k : Int).toNat) j) (by omega) (by omega)
  refine At.rd eR 8 [[], [], [.ld (.slice Ag1 g.pr.length cg1)], [], [.ad cK], [.ld (.int .i64 (gI g.pr (gI (la.drop (k : Int).toNat) j)))], [.as_ (.int .i64 (max t (gI g.pr (gI (la.drop (k : Int).toNat) j))))], []] [(8, .int .i64 (max t (gI g.pr (gI (la.drop (k : Int).toNat) j)))), (33, .int .i64 (max t (gI g.pr (gI (la.drop (k : Int).toNat) j)))), (32, .int .i64 (gI g.pr (gI (la.drop (k : Int).toNat) j))), (31, .pointer (some (cK.add ((gI (la.drop (k : Int).toNat) j : Int).toNat * 1)))), (30, .int .i64 (gI (la.drop (k : Int).toNat) j)), (29, .slice Ag1 g.pr.length cg1), (28, .pointer (some ⟨w.heap.size, 1, none⟩)), (27, .int .i64 (t))] [(dE.cell? ⟨w.heap.size, 1, none⟩ = some (.slice Ag1 g.pr.length cg1)), (Ag1 = some cK), (0 ≤ (gI (la.drop (k : Int).toNat) j : Int)), ((gI (la.drop (k : Int).toNat) j : Int) < (g.pr.length : Nat)), (dE.cell? (cK.add ((gI (la.drop (k : Int).toNat) j : Int).toNat * 1)) = some (.int .i64 (gI g.pr (gI (la.drop (k : Int).toNat) j)))), ((.int .i64 (if (gI g.pr (gI (la.drop (k : Int).toNat) j)) > t then (gI g.pr (gI (la.drop (k : Int).toNat) j)) else t) : Value) = .int .i64 (max t (gI g.pr (gI (la.drop (k : Int).toNat) j))))] (by kernel_rfl) ⟨(bH.cell (i := 1) rfl), fK, (by omega), (by omega), fL, (congrArg (Value.int .i64) (max_if _ _)), trivial⟩ (fun gR eS => ?_)
  clear eR
  refine At.done rfl ?_
  refine b_n ?_
  refine t_n ?_
  refine At.start ?_
  refine At.rd eS 2 [[.as_ (.int .i64 (j + 1))], []] [(23, .int .i64 (j + 1)), (34, .int .i64 (j + 1))] [((.int .i64 (IntKind.i64.wrap (j + 1)) : Value) = .int .i64 (j + 1))] (by kernel_rfl) ⟨(w64 (by omega) (by omega)), trivial⟩ (fun gS fM => ?_)
  clear eS
  refine At.done rfl ?_
  refine t_n ?_
  have fN := fM.sub (r := [(23, .int .i64 (j + 1)), (8, .int .i64 (max t (gI g.pr (gI (la.drop (k : Int).toNat) j)))), (22, .int .i64 (((((la.drop (k : Int).toNat)).length : Nat) : Int))), (21, .slice aE (((la.drop (k : Int).toNat)).length) aF), (7, .pointer (some ⟨aG, 0, none⟩)), (6, .pointer (some ⟨w1.heap.size, 0, none⟩)), (3, .pointer (some ⟨w.heap.size, 0, none⟩))]) ⟨rfl, rfl, rfl, rfl, rfl, rfl, rfl, trivial⟩
  exact ⟨_, (by omega), (j + 1), max t (gI g.pr (gI (la.drop (k : Int).toNat) j)), rfl, fN, bG, bT, cB, bH, bU, bV, bI, cI, (by omega), (by omega), (top_next ht (by omega) (by omega)), (by omega)⟩
 have gT := of_decide_eq_false dF
 refine wp_exit ?_
 refine t_e ?_
 refine t_e ?_
 refine b_e ?_
 refine t_n ?_
 refine wp_seq ?_
 have htg := top_ge g (la.drop k.toNat); have hte : t = topP g (la.drop k.toNat) := ht.trans (top_all (by omega))
 refine At.start ?_
 refine At.rd cC 3 [[], [.as_ (.int .i64 ((t : Int) % 2))], []] [(37, .pointer (some ⟨aG, 2, none⟩)), (36, .int .i64 ((t : Int) % 2)), (35, .int .i64 (t))] [((2 : Int) ≠ 0), ((.int .i64 ((t : Int).tmod 2) : Value) = .int .i64 ((t : Int) % 2))] (by kernel_rfl) ⟨(by omega), (congrArg (Value.int .i64) (Int.tmod_eq_emod_of_nonneg (by omega))), trivial⟩ (fun gU eT => ?_)
 clear cC
 refine At.store eT (t := 3) (b := aG) (off := 2) (v := .int .i64 ((t : Int) % 2)) (by kernel_rfl) cI (by kernel_rfl) (fun gV cL bC bJ eU => ?_)
 clear eT
 replace bJ : Bx cL (aG) [.slice aH (((la.take (k : Int).toNat)).length) aK, .slice aE (((la.drop (k : Int).toNat)).length) aF, .int .i64 ((t : Int) % 2)] 29 := bJ
 have := bC.size; replace bG := bG.gr bC (fun k h => by injection h; omega); replace bT := bT.gb bC (by omega); replace cB := cB.gb bC (by omega); replace bH := bH.gb bC (by omega); replace bU := bU.gb bC (by omega); replace bV := bV.gr bC (fun k hk => hk.2.1); replace bI := bI.gr bC (fun k hk => hk.2.1); clear cI bC
 refine At.done rfl ?_
 refine t_n ?_
 refine wp_seq ?_
 refine At.start ?_
 refine At.rd eU 1 [[.ld (.slice aH (((la.take (k : Int).toNat)).length) aK), .ld (.slice aE (((la.drop (k : Int).toNat)).length) aF), .ld (.int .i64 ((t : Int) % 2))]] [(38, .agg #[.slice aH (((la.take (k : Int).toNat)).length) aK, .slice aE (((la.drop (k : Int).toNat)).length) aF, .int .i64 ((t : Int) % 2)])] [(cL.cell? ⟨aG, 0, none⟩ = some (.slice aH (((la.take (k : Int).toNat)).length) aK)), (cL.cell? ⟨aG, 1, none⟩ = some (.slice aE (((la.drop (k : Int).toNat)).length) aF)), (cL.cell? ⟨aG, 2, none⟩ = some (.int .i64 ((t : Int) % 2)))] (by kernel_rfl) ⟨(bJ.cell (i := 0) rfl), (bJ.cell (i := 1) rfl), (bJ.cell (i := 2) rfl), trivial⟩ (fun gW eV => ?_)
 clear eU
 refine At.store eV (t := 29) (b := w1.heap.size) (off := 0) (v := .agg #[.slice aH (((la.take (k : Int).toNat)).length) aK, .slice aE (((la.drop (k : Int).toNat)).length) aF, .int .i64 ((t : Int) % 2)]) (by kernel_rfl) bU (by kernel_rfl) (fun gX cM bD cD fO => ?_)
 clear eV
 replace cD : Bx cM (w1.heap.size) [.slice aH (((la.take (k : Int).toNat)).length) aK, .slice aE (((la.drop (k : Int).toNat)).length) aF, .int .i64 ((t : Int) % 2)] 29 := cD
 have := bD.size; replace bG := bG.gr bD (fun k h => by injection h; omega); replace bT := bT.gb bD (by omega); replace cB := cB.gb bD (by omega); replace bH := bH.gb bD (by omega); replace bV := bV.gr bD (fun k hk e => by have := Sx_base hk; injection e; omega); replace bI := bI.gr bD (fun k hk e => by have := Sx_base hk; injection e; omega); replace bJ := bJ.gb bD (by omega); clear bU bD
 refine At.done rfl ?_
 refine t_n ?_
 refine wp_ret ?_
 refine ret_ fO [[.slice aH (((la.take (k : Int).toNat)).length) aK, .slice aE (((la.drop (k : Int).toNat)).length) aF, .int .i64 ((t : Int) % 2)]] [.agg #[.slice aH (((la.take (k : Int).toNat)).length) aK, .slice aE (((la.drop (k : Int).toNat)).length) aF, .int .i64 ((t : Int) % 2)]] [(cM.cell? ⟨w1.heap.size, 0, none⟩ = some (.slice aH (((la.take (k : Int).toNat)).length) aK)), (cM.cell? ⟨w1.heap.size, 1, none⟩ = some (.slice aE (((la.drop (k : Int).toNat)).length) aF)), (cM.cell? ⟨w1.heap.size, 2, none⟩ = some (.int .i64 ((t : Int) % 2)))] (by kernel_rfl) ⟨(cD.cell (i := 0) rfl), (cD.cell (i := 1) rfl), (cD.cell (i := 2) rfl), trivial⟩ ?_
 rw [← hte]
 exact ⟨aH, aK, aE, aF, rfl, bG, (bV.imp (fun g _ hs => ⟨hs.1, (by have := Sx_base hs; show w.heap.size ≤ g; omega)⟩)), (bI.imp (fun g _ hs => ⟨hs.1, (by have := Sx_base hs; show w.heap.size ≤ g; omega)⟩))⟩

end Go.Proofs.Ytklbpajmoklheaa
