/-
  A walk of a Go function, printed by a program of this repo. Conditions: what the theorems name.
-/
import Derived.Test.YtklbpajmoklheaaPurePlayW
import Derived.Test.YtklbpajmoklheaaFs
set_option linter.unusedVariables false
set_option linter.unusedSimpArgs false
namespace Go.Proofs.Ytklbpajmoklheaa
open Go Go.RowKit

set_option maxHeartbeats 4000000 in
theorem toldR_any {Ag0 Ag1 Ag2 : Option Addr} {cg0 cg1 cg2 : Nat} {g : GameL} {Aa : Option Addr} {ca : Nat} {la : List Pr2} {k : Int} {w : World} (rg : RdG w 0 w.heap.size Ag0 Ag1 Ag2 cg0 cg1 cg2 g) (ra : RdR w 0 w.heap.size Aa la) (h0 : 0 ≤ k) (h1 : k ≤ (la.length : Int)) (hr : ∀ x ∈ la, 0 ≤ x.1 ∧ x.1 < (g.pr.length : Int)) (hlb : la.length ≤ 100000) :
    Calls Try.prog 39 #[.agg #[.slice Ag0 g.ow.length cg0, .slice Ag1 g.pr.length cg1, .slice Ag2 g.mv.length cg2], .slice Aa la.length ca, .int .i64 (k)] w fun e w' => ∃ A0 c0 A1 c1, e = .returned (.agg #[.slice A0 ((la.take k.toNat).map Prod.fst).length c0, .slice A1 ((la.drop k.toNat).map Prod.fst).length c1, .int .i64 (topP g ((la.drop k.toNat).map Prod.fst) % 2)]) ∧ Ext w w' ∧ OwnR w' (Sx w.heap.size [obk A1]) A0 c0 3 ((la.take k.toNat).map Prod.fst) ∧ OwnR w' (Sx w.heap.size [obk A0]) A1 c1 3 ((la.drop k.toNat).map Prod.fst) := by
 have hlg0 := rg.ow.len; have hlg1 := rg.pr.len; have hlg2 := rg.mv.len; have hkg0 := rg.k0; have hkg1 := rg.k1; have hkg2 := rg.k2; have hla := ra.len
 simp only [Enc.bytes] at hla
 refine enter_ (args := [.agg #[.slice Ag0 g.ow.length cg0, .slice Ag1 g.pr.length cg1, .slice Ag2 g.mv.length cg2], .slice Aa la.length ca, .int .i64 (k)]) Try.func39 rfl Try.ntmps39 (Nat.le_of_ble_eq_true rfl) (fun act0 f0 => ?_)
 have e0 : Ext w w := Ext.refl w
 refine wp_seq ?_
 refine At.start ?_
 refine At.seq f0 1 [[]] [(3, .pointer (some ⟨w.heap.size, 0, none⟩))] (w.alloc (.cells #[.slice Ag0 g.ow.length cg0, .slice Ag1 g.pr.length cg1, .slice Ag2 g.mv.length cg2] 25 (0, 0))) [] (by kernel_rfl) trivial (fun act4 w1 hw2 f3 => ?_)
 clear f0; have g5 := gr_alloc hw2; have := g5.size; replace e0 := e0.gn g5; have r8 := rg.gn g5; clear rg; have r9 := ra.gn g5; clear ra; have bI : Bx w1 (w.heap.size) [.slice Ag0 g.ow.length cg0, .slice Ag1 g.pr.length cg1, .slice Ag2 g.mv.length cg2] 25 := Bx.new hw2; have := bI.lt; clear g5 hw2
 refine At.seq f3 1 [[]] [(6, .pointer (some ⟨w1.heap.size, 0, none⟩))] (w1.alloc (.cells #[.slice none 0 0, .slice none 0 0, .int .i64 (0)] 29 (0, 0))) [] (by kernel_rfl) trivial (fun iT aH dH eM => ?_)
 clear f3; have bT := gr_alloc dH; have := bT.size; replace e0 := e0.gn bT; replace r8 := r8.gn bT; replace r9 := r9.gn bT; replace bI := bI.gn bT; have bP : Bx aH (w1.heap.size) [.slice none 0 0, .slice none 0 0, .int .i64 (0)] 29 := Bx.new dH; have := bP.lt; clear bT dH
 refine At.done rfl ?_
 refine t_n ?_
 refine wp_seq ?_
 refine At.start ?_
 refine At.rd eM 1 [[]] [(10, .agg #[.slice none 0 0, .slice none 0 0, .int .i64 (0)])] [] (by kernel_rfl) trivial (fun iU eN => ?_)
 clear eM
 refine At.seq eN 1 [[]] [(7, .pointer (some ⟨aH.heap.size, 0, none⟩))] (aH.alloc (.cells #[.slice none 0 0, .slice none 0 0, .int .i64 (0)] 29 (0, 0))) [] (by kernel_rfl) trivial (fun iV gT dI eO => ?_)
 clear eN; have bQ := gr_alloc dI; have := bQ.size; replace e0 := e0.gn bQ; replace r8 := r8.gn bQ; replace r9 := r9.gn bQ; replace bI := bI.gn bQ; replace bP := bP.gn bQ; have dJ : Bx gT (aH.heap.size) [.slice none 0 0, .slice none 0 0, .int .i64 (0)] 29 := Bx.new dI; have := dJ.lt; clear bQ dI
 refine At.store eO (t := 29) (b := aH.heap.size) (off := 0) (v := .agg #[.slice none 0 0, .slice none 0 0, .int .i64 (0)]) (by kernel_rfl) dJ (by kernel_rfl) (fun iW aN bR cP eP => ?_)
 clear eO; replace cP : Bx aN (aH.heap.size) [.slice none 0 0, .slice none 0 0, .int .i64 (0)] 29 := cP; have := bR.size; replace e0 := e0.gr bR (fun k h => by injection h; omega); replace r8 := r8.gb bR (by omega); replace r9 := r9.gb bR (by omega); replace bI := bI.gb bR (by omega); replace bP := bP.gb bR (by omega); clear dJ bR
 refine At.done rfl ?_
 refine t_n ?_
 refine wp_seq ?_
 refine At.start ?_
 refine At.rd eP 1 [[]] [(8, .int .i64 (0))] [] (by kernel_rfl) trivial (fun iX eQ => ?_)
 clear eP
 refine At.done rfl ?_
 refine t_n ?_
 refine wp_seq ?_
 refine wp_seq ?_
 refine At.start ?_
 refine At.rd eQ 1 [[]] [(9, .int .i64 (0))] [] (by kernel_rfl) trivial (fun iY eR => ?_)
 clear eQ
 refine At.done rfl ?_
 refine t_n ?_
 refine wp_block ?_
 have cQ : OwnR aN (Sx (aN.heap.size) []) none 0 3 ([] : List Int) := OwnR.nil; have eS : OwnR aN (Sx (aN.heap.size) [obk (none)]) none 0 3 ([] : List Int) := OwnR.nil; replace cQ : OwnR aN (Sx (aN.heap.size) [obk none]) none 0 3 ([] : List Int) := cQ.imp (fun g _ hs => ⟨by simp [obk], hs⟩)
 have eT := eR.sub (r := [(9, .int .i64 (0)), (8, .int .i64 (0)), (7, .pointer (some ⟨aH.heap.size, 0, none⟩)), (6, .pointer (some ⟨w1.heap.size, 0, none⟩)), (3, .pointer (some ⟨w.heap.size, 0, none⟩)), (1, .slice Aa la.length ca), (2, .int .i64 (k))]) ⟨rfl, rfl, rfl, rfl, rfl, rfl, rfl, trivial⟩
 refine loop_g (fun (m_ : Nat) a_ w_ => ∃ (j : Int) (t : Int) (xa : List Int) (aJ : Option Addr) (aL : Nat) (xr : List Int) (aK : Option Addr) (aM : Nat), m_ = ((la.length : Int) - j).toNat ∧ (Frm 64 a_ [(9, .int .i64 (j)), (8, .int .i64 (t)), (7, .pointer (some ⟨aH.heap.size, 0, none⟩)), (6, .pointer (some ⟨w1.heap.size, 0, none⟩)), (3, .pointer (some ⟨w.heap.size, 0, none⟩)), (1, .slice Aa la.length ca), (2, .int .i64 (k))]) ∧ (Ext w w_) ∧ (RdG w_ 0 w.heap.size Ag0 Ag1 Ag2 cg0 cg1 cg2 g) ∧ (RdR w_ 0 w.heap.size Aa (la : List Pr2)) ∧ (Bx w_ (w.heap.size) [.slice Ag0 g.ow.length cg0, .slice Ag1 g.pr.length cg1, .slice Ag2 g.mv.length cg2] 25) ∧ (Bx w_ (w1.heap.size) [.slice none 0 0, .slice none 0 0, .int .i64 (0)] 29) ∧ (Bx w_ (aH.heap.size) [.slice aJ xa.length aL, .slice aK xr.length aM, .int .i64 (0)] 29) ∧ (OwnR w_ (Sx (aN.heap.size) [obk (aK)]) aJ aL 3 (xa : List Int)) ∧ (OwnR w_ (Sx (aN.heap.size) [obk (aJ)]) aK aM 3 (xr : List Int)) ∧ (0 ≤ j) ∧ (j ≤ (la.length : Int)) ∧ (AhT la k xa j) ∧ (RoT la k xr j) ∧ (t = topP g xr) ∧ (aN.heap.size ≤ w_.heap.size)) _ ⟨0, 0, ([] : List Int), none, 0, ([] : List Int), none, 0, rfl, eT, e0, r8, r9, bI, bP, (cP.as (by first | rfl | (simp only [List.cons.injEq, Value.slice.injEq, true_and, and_true]; omega))), cQ, eS, (by omega), (by omega), (by unfold AhT; rw [show (min 0 k).toNat = 0 by omega]; rfl), (by unfold RoT; simp), rfl, (by omega)⟩ ?_
 clear eT eR; clear r8; clear r9; clear bI; clear bP; clear cP; clear cQ; clear eS; clear e0
 intro m_ iZ eU ⟨j, t, xa, aJ, aL, xr, aK, aM, hm63, eV, aE, aD, aB, aC, aF, aI, aA, aG, i72, i73, ha, hr_, ht, i74⟩
 have := aE.size; have := aC.lt; have := aF.lt; have := aI.lt; have hxal := congrArg List.length ha; have hxrl := congrArg List.length hr_
 simp only [List.length_map, List.length_take, List.length_drop] at hxal hxrl
 refine wp_seq ?_
 refine wp_seq ?_
 refine At.start ?_
 refine At.rd eV 4 [[], [], [], []] [(14, .bool (decide ((j : Int) < ((la.length : Nat) : Int)))), (13, .int .i64 (((la.length : Nat) : Int))), (12, .slice Aa la.length ca), (11, .int .i64 (j))] [] (by kernel_rfl) trivial (fun jA bY => ?_)
 clear eV
 refine At.done rfl ?_
 refine t_n ?_
 refine cond_S bY (t := decide ((j : Int) < ((la.length : Nat) : Int))) rfl (fun dK => ?_) (fun dK => ?_)
 ·have jB := of_decide_eq_true dK
  refine wp_skip ?_
  refine t_n ?_
  refine wp_seq ?_
  refine wp_block ?_
  refine wp_seq ?_
  refine At.start ?_
  refine At.rd bY 3 [[], [], []] [(19, .bool (decide ((j : Int) < k))), (18, .int .i64 (k)), (17, .int .i64 (j))] [] (by kernel_rfl) trivial (fun jC bZ => ?_)
  clear bY
  refine At.done rfl ?_
  refine t_n ?_
  refine cond_S bZ (t := decide ((j : Int) < k)) rfl (fun dL => ?_) (fun dL => ?_)
  ·have jD := of_decide_eq_true dL
   obtain ⟨bU, gU, jE, gV, jF⟩ := aB.get (j) (by omega) (by omega) (sz := 2) rfl
   obtain ⟨dM, bV⟩ : ∃ c : List (Addr × Value), c = [((bU.add ((j : Int).toNat * 2)), (.int .i64 ((gA la j).1)))] := ⟨_, rfl⟩
   have eW : HoldsC dM eU := by rw [bV]; exact ⟨gV, trivial⟩
   refine AtH.start dM 11 #[false, false, false, false, false, false, false, false, false, false, false] (by kernel_rfl) rfl rfl (fun aO eX => ?_)
   have aP := gr_drew eX; have cR := eW.gr aP; have := aP.size; replace aE := aE.gn aP; replace aD := aD.gn aP; replace aB := aB.gn aP; replace aC := aC.gn aP; replace aF := aF.gn aP; replace aI := aI.gn aP; replace aA := aA.gn aP; replace aG := aG.gn aP; clear aP eX eW
   refine AtH.rd (by kernel_rfl) (fun d v c a w h => by cases d <;> exact h) cR [0, 2, 3, 4, 5, 6] [[], [], [], [.ad bU], [], [.ld (.int .i64 ((gA la j).1))]] [(26, .int .i64 ((gA la j).1)), (25, .pointer (some (bU.add ((j : Int).toNat * 2)))), (24, .pointer (some (bU.add ((j : Int).toNat * 2)))), (23, .int .i64 (j)), (22, .slice Aa la.length ca), (20, .pointer (some ⟨aH.heap.size, 0, none⟩))] #[true, false, true, true, true, true, true, false, false, false, false] [(Aa = some bU), (0 ≤ (j : Int)), ((j : Int) < (la.length : Nat)), (∃ j_ : Nat, dM[j_]? = some ((bU.add ((j : Int).toNat * 2)), (.int .i64 ((gA la j).1))))] 5 bZ (by kernel_rfl) ⟨gU, (by omega), (by omega), ⟨0, by rw [bV]; rfl⟩, trivial⟩ (fun jG cS => ?_)
   clear bZ
   refine AtH.all [1, 7] 4 (by kernel_rfl) (by simp) ⟨?_, ?_, trivial⟩
   ·refine OneH.seq cS [[.ld (.slice aJ xa.length aL)]] [(21, .slice aJ xa.length aL)] aO [(aO.cell? ⟨aH.heap.size, 0, none⟩ = some (.slice aJ xa.length aL))] #[true, true, true, true, true, true, true, false, false, false, false] (by kernel_rfl) (by kernel_rfl) (by kernel_rfl) ⟨(aI.cell (i := 0) rfl), trivial⟩ (fun jH gW gX eY => ?_)
    obtain rfl : aO = gW := gX.symm
    clear cS
    refine ⟨cR, ?_⟩
    refine AtH.all [7] 3 (by kernel_rfl) (by simp) ⟨?_, trivial⟩
    refine OneH.seq eY [[]] [(27, .slice (some ⟨aO.heap.size, 0, none⟩) 1 1)] (aO.alloc (.cells #[.int .i64 ((gA la j).1)] 3 (0, 0))) [] #[true, true, true, true, true, true, true, true, false, false, false] (by kernel_rfl) (by kernel_rfl) (by kernel_rfl) trivial (fun jI eZ dN fA => ?_)
    clear eY; have aQ := gr_alloc dN; have fB := cR.gr aQ
    refine ⟨fB, ?_⟩
    have := aQ.size; replace aE := aE.gn aQ; replace aD := aD.gn aQ; replace aB := aB.gn aQ; replace aC := aC.gn aQ; replace aF := aF.gn aQ; replace aI := aI.gn aQ; replace aA := aA.grN aQ; replace aG := aG.grN aQ; have dO : Bx eZ (aO.heap.size) [.int .i64 ((gA la j).1)] 3 := Bx.new dN; have := dO.lt; clear aQ dN
    refine AtH.all [8] 2 (by kernel_rfl) (by simp) ⟨?_, trivial⟩
    have gY : (xa ++ ([(gA la j).1])).length = (xa).length + ([(gA la j).1] : List Int).length := List.length_append
    simp only [List.length_cons, List.length_nil] at gY
    refine OneH.act fA #[true, true, true, true, true, true, true, true, true, false, false] (by kernel_rfl) (appendR (α := Int) (t := 22) (d := 28) (n := xa.length) (m := 1) (cc := 1) (xs := xa) (ys := [(gA la j).1]) (bytes := 8) (by first | rfl | omega | (simp; done) | (simp; omega)) (by first | rfl | omega | (simp; done) | (simp; omega)) (by kernel_rfl) rfl (by kernel_rfl) aA (Bx.srcR (l := ([(gA la j).1] : List Int)) dO rfl) (by simp only [List.length_cons, List.length_nil]; omega) (by simp only [List.length_cons, List.length_nil]; omega)) ?_
    rintro d_ v_ gZ ⟨rfl, cT, dP, cA⟩
    obtain rfl := cA.val
    have aW := cA.gr; have dQ := fB.grO aW (by rw [bV]; exact ⟨(fun e => by have := aA.ge _ e; simp only [add_block] at this; omega), trivial⟩)
    refine ⟨_, rfl, fun jJ fC => ⟨dQ, ?_⟩⟩
    clear fA; clear dO; have dR := cA.own (Sx (aN.heap.size) [obk (aK)]) (fun g _ hs => ⟨hs.2.1, hs.2.2⟩) ⟨aG.ne_new, (show aN.heap.size ≤ eZ.heap.size by omega)⟩; have := aW.size; replace aE := aE.gr aW (fun k hk => by have := aA.ge k hk; omega); replace aD := aD.gr aW (fun k hk => by have := aA.ge k hk; omega); replace aB := aB.gr aW (fun k hk => by have := aA.ge k hk; omega)
    replace aC := aC.gr aW (fun e => by have := aA.ge _ e; omega); replace aF := aF.gr aW (fun e => by have := aA.ge _ e; omega); replace aI := aI.gr aW (fun e => by have := aA.ge _ e; omega)
    replace aG : OwnR gZ (Sx (aN.heap.size) [some (aO.heap.size), obk (cT)]) aK aM 3 (xr : List Int) := aG.grA aW (fun k hk => hk.2.1) (fun k hk hs => ⟨hs.1, own_repl cA.at_ hs.2.1 hk, hs.2.2⟩)
    clear aA aW cA
    refine AtH.rd (by kernel_rfl) (fun d v c a w h => by cases d <;> exact h) dQ [9] [[]] [(29, .pointer (some ⟨aH.heap.size, 0, none⟩))] #[true, true, true, true, true, true, true, true, true, true, false] [] 1 fC (by kernel_rfl) trivial (fun jK fD => ?_)
    clear fC
    refine AtH.all [10] 0 (by kernel_rfl) (by simp) ⟨?_, trivial⟩
    refine OneH.store fD (t := 22) (b := aH.heap.size) (off := 0) (v := .slice cT ((xa ++ ([(gA la j).1])).length) dP) #[true, true, true, true, true, true, true, true, true, true, true] (by kernel_rfl) (by kernel_rfl) aI (by kernel_rfl) (fun jL hA aX dS fE => ?_)
    clear fD; replace dS : Bx hA (aH.heap.size) [.slice cT ((xa ++ ([(gA la j).1])).length) dP, .slice aK xr.length aM, .int .i64 (0)] 29 := dS; have fF := dQ.gr' aX (by rw [bV]; exact ⟨(by simp only [add_block]; omega), trivial⟩); have := aX.size; replace aE := aE.gr aX (fun k h => by injection h; omega); replace aD := aD.gb aX (by omega); replace aB := aB.gb aX (by omega)
    replace aC := aC.gb aX (by omega); replace aF := aF.gb aX (by omega); replace dR := dR.gr aX (fun k hk e => by have := Sx_base hk; injection e; omega); replace aG := aG.gr aX (fun k hk e => by have := Sx_base hk; injection e; omega); clear aI aX
    refine ⟨fF, ?_⟩
    refine AtH.done (by kernel_rfl) ?_
    clear fF
    refine b_n ?_
    refine t_n ?_
    have fG := fE.sub (r := [(9, .int .i64 (j)), (8, .int .i64 (t)), (7, .pointer (some ⟨aH.heap.size, 0, none⟩)), (6, .pointer (some ⟨w1.heap.size, 0, none⟩)), (3, .pointer (some ⟨w.heap.size, 0, none⟩)), (1, .slice Aa la.length ca), (2, .int .i64 (k))]) ⟨rfl, rfl, rfl, rfl, rfl, rfl, rfl, trivial⟩
    clear fE
    refine At.start ?_
    refine At.rd fG 3 [[], [.as_ (.int .i64 (j + 1))], []] [(9, .int .i64 (j + 1)), (16, .int .i64 (j + 1)), (15, .int .i64 (j))] [((.int .i64 (IntKind.i64.wrap (j + 1)) : Value) = .int .i64 (j + 1))] (by kernel_rfl) ⟨(w64 (by omega) (by omega)), trivial⟩ (fun jM hB => ?_)
    clear fG
    refine At.done rfl ?_
    refine t_n ?_
    have hC := hB.sub (r := [(9, .int .i64 (j + 1)), (8, .int .i64 (t)), (7, .pointer (some ⟨aH.heap.size, 0, none⟩)), (6, .pointer (some ⟨w1.heap.size, 0, none⟩)), (3, .pointer (some ⟨w.heap.size, 0, none⟩)), (1, .slice Aa la.length ca), (2, .int .i64 (k))]) ⟨rfl, rfl, rfl, rfl, rfl, rfl, rfl, trivial⟩
    exact ⟨_, (by omega), (j + 1), t, (xa ++ ([(gA la j).1]) : List Int), cT, dP, (xr : List Int), aK, aM, rfl, hC, aE, aD, aB, aC, aF, dS, dR, (aG.imp (fun g _ hs => ⟨hs.2.1, hs.2.2⟩)), (by omega), (by omega), (ah_in ha (by omega) (by omega) (by omega)), (ro_out hr_ (by omega) (by omega)), ht, (by omega)⟩
   refine OneH.seq cS [[]] [(27, .slice (some ⟨aO.heap.size, 0, none⟩) 1 1)] (aO.alloc (.cells #[.int .i64 ((gA la j).1)] 3 (0, 0))) [] #[true, false, true, true, true, true, true, true, false, false, false] (by kernel_rfl) (by kernel_rfl) (by kernel_rfl) trivial (fun jN cB dT fH => ?_)
   clear cS; have aR := gr_alloc dT; have dU := cR.gr aR
   refine ⟨dU, ?_⟩
   have := aR.size; replace aE := aE.gn aR; replace aD := aD.gn aR; replace aB := aB.gn aR; replace aC := aC.gn aR; replace aF := aF.gn aR; replace aI := aI.gn aR; replace aA := aA.grN aR; replace aG := aG.grN aR; have dV : Bx cB (aO.heap.size) [.int .i64 ((gA la j).1)] 3 := Bx.new dT; have := dV.lt; clear aR dT
   refine AtH.all [1] 3 (by kernel_rfl) (by simp) ⟨?_, trivial⟩
   refine OneH.seq fH [[.ld (.slice aJ xa.length aL)]] [(21, .slice aJ xa.length aL)] cB [(cB.cell? ⟨aH.heap.size, 0, none⟩ = some (.slice aJ xa.length aL))] #[true, true, true, true, true, true, true, true, false, false, false] (by kernel_rfl) (by kernel_rfl) (by kernel_rfl) ⟨(aI.cell (i := 0) rfl), trivial⟩ (fun jO hD hE fI => ?_)
   obtain rfl : cB = hD := hE.symm
   clear fH
   refine ⟨dU, ?_⟩
   refine AtH.all [8] 2 (by kernel_rfl) (by simp) ⟨?_, trivial⟩
   have hF : (xa ++ ([(gA la j).1])).length = (xa).length + ([(gA la j).1] : List Int).length := List.length_append
   simp only [List.length_cons, List.length_nil] at hF
   refine OneH.act fI #[true, true, true, true, true, true, true, true, true, false, false] (by kernel_rfl) (appendR (α := Int) (t := 22) (d := 28) (n := xa.length) (m := 1) (cc := 1) (xs := xa) (ys := [(gA la j).1]) (bytes := 8) (by first | rfl | omega | (simp; done) | (simp; omega)) (by first | rfl | omega | (simp; done) | (simp; omega)) (by kernel_rfl) rfl (by kernel_rfl) aA (Bx.srcR (l := ([(gA la j).1] : List Int)) dV rfl) (by simp only [List.length_cons, List.length_nil]; omega) (by simp only [List.length_cons, List.length_nil]; omega)) ?_
   rintro d_ v_ hG ⟨rfl, cU, dW, cC⟩
   obtain rfl := cC.val
   have aY := cC.gr; have dX := dU.grO aY (by rw [bV]; exact ⟨(fun e => by have := aA.ge _ e; simp only [add_block] at this; omega), trivial⟩)
   refine ⟨_, rfl, fun jP fJ => ⟨dX, ?_⟩⟩
   clear fI; clear dV; have dY := cC.own (Sx (aN.heap.size) [obk (aK)]) (fun g _ hs => ⟨hs.2.1, hs.2.2⟩) ⟨aG.ne_new, (show aN.heap.size ≤ cB.heap.size by omega)⟩; have := aY.size; replace aE := aE.gr aY (fun k hk => by have := aA.ge k hk; omega); replace aD := aD.gr aY (fun k hk => by have := aA.ge k hk; omega); replace aB := aB.gr aY (fun k hk => by have := aA.ge k hk; omega)
   replace aC := aC.gr aY (fun e => by have := aA.ge _ e; omega); replace aF := aF.gr aY (fun e => by have := aA.ge _ e; omega); replace aI := aI.gr aY (fun e => by have := aA.ge _ e; omega)
   replace aG : OwnR hG (Sx (aN.heap.size) [some (aO.heap.size), obk (cU)]) aK aM 3 (xr : List Int) := aG.grA aY (fun k hk => hk.2.1) (fun k hk hs => ⟨hs.1, own_repl cC.at_ hs.2.1 hk, hs.2.2⟩)
   clear aA aY cC
   refine AtH.rd (by kernel_rfl) (fun d v c a w h => by cases d <;> exact h) dX [9] [[]] [(29, .pointer (some ⟨aH.heap.size, 0, none⟩))] #[true, true, true, true, true, true, true, true, true, true, false] [] 1 fJ (by kernel_rfl) trivial (fun jQ fK => ?_)
   clear fJ
   refine AtH.all [10] 0 (by kernel_rfl) (by simp) ⟨?_, trivial⟩
   refine OneH.store fK (t := 22) (b := aH.heap.size) (off := 0) (v := .slice cU ((xa ++ ([(gA la j).1])).length) dW) #[true, true, true, true, true, true, true, true, true, true, true] (by kernel_rfl) (by kernel_rfl) aI (by kernel_rfl) (fun jR hH aZ dZ fL => ?_)
   clear fK; replace dZ : Bx hH (aH.heap.size) [.slice cU ((xa ++ ([(gA la j).1])).length) dW, .slice aK xr.length aM, .int .i64 (0)] 29 := dZ; have fM := dX.gr' aZ (by rw [bV]; exact ⟨(by simp only [add_block]; omega), trivial⟩); have := aZ.size; replace aE := aE.gr aZ (fun k h => by injection h; omega); replace aD := aD.gb aZ (by omega); replace aB := aB.gb aZ (by omega)
   replace aC := aC.gb aZ (by omega); replace aF := aF.gb aZ (by omega); replace dY := dY.gr aZ (fun k hk e => by have := Sx_base hk; injection e; omega); replace aG := aG.gr aZ (fun k hk e => by have := Sx_base hk; injection e; omega); clear aI aZ
   refine ⟨fM, ?_⟩
   refine AtH.done (by kernel_rfl) ?_
   clear fM
   refine b_n ?_
   refine t_n ?_
   have fN := fL.sub (r := [(9, .int .i64 (j)), (8, .int .i64 (t)), (7, .pointer (some ⟨aH.heap.size, 0, none⟩)), (6, .pointer (some ⟨w1.heap.size, 0, none⟩)), (3, .pointer (some ⟨w.heap.size, 0, none⟩)), (1, .slice Aa la.length ca), (2, .int .i64 (k))]) ⟨rfl, rfl, rfl, rfl, rfl, rfl, rfl, trivial⟩
   clear fL
   refine At.start ?_
   refine At.rd fN 3 [[], [.as_ (.int .i64 (j + 1))], []] [(9, .int .i64 (j + 1)), (16, .int .i64 (j + 1)), (15, .int .i64 (j))] [((.int .i64 (IntKind.i64.wrap (j + 1)) : Value) = .int .i64 (j + 1))] (by kernel_rfl) ⟨(w64 (by omega) (by omega)), trivial⟩ (fun jS hI => ?_)
   clear fN
   refine At.done rfl ?_
   refine t_n ?_
   have hJ := hI.sub (r := [(9, .int .i64 (j + 1)), (8, .int .i64 (t)), (7, .pointer (some ⟨aH.heap.size, 0, none⟩)), (6, .pointer (some ⟨w1.heap.size, 0, none⟩)), (3, .pointer (some ⟨w.heap.size, 0, none⟩)), (1, .slice Aa la.length ca), (2, .int .i64 (k))]) ⟨rfl, rfl, rfl, rfl, rfl, rfl, rfl, trivial⟩
   exact ⟨_, (by omega), (j + 1), t, (xa ++ ([(gA la j).1]) : List Int), cU, dW, (xr : List Int), aK, aM, rfl, hJ, aE, aD, aB, aC, aF, dZ, dY, (aG.imp (fun g _ hs => ⟨hs.2.1, hs.2.2⟩)), (by omega), (by omega), (ah_in ha (by omega) (by omega) (by omega)), (ro_out hr_ (by omega) (by omega)), ht, (by omega)⟩
  have jT := of_decide_eq_false dL
  refine wp_seq ?_
  obtain ⟨bW, hK, jU, hL, jV⟩ := aB.get (j) (by omega) (by omega) (sz := 2) rfl
  obtain ⟨eA, bX⟩ : ∃ c : List (Addr × Value), c = [((bW.add ((j : Int).toNat * 2)), (.int .i64 ((gA la j).1)))] := ⟨_, rfl⟩
  have fO : HoldsC eA eU := by rw [bX]; exact ⟨hL, trivial⟩
  refine AtH.start eA 11 #[false, false, false, false, false, false, false, false, false, false, false] (by kernel_rfl) rfl rfl (fun aS fP => ?_)
  have aT := gr_drew fP; have cV := fO.gr aT; have := aT.size; replace aE := aE.gn aT; replace aD := aD.gn aT; replace aB := aB.gn aT; replace aC := aC.gn aT; replace aF := aF.gn aT; replace aI := aI.gn aT; replace aA := aA.gn aT; replace aG := aG.gn aT; clear aT fP fO
  refine AtH.rd (by kernel_rfl) (fun d v c a w h => by cases d <;> exact h) cV [0, 2, 3, 4, 5, 6] [[], [], [], [.ad bW], [], [.ld (.int .i64 ((gA la j).1))]] [(36, .int .i64 ((gA la j).1)), (35, .pointer (some (bW.add ((j : Int).toNat * 2)))), (34, .pointer (some (bW.add ((j : Int).toNat * 2)))), (33, .int .i64 (j)), (32, .slice Aa la.length ca), (30, .pointer (some ⟨aH.heap.size, 1, none⟩))] #[true, false, true, true, true, true, true, false, false, false, false] [(Aa = some bW), (0 ≤ (j : Int)), ((j : Int) < (la.length : Nat)), (∃ j_ : Nat, eA[j_]? = some ((bW.add ((j : Int).toNat * 2)), (.int .i64 ((gA la j).1))))] 5 bZ (by kernel_rfl) ⟨hK, (by omega), (by omega), ⟨0, by rw [bX]; rfl⟩, trivial⟩ (fun jW cW => ?_)
  clear bZ
  refine AtH.all [1, 7] 4 (by kernel_rfl) (by simp) ⟨?_, ?_, trivial⟩
  ·refine OneH.seq cW [[.ld (.slice aK xr.length aM)]] [(31, .slice aK xr.length aM)] aS [(aS.cell? ⟨aH.heap.size, 1, none⟩ = some (.slice aK xr.length aM))] #[true, true, true, true, true, true, true, false, false, false, false] (by kernel_rfl) (by kernel_rfl) (by kernel_rfl) ⟨(aI.cell (i := 1) rfl), trivial⟩ (fun jX hM hN fQ => ?_)
   obtain rfl : aS = hM := hN.symm
   clear cW
   refine ⟨cV, ?_⟩
   refine AtH.all [7] 3 (by kernel_rfl) (by simp) ⟨?_, trivial⟩
   refine OneH.seq fQ [[]] [(37, .slice (some ⟨aS.heap.size, 0, none⟩) 1 1)] (aS.alloc (.cells #[.int .i64 ((gA la j).1)] 3 (0, 0))) [] #[true, true, true, true, true, true, true, true, false, false, false] (by kernel_rfl) (by kernel_rfl) (by kernel_rfl) trivial (fun jY fR eB fS => ?_)
   clear fQ; have aU := gr_alloc eB; have fT := cV.gr aU
   refine ⟨fT, ?_⟩
   have := aU.size; replace aE := aE.gn aU; replace aD := aD.gn aU; replace aB := aB.gn aU; replace aC := aC.gn aU; replace aF := aF.gn aU; replace aI := aI.gn aU; replace aA := aA.grN aU; replace aG := aG.grN aU; have eC : Bx fR (aS.heap.size) [.int .i64 ((gA la j).1)] 3 := Bx.new eB; have := eC.lt; clear aU eB
   refine AtH.all [8] 2 (by kernel_rfl) (by simp) ⟨?_, trivial⟩
   have hO : (xr ++ ([(gA la j).1])).length = (xr).length + ([(gA la j).1] : List Int).length := List.length_append
   simp only [List.length_cons, List.length_nil] at hO
   refine OneH.act fS #[true, true, true, true, true, true, true, true, true, false, false] (by kernel_rfl) (appendR (α := Int) (t := 22) (d := 38) (n := xr.length) (m := 1) (cc := 1) (xs := xr) (ys := [(gA la j).1]) (bytes := 8) (by first | rfl | omega | (simp; done) | (simp; omega)) (by first | rfl | omega | (simp; done) | (simp; omega)) (by kernel_rfl) rfl (by kernel_rfl) aG (Bx.srcR (l := ([(gA la j).1] : List Int)) eC rfl) (by simp only [List.length_cons, List.length_nil]; omega) (by simp only [List.length_cons, List.length_nil]; omega)) ?_
   rintro d_ v_ hP ⟨rfl, cD, cX, cE⟩
   obtain rfl := cE.val
   have bA := cE.gr; have eD := fT.grO bA (by rw [bX]; exact ⟨(fun e => by have := aG.ge _ e; simp only [add_block] at this; omega), trivial⟩)
   refine ⟨_, rfl, fun jZ fU => ⟨eD, ?_⟩⟩
   clear fS; clear eC; have bL := cE.own (Sx (aN.heap.size) [obk (aJ)]) (fun g _ hs => ⟨hs.2.1, hs.2.2⟩) ⟨aA.ne_new, (show aN.heap.size ≤ fR.heap.size by omega)⟩; have := bA.size; replace aE := aE.gr bA (fun k hk => by have := aG.ge k hk; omega); replace aD := aD.gr bA (fun k hk => by have := aG.ge k hk; omega); replace aB := aB.gr bA (fun k hk => by have := aG.ge k hk; omega)
   replace aC := aC.gr bA (fun e => by have := aG.ge _ e; omega); replace aF := aF.gr bA (fun e => by have := aG.ge _ e; omega); replace aI := aI.gr bA (fun e => by have := aG.ge _ e; omega)
   replace aA : OwnR hP (Sx (aN.heap.size) [some (aS.heap.size), obk (cD)]) aJ aL 3 (xa : List Int) := aA.grA bA (fun k hk => hk.2.1) (fun k hk hs => ⟨hs.1, own_repl cE.at_ hs.2.1 hk, hs.2.2⟩)
   clear aG bA cE
   refine AtH.rd (by kernel_rfl) (fun d v c a w h => by cases d <;> exact h) eD [9] [[]] [(39, .pointer (some ⟨aH.heap.size, 1, none⟩))] #[true, true, true, true, true, true, true, true, true, true, false] [] 1 fU (by kernel_rfl) trivial (fun kA fV => ?_)
   clear fU
   refine AtH.all [10] 0 (by kernel_rfl) (by simp) ⟨?_, trivial⟩
   refine OneH.store fV (t := 22) (b := aH.heap.size) (off := 1) (v := .slice cD ((xr ++ ([(gA la j).1])).length) cX) #[true, true, true, true, true, true, true, true, true, true, true] (by kernel_rfl) (by kernel_rfl) aI (by kernel_rfl) (fun kB cY bB bM fW => ?_)
   clear fV; replace bM : Bx cY (aH.heap.size) [.slice aJ xa.length aL, .slice cD ((xr ++ ([(gA la j).1])).length) cX, .int .i64 (0)] 29 := bM; have fX := eD.gr' bB (by rw [bX]; exact ⟨(by simp only [add_block]; omega), trivial⟩); have := bB.size; replace aE := aE.gr bB (fun k h => by injection h; omega); replace aD := aD.gb bB (by omega); replace aB := aB.gb bB (by omega)
   replace aC := aC.gb bB (by omega); replace aF := aF.gb bB (by omega); replace aA := aA.gr bB (fun k hk e => by have := Sx_base hk; injection e; omega); replace bL := bL.gr bB (fun k hk e => by have := Sx_base hk; injection e; omega); clear aI bB
   refine ⟨fX, ?_⟩
   refine AtH.done (by kernel_rfl) ?_
   clear fX
   refine t_n ?_
   have fY := fW.sub (r := [(9, .int .i64 (j)), (8, .int .i64 (t)), (7, .pointer (some ⟨aH.heap.size, 0, none⟩)), (6, .pointer (some ⟨w1.heap.size, 0, none⟩)), (3, .pointer (some ⟨w.heap.size, 0, none⟩)), (1, .slice Aa la.length ca), (2, .int .i64 (k))]) ⟨rfl, rfl, rfl, rfl, rfl, rfl, rfl, trivial⟩
   clear fW
   refine wp_seq ?_
   have hat := hr (gA la j) (by rw [gA_at (by omega) (by omega)]; exact List.getElem_mem _)
   obtain ⟨cF, hQ, kC, hR, kD⟩ := aB.get (j) (by omega) (by omega) (sz := 2) rfl
   obtain ⟨cZ, hS, _, _, hT⟩ := RdI.get aD.pr ((gA la j).1) (by omega) (by omega)
   refine drawn_ro fY (by kernel_rfl) (by kernel_rfl) [[], [.ld (.slice Ag1 g.pr.length cg1)], [], [], [.ad cF], [], [.ld (.int .i64 ((gA la j).1))], [.ad cZ], [.ld (.int .i64 (gI g.pr ((gA la j).1)))], [], []] [(50, .bool (decide ((gI g.pr ((gA la j).1) : Int) > t))), (49, .int .i64 (t)), (48, .int .i64 (gI g.pr ((gA la j).1))), (47, .pointer (some (cZ.add (((gA la j).1 : Int).toNat * 1)))), (46, .int .i64 ((gA la j).1)), (45, .pointer (some (cF.add ((j : Int).toNat * 2)))), (44, .pointer (some (cF.add ((j : Int).toNat * 2)))), (43, .int .i64 (j)), (42, .slice Aa la.length ca), (41, .slice Ag1 g.pr.length cg1), (40, .pointer (some ⟨w.heap.size, 1, none⟩))] [(cY.cell? ⟨w.heap.size, 1, none⟩ = some (.slice Ag1 g.pr.length cg1)), (Aa = some cF), (0 ≤ (j : Int)), ((j : Int) < (la.length : Nat)), (cY.cell? (cF.add ((j : Int).toNat * 2)) = some (.int .i64 ((gA la j).1))), (Ag1 = some cZ), (0 ≤ ((gA la j).1 : Int)), (((gA la j).1 : Int) < (g.pr.length : Nat)), (cY.cell? (cZ.add (((gA la j).1 : Int).toNat * 1)) = some (.int .i64 (gI g.pr ((gA la j).1))))] (by kernel_rfl) ⟨(aC.cell (i := 1) rfl), hQ, (by omega), (by omega), hR, hS, (by omega), (by omega), hT, trivial⟩ (fun kE eE fZ cG => ?_)
   clear fY; have bC := gr_drew fZ; have := bC.size; replace aE := aE.gn bC; replace aD := aD.gn bC; replace aB := aB.gn bC; replace aC := aC.gn bC; replace aF := aF.gn bC; replace bM := bM.gn bC; replace aA := aA.gn bC; replace bL := bL.gn bC; clear bC fZ
   refine t_n ?_
   refine cond_S cG (t := decide ((gI g.pr ((gA la j).1) : Int) > t)) rfl (fun eF => ?_) (fun eF => ?_)
   ·have kF := of_decide_eq_true eF
    have hat := hr (gA la j) (by rw [gA_at (by omega) (by omega)]; exact List.getElem_mem _)
    obtain ⟨cH, hU, kG, hV, kH⟩ := aB.get (j) (by omega) (by omega) (sz := 2) rfl
    obtain ⟨dA, hW, _, _, hX⟩ := RdI.get aD.pr ((gA la j).1) (by omega) (by omega)
    refine drawn_ro cG (by kernel_rfl) (by kernel_rfl) [[], [.ld (.slice Ag1 g.pr.length cg1)], [], [], [.ad cH], [], [.ld (.int .i64 ((gA la j).1))], [.ad dA], [.ld (.int .i64 (gI g.pr ((gA la j).1)))], []] [(8, .int .i64 (gI g.pr ((gA la j).1))), (59, .int .i64 (gI g.pr ((gA la j).1))), (58, .pointer (some (dA.add (((gA la j).1 : Int).toNat * 1)))), (57, .int .i64 ((gA la j).1)), (56, .pointer (some (cH.add ((j : Int).toNat * 2)))), (55, .pointer (some (cH.add ((j : Int).toNat * 2)))), (54, .int .i64 (j)), (53, .slice Aa la.length ca), (52, .slice Ag1 g.pr.length cg1), (51, .pointer (some ⟨w.heap.size, 1, none⟩))] [(eE.cell? ⟨w.heap.size, 1, none⟩ = some (.slice Ag1 g.pr.length cg1)), (Aa = some cH), (0 ≤ (j : Int)), ((j : Int) < (la.length : Nat)), (eE.cell? (cH.add ((j : Int).toNat * 2)) = some (.int .i64 ((gA la j).1))), (Ag1 = some dA), (0 ≤ ((gA la j).1 : Int)), (((gA la j).1 : Int) < (g.pr.length : Nat)), (eE.cell? (dA.add (((gA la j).1 : Int).toNat * 1)) = some (.int .i64 (gI g.pr ((gA la j).1))))] (by kernel_rfl) ⟨(aC.cell (i := 1) rfl), hU, (by omega), (by omega), hV, hW, (by omega), (by omega), hX, trivial⟩ (fun kI kJ gB gC => ?_)
    clear cG; have bD := gr_drew gB; have := bD.size; replace aE := aE.gn bD; replace aD := aD.gn bD; replace aB := aB.gn bD; replace aC := aC.gn bD; replace aF := aF.gn bD; replace bM := bM.gn bD; replace aA := aA.gn bD; replace bL := bL.gn bD; clear bD gB
    refine b_n ?_
    refine t_n ?_
    have gD := gC.sub (r := [(8, .int .i64 (gI g.pr ((gA la j).1))), (9, .int .i64 (j)), (7, .pointer (some ⟨aH.heap.size, 0, none⟩)), (6, .pointer (some ⟨w1.heap.size, 0, none⟩)), (3, .pointer (some ⟨w.heap.size, 0, none⟩)), (1, .slice Aa la.length ca), (2, .int .i64 (k))]) ⟨rfl, rfl, rfl, rfl, rfl, rfl, rfl, trivial⟩
    clear gC
    refine At.start ?_
    refine At.rd gD 3 [[], [.as_ (.int .i64 (j + 1))], []] [(9, .int .i64 (j + 1)), (16, .int .i64 (j + 1)), (15, .int .i64 (j))] [((.int .i64 (IntKind.i64.wrap (j + 1)) : Value) = .int .i64 (j + 1))] (by kernel_rfl) ⟨(w64 (by omega) (by omega)), trivial⟩ (fun kK hY => ?_)
    clear gD
    refine At.done rfl ?_
    refine t_n ?_
    have hZ := hY.sub (r := [(9, .int .i64 (j + 1)), (8, .int .i64 (gI g.pr ((gA la j).1))), (7, .pointer (some ⟨aH.heap.size, 0, none⟩)), (6, .pointer (some ⟨w1.heap.size, 0, none⟩)), (3, .pointer (some ⟨w.heap.size, 0, none⟩)), (1, .slice Aa la.length ca), (2, .int .i64 (k))]) ⟨rfl, rfl, rfl, rfl, rfl, rfl, rfl, trivial⟩
    exact ⟨_, (by omega), (j + 1), gI g.pr ((gA la j).1), (xa : List Int), aJ, aL, (xr ++ ([(gA la j).1]) : List Int), cD, cX, rfl, hZ, aE, aD, aB, aC, aF, bM, (aA.imp (fun g _ hs => ⟨hs.2.1, hs.2.2⟩)), bL, (by omega), (by omega), (ah_out ha (by omega)), (ro_in hr_ (by omega) (by omega) (by omega) (by omega)), (by first | exact top_up ht (by omega) | exact top_no ht (by omega)), (by omega)⟩
   have kL := of_decide_eq_false eF
   refine wp_skip ?_
   refine b_n ?_
   refine t_n ?_
   refine At.start ?_
   refine At.rd cG 3 [[], [.as_ (.int .i64 (j + 1))], []] [(9, .int .i64 (j + 1)), (16, .int .i64 (j + 1)), (15, .int .i64 (j))] [((.int .i64 (IntKind.i64.wrap (j + 1)) : Value) = .int .i64 (j + 1))] (by kernel_rfl) ⟨(w64 (by omega) (by omega)), trivial⟩ (fun kM iA => ?_)
   clear cG
   refine At.done rfl ?_
   refine t_n ?_
   have iB := iA.sub (r := [(9, .int .i64 (j + 1)), (8, .int .i64 (t)), (7, .pointer (some ⟨aH.heap.size, 0, none⟩)), (6, .pointer (some ⟨w1.heap.size, 0, none⟩)), (3, .pointer (some ⟨w.heap.size, 0, none⟩)), (1, .slice Aa la.length ca), (2, .int .i64 (k))]) ⟨rfl, rfl, rfl, rfl, rfl, rfl, rfl, trivial⟩
   exact ⟨_, (by omega), (j + 1), t, (xa : List Int), aJ, aL, (xr ++ ([(gA la j).1]) : List Int), cD, cX, rfl, iB, aE, aD, aB, aC, aF, bM, (aA.imp (fun g _ hs => ⟨hs.2.1, hs.2.2⟩)), bL, (by omega), (by omega), (ah_out ha (by omega)), (ro_in hr_ (by omega) (by omega) (by omega) (by omega)), (by first | exact top_up ht (by omega) | exact top_no ht (by omega)), (by omega)⟩
  refine OneH.seq cW [[]] [(37, .slice (some ⟨aS.heap.size, 0, none⟩) 1 1)] (aS.alloc (.cells #[.int .i64 ((gA la j).1)] 3 (0, 0))) [] #[true, false, true, true, true, true, true, true, false, false, false] (by kernel_rfl) (by kernel_rfl) (by kernel_rfl) trivial (fun kN cI eG gE => ?_)
  clear cW; have aV := gr_alloc eG; have eH := cV.gr aV
  refine ⟨eH, ?_⟩
  have := aV.size; replace aE := aE.gn aV; replace aD := aD.gn aV; replace aB := aB.gn aV; replace aC := aC.gn aV; replace aF := aF.gn aV; replace aI := aI.gn aV; replace aA := aA.grN aV; replace aG := aG.grN aV; have eI : Bx cI (aS.heap.size) [.int .i64 ((gA la j).1)] 3 := Bx.new eG; have := eI.lt; clear aV eG
  refine AtH.all [1] 3 (by kernel_rfl) (by simp) ⟨?_, trivial⟩
  refine OneH.seq gE [[.ld (.slice aK xr.length aM)]] [(31, .slice aK xr.length aM)] cI [(cI.cell? ⟨aH.heap.size, 1, none⟩ = some (.slice aK xr.length aM))] #[true, true, true, true, true, true, true, true, false, false, false] (by kernel_rfl) (by kernel_rfl) (by kernel_rfl) ⟨(aI.cell (i := 1) rfl), trivial⟩ (fun kO iC iD gF => ?_)
  obtain rfl : cI = iC := iD.symm
  clear gE
  refine ⟨eH, ?_⟩
  refine AtH.all [8] 2 (by kernel_rfl) (by simp) ⟨?_, trivial⟩
  have iE : (xr ++ ([(gA la j).1])).length = (xr).length + ([(gA la j).1] : List Int).length := List.length_append
  simp only [List.length_cons, List.length_nil] at iE
  refine OneH.act gF #[true, true, true, true, true, true, true, true, true, false, false] (by kernel_rfl) (appendR (α := Int) (t := 22) (d := 38) (n := xr.length) (m := 1) (cc := 1) (xs := xr) (ys := [(gA la j).1]) (bytes := 8) (by first | rfl | omega | (simp; done) | (simp; omega)) (by first | rfl | omega | (simp; done) | (simp; omega)) (by kernel_rfl) rfl (by kernel_rfl) aG (Bx.srcR (l := ([(gA la j).1] : List Int)) eI rfl) (by simp only [List.length_cons, List.length_nil]; omega) (by simp only [List.length_cons, List.length_nil]; omega)) ?_
  rintro d_ v_ iF ⟨rfl, cJ, dB, cK⟩
  obtain rfl := cK.val
  have bE := cK.gr; have eJ := eH.grO bE (by rw [bX]; exact ⟨(fun e => by have := aG.ge _ e; simp only [add_block] at this; omega), trivial⟩)
  refine ⟨_, rfl, fun kP gG => ⟨eJ, ?_⟩⟩
  clear gF; clear eI; have bN := cK.own (Sx (aN.heap.size) [obk (aJ)]) (fun g _ hs => ⟨hs.2.1, hs.2.2⟩) ⟨aA.ne_new, (show aN.heap.size ≤ cI.heap.size by omega)⟩; have := bE.size; replace aE := aE.gr bE (fun k hk => by have := aG.ge k hk; omega); replace aD := aD.gr bE (fun k hk => by have := aG.ge k hk; omega); replace aB := aB.gr bE (fun k hk => by have := aG.ge k hk; omega)
  replace aC := aC.gr bE (fun e => by have := aG.ge _ e; omega); replace aF := aF.gr bE (fun e => by have := aG.ge _ e; omega); replace aI := aI.gr bE (fun e => by have := aG.ge _ e; omega)
  replace aA : OwnR iF (Sx (aN.heap.size) [some (aS.heap.size), obk (cJ)]) aJ aL 3 (xa : List Int) := aA.grA bE (fun k hk => hk.2.1) (fun k hk hs => ⟨hs.1, own_repl cK.at_ hs.2.1 hk, hs.2.2⟩)
  clear aG bE cK
  refine AtH.rd (by kernel_rfl) (fun d v c a w h => by cases d <;> exact h) eJ [9] [[]] [(39, .pointer (some ⟨aH.heap.size, 1, none⟩))] #[true, true, true, true, true, true, true, true, true, true, false] [] 1 gG (by kernel_rfl) trivial (fun kQ gH => ?_)
  clear gG
  refine AtH.all [10] 0 (by kernel_rfl) (by simp) ⟨?_, trivial⟩
  refine OneH.store gH (t := 22) (b := aH.heap.size) (off := 1) (v := .slice cJ ((xr ++ ([(gA la j).1])).length) dB) #[true, true, true, true, true, true, true, true, true, true, true] (by kernel_rfl) (by kernel_rfl) aI (by kernel_rfl) (fun kR dC bF bO gJ => ?_)
  clear gH; replace bO : Bx dC (aH.heap.size) [.slice aJ xa.length aL, .slice cJ ((xr ++ ([(gA la j).1])).length) dB, .int .i64 (0)] 29 := bO; have gK := eJ.gr' bF (by rw [bX]; exact ⟨(by simp only [add_block]; omega), trivial⟩); have := bF.size; replace aE := aE.gr bF (fun k h => by injection h; omega); replace aD := aD.gb bF (by omega); replace aB := aB.gb bF (by omega)
  replace aC := aC.gb bF (by omega); replace aF := aF.gb bF (by omega); replace aA := aA.gr bF (fun k hk e => by have := Sx_base hk; injection e; omega); replace bN := bN.gr bF (fun k hk e => by have := Sx_base hk; injection e; omega); clear aI bF
  refine ⟨gK, ?_⟩
  refine AtH.done (by kernel_rfl) ?_
  clear gK
  refine t_n ?_
  have gL := gJ.sub (r := [(9, .int .i64 (j)), (8, .int .i64 (t)), (7, .pointer (some ⟨aH.heap.size, 0, none⟩)), (6, .pointer (some ⟨w1.heap.size, 0, none⟩)), (3, .pointer (some ⟨w.heap.size, 0, none⟩)), (1, .slice Aa la.length ca), (2, .int .i64 (k))]) ⟨rfl, rfl, rfl, rfl, rfl, rfl, rfl, trivial⟩
  clear gJ
  refine wp_seq ?_
  have hat := hr (gA la j) (by rw [gA_at (by omega) (by omega)]; exact List.getElem_mem _)
  obtain ⟨cL, iG, kS, iH, kT⟩ := aB.get (j) (by omega) (by omega) (sz := 2) rfl
  obtain ⟨dD, iI, _, _, iJ⟩ := RdI.get aD.pr ((gA la j).1) (by omega) (by omega)
  refine drawn_ro gL (by kernel_rfl) (by kernel_rfl) [[], [.ld (.slice Ag1 g.pr.length cg1)], [], [], [.ad cL], [], [.ld (.int .i64 ((gA la j).1))], [.ad dD], [.ld (.int .i64 (gI g.pr ((gA la j).1)))], [], []] [(50, .bool (decide ((gI g.pr ((gA la j).1) : Int) > t))), (49, .int .i64 (t)), (48, .int .i64 (gI g.pr ((gA la j).1))), (47, .pointer (some (dD.add (((gA la j).1 : Int).toNat * 1)))), (46, .int .i64 ((gA la j).1)), (45, .pointer (some (cL.add ((j : Int).toNat * 2)))), (44, .pointer (some (cL.add ((j : Int).toNat * 2)))), (43, .int .i64 (j)), (42, .slice Aa la.length ca), (41, .slice Ag1 g.pr.length cg1), (40, .pointer (some ⟨w.heap.size, 1, none⟩))] [(dC.cell? ⟨w.heap.size, 1, none⟩ = some (.slice Ag1 g.pr.length cg1)), (Aa = some cL), (0 ≤ (j : Int)), ((j : Int) < (la.length : Nat)), (dC.cell? (cL.add ((j : Int).toNat * 2)) = some (.int .i64 ((gA la j).1))), (Ag1 = some dD), (0 ≤ ((gA la j).1 : Int)), (((gA la j).1 : Int) < (g.pr.length : Nat)), (dC.cell? (dD.add (((gA la j).1 : Int).toNat * 1)) = some (.int .i64 (gI g.pr ((gA la j).1))))] (by kernel_rfl) ⟨(aC.cell (i := 1) rfl), iG, (by omega), (by omega), iH, iI, (by omega), (by omega), iJ, trivial⟩ (fun kU eK gM cM => ?_)
  clear gL; have bG := gr_drew gM; have := bG.size; replace aE := aE.gn bG; replace aD := aD.gn bG; replace aB := aB.gn bG; replace aC := aC.gn bG; replace aF := aF.gn bG; replace bO := bO.gn bG; replace aA := aA.gn bG; replace bN := bN.gn bG; clear bG gM
  refine t_n ?_
  refine cond_S cM (t := decide ((gI g.pr ((gA la j).1) : Int) > t)) rfl (fun eL => ?_) (fun eL => ?_)
  ·have kV := of_decide_eq_true eL
   have hat := hr (gA la j) (by rw [gA_at (by omega) (by omega)]; exact List.getElem_mem _)
   obtain ⟨cN, iK, kW, iL, kX⟩ := aB.get (j) (by omega) (by omega) (sz := 2) rfl
   obtain ⟨dE, iM, _, _, iN⟩ := RdI.get aD.pr ((gA la j).1) (by omega) (by omega)
   refine drawn_ro cM (by kernel_rfl) (by kernel_rfl) [[], [.ld (.slice Ag1 g.pr.length cg1)], [], [], [.ad cN], [], [.ld (.int .i64 ((gA la j).1))], [.ad dE], [.ld (.int .i64 (gI g.pr ((gA la j).1)))], []] [(8, .int .i64 (gI g.pr ((gA la j).1))), (59, .int .i64 (gI g.pr ((gA la j).1))), (58, .pointer (some (dE.add (((gA la j).1 : Int).toNat * 1)))), (57, .int .i64 ((gA la j).1)), (56, .pointer (some (cN.add ((j : Int).toNat * 2)))), (55, .pointer (some (cN.add ((j : Int).toNat * 2)))), (54, .int .i64 (j)), (53, .slice Aa la.length ca), (52, .slice Ag1 g.pr.length cg1), (51, .pointer (some ⟨w.heap.size, 1, none⟩))] [(eK.cell? ⟨w.heap.size, 1, none⟩ = some (.slice Ag1 g.pr.length cg1)), (Aa = some cN), (0 ≤ (j : Int)), ((j : Int) < (la.length : Nat)), (eK.cell? (cN.add ((j : Int).toNat * 2)) = some (.int .i64 ((gA la j).1))), (Ag1 = some dE), (0 ≤ ((gA la j).1 : Int)), (((gA la j).1 : Int) < (g.pr.length : Nat)), (eK.cell? (dE.add (((gA la j).1 : Int).toNat * 1)) = some (.int .i64 (gI g.pr ((gA la j).1))))] (by kernel_rfl) ⟨(aC.cell (i := 1) rfl), iK, (by omega), (by omega), iL, iM, (by omega), (by omega), iN, trivial⟩ (fun kY kZ gN gO => ?_)
   clear cM; have bH := gr_drew gN; have := bH.size; replace aE := aE.gn bH; replace aD := aD.gn bH; replace aB := aB.gn bH; replace aC := aC.gn bH; replace aF := aF.gn bH; replace bO := bO.gn bH; replace aA := aA.gn bH; replace bN := bN.gn bH; clear bH gN
   refine b_n ?_
   refine t_n ?_
   have gP := gO.sub (r := [(8, .int .i64 (gI g.pr ((gA la j).1))), (9, .int .i64 (j)), (7, .pointer (some ⟨aH.heap.size, 0, none⟩)), (6, .pointer (some ⟨w1.heap.size, 0, none⟩)), (3, .pointer (some ⟨w.heap.size, 0, none⟩)), (1, .slice Aa la.length ca), (2, .int .i64 (k))]) ⟨rfl, rfl, rfl, rfl, rfl, rfl, rfl, trivial⟩
   clear gO
   refine At.start ?_
   refine At.rd gP 3 [[], [.as_ (.int .i64 (j + 1))], []] [(9, .int .i64 (j + 1)), (16, .int .i64 (j + 1)), (15, .int .i64 (j))] [((.int .i64 (IntKind.i64.wrap (j + 1)) : Value) = .int .i64 (j + 1))] (by kernel_rfl) ⟨(w64 (by omega) (by omega)), trivial⟩ (fun lA iO => ?_)
   clear gP
   refine At.done rfl ?_
   refine t_n ?_
   have iP := iO.sub (r := [(9, .int .i64 (j + 1)), (8, .int .i64 (gI g.pr ((gA la j).1))), (7, .pointer (some ⟨aH.heap.size, 0, none⟩)), (6, .pointer (some ⟨w1.heap.size, 0, none⟩)), (3, .pointer (some ⟨w.heap.size, 0, none⟩)), (1, .slice Aa la.length ca), (2, .int .i64 (k))]) ⟨rfl, rfl, rfl, rfl, rfl, rfl, rfl, trivial⟩
   exact ⟨_, (by omega), (j + 1), gI g.pr ((gA la j).1), (xa : List Int), aJ, aL, (xr ++ ([(gA la j).1]) : List Int), cJ, dB, rfl, iP, aE, aD, aB, aC, aF, bO, (aA.imp (fun g _ hs => ⟨hs.2.1, hs.2.2⟩)), bN, (by omega), (by omega), (ah_out ha (by omega)), (ro_in hr_ (by omega) (by omega) (by omega) (by omega)), (by first | exact top_up ht (by omega) | exact top_no ht (by omega)), (by omega)⟩
  have lB := of_decide_eq_false eL
  refine wp_skip ?_
  refine b_n ?_
  refine t_n ?_
  refine At.start ?_
  refine At.rd cM 3 [[], [.as_ (.int .i64 (j + 1))], []] [(9, .int .i64 (j + 1)), (16, .int .i64 (j + 1)), (15, .int .i64 (j))] [((.int .i64 (IntKind.i64.wrap (j + 1)) : Value) = .int .i64 (j + 1))] (by kernel_rfl) ⟨(w64 (by omega) (by omega)), trivial⟩ (fun lC iQ => ?_)
  clear cM
  refine At.done rfl ?_
  refine t_n ?_
  have iR := iQ.sub (r := [(9, .int .i64 (j + 1)), (8, .int .i64 (t)), (7, .pointer (some ⟨aH.heap.size, 0, none⟩)), (6, .pointer (some ⟨w1.heap.size, 0, none⟩)), (3, .pointer (some ⟨w.heap.size, 0, none⟩)), (1, .slice Aa la.length ca), (2, .int .i64 (k))]) ⟨rfl, rfl, rfl, rfl, rfl, rfl, rfl, trivial⟩
  exact ⟨_, (by omega), (j + 1), t, (xa : List Int), aJ, aL, (xr ++ ([(gA la j).1]) : List Int), cJ, dB, rfl, iR, aE, aD, aB, aC, aF, bO, (aA.imp (fun g _ hs => ⟨hs.2.1, hs.2.2⟩)), bN, (by omega), (by omega), (ah_out ha (by omega)), (ro_in hr_ (by omega) (by omega) (by omega) (by omega)), (by first | exact top_up ht (by omega) | exact top_no ht (by omega)), (by omega)⟩
 have lD := of_decide_eq_false dK
 refine wp_exit ?_
 refine t_e ?_
 refine t_e ?_
 refine b_e ?_
 refine t_n ?_
 refine wp_seq ?_
 have htg := top_ge g xr
 refine At.start ?_
 refine At.rd bY 3 [[], [.as_ (.int .i64 ((t : Int) % 2))], []] [(62, .pointer (some ⟨aH.heap.size, 2, none⟩)), (61, .int .i64 ((t : Int) % 2)), (60, .int .i64 (t))] [((2 : Int) ≠ 0), ((.int .i64 ((t : Int).tmod 2) : Value) = .int .i64 ((t : Int) % 2))] (by kernel_rfl) ⟨(by omega), (congrArg (Value.int .i64) (Int.tmod_eq_emod_of_nonneg (by omega))), trivial⟩ (fun lE gQ => ?_)
 clear bY
 refine At.store gQ (t := 3) (b := aH.heap.size) (off := 2) (v := .int .i64 ((t : Int) % 2)) (by kernel_rfl) aI (by kernel_rfl) (fun lF dF bJ bS gR => ?_)
 clear gQ; replace bS : Bx dF (aH.heap.size) [.slice aJ xa.length aL, .slice aK xr.length aM, .int .i64 ((t : Int) % 2)] 29 := bS; have := bJ.size; replace aE := aE.gr bJ (fun k h => by injection h; omega); replace aD := aD.gb bJ (by omega); replace aB := aB.gb bJ (by omega); replace aC := aC.gb bJ (by omega); replace aF := aF.gb bJ (by omega)
 replace aA := aA.gr bJ (fun k hk e => by have := Sx_base hk; injection e; omega); replace aG := aG.gr bJ (fun k hk e => by have := Sx_base hk; injection e; omega); clear aI bJ
 refine At.done rfl ?_
 refine t_n ?_
 refine wp_seq ?_
 refine At.start ?_
 refine At.rd gR 1 [[.ld (.slice aJ xa.length aL), .ld (.slice aK xr.length aM), .ld (.int .i64 ((t : Int) % 2))]] [(63, .agg #[.slice aJ xa.length aL, .slice aK xr.length aM, .int .i64 ((t : Int) % 2)])] [(dF.cell? ⟨aH.heap.size, 0, none⟩ = some (.slice aJ xa.length aL)), (dF.cell? ⟨aH.heap.size, 1, none⟩ = some (.slice aK xr.length aM)), (dF.cell? ⟨aH.heap.size, 2, none⟩ = some (.int .i64 ((t : Int) % 2)))] (by kernel_rfl) ⟨(bS.cell (i := 0) rfl), (bS.cell (i := 1) rfl), (bS.cell (i := 2) rfl), trivial⟩ (fun lG gS => ?_)
 clear gR
 refine At.store gS (t := 29) (b := w1.heap.size) (off := 0) (v := .agg #[.slice aJ xa.length aL, .slice aK xr.length aM, .int .i64 ((t : Int) % 2)]) (by kernel_rfl) aF (by kernel_rfl) (fun lH dG bK cO iS => ?_)
 clear gS; replace cO : Bx dG (w1.heap.size) [.slice aJ xa.length aL, .slice aK xr.length aM, .int .i64 ((t : Int) % 2)] 29 := cO; have := bK.size; replace aE := aE.gr bK (fun k h => by injection h; omega); replace aD := aD.gb bK (by omega); replace aB := aB.gb bK (by omega); replace aC := aC.gb bK (by omega); replace bS := bS.gb bK (by omega)
 replace aA := aA.gr bK (fun k hk e => by have := Sx_base hk; injection e; omega); replace aG := aG.gr bK (fun k hk e => by have := Sx_base hk; injection e; omega); clear aF bK
 refine At.done rfl ?_
 refine t_n ?_
 refine wp_ret ?_
 refine ret_ iS [[.slice aJ xa.length aL, .slice aK xr.length aM, .int .i64 ((t : Int) % 2)]] [.agg #[.slice aJ xa.length aL, .slice aK xr.length aM, .int .i64 ((t : Int) % 2)]] [(dG.cell? ⟨w1.heap.size, 0, none⟩ = some (.slice aJ xa.length aL)), (dG.cell? ⟨w1.heap.size, 1, none⟩ = some (.slice aK xr.length aM)), (dG.cell? ⟨w1.heap.size, 2, none⟩ = some (.int .i64 ((t : Int) % 2)))] (by kernel_rfl) ⟨(cO.cell (i := 0) rfl), (cO.cell (i := 1) rfl), (cO.cell (i := 2) rfl), trivial⟩ ?_
 have hea := ah_end ha (by omega) (by omega); have her := ro_end hr_ (by omega)
 subst hea
 subst her
 rw [← ht]
 exact ⟨aJ, aL, aK, aM, rfl, aE, (aA.imp (fun g _ hs => ⟨hs.1, (by have := Sx_base hs; show w.heap.size ≤ g; omega)⟩)), (aG.imp (fun g _ hs => ⟨hs.1, (by have := Sx_base hs; show w.heap.size ≤ g; omega)⟩))⟩

end Go.Proofs.Ytklbpajmoklheaa
