/-
  A walk of a Go function, printed by a program of this repo. Conditions: what the theorems name.
-/
import Derived.Test.YtplpgfcjjnaigaaDoorWClone
set_option linter.unusedVariables false
set_option linter.unusedSimpArgs false
namespace Go.Proofs.YtplpgfcjjnaigaaDoor
open Go Go.RowKit

set_option maxHeartbeats 4000000 in
theorem copyM_any {Ag0 Ag1 Ag2 : Option Addr} {cg0 cg1 cg2 : Nat} {g : GameL} {w : World} (rg : RdG w 0 w.heap.size Ag0 Ag1 Ag2 cg0 cg1 cg2 g) :
    Calls Tryd.prog 24 #[.agg #[.slice Ag0 g.ow.length cg0, .slice Ag1 g.pr.length cg1, .slice Ag2 g.mv.length cg2]] w fun e w' => ∃ A0 c0 A1 c1 A2 c2, e = .returned (.agg #[.slice A0 g.ow.length c0, .slice A1 g.pr.length c1, .slice A2 g.mv.length c2]) ∧ Ext w w' ∧ OwnR w' (Sx w.heap.size [obk A1, obk A2]) A0 c0 3 g.ow ∧ OwnR w' (Sx w.heap.size [obk A0, obk A2]) A1 c1 3 g.pr ∧ OwnLL w' w.heap.size [obk A0, obk A1] A2 c2 22 3 g.mv := by
 have hlg0 := rg.ow.len; have hlg1 := rg.pr.len; have hlg2 := rg.mv.len; have hkg0 := rg.k0; have hkg1 := rg.k1; have hkg2 := rg.k2
 refine enter_ (args := [.agg #[.slice Ag0 g.ow.length cg0, .slice Ag1 g.pr.length cg1, .slice Ag2 g.mv.length cg2]]) Tryd.func24 rfl Tryd.ntmps24 (Nat.le_of_ble_eq_true rfl) (fun act0 f0 => ?_)
 have e0 : Ext w w := Ext.refl w
 refine wp_seq ?_
 refine At.start ?_
 refine At.seq f0 1 [[]] [(1, .pointer (some ⟨w.heap.size, 0, none⟩))] (w.alloc (.cells #[.slice Ag0 g.ow.length cg0, .slice Ag1 g.pr.length cg1, .slice Ag2 g.mv.length cg2] 25 (0, 0))) [] (by kernel_rfl) trivial (fun act4 w1 hw2 f3 => ?_)
 clear f0; have g5 := gr_alloc hw2; have := g5.size; replace e0 := e0.gn g5; have r8 := rg.gn g5; clear rg; have bx9 : Bx w1 (w.heap.size) [.slice Ag0 g.ow.length cg0, .slice Ag1 g.pr.length cg1, .slice Ag2 g.mv.length cg2] 25 := Bx.new hw2; have := bx9.lt; clear g5 hw2
 refine At.seq f3 1 [[]] [(2, .pointer (some ⟨w1.heap.size, 0, none⟩))] (w1.alloc (.cells #[.slice none 0 0, .slice none 0 0, .slice none 0 0] 25 (0, 0))) [] (by kernel_rfl) trivial (fun jU aN dW fK => ?_)
 clear f3; have cT := gr_alloc dW; have := cT.size; replace e0 := e0.gn cT; replace r8 := r8.gn cT; replace bx9 := bx9.gn cT; have aM : Bx aN (w1.heap.size) [.slice none 0 0, .slice none 0 0, .slice none 0 0] 25 := Bx.new dW; have := aM.lt; clear cT dW
 refine At.done rfl ?_
 refine t_n ?_
 have dX := fK.sub (r := [(2, .pointer (some ⟨w1.heap.size, 0, none⟩)), (1, .pointer (some ⟨w.heap.size, 0, none⟩))]) ⟨rfl, rfl, trivial⟩; clear fK
 refine wp_seq (cut (fun a_ w_ => ∃ (aA : Nat) (aB : Option Addr) (aC : Option Addr) (aQ : Nat) (aR : Nat), (Frm 29 a_ [(3, .pointer (some ⟨aA, 0, none⟩)), (2, .pointer (some ⟨w1.heap.size, 0, none⟩)), (1, .pointer (some ⟨w.heap.size, 0, none⟩))]) ∧ (Ext w w_) ∧ (RdG w_ 0 w.heap.size Ag0 Ag1 Ag2 cg0 cg1 cg2 g) ∧ (Bx w_ (w.heap.size) [.slice Ag0 g.ow.length cg0, .slice Ag1 g.pr.length cg1, .slice Ag2 g.mv.length cg2] 25) ∧ (Bx w_ (w1.heap.size) [.slice none 0 0, .slice none 0 0, .slice none 0 0] 25) ∧ (OwnR w_ (Sx (aN.heap.size) [obk (aC), some (aA)]) (aB) (aQ) 3 (g.ow : List Int)) ∧ (OwnR w_ (Sx (aN.heap.size) [obk (aB), some (aA)]) (aC) (aR) 3 (g.pr : List Int)) ∧ (Bx w_ (aA) [.slice (aB) ((g.ow).length) (aQ), .slice (aC) ((g.pr).length) (aR), .slice none 0 0] 25) ∧ (aN.heap.size ≤ aA) ∧ (aN.heap.size ≤ w_.heap.size)) ?_ ?_)
 ·obtain ⟨dH, cL⟩ : ∃ c : List (Addr × Value), c = [(⟨w.heap.size, 0, none⟩, (.slice Ag0 g.ow.length cg0)), (⟨w.heap.size, 1, none⟩, (.slice Ag1 g.pr.length cg1))] := ⟨_, rfl⟩
  have fL : HoldsC dH aN := by rw [cL]; exact ⟨(bx9.cell (i := 0) rfl), (bx9.cell (i := 1) rfl), trivial⟩
  refine AtH.start dH 9 #[false, false, false, false, false, false, false, false, false] (by kernel_rfl) rfl rfl (fun bM fM => ?_)
  have cE := gr_drew fM; have dY := fL.gr cE; have := cE.size; replace e0 := e0.gn cE; replace r8 := r8.gn cE; replace bx9 := bx9.gn cE; replace aM := aM.gn cE; clear cE fM fL
  refine AtH.rd (by kernel_rfl) (fun d v c a w h => by cases d <;> exact h) dY [0, 1, 3, 4] [[], [.ld (.slice Ag0 g.ow.length cg0)], [], [.ld (.slice Ag1 g.pr.length cg1)]] [(10, .slice Ag1 g.pr.length cg1), (9, .pointer (some ⟨w.heap.size, 1, none⟩)), (7, .slice Ag0 g.ow.length cg0), (6, .pointer (some ⟨w.heap.size, 0, none⟩))] #[true, true, false, true, true, false, false, false, false] [(∃ j_ : Nat, dH[j_]? = some (⟨w.heap.size, 0, none⟩, (.slice Ag0 g.ow.length cg0))), (∃ j_ : Nat, dH[j_]? = some (⟨w.heap.size, 1, none⟩, (.slice Ag1 g.pr.length cg1)))] 5 dX (by kernel_rfl) ⟨⟨0, by rw [cL]; rfl⟩, ⟨1, by rw [cL]; rfl⟩, trivial⟩ (fun jV dI => ?_)
  clear dX
  refine AtH.all [2, 7] 4 (by kernel_rfl) (by simp) ⟨?_, ?_, trivial⟩
  ·refine OneH.call dI 47 #[.slice Ag0 g.ow.length cg0] (some 8) #[true, true, true, true, true, false, false, false, false] (by kernel_rfl) (by kernel_rfl) (clone_any (la := g.ow) (r8.ow.wide (Nat.zero_le _) (by omega))) ?_
   rintro e_ bN ⟨bA, bK, rfl, he, aU⟩
   refine ⟨_, rfl, _, rfl, fun jW dJ => ?_⟩
   clear dI; have cF := gr_ext he; have dZ := dY.gr cF; have := cF.size; replace e0 := e0.gn cF; replace r8 := r8.gn cF; replace bx9 := bx9.gn cF; replace aM := aM.gn cF; clear cF he
   refine ⟨dZ, ?_⟩
   refine AtH.all [5, 7] 3 (by kernel_rfl) (by simp) ⟨?_, ?_, trivial⟩
   ·refine OneH.call dJ 47 #[.slice Ag1 g.pr.length cg1] (some 11) #[true, true, true, true, true, true, false, false, false] (by kernel_rfl) (by kernel_rfl) (clone_any (la := g.pr) (r8.pr.wide (Nat.zero_le _) (by omega))) ?_
    rintro e_ bO ⟨cM, cU, rfl, he, bY⟩
    refine ⟨_, rfl, _, rfl, fun jX fN => ?_⟩
    clear dJ; have bZ := gr_ext he; have eA := dZ.gr bZ; have fO := aU.lt; have := bZ.size; replace e0 := e0.gn bZ; replace r8 := r8.gn bZ; replace bx9 := bx9.gn bZ; replace aM := aM.gn bZ
    replace aU : OwnR bO (Sx (bM.heap.size) [obk (cM)]) bA bK 3 (g.ow : List Int) := aU.grA bZ (fun _ _ h => by cases h) (fun k hk hs => ⟨(fun e => by have := bY.ge _ e; omega), hs⟩)
    replace bY : OwnR bO (Sx (bN.heap.size) [obk (bA)]) cM cU 3 (g.pr : List Int) := bY.imp (fun g _ hs => ⟨(fun e => by have := fO _ e; have := Sx_base hs; omega), hs⟩)
    clear fO; clear bZ he
    refine ⟨eA, ?_⟩
    refine AtH.rd (by kernel_rfl) (fun d v c a w h => by cases d <;> exact h) eA [6] [[]] [(12, .agg #[.slice bA ((g.ow).length) bK, .slice cM ((g.pr).length) cU, .slice none 0 0])] #[true, true, true, true, true, true, true, false, false] [] 2 fN (by kernel_rfl) trivial (fun jY fP => ?_)
    clear fN
    refine AtH.all [7] 1 (by kernel_rfl) (by simp) ⟨?_, trivial⟩
    refine OneH.seq fP [[]] [(3, .pointer (some ⟨bO.heap.size, 0, none⟩))] (bO.alloc (.cells #[.slice none 0 0, .slice none 0 0, .slice none 0 0] 25 (0, 0))) [] #[true, true, true, true, true, true, true, true, false] (by kernel_rfl) (by kernel_rfl) (by kernel_rfl) trivial (fun jZ iQ eB fQ => ?_)
    clear fP; have bP := gr_alloc eB; have fR := eA.gr bP; have := bP.size; replace e0 := e0.gn bP; replace r8 := r8.gn bP; replace bx9 := bx9.gn bP; replace aM := aM.gn bP; replace aU := aU.grN bP; replace bY := bY.grN bP; have eC : Bx iQ (bO.heap.size) [.slice none 0 0, .slice none 0 0, .slice none 0 0] 25 := Bx.new eB; have := eC.lt; clear bP eB
    refine ⟨fR, ?_⟩
    refine AtH.all [8] 0 (by kernel_rfl) (by simp) ⟨?_, trivial⟩
    refine OneH.store fQ (t := 25) (b := bO.heap.size) (off := 0) (v := .agg #[.slice bA ((g.ow).length) bK, .slice cM ((g.pr).length) cU, .slice none 0 0]) #[true, true, true, true, true, true, true, true, true] (by kernel_rfl) (by kernel_rfl) eC (by kernel_rfl) (fun kA iR bQ eD iS => ?_)
    clear fQ; replace eD : Bx iR (bO.heap.size) [.slice bA ((g.ow).length) bK, .slice cM ((g.pr).length) cU, .slice none 0 0] 25 := eD; have fS := fR.gr' bQ (by rw [cL]; exact ⟨(by simp only [add_block]; omega), (by simp only [add_block]; omega), trivial⟩); have := bQ.size; replace e0 := e0.gr bQ (fun k h => by injection h; omega); replace r8 := r8.gb bQ (by omega); replace bx9 := bx9.gb bQ (by omega)
    replace aM := aM.gb bQ (by omega); replace aU := aU.gr bQ (fun k hk => hk.1); replace bY := bY.gr bQ (fun k hk => hk.1); clear eC bQ
    refine ⟨fS, ?_⟩
    refine AtH.done (by kernel_rfl) ?_
    clear fS
    refine t_n ?_
    have iT := iS.sub (r := [(3, .pointer (some ⟨bO.heap.size, 0, none⟩)), (2, .pointer (some ⟨w1.heap.size, 0, none⟩)), (1, .pointer (some ⟨w.heap.size, 0, none⟩))]) ⟨rfl, rfl, rfl, trivial⟩
    exact ⟨bO.heap.size, bA, cM, bK, cU, iT, e0, r8, bx9, aM, (aU.imp (fun g _ hs => ⟨hs.2.1, hs.1, (by have := Sx_base hs; show aN.heap.size ≤ g; omega)⟩)), (bY.imp (fun g _ hs => ⟨hs.2.1, hs.1, (by have := Sx_base hs; show aN.heap.size ≤ g; omega)⟩)), eD, (by omega), (by omega)⟩
   refine OneH.seq dJ [[]] [(3, .pointer (some ⟨bN.heap.size, 0, none⟩))] (bN.alloc (.cells #[.slice none 0 0, .slice none 0 0, .slice none 0 0] 25 (0, 0))) [] #[true, true, true, true, true, false, false, true, false] (by kernel_rfl) (by kernel_rfl) (by kernel_rfl) trivial (fun kB fT eE fU => ?_)
   clear dJ; have cA := gr_alloc eE; have fV := dZ.gr cA; have := cA.size; replace e0 := e0.gn cA; replace r8 := r8.gn cA; replace bx9 := bx9.gn cA; replace aM := aM.gn cA; replace aU := aU.grN cA; have cV : Bx fT (bN.heap.size) [.slice none 0 0, .slice none 0 0, .slice none 0 0] 25 := Bx.new eE; have := cV.lt; clear cA eE
   refine ⟨fV, ?_⟩
   refine AtH.all [5] 2 (by kernel_rfl) (by simp) ⟨?_, trivial⟩
   refine OneH.call fU 47 #[.slice Ag1 g.pr.length cg1] (some 11) #[true, true, true, true, true, true, false, true, false] (by kernel_rfl) (by kernel_rfl) (clone_any (la := g.pr) (r8.pr.wide (Nat.zero_le _) (by omega))) ?_
   rintro e_ fW ⟨cN, cW, rfl, he, cO⟩
   refine ⟨_, rfl, _, rfl, fun kC fX => ?_⟩
   clear fU; have bR := gr_ext he; have eF := fV.gr bR; have fY := aU.lt; have := bR.size; replace e0 := e0.gn bR; replace r8 := r8.gn bR; replace bx9 := bx9.gn bR; replace aM := aM.gn bR
   replace aU : OwnR fW (Sx (bM.heap.size) [obk (cN), some (bN.heap.size)]) bA bK 3 (g.ow : List Int) := aU.grA bR (fun _ _ h => by cases h) (fun k hk hs => ⟨(fun e => by have := cO.ge _ e; omega), hs.1, hs.2⟩)
   replace cV := cV.gn bR
   replace cO : OwnR fW (Sx (fT.heap.size) [obk (bA)]) cN cW 3 (g.pr : List Int) := cO.imp (fun g _ hs => ⟨(fun e => by have := fY _ e; have := Sx_base hs; omega), hs⟩)
   clear fY; clear bR he
   refine ⟨eF, ?_⟩
   refine AtH.rd (by kernel_rfl) (fun d v c a w h => by cases d <;> exact h) eF [6] [[]] [(12, .agg #[.slice bA ((g.ow).length) bK, .slice cN ((g.pr).length) cW, .slice none 0 0])] #[true, true, true, true, true, true, true, true, false] [] 1 fX (by kernel_rfl) trivial (fun kD fZ => ?_)
   clear fX
   refine AtH.all [8] 0 (by kernel_rfl) (by simp) ⟨?_, trivial⟩
   refine OneH.store fZ (t := 25) (b := bN.heap.size) (off := 0) (v := .agg #[.slice bA ((g.ow).length) bK, .slice cN ((g.pr).length) cW, .slice none 0 0]) #[true, true, true, true, true, true, true, true, true] (by kernel_rfl) (by kernel_rfl) cV (by kernel_rfl) (fun kE iU bS eG iV => ?_)
   clear fZ; replace eG : Bx iU (bN.heap.size) [.slice bA ((g.ow).length) bK, .slice cN ((g.pr).length) cW, .slice none 0 0] 25 := eG; have gA := eF.gr' bS (by rw [cL]; exact ⟨(by simp only [add_block]; omega), (by simp only [add_block]; omega), trivial⟩); have := bS.size; replace e0 := e0.gr bS (fun k h => by injection h; omega); replace r8 := r8.gb bS (by omega); replace bx9 := bx9.gb bS (by omega)
   replace aM := aM.gb bS (by omega); replace aU := aU.gr bS (fun k hk => hk.2.1); replace cO := cO.gr bS (fun k hk e => by have := Sx_base hk; injection e; omega); clear cV bS
   refine ⟨gA, ?_⟩
   refine AtH.done (by kernel_rfl) ?_
   clear gA
   refine t_n ?_
   have iW := iV.sub (r := [(3, .pointer (some ⟨bN.heap.size, 0, none⟩)), (2, .pointer (some ⟨w1.heap.size, 0, none⟩)), (1, .pointer (some ⟨w.heap.size, 0, none⟩))]) ⟨rfl, rfl, rfl, trivial⟩
   exact ⟨bN.heap.size, bA, cN, bK, cW, iW, e0, r8, bx9, aM, (aU.imp (fun g _ hs => ⟨hs.1, hs.2.1, (by have := Sx_base hs; show aN.heap.size ≤ g; omega)⟩)), (cO.imp (fun g _ hs => ⟨hs.1, (fun e => by have := Sx_base hs; injection e; omega), (by have := Sx_base hs; show aN.heap.size ≤ g; omega)⟩)), eG, (by omega), (by omega)⟩
  refine OneH.seq dI [[]] [(3, .pointer (some ⟨bM.heap.size, 0, none⟩))] (bM.alloc (.cells #[.slice none 0 0, .slice none 0 0, .slice none 0 0] 25 (0, 0))) [] #[true, true, false, true, true, false, false, true, false] (by kernel_rfl) (by kernel_rfl) (by kernel_rfl) trivial (fun kF gB eH gC => ?_)
  clear dI; have cG := gr_alloc eH; have gD := dY.gr cG; have := cG.size; replace e0 := e0.gn cG; replace r8 := r8.gn cG; replace bx9 := bx9.gn cG; replace aM := aM.gn cG; have cH : Bx gB (bM.heap.size) [.slice none 0 0, .slice none 0 0, .slice none 0 0] 25 := Bx.new eH; have := cH.lt; clear cG eH
  refine ⟨gD, ?_⟩
  refine AtH.all [2] 3 (by kernel_rfl) (by simp) ⟨?_, trivial⟩
  refine OneH.call gC 47 #[.slice Ag0 g.ow.length cg0] (some 8) #[true, true, true, true, true, false, false, true, false] (by kernel_rfl) (by kernel_rfl) (clone_any (la := g.ow) (r8.ow.wide (Nat.zero_le _) (by omega))) ?_
  rintro e_ iX ⟨cP, cX, rfl, he, cQ⟩
  refine ⟨_, rfl, _, rfl, fun kG gE => ?_⟩
  clear gC; have cB := gr_ext he; have gF := gD.gr cB; have := cB.size; replace e0 := e0.gn cB; replace r8 := r8.gn cB; replace bx9 := bx9.gn cB; replace aM := aM.gn cB; replace cH := cH.gn cB; clear cB he
  refine ⟨gF, ?_⟩
  refine AtH.all [5] 2 (by kernel_rfl) (by simp) ⟨?_, trivial⟩
  refine OneH.call gE 47 #[.slice Ag1 g.pr.length cg1] (some 11) #[true, true, true, true, true, true, false, true, false] (by kernel_rfl) (by kernel_rfl) (clone_any (la := g.pr) (r8.pr.wide (Nat.zero_le _) (by omega))) ?_
  rintro e_ gG ⟨cR, cY, rfl, he, cS⟩
  refine ⟨_, rfl, _, rfl, fun kH gH => ?_⟩
  clear gE; have bT := gr_ext he; have eI := gF.gr bT; have gI := cQ.lt; have := bT.size; replace e0 := e0.gn bT; replace r8 := r8.gn bT; replace bx9 := bx9.gn bT; replace aM := aM.gn bT; replace cH := cH.gn bT
  replace cQ : OwnR gG (Sx (gB.heap.size) [obk (cR)]) cP cX 3 (g.ow : List Int) := cQ.grA bT (fun _ _ h => by cases h) (fun k hk hs => ⟨(fun e => by have := cS.ge _ e; omega), hs⟩)
  replace cS : OwnR gG (Sx (iX.heap.size) [obk (cP)]) cR cY 3 (g.pr : List Int) := cS.imp (fun g _ hs => ⟨(fun e => by have := gI _ e; have := Sx_base hs; omega), hs⟩)
  clear gI; clear bT he
  refine ⟨eI, ?_⟩
  refine AtH.rd (by kernel_rfl) (fun d v c a w h => by cases d <;> exact h) eI [6] [[]] [(12, .agg #[.slice cP ((g.ow).length) cX, .slice cR ((g.pr).length) cY, .slice none 0 0])] #[true, true, true, true, true, true, true, true, false] [] 1 gH (by kernel_rfl) trivial (fun kI gJ => ?_)
  clear gH
  refine AtH.all [8] 0 (by kernel_rfl) (by simp) ⟨?_, trivial⟩
  refine OneH.store gJ (t := 25) (b := bM.heap.size) (off := 0) (v := .agg #[.slice cP ((g.ow).length) cX, .slice cR ((g.pr).length) cY, .slice none 0 0]) #[true, true, true, true, true, true, true, true, true] (by kernel_rfl) (by kernel_rfl) cH (by kernel_rfl) (fun kJ iY bU eJ iZ => ?_)
  clear gJ; replace eJ : Bx iY (bM.heap.size) [.slice cP ((g.ow).length) cX, .slice cR ((g.pr).length) cY, .slice none 0 0] 25 := eJ; have gK := eI.gr' bU (by rw [cL]; exact ⟨(by simp only [add_block]; omega), (by simp only [add_block]; omega), trivial⟩); have := bU.size; replace e0 := e0.gr bU (fun k h => by injection h; omega); replace r8 := r8.gb bU (by omega); replace bx9 := bx9.gb bU (by omega)
  replace aM := aM.gb bU (by omega); replace cQ := cQ.gr bU (fun k hk e => by have := Sx_base hk; injection e; omega); replace cS := cS.gr bU (fun k hk e => by have := Sx_base hk; injection e; omega); clear cH bU
  refine ⟨gK, ?_⟩
  refine AtH.done (by kernel_rfl) ?_
  clear gK
  refine t_n ?_
  have jA := iZ.sub (r := [(3, .pointer (some ⟨bM.heap.size, 0, none⟩)), (2, .pointer (some ⟨w1.heap.size, 0, none⟩)), (1, .pointer (some ⟨w.heap.size, 0, none⟩))]) ⟨rfl, rfl, rfl, trivial⟩
  exact ⟨bM.heap.size, cP, cR, cX, cY, jA, e0, r8, bx9, aM, (cQ.imp (fun g _ hs => ⟨hs.1, (fun e => by have := Sx_base hs; injection e; omega), (by have := Sx_base hs; show aN.heap.size ≤ g; omega)⟩)), (cS.imp (fun g _ hs => ⟨hs.1, (fun e => by have := Sx_base hs; injection e; omega), (by have := Sx_base hs; show aN.heap.size ≤ g; omega)⟩)), eJ, (by omega), (by omega)⟩
 clear r8; clear bx9; clear aM; clear dX e0
 intro kK aS ⟨aA, aB, aC, aQ, aR, gM, eK, gN, dK, eL, dL, dM, eM, kL, kM⟩
 have := eK.size; have := dK.lt; have := eL.lt; have := eM.lt
 refine wp_seq ?_
 refine wp_seq ?_
 refine At.start ?_
 refine At.rd gM 4 [[], [.ld (.slice Ag2 g.mv.length cg2)], [], []] [(16, .int .i64 (0)), (15, .int .i64 (((g.mv.length : Nat) : Int))), (14, .slice Ag2 g.mv.length cg2), (13, .pointer (some ⟨w.heap.size, 2, none⟩))] [(aS.cell? ⟨w.heap.size, 2, none⟩ = some (.slice Ag2 g.mv.length cg2))] (by kernel_rfl) ⟨(dK.cell (i := 2) rfl), trivial⟩ (fun kN gO => ?_)
 clear gM
 refine At.done rfl ?_
 refine t_n ?_
 have gP := gO.sub (r := [(16, .int .i64 (0)), (15, .int .i64 (((g.mv.length : Nat) : Int))), (14, .slice Ag2 g.mv.length cg2), (3, .pointer (some ⟨aA, 0, none⟩)), (2, .pointer (some ⟨w1.heap.size, 0, none⟩))]) ⟨rfl, rfl, rfl, rfl, rfl, trivial⟩
 clear gO
 refine wp_block ?_
 have gQ : OwnLL aS (aS.heap.size) [obk (aB), obk (aC)] none 0 22 3 ([] : List (List Int)) := OwnLL.nil; replace dL : OwnR aS (Sx (aN.heap.size) [obk none, obk (aC), some (aA)]) aB aQ 3 (g.ow : List Int) := dL.imp (fun g _ hs => ⟨by simp [obk], hs⟩); replace dM : OwnR aS (Sx (aN.heap.size) [obk none, obk (aB), some (aA)]) aC aR 3 (g.pr : List Int) := dM.imp (fun g _ hs => ⟨by simp [obk], hs⟩)
 have gR := gP.sub (r := [(16, .int .i64 (0)), (15, .int .i64 (((g.mv.length : Nat) : Int))), (14, .slice Ag2 g.mv.length cg2), (3, .pointer (some ⟨aA, 0, none⟩)), (2, .pointer (some ⟨w1.heap.size, 0, none⟩))]) ⟨rfl, rfl, rfl, rfl, rfl, trivial⟩
 refine loop_g (fun (m_ : Nat) a_ w_ => ∃ (k : Int) (xs : List (List Int)) (aE : Option Addr) (aO : Nat), m_ = ((g.mv.length : Int) - k).toNat ∧ (Frm 29 a_ [(16, .int .i64 (k)), (15, .int .i64 (((g.mv.length : Nat) : Int))), (14, .slice Ag2 g.mv.length cg2), (3, .pointer (some ⟨aA, 0, none⟩)), (2, .pointer (some ⟨w1.heap.size, 0, none⟩))]) ∧ (Ext w w_) ∧ (RdG w_ 0 w.heap.size Ag0 Ag1 Ag2 cg0 cg1 cg2 g) ∧ (Bx w_ (w.heap.size) [.slice Ag0 g.ow.length cg0, .slice Ag1 g.pr.length cg1, .slice Ag2 g.mv.length cg2] 25) ∧ (Bx w_ (w1.heap.size) [.slice none 0 0, .slice none 0 0, .slice none 0 0] 25) ∧ (OwnR w_ (Sx (aN.heap.size) [obk (aE), obk (aC), some (aA)]) aB aQ 3 (g.ow : List Int)) ∧ (OwnR w_ (Sx (aN.heap.size) [obk (aE), obk (aB), some (aA)]) aC aR 3 (g.pr : List Int)) ∧ (Bx w_ (aA) [.slice aB ((g.ow).length) aQ, .slice aC ((g.pr).length) aR, .slice aE xs.length aO] 25) ∧ (OwnLL w_ (aS.heap.size) [obk (aB), obk (aC)] aE aO 22 3 (xs : List (List Int))) ∧ (0 ≤ k) ∧ (k ≤ (g.mv.length : Int)) ∧ (xs = g.mv.take k.toNat) ∧ (aN.heap.size ≤ w_.heap.size) ∧ (aS.heap.size ≤ w_.heap.size)) _ ⟨0, ([] : List (List Int)), none, 0, rfl, gR, eK, gN, dK, eL, dL, dM, (eM.as (by first | rfl | (simp only [List.cons.injEq, Value.slice.injEq, true_and, and_true]; omega))), gQ, (by omega), (by omega), rfl, (by omega), (by omega)⟩ ?_
 clear gR gP; clear gN; clear dK; clear eL; clear dL; clear dM; clear eM; clear gQ; clear eK
 intro m_ kO cZ ⟨k, xs, aE, aO, hm228, gS, aI, aJ, aK, aL, aF, aG, aH, dN, i237, i238, hxs, i239, i240⟩
 have := aI.size; have := aK.lt; have := aL.lt; have := aH.lt
 have hxl : xs.length = k.toNat := by rw [hxs, List.length_take]; omega
 refine wp_seq ?_
 refine At.start ?_
 refine At.rd gS 1 [[]] [(17, .bool (decide ((k : Int) < ((g.mv.length : Nat) : Int))))] [] (by kernel_rfl) trivial (fun kP dA => ?_)
 clear gS
 refine At.done rfl ?_
 refine t_n ?_
 refine wp_seq ?_
 refine cond_S dA (t := decide ((k : Int) < ((g.mv.length : Nat) : Int))) rfl (fun eN => ?_) (fun eN => ?_)
 ·have kQ := of_decide_eq_true eN
  refine wp_skip ?_
  refine t_n ?_
  have gT := dA.sub (r := [(16, .int .i64 (k)), (15, .int .i64 (((g.mv.length : Nat) : Int))), (14, .slice Ag2 g.mv.length cg2), (3, .pointer (some ⟨aA, 0, none⟩)), (2, .pointer (some ⟨w1.heap.size, 0, none⟩))]) ⟨rfl, rfl, rfl, rfl, rfl, trivial⟩
  clear dA
  refine wp_seq ?_
  refine wp_block ?_
  refine wp_seq ?_
  refine At.start ?_
  obtain ⟨dO, cC, cD, jB, _, _, jC, kR, aP⟩ := RdII.get aJ.mv (k) (by omega) (by omega)
  have kS := aP.len
  refine At.rd gT 3 [[.ad dO], [.ld (.slice cC ((gL g.mv (k)).length) cD)], []] [(5, .slice cC ((gL g.mv (k)).length) cD), (19, .slice cC ((gL g.mv (k)).length) cD), (18, .pointer (some (dO.add ((k : Int).toNat * 1))))] [(Ag2 = some dO), (0 ≤ (k : Int)), ((k : Int) < (g.mv.length : Nat)), (cZ.cell? (dO.add ((k : Int).toNat * 1)) = some (.slice cC ((gL g.mv (k)).length) cD))] (by kernel_rfl) ⟨jB, (by omega), (by omega), jC, trivial⟩ (fun kT gU => ?_)
  clear gT
  refine At.done rfl ?_
  refine t_n ?_
  have gV := gU.sub (r := [(5, .slice cC ((gL g.mv (k)).length) cD), (16, .int .i64 (k)), (15, .int .i64 (((g.mv.length : Nat) : Int))), (14, .slice Ag2 g.mv.length cg2), (3, .pointer (some ⟨aA, 0, none⟩)), (2, .pointer (some ⟨w1.heap.size, 0, none⟩))]) ⟨rfl, rfl, rfl, rfl, rfl, rfl, trivial⟩
  clear gU
  obtain ⟨gW, cI⟩ : ∃ c : List (Addr × Value), c = [] := ⟨_, rfl⟩
  have gX : HoldsC gW cZ := by rw [cI]; exact trivial
  refine AtH.start gW 8 #[false, false, false, false, false, false, false, false] (by kernel_rfl) rfl rfl (fun dB gY => ?_)
  have bB := gr_drew gY; have dP := gX.gr bB; have := bB.size; replace aI := aI.gn bB; replace aJ := aJ.gn bB; replace aK := aK.gn bB; replace aL := aL.gn bB; replace aF := aF.gn bB; replace aG := aG.gn bB; replace aH := aH.gn bB; have aD := dN.gn bB; clear dN; replace aP := aP.gn bB; clear bB gY gX
  refine AtH.rd (by kernel_rfl) (fun d v c a w h => by cases d <;> exact h) dP [0, 2] [[], []] [(22, .slice cC ((gL g.mv (k)).length) cD), (20, .pointer (some ⟨aA, 2, none⟩))] #[true, false, true, false, false, false, false, false] [] 6 gV (by kernel_rfl) trivial (fun kU dQ => ?_)
  clear gV
  refine AtH.all [1, 3] 5 (by kernel_rfl) (by simp) ⟨?_, ?_, trivial⟩
  ·refine OneH.seq dQ [[.ld (.slice aE xs.length aO)]] [(21, .slice aE xs.length aO)] dB [(dB.cell? ⟨aA, 2, none⟩ = some (.slice aE xs.length aO))] #[true, true, true, false, false, false, false, false] (by kernel_rfl) (by kernel_rfl) (by kernel_rfl) ⟨(aH.cell (i := 2) rfl), trivial⟩ (fun kV jD jE gZ => ?_)
   obtain rfl : dB = jD := jE.symm
   clear dQ
   refine ⟨dP, ?_⟩
   refine AtH.all [3] 4 (by kernel_rfl) (by simp) ⟨?_, trivial⟩
   refine OneH.call gZ 47 #[.slice cC ((gL g.mv (k)).length) cD] (some 23) #[true, true, true, true, false, false, false, false] (by kernel_rfl) (by kernel_rfl) (clone_any (la := gL g.mv (k)) (aP.wide (Nat.zero_le _) (by omega))) ?_
   rintro e_ bV ⟨bL, dR, rfl, he, bW⟩
   refine ⟨_, rfl, _, rfl, fun kW hA => ?_⟩
   clear gZ; have bC := gr_ext he; have hB := dP.gr bC; have hC := aF.lt; have hD := aG.lt; have hE := aD.lt; have := bC.size; replace aI := aI.gn bC; replace aJ := aJ.gn bC; replace aK := aK.gn bC; replace aL := aL.gn bC
   replace aF : OwnR bV (Sx (aN.heap.size) [obk (bL), obk (aE), obk (aC), some (aA)]) aB aQ 3 (g.ow : List Int) := aF.grA bC (fun _ _ h => by cases h) (fun k hk hs => ⟨(fun e => by have := bW.ge _ e; omega), hs.1, hs.2.1, hs.2.2.1, hs.2.2.2⟩)
   replace aG : OwnR bV (Sx (aN.heap.size) [obk (bL), obk (aE), obk (aB), some (aA)]) aC aR 3 (g.pr : List Int) := aG.grA bC (fun _ _ h => by cases h) (fun k hk hs => ⟨(fun e => by have := bW.ge _ e; omega), hs.1, hs.2.1, hs.2.2.1, hs.2.2.2⟩)
   replace aH := aH.gn bC
   replace aD : OwnLL bV (aS.heap.size) [obk (bL), obk (aB), obk (aC)] aE aO 22 3 (xs : List (List Int)) := aD.grA bC (fun _ _ h => by cases h) (fun k hk hs => ⟨(fun e => by have := bW.ge _ e; omega), hs.1, hs.2.1, hs.2.2⟩)
   replace aP := aP.gn bC
   replace bW : OwnR bV (Sx (dB.heap.size) [obk (aB), obk (aC), obk (aE)]) bL dR 3 (gL g.mv (k) : List Int) := bW.imp (fun g _ hs => ⟨(fun e => by have := hC _ e; have := Sx_base hs; omega), (fun e => by have := hD _ e; have := Sx_base hs; omega), (fun e => by have := hE _ e; have := Sx_base hs; omega), hs⟩)
   clear hC hD hE; clear bC he
   refine ⟨hB, ?_⟩
   refine AtH.all [4] 3 (by kernel_rfl) (by simp) ⟨?_, trivial⟩
   refine OneH.seq hA [[]] [(24, .slice (some ⟨bV.heap.size, 0, none⟩) 1 1)] (bV.alloc (.cells #[.slice bL ((gL g.mv (k)).length) dR] 22 (0, 0))) [] #[true, true, true, true, true, false, false, false] (by kernel_rfl) (by kernel_rfl) (by kernel_rfl) trivial (fun kX dS eO hF => ?_)
   clear hA; have aW := gr_alloc eO; have hG := hB.gr aW
   refine ⟨hG, ?_⟩
   have := aW.size; replace aI := aI.gn aW; replace aJ := aJ.gn aW; replace aK := aK.gn aW; replace aL := aL.gn aW; replace aF := aF.grN aW; replace aG := aG.grN aW; replace aH := aH.gn aW; replace aD := aD.grN aW; replace aP := aP.gn aW; replace bW := bW.grN aW; have eP : Bx dS (bV.heap.size) [.slice bL ((gL g.mv (k)).length) dR] 22 := Bx.new eO; have := eP.lt; clear aW eO
   refine AtH.all [5] 2 (by kernel_rfl) (by simp) ⟨?_, trivial⟩
   have hH : OwnR dS (Sx (aS.heap.size) [obk (aB), obk (aC)]) bL dR 3 (gL g.mv (k) : List Int) := bW.imp (fun g _ hs => ⟨hs.2.1, hs.2.2.1, (by have := Sx_base hs; show aS.heap.size ≤ g; omega)⟩)
   have hI : OwnLL dS (aS.heap.size) [obk (bL), obk (aB), obk (aC)] aE aO 22 3 (xs : List (List Int)) := (aD.imp (fun g _ hs => ⟨hs.2.1, hs.2.2.1, hs.2.2.2.1, hs.2.2.2.2⟩))
   have kY : (xs ++ [gL g.mv (k)]).length = (xs).length + 1 := by simp
   refine OneH.act hF #[true, true, true, true, true, true, false, false] (by kernel_rfl) (appendLL (t := 23) (d := 25) (n := xs.length) (m := 1) (cc := 1) (ls := xs) (xs := gL g.mv (k)) (bytes := 24) (by first | rfl | omega | (simp; done) | (simp; omega)) (by kernel_rfl) (by kernel_rfl) (eP.as (by first | rfl | (simp; done))) hI hH ⟨aF.ne_new, aG.ne_new, (show aS.heap.size ≤ dS.heap.size by omega)⟩ (by omega) (by omega)) ?_
   rintro d_ v_ hJ ⟨rfl, dC, eQ, rfl, bE, eR, eS⟩
   have eT := hG.grO bE (by rw [cI]; exact trivial)
   refine ⟨_, rfl, fun kZ hK => ⟨eT, ?_⟩⟩
   clear hF; clear eP bW hH hI; have := bE.size; replace aI := aI.gr bE (fun k hk => by have := aD.ge k hk; omega); replace aJ := aJ.gr bE (fun k hk => by have := aD.ge k hk; omega); replace aK := aK.gr bE (fun e => by have := aD.ge _ e; omega); replace aL := aL.gr bE (fun e => by have := aD.ge _ e; omega)
   replace aF : OwnR hJ (Sx (aN.heap.size) [some (bV.heap.size), obk (bL), obk (dC), obk (aC), some (aA)]) aB aQ 3 (g.ow : List Int) := aF.grA bE (fun k hk => hk.2.2.1) (fun k hk hs => ⟨hs.1, hs.2.1, own_repl eR hs.2.2.1 hk, hs.2.2.2.1, hs.2.2.2.2.1, hs.2.2.2.2.2⟩)
   replace aG : OwnR hJ (Sx (aN.heap.size) [some (bV.heap.size), obk (bL), obk (dC), obk (aB), some (aA)]) aC aR 3 (g.pr : List Int) := aG.grA bE (fun k hk => hk.2.2.1) (fun k hk hs => ⟨hs.1, hs.2.1, own_repl eR hs.2.2.1 hk, hs.2.2.2.1, hs.2.2.2.2.1, hs.2.2.2.2.2⟩)
   replace aH := aH.gr bE (fun e => by have := aD.ge _ e; omega); replace aP := aP.gr bE (fun k hk => by have := aD.ge k hk; omega); clear aD bE eR
   refine AtH.rd (by kernel_rfl) (fun d v c a w h => by cases d <;> exact h) eT [6] [[]] [(26, .pointer (some ⟨aA, 2, none⟩))] #[true, true, true, true, true, true, true, false] [] 1 hK (by kernel_rfl) trivial (fun lA hL => ?_)
   clear hK
   refine AtH.all [7] 0 (by kernel_rfl) (by simp) ⟨?_, trivial⟩
   refine OneH.store hL (t := 23) (b := aA) (off := 2) (v := .slice dC ((xs ++ [gL g.mv (k)]).length) eQ) #[true, true, true, true, true, true, true, true] (by kernel_rfl) (by kernel_rfl) aH (by kernel_rfl) (fun lB jF bF eU hM => ?_)
   clear hL; replace eU : Bx jF (aA) [.slice aB ((g.ow).length) aQ, .slice aC ((g.pr).length) aR, .slice dC ((xs ++ [gL g.mv (k)]).length) eQ] 25 := eU; have hN := eT.gr' bF (by rw [cI]; exact trivial); have := bF.size; replace aI := aI.gr bF (fun k h => by injection h; omega); replace aJ := aJ.gb bF (by omega); replace aK := aK.gb bF (by omega); replace aL := aL.gb bF (by omega)
   replace aF := aF.gr bF (fun k hk => hk.2.2.2.2.1); replace aG := aG.gr bF (fun k hk => hk.2.2.2.2.1); replace aP := aP.gb bF (by omega); replace eS := eS.gr bF (fun k hk e => by have := Sx_base hk; injection e; omega); clear aH bF
   refine ⟨hN, ?_⟩
   refine AtH.done (by kernel_rfl) ?_
   clear hN
   refine b_n ?_
   refine t_n ?_
   have hO := hM.sub (r := [(16, .int .i64 (k)), (15, .int .i64 (((g.mv.length : Nat) : Int))), (14, .slice Ag2 g.mv.length cg2), (3, .pointer (some ⟨aA, 0, none⟩)), (2, .pointer (some ⟨w1.heap.size, 0, none⟩))]) ⟨rfl, rfl, rfl, rfl, rfl, trivial⟩
   clear hM
   refine At.start ?_
   refine At.rd hO 2 [[.as_ (.int .i64 (k + 1))], []] [(16, .int .i64 (k + 1)), (27, .int .i64 (k + 1))] [((.int .i64 (IntKind.i64.wrap (k + 1)) : Value) = .int .i64 (k + 1))] (by kernel_rfl) ⟨(w64 (by omega) (by omega)), trivial⟩ (fun lC jG => ?_)
   clear hO
   refine At.done rfl ?_
   refine t_n ?_
   have jH := jG.sub (r := [(16, .int .i64 (k + 1)), (15, .int .i64 (((g.mv.length : Nat) : Int))), (14, .slice Ag2 g.mv.length cg2), (3, .pointer (some ⟨aA, 0, none⟩)), (2, .pointer (some ⟨w1.heap.size, 0, none⟩))]) ⟨rfl, rfl, rfl, rfl, rfl, trivial⟩
   exact ⟨_, (by omega), (k + 1), (xs ++ [gL g.mv (k)] : List (List Int)), dC, eQ, rfl, jH, aI, aJ, aK, aL, (aF.imp (fun g _ hs => ⟨hs.2.2.1, hs.2.2.2.1, hs.2.2.2.2.1, hs.2.2.2.2.2⟩)), (aG.imp (fun g _ hs => ⟨hs.2.2.1, hs.2.2.2.1, hs.2.2.2.2.1, hs.2.2.2.2.2⟩)), eU, eS, (by omega), (by omega), (takeLL_push hxs (by omega) (by omega)), (by omega), (by omega)⟩
  refine OneH.call dQ 47 #[.slice cC ((gL g.mv (k)).length) cD] (some 23) #[true, false, true, true, false, false, false, false] (by kernel_rfl) (by kernel_rfl) (clone_any (la := gL g.mv (k)) (aP.wide (Nat.zero_le _) (by omega))) ?_
  rintro e_ aT ⟨aV, cJ, rfl, he, aX⟩
  refine ⟨_, rfl, _, rfl, fun lD dT => ?_⟩
  clear dQ; have bD := gr_ext he; have dU := dP.gr bD; have hP := aF.lt; have hQ := aG.lt; have hR := aD.lt; have := bD.size; replace aI := aI.gn bD; replace aJ := aJ.gn bD; replace aK := aK.gn bD; replace aL := aL.gn bD
  replace aF : OwnR aT (Sx (aN.heap.size) [obk (aV), obk (aE), obk (aC), some (aA)]) aB aQ 3 (g.ow : List Int) := aF.grA bD (fun _ _ h => by cases h) (fun k hk hs => ⟨(fun e => by have := aX.ge _ e; omega), hs.1, hs.2.1, hs.2.2.1, hs.2.2.2⟩)
  replace aG : OwnR aT (Sx (aN.heap.size) [obk (aV), obk (aE), obk (aB), some (aA)]) aC aR 3 (g.pr : List Int) := aG.grA bD (fun _ _ h => by cases h) (fun k hk hs => ⟨(fun e => by have := aX.ge _ e; omega), hs.1, hs.2.1, hs.2.2.1, hs.2.2.2⟩)
  replace aH := aH.gn bD
  replace aD : OwnLL aT (aS.heap.size) [obk (aV), obk (aB), obk (aC)] aE aO 22 3 (xs : List (List Int)) := aD.grA bD (fun _ _ h => by cases h) (fun k hk hs => ⟨(fun e => by have := aX.ge _ e; omega), hs.1, hs.2.1, hs.2.2⟩)
  replace aP := aP.gn bD
  replace aX : OwnR aT (Sx (dB.heap.size) [obk (aB), obk (aC), obk (aE)]) aV cJ 3 (gL g.mv (k) : List Int) := aX.imp (fun g _ hs => ⟨(fun e => by have := hP _ e; have := Sx_base hs; omega), (fun e => by have := hQ _ e; have := Sx_base hs; omega), (fun e => by have := hR _ e; have := Sx_base hs; omega), hs⟩)
  clear hP hQ hR; clear bD he
  refine ⟨dU, ?_⟩
  refine AtH.all [1, 4] 4 (by kernel_rfl) (by simp) ⟨?_, ?_, trivial⟩
  ·refine OneH.seq dT [[.ld (.slice aE xs.length aO)]] [(21, .slice aE xs.length aO)] aT [(aT.cell? ⟨aA, 2, none⟩ = some (.slice aE xs.length aO))] #[true, true, true, true, false, false, false, false] (by kernel_rfl) (by kernel_rfl) (by kernel_rfl) ⟨(aH.cell (i := 2) rfl), trivial⟩ (fun lE jI jJ hS => ?_)
   obtain rfl : aT = jI := jJ.symm
   clear dT
   refine ⟨dU, ?_⟩
   refine AtH.all [4] 3 (by kernel_rfl) (by simp) ⟨?_, trivial⟩
   refine OneH.seq hS [[]] [(24, .slice (some ⟨aT.heap.size, 0, none⟩) 1 1)] (aT.alloc (.cells #[.slice aV ((gL g.mv (k)).length) cJ] 22 (0, 0))) [] #[true, true, true, true, true, false, false, false] (by kernel_rfl) (by kernel_rfl) (by kernel_rfl) trivial (fun lF dV eV hT => ?_)
   clear hS; have aY := gr_alloc eV; have hU := dU.gr aY
   refine ⟨hU, ?_⟩
   have := aY.size; replace aI := aI.gn aY; replace aJ := aJ.gn aY; replace aK := aK.gn aY; replace aL := aL.gn aY; replace aF := aF.grN aY; replace aG := aG.grN aY; replace aH := aH.gn aY; replace aD := aD.grN aY; replace aP := aP.gn aY; replace aX := aX.grN aY; have eW : Bx dV (aT.heap.size) [.slice aV ((gL g.mv (k)).length) cJ] 22 := Bx.new eV; have := eW.lt; clear aY eV
   refine AtH.all [5] 2 (by kernel_rfl) (by simp) ⟨?_, trivial⟩
   have hV : OwnR dV (Sx (aS.heap.size) [obk (aB), obk (aC)]) aV cJ 3 (gL g.mv (k) : List Int) := aX.imp (fun g _ hs => ⟨hs.2.1, hs.2.2.1, (by have := Sx_base hs; show aS.heap.size ≤ g; omega)⟩)
   have hW : OwnLL dV (aS.heap.size) [obk (aV), obk (aB), obk (aC)] aE aO 22 3 (xs : List (List Int)) := (aD.imp (fun g _ hs => ⟨hs.2.1, hs.2.2.1, hs.2.2.2.1, hs.2.2.2.2⟩))
   have lG : (xs ++ [gL g.mv (k)]).length = (xs).length + 1 := by simp
   refine OneH.act hT #[true, true, true, true, true, true, false, false] (by kernel_rfl) (appendLL (t := 23) (d := 25) (n := xs.length) (m := 1) (cc := 1) (ls := xs) (xs := gL g.mv (k)) (bytes := 24) (by first | rfl | omega | (simp; done) | (simp; omega)) (by kernel_rfl) (by kernel_rfl) (eW.as (by first | rfl | (simp; done))) hW hV ⟨aF.ne_new, aG.ne_new, (show aS.heap.size ≤ dV.heap.size by omega)⟩ (by omega) (by omega)) ?_
   rintro d_ v_ hX ⟨rfl, dD, eX, rfl, bG, eY, eZ⟩
   have fA := hU.grO bG (by rw [cI]; exact trivial)
   refine ⟨_, rfl, fun lH hY => ⟨fA, ?_⟩⟩
   clear hT; clear eW aX hV hW; have := bG.size; replace aI := aI.gr bG (fun k hk => by have := aD.ge k hk; omega); replace aJ := aJ.gr bG (fun k hk => by have := aD.ge k hk; omega); replace aK := aK.gr bG (fun e => by have := aD.ge _ e; omega); replace aL := aL.gr bG (fun e => by have := aD.ge _ e; omega)
   replace aF : OwnR hX (Sx (aN.heap.size) [some (aT.heap.size), obk (aV), obk (dD), obk (aC), some (aA)]) aB aQ 3 (g.ow : List Int) := aF.grA bG (fun k hk => hk.2.2.1) (fun k hk hs => ⟨hs.1, hs.2.1, own_repl eY hs.2.2.1 hk, hs.2.2.2.1, hs.2.2.2.2.1, hs.2.2.2.2.2⟩)
   replace aG : OwnR hX (Sx (aN.heap.size) [some (aT.heap.size), obk (aV), obk (dD), obk (aB), some (aA)]) aC aR 3 (g.pr : List Int) := aG.grA bG (fun k hk => hk.2.2.1) (fun k hk hs => ⟨hs.1, hs.2.1, own_repl eY hs.2.2.1 hk, hs.2.2.2.1, hs.2.2.2.2.1, hs.2.2.2.2.2⟩)
   replace aH := aH.gr bG (fun e => by have := aD.ge _ e; omega); replace aP := aP.gr bG (fun k hk => by have := aD.ge k hk; omega); clear aD bG eY
   refine AtH.rd (by kernel_rfl) (fun d v c a w h => by cases d <;> exact h) fA [6] [[]] [(26, .pointer (some ⟨aA, 2, none⟩))] #[true, true, true, true, true, true, true, false] [] 1 hY (by kernel_rfl) trivial (fun lI hZ => ?_)
   clear hY
   refine AtH.all [7] 0 (by kernel_rfl) (by simp) ⟨?_, trivial⟩
   refine OneH.store hZ (t := 23) (b := aA) (off := 2) (v := .slice dD ((xs ++ [gL g.mv (k)]).length) eX) #[true, true, true, true, true, true, true, true] (by kernel_rfl) (by kernel_rfl) aH (by kernel_rfl) (fun lJ jK bH fB iA => ?_)
   clear hZ; replace fB : Bx jK (aA) [.slice aB ((g.ow).length) aQ, .slice aC ((g.pr).length) aR, .slice dD ((xs ++ [gL g.mv (k)]).length) eX] 25 := fB; have iB := fA.gr' bH (by rw [cI]; exact trivial); have := bH.size; replace aI := aI.gr bH (fun k h => by injection h; omega); replace aJ := aJ.gb bH (by omega); replace aK := aK.gb bH (by omega); replace aL := aL.gb bH (by omega)
   replace aF := aF.gr bH (fun k hk => hk.2.2.2.2.1); replace aG := aG.gr bH (fun k hk => hk.2.2.2.2.1); replace aP := aP.gb bH (by omega); replace eZ := eZ.gr bH (fun k hk e => by have := Sx_base hk; injection e; omega); clear aH bH
   refine ⟨iB, ?_⟩
   refine AtH.done (by kernel_rfl) ?_
   clear iB
   refine b_n ?_
   refine t_n ?_
   have iC := iA.sub (r := [(16, .int .i64 (k)), (15, .int .i64 (((g.mv.length : Nat) : Int))), (14, .slice Ag2 g.mv.length cg2), (3, .pointer (some ⟨aA, 0, none⟩)), (2, .pointer (some ⟨w1.heap.size, 0, none⟩))]) ⟨rfl, rfl, rfl, rfl, rfl, trivial⟩
   clear iA
   refine At.start ?_
   refine At.rd iC 2 [[.as_ (.int .i64 (k + 1))], []] [(16, .int .i64 (k + 1)), (27, .int .i64 (k + 1))] [((.int .i64 (IntKind.i64.wrap (k + 1)) : Value) = .int .i64 (k + 1))] (by kernel_rfl) ⟨(w64 (by omega) (by omega)), trivial⟩ (fun lK jL => ?_)
   clear iC
   refine At.done rfl ?_
   refine t_n ?_
   have jM := jL.sub (r := [(16, .int .i64 (k + 1)), (15, .int .i64 (((g.mv.length : Nat) : Int))), (14, .slice Ag2 g.mv.length cg2), (3, .pointer (some ⟨aA, 0, none⟩)), (2, .pointer (some ⟨w1.heap.size, 0, none⟩))]) ⟨rfl, rfl, rfl, rfl, rfl, trivial⟩
   exact ⟨_, (by omega), (k + 1), (xs ++ [gL g.mv (k)] : List (List Int)), dD, eX, rfl, jM, aI, aJ, aK, aL, (aF.imp (fun g _ hs => ⟨hs.2.2.1, hs.2.2.2.1, hs.2.2.2.2.1, hs.2.2.2.2.2⟩)), (aG.imp (fun g _ hs => ⟨hs.2.2.1, hs.2.2.2.1, hs.2.2.2.2.1, hs.2.2.2.2.2⟩)), fB, eZ, (by omega), (by omega), (takeLL_push hxs (by omega) (by omega)), (by omega), (by omega)⟩
  refine OneH.seq dT [[]] [(24, .slice (some ⟨aT.heap.size, 0, none⟩) 1 1)] (aT.alloc (.cells #[.slice aV ((gL g.mv (k)).length) cJ] 22 (0, 0))) [] #[true, false, true, true, true, false, false, false] (by kernel_rfl) (by kernel_rfl) (by kernel_rfl) trivial (fun lL cK fC iD => ?_)
  clear dT; have aZ := gr_alloc fC; have fD := dU.gr aZ
  refine ⟨fD, ?_⟩
  have := aZ.size; replace aI := aI.gn aZ; replace aJ := aJ.gn aZ; replace aK := aK.gn aZ; replace aL := aL.gn aZ; replace aF := aF.grN aZ; replace aG := aG.grN aZ; replace aH := aH.gn aZ; replace aD := aD.grN aZ; replace aP := aP.gn aZ; replace aX := aX.grN aZ; have fE : Bx cK (aT.heap.size) [.slice aV ((gL g.mv (k)).length) cJ] 22 := Bx.new fC; have := fE.lt; clear aZ fC
  refine AtH.all [1] 3 (by kernel_rfl) (by simp) ⟨?_, trivial⟩
  refine OneH.seq iD [[.ld (.slice aE xs.length aO)]] [(21, .slice aE xs.length aO)] cK [(cK.cell? ⟨aA, 2, none⟩ = some (.slice aE xs.length aO))] #[true, true, true, true, true, false, false, false] (by kernel_rfl) (by kernel_rfl) (by kernel_rfl) ⟨(aH.cell (i := 2) rfl), trivial⟩ (fun lM jN jO iE => ?_)
  obtain rfl : cK = jN := jO.symm
  clear iD
  refine ⟨fD, ?_⟩
  refine AtH.all [5] 2 (by kernel_rfl) (by simp) ⟨?_, trivial⟩
  have iF : OwnR cK (Sx (aS.heap.size) [obk (aB), obk (aC)]) aV cJ 3 (gL g.mv (k) : List Int) := aX.imp (fun g _ hs => ⟨hs.2.1, hs.2.2.1, (by have := Sx_base hs; show aS.heap.size ≤ g; omega)⟩)
  have iG : OwnLL cK (aS.heap.size) [obk (aV), obk (aB), obk (aC)] aE aO 22 3 (xs : List (List Int)) := (aD.imp (fun g _ hs => ⟨hs.2.1, hs.2.2.1, hs.2.2.2.1, hs.2.2.2.2⟩))
  have lN : (xs ++ [gL g.mv (k)]).length = (xs).length + 1 := by simp
  refine OneH.act iE #[true, true, true, true, true, true, false, false] (by kernel_rfl) (appendLL (t := 23) (d := 25) (n := xs.length) (m := 1) (cc := 1) (ls := xs) (xs := gL g.mv (k)) (bytes := 24) (by first | rfl | omega | (simp; done) | (simp; omega)) (by kernel_rfl) (by kernel_rfl) (fE.as (by first | rfl | (simp; done))) iG iF ⟨aF.ne_new, aG.ne_new, (show aS.heap.size ≤ cK.heap.size by omega)⟩ (by omega) (by omega)) ?_
  rintro d_ v_ iH ⟨rfl, dE, fF, rfl, bI, fG, fH⟩
  have fI := fD.grO bI (by rw [cI]; exact trivial)
  refine ⟨_, rfl, fun lO iI => ⟨fI, ?_⟩⟩
  clear iE; clear fE aX iF iG; have := bI.size; replace aI := aI.gr bI (fun k hk => by have := aD.ge k hk; omega); replace aJ := aJ.gr bI (fun k hk => by have := aD.ge k hk; omega); replace aK := aK.gr bI (fun e => by have := aD.ge _ e; omega); replace aL := aL.gr bI (fun e => by have := aD.ge _ e; omega)
  replace aF : OwnR iH (Sx (aN.heap.size) [some (aT.heap.size), obk (aV), obk (dE), obk (aC), some (aA)]) aB aQ 3 (g.ow : List Int) := aF.grA bI (fun k hk => hk.2.2.1) (fun k hk hs => ⟨hs.1, hs.2.1, own_repl fG hs.2.2.1 hk, hs.2.2.2.1, hs.2.2.2.2.1, hs.2.2.2.2.2⟩)
  replace aG : OwnR iH (Sx (aN.heap.size) [some (aT.heap.size), obk (aV), obk (dE), obk (aB), some (aA)]) aC aR 3 (g.pr : List Int) := aG.grA bI (fun k hk => hk.2.2.1) (fun k hk hs => ⟨hs.1, hs.2.1, own_repl fG hs.2.2.1 hk, hs.2.2.2.1, hs.2.2.2.2.1, hs.2.2.2.2.2⟩)
  replace aH := aH.gr bI (fun e => by have := aD.ge _ e; omega); replace aP := aP.gr bI (fun k hk => by have := aD.ge k hk; omega); clear aD bI fG
  refine AtH.rd (by kernel_rfl) (fun d v c a w h => by cases d <;> exact h) fI [6] [[]] [(26, .pointer (some ⟨aA, 2, none⟩))] #[true, true, true, true, true, true, true, false] [] 1 iI (by kernel_rfl) trivial (fun lP iJ => ?_)
  clear iI
  refine AtH.all [7] 0 (by kernel_rfl) (by simp) ⟨?_, trivial⟩
  refine OneH.store iJ (t := 23) (b := aA) (off := 2) (v := .slice dE ((xs ++ [gL g.mv (k)]).length) fF) #[true, true, true, true, true, true, true, true] (by kernel_rfl) (by kernel_rfl) aH (by kernel_rfl) (fun lQ jP bJ fJ iK => ?_)
  clear iJ; replace fJ : Bx jP (aA) [.slice aB ((g.ow).length) aQ, .slice aC ((g.pr).length) aR, .slice dE ((xs ++ [gL g.mv (k)]).length) fF] 25 := fJ; have iL := fI.gr' bJ (by rw [cI]; exact trivial); have := bJ.size; replace aI := aI.gr bJ (fun k h => by injection h; omega); replace aJ := aJ.gb bJ (by omega); replace aK := aK.gb bJ (by omega); replace aL := aL.gb bJ (by omega)
  replace aF := aF.gr bJ (fun k hk => hk.2.2.2.2.1); replace aG := aG.gr bJ (fun k hk => hk.2.2.2.2.1); replace aP := aP.gb bJ (by omega); replace fH := fH.gr bJ (fun k hk e => by have := Sx_base hk; injection e; omega); clear aH bJ
  refine ⟨iL, ?_⟩
  refine AtH.done (by kernel_rfl) ?_
  clear iL
  refine b_n ?_
  refine t_n ?_
  have iM := iK.sub (r := [(16, .int .i64 (k)), (15, .int .i64 (((g.mv.length : Nat) : Int))), (14, .slice Ag2 g.mv.length cg2), (3, .pointer (some ⟨aA, 0, none⟩)), (2, .pointer (some ⟨w1.heap.size, 0, none⟩))]) ⟨rfl, rfl, rfl, rfl, rfl, trivial⟩
  clear iK
  refine At.start ?_
  refine At.rd iM 2 [[.as_ (.int .i64 (k + 1))], []] [(16, .int .i64 (k + 1)), (27, .int .i64 (k + 1))] [((.int .i64 (IntKind.i64.wrap (k + 1)) : Value) = .int .i64 (k + 1))] (by kernel_rfl) ⟨(w64 (by omega) (by omega)), trivial⟩ (fun lR jQ => ?_)
  clear iM
  refine At.done rfl ?_
  refine t_n ?_
  have jR := jQ.sub (r := [(16, .int .i64 (k + 1)), (15, .int .i64 (((g.mv.length : Nat) : Int))), (14, .slice Ag2 g.mv.length cg2), (3, .pointer (some ⟨aA, 0, none⟩)), (2, .pointer (some ⟨w1.heap.size, 0, none⟩))]) ⟨rfl, rfl, rfl, rfl, rfl, trivial⟩
  exact ⟨_, (by omega), (k + 1), (xs ++ [gL g.mv (k)] : List (List Int)), dE, fF, rfl, jR, aI, aJ, aK, aL, (aF.imp (fun g _ hs => ⟨hs.2.2.1, hs.2.2.2.1, hs.2.2.2.2.1, hs.2.2.2.2.2⟩)), (aG.imp (fun g _ hs => ⟨hs.2.2.1, hs.2.2.2.1, hs.2.2.2.2.1, hs.2.2.2.2.2⟩)), fJ, fH, (by omega), (by omega), (takeLL_push hxs (by omega) (by omega)), (by omega), (by omega)⟩
 have lS := of_decide_eq_false eN
 refine wp_exit ?_
 refine t_e ?_
 refine t_e ?_
 refine b_e ?_
 refine t_n ?_
 have iN := dA.sub (r := [(3, .pointer (some ⟨aA, 0, none⟩)), (2, .pointer (some ⟨w1.heap.size, 0, none⟩))]) ⟨rfl, rfl, trivial⟩; clear dA
 refine wp_seq ?_
 refine At.start ?_
 refine At.rd iN 1 [[.ld (.slice aB ((g.ow).length) aQ), .ld (.slice aC ((g.pr).length) aR), .ld (.slice aE xs.length aO)]] [(28, .agg #[.slice aB ((g.ow).length) aQ, .slice aC ((g.pr).length) aR, .slice aE xs.length aO])] [(cZ.cell? ⟨aA, 0, none⟩ = some (.slice aB ((g.ow).length) aQ)), (cZ.cell? ⟨aA, 1, none⟩ = some (.slice aC ((g.pr).length) aR)), (cZ.cell? ⟨aA, 2, none⟩ = some (.slice aE xs.length aO))] (by kernel_rfl) ⟨(aH.cell (i := 0) rfl), (aH.cell (i := 1) rfl), (aH.cell (i := 2) rfl), trivial⟩ (fun lT iO => ?_)
 clear iN
 refine At.store iO (t := 25) (b := w1.heap.size) (off := 0) (v := .agg #[.slice aB ((g.ow).length) aQ, .slice aC ((g.pr).length) aR, .slice aE xs.length aO]) (by kernel_rfl) aL (by kernel_rfl) (fun lU dF bX dG iP => ?_)
 clear iO; replace dG : Bx dF (w1.heap.size) [.slice aB ((g.ow).length) aQ, .slice aC ((g.pr).length) aR, .slice aE xs.length aO] 25 := dG; have := bX.size; replace aI := aI.gr bX (fun k h => by injection h; omega); replace aJ := aJ.gb bX (by omega); replace aK := aK.gb bX (by omega); replace aF := aF.gr bX (fun k hk e => by have := Sx_base hk; injection e; omega)
 replace aG := aG.gr bX (fun k hk e => by have := Sx_base hk; injection e; omega); replace aH := aH.gb bX (by omega); have jS := dN.gr bX (fun k hk e => by have := Sx_base hk; injection e; omega); clear dN; clear aL bX
 refine At.done rfl ?_
 refine t_n ?_
 have jT := iP.sub (r := [(2, .pointer (some ⟨w1.heap.size, 0, none⟩))]) ⟨rfl, trivial⟩; clear iP
 refine wp_ret ?_
 refine ret_ jT [[.slice aB ((g.ow).length) aQ, .slice aC ((g.pr).length) aR, .slice aE xs.length aO]] [.agg #[.slice aB ((g.ow).length) aQ, .slice aC ((g.pr).length) aR, .slice aE xs.length aO]] [(dF.cell? ⟨w1.heap.size, 0, none⟩ = some (.slice aB ((g.ow).length) aQ)), (dF.cell? ⟨w1.heap.size, 1, none⟩ = some (.slice aC ((g.pr).length) aR)), (dF.cell? ⟨w1.heap.size, 2, none⟩ = some (.slice aE xs.length aO))] (by kernel_rfl) ⟨(dG.cell (i := 0) rfl), (dG.cell (i := 1) rfl), (dG.cell (i := 2) rfl), trivial⟩ ?_
 have hL_ : OwnLL dF w.heap.size [obk aB, obk aC] aE aO 22 3 xs := (jS.imp (fun g _ hs => ⟨hs.1, hs.2.1, (by have := Sx_base hs; show w.heap.size ≤ g; omega)⟩))
 have hq_ : xs = g.mv := takeLL_end hxs (by omega)
 rw [hq_] at hL_
 exact ⟨aB, aQ, aC, aR, aE, aO, ret_eq (by rw [← hq_]; rfl), aI, (aF.imp (fun g _ hs => ⟨hs.2.1, hs.1, (by have := Sx_base hs; show w.heap.size ≤ g; omega)⟩)), (aG.imp (fun g _ hs => ⟨hs.2.1, hs.1, (by have := Sx_base hs; show w.heap.size ≤ g; omega)⟩)), hL_⟩

end Go.Proofs.YtplpgfcjjnaigaaDoor
