/-
  A walk of a Go function, printed by a program of this repo. Conditions: what the theorems name.
-/
import Derived.Test.YtplpgfcjjnaigaaDoorPureSub
import Derived.Test.YtplpgfcjjnaigaaDoorWSetsP
import Derived.Test.YtplpgfcjjnaigaaDoorLem
import Derived.Test.YtplpgfcjjnaigaaDoorWIsM
import Derived.Test.YtplpgfcjjnaigaaDoorWAttract
set_option linter.unusedVariables false
set_option linter.unusedSimpArgs false
namespace Go.Proofs.YtplpgfcjjnaigaaDoor
open Go Go.RowKit

attribute [local irreducible] ofZ fromW wordsD ofD ofW lsD lenW lenN fullW withW lessW hasW hasD inW inD leastD putD onI tzI orS andS minusS orD andD minusD fullD emptyD
set_option maxHeartbeats 4000000 in
theorem subM_any {Ag0 Ag1 Ag2 : Option Addr} {cg0 cg1 cg2 : Nat} {g : GameL} {s : List Int} {w : World} (rg : RdG w 0 w.heap.size Ag0 Ag1 Ag2 cg0 cg1 cg2 g) (hs : OkW s) (rT : RdT w 0 w.heap.size) :
    Calls Tryd.prog 28 #[.agg #[.slice Ag0 g.ow.length cg0, .slice Ag1 g.pr.length cg1, .slice Ag2 g.mv.length cg2], .agg ((s : List Int).map wV).toArray] w fun e w' => ∃ A0 c0 A1 c1 A2 c2 A3 c3, e = .returned (.tuple #[.agg #[.slice A0 (subG g (inT g s)).ow.length c0, .slice A1 (subG g (inT g s)).pr.length c1, .slice A2 (subG g (inT g s)).mv.length c2], .slice A3 (subO g (inT g s)).length c3, .bool (subB g (inT g s))]) ∧ Ext w w' ∧ OwnR w' (Sx w.heap.size [obk A1, obk A2, obk A3]) A0 c0 3 (subG g (inT g s)).ow ∧ OwnR w' (Sx w.heap.size [obk A0, obk A2, obk A3]) A1 c1 3 (subG g (inT g s)).pr ∧ OwnLL w' w.heap.size [obk A0, obk A1, obk A3] A2 c2 22 3 (subG g (inT g s)).mv ∧ OwnR w' (Sx w.heap.size [obk A0, obk A1, obk A2]) A3 c3 3 (subO g (inT g s)) := by
 have hlg0 := rg.ow.len; have hlg1 := rg.pr.len; have hlg2 := rg.mv.len; have hkg0 := rg.k0; have hkg1 := rg.k1; have hkg2 := rg.k2; have hls := hs.1
 refine enter_ (args := [.agg #[.slice Ag0 g.ow.length cg0, .slice Ag1 g.pr.length cg1, .slice Ag2 g.mv.length cg2], .agg ((s : List Int).map wV).toArray]) Tryd.func28 rfl Tryd.ntmps28 (Nat.le_of_ble_eq_true rfl) (fun act0 f0 => ?_)
 have e0 : Ext w w := Ext.refl w
 refine wp_seq ?_
 refine At.start ?_
 refine At.seq f0 1 [[]] [(2, .pointer (some ⟨w.heap.size, 0, none⟩))] (w.alloc (.cells #[.slice Ag0 g.ow.length cg0, .slice Ag1 g.pr.length cg1, .slice Ag2 g.mv.length cg2] 25 (0, 0))) [] (by kernel_rfl) trivial (fun act4 w1 hw2 f3 => ?_)
 clear f0; have g5 := gr_alloc hw2; have := g5.size; replace e0 := e0.gn g5; have r8 := rg.gn g5; clear rg; have r9 := rT.gn g5; clear rT; have aN : Bx w1 (w.heap.size) [.slice Ag0 g.ow.length cg0, .slice Ag1 g.pr.length cg1, .slice Ag2 g.mv.length cg2] 25 := Bx.new hw2; have := aN.lt; clear g5 hw2
 refine At.seq f3 1 [[]] [(3, .pointer (some ⟨w1.heap.size, 0, none⟩))] (w1.alloc (.cells ((s : List Int).map wV).toArray 44 (0, 0))) [] (by kernel_rfl) trivial (fun pO aH hM jL => ?_)
 clear f3; have fF := gr_alloc hM; have := fF.size; replace e0 := e0.gn fF; replace r8 := r8.gn fF; replace r9 := r9.gn fF; replace aN := aN.gn fF; have bC : Bx aH (w1.heap.size) ((s : List Int).map wV) 44 := Bx.new hM; have := bC.lt; clear fF hM
 refine At.seq jL 1 [[]] [(4, .pointer (some ⟨aH.heap.size, 0, none⟩))] (aH.alloc (.cells #[.slice none 0 0, .slice none 0 0, .slice none 0 0] 25 (0, 0))) [] (by kernel_rfl) trivial (fun pP gE hN jM => ?_)
 clear jL; have eH := gr_alloc hN; have := eH.size; replace e0 := e0.gn eH; replace r8 := r8.gn eH; replace r9 := r9.gn eH; replace aN := aN.gn eH; replace bC := bC.gn eH; have bF : Bx gE (aH.heap.size) [.slice none 0 0, .slice none 0 0, .slice none 0 0] 25 := Bx.new hN; have := bF.lt; clear eH hN
 refine At.rd jM 2 [[], []] [(6, .bool false), (5, .slice none 0 0)] [] (by kernel_rfl) trivial (fun pQ jN => ?_)
 clear jM
 refine At.done rfl ?_
 refine t_n ?_
 refine wp_seq ?_
 refine wp_seq ?_
 refine At.start ?_
 refine At.rd jN 1 [[.ld (.slice Ag0 g.ow.length cg0), .ld (.slice Ag1 g.pr.length cg1), .ld (.slice Ag2 g.mv.length cg2)]] [(17, .agg #[.slice Ag0 g.ow.length cg0, .slice Ag1 g.pr.length cg1, .slice Ag2 g.mv.length cg2])] [(gE.cell? ⟨w.heap.size, 0, none⟩ = some (.slice Ag0 g.ow.length cg0)), (gE.cell? ⟨w.heap.size, 1, none⟩ = some (.slice Ag1 g.pr.length cg1)), (gE.cell? ⟨w.heap.size, 2, none⟩ = some (.slice Ag2 g.mv.length cg2))] (by kernel_rfl) ⟨(aN.cell (i := 0) rfl), (aN.cell (i := 1) rfl), (aN.cell (i := 2) rfl), trivial⟩ (fun pR jO => ?_)
 clear jN
 refine At.call jO 48 #[.agg #[.slice Ag0 g.ow.length cg0, .slice Ag1 g.pr.length cg1, .slice Ag2 g.mv.length cg2]] (some 18) (by kernel_rfl) (isM_any (r8.wide (Nat.zero_le _) (by omega))) ?_
 rintro e_ jP ⟨rfl, he⟩
 refine ⟨_, rfl, _, rfl, fun pS jQ => ?_⟩
 clear jO; have dI := gr_ext he; have := dI.size; replace e0 := e0.gn dI; replace r8 := r8.gn dI; replace r9 := r9.gn dI; replace aN := aN.gn dI; replace bC := bC.gn dI; replace bF := bF.gn dI; clear dI he
 refine At.rd jQ 1 [[]] [(19, .bool (!(isR g)))] [] (by kernel_rfl) trivial (fun pT fG => ?_)
 clear jQ
 refine At.done rfl ?_
 refine t_n ?_
 refine cond_S fG (t := !(isR g)) rfl (fun eI => ?_) (fun eI => ?_)
 ·have pU : (isR g) = false := by first | exact Eq.mp (Bool.not_eq_true' _) eI | exact Eq.mp (Bool.not_eq_false' _) eI | simpa using eI
  refine wp_seq ?_
  refine At.start ?_
  refine At.rd fG 1 [[]] [(20, .agg #[.slice none 0 0, .slice none 0 0, .slice none 0 0])] [] (by kernel_rfl) trivial (fun pV jR => ?_)
  clear fG
  refine At.store jR (t := 25) (b := aH.heap.size) (off := 0) (v := .agg #[.slice none 0 0, .slice none 0 0, .slice none 0 0]) (by kernel_rfl) bF (by kernel_rfl) (fun pW gF eJ fN jS => ?_)
  clear jR; replace fN : Bx gF (aH.heap.size) [.slice none 0 0, .slice none 0 0, .slice none 0 0] 25 := fN; have := eJ.size; replace e0 := e0.gr eJ (fun k h => by injection h; omega); replace r8 := r8.gb eJ (by omega); replace r9 := r9.gb eJ (by omega); replace aN := aN.gb eJ (by omega); replace bC := bC.gb eJ (by omega); clear bF eJ
  refine At.rd jS 2 [[], []] [(6, .bool false), (5, .slice none 0 0)] [] (by kernel_rfl) trivial (fun pX nD => ?_)
  clear jS
  refine At.done rfl ?_
  refine t_n ?_
  clear aN; clear bC
  refine wp_ret ?_
  refine t_r ?_
  refine ret_ nD [[.slice none 0 0, .slice none 0 0, .slice none 0 0]] [.agg #[.slice none 0 0, .slice none 0 0, .slice none 0 0], .slice none 0 0, .bool false] [(gF.cell? ⟨aH.heap.size, 0, none⟩ = some (.slice none 0 0)), (gF.cell? ⟨aH.heap.size, 1, none⟩ = some (.slice none 0 0)), (gF.cell? ⟨aH.heap.size, 2, none⟩ = some (.slice none 0 0))] (by kernel_rfl) ⟨(fN.cell (i := 0) rfl), (fN.cell (i := 1) rfl), (fN.cell (i := 2) rfl), trivial⟩ ?_
  obtain ⟨e1_, e2_, e3_⟩ := sub_no (g := g) (I := inT g s) (by first | exact .inl (by assumption) | exact .inr hbad)
  rw [e1_, e2_, e3_]
  exact ⟨none, 0, none, 0, none, 0, none, 0, rfl, e0, OwnR.nil, OwnR.nil, OwnLL.nil, OwnR.nil⟩
 have pY : (isR g) = true := by first | exact Eq.mp (Bool.not_eq_true' _) eI | exact Eq.mp (Bool.not_eq_false' _) eI | simpa using eI
 refine wp_skip ?_
 refine t_n ?_
 have hR : isR g = true := by assumption
 have hG := isR_ok hR; have hn1 := hG.n1; have hpl := hG.pl; have hml := hG.ml; have hOl := ls_len (inT g s) 256
 refine wp_seq (cut (fun a_ w_ => (Frm 102 a_ [(6, .bool false), (5, .slice none 0 0), (4, .pointer (some ⟨aH.heap.size, 0, none⟩)), (3, .pointer (some ⟨w1.heap.size, 0, none⟩)), (2, .pointer (some ⟨w.heap.size, 0, none⟩))]) ∧ (Ext w w_) ∧ (RdG w_ 0 w.heap.size Ag0 Ag1 Ag2 cg0 cg1 cg2 g) ∧ (RdT w_ 0 w.heap.size) ∧ (Bx w_ (w.heap.size) [.slice Ag0 g.ow.length cg0, .slice Ag1 g.pr.length cg1, .slice Ag2 g.mv.length cg2] 25) ∧ (Bx w_ (w1.heap.size) (((inS g s : List Int) : List Int).map wV) 44) ∧ (Bx w_ (aH.heap.size) [.slice none 0 0, .slice none 0 0, .slice none 0 0] 25) ∧ (jP.heap.size ≤ w_.heap.size)) ?_ ?_)
 ·obtain ⟨hO, gG⟩ : ∃ c : List (Addr × Value), c = [(⟨w.heap.size, 0, none⟩, (.slice Ag0 g.ow.length cg0))] := ⟨_, rfl⟩
  have jT : HoldsC hO jP := by rw [gG]; exact ⟨(aN.cell (i := 0) rfl), trivial⟩
  refine AtH.start hO 7 #[false, false, false, false, false, false, false] (by kernel_rfl) rfl rfl (fun hP jU => ?_)
  have cY := gr_drew jU; have gH := jT.gr cY; have := cY.size; replace e0 := e0.gn cY; replace r8 := r8.gn cY; replace r9 := r9.gn cY; replace aN := aN.gn cY; replace bC := bC.gn cY; replace bF := bF.gn cY; clear cY jU jT
  refine AtH.rd (by kernel_rfl) (fun d v c a w h => by cases d <;> exact h) gH [1, 2, 3] [[], [.ld (.slice Ag0 g.ow.length cg0)], []] [(24, .int .i64 (((g.ow.length : Nat) : Int))), (23, .slice Ag0 g.ow.length cg0), (22, .pointer (some ⟨w.heap.size, 0, none⟩))] #[false, true, true, true, false, false, false] [(∃ j_ : Nat, hO[j_]? = some (⟨w.heap.size, 0, none⟩, (.slice Ag0 g.ow.length cg0)))] 4 fG (by kernel_rfl) ⟨⟨0, by rw [gG]; rfl⟩, trivial⟩ (fun pZ gJ => ?_)
  clear fG
  refine AtH.all [0, 4] 3 (by kernel_rfl) (by simp) ⟨?_, ?_, trivial⟩
  ·refine OneH.seq gJ [[.cs ((s : List Int).map wV)]] [(21, .agg ((s : List Int).map wV).toArray)] hP [(((s : List Int).map wV).length = 4), (∀ (j : Nat) (v : Value), ((s : List Int).map wV)[j]? = some v → hP.cell? ((⟨w1.heap.size, 0, none⟩ : Addr).add j) = some v)] #[true, true, true, true, false, false, false] (by kernel_rfl) (by kernel_rfl) (by kernel_rfl) ⟨((List.length_map _).trans (by assumption)), bC.whole, trivial⟩ (fun qA nE nF jV => ?_)
   obtain rfl : hP = nE := nF.symm
   clear gJ
   refine ⟨gH, ?_⟩
   refine AtH.all [4] 2 (by kernel_rfl) (by simp) ⟨?_, trivial⟩
   refine OneH.call jV 44 #[.int .i64 (((g.ow.length : Nat) : Int))] (some 25) #[true, true, true, true, true, false, false] (by kernel_rfl) (by kernel_rfl) (full_any (n := ((g.ow.length : Nat) : Int)) (by omega)) ?_
   rintro e_ qB ⟨rfl, he⟩
   refine ⟨_, rfl, _, rfl, fun qC jW => ?_⟩
   clear jV; have cZ := gr_ext he; have jX := gH.gr cZ; have := cZ.size; replace e0 := e0.gn cZ; replace r8 := r8.gn cZ; replace r9 := r9.gn cZ; replace aN := aN.gn cZ; replace bC := bC.gn cZ; replace bF := bF.gn cZ; clear cZ he
   refine ⟨jX, ?_⟩
   refine AtH.all [5] 1 (by kernel_rfl) (by simp) ⟨?_, trivial⟩
   refine OneH.call jW 26 #[.agg ((s : List Int).map wV).toArray, .agg ((fullW ((g.ow.length : Nat) : Int) : List Int).map wV).toArray] (some 26) #[true, true, true, true, true, true, false] (by kernel_rfl) (by kernel_rfl) ((andS_any (s := s) (t := fullW ((g.ow.length : Nat) : Int)) (by assumption) (fullW_W _)).mono (R' := fun e w' => e = .returned (.agg (((inS g s : List Int) : List Int).map wV).toArray) ∧ Ext _ w') (fun e_ w_ h_ => by rw [show (andS s (fullW ((g.ow.length : Nat) : Int)) : List Int) = (inS g s : List Int) from rfl] at h_; exact h_)) ?_
   rintro e_ qD ⟨rfl, he⟩
   refine ⟨_, rfl, _, rfl, fun qE jY => ?_⟩
   clear jW; have dA := gr_ext he; have jZ := jX.gr dA; have := dA.size; replace e0 := e0.gn dA; replace r8 := r8.gn dA; replace r9 := r9.gn dA; replace aN := aN.gn dA; replace bC := bC.gn dA; replace bF := bF.gn dA; clear dA he
   refine ⟨jZ, ?_⟩
   refine AtH.all [6] 0 (by kernel_rfl) (by simp) ⟨?_, trivial⟩
   refine OneH.act jY #[true, true, true, true, true, true, true] (by kernel_rfl) (storeBlk (t := 44) (b := w1.heap.size) (n := 4) (cs' := (((inS g s : List Int) : List Int).map wV)) (by kernel_rfl) (by kernel_rfl) ((List.length_map _).trans (okLen (inS_ok (by assumption)))) oneW_ ((show (((inS g s : List Int) : List Int).map wV).length = 4 from ((List.length_map _).trans (okLen (inS_ok (by assumption))))).trans (show ((s : List Int).map wV).length = 4 from ((List.length_map _).trans (by assumption))).symm) bC) ?_
   rintro d_ v_ qF ⟨rfl, dJ, nG⟩
   have kA := jZ.gr' dJ (by rw [gG]; exact ⟨(by simp only [add_block]; omega), trivial⟩)
   refine ⟨_, rfl, fun qG nH => ⟨kA, ?_⟩⟩
   clear jY; have := dJ.size; replace e0 := e0.gr dJ (fun k h => by injection h; omega); replace r8 := r8.gb dJ (by omega); replace r9 := r9.gb dJ (by omega); replace aN := aN.gb dJ (by omega); replace bF := bF.gb dJ (by omega); clear bC dJ
   refine AtH.done (by kernel_rfl) ?_
   clear kA
   refine t_n ?_
   have nI := nH.sub (r := [(6, .bool false), (5, .slice none 0 0), (4, .pointer (some ⟨aH.heap.size, 0, none⟩)), (3, .pointer (some ⟨w1.heap.size, 0, none⟩)), (2, .pointer (some ⟨w.heap.size, 0, none⟩))]) ⟨rfl, rfl, rfl, rfl, rfl, trivial⟩
   exact ⟨nI, e0, r8, r9, aN, nG, bF, (by omega)⟩
  refine OneH.call gJ 44 #[.int .i64 (((g.ow.length : Nat) : Int))] (some 25) #[false, true, true, true, true, false, false] (by kernel_rfl) (by kernel_rfl) (full_any (n := ((g.ow.length : Nat) : Int)) (by omega)) ?_
  rintro e_ hQ ⟨rfl, he⟩
  refine ⟨_, rfl, _, rfl, fun qH kB => ?_⟩
  clear gJ; have dB := gr_ext he; have hS := gH.gr dB; have := dB.size; replace e0 := e0.gn dB; replace r8 := r8.gn dB; replace r9 := r9.gn dB; replace aN := aN.gn dB; replace bC := bC.gn dB; replace bF := bF.gn dB; clear dB he
  refine ⟨hS, ?_⟩
  refine AtH.all [0] 2 (by kernel_rfl) (by simp) ⟨?_, trivial⟩
  refine OneH.seq kB [[.cs ((s : List Int).map wV)]] [(21, .agg ((s : List Int).map wV).toArray)] hQ [(((s : List Int).map wV).length = 4), (∀ (j : Nat) (v : Value), ((s : List Int).map wV)[j]? = some v → hQ.cell? ((⟨w1.heap.size, 0, none⟩ : Addr).add j) = some v)] #[true, true, true, true, true, false, false] (by kernel_rfl) (by kernel_rfl) (by kernel_rfl) ⟨((List.length_map _).trans (by assumption)), bC.whole, trivial⟩ (fun qI nJ nK kC => ?_)
  obtain rfl : hQ = nJ := nK.symm
  clear kB
  refine ⟨hS, ?_⟩
  refine AtH.all [5] 1 (by kernel_rfl) (by simp) ⟨?_, trivial⟩
  refine OneH.call kC 26 #[.agg ((s : List Int).map wV).toArray, .agg ((fullW ((g.ow.length : Nat) : Int) : List Int).map wV).toArray] (some 26) #[true, true, true, true, true, true, false] (by kernel_rfl) (by kernel_rfl) ((andS_any (s := s) (t := fullW ((g.ow.length : Nat) : Int)) (by assumption) (fullW_W _)).mono (R' := fun e w' => e = .returned (.agg (((inS g s : List Int) : List Int).map wV).toArray) ∧ Ext _ w') (fun e_ w_ h_ => by rw [show (andS s (fullW ((g.ow.length : Nat) : Int)) : List Int) = (inS g s : List Int) from rfl] at h_; exact h_)) ?_
  rintro e_ qJ ⟨rfl, he⟩
  refine ⟨_, rfl, _, rfl, fun qK kD => ?_⟩
  clear kC; have dC := gr_ext he; have kE := hS.gr dC; have := dC.size; replace e0 := e0.gn dC; replace r8 := r8.gn dC; replace r9 := r9.gn dC; replace aN := aN.gn dC; replace bC := bC.gn dC; replace bF := bF.gn dC; clear dC he
  refine ⟨kE, ?_⟩
  refine AtH.all [6] 0 (by kernel_rfl) (by simp) ⟨?_, trivial⟩
  refine OneH.act kD #[true, true, true, true, true, true, true] (by kernel_rfl) (storeBlk (t := 44) (b := w1.heap.size) (n := 4) (cs' := (((inS g s : List Int) : List Int).map wV)) (by kernel_rfl) (by kernel_rfl) ((List.length_map _).trans (okLen (inS_ok (by assumption)))) oneW_ ((show (((inS g s : List Int) : List Int).map wV).length = 4 from ((List.length_map _).trans (okLen (inS_ok (by assumption))))).trans (show ((s : List Int).map wV).length = 4 from ((List.length_map _).trans (by assumption))).symm) bC) ?_
  rintro d_ v_ qL ⟨rfl, dK, nL⟩
  have kF := kE.gr' dK (by rw [gG]; exact ⟨(by simp only [add_block]; omega), trivial⟩)
  refine ⟨_, rfl, fun qM nM => ⟨kF, ?_⟩⟩
  clear kD; have := dK.size; replace e0 := e0.gr dK (fun k h => by injection h; omega); replace r8 := r8.gb dK (by omega); replace r9 := r9.gb dK (by omega); replace aN := aN.gb dK (by omega); replace bF := bF.gb dK (by omega); clear bC dK
  refine AtH.done (by kernel_rfl) ?_
  clear kF
  refine t_n ?_
  have nN := nM.sub (r := [(6, .bool false), (5, .slice none 0 0), (4, .pointer (some ⟨aH.heap.size, 0, none⟩)), (3, .pointer (some ⟨w1.heap.size, 0, none⟩)), (2, .pointer (some ⟨w.heap.size, 0, none⟩))]) ⟨rfl, rfl, rfl, rfl, rfl, trivial⟩
  exact ⟨nN, e0, r8, r9, aN, nL, bF, (by omega)⟩
 clear r8; clear r9; clear aN; clear bC; clear bF; clear fG e0
 intro qN aV ⟨kG, eK, fH, eL, eM, dL, eN, qO⟩
 have := eK.size; have := eM.lt; have := dL.lt; have := eN.lt
 refine wp_seq ?_
 refine At.start ?_
 refine At.seq kG 1 [[]] [(7, .pointer (some ⟨aV.heap.size, 0, none⟩))] (aV.alloc (.cells ((List.replicate 256 (0 : Int) : List Int).map iV).toArray 78 (0, 0))) [] (by kernel_rfl) trivial (fun qP bE hT kH => ?_)
 clear kG; have dM := gr_alloc hT; have := dM.size; replace eK := eK.gn dM; replace fH := fH.gn dM; replace eL := eL.gn dM; replace eM := eM.gn dM; replace dL := dL.gn dM; replace eN := eN.gn dM; have fO : Bx bE (aV.heap.size) ((List.replicate 256 (0 : Int) : List Int).map iV) 78 := Bx.new hT; have := fO.lt; clear dM hT
 refine At.done rfl ?_
 refine t_n ?_
 refine wp_seq ?_
 refine At.start ?_
 refine At.rd kH 1 [[.cs (((inS g s : List Int) : List Int).map wV)]] [(27, .agg (((inS g s : List Int) : List Int).map wV).toArray)] [((((inS g s : List Int) : List Int).map wV).length = 4), (∀ (j : Nat) (v : Value), (((inS g s : List Int) : List Int).map wV)[j]? = some v → bE.cell? ((⟨w1.heap.size, 0, none⟩ : Addr).add j) = some v)] (by kernel_rfl) ⟨((List.length_map _).trans (okLen (inS_ok (by assumption)))), dL.whole, trivial⟩ (fun qQ kI => ?_)
 clear kH
 refine At.call kI 43 #[.agg (((inS g s : List Int) : List Int).map wV).toArray] (some 28) (by kernel_rfl) ((list_any (s := (inS g s : List Int)) (inS_ok (by assumption)) (eL.wide (Nat.zero_le _) (by omega))).mono (fun e_ w_ h_ => by rw [show ((lsD (fromW (inS g s : List Int)) 256) : List Int) = (lsD (inT g s) 256 : List Int) from rfl] at h_; exact h_)) ?_
 rintro e_ qR ⟨aA, aF, rfl, he, kJ⟩
 have := ls_len (fromW (inS g s : List Int)) 256
 refine ⟨_, rfl, _, rfl, fun qS kK => ?_⟩
 clear kI; have dD := gr_ext he; have := dD.size; replace eK := eK.gn dD; replace fH := fH.gn dD; replace eL := eL.gn dD; replace eM := eM.gn dD; replace dL := dL.gn dD; replace eN := eN.gn dD; replace fO := fO.gn dD; clear dD he
 refine At.rd kK 1 [[]] [(8, .slice aA ((lsD (inT g s) 256 : List Int).length) aF)] [] (by kernel_rfl) trivial (fun qT kL => ?_)
 clear kK
 refine At.done rfl ?_
 refine t_n ?_
 refine wp_seq ?_
 refine wp_seq ?_
 refine At.start ?_
 refine At.rd kL 3 [[], [], []] [(31, .int .i64 (0)), (30, .int .i64 ((((lsD (inT g s) 256 : List Int).length : Nat) : Int))), (29, .slice aA ((lsD (inT g s) 256 : List Int).length) aF)] [] (by kernel_rfl) trivial (fun qU kM => ?_)
 clear kL
 refine At.done rfl ?_
 refine t_n ?_
 refine wp_block ?_
 have kN := kM.sub (r := [(31, .int .i64 (0)), (30, .int .i64 ((((lsD (inT g s) 256 : List Int).length : Nat) : Int))), (29, .slice aA ((lsD (inT g s) 256 : List Int).length) aF), (8, .slice aA ((lsD (inT g s) 256 : List Int).length) aF), (7, .pointer (some ⟨aV.heap.size, 0, none⟩)), (6, .bool false), (5, .slice none 0 0), (4, .pointer (some ⟨aH.heap.size, 0, none⟩)), (3, .pointer (some ⟨w1.heap.size, 0, none⟩)), (2, .pointer (some ⟨w.heap.size, 0, none⟩))]) ⟨rfl, rfl, rfl, rfl, rfl, rfl, rfl, rfl, rfl, rfl, trivial⟩
 refine loop_g (fun (m_ : Nat) a_ w_ => ∃ (k0 : Int) (nw : List Int), m_ = (((lsD (inT g s) 256).length : Int) - k0).toNat ∧ (Frm 102 a_ [(31, .int .i64 (k0)), (30, .int .i64 ((((lsD (inT g s) 256 : List Int).length : Nat) : Int))), (29, .slice aA ((lsD (inT g s) 256 : List Int).length) aF), (8, .slice aA ((lsD (inT g s) 256 : List Int).length) aF), (7, .pointer (some ⟨aV.heap.size, 0, none⟩)), (6, .bool false), (5, .slice none 0 0), (4, .pointer (some ⟨aH.heap.size, 0, none⟩)), (3, .pointer (some ⟨w1.heap.size, 0, none⟩)), (2, .pointer (some ⟨w.heap.size, 0, none⟩))]) ∧ (Ext w w_) ∧ (RdG w_ 0 w.heap.size Ag0 Ag1 Ag2 cg0 cg1 cg2 g) ∧ (RdT w_ 0 w.heap.size) ∧ (Bx w_ (w.heap.size) [.slice Ag0 g.ow.length cg0, .slice Ag1 g.pr.length cg1, .slice Ag2 g.mv.length cg2] 25) ∧ (Bx w_ (w1.heap.size) (((inS g s : List Int) : List Int).map wV) 44) ∧ (Bx w_ (aH.heap.size) [.slice none 0 0, .slice none 0 0, .slice none 0 0] 25) ∧ (Bx w_ (aV.heap.size) ((nw : List Int).map iV) 78) ∧ (OwnR w_ (Sx (bE.heap.size) []) aA aF 3 ((lsD (inT g s) 256 : List Int) : List Int)) ∧ (0 ≤ k0) ∧ (k0 ≤ ((lsD (inT g s) 256).length : Int)) ∧ (NowT (inT g s) nw k0) ∧ (nw.length = 256) ∧ (bE.heap.size ≤ w_.heap.size)) _ ⟨0, List.replicate 256 (0 : Int), rfl, kN, eK, fH, eL, eM, dL, eN, fO, kJ, (by omega), (by omega), now_0, List.length_replicate, (by omega)⟩ ?_
 clear kN kM; clear fH; clear eL; clear eM; clear dL; clear eN; clear fO; clear kJ; clear eK
 intro m_ qV aD ⟨k0, nw, hm210, kO, dN, eO, eP, dO, dP, dQ, eQ, cO, i219, i220, hnw, i221, i222⟩
 have := dN.size; have := dO.lt; have := dP.lt; have := dQ.lt; have := eQ.lt
 refine wp_seq ?_
 refine At.start ?_
 refine At.rd kO 1 [[]] [(32, .bool (decide ((k0 : Int) < (((lsD (inT g s) 256 : List Int).length : Nat) : Int))))] [] (by kernel_rfl) trivial (fun qW fP => ?_)
 clear kO
 refine At.done rfl ?_
 refine t_n ?_
 refine wp_seq ?_
 refine cond_S fP (t := decide ((k0 : Int) < (((lsD (inT g s) 256 : List Int).length : Nat) : Int))) rfl (fun hU => ?_) (fun hU => ?_)
 ·have qX := of_decide_eq_true hU
  refine wp_skip ?_
  refine t_n ?_
  refine wp_seq ?_
  refine wp_block ?_
  refine wp_seq ?_
  refine At.start ?_
  obtain ⟨gK, nO, qY, nP, qZ⟩ := cO.get (k0) (by omega) (by omega) (sz := 1) rfl
  refine At.rd fP 5 [[], [.ad gK], [.ld (.int .i64 (gI (lsD (inT g s) 256 : List Int) k0))], [], []] [(10, .int .i64 (gI (lsD (inT g s) 256 : List Int) k0)), (9, .int .i64 (k0)), (35, .int .i64 (gI (lsD (inT g s) 256 : List Int) k0)), (34, .pointer (some (gK.add ((k0 : Int).toNat * 1)))), (33, .int .i64 (k0))] [(aA = some gK), (0 ≤ (k0 : Int)), ((k0 : Int) < ((lsD (inT g s) 256 : List Int).length : Nat)), (aD.cell? (gK.add ((k0 : Int).toNat * 1)) = some (.int .i64 (gI (lsD (inT g s) 256 : List Int) k0)))] (by kernel_rfl) ⟨nO, (by omega), (by omega), nP, trivial⟩ (fun rA kP => ?_)
  clear fP
  refine At.done rfl ?_
  refine t_n ?_
  have hir := ls_rng (l := inT g s) (k := k0) (by omega) (by omega); have hi1 := hir.1; have hi2 := hir.2.1
  refine At.start ?_
  refine At.rd kP 3 [[], [], []] [(38, .pointer (some ((⟨aV.heap.size, 0, none⟩ : Addr).add ((gI (lsD (inT g s) 256 : List Int) k0 : Int).toNat * 1)))), (37, .int .i64 (k0)), (36, .int .i64 (gI (lsD (inT g s) 256 : List Int) k0))] [(0 ≤ (gI (lsD (inT g s) 256 : List Int) k0 : Int)), ((gI (lsD (inT g s) 256 : List Int) k0 : Int) < (256 : Nat))] (by kernel_rfl) ⟨(by omega), (by omega), trivial⟩ (fun rB kQ => ?_)
  clear kP
  refine At.act kQ (storeArrM (f := iV) (t := 3) (b := aV.heap.size) (i := gI (lsD (inT g s) 256 : List Int) k0) (x := k0) (v := .int .i64 (k0)) (by kernel_rfl) rfl rfl (by kernel_rfl) eQ (by omega) (by omega)) ?_
  rintro d_ v_ rC ⟨rfl, dE, nQ⟩
  refine ⟨_, rfl, fun rD kR => ?_⟩
  clear kQ; have rE : ((nw).set (gI (lsD (inT g s) 256 : List Int) k0 : Int).toNat k0).length = (nw : List Int).length := List.length_set; have := dE.size; replace dN := dN.gr dE (fun k h => by injection h; omega); replace eO := eO.gb dE (by omega); replace eP := eP.gb dE (by omega); replace dO := dO.gb dE (by omega); replace dP := dP.gb dE (by omega); replace dQ := dQ.gb dE (by omega)
  replace cO := cO.gr dE (fun k hk e => by have := Sx_base hk; injection e; omega); clear eQ dE
  refine At.done rfl ?_
  refine b_n ?_
  refine t_n ?_
  refine At.start ?_
  refine At.rd kR 2 [[.as_ (.int .i64 (k0 + 1))], []] [(31, .int .i64 (k0 + 1)), (39, .int .i64 (k0 + 1))] [((.int .i64 (IntKind.i64.wrap (k0 + 1)) : Value) = .int .i64 (k0 + 1))] (by kernel_rfl) ⟨(w64 (by omega) (by omega)), trivial⟩ (fun rF nR => ?_)
  clear kR
  refine At.done rfl ?_
  refine t_n ?_
  have nS := nR.sub (r := [(31, .int .i64 (k0 + 1)), (30, .int .i64 ((((lsD (inT g s) 256 : List Int).length : Nat) : Int))), (29, .slice aA ((lsD (inT g s) 256 : List Int).length) aF), (8, .slice aA ((lsD (inT g s) 256 : List Int).length) aF), (7, .pointer (some ⟨aV.heap.size, 0, none⟩)), (6, .bool false), (5, .slice none 0 0), (4, .pointer (some ⟨aH.heap.size, 0, none⟩)), (3, .pointer (some ⟨w1.heap.size, 0, none⟩)), (2, .pointer (some ⟨w.heap.size, 0, none⟩))]) ⟨rfl, rfl, rfl, rfl, rfl, rfl, rfl, rfl, rfl, rfl, trivial⟩
  exact ⟨_, (by omega), (k0 + 1), (nw).set (gI (lsD (inT g s) 256 : List Int) k0 : Int).toNat k0, rfl, nS, dN, eO, eP, dO, dP, dQ, nQ, cO, (by omega), (by omega), (now_next hnw (by omega) (by omega)), (by rw [List.length_set]; assumption), (by omega)⟩
 have rG := of_decide_eq_false hU
 refine wp_exit ?_
 refine t_e ?_
 refine t_e ?_
 refine b_e ?_
 refine t_n ?_
 refine wp_seq ?_
 refine At.start ?_
 refine At.seq fP 1 [[]] [(11, .pointer (some ⟨aD.heap.size, 0, none⟩))] (aD.alloc (.cells #[.slice none 0 0, .slice none 0 0, .slice none 0 0] 25 (0, 0))) [] (by kernel_rfl) trivial (fun rH aC hV kS => ?_)
 clear fP; have cV := gr_alloc hV; have := cV.size; replace dN := dN.gn cV; replace eO := eO.gn cV; replace eP := eP.gn cV; replace dO := dO.gn cV; replace dP := dP.gn cV; replace dQ := dQ.gn cV; replace eQ := eQ.gn cV; replace cO := cO.grN cV; have hW : Bx aC (aD.heap.size) [.slice none 0 0, .slice none 0 0, .slice none 0 0] 25 := Bx.new hV; have := hW.lt; clear cV hV
 refine At.done rfl ?_
 refine t_n ?_
 refine wp_seq ?_
 refine wp_seq ?_
 refine At.start ?_
 refine At.rd kS 3 [[], [], []] [(42, .int .i64 (0)), (41, .int .i64 ((((lsD (inT g s) 256 : List Int).length : Nat) : Int))), (40, .slice aA ((lsD (inT g s) 256 : List Int).length) aF)] [] (by kernel_rfl) trivial (fun rI kT => ?_)
 clear kS
 refine At.done rfl ?_
 refine t_n ?_
 refine wp_block ?_
 have fI : OwnR aC (Sx (aC.heap.size) [obk (aA)]) none 0 3 ([] : List Int) := OwnR.nil
 replace cO : OwnR aC (Sx (bE.heap.size) [obk none, some (aD.heap.size)]) aA aF 3 ((lsD (inT g s) 256 : List Int) : List Int) := cO.imp (fun g _ hs => ⟨by simp [obk], hs⟩)
 have gM : OwnR aC (Sx (aC.heap.size) [obk (aA), obk (none)]) none 0 3 ([] : List Int) := OwnR.nil
 replace cO : OwnR aC (Sx (bE.heap.size) [obk none, obk none, some (aD.heap.size)]) aA aF 3 ((lsD (inT g s) 256 : List Int) : List Int) := cO.imp (fun g _ hs => ⟨by simp [obk], hs⟩)
 replace fI : OwnR aC (Sx (aC.heap.size) [obk none, obk (aA)]) none 0 3 ([] : List Int) := fI.imp (fun g _ hs => ⟨by simp [obk], hs⟩); have kU : OwnLL aC (aC.heap.size) [obk (aA), obk (none), obk (none)] none 0 22 3 ([] : List (List Int)) := OwnLL.nil
 replace cO : OwnR aC (Sx (bE.heap.size) [obk none, obk none, obk none, some (aD.heap.size)]) aA aF 3 ((lsD (inT g s) 256 : List Int) : List Int) := cO.imp (fun g _ hs => ⟨by simp [obk], hs⟩)
 replace fI : OwnR aC (Sx (aC.heap.size) [obk none, obk none, obk (aA)]) none 0 3 ([] : List Int) := fI.imp (fun g _ hs => ⟨by simp [obk], hs⟩); replace gM : OwnR aC (Sx (aC.heap.size) [obk none, obk (aA), obk (none)]) none 0 3 ([] : List Int) := gM.imp (fun g _ hs => ⟨by simp [obk], hs⟩)
 have kV := kT.sub (r := [(42, .int .i64 (0)), (41, .int .i64 ((((lsD (inT g s) 256 : List Int).length : Nat) : Int))), (40, .slice aA ((lsD (inT g s) 256 : List Int).length) aF), (11, .pointer (some ⟨aD.heap.size, 0, none⟩)), (8, .slice aA ((lsD (inT g s) 256 : List Int).length) aF), (7, .pointer (some ⟨aV.heap.size, 0, none⟩)), (4, .pointer (some ⟨aH.heap.size, 0, none⟩)), (3, .pointer (some ⟨w1.heap.size, 0, none⟩)), (2, .pointer (some ⟨w.heap.size, 0, none⟩))]) ⟨rfl, rfl, rfl, rfl, rfl, rfl, rfl, rfl, rfl, trivial⟩
 refine loop_g (fun (m_ : Nat) a_ w_ => ∃ (k : Int) (xo : List Int) (aK : Option Addr) (bG : Nat) (xp : List Int) (aG : Option Addr) (aW : Nat) (xm : List (List Int)) (aB : Option Addr) (aL : Nat), m_ = (((lsD (inT g s) 256).length : Int) - k).toNat ∧ (Frm 102 a_ [(42, .int .i64 (k)), (41, .int .i64 ((((lsD (inT g s) 256 : List Int).length : Nat) : Int))), (40, .slice aA ((lsD (inT g s) 256 : List Int).length) aF), (11, .pointer (some ⟨aD.heap.size, 0, none⟩)), (8, .slice aA ((lsD (inT g s) 256 : List Int).length) aF), (7, .pointer (some ⟨aV.heap.size, 0, none⟩)), (4, .pointer (some ⟨aH.heap.size, 0, none⟩)), (3, .pointer (some ⟨w1.heap.size, 0, none⟩)), (2, .pointer (some ⟨w.heap.size, 0, none⟩))]) ∧ (Ext w w_) ∧ (RdG w_ 0 w.heap.size Ag0 Ag1 Ag2 cg0 cg1 cg2 g) ∧ (RdT w_ 0 w.heap.size) ∧ (Bx w_ (w.heap.size) [.slice Ag0 g.ow.length cg0, .slice Ag1 g.pr.length cg1, .slice Ag2 g.mv.length cg2] 25) ∧ (Bx w_ (w1.heap.size) (((inS g s : List Int) : List Int).map wV) 44) ∧ (Bx w_ (aH.heap.size) [.slice none 0 0, .slice none 0 0, .slice none 0 0] 25) ∧ (Bx w_ (aV.heap.size) ((nw : List Int).map iV) 78) ∧ (OwnR w_ (Sx (bE.heap.size) [obk (aB), obk (aG), obk (aK), some (aD.heap.size)]) aA aF 3 ((lsD (inT g s) 256 : List Int) : List Int)) ∧ (Bx w_ (aD.heap.size) [.slice aK xo.length bG, .slice aG xp.length aW, .slice aB xm.length aL] 25) ∧ (OwnR w_ (Sx (aC.heap.size) [obk (aB), obk (aG), obk (aA)]) aK bG 3 (xo : List Int)) ∧ (OwnR w_ (Sx (aC.heap.size) [obk (aB), obk (aA), obk (aK)]) aG aW 3 (xp : List Int)) ∧ (OwnLL w_ (aC.heap.size) [obk (aA), obk (aK), obk (aG)] aB aL 22 3 (xm : List (List Int))) ∧ (0 ≤ k) ∧ (k ≤ ((lsD (inT g s) 256).length : Int)) ∧ (xo = ((lsD (inT g s) 256).take k.toNat).map (gI g.ow)) ∧ (xp = ((lsD (inT g s) 256).take k.toNat).map (gI g.pr)) ∧ (xm = ((lsD (inT g s) 256).take k.toNat).map (subR g (inT g s))) ∧ (GoneT g (inT g s) k) ∧ (bE.heap.size ≤ w_.heap.size) ∧ (aC.heap.size ≤ w_.heap.size)) _ ⟨0, ([] : List Int), none, 0, ([] : List Int), none, 0, ([] : List (List Int)), none, 0, rfl, kV, dN, eO, eP, dO, dP, dQ, eQ, cO, (hW.as (by first | rfl | (simp only [List.cons.injEq, Value.slice.injEq, true_and, and_true]; omega))), fI, gM, kU, (by omega), (by omega), rfl, rfl, rfl, (fun j a b => by omega), (by omega), (by omega)⟩ ?_
 clear kV kT; clear eO; clear eP; clear dO; clear dP; clear dQ; clear eQ; clear cO; clear hW; clear fI; clear gM; clear kU; clear dN
 intro m_ rJ bB ⟨k, xo, aK, bG, xp, aG, aW, xm, aB, aL, hm292, kW, fJ, fQ, gN, fR, gO, fS, gP, dR, dF, eR, eS, gQ, i305, i306, hxo, hxp, hxm, hgo, i307, i308⟩
 have := fJ.size; have := fR.lt; have := gO.lt; have := fS.lt; have := gP.lt; have := dF.lt
 refine wp_seq ?_
 refine At.start ?_
 refine At.rd kW 1 [[]] [(43, .bool (decide ((k : Int) < (((lsD (inT g s) 256 : List Int).length : Nat) : Int))))] [] (by kernel_rfl) trivial (fun rK fT => ?_)
 clear kW
 refine At.done rfl ?_
 refine t_n ?_
 refine wp_seq ?_
 refine cond_S fT (t := decide ((k : Int) < (((lsD (inT g s) 256 : List Int).length : Nat) : Int))) rfl (fun hX => ?_) (fun hX => ?_)
 ·have rL := of_decide_eq_true hX
  refine wp_skip ?_
  refine t_n ?_
  refine wp_seq ?_
  refine wp_block ?_
  refine wp_seq ?_
  refine At.start ?_
  obtain ⟨gR, nT, rM, nU, rN⟩ := dR.get (k) (by omega) (by omega) (sz := 1) rfl
  refine At.rd fT 3 [[.ad gR], [.ld (.int .i64 (gI (lsD (inT g s) 256 : List Int) k))], []] [(13, .int .i64 (gI (lsD (inT g s) 256 : List Int) k)), (45, .int .i64 (gI (lsD (inT g s) 256 : List Int) k)), (44, .pointer (some (gR.add ((k : Int).toNat * 1))))] [(aA = some gR), (0 ≤ (k : Int)), ((k : Int) < ((lsD (inT g s) 256 : List Int).length : Nat)), (bB.cell? (gR.add ((k : Int).toNat * 1)) = some (.int .i64 (gI (lsD (inT g s) 256 : List Int) k)))] (by kernel_rfl) ⟨nT, (by omega), (by omega), nU, trivial⟩ (fun rO kX => ?_)
  clear fT
  refine At.done rfl ?_
  refine t_n ?_
  refine wp_seq ?_
  have hir := ls_rng (l := inT g s) (k := k) (by omega) (by omega); have hi1 := hir.1; have hi2 := inT_lt _ hi1 hir.2.1 hir.2.2; have hrl := row_len hG hi1 hi2
  refine At.start ?_
  refine At.rd kX 1 [[]] [(14, .slice none 0 0)] [] (by kernel_rfl) trivial (fun rP kY => ?_)
  clear kX
  refine At.done rfl ?_
  refine t_n ?_
  refine wp_seq ?_
  refine wp_seq ?_
  refine At.start ?_
  obtain ⟨gS, dG, eT, nV, _, _, nW, rQ, hY⟩ := RdII.get fQ.mv (gI (lsD (inT g s) 256 : List Int) k) (by omega) (by omega)
  have rR := hY.len
  refine At.rd kY 7 [[], [.ld (.slice Ag2 g.mv.length cg2)], [], [.ad gS], [.ld (.slice dG ((gL g.mv (gI (lsD (inT g s) 256 : List Int) k)).length) eT)], [], []] [(52, .int .i64 (0)), (51, .int .i64 ((((gL g.mv (gI (lsD (inT g s) 256 : List Int) k)).length : Nat) : Int))), (50, .slice dG ((gL g.mv (gI (lsD (inT g s) 256 : List Int) k)).length) eT), (49, .pointer (some (gS.add ((gI (lsD (inT g s) 256 : List Int) k : Int).toNat * 1)))), (48, .int .i64 (gI (lsD (inT g s) 256 : List Int) k)), (47, .slice Ag2 g.mv.length cg2), (46, .pointer (some ⟨w.heap.size, 2, none⟩))] [(bB.cell? ⟨w.heap.size, 2, none⟩ = some (.slice Ag2 g.mv.length cg2)), (Ag2 = some gS), (0 ≤ (gI (lsD (inT g s) 256 : List Int) k : Int)), ((gI (lsD (inT g s) 256 : List Int) k : Int) < (g.mv.length : Nat)), (bB.cell? (gS.add ((gI (lsD (inT g s) 256 : List Int) k : Int).toNat * 1)) = some (.slice dG ((gL g.mv (gI (lsD (inT g s) 256 : List Int) k)).length) eT))] (by kernel_rfl) ⟨(fR.cell (i := 2) rfl), nV, (by omega), (by omega), nW, trivial⟩ (fun rS kZ => ?_)
  clear kY
  refine At.done rfl ?_
  refine t_n ?_
  refine wp_block ?_
  have lA : OwnR bB (Sx (bB.heap.size) [obk (aA), obk (aK), obk (aG), obk (aB)]) none 0 3 ([] : List Int) := OwnR.nil
  replace dR : OwnR bB (Sx (bE.heap.size) [obk none, obk (aB), obk (aG), obk (aK), some (aD.heap.size)]) aA aF 3 ((lsD (inT g s) 256 : List Int) : List Int) := dR.imp (fun g _ hs => ⟨by simp [obk], hs⟩)
  replace eR : OwnR bB (Sx (aC.heap.size) [obk none, obk (aB), obk (aG), obk (aA)]) aK bG 3 (xo : List Int) := eR.imp (fun g _ hs => ⟨by simp [obk], hs⟩); replace eS : OwnR bB (Sx (aC.heap.size) [obk none, obk (aB), obk (aA), obk (aK)]) aG aW 3 (xp : List Int) := eS.imp (fun g _ hs => ⟨by simp [obk], hs⟩)
  have lB : OwnLL bB (aC.heap.size) [obk none, obk (aA), obk (aK), obk (aG)] aB aL 22 3 (xm : List (List Int)) := gQ.imp (fun g _ hs => ⟨by simp [obk], hs⟩); clear gQ; have lC := kZ.as 14 (.slice none 0 0) (.slice none (([] : List Int).length) 0) rfl (slice_len (by first | rfl | omega | (simp; done) | (simp; omega))); clear kZ
  have lD := lC.sub (r := [(14, .slice none (([] : List Int).length) 0), (52, .int .i64 (0)), (51, .int .i64 ((((gL g.mv (gI (lsD (inT g s) 256 : List Int) k)).length : Nat) : Int))), (50, .slice dG ((gL g.mv (gI (lsD (inT g s) 256 : List Int) k)).length) eT), (13, .int .i64 (gI (lsD (inT g s) 256 : List Int) k)), (42, .int .i64 (k)), (41, .int .i64 ((((lsD (inT g s) 256 : List Int).length : Nat) : Int))), (40, .slice aA ((lsD (inT g s) 256 : List Int).length) aF), (11, .pointer (some ⟨aD.heap.size, 0, none⟩)), (8, .slice aA ((lsD (inT g s) 256 : List Int).length) aF), (7, .pointer (some ⟨aV.heap.size, 0, none⟩)), (4, .pointer (some ⟨aH.heap.size, 0, none⟩)), (3, .pointer (some ⟨w1.heap.size, 0, none⟩)), (2, .pointer (some ⟨w.heap.size, 0, none⟩))]) ⟨rfl, rfl, rfl, rfl, rfl, rfl, rfl, rfl, rfl, rfl, rfl, rfl, rfl, rfl, trivial⟩
  refine loop_g (fun (m_ : Nat) a_ w_ => ∃ (q : Int) (xl : List Int) (aE : Option Addr) (bD : Nat), m_ = (((gL g.mv (gI (lsD (inT g s) 256) k)).length : Int) - q).toNat ∧ (Frm 102 a_ [(14, .slice aE xl.length bD), (52, .int .i64 (q)), (51, .int .i64 ((((gL g.mv (gI (lsD (inT g s) 256 : List Int) k)).length : Nat) : Int))), (50, .slice dG ((gL g.mv (gI (lsD (inT g s) 256 : List Int) k)).length) eT), (13, .int .i64 (gI (lsD (inT g s) 256 : List Int) k)), (42, .int .i64 (k)), (41, .int .i64 ((((lsD (inT g s) 256 : List Int).length : Nat) : Int))), (40, .slice aA ((lsD (inT g s) 256 : List Int).length) aF), (11, .pointer (some ⟨aD.heap.size, 0, none⟩)), (8, .slice aA ((lsD (inT g s) 256 : List Int).length) aF), (7, .pointer (some ⟨aV.heap.size, 0, none⟩)), (4, .pointer (some ⟨aH.heap.size, 0, none⟩)), (3, .pointer (some ⟨w1.heap.size, 0, none⟩)), (2, .pointer (some ⟨w.heap.size, 0, none⟩))]) ∧ (Ext w w_) ∧ (RdG w_ 0 w.heap.size Ag0 Ag1 Ag2 cg0 cg1 cg2 g) ∧ (RdT w_ 0 w.heap.size) ∧ (Bx w_ (w.heap.size) [.slice Ag0 g.ow.length cg0, .slice Ag1 g.pr.length cg1, .slice Ag2 g.mv.length cg2] 25) ∧ (Bx w_ (w1.heap.size) (((inS g s : List Int) : List Int).map wV) 44) ∧ (Bx w_ (aH.heap.size) [.slice none 0 0, .slice none 0 0, .slice none 0 0] 25) ∧ (Bx w_ (aV.heap.size) ((nw : List Int).map iV) 78) ∧ (OwnR w_ (Sx (bE.heap.size) [obk (aE), obk (aB), obk (aG), obk (aK), some (aD.heap.size)]) aA aF 3 ((lsD (inT g s) 256 : List Int) : List Int)) ∧ (Bx w_ (aD.heap.size) [.slice aK xo.length bG, .slice aG xp.length aW, .slice aB xm.length aL] 25) ∧ (OwnR w_ (Sx (aC.heap.size) [obk (aE), obk (aB), obk (aG), obk (aA)]) aK bG 3 (xo : List Int)) ∧ (OwnR w_ (Sx (aC.heap.size) [obk (aE), obk (aB), obk (aA), obk (aK)]) aG aW 3 (xp : List Int)) ∧ (OwnLL w_ (aC.heap.size) [obk (aE), obk (aA), obk (aK), obk (aG)] aB aL 22 3 (xm : List (List Int))) ∧ (RdI w_ 0 w.heap.size dG (gL g.mv (gI (lsD (inT g s) 256 : List Int) k))) ∧ (OwnR w_ (Sx (bB.heap.size) [obk (aA), obk (aK), obk (aG), obk (aB)]) aE bD 3 (xl : List Int)) ∧ (0 ≤ q) ∧ (q ≤ ((gL g.mv (gI (lsD (inT g s) 256) k)).length : Int)) ∧ (xl = (((gL g.mv (gI (lsD (inT g s) 256) k)).take q.toNat).filter (fun m => gB (inT g s) m)).map (posI (inT g s))) ∧ (bE.heap.size ≤ w_.heap.size) ∧ (aC.heap.size ≤ w_.heap.size) ∧ (bB.heap.size ≤ w_.heap.size)) _ ⟨0, ([] : List Int), none, 0, rfl, lD, fJ, fQ, gN, fR, gO, fS, gP, dR, dF, eR, eS, lB, hY, lA, (by omega), (Int.natCast_nonneg _), row_0, (by omega), (by omega), (by omega)⟩ ?_
  clear lD lC; clear fQ; clear gN; clear fR; clear gO; clear fS; clear gP; clear dR; clear dF; clear eR; clear eS; clear lB; clear hY; clear lA; clear fJ
  intro m_ rU gT ⟨q, xl, aE, bD, hm346, lE, aR, aX, bA, aS, aT, aY, aU, aP, aZ, aI, aQ, eU, cW, aJ, i361, i362, hxl, i363, i364, i365⟩
  have := aR.size; have := aS.lt; have := aT.lt; have := aY.lt; have := aU.lt; have := aZ.lt
  refine wp_seq ?_
  refine At.start ?_
  refine At.rd lE 1 [[]] [(53, .bool (decide ((q : Int) < (((gL g.mv (gI (lsD (inT g s) 256 : List Int) k)).length : Nat) : Int))))] [] (by kernel_rfl) trivial (fun rV fU => ?_)
  clear lE
  refine At.done rfl ?_
  refine t_n ?_
  refine wp_seq ?_
  refine cond_S fU (t := decide ((q : Int) < (((gL g.mv (gI (lsD (inT g s) 256 : List Int) k)).length : Nat) : Int))) rfl (fun hZ => ?_) (fun hZ => ?_)
  ·have rW := of_decide_eq_true hZ
   refine wp_skip ?_
   refine t_n ?_
   refine wp_seq ?_
   refine wp_block ?_
   refine wp_seq ?_
   refine At.start ?_
   obtain ⟨gU, nX, _, _, nY⟩ := RdI.get cW (q) (by omega) (by omega)
   refine At.rd fU 3 [[.ad gU], [.ld (.int .i64 (gI (gL g.mv (gI (lsD (inT g s) 256 : List Int) k)) (q)))], []] [(16, .int .i64 (gI (gL g.mv (gI (lsD (inT g s) 256 : List Int) k)) (q))), (55, .int .i64 (gI (gL g.mv (gI (lsD (inT g s) 256 : List Int) k)) (q))), (54, .pointer (some (gU.add ((q : Int).toNat * 1))))] [(dG = some gU), (0 ≤ (q : Int)), ((q : Int) < ((gL g.mv (gI (lsD (inT g s) 256 : List Int) k)).length : Nat)), (gT.cell? (gU.add ((q : Int).toNat * 1)) = some (.int .i64 (gI (gL g.mv (gI (lsD (inT g s) 256 : List Int) k)) (q))))] (by kernel_rfl) ⟨nX, (by omega), (by omega), nY, trivial⟩ (fun rX lF => ?_)
   clear fU
   refine At.done rfl ?_
   refine t_n ?_
   refine wp_seq ?_
   have hmk := hG.mv (gI (lsD (inT g s) 256) k) hi1 hi2 q (by omega) (by omega); have hxll := row_lenS hxl (by omega)
   refine At.start ?_
   refine At.rd lF 2 [[.cs (((inS g s : List Int) : List Int).map wV)], []] [(57, .int .i64 (gI (gL g.mv (gI (lsD (inT g s) 256 : List Int) k)) (q))), (56, .agg (((inS g s : List Int) : List Int).map wV).toArray)] [((((inS g s : List Int) : List Int).map wV).length = 4), (∀ (j : Nat) (v : Value), (((inS g s : List Int) : List Int).map wV)[j]? = some v → gT.cell? ((⟨w1.heap.size, 0, none⟩ : Addr).add j) = some v)] (by kernel_rfl) ⟨((List.length_map _).trans (okLen (inS_ok (by assumption)))), aT.whole, trivial⟩ (fun rY lG => ?_)
   clear lF
   refine At.call lG 23 #[.agg (((inS g s : List Int) : List Int).map wV).toArray, .int .i64 (gI (gL g.mv (gI (lsD (inT g s) 256 : List Int) k)) (q))] (some 58) (by kernel_rfl) (has_any (s := (inS g s : List Int)) (n := gI (gL g.mv (gI (lsD (inT g s) 256 : List Int) k)) (q)) (inS_ok (by assumption))) ?_
   rintro e_ dS ⟨rfl, he⟩
   refine ⟨_, rfl, _, rfl, fun rZ fV => ?_⟩
   clear lG; have bV := gr_ext he; have := bV.size; replace aR := aR.gn bV; replace aX := aX.gn bV; replace bA := bA.gn bV; replace aS := aS.gn bV; replace aT := aT.gn bV; replace aY := aY.gn bV; replace aU := aU.gn bV; replace aP := aP.gn bV; replace aZ := aZ.gn bV; replace aI := aI.gn bV; replace aQ := aQ.gn bV; have eV := eU.gn bV; clear eU; replace cW := cW.gn bV; replace aJ := aJ.gn bV
   clear bV he
   refine At.done rfl ?_
   refine t_n ?_
   refine cond_S fV (t := hasW (inS g s : List Int) (gI (gL g.mv (gI (lsD (inT g s) 256 : List Int) k)) (q))) rfl (fun nZ => ?_) (fun nZ => ?_)
   ·refine At.start ?_
    refine At.rd fV 4 [[], [], [], [.ld (.int .i64 (gI nw (gI (gL g.mv (gI (lsD (inT g s) 256 : List Int) k)) (q))))]] [(62, .int .i64 (gI nw (gI (gL g.mv (gI (lsD (inT g s) 256 : List Int) k)) (q)))), (61, .pointer (some ((⟨aV.heap.size, 0, none⟩ : Addr).add ((gI (gL g.mv (gI (lsD (inT g s) 256 : List Int) k)) (q) : Int).toNat * 1)))), (60, .int .i64 (gI (gL g.mv (gI (lsD (inT g s) 256 : List Int) k)) (q))), (59, .slice aE xl.length bD)] [(0 ≤ (gI (gL g.mv (gI (lsD (inT g s) 256 : List Int) k)) (q) : Int)), ((gI (gL g.mv (gI (lsD (inT g s) 256 : List Int) k)) (q) : Int) < (256 : Nat)), (dS.cell? ((⟨aV.heap.size, 0, none⟩ : Addr).add ((gI (gL g.mv (gI (lsD (inT g s) 256 : List Int) k)) (q) : Int).toNat * 1)) = some (.int .i64 (gI nw (gI (gL g.mv (gI (lsD (inT g s) 256 : List Int) k)) (q)))))] (by kernel_rfl) ⟨(by omega), (by omega), (Bx.arrM (f := iV) (0 : Int) aU (gI (gL g.mv (gI (lsD (inT g s) 256 : List Int) k)) (q)) (by omega) (by omega)), trivial⟩ (fun sA lH => ?_)
    clear fV
    refine At.seq lH 1 [[]] [(63, .slice (some ⟨dS.heap.size, 0, none⟩) 1 1)] (dS.alloc (.cells #[.int .i64 (gI nw (gI (gL g.mv (gI (lsD (inT g s) 256 : List Int) k)) (q)))] 3 (0, 0))) [] (by kernel_rfl) trivial (fun sB lI iA lJ => ?_)
    clear lH; have bW := gr_alloc iA; have := bW.size; replace aR := aR.gn bW; replace aX := aX.gn bW; replace bA := bA.gn bW; replace aS := aS.gn bW; replace aT := aT.gn bW; replace aY := aY.gn bW; replace aU := aU.gn bW; replace aP := aP.grN bW; replace aZ := aZ.gn bW; replace aI := aI.grN bW; replace aQ := aQ.grN bW; replace eV := eV.grN bW; replace cW := cW.gn bW; replace aJ := aJ.grN bW
    have iB : Bx lI (dS.heap.size) [.int .i64 (gI nw (gI (gL g.mv (gI (lsD (inT g s) 256 : List Int) k)) (q)))] 3 := Bx.new iA; have := iB.lt; clear bW iA
    have oA : (xl ++ ([gI nw (gI (gL g.mv (gI (lsD (inT g s) 256 : List Int) k)) (q))])).length = (xl).length + ([gI nw (gI (gL g.mv (gI (lsD (inT g s) 256 : List Int) k)) (q))] : List Int).length := List.length_append
    simp only [List.length_cons, List.length_nil] at oA
    refine At.act lJ (appendR (α := Int) (t := 22) (d := 64) (n := xl.length) (m := 1) (cc := 1) (xs := xl) (ys := [gI nw (gI (gL g.mv (gI (lsD (inT g s) 256 : List Int) k)) (q))]) (bytes := 8) (by first | rfl | omega | (simp; done) | (simp; omega)) (by first | rfl | omega | (simp; done) | (simp; omega)) (by kernel_rfl) rfl (by kernel_rfl) aJ (Bx.srcR (l := ([gI nw (gI (gL g.mv (gI (lsD (inT g s) 256 : List Int) k)) (q))] : List Int)) iB rfl) (by simp only [List.length_cons, List.length_nil]; omega) (by simp only [List.length_cons, List.length_nil]; omega)) ?_
    rintro d_ v_ gV ⟨rfl, dH, fW, dT⟩
    obtain rfl := dT.val
    have cE := dT.gr
    refine ⟨_, rfl, fun sC lK => ?_⟩
    clear lJ; clear iB
    have oB := dT.own (Sx (bB.heap.size) [obk (aA), obk (aK), obk (aG), obk (aB)]) (fun g _ hs => ⟨hs.2.1, hs.2.2.1, hs.2.2.2.1, hs.2.2.2.2.1, hs.2.2.2.2.2⟩) ⟨aP.ne_new, aI.ne_new, aQ.ne_new, eV.ne_new, (show bB.heap.size ≤ lI.heap.size by omega)⟩
    have := cE.size; replace aR := aR.gr cE (fun k hk => by have := aJ.ge k hk; omega); replace aX := aX.gr cE (fun k hk => by have := aJ.ge k hk; omega); replace bA := bA.gr cE (fun k hk => by have := aJ.ge k hk; omega); replace aS := aS.gr cE (fun e => by have := aJ.ge _ e; omega); replace aT := aT.gr cE (fun e => by have := aJ.ge _ e; omega)
    replace aY := aY.gr cE (fun e => by have := aJ.ge _ e; omega); replace aU := aU.gr cE (fun e => by have := aJ.ge _ e; omega)
    replace aP : OwnR gV (Sx (bE.heap.size) [some (dS.heap.size), obk (dH), obk (aB), obk (aG), obk (aK), some (aD.heap.size)]) aA aF 3 ((lsD (inT g s) 256 : List Int) : List Int) := aP.grA cE (fun k hk => hk.2.1) (fun k hk hs => ⟨hs.1, own_repl dT.at_ hs.2.1 hk, hs.2.2.1, hs.2.2.2.1, hs.2.2.2.2.1, hs.2.2.2.2.2.1, hs.2.2.2.2.2.2⟩)
    replace aZ := aZ.gr cE (fun e => by have := aJ.ge _ e; omega)
    replace aI : OwnR gV (Sx (aC.heap.size) [some (dS.heap.size), obk (dH), obk (aB), obk (aG), obk (aA)]) aK bG 3 (xo : List Int) := aI.grA cE (fun k hk => hk.2.1) (fun k hk hs => ⟨hs.1, own_repl dT.at_ hs.2.1 hk, hs.2.2.1, hs.2.2.2.1, hs.2.2.2.2.1, hs.2.2.2.2.2⟩)
    replace aQ : OwnR gV (Sx (aC.heap.size) [some (dS.heap.size), obk (dH), obk (aB), obk (aA), obk (aK)]) aG aW 3 (xp : List Int) := aQ.grA cE (fun k hk => hk.2.1) (fun k hk hs => ⟨hs.1, own_repl dT.at_ hs.2.1 hk, hs.2.2.1, hs.2.2.2.1, hs.2.2.2.2.1, hs.2.2.2.2.2⟩)
    replace eV : OwnLL gV (aC.heap.size) [some (dS.heap.size), obk (dH), obk (aA), obk (aK), obk (aG)] aB aL 22 3 (xm : List (List Int)) := eV.grA cE (fun k hk => hk.2.1) (fun k hk hs => ⟨hs.1, own_repl dT.at_ hs.2.1 hk, hs.2.2.1, hs.2.2.2.1, hs.2.2.2.2.1, hs.2.2.2.2.2⟩)
    replace cW := cW.gr cE (fun k hk => by have := aJ.ge k hk; omega); clear aJ cE dT
    refine At.rd lK 1 [[]] [(14, .slice dH ((xl ++ ([gI nw (gI (gL g.mv (gI (lsD (inT g s) 256 : List Int) k)) (q))])).length) fW)] [] (by kernel_rfl) trivial (fun sD lL => ?_)
    clear lK
    refine At.done rfl ?_
    refine b_n ?_
    refine t_n ?_
    refine At.start ?_
    refine At.rd lL 2 [[.as_ (.int .i64 (q + 1))], []] [(52, .int .i64 (q + 1)), (65, .int .i64 (q + 1))] [((.int .i64 (IntKind.i64.wrap (q + 1)) : Value) = .int .i64 (q + 1))] (by kernel_rfl) ⟨(w64 (by omega) (by omega)), trivial⟩ (fun sE lM => ?_)
    clear lL
    refine At.done rfl ?_
    refine t_n ?_
    have oC := lM.as 14 (.slice dH ((xl ++ ([gI nw (gI (gL g.mv (gI (lsD (inT g s) 256 : List Int) k)) (q))])).length) fW) (.slice dH ((xl ++ ([gI nw (gI (gL g.mv (gI (lsD (inT g s) 256 : List Int) k)) (q))]) : List Int).length) fW) rfl (slice_len (by first | rfl | omega | (simp; done) | (simp; omega)))
    clear lM
    have oD := oC.sub (r := [(14, .slice dH ((xl ++ ([gI nw (gI (gL g.mv (gI (lsD (inT g s) 256 : List Int) k)) (q))]) : List Int).length) fW), (52, .int .i64 (q + 1)), (51, .int .i64 ((((gL g.mv (gI (lsD (inT g s) 256 : List Int) k)).length : Nat) : Int))), (50, .slice dG ((gL g.mv (gI (lsD (inT g s) 256 : List Int) k)).length) eT), (13, .int .i64 (gI (lsD (inT g s) 256 : List Int) k)), (42, .int .i64 (k)), (41, .int .i64 ((((lsD (inT g s) 256 : List Int).length : Nat) : Int))), (40, .slice aA ((lsD (inT g s) 256 : List Int).length) aF), (11, .pointer (some ⟨aD.heap.size, 0, none⟩)), (8, .slice aA ((lsD (inT g s) 256 : List Int).length) aF), (7, .pointer (some ⟨aV.heap.size, 0, none⟩)), (4, .pointer (some ⟨aH.heap.size, 0, none⟩)), (3, .pointer (some ⟨w1.heap.size, 0, none⟩)), (2, .pointer (some ⟨w.heap.size, 0, none⟩))]) ⟨rfl, rfl, rfl, rfl, rfl, rfl, rfl, rfl, rfl, rfl, rfl, rfl, rfl, rfl, trivial⟩
    exact ⟨_, (by omega), (q + 1), (xl ++ ([gI nw (gI (gL g.mv (gI (lsD (inT g s) 256 : List Int) k)) (q))]) : List Int), dH, fW, rfl, oD, aR, aX, bA, aS, aT, aY, aU, (aP.imp (fun g _ hs => ⟨hs.2.1, hs.2.2.1, hs.2.2.2.1, hs.2.2.2.2.1, hs.2.2.2.2.2.1, hs.2.2.2.2.2.2⟩)), aZ, (aI.imp (fun g _ hs => ⟨hs.2.1, hs.2.2.1, hs.2.2.2.1, hs.2.2.2.2.1, hs.2.2.2.2.2⟩)), (aQ.imp (fun g _ hs => ⟨hs.2.1, hs.2.2.1, hs.2.2.2.1, hs.2.2.2.2.1, hs.2.2.2.2.2⟩)), (eV.imp (fun g _ hs => ⟨hs.2.1, hs.2.2.1, hs.2.2.2.1, hs.2.2.2.2.1, hs.2.2.2.2.2⟩)), cW, oB, (by omega), (by omega), (row_push hxl (by omega) (by omega) (by rw [← has_inT (by omega) (by omega)]; assumption) (now_pos hnw (by omega) (by omega) (by omega) (by rw [← has_inT (by omega) (by omega)]; assumption))), (by omega), (by omega), (by omega)⟩
   refine wp_skip ?_
   refine b_n ?_
   refine t_n ?_
   refine At.start ?_
   refine At.rd fV 2 [[.as_ (.int .i64 (q + 1))], []] [(52, .int .i64 (q + 1)), (65, .int .i64 (q + 1))] [((.int .i64 (IntKind.i64.wrap (q + 1)) : Value) = .int .i64 (q + 1))] (by kernel_rfl) ⟨(w64 (by omega) (by omega)), trivial⟩ (fun sF lN => ?_)
   clear fV
   refine At.done rfl ?_
   refine t_n ?_
   have oE := lN.as 14 (.slice aE xl.length bD) (.slice aE ((xl : List Int).length) bD) rfl (slice_len (by first | rfl | omega | (simp; done) | (simp; omega))); clear lN
   have oF := oE.sub (r := [(14, .slice aE ((xl : List Int).length) bD), (52, .int .i64 (q + 1)), (51, .int .i64 ((((gL g.mv (gI (lsD (inT g s) 256 : List Int) k)).length : Nat) : Int))), (50, .slice dG ((gL g.mv (gI (lsD (inT g s) 256 : List Int) k)).length) eT), (13, .int .i64 (gI (lsD (inT g s) 256 : List Int) k)), (42, .int .i64 (k)), (41, .int .i64 ((((lsD (inT g s) 256 : List Int).length : Nat) : Int))), (40, .slice aA ((lsD (inT g s) 256 : List Int).length) aF), (11, .pointer (some ⟨aD.heap.size, 0, none⟩)), (8, .slice aA ((lsD (inT g s) 256 : List Int).length) aF), (7, .pointer (some ⟨aV.heap.size, 0, none⟩)), (4, .pointer (some ⟨aH.heap.size, 0, none⟩)), (3, .pointer (some ⟨w1.heap.size, 0, none⟩)), (2, .pointer (some ⟨w.heap.size, 0, none⟩))]) ⟨rfl, rfl, rfl, rfl, rfl, rfl, rfl, rfl, rfl, rfl, rfl, rfl, rfl, rfl, trivial⟩
   exact ⟨_, (by omega), (q + 1), (xl : List Int), aE, bD, rfl, oF, aR, aX, bA, aS, aT, aY, aU, aP, aZ, aI, aQ, eV, cW, aJ, (by omega), (by omega), (row_skip hxl (by omega) (by omega) (by rw [← has_inT (by omega) (by omega)]; assumption)), (by omega), (by omega), (by omega)⟩
  have sG := of_decide_eq_false hZ
  refine wp_exit ?_
  refine t_e ?_
  refine t_e ?_
  refine b_e ?_
  refine t_n ?_
  clear cW
  refine wp_seq ?_
  refine wp_seq ?_
  have hxe := row_end hxl (by omega); have hxll := row_lenS hxl (by omega)
  refine At.start ?_
  refine At.rd fU 3 [[], [], []] [(68, .bool ((((xl.length : Nat) : Int) : Int) == 0)), (67, .int .i64 (((xl.length : Nat) : Int))), (66, .slice aE xl.length bD)] [] (by kernel_rfl) trivial (fun sH fK => ?_)
  clear fU
  refine At.done rfl ?_
  refine t_n ?_
  refine cond_S fK (t := (((xl.length : Nat) : Int) : Int) == 0) rfl (fun iC => ?_) (fun iC => ?_)
  ·have sI := eq_of_beq iC
   refine wp_seq ?_
   have hbad : subAll g (inT g s) = false := gone_bad (k := k) (by omega) (by omega) (by rw [← hxe]; exact List.length_eq_zero_iff.1 (by omega))
   refine At.start ?_
   refine At.rd fK 1 [[]] [(69, .agg #[.slice none 0 0, .slice none 0 0, .slice none 0 0])] [] (by kernel_rfl) trivial (fun sJ lO => ?_)
   clear fK
   refine At.store lO (t := 25) (b := aH.heap.size) (off := 0) (v := .agg #[.slice none 0 0, .slice none 0 0, .slice none 0 0]) (by kernel_rfl) aY (by kernel_rfl) (fun sK gW cP fX lP => ?_)
   clear lO; replace fX : Bx gW (aH.heap.size) [.slice none 0 0, .slice none 0 0, .slice none 0 0] 25 := fX; have := cP.size; replace aR := aR.gr cP (fun k h => by injection h; omega); replace aX := aX.gb cP (by omega); replace bA := bA.gb cP (by omega); replace aS := aS.gb cP (by omega); replace aT := aT.gb cP (by omega); replace aU := aU.gb cP (by omega)
   replace aP := aP.gr cP (fun k hk e => by have := Sx_base hk; injection e; omega); replace aZ := aZ.gb cP (by omega); replace aI := aI.gr cP (fun k hk e => by have := Sx_base hk; injection e; omega); replace aQ := aQ.gr cP (fun k hk e => by have := Sx_base hk; injection e; omega); have sL := eU.gr cP (fun k hk e => by have := Sx_base hk; injection e; omega); clear eU
   replace aJ := aJ.gr cP (fun k hk e => by have := Sx_base hk; injection e; omega); clear aY cP
   refine At.rd lP 2 [[], []] [(6, .bool false), (5, .slice none 0 0)] [] (by kernel_rfl) trivial (fun sM oG => ?_)
   clear lP
   refine At.done rfl ?_
   refine t_n ?_
   clear aJ
   refine wp_ret ?_
   refine t_r ?_
   refine b_r ?_
   refine t_r ?_
   refine t_r ?_
   refine b_r ?_
   refine t_r ?_
   refine ret_ oG [[.slice none 0 0, .slice none 0 0, .slice none 0 0]] [.agg #[.slice none 0 0, .slice none 0 0, .slice none 0 0], .slice none 0 0, .bool false] [(gW.cell? ⟨aH.heap.size, 0, none⟩ = some (.slice none 0 0)), (gW.cell? ⟨aH.heap.size, 1, none⟩ = some (.slice none 0 0)), (gW.cell? ⟨aH.heap.size, 2, none⟩ = some (.slice none 0 0))] (by kernel_rfl) ⟨(fX.cell (i := 0) rfl), (fX.cell (i := 1) rfl), (fX.cell (i := 2) rfl), trivial⟩ ?_
   obtain ⟨e1_, e2_, e3_⟩ := sub_no (g := g) (I := inT g s) (by first | exact .inl (by assumption) | exact .inr hbad)
   rw [e1_, e2_, e3_]
   exact ⟨none, 0, none, 0, none, 0, none, 0, rfl, aR, OwnR.nil, OwnR.nil, OwnLL.nil, OwnR.nil⟩
  have sN := ne_of_beq_false iC
  refine wp_skip ?_
  refine t_n ?_
  have hxol := congrArg List.length hxo; have hxpl := congrArg List.length hxp; have hxml := congrArg List.length hxm
  rw [List.length_map, List.length_take] at hxol hxpl hxml
  have hne : xl ≠ [] := fun h_ => absurd (show (xl.length : Int) = 0 by rw [h_]; rfl) (by omega)
  refine wp_seq (cut (fun a_ w_ => ∃ (aM : Option Addr) (cT : Nat), (Frm 102 a_ [(14, .slice aE xl.length bD), (13, .int .i64 (gI (lsD (inT g s) 256 : List Int) k)), (42, .int .i64 (k)), (41, .int .i64 ((((lsD (inT g s) 256 : List Int).length : Nat) : Int))), (40, .slice aA ((lsD (inT g s) 256 : List Int).length) aF), (11, .pointer (some ⟨aD.heap.size, 0, none⟩)), (8, .slice aA ((lsD (inT g s) 256 : List Int).length) aF), (7, .pointer (some ⟨aV.heap.size, 0, none⟩)), (4, .pointer (some ⟨aH.heap.size, 0, none⟩)), (3, .pointer (some ⟨w1.heap.size, 0, none⟩)), (2, .pointer (some ⟨w.heap.size, 0, none⟩))]) ∧ (Ext w w_) ∧ (RdG w_ 0 w.heap.size Ag0 Ag1 Ag2 cg0 cg1 cg2 g) ∧ (RdT w_ 0 w.heap.size) ∧ (Bx w_ (w.heap.size) [.slice Ag0 g.ow.length cg0, .slice Ag1 g.pr.length cg1, .slice Ag2 g.mv.length cg2] 25) ∧ (Bx w_ (w1.heap.size) (((inS g s : List Int) : List Int).map wV) 44) ∧ (Bx w_ (aH.heap.size) [.slice none 0 0, .slice none 0 0, .slice none 0 0] 25) ∧ (Bx w_ (aV.heap.size) ((nw : List Int).map iV) 78) ∧ (OwnR w_ (Sx (bE.heap.size) [obk (aE), obk (aB), obk (aG), obk (aM), some (aD.heap.size)]) aA aF 3 ((lsD (inT g s) 256 : List Int) : List Int)) ∧ (Bx w_ (aD.heap.size) [.slice (aM) ((xo ++ ([gI g.ow (gI (lsD (inT g s) 256 : List Int) k)])).length) (cT), .slice aG xp.length aW, .slice aB xm.length aL] 25) ∧ (OwnR w_ (Sx (aC.heap.size) [obk (aE), obk (aB), obk (aG), obk (aA)]) (aM) (cT) 3 (xo ++ ([gI g.ow (gI (lsD (inT g s) 256 : List Int) k)]) : List Int)) ∧ (OwnR w_ (Sx (aC.heap.size) [obk (aE), obk (aB), obk (aA), obk (aM)]) aG aW 3 (xp : List Int)) ∧ (OwnLL w_ (aC.heap.size) [obk (aE), obk (aA), obk (aM), obk (aG)] aB aL 22 3 (xm : List (List Int))) ∧ (OwnR w_ (Sx (bB.heap.size) [obk (aA), obk (aM), obk (aG), obk (aB)]) aE bD 3 (xl : List Int)) ∧ (gT.heap.size ≤ w_.heap.size)) ?_ ?_)
  ·obtain ⟨fY, oH, _, _, oI⟩ := RdI.get aX.ow (gI (lsD (inT g s) 256 : List Int) k) (by omega) (by omega)
   obtain ⟨gX, eW⟩ : ∃ c : List (Addr × Value), c = [(⟨w.heap.size, 0, none⟩, (.slice Ag0 g.ow.length cg0)), ((fY.add ((gI (lsD (inT g s) 256 : List Int) k : Int).toNat * 1)), (.int .i64 (gI g.ow (gI (lsD (inT g s) 256 : List Int) k))))] := ⟨_, rfl⟩
   have lQ : HoldsC gX gT := by rw [eW]; exact ⟨(aS.cell (i := 0) rfl), oI, trivial⟩
   refine AtH.start gX 11 #[false, false, false, false, false, false, false, false, false, false, false] (by kernel_rfl) rfl rfl (fun bS lR => ?_)
   have bX := gr_drew lR; have gY := lQ.gr bX; have := bX.size; replace aR := aR.gn bX; replace aX := aX.gn bX; replace bA := bA.gn bX; replace aS := aS.gn bX; replace aT := aT.gn bX; replace aY := aY.gn bX; replace aU := aU.gn bX; replace aP := aP.gn bX; replace aZ := aZ.gn bX; replace aI := aI.gn bX; replace aQ := aQ.gn bX; have bY := eU.gn bX; clear eU; replace aJ := aJ.gn bX; clear bX lR lQ
   refine AtH.rd (by kernel_rfl) (fun d v c a w h => by cases d <;> exact h) gY [0, 2, 3, 4, 5, 6] [[], [], [.ld (.slice Ag0 g.ow.length cg0)], [], [.ad fY], [.ld (.int .i64 (gI g.ow (gI (lsD (inT g s) 256 : List Int) k)))]] [(76, .int .i64 (gI g.ow (gI (lsD (inT g s) 256 : List Int) k))), (75, .pointer (some (fY.add ((gI (lsD (inT g s) 256 : List Int) k : Int).toNat * 1)))), (74, .int .i64 (gI (lsD (inT g s) 256 : List Int) k)), (73, .slice Ag0 g.ow.length cg0), (72, .pointer (some ⟨w.heap.size, 0, none⟩)), (70, .pointer (some ⟨aD.heap.size, 0, none⟩))] #[true, false, true, true, true, true, true, false, false, false, false] [(∃ j_ : Nat, gX[j_]? = some (⟨w.heap.size, 0, none⟩, (.slice Ag0 g.ow.length cg0))), (Ag0 = some fY), (0 ≤ (gI (lsD (inT g s) 256 : List Int) k : Int)), ((gI (lsD (inT g s) 256 : List Int) k : Int) < (g.ow.length : Nat)), (∃ j_ : Nat, gX[j_]? = some ((fY.add ((gI (lsD (inT g s) 256 : List Int) k : Int).toNat * 1)), (.int .i64 (gI g.ow (gI (lsD (inT g s) 256 : List Int) k)))))] 5 fK (by kernel_rfl) ⟨⟨0, by rw [eW]; rfl⟩, oH, (by omega), (by omega), ⟨1, by rw [eW]; rfl⟩, trivial⟩ (fun sO gZ => ?_)
   clear fK
   refine AtH.all [1, 7] 4 (by kernel_rfl) (by simp) ⟨?_, ?_, trivial⟩
   ·refine OneH.seq gZ [[.ld (.slice aK xo.length bG)]] [(71, .slice aK xo.length bG)] bS [(bS.cell? ⟨aD.heap.size, 0, none⟩ = some (.slice aK xo.length bG))] #[true, true, true, true, true, true, true, false, false, false, false] (by kernel_rfl) (by kernel_rfl) (by kernel_rfl) ⟨(aZ.cell (i := 0) rfl), trivial⟩ (fun sP oJ oK lS => ?_)
    obtain rfl : bS = oJ := oK.symm
    clear gZ
    refine ⟨gY, ?_⟩
    refine AtH.all [7] 3 (by kernel_rfl) (by simp) ⟨?_, trivial⟩
    refine OneH.seq lS [[]] [(77, .slice (some ⟨bS.heap.size, 0, none⟩) 1 1)] (bS.alloc (.cells #[.int .i64 (gI g.ow (gI (lsD (inT g s) 256 : List Int) k))] 3 (0, 0))) [] #[true, true, true, true, true, true, true, true, false, false, false] (by kernel_rfl) (by kernel_rfl) (by kernel_rfl) trivial (fun sQ lT iD lU => ?_)
    clear lS; have bZ := gr_alloc iD; have lV := gY.gr bZ
    refine ⟨lV, ?_⟩
    have := bZ.size; replace aR := aR.gn bZ; replace aX := aX.gn bZ; replace bA := bA.gn bZ; replace aS := aS.gn bZ; replace aT := aT.gn bZ; replace aY := aY.gn bZ; replace aU := aU.gn bZ; replace aP := aP.grN bZ; replace aZ := aZ.gn bZ; replace aI := aI.grN bZ; replace aQ := aQ.grN bZ; replace bY := bY.grN bZ; replace aJ := aJ.grN bZ
    have iE : Bx lT (bS.heap.size) [.int .i64 (gI g.ow (gI (lsD (inT g s) 256 : List Int) k))] 3 := Bx.new iD; have := iE.lt; clear bZ iD
    refine AtH.all [8] 2 (by kernel_rfl) (by simp) ⟨?_, trivial⟩
    have oL : (xo ++ ([gI g.ow (gI (lsD (inT g s) 256 : List Int) k)])).length = (xo).length + ([gI g.ow (gI (lsD (inT g s) 256 : List Int) k)] : List Int).length := List.length_append
    simp only [List.length_cons, List.length_nil] at oL
    refine OneH.act lU #[true, true, true, true, true, true, true, true, true, false, false] (by kernel_rfl) (appendR (α := Int) (t := 22) (d := 78) (n := xo.length) (m := 1) (cc := 1) (xs := xo) (ys := [gI g.ow (gI (lsD (inT g s) 256 : List Int) k)]) (bytes := 8) (by first | rfl | omega | (simp; done) | (simp; omega)) (by first | rfl | omega | (simp; done) | (simp; omega)) (by kernel_rfl) rfl (by kernel_rfl) aI (Bx.srcR (l := ([gI g.ow (gI (lsD (inT g s) 256 : List Int) k)] : List Int)) iE rfl) (by simp only [List.length_cons, List.length_nil]; omega) (by simp only [List.length_cons, List.length_nil]; omega)) ?_
    rintro d_ v_ hA ⟨rfl, eX, iF, dU⟩
    obtain rfl := dU.val
    have cF := dU.gr
    have iG := lV.grO cF (by rw [eW]; exact ⟨(fun e => by have := aI.ge _ e; simp only [add_block] at this; omega), (fun e => by have := aI.ge _ e; simp only [add_block] at this; omega), trivial⟩)
    refine ⟨_, rfl, fun sR lW => ⟨iG, ?_⟩⟩
    clear lU; clear iE
    have iH := dU.own (Sx (aC.heap.size) [obk (aE), obk (aB), obk (aG), obk (aA)]) (fun g _ hs => ⟨hs.2.1, hs.2.2.1, hs.2.2.2.1, hs.2.2.2.2.1, hs.2.2.2.2.2⟩) ⟨aJ.ne_new, bY.ne_new, aQ.ne_new, aP.ne_new, (show aC.heap.size ≤ lT.heap.size by omega)⟩
    have := cF.size; replace aR := aR.gr cF (fun k hk => by have := aI.ge k hk; omega); replace aX := aX.gr cF (fun k hk => by have := aI.ge k hk; omega); replace bA := bA.gr cF (fun k hk => by have := aI.ge k hk; omega); replace aS := aS.gr cF (fun e => by have := aI.ge _ e; omega); replace aT := aT.gr cF (fun e => by have := aI.ge _ e; omega)
    replace aY := aY.gr cF (fun e => by have := aI.ge _ e; omega); replace aU := aU.gr cF (fun e => by have := aI.ge _ e; omega)
    replace aP : OwnR hA (Sx (bE.heap.size) [some (bS.heap.size), obk (aE), obk (aB), obk (aG), obk (eX), some (aD.heap.size)]) aA aF 3 ((lsD (inT g s) 256 : List Int) : List Int) := aP.grA cF (fun k hk => hk.2.2.2.2.1) (fun k hk hs => ⟨hs.1, hs.2.1, hs.2.2.1, hs.2.2.2.1, own_repl dU.at_ hs.2.2.2.2.1 hk, hs.2.2.2.2.2.1, hs.2.2.2.2.2.2⟩)
    replace aZ := aZ.gr cF (fun e => by have := aI.ge _ e; omega)
    replace aQ : OwnR hA (Sx (aC.heap.size) [some (bS.heap.size), obk (aE), obk (aB), obk (aA), obk (eX)]) aG aW 3 (xp : List Int) := aQ.grA cF (fun k hk => hk.2.2.2.2.1) (fun k hk hs => ⟨hs.1, hs.2.1, hs.2.2.1, hs.2.2.2.1, own_repl dU.at_ hs.2.2.2.2.1 hk, hs.2.2.2.2.2⟩)
    replace bY : OwnLL hA (aC.heap.size) [some (bS.heap.size), obk (aE), obk (aA), obk (eX), obk (aG)] aB aL 22 3 (xm : List (List Int)) := bY.grA cF (fun k hk => hk.2.2.2.1) (fun k hk hs => ⟨hs.1, hs.2.1, hs.2.2.1, own_repl dU.at_ hs.2.2.2.1 hk, hs.2.2.2.2.1, hs.2.2.2.2.2⟩)
    replace aJ : OwnR hA (Sx (bB.heap.size) [some (bS.heap.size), obk (aA), obk (eX), obk (aG), obk (aB)]) aE bD 3 (xl : List Int) := aJ.grA cF (fun k hk => hk.2.2.1) (fun k hk hs => ⟨hs.1, hs.2.1, own_repl dU.at_ hs.2.2.1 hk, hs.2.2.2.1, hs.2.2.2.2.1, hs.2.2.2.2.2⟩)
    clear aI cF dU
    refine AtH.rd (by kernel_rfl) (fun d v c a w h => by cases d <;> exact h) iG [9] [[]] [(79, .pointer (some ⟨aD.heap.size, 0, none⟩))] #[true, true, true, true, true, true, true, true, true, true, false] [] 1 lW (by kernel_rfl) trivial (fun sS lX => ?_)
    clear lW
    refine AtH.all [10] 0 (by kernel_rfl) (by simp) ⟨?_, trivial⟩
    refine OneH.store lX (t := 22) (b := aD.heap.size) (off := 0) (v := .slice eX ((xo ++ ([gI g.ow (gI (lsD (inT g s) 256 : List Int) k)])).length) iF) #[true, true, true, true, true, true, true, true, true, true, true] (by kernel_rfl) (by kernel_rfl) aZ (by kernel_rfl) (fun sT oM cG iI oN => ?_)
    clear lX
    replace iI : Bx oM (aD.heap.size) [.slice eX ((xo ++ ([gI g.ow (gI (lsD (inT g s) 256 : List Int) k)])).length) iF, .slice aG xp.length aW, .slice aB xm.length aL] 25 := iI
    have lY := iG.gr' cG (by rw [eW]; exact ⟨(by simp only [add_block]; omega), (by simp only [add_block]; omega), trivial⟩); have := cG.size; replace aR := aR.gr cG (fun k h => by injection h; omega); replace aX := aX.gb cG (by omega); replace bA := bA.gb cG (by omega); replace aS := aS.gb cG (by omega); replace aT := aT.gb cG (by omega); replace aY := aY.gb cG (by omega)
    replace aU := aU.gb cG (by omega); replace aP := aP.gr cG (fun k hk => hk.2.2.2.2.2.1); replace iH := iH.gr cG (fun k hk e => by have := Sx_base hk; injection e; omega); replace aQ := aQ.gr cG (fun k hk e => by have := Sx_base hk; injection e; omega); replace bY := bY.gr cG (fun k hk e => by have := Sx_base hk; injection e; omega)
    replace aJ := aJ.gr cG (fun k hk e => by have := Sx_base hk; injection e; omega); clear aZ cG
    refine ⟨lY, ?_⟩
    refine AtH.done (by kernel_rfl) ?_
    clear lY
    refine t_n ?_
    have oO := oN.sub (r := [(14, .slice aE xl.length bD), (13, .int .i64 (gI (lsD (inT g s) 256 : List Int) k)), (42, .int .i64 (k)), (41, .int .i64 ((((lsD (inT g s) 256 : List Int).length : Nat) : Int))), (40, .slice aA ((lsD (inT g s) 256 : List Int).length) aF), (11, .pointer (some ⟨aD.heap.size, 0, none⟩)), (8, .slice aA ((lsD (inT g s) 256 : List Int).length) aF), (7, .pointer (some ⟨aV.heap.size, 0, none⟩)), (4, .pointer (some ⟨aH.heap.size, 0, none⟩)), (3, .pointer (some ⟨w1.heap.size, 0, none⟩)), (2, .pointer (some ⟨w.heap.size, 0, none⟩))]) ⟨rfl, rfl, rfl, rfl, rfl, rfl, rfl, rfl, rfl, rfl, rfl, trivial⟩
    exact ⟨eX, iF, oO, aR, aX, bA, aS, aT, aY, aU, (aP.imp (fun g _ hs => ⟨hs.2.1, hs.2.2.1, hs.2.2.2.1, hs.2.2.2.2.1, hs.2.2.2.2.2.1, (by have := Sx_base hs; show bE.heap.size ≤ g; omega)⟩)), iI, iH, (aQ.imp (fun g _ hs => ⟨hs.2.1, hs.2.2.1, hs.2.2.2.1, hs.2.2.2.2.1, (by have := Sx_base hs; show aC.heap.size ≤ g; omega)⟩)), (bY.imp (fun g _ hs => ⟨hs.2.1, hs.2.2.1, hs.2.2.2.1, hs.2.2.2.2.1, (by have := Sx_base hs; show aC.heap.size ≤ g; omega)⟩)), (aJ.imp (fun g _ hs => ⟨hs.2.1, hs.2.2.1, hs.2.2.2.1, hs.2.2.2.2.1, (by have := Sx_base hs; show bB.heap.size ≤ g; omega)⟩)), (by omega)⟩
   refine OneH.seq gZ [[]] [(77, .slice (some ⟨bS.heap.size, 0, none⟩) 1 1)] (bS.alloc (.cells #[.int .i64 (gI g.ow (gI (lsD (inT g s) 256 : List Int) k))] 3 (0, 0))) [] #[true, false, true, true, true, true, true, true, false, false, false] (by kernel_rfl) (by kernel_rfl) (by kernel_rfl) trivial (fun sU fZ iJ lZ => ?_)
   clear gZ; have cA := gr_alloc iJ; have iK := gY.gr cA
   refine ⟨iK, ?_⟩
   have := cA.size; replace aR := aR.gn cA; replace aX := aX.gn cA; replace bA := bA.gn cA; replace aS := aS.gn cA; replace aT := aT.gn cA; replace aY := aY.gn cA; replace aU := aU.gn cA; replace aP := aP.grN cA; replace aZ := aZ.gn cA; replace aI := aI.grN cA; replace aQ := aQ.grN cA; replace bY := bY.grN cA; replace aJ := aJ.grN cA
   have iL : Bx fZ (bS.heap.size) [.int .i64 (gI g.ow (gI (lsD (inT g s) 256 : List Int) k))] 3 := Bx.new iJ; have := iL.lt; clear cA iJ
   refine AtH.all [1] 3 (by kernel_rfl) (by simp) ⟨?_, trivial⟩
   refine OneH.seq lZ [[.ld (.slice aK xo.length bG)]] [(71, .slice aK xo.length bG)] fZ [(fZ.cell? ⟨aD.heap.size, 0, none⟩ = some (.slice aK xo.length bG))] #[true, true, true, true, true, true, true, true, false, false, false] (by kernel_rfl) (by kernel_rfl) (by kernel_rfl) ⟨(aZ.cell (i := 0) rfl), trivial⟩ (fun sV oP oQ mA => ?_)
   obtain rfl : fZ = oP := oQ.symm
   clear lZ
   refine ⟨iK, ?_⟩
   refine AtH.all [8] 2 (by kernel_rfl) (by simp) ⟨?_, trivial⟩
   have oR : (xo ++ ([gI g.ow (gI (lsD (inT g s) 256 : List Int) k)])).length = (xo).length + ([gI g.ow (gI (lsD (inT g s) 256 : List Int) k)] : List Int).length := List.length_append
   simp only [List.length_cons, List.length_nil] at oR
   refine OneH.act mA #[true, true, true, true, true, true, true, true, true, false, false] (by kernel_rfl) (appendR (α := Int) (t := 22) (d := 78) (n := xo.length) (m := 1) (cc := 1) (xs := xo) (ys := [gI g.ow (gI (lsD (inT g s) 256 : List Int) k)]) (bytes := 8) (by first | rfl | omega | (simp; done) | (simp; omega)) (by first | rfl | omega | (simp; done) | (simp; omega)) (by kernel_rfl) rfl (by kernel_rfl) aI (Bx.srcR (l := ([gI g.ow (gI (lsD (inT g s) 256 : List Int) k)] : List Int)) iL rfl) (by simp only [List.length_cons, List.length_nil]; omega) (by simp only [List.length_cons, List.length_nil]; omega)) ?_
   rintro d_ v_ hB ⟨rfl, eY, iM, dV⟩
   obtain rfl := dV.val
   have cH := dV.gr
   have iN := iK.grO cH (by rw [eW]; exact ⟨(fun e => by have := aI.ge _ e; simp only [add_block] at this; omega), (fun e => by have := aI.ge _ e; simp only [add_block] at this; omega), trivial⟩)
   refine ⟨_, rfl, fun sW mB => ⟨iN, ?_⟩⟩
   clear mA; clear iL
   have iO := dV.own (Sx (aC.heap.size) [obk (aE), obk (aB), obk (aG), obk (aA)]) (fun g _ hs => ⟨hs.2.1, hs.2.2.1, hs.2.2.2.1, hs.2.2.2.2.1, hs.2.2.2.2.2⟩) ⟨aJ.ne_new, bY.ne_new, aQ.ne_new, aP.ne_new, (show aC.heap.size ≤ fZ.heap.size by omega)⟩
   have := cH.size; replace aR := aR.gr cH (fun k hk => by have := aI.ge k hk; omega); replace aX := aX.gr cH (fun k hk => by have := aI.ge k hk; omega); replace bA := bA.gr cH (fun k hk => by have := aI.ge k hk; omega); replace aS := aS.gr cH (fun e => by have := aI.ge _ e; omega); replace aT := aT.gr cH (fun e => by have := aI.ge _ e; omega)
   replace aY := aY.gr cH (fun e => by have := aI.ge _ e; omega); replace aU := aU.gr cH (fun e => by have := aI.ge _ e; omega)
   replace aP : OwnR hB (Sx (bE.heap.size) [some (bS.heap.size), obk (aE), obk (aB), obk (aG), obk (eY), some (aD.heap.size)]) aA aF 3 ((lsD (inT g s) 256 : List Int) : List Int) := aP.grA cH (fun k hk => hk.2.2.2.2.1) (fun k hk hs => ⟨hs.1, hs.2.1, hs.2.2.1, hs.2.2.2.1, own_repl dV.at_ hs.2.2.2.2.1 hk, hs.2.2.2.2.2.1, hs.2.2.2.2.2.2⟩)
   replace aZ := aZ.gr cH (fun e => by have := aI.ge _ e; omega)
   replace aQ : OwnR hB (Sx (aC.heap.size) [some (bS.heap.size), obk (aE), obk (aB), obk (aA), obk (eY)]) aG aW 3 (xp : List Int) := aQ.grA cH (fun k hk => hk.2.2.2.2.1) (fun k hk hs => ⟨hs.1, hs.2.1, hs.2.2.1, hs.2.2.2.1, own_repl dV.at_ hs.2.2.2.2.1 hk, hs.2.2.2.2.2⟩)
   replace bY : OwnLL hB (aC.heap.size) [some (bS.heap.size), obk (aE), obk (aA), obk (eY), obk (aG)] aB aL 22 3 (xm : List (List Int)) := bY.grA cH (fun k hk => hk.2.2.2.1) (fun k hk hs => ⟨hs.1, hs.2.1, hs.2.2.1, own_repl dV.at_ hs.2.2.2.1 hk, hs.2.2.2.2.1, hs.2.2.2.2.2⟩)
   replace aJ : OwnR hB (Sx (bB.heap.size) [some (bS.heap.size), obk (aA), obk (eY), obk (aG), obk (aB)]) aE bD 3 (xl : List Int) := aJ.grA cH (fun k hk => hk.2.2.1) (fun k hk hs => ⟨hs.1, hs.2.1, own_repl dV.at_ hs.2.2.1 hk, hs.2.2.2.1, hs.2.2.2.2.1, hs.2.2.2.2.2⟩)
   clear aI cH dV
   refine AtH.rd (by kernel_rfl) (fun d v c a w h => by cases d <;> exact h) iN [9] [[]] [(79, .pointer (some ⟨aD.heap.size, 0, none⟩))] #[true, true, true, true, true, true, true, true, true, true, false] [] 1 mB (by kernel_rfl) trivial (fun sX mC => ?_)
   clear mB
   refine AtH.all [10] 0 (by kernel_rfl) (by simp) ⟨?_, trivial⟩
   refine OneH.store mC (t := 22) (b := aD.heap.size) (off := 0) (v := .slice eY ((xo ++ ([gI g.ow (gI (lsD (inT g s) 256 : List Int) k)])).length) iM) #[true, true, true, true, true, true, true, true, true, true, true] (by kernel_rfl) (by kernel_rfl) aZ (by kernel_rfl) (fun sY oS cI iP oT => ?_)
   clear mC
   replace iP : Bx oS (aD.heap.size) [.slice eY ((xo ++ ([gI g.ow (gI (lsD (inT g s) 256 : List Int) k)])).length) iM, .slice aG xp.length aW, .slice aB xm.length aL] 25 := iP
   have mD := iN.gr' cI (by rw [eW]; exact ⟨(by simp only [add_block]; omega), (by simp only [add_block]; omega), trivial⟩); have := cI.size; replace aR := aR.gr cI (fun k h => by injection h; omega); replace aX := aX.gb cI (by omega); replace bA := bA.gb cI (by omega); replace aS := aS.gb cI (by omega); replace aT := aT.gb cI (by omega); replace aY := aY.gb cI (by omega)
   replace aU := aU.gb cI (by omega); replace aP := aP.gr cI (fun k hk => hk.2.2.2.2.2.1); replace iO := iO.gr cI (fun k hk e => by have := Sx_base hk; injection e; omega); replace aQ := aQ.gr cI (fun k hk e => by have := Sx_base hk; injection e; omega); replace bY := bY.gr cI (fun k hk e => by have := Sx_base hk; injection e; omega)
   replace aJ := aJ.gr cI (fun k hk e => by have := Sx_base hk; injection e; omega); clear aZ cI
   refine ⟨mD, ?_⟩
   refine AtH.done (by kernel_rfl) ?_
   clear mD
   refine t_n ?_
   have oU := oT.sub (r := [(14, .slice aE xl.length bD), (13, .int .i64 (gI (lsD (inT g s) 256 : List Int) k)), (42, .int .i64 (k)), (41, .int .i64 ((((lsD (inT g s) 256 : List Int).length : Nat) : Int))), (40, .slice aA ((lsD (inT g s) 256 : List Int).length) aF), (11, .pointer (some ⟨aD.heap.size, 0, none⟩)), (8, .slice aA ((lsD (inT g s) 256 : List Int).length) aF), (7, .pointer (some ⟨aV.heap.size, 0, none⟩)), (4, .pointer (some ⟨aH.heap.size, 0, none⟩)), (3, .pointer (some ⟨w1.heap.size, 0, none⟩)), (2, .pointer (some ⟨w.heap.size, 0, none⟩))]) ⟨rfl, rfl, rfl, rfl, rfl, rfl, rfl, rfl, rfl, rfl, rfl, trivial⟩
   exact ⟨eY, iM, oU, aR, aX, bA, aS, aT, aY, aU, (aP.imp (fun g _ hs => ⟨hs.2.1, hs.2.2.1, hs.2.2.2.1, hs.2.2.2.2.1, hs.2.2.2.2.2.1, (by have := Sx_base hs; show bE.heap.size ≤ g; omega)⟩)), iP, iO, (aQ.imp (fun g _ hs => ⟨hs.2.1, hs.2.2.1, hs.2.2.2.1, hs.2.2.2.2.1, (by have := Sx_base hs; show aC.heap.size ≤ g; omega)⟩)), (bY.imp (fun g _ hs => ⟨hs.2.1, hs.2.2.1, hs.2.2.2.1, hs.2.2.2.2.1, (by have := Sx_base hs; show aC.heap.size ≤ g; omega)⟩)), (aJ.imp (fun g _ hs => ⟨hs.2.1, hs.2.2.1, hs.2.2.2.1, hs.2.2.2.2.1, (by have := Sx_base hs; show bB.heap.size ≤ g; omega)⟩)), (by omega)⟩
  clear aX; clear bA; clear aS; clear aT; clear aY; clear aU; clear aP; clear aZ; clear aI; clear aQ; clear eU; clear aJ; clear fK aR
  intro sZ mE ⟨aM, cT, iQ, bM, bN, bT, bH, bO, bP, bQ, bI, bR, bJ, aO, bK, bL, tA⟩
  have := bM.size; have := bH.lt; have := bO.lt; have := bP.lt; have := bQ.lt; have := bR.lt
  refine wp_seq (cut (fun a_ w_ => ∃ (cQ : Option Addr) (fL : Nat), (Frm 102 a_ [(14, .slice aE xl.length bD), (42, .int .i64 (k)), (41, .int .i64 ((((lsD (inT g s) 256 : List Int).length : Nat) : Int))), (40, .slice aA ((lsD (inT g s) 256 : List Int).length) aF), (11, .pointer (some ⟨aD.heap.size, 0, none⟩)), (8, .slice aA ((lsD (inT g s) 256 : List Int).length) aF), (7, .pointer (some ⟨aV.heap.size, 0, none⟩)), (4, .pointer (some ⟨aH.heap.size, 0, none⟩)), (3, .pointer (some ⟨w1.heap.size, 0, none⟩)), (2, .pointer (some ⟨w.heap.size, 0, none⟩))]) ∧ (Ext w w_) ∧ (RdG w_ 0 w.heap.size Ag0 Ag1 Ag2 cg0 cg1 cg2 g) ∧ (RdT w_ 0 w.heap.size) ∧ (Bx w_ (w.heap.size) [.slice Ag0 g.ow.length cg0, .slice Ag1 g.pr.length cg1, .slice Ag2 g.mv.length cg2] 25) ∧ (Bx w_ (w1.heap.size) (((inS g s : List Int) : List Int).map wV) 44) ∧ (Bx w_ (aH.heap.size) [.slice none 0 0, .slice none 0 0, .slice none 0 0] 25) ∧ (Bx w_ (aV.heap.size) ((nw : List Int).map iV) 78) ∧ (OwnR w_ (Sx (bE.heap.size) [obk (aE), obk (aB), obk (cQ), obk (aM), some (aD.heap.size)]) aA aF 3 ((lsD (inT g s) 256 : List Int) : List Int)) ∧ (Bx w_ (aD.heap.size) [.slice aM ((xo ++ ([gI g.ow (gI (lsD (inT g s) 256 : List Int) k)])).length) cT, .slice (cQ) ((xp ++ ([gI g.pr (gI (lsD (inT g s) 256 : List Int) k)])).length) (fL), .slice aB xm.length aL] 25) ∧ (OwnR w_ (Sx (aC.heap.size) [obk (aE), obk (aB), obk (cQ), obk (aA)]) aM cT 3 (xo ++ ([gI g.ow (gI (lsD (inT g s) 256 : List Int) k)]) : List Int)) ∧ (OwnR w_ (Sx (aC.heap.size) [obk (aE), obk (aB), obk (aA), obk (aM)]) (cQ) (fL) 3 (xp ++ ([gI g.pr (gI (lsD (inT g s) 256 : List Int) k)]) : List Int)) ∧ (OwnLL w_ (aC.heap.size) [obk (aE), obk (aA), obk (aM), obk (cQ)] aB aL 22 3 (xm : List (List Int))) ∧ (OwnR w_ (Sx (bB.heap.size) [obk (aA), obk (aM), obk (cQ), obk (aB)]) aE bD 3 (xl : List Int)) ∧ (mE.heap.size ≤ w_.heap.size)) ?_ ?_)
  ·obtain ⟨gA, oV, _, _, oW⟩ := RdI.get bN.pr (gI (lsD (inT g s) 256 : List Int) k) (by omega) (by omega)
   obtain ⟨hC, eZ⟩ : ∃ c : List (Addr × Value), c = [(⟨w.heap.size, 1, none⟩, (.slice Ag1 g.pr.length cg1)), ((gA.add ((gI (lsD (inT g s) 256 : List Int) k : Int).toNat * 1)), (.int .i64 (gI g.pr (gI (lsD (inT g s) 256 : List Int) k))))] := ⟨_, rfl⟩
   have mF : HoldsC hC mE := by rw [eZ]; exact ⟨(bH.cell (i := 1) rfl), oW, trivial⟩
   refine AtH.start hC 11 #[false, false, false, false, false, false, false, false, false, false, false] (by kernel_rfl) rfl rfl (fun bU mG => ?_)
   have cB := gr_drew mG; have hD := mF.gr cB; have := cB.size; replace bM := bM.gn cB; replace bN := bN.gn cB; replace bT := bT.gn cB; replace bH := bH.gn cB; replace bO := bO.gn cB; replace bP := bP.gn cB; replace bQ := bQ.gn cB; replace bI := bI.gn cB; replace bR := bR.gn cB; replace bJ := bJ.gn cB; replace aO := aO.gn cB; replace bK := bK.gn cB; replace bL := bL.gn cB; clear cB mG mF
   refine AtH.rd (by kernel_rfl) (fun d v c a w h => by cases d <;> exact h) hD [0, 2, 3, 4, 5, 6] [[], [], [.ld (.slice Ag1 g.pr.length cg1)], [], [.ad gA], [.ld (.int .i64 (gI g.pr (gI (lsD (inT g s) 256 : List Int) k)))]] [(86, .int .i64 (gI g.pr (gI (lsD (inT g s) 256 : List Int) k))), (85, .pointer (some (gA.add ((gI (lsD (inT g s) 256 : List Int) k : Int).toNat * 1)))), (84, .int .i64 (gI (lsD (inT g s) 256 : List Int) k)), (83, .slice Ag1 g.pr.length cg1), (82, .pointer (some ⟨w.heap.size, 1, none⟩)), (80, .pointer (some ⟨aD.heap.size, 1, none⟩))] #[true, false, true, true, true, true, true, false, false, false, false] [(∃ j_ : Nat, hC[j_]? = some (⟨w.heap.size, 1, none⟩, (.slice Ag1 g.pr.length cg1))), (Ag1 = some gA), (0 ≤ (gI (lsD (inT g s) 256 : List Int) k : Int)), ((gI (lsD (inT g s) 256 : List Int) k : Int) < (g.pr.length : Nat)), (∃ j_ : Nat, hC[j_]? = some ((gA.add ((gI (lsD (inT g s) 256 : List Int) k : Int).toNat * 1)), (.int .i64 (gI g.pr (gI (lsD (inT g s) 256 : List Int) k)))))] 5 iQ (by kernel_rfl) ⟨⟨0, by rw [eZ]; rfl⟩, oV, (by omega), (by omega), ⟨1, by rw [eZ]; rfl⟩, trivial⟩ (fun tB hE => ?_)
   clear iQ
   refine AtH.all [1, 7] 4 (by kernel_rfl) (by simp) ⟨?_, ?_, trivial⟩
   ·refine OneH.seq hE [[.ld (.slice aG xp.length aW)]] [(81, .slice aG xp.length aW)] bU [(bU.cell? ⟨aD.heap.size, 1, none⟩ = some (.slice aG xp.length aW))] #[true, true, true, true, true, true, true, false, false, false, false] (by kernel_rfl) (by kernel_rfl) (by kernel_rfl) ⟨(bR.cell (i := 1) rfl), trivial⟩ (fun tC oX oY mH => ?_)
    obtain rfl : bU = oX := oY.symm
    clear hE
    refine ⟨hD, ?_⟩
    refine AtH.all [7] 3 (by kernel_rfl) (by simp) ⟨?_, trivial⟩
    refine OneH.seq mH [[]] [(87, .slice (some ⟨bU.heap.size, 0, none⟩) 1 1)] (bU.alloc (.cells #[.int .i64 (gI g.pr (gI (lsD (inT g s) 256 : List Int) k))] 3 (0, 0))) [] #[true, true, true, true, true, true, true, true, false, false, false] (by kernel_rfl) (by kernel_rfl) (by kernel_rfl) trivial (fun tD mI iR mJ => ?_)
    clear mH; have cC := gr_alloc iR; have mK := hD.gr cC
    refine ⟨mK, ?_⟩
    have := cC.size; replace bM := bM.gn cC; replace bN := bN.gn cC; replace bT := bT.gn cC; replace bH := bH.gn cC; replace bO := bO.gn cC; replace bP := bP.gn cC; replace bQ := bQ.gn cC; replace bI := bI.grN cC; replace bR := bR.gn cC; replace bJ := bJ.grN cC; replace aO := aO.grN cC; replace bK := bK.grN cC; replace bL := bL.grN cC
    have iS : Bx mI (bU.heap.size) [.int .i64 (gI g.pr (gI (lsD (inT g s) 256 : List Int) k))] 3 := Bx.new iR; have := iS.lt; clear cC iR
    refine AtH.all [8] 2 (by kernel_rfl) (by simp) ⟨?_, trivial⟩
    have oZ : (xp ++ ([gI g.pr (gI (lsD (inT g s) 256 : List Int) k)])).length = (xp).length + ([gI g.pr (gI (lsD (inT g s) 256 : List Int) k)] : List Int).length := List.length_append
    simp only [List.length_cons, List.length_nil] at oZ
    refine OneH.act mJ #[true, true, true, true, true, true, true, true, true, false, false] (by kernel_rfl) (appendR (α := Int) (t := 22) (d := 88) (n := xp.length) (m := 1) (cc := 1) (xs := xp) (ys := [gI g.pr (gI (lsD (inT g s) 256 : List Int) k)]) (bytes := 8) (by first | rfl | omega | (simp; done) | (simp; omega)) (by first | rfl | omega | (simp; done) | (simp; omega)) (by kernel_rfl) rfl (by kernel_rfl) aO (Bx.srcR (l := ([gI g.pr (gI (lsD (inT g s) 256 : List Int) k)] : List Int)) iS rfl) (by simp only [List.length_cons, List.length_nil]; omega) (by simp only [List.length_cons, List.length_nil]; omega)) ?_
    rintro d_ v_ hF ⟨rfl, fA, iT, dW⟩
    obtain rfl := dW.val
    have cJ := dW.gr
    have iU := mK.grO cJ (by rw [eZ]; exact ⟨(fun e => by have := aO.ge _ e; simp only [add_block] at this; omega), (fun e => by have := aO.ge _ e; simp only [add_block] at this; omega), trivial⟩)
    refine ⟨_, rfl, fun tE mL => ⟨iU, ?_⟩⟩
    clear mJ; clear iS
    have iW := dW.own (Sx (aC.heap.size) [obk (aE), obk (aB), obk (aA), obk (aM)]) (fun g _ hs => ⟨hs.2.1, hs.2.2.1, hs.2.2.2.1, hs.2.2.2.2.1, hs.2.2.2.2.2⟩) ⟨bL.ne_new, bK.ne_new, bI.ne_new, bJ.ne_new, (show aC.heap.size ≤ mI.heap.size by omega)⟩
    have := cJ.size; replace bM := bM.gr cJ (fun k hk => by have := aO.ge k hk; omega); replace bN := bN.gr cJ (fun k hk => by have := aO.ge k hk; omega); replace bT := bT.gr cJ (fun k hk => by have := aO.ge k hk; omega); replace bH := bH.gr cJ (fun e => by have := aO.ge _ e; omega); replace bO := bO.gr cJ (fun e => by have := aO.ge _ e; omega)
    replace bP := bP.gr cJ (fun e => by have := aO.ge _ e; omega); replace bQ := bQ.gr cJ (fun e => by have := aO.ge _ e; omega)
    replace bI : OwnR hF (Sx (bE.heap.size) [some (bU.heap.size), obk (aE), obk (aB), obk (fA), obk (aM), some (aD.heap.size)]) aA aF 3 ((lsD (inT g s) 256 : List Int) : List Int) := bI.grA cJ (fun k hk => hk.2.2.2.1) (fun k hk hs => ⟨hs.1, hs.2.1, hs.2.2.1, own_repl dW.at_ hs.2.2.2.1 hk, hs.2.2.2.2.1, hs.2.2.2.2.2.1, hs.2.2.2.2.2.2⟩)
    replace bR := bR.gr cJ (fun e => by have := aO.ge _ e; omega)
    replace bJ : OwnR hF (Sx (aC.heap.size) [some (bU.heap.size), obk (aE), obk (aB), obk (fA), obk (aA)]) aM cT 3 (xo ++ ([gI g.ow (gI (lsD (inT g s) 256 : List Int) k)]) : List Int) := bJ.grA cJ (fun k hk => hk.2.2.2.1) (fun k hk hs => ⟨hs.1, hs.2.1, hs.2.2.1, own_repl dW.at_ hs.2.2.2.1 hk, hs.2.2.2.2.1, hs.2.2.2.2.2⟩)
    replace bK : OwnLL hF (aC.heap.size) [some (bU.heap.size), obk (aE), obk (aA), obk (aM), obk (fA)] aB aL 22 3 (xm : List (List Int)) := bK.grA cJ (fun k hk => hk.2.2.2.2.1) (fun k hk hs => ⟨hs.1, hs.2.1, hs.2.2.1, hs.2.2.2.1, own_repl dW.at_ hs.2.2.2.2.1 hk, hs.2.2.2.2.2⟩)
    replace bL : OwnR hF (Sx (bB.heap.size) [some (bU.heap.size), obk (aA), obk (aM), obk (fA), obk (aB)]) aE bD 3 (xl : List Int) := bL.grA cJ (fun k hk => hk.2.2.2.1) (fun k hk hs => ⟨hs.1, hs.2.1, hs.2.2.1, own_repl dW.at_ hs.2.2.2.1 hk, hs.2.2.2.2.1, hs.2.2.2.2.2⟩)
    clear aO cJ dW
    refine AtH.rd (by kernel_rfl) (fun d v c a w h => by cases d <;> exact h) iU [9] [[]] [(89, .pointer (some ⟨aD.heap.size, 1, none⟩))] #[true, true, true, true, true, true, true, true, true, true, false] [] 1 mL (by kernel_rfl) trivial (fun tF mM => ?_)
    clear mL
    refine AtH.all [10] 0 (by kernel_rfl) (by simp) ⟨?_, trivial⟩
    refine OneH.store mM (t := 22) (b := aD.heap.size) (off := 1) (v := .slice fA ((xp ++ ([gI g.pr (gI (lsD (inT g s) 256 : List Int) k)])).length) iT) #[true, true, true, true, true, true, true, true, true, true, true] (by kernel_rfl) (by kernel_rfl) bR (by kernel_rfl) (fun tG pA cK iX pB => ?_)
    clear mM
    replace iX : Bx pA (aD.heap.size) [.slice aM ((xo ++ ([gI g.ow (gI (lsD (inT g s) 256 : List Int) k)])).length) cT, .slice fA ((xp ++ ([gI g.pr (gI (lsD (inT g s) 256 : List Int) k)])).length) iT, .slice aB xm.length aL] 25 := iX
    have mN := iU.gr' cK (by rw [eZ]; exact ⟨(by simp only [add_block]; omega), (by simp only [add_block]; omega), trivial⟩); have := cK.size; replace bM := bM.gr cK (fun k h => by injection h; omega); replace bN := bN.gb cK (by omega); replace bT := bT.gb cK (by omega); replace bH := bH.gb cK (by omega); replace bO := bO.gb cK (by omega); replace bP := bP.gb cK (by omega)
    replace bQ := bQ.gb cK (by omega); replace bI := bI.gr cK (fun k hk => hk.2.2.2.2.2.1); replace bJ := bJ.gr cK (fun k hk e => by have := Sx_base hk; injection e; omega); replace iW := iW.gr cK (fun k hk e => by have := Sx_base hk; injection e; omega); replace bK := bK.gr cK (fun k hk e => by have := Sx_base hk; injection e; omega)
    replace bL := bL.gr cK (fun k hk e => by have := Sx_base hk; injection e; omega); clear bR cK
    refine ⟨mN, ?_⟩
    refine AtH.done (by kernel_rfl) ?_
    clear mN
    refine t_n ?_
    have pC := pB.sub (r := [(14, .slice aE xl.length bD), (42, .int .i64 (k)), (41, .int .i64 ((((lsD (inT g s) 256 : List Int).length : Nat) : Int))), (40, .slice aA ((lsD (inT g s) 256 : List Int).length) aF), (11, .pointer (some ⟨aD.heap.size, 0, none⟩)), (8, .slice aA ((lsD (inT g s) 256 : List Int).length) aF), (7, .pointer (some ⟨aV.heap.size, 0, none⟩)), (4, .pointer (some ⟨aH.heap.size, 0, none⟩)), (3, .pointer (some ⟨w1.heap.size, 0, none⟩)), (2, .pointer (some ⟨w.heap.size, 0, none⟩))]) ⟨rfl, rfl, rfl, rfl, rfl, rfl, rfl, rfl, rfl, rfl, trivial⟩
    exact ⟨fA, iT, pC, bM, bN, bT, bH, bO, bP, bQ, (bI.imp (fun g _ hs => ⟨hs.2.1, hs.2.2.1, hs.2.2.2.1, hs.2.2.2.2.1, hs.2.2.2.2.2.1, (by have := Sx_base hs; show bE.heap.size ≤ g; omega)⟩)), iX, (bJ.imp (fun g _ hs => ⟨hs.2.1, hs.2.2.1, hs.2.2.2.1, hs.2.2.2.2.1, (by have := Sx_base hs; show aC.heap.size ≤ g; omega)⟩)), iW, (bK.imp (fun g _ hs => ⟨hs.2.1, hs.2.2.1, hs.2.2.2.1, hs.2.2.2.2.1, (by have := Sx_base hs; show aC.heap.size ≤ g; omega)⟩)), (bL.imp (fun g _ hs => ⟨hs.2.1, hs.2.2.1, hs.2.2.2.1, hs.2.2.2.2.1, (by have := Sx_base hs; show bB.heap.size ≤ g; omega)⟩)), (by omega)⟩
   refine OneH.seq hE [[]] [(87, .slice (some ⟨bU.heap.size, 0, none⟩) 1 1)] (bU.alloc (.cells #[.int .i64 (gI g.pr (gI (lsD (inT g s) 256 : List Int) k))] 3 (0, 0))) [] #[true, false, true, true, true, true, true, true, false, false, false] (by kernel_rfl) (by kernel_rfl) (by kernel_rfl) trivial (fun tH gC iY mO => ?_)
   clear hE; have cD := gr_alloc iY; have iZ := hD.gr cD
   refine ⟨iZ, ?_⟩
   have := cD.size; replace bM := bM.gn cD; replace bN := bN.gn cD; replace bT := bT.gn cD; replace bH := bH.gn cD; replace bO := bO.gn cD; replace bP := bP.gn cD; replace bQ := bQ.gn cD; replace bI := bI.grN cD; replace bR := bR.gn cD; replace bJ := bJ.grN cD; replace aO := aO.grN cD; replace bK := bK.grN cD; replace bL := bL.grN cD
   have jA : Bx gC (bU.heap.size) [.int .i64 (gI g.pr (gI (lsD (inT g s) 256 : List Int) k))] 3 := Bx.new iY; have := jA.lt; clear cD iY
   refine AtH.all [1] 3 (by kernel_rfl) (by simp) ⟨?_, trivial⟩
   refine OneH.seq mO [[.ld (.slice aG xp.length aW)]] [(81, .slice aG xp.length aW)] gC [(gC.cell? ⟨aD.heap.size, 1, none⟩ = some (.slice aG xp.length aW))] #[true, true, true, true, true, true, true, true, false, false, false] (by kernel_rfl) (by kernel_rfl) (by kernel_rfl) ⟨(bR.cell (i := 1) rfl), trivial⟩ (fun tI pD pE mP => ?_)
   obtain rfl : gC = pD := pE.symm
   clear mO
   refine ⟨iZ, ?_⟩
   refine AtH.all [8] 2 (by kernel_rfl) (by simp) ⟨?_, trivial⟩
   have pF : (xp ++ ([gI g.pr (gI (lsD (inT g s) 256 : List Int) k)])).length = (xp).length + ([gI g.pr (gI (lsD (inT g s) 256 : List Int) k)] : List Int).length := List.length_append
   simp only [List.length_cons, List.length_nil] at pF
   refine OneH.act mP #[true, true, true, true, true, true, true, true, true, false, false] (by kernel_rfl) (appendR (α := Int) (t := 22) (d := 88) (n := xp.length) (m := 1) (cc := 1) (xs := xp) (ys := [gI g.pr (gI (lsD (inT g s) 256 : List Int) k)]) (bytes := 8) (by first | rfl | omega | (simp; done) | (simp; omega)) (by first | rfl | omega | (simp; done) | (simp; omega)) (by kernel_rfl) rfl (by kernel_rfl) aO (Bx.srcR (l := ([gI g.pr (gI (lsD (inT g s) 256 : List Int) k)] : List Int)) jA rfl) (by simp only [List.length_cons, List.length_nil]; omega) (by simp only [List.length_cons, List.length_nil]; omega)) ?_
   rintro d_ v_ hH ⟨rfl, fB, jB, dX⟩
   obtain rfl := dX.val
   have cL := dX.gr
   have jC := iZ.grO cL (by rw [eZ]; exact ⟨(fun e => by have := aO.ge _ e; simp only [add_block] at this; omega), (fun e => by have := aO.ge _ e; simp only [add_block] at this; omega), trivial⟩)
   refine ⟨_, rfl, fun tJ mQ => ⟨jC, ?_⟩⟩
   clear mP; clear jA
   have jD := dX.own (Sx (aC.heap.size) [obk (aE), obk (aB), obk (aA), obk (aM)]) (fun g _ hs => ⟨hs.2.1, hs.2.2.1, hs.2.2.2.1, hs.2.2.2.2.1, hs.2.2.2.2.2⟩) ⟨bL.ne_new, bK.ne_new, bI.ne_new, bJ.ne_new, (show aC.heap.size ≤ gC.heap.size by omega)⟩
   have := cL.size; replace bM := bM.gr cL (fun k hk => by have := aO.ge k hk; omega); replace bN := bN.gr cL (fun k hk => by have := aO.ge k hk; omega); replace bT := bT.gr cL (fun k hk => by have := aO.ge k hk; omega); replace bH := bH.gr cL (fun e => by have := aO.ge _ e; omega); replace bO := bO.gr cL (fun e => by have := aO.ge _ e; omega)
   replace bP := bP.gr cL (fun e => by have := aO.ge _ e; omega); replace bQ := bQ.gr cL (fun e => by have := aO.ge _ e; omega)
   replace bI : OwnR hH (Sx (bE.heap.size) [some (bU.heap.size), obk (aE), obk (aB), obk (fB), obk (aM), some (aD.heap.size)]) aA aF 3 ((lsD (inT g s) 256 : List Int) : List Int) := bI.grA cL (fun k hk => hk.2.2.2.1) (fun k hk hs => ⟨hs.1, hs.2.1, hs.2.2.1, own_repl dX.at_ hs.2.2.2.1 hk, hs.2.2.2.2.1, hs.2.2.2.2.2.1, hs.2.2.2.2.2.2⟩)
   replace bR := bR.gr cL (fun e => by have := aO.ge _ e; omega)
   replace bJ : OwnR hH (Sx (aC.heap.size) [some (bU.heap.size), obk (aE), obk (aB), obk (fB), obk (aA)]) aM cT 3 (xo ++ ([gI g.ow (gI (lsD (inT g s) 256 : List Int) k)]) : List Int) := bJ.grA cL (fun k hk => hk.2.2.2.1) (fun k hk hs => ⟨hs.1, hs.2.1, hs.2.2.1, own_repl dX.at_ hs.2.2.2.1 hk, hs.2.2.2.2.1, hs.2.2.2.2.2⟩)
   replace bK : OwnLL hH (aC.heap.size) [some (bU.heap.size), obk (aE), obk (aA), obk (aM), obk (fB)] aB aL 22 3 (xm : List (List Int)) := bK.grA cL (fun k hk => hk.2.2.2.2.1) (fun k hk hs => ⟨hs.1, hs.2.1, hs.2.2.1, hs.2.2.2.1, own_repl dX.at_ hs.2.2.2.2.1 hk, hs.2.2.2.2.2⟩)
   replace bL : OwnR hH (Sx (bB.heap.size) [some (bU.heap.size), obk (aA), obk (aM), obk (fB), obk (aB)]) aE bD 3 (xl : List Int) := bL.grA cL (fun k hk => hk.2.2.2.1) (fun k hk hs => ⟨hs.1, hs.2.1, hs.2.2.1, own_repl dX.at_ hs.2.2.2.1 hk, hs.2.2.2.2.1, hs.2.2.2.2.2⟩)
   clear aO cL dX
   refine AtH.rd (by kernel_rfl) (fun d v c a w h => by cases d <;> exact h) jC [9] [[]] [(89, .pointer (some ⟨aD.heap.size, 1, none⟩))] #[true, true, true, true, true, true, true, true, true, true, false] [] 1 mQ (by kernel_rfl) trivial (fun tK mR => ?_)
   clear mQ
   refine AtH.all [10] 0 (by kernel_rfl) (by simp) ⟨?_, trivial⟩
   refine OneH.store mR (t := 22) (b := aD.heap.size) (off := 1) (v := .slice fB ((xp ++ ([gI g.pr (gI (lsD (inT g s) 256 : List Int) k)])).length) jB) #[true, true, true, true, true, true, true, true, true, true, true] (by kernel_rfl) (by kernel_rfl) bR (by kernel_rfl) (fun tL pG cM jE pH => ?_)
   clear mR
   replace jE : Bx pG (aD.heap.size) [.slice aM ((xo ++ ([gI g.ow (gI (lsD (inT g s) 256 : List Int) k)])).length) cT, .slice fB ((xp ++ ([gI g.pr (gI (lsD (inT g s) 256 : List Int) k)])).length) jB, .slice aB xm.length aL] 25 := jE
   have mS := jC.gr' cM (by rw [eZ]; exact ⟨(by simp only [add_block]; omega), (by simp only [add_block]; omega), trivial⟩); have := cM.size; replace bM := bM.gr cM (fun k h => by injection h; omega); replace bN := bN.gb cM (by omega); replace bT := bT.gb cM (by omega); replace bH := bH.gb cM (by omega); replace bO := bO.gb cM (by omega); replace bP := bP.gb cM (by omega)
   replace bQ := bQ.gb cM (by omega); replace bI := bI.gr cM (fun k hk => hk.2.2.2.2.2.1); replace bJ := bJ.gr cM (fun k hk e => by have := Sx_base hk; injection e; omega); replace jD := jD.gr cM (fun k hk e => by have := Sx_base hk; injection e; omega); replace bK := bK.gr cM (fun k hk e => by have := Sx_base hk; injection e; omega)
   replace bL := bL.gr cM (fun k hk e => by have := Sx_base hk; injection e; omega); clear bR cM
   refine ⟨mS, ?_⟩
   refine AtH.done (by kernel_rfl) ?_
   clear mS
   refine t_n ?_
   have pI := pH.sub (r := [(14, .slice aE xl.length bD), (42, .int .i64 (k)), (41, .int .i64 ((((lsD (inT g s) 256 : List Int).length : Nat) : Int))), (40, .slice aA ((lsD (inT g s) 256 : List Int).length) aF), (11, .pointer (some ⟨aD.heap.size, 0, none⟩)), (8, .slice aA ((lsD (inT g s) 256 : List Int).length) aF), (7, .pointer (some ⟨aV.heap.size, 0, none⟩)), (4, .pointer (some ⟨aH.heap.size, 0, none⟩)), (3, .pointer (some ⟨w1.heap.size, 0, none⟩)), (2, .pointer (some ⟨w.heap.size, 0, none⟩))]) ⟨rfl, rfl, rfl, rfl, rfl, rfl, rfl, rfl, rfl, rfl, trivial⟩
   exact ⟨fB, jB, pI, bM, bN, bT, bH, bO, bP, bQ, (bI.imp (fun g _ hs => ⟨hs.2.1, hs.2.2.1, hs.2.2.2.1, hs.2.2.2.2.1, hs.2.2.2.2.2.1, (by have := Sx_base hs; show bE.heap.size ≤ g; omega)⟩)), jE, (bJ.imp (fun g _ hs => ⟨hs.2.1, hs.2.2.1, hs.2.2.2.1, hs.2.2.2.2.1, (by have := Sx_base hs; show aC.heap.size ≤ g; omega)⟩)), jD, (bK.imp (fun g _ hs => ⟨hs.2.1, hs.2.2.1, hs.2.2.2.1, hs.2.2.2.2.1, (by have := Sx_base hs; show aC.heap.size ≤ g; omega)⟩)), (bL.imp (fun g _ hs => ⟨hs.2.1, hs.2.2.1, hs.2.2.2.1, hs.2.2.2.2.1, (by have := Sx_base hs; show bB.heap.size ≤ g; omega)⟩)), (by omega)⟩
  clear bN; clear bT; clear bH; clear bO; clear bP; clear bQ; clear bI; clear bR; clear bJ; clear aO; clear bK; clear bL; clear iQ bM
  intro tM fC ⟨cQ, fL, mT, dY, fD, fE, dZ, eA, eB, eC, eD, eE, eF, eG, cU, hI, tN⟩
  have := dY.size; have := dZ.lt; have := eA.lt; have := eB.lt; have := eC.lt; have := eE.lt
  refine At.start ?_
  refine At.rd mT 3 [[], [.ld (.slice aB xm.length aL)], []] [(92, .slice aE xl.length bD), (91, .slice aB xm.length aL), (90, .pointer (some ⟨aD.heap.size, 2, none⟩))] [(fC.cell? ⟨aD.heap.size, 2, none⟩ = some (.slice aB xm.length aL))] (by kernel_rfl) ⟨(eE.cell (i := 2) rfl), trivial⟩ (fun tO mU => ?_)
  clear mT
  refine At.seq mU 1 [[]] [(93, .slice (some ⟨fC.heap.size, 0, none⟩) 1 1)] (fC.alloc (.cells #[.slice aE xl.length bD] 22 (0, 0))) [] (by kernel_rfl) trivial (fun tP hJ jF mV => ?_)
  clear mU; have cN := gr_alloc jF; have := cN.size; replace dY := dY.gn cN; replace fD := fD.gn cN; replace fE := fE.gn cN; replace dZ := dZ.gn cN; replace eA := eA.gn cN; replace eB := eB.gn cN; replace eC := eC.gn cN; replace eD := eD.grN cN; replace eE := eE.gn cN; replace eF := eF.grN cN; replace eG := eG.grN cN; replace cU := cU.grN cN; replace hI := hI.grN cN
  have jG : Bx hJ (fC.heap.size) [.slice aE xl.length bD] 22 := Bx.new jF; have := jG.lt; clear cN jF
  have mW : OwnR hJ (Sx (aC.heap.size) [obk (aA), obk (aM), obk (cQ)]) aE bD 3 (xl : List Int) := hI.imp (fun g _ hs => ⟨hs.2.1, hs.2.2.1, hs.2.2.2.1, (by have := Sx_base hs; show aC.heap.size ≤ g; omega)⟩)
  have mX : OwnLL hJ (aC.heap.size) [obk (aE), obk (aA), obk (aM), obk (cQ)] aB aL 22 3 (xm : List (List Int)) := (cU.imp (fun g _ hs => ⟨hs.2.1, hs.2.2.1, hs.2.2.2.1, hs.2.2.2.2.1, hs.2.2.2.2.2⟩))
  have tQ : (xm ++ [xl]).length = (xm).length + 1 := by simp
  refine At.act mV (appendLL (t := 23) (d := 94) (n := xm.length) (m := 1) (cc := 1) (ls := xm) (xs := xl) (bytes := 24) (by first | rfl | omega | (simp; done) | (simp; omega)) (by kernel_rfl) (by kernel_rfl) (jG.as (by first | rfl | (simp; done))) mX mW ⟨eD.ne_new, eF.ne_new, eG.ne_new, (show aC.heap.size ≤ hJ.heap.size by omega)⟩ (by omega) (by omega)) ?_
  rintro d_ v_ jH ⟨rfl, fM, jI, rfl, cR, hK, jJ⟩
  refine ⟨_, rfl, fun tR mY => ?_⟩
  clear mV; clear jG hI mW mX; have := cR.size; replace dY := dY.gr cR (fun k hk => by have := cU.ge k hk; omega); replace fD := fD.gr cR (fun k hk => by have := cU.ge k hk; omega); replace fE := fE.gr cR (fun k hk => by have := cU.ge k hk; omega); replace dZ := dZ.gr cR (fun e => by have := cU.ge _ e; omega); replace eA := eA.gr cR (fun e => by have := cU.ge _ e; omega)
  replace eB := eB.gr cR (fun e => by have := cU.ge _ e; omega); replace eC := eC.gr cR (fun e => by have := cU.ge _ e; omega)
  replace eD : OwnR jH (Sx (bE.heap.size) [some (fC.heap.size), obk (aE), obk (fM), obk (cQ), obk (aM), some (aD.heap.size)]) aA aF 3 ((lsD (inT g s) 256 : List Int) : List Int) := eD.grA cR (fun k hk => hk.2.2.1) (fun k hk hs => ⟨hs.1, hs.2.1, own_repl hK hs.2.2.1 hk, hs.2.2.2.1, hs.2.2.2.2.1, hs.2.2.2.2.2.1, hs.2.2.2.2.2.2⟩)
  replace eE := eE.gr cR (fun e => by have := cU.ge _ e; omega)
  replace eF : OwnR jH (Sx (aC.heap.size) [some (fC.heap.size), obk (aE), obk (fM), obk (cQ), obk (aA)]) aM cT 3 (xo ++ ([gI g.ow (gI (lsD (inT g s) 256 : List Int) k)]) : List Int) := eF.grA cR (fun k hk => hk.2.2.1) (fun k hk hs => ⟨hs.1, hs.2.1, own_repl hK hs.2.2.1 hk, hs.2.2.2.1, hs.2.2.2.2.1, hs.2.2.2.2.2⟩)
  replace eG : OwnR jH (Sx (aC.heap.size) [some (fC.heap.size), obk (aE), obk (fM), obk (aA), obk (aM)]) cQ fL 3 (xp ++ ([gI g.pr (gI (lsD (inT g s) 256 : List Int) k)]) : List Int) := eG.grA cR (fun k hk => hk.2.2.1) (fun k hk hs => ⟨hs.1, hs.2.1, own_repl hK hs.2.2.1 hk, hs.2.2.2.1, hs.2.2.2.2.1, hs.2.2.2.2.2⟩)
  clear cU cR hK
  refine At.rd mY 1 [[]] [(95, .pointer (some ⟨aD.heap.size, 2, none⟩))] [] (by kernel_rfl) trivial (fun tS mZ => ?_)
  clear mY
  refine At.store mZ (t := 23) (b := aD.heap.size) (off := 2) (v := .slice fM ((xm ++ [xl]).length) jI) (by kernel_rfl) eE (by kernel_rfl) (fun tT pJ cS jK nA => ?_)
  clear mZ
  replace jK : Bx pJ (aD.heap.size) [.slice aM ((xo ++ ([gI g.ow (gI (lsD (inT g s) 256 : List Int) k)])).length) cT, .slice cQ ((xp ++ ([gI g.pr (gI (lsD (inT g s) 256 : List Int) k)])).length) fL, .slice fM ((xm ++ [xl]).length) jI] 25 := jK
  have := cS.size; replace dY := dY.gr cS (fun k h => by injection h; omega); replace fD := fD.gb cS (by omega); replace fE := fE.gb cS (by omega); replace dZ := dZ.gb cS (by omega); replace eA := eA.gb cS (by omega); replace eB := eB.gb cS (by omega); replace eC := eC.gb cS (by omega); replace eD := eD.gr cS (fun k hk => hk.2.2.2.2.2.1)
  replace eF := eF.gr cS (fun k hk e => by have := Sx_base hk; injection e; omega); replace eG := eG.gr cS (fun k hk e => by have := Sx_base hk; injection e; omega); replace jJ := jJ.gr cS (fun k hk e => by have := Sx_base hk; injection e; omega); clear eE cS
  refine At.done rfl ?_
  refine b_n ?_
  refine t_n ?_
  refine At.start ?_
  refine At.rd nA 2 [[.as_ (.int .i64 (k + 1))], []] [(42, .int .i64 (k + 1)), (96, .int .i64 (k + 1))] [((.int .i64 (IntKind.i64.wrap (k + 1)) : Value) = .int .i64 (k + 1))] (by kernel_rfl) ⟨(w64 (by omega) (by omega)), trivial⟩ (fun tU pK => ?_)
  clear nA
  refine At.done rfl ?_
  refine t_n ?_
  have pL := pK.sub (r := [(42, .int .i64 (k + 1)), (41, .int .i64 ((((lsD (inT g s) 256 : List Int).length : Nat) : Int))), (40, .slice aA ((lsD (inT g s) 256 : List Int).length) aF), (11, .pointer (some ⟨aD.heap.size, 0, none⟩)), (8, .slice aA ((lsD (inT g s) 256 : List Int).length) aF), (7, .pointer (some ⟨aV.heap.size, 0, none⟩)), (4, .pointer (some ⟨aH.heap.size, 0, none⟩)), (3, .pointer (some ⟨w1.heap.size, 0, none⟩)), (2, .pointer (some ⟨w.heap.size, 0, none⟩))]) ⟨rfl, rfl, rfl, rfl, rfl, rfl, rfl, rfl, rfl, trivial⟩
  exact ⟨_, (by omega), (k + 1), (xo ++ ([gI g.ow (gI (lsD (inT g s) 256 : List Int) k)]) : List Int), aM, cT, (xp ++ ([gI g.pr (gI (lsD (inT g s) 256 : List Int) k)]) : List Int), cQ, fL, (xm ++ [xl] : List (List Int)), fM, jI, rfl, pL, dY, fD, fE, dZ, eA, eB, eC, (eD.imp (fun g _ hs => ⟨hs.2.2.1, hs.2.2.2.1, hs.2.2.2.2.1, hs.2.2.2.2.2.1, hs.2.2.2.2.2.2⟩)), jK, (eF.imp (fun g _ hs => ⟨hs.2.2.1, hs.2.2.2.1, hs.2.2.2.2.1, hs.2.2.2.2.2⟩)), (eG.imp (fun g _ hs => ⟨hs.2.2.1, hs.2.2.2.1, hs.2.2.2.2.1, hs.2.2.2.2.2⟩)), jJ, (by omega), (by omega), (map_push hxo (by omega) (by omega)), (map_push hxp (by omega) (by omega)), (by rw [hxe]; exact map_push hxm (by omega) (by omega)), (gone_next hgo (by rw [← hxe]; exact hne)), (by omega), (by omega)⟩
 have tV := of_decide_eq_false hX
 refine wp_exit ?_
 refine t_e ?_
 refine t_e ?_
 refine b_e ?_
 refine t_n ?_
 clear fR; clear gO; clear gP
 refine wp_seq ?_
 refine At.start ?_
 refine At.rd fT 5 [[.ld (.slice aK xo.length bG), .ld (.slice aG xp.length aW), .ld (.slice aB xm.length aL)], [], [], [], []] [(101, .bool (decide (((((lsD (inT g s) 256 : List Int).length : Nat) : Int) : Int) > 0))), (100, .int .i64 ((((lsD (inT g s) 256 : List Int).length : Nat) : Int))), (99, .slice aA ((lsD (inT g s) 256 : List Int).length) aF), (98, .slice aA ((lsD (inT g s) 256 : List Int).length) aF), (97, .agg #[.slice aK xo.length bG, .slice aG xp.length aW, .slice aB xm.length aL])] [(bB.cell? ⟨aD.heap.size, 0, none⟩ = some (.slice aK xo.length bG)), (bB.cell? ⟨aD.heap.size, 1, none⟩ = some (.slice aG xp.length aW)), (bB.cell? ⟨aD.heap.size, 2, none⟩ = some (.slice aB xm.length aL))] (by kernel_rfl) ⟨(dF.cell (i := 0) rfl), (dF.cell (i := 1) rfl), (dF.cell (i := 2) rfl), trivial⟩ (fun tW nB => ?_)
 clear fT
 refine At.store nB (t := 25) (b := aH.heap.size) (off := 0) (v := .agg #[.slice aK xo.length bG, .slice aG xp.length aW, .slice aB xm.length aL]) (by kernel_rfl) fS (by kernel_rfl) (fun tX hL cX gD nC => ?_)
 clear nB; replace gD : Bx hL (aH.heap.size) [.slice aK xo.length bG, .slice aG xp.length aW, .slice aB xm.length aL] 25 := gD; have := cX.size; replace fJ := fJ.gr cX (fun k h => by injection h; omega); replace fQ := fQ.gb cX (by omega); replace gN := gN.gb cX (by omega); replace dR := dR.gr cX (fun k hk e => by have := Sx_base hk; injection e; omega); replace dF := dF.gb cX (by omega)
 replace eR := eR.gr cX (fun k hk e => by have := Sx_base hk; injection e; omega); replace eS := eS.gr cX (fun k hk e => by have := Sx_base hk; injection e; omega); have pM := gQ.gr cX (fun k hk e => by have := Sx_base hk; injection e; omega); clear gQ; clear fS cX
 refine At.rd nC 2 [[], []] [(6, .bool (decide (((((lsD (inT g s) 256 : List Int).length : Nat) : Int) : Int) > 0))), (5, .slice aA ((lsD (inT g s) 256 : List Int).length) aF)] [] (by kernel_rfl) trivial (fun tY pN => ?_)
 clear nC
 refine At.done rfl ?_
 refine t_n ?_
 clear dF
 refine wp_ret ?_
 refine ret_ pN [[.slice aK xo.length bG, .slice aG xp.length aW, .slice aB xm.length aL]] [.agg #[.slice aK xo.length bG, .slice aG xp.length aW, .slice aB xm.length aL], .slice aA ((lsD (inT g s) 256 : List Int).length) aF, .bool (decide (((((lsD (inT g s) 256 : List Int).length : Nat) : Int) : Int) > 0))] [(hL.cell? ⟨aH.heap.size, 0, none⟩ = some (.slice aK xo.length bG)), (hL.cell? ⟨aH.heap.size, 1, none⟩ = some (.slice aG xp.length aW)), (hL.cell? ⟨aH.heap.size, 2, none⟩ = some (.slice aB xm.length aL))] (by kernel_rfl) ⟨(gD.cell (i := 0) rfl), (gD.cell (i := 1) rfl), (gD.cell (i := 2) rfl), trivial⟩ ?_
 obtain ⟨e1_, e2_, e3_⟩ := sub_yes hR (gone_all hgo (by omega))
 rw [e1_, e2_, e3_, ← map_all hxo (by omega), ← map_all hxp (by omega), ← map_all hxm (by omega)]
 exact ⟨aK, bG, aG, aW, aB, aL, aA, aF, rfl, fJ, (eR.imp (fun g _ hs => ⟨hs.2.1, hs.1, hs.2.2.1, (by have := Sx_base hs; show w.heap.size ≤ g; omega)⟩)), (eS.imp (fun g _ hs => ⟨hs.2.2.1, hs.1, hs.2.1, (by have := Sx_base hs; show w.heap.size ≤ g; omega)⟩)), (pM.imp (fun g _ hs => ⟨hs.2.1, hs.2.2.1, hs.1, (by have := Sx_base hs; show w.heap.size ≤ g; omega)⟩)), (dR.imp (fun g _ hs => ⟨hs.2.2.1, hs.2.1, hs.1, (by have := Sx_base hs; show w.heap.size ≤ g; omega)⟩))⟩

end Go.Proofs.YtplpgfcjjnaigaaDoor
