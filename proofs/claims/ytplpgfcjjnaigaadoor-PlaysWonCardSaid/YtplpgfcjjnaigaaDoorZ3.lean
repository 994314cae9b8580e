/-
  Texts of this repo, laid together: the frame of the walks, plain lemmas, walks of Go functions. Conditions: what the theorems name.
-/
import Derived.Test.YtplpgfcjjnaigaaDoorZ2
set_option linter.unusedVariables false
set_option linter.unusedSimpArgs false
namespace Go.Proofs.YtplpgfcjjnaigaaDoor
open Go Go.RowKit
attribute [local irreducible] ofZ fromW wordsD ofD ofW lsD lenW lenN fullW withW lessW hasW hasD inW inD leastD putD onI tzI orS andS minusS orD andD minusD fullD emptyD
set_option maxHeartbeats 4000000 in
theorem attract_any {Ag0 Ag1 Ag2 : Option Addr} {cg0 cg1 cg2 : Nat} {g : GameL} {s : List Int} {t : List Int} {p : Int} {w : World} (rg : RdG w 0 w.heap.size Ag0 Ag1 Ag2 cg0 cg1 cg2 g) (hs : OkW s) (ht : OkW t) (rT : RdT w 0 w.heap.size) :
    Calls Tryd.prog 41 #[.agg #[.slice Ag0 g.ow.length cg0, .slice Ag1 g.pr.length cg1, .slice Ag2 g.mv.length cg2], .agg ((s : List Int).map wV).toArray, .int .i64 (p), .agg ((t : List Int).map wV).toArray] w fun e w' => ∃ A c ss mvs, e = .returned (.tuple #[.agg ((ss : List Int).map wV).toArray, .slice A (mvs : List Int).length c]) ∧ Ext w w' ∧ OwnR w' (Sx w.heap.size []) A c 3 mvs ∧ AttractT g s p t ss mvs := by
 have hlg0 := rg.ow.len; have hlg1 := rg.pr.len; have hlg2 := rg.mv.len; have hkg0 := rg.k0; have hkg1 := rg.k1; have hkg2 := rg.k2; have hls := hs.1; have hlt := ht.1
 refine enter_ (args := [.agg #[.slice Ag0 g.ow.length cg0, .slice Ag1 g.pr.length cg1, .slice Ag2 g.mv.length cg2], .agg ((s : List Int).map wV).toArray, .int .i64 (p), .agg ((t : List Int).map wV).toArray]) Tryd.func41 rfl Tryd.ntmps41 (Nat.le_of_ble_eq_true rfl) (fun act0 f0 => ?_)
 have e0 : Ext w w := Ext.refl w
 refine sqs ?_
 refine At.bx f0 4 [.slice Ag0 g.ow.length cg0, .slice Ag1 g.pr.length cg1, .slice Ag2 g.mv.length cg2] 25 (fun w1 g5 bx6 act4 f3 => ?_)
 clear f0; have := g5.size; replace e0 := e0.gn g5; have r9 := rg.gn g5; clear rg; have bT := rT.gn g5; clear rT; have := bx6.lt; clear g5
 refine At.bx f3 5 ((s : List Int).map wV) 44 (fun eS fR bY sQ jM => ?_)
 clear f3; have := fR.size; replace e0 := e0.gn fR; replace r9 := r9.gn fR; replace bT := bT.gn fR; replace bx6 := bx6.gn fR; have := bY.lt; clear fR
 refine At.bx jM 7 ((t : List Int).map wV) 44 (fun bU fJ cY sR jN => ?_)
 clear jM; have := fJ.size; replace e0 := e0.gn fJ; replace r9 := r9.gn fJ; replace bT := bT.gn fJ; replace bx6 := bx6.gn fJ; replace bY := bY.gn fJ; have := cY.lt; clear fJ
 refine At.bx jN 8 ((List.replicate 4 (0 : Int) : List Int).map wV) 44 (fun qD eT dU sS jO => ?_)
 clear jN; have := eT.size; replace e0 := e0.gn eT; replace r9 := r9.gn eT; replace bT := bT.gn eT; replace bx6 := bx6.gn eT; replace bY := bY.gn eT; replace cY := cY.gn eT; have := dU.lt; clear eT
 refine At.rk jO 1 [(9, .slice none 0 0)] .n (fun sT iB => ?_)
 clear jO
 refine At.dn ?_
 refine wp_seq (cut (fun a_ w_ => (Frm 163 a_ [(8, pt bU.heap.size 0), (7, pt eS.heap.size 0), (5, pt w1.heap.size 0), (4, pt w.heap.size 0), (2, .int .i64 (p))]) ∧ (Ext w w_) ∧ (RdG w_ 0 w.heap.size Ag0 Ag1 Ag2 cg0 cg1 cg2 g) ∧ (RdT w_ 0 w.heap.size) ∧ (Bx w_ (w.heap.size) [.slice Ag0 g.ow.length cg0, .slice Ag1 g.pr.length cg1, .slice Ag2 g.mv.length cg2] 25) ∧ (Bx w_ (w1.heap.size) ((s : List Int).map wV) 44) ∧ (Bx w_ (eS.heap.size) ((t : List Int).map wV) 44) ∧ (Bx w_ (bU.heap.size) ((List.replicate 4 (0 : Int) : List Int).map wV) 44) ∧ ((rightP g).2 = 0) ∧ (p = 0 ∨ p = 1) ∧ (qD.heap.size ≤ w_.heap.size)) ?_ ?_)
 ·refine sqs ?_
  refine At.rk iB 1 [(25, .agg #[.slice Ag0 g.ow.length cg0, .slice Ag1 g.pr.length cg1, .slice Ag2 g.mv.length cg2])] (.l (bx6.cell (i := 0) rfl) <| .l (bx6.cell (i := 1) rfl) <| .l (bx6.cell (i := 2) rfl) <| .n) (fun sU jP => ?_)
  clear iB
  refine At.cl jP (some 26) (right_any (r9.wide (Nat.zero_le _) ω)) ?_
  rintro e_ sV ⟨rfl, he⟩
  refine ⟨_, rfl, _, rfl, fun sW jQ => ?_⟩
  clear jP; have eG := gr_ext he; have := eG.size; replace e0 := e0.gn eG; replace r9 := r9.gn eG; replace bT := bT.gn eG; replace bx6 := bx6.gn eG; replace bY := bY.gn eG; replace cY := cY.gn eG; replace dU := dU.gn eG; clear eG he
  refine At.rk jQ 5 [(11, .int .i64 ((rightP g).2))] .n (fun sX fS => ?_)
  clear jQ
  refine At.dn ?_
  refine sqs ?_
  rcases Bool.eq_false_or_eq_true (((rightP g).2 : Int) != 0) with fT | fT
  ·have sY := bne_iff_ne.1 fT
   refine At.rk fS 10 [(38, .bool true)] (.e 31 fT <| .n) (fun sZ iC => ?_)
   clear fS
   refine At.dn ?_
   refine cond_T iC rfl ?_
   refine wp_seq ?_
   have hRn : ¬ (isR g = true ∧ (p = 0 ∨ p = 1)) := right_no3 ω
   refine At.start ?_
   refine At.rk iC 1 [(39, .agg (([0, 0, 0, 0] : List Int).map wV).toArray)] .n (fun tA jR => ?_)
   clear iC
   refine At.act jR (storeBlk (t := 44) (b := bU.heap.size) (n := 4) (cs' := (([0, 0, 0, 0] : List Int).map wV)) κ κ ((List.length_map _).trans (okLen okW_00)) oneW_ ((show (([0, 0, 0, 0] : List Int).map wV).length = 4 from ((List.length_map _).trans (okLen okW_00))).trans (show ((List.replicate 4 (0 : Int) : List Int).map wV).length = 4 from len_P).symm) dU) ?_
   rintro d_ v_ tB ⟨rfl, eU, qE⟩
   refine ⟨_, rfl, fun tC jS => ?_⟩
   clear jR; have := eU.size; replace e0 := e0.gr eU (fun k h => by injection h; omega); replace r9 := r9.gb eU ω; replace bT := bT.gb eU ω; replace bx6 := bx6.gb eU ω; replace bY := bY.gb eU ω; replace cY := cY.gb eU ω; clear dU eU
   refine At.rk jS 1 [(9, .slice none 0 0)] .n (fun tD qF => ?_)
   clear jS
   refine At.dn ?_
   refine wp_ret ?_
   refine t_r ?_
   refine ret2B_ qF (sl := 8) (cs := (([0, 0, 0, 0] : List Int).map wV)) (m := 4) (q := 9) (v := .slice none 0 0) rfl κ κ κ ((List.length_map _).trans (okLen okW_00)) qE ?_
   exact ⟨none, 0, _, [], rfl, e0, OwnR.nil, okW_00, .inl ⟨hRn, rfl, rfl⟩⟩
  have tE := bne_eq_false_iff_eq.1 fT
  rcases Bool.eq_false_or_eq_true ((p : Int) != 0) with fZ | fZ
  ·have tF := bne_iff_ne.1 fZ
   refine At.rk fS 10 [(38, .bool ((p : Int) != 1))] (.e 31 fT <| .e 34 fZ <| .n) (fun tG hC => ?_)
   clear fS
   refine At.dn ?_
   refine cond_S hC (t := (p : Int) != 1) rfl (fun iD => ?_) (fun iD => ?_)
   ·have tH := bne_iff_ne.1 iD
    refine wp_seq ?_
    have hRn : ¬ (isR g = true ∧ (p = 0 ∨ p = 1)) := right_no3 ω
    refine At.start ?_
    refine At.rk hC 1 [(39, .agg (([0, 0, 0, 0] : List Int).map wV).toArray)] .n (fun tI jT => ?_)
    clear hC
    refine At.act jT (storeBlk (t := 44) (b := bU.heap.size) (n := 4) (cs' := (([0, 0, 0, 0] : List Int).map wV)) κ κ ((List.length_map _).trans (okLen okW_00)) oneW_ ((show (([0, 0, 0, 0] : List Int).map wV).length = 4 from ((List.length_map _).trans (okLen okW_00))).trans (show ((List.replicate 4 (0 : Int) : List Int).map wV).length = 4 from len_P).symm) dU) ?_
    rintro d_ v_ tJ ⟨rfl, eV, qG⟩
    refine ⟨_, rfl, fun tK jU => ?_⟩
    clear jT; have := eV.size; replace e0 := e0.gr eV (fun k h => by injection h; omega); replace r9 := r9.gb eV ω; replace bT := bT.gb eV ω; replace bx6 := bx6.gb eV ω; replace bY := bY.gb eV ω; replace cY := cY.gb eV ω; clear dU eV
    refine At.rk jU 1 [(9, .slice none 0 0)] .n (fun tL qH => ?_)
    clear jU
    refine At.dn ?_
    refine wp_ret ?_
    refine t_r ?_
    refine ret2B_ qH (sl := 8) (cs := (([0, 0, 0, 0] : List Int).map wV)) (m := 4) (q := 9) (v := .slice none 0 0) rfl κ κ κ ((List.length_map _).trans (okLen okW_00)) qG ?_
    exact ⟨none, 0, _, [], rfl, e0, OwnR.nil, okW_00, .inl ⟨hRn, rfl, rfl⟩⟩
   have tM := bne_eq_false_iff_eq.1 iD
   refine wp_skip ?_
   refine t_n ?_
   exact ⟨hC.sb, e0, r9, bT, bx6, bY, cY, dU, ω, ω, ω⟩
  have tN := bne_eq_false_iff_eq.1 fZ
  refine At.rk fS 10 [(38, .bool false)] (.e 31 fT <| .e 34 fZ <| .n) (fun tO jV => ?_)
  clear fS
  refine At.dn ?_
  refine cond_F jV rfl ?_
  refine wp_skip ?_
  refine t_n ?_
  exact ⟨jV.sb, e0, r9, bT, bx6, bY, cY, dU, ω, ω, ω⟩
 clear r9; clear bT; clear bx6; clear bY; clear cY; clear dU; clear iB e0
 intro tP jW ⟨jX, bC, bM, bN, aZ, bD, bE, bF, i119, i120, i121⟩
 have := bC.size; have := aZ.lt; have := bD.lt; have := bE.lt; have := bF.lt
 refine wp_seq ?_
 have hR : isR g = true := right_of2 ω
 have hp01 : p = 0 ∨ p = 1 := by omega
 have hG := isR_ok hR; have hn1 := hG.n1; have hn0 := hG.n0; have hpl := hG.pl; have hml := hG.ml; have hnd := mv_nd hG
 refine At.start ?_
 refine At.rk jX 4 [(12, .int .i64 (((g.ow.length : Nat) : Int)))] (.l (aZ.cell (i := 0) rfl) <| .n) (fun tQ iE => ?_)
 clear jX
 refine At.dn ?_
 refine wp_seq (cut (fun a_ w_ => (Frm 163 a_ [(12, .int .i64 (((g.ow.length : Nat) : Int))), (8, pt bU.heap.size 0), (7, pt eS.heap.size 0), (5, pt w1.heap.size 0), (4, pt w.heap.size 0), (2, .int .i64 (p))]) ∧ (Ext w w_) ∧ (RdG w_ 0 w.heap.size Ag0 Ag1 Ag2 cg0 cg1 cg2 g) ∧ (RdT w_ 0 w.heap.size) ∧ (Bx w_ (w.heap.size) [.slice Ag0 g.ow.length cg0, .slice Ag1 g.pr.length cg1, .slice Ag2 g.mv.length cg2] 25) ∧ (Bx w_ (w1.heap.size) (((inS g s : List Int) : List Int).map wV) 44) ∧ (Bx w_ (eS.heap.size) ((t : List Int).map wV) 44) ∧ (Bx w_ (bU.heap.size) ((List.replicate 4 (0 : Int) : List Int).map wV) 44) ∧ (jW.heap.size ≤ w_.heap.size)) ?_ ?_)
 ·obtain ⟨jY, iF⟩ : ∃ c : List (Addr × Value), c = [] := ⟨_, rfl⟩
  have jZ : HoldsC jY jW := by rw [iF]; exact trivial
  refine AtH.start jY 5 _ κ rfl rfl (fun iG kA => ?_)
  have dV := gr_drew kA; have hD := jZ.gr dV; have := dV.size; replace bC := bC.gn dV; replace bM := bM.gn dV; replace bN := bN.gn dV; replace aZ := aZ.gn dV; replace bD := bD.gn dV; replace bE := bE.gn dV; replace bF := bF.gn dV; clear dV kA jZ
  refine AtH.rk hD iE [1] 4 [(44, .int .i64 (((g.ow.length : Nat) : Int)))] .n (fun tR hF => ?_)
  clear iE
  refine AtH.all [0, 2] 3 κ (by simp) ⟨?_, ?_, trivial⟩
  ·refine OneH.seq hF [[.cs ((s : List Int).map wV)]] [(43, .agg ((s : List Int).map wV).toArray)] iG [(((s : List Int).map wV).length = 4), (∀ (j : Nat) (v : Value), ((s : List Int).map wV)[j]? = some v → iG.cell? ((⟨w1.heap.size, 0, none⟩ : Addr).add j) = some v)] _ rfl κ κ ⟨((List.length_map _).trans σ), bD.whole, trivial⟩ (fun tS qI qJ kB => ?_)
   obtain rfl : iG = qI := qJ.symm
   clear hF
   refine ⟨hD, ?_⟩
   refine AtH.all [2] 2 κ (by simp) ⟨?_, trivial⟩
   refine OneH.cl kB (some 45) (full_any (n := ((g.ow.length : Nat) : Int)) ω) ?_
   rintro e_ tT ⟨rfl, he⟩
   refine ⟨_, rfl, _, rfl, fun tU kC => ?_⟩
   clear kB; have dW := gr_ext he; have kD := hD.gr dW; have := dW.size; replace bC := bC.gn dW; replace bM := bM.gn dW; replace bN := bN.gn dW; replace aZ := aZ.gn dW; replace bD := bD.gn dW; replace bE := bE.gn dW; replace bF := bF.gn dW; clear dW he
   refine ⟨kD, ?_⟩
   refine AtH.all [3] 1 κ (by simp) ⟨?_, trivial⟩
   refine OneH.cl kC (some 46) ((andS_any (s := s) (t := fullW ((g.ow.length : Nat) : Int)) σ (fullW_W _)).mono (R' := fun e w' => e = .returned (.agg (((inS g s : List Int) : List Int).map wV).toArray) ∧ Ext _ w') (fun e_ w_ h_ => by rw [show (andS s (fullW ((g.ow.length : Nat) : Int)) : List Int) = (inS g s : List Int) from rfl] at h_; exact h_)) ?_
   rintro e_ tV ⟨rfl, he⟩
   refine ⟨_, rfl, _, rfl, fun tW kE => ?_⟩
   clear kC; have dX := gr_ext he; have kF := kD.gr dX; have := dX.size; replace bC := bC.gn dX; replace bM := bM.gn dX; replace bN := bN.gn dX; replace aZ := aZ.gn dX; replace bD := bD.gn dX; replace bE := bE.gn dX; replace bF := bF.gn dX; clear dX he
   refine ⟨kF, ?_⟩
   refine AtH.all [4] 0 κ (by simp) ⟨?_, trivial⟩
   refine OneH.act kE _ rfl (storeBlk (t := 44) (b := w1.heap.size) (n := 4) (cs' := (((inS g s : List Int) : List Int).map wV)) κ κ ((List.length_map _).trans (okLen (inS_ok σ))) oneW_ ((show (((inS g s : List Int) : List Int).map wV).length = 4 from ((List.length_map _).trans (okLen (inS_ok σ)))).trans (show ((s : List Int).map wV).length = 4 from ((List.length_map _).trans σ)).symm) bD) ?_
   rintro d_ v_ tX ⟨rfl, eH, qK⟩
   have kG := kF.gr' eH (by rw [iF]; exact trivial)
   refine ⟨_, rfl, fun tY qL => ⟨kG, ?_⟩⟩
   clear kE; have := eH.size; replace bC := bC.gr eH (fun k h => by injection h; omega); replace bM := bM.gb eH ω; replace bN := bN.gb eH ω; replace aZ := aZ.gb eH ω; replace bE := bE.gb eH ω; replace bF := bF.gb eH ω; clear bD eH
   refine AtH.done κ ?_
   clear kG
   refine t_n ?_
   exact ⟨qL.sb, bC, bM, bN, aZ, qK, bE, bF, ω⟩
  refine OneH.cl hF (some 45) (full_any (n := ((g.ow.length : Nat) : Int)) ω) ?_
  rintro e_ iH ⟨rfl, he⟩
  refine ⟨_, rfl, _, rfl, fun tZ kH => ?_⟩
  clear hF; have dY := gr_ext he; have iI := hD.gr dY; have := dY.size; replace bC := bC.gn dY; replace bM := bM.gn dY; replace bN := bN.gn dY; replace aZ := aZ.gn dY; replace bD := bD.gn dY; replace bE := bE.gn dY; replace bF := bF.gn dY; clear dY he
  refine ⟨iI, ?_⟩
  refine AtH.all [0] 2 κ (by simp) ⟨?_, trivial⟩
  refine OneH.seq kH [[.cs ((s : List Int).map wV)]] [(43, .agg ((s : List Int).map wV).toArray)] iH [(((s : List Int).map wV).length = 4), (∀ (j : Nat) (v : Value), ((s : List Int).map wV)[j]? = some v → iH.cell? ((⟨w1.heap.size, 0, none⟩ : Addr).add j) = some v)] _ rfl κ κ ⟨((List.length_map _).trans σ), bD.whole, trivial⟩ (fun uA qM qN kI => ?_)
  obtain rfl : iH = qM := qN.symm
  clear kH
  refine ⟨iI, ?_⟩
  refine AtH.all [3] 1 κ (by simp) ⟨?_, trivial⟩
  refine OneH.cl kI (some 46) ((andS_any (s := s) (t := fullW ((g.ow.length : Nat) : Int)) σ (fullW_W _)).mono (R' := fun e w' => e = .returned (.agg (((inS g s : List Int) : List Int).map wV).toArray) ∧ Ext _ w') (fun e_ w_ h_ => by rw [show (andS s (fullW ((g.ow.length : Nat) : Int)) : List Int) = (inS g s : List Int) from rfl] at h_; exact h_)) ?_
  rintro e_ uB ⟨rfl, he⟩
  refine ⟨_, rfl, _, rfl, fun uC kJ => ?_⟩
  clear kI; have dZ := gr_ext he; have kK := iI.gr dZ; have := dZ.size; replace bC := bC.gn dZ; replace bM := bM.gn dZ; replace bN := bN.gn dZ; replace aZ := aZ.gn dZ; replace bD := bD.gn dZ; replace bE := bE.gn dZ; replace bF := bF.gn dZ; clear dZ he
  refine ⟨kK, ?_⟩
  refine AtH.all [4] 0 κ (by simp) ⟨?_, trivial⟩
  refine OneH.act kJ _ rfl (storeBlk (t := 44) (b := w1.heap.size) (n := 4) (cs' := (((inS g s : List Int) : List Int).map wV)) κ κ ((List.length_map _).trans (okLen (inS_ok σ))) oneW_ ((show (((inS g s : List Int) : List Int).map wV).length = 4 from ((List.length_map _).trans (okLen (inS_ok σ)))).trans (show ((s : List Int).map wV).length = 4 from ((List.length_map _).trans σ)).symm) bD) ?_
  rintro d_ v_ uD ⟨rfl, eI, qO⟩
  have kL := kK.gr' eI (by rw [iF]; exact trivial)
  refine ⟨_, rfl, fun uE qP => ⟨kL, ?_⟩⟩
  clear kJ; have := eI.size; replace bC := bC.gr eI (fun k h => by injection h; omega); replace bM := bM.gb eI ω; replace bN := bN.gb eI ω; replace aZ := aZ.gb eI ω; replace bE := bE.gb eI ω; replace bF := bF.gb eI ω; clear bD eI
  refine AtH.done κ ?_
  clear kL
  refine t_n ?_
  exact ⟨qP.sb, bC, bM, bN, aZ, qO, bE, bF, ω⟩
 clear bM; clear bN; clear aZ; clear bD; clear bE; clear bF; clear iE bC
 intro uF aO ⟨kM, eJ, eW, eX, eK, eL, eM, eN, uG⟩
 have := eJ.size; have := eK.lt; have := eL.lt; have := eM.lt; have := eN.lt
 refine sqs ?_
 refine At.rk kM 1 [(47, .int .i64 (((g.ow.length : Nat) : Int)))] .n (fun uH kN => ?_)
 clear kM
 refine At.act kN (makeR (k1 := .i64) (k2 := .i64) (α := SliceV) (e := 22) (bytes := 24) (t := 23) (d := 48) (n := ((g.ow.length : Nat) : Int)) (cap := ((g.ow.length : Nat) : Int)) ((⟨none, 0, 0⟩ : SliceV)) κ rfl κ ω ω ω ω) ?_
 rintro d_ v_ aS ⟨rfl, rfl, eO, iJ⟩
 refine ⟨_, rfl, fun uI kO => ?_⟩
 clear kN; replace iJ := iJ (Sx (aO.heap.size) []) (Nat.le_refl _); have := eO.size; replace eJ := eJ.gn eO; replace eW := eW.gn eO; replace eX := eX.gn eO; replace eK := eK.gn eO; replace eL := eL.gn eO; replace eM := eM.gn eO; replace eN := eN.gn eO; clear eO
 have : (List.replicate (((g.ow.length : Nat) : Int) : Int).toNat ((⟨none, 0, 0⟩ : SliceV) : SliceV)).length = (((g.ow.length : Nat) : Int) : Int).toNat := List.length_replicate
 have iK : OwnLL aS (aO.heap.size) [] (some ⟨aO.heap.size, 0, none⟩) ((((g.ow.length : Nat) : Int) : Int).toNat) 22 3 (List.replicate (((g.ow.length : Nat) : Int) : Int).toNat ([] : List Int) : List (List Int)) := iJ.ll
 have : (List.replicate (((g.ow.length : Nat) : Int) : Int).toNat ([] : List Int)).length = (((g.ow.length : Nat) : Int) : Int).toNat := List.length_replicate
 refine At.rk kO 1 [(13, .slice (some ⟨aO.heap.size, 0, none⟩) ((List.replicate (((g.ow.length : Nat) : Int) : Int).toNat ((⟨none, 0, 0⟩ : SliceV) : SliceV)).length) ((((g.ow.length : Nat) : Int) : Int).toNat))] .n (fun uJ kP => ?_)
 clear kO
 refine At.dn ?_
 refine sqs ?_
 refine At.rk kP 1 [(49, .int .i64 (((g.ow.length : Nat) : Int)))] .n (fun uK kQ => ?_)
 clear kP
 refine At.act kQ (makeR (k1 := .i64) (k2 := .i64) (α := Int) (e := 3) (bytes := 8) (t := 22) (d := 50) (n := ((g.ow.length : Nat) : Int)) (cap := ((g.ow.length : Nat) : Int)) (0) κ rfl κ ω ω ω ω) ?_
 rintro d_ v_ aV ⟨rfl, rfl, eA, gA⟩
 refine ⟨_, rfl, fun uL kR => ?_⟩
 clear kQ; replace gA := gA (Sx (aS.heap.size) [obk (some ⟨aO.heap.size, 0, none⟩)]) ⟨iK.ne_new, (Nat.le_refl _)⟩; have := eA.size; replace eJ := eJ.gn eA; replace eW := eW.gn eA; replace eX := eX.gn eA; replace eK := eK.gn eA; replace eL := eL.gn eA; replace eM := eM.gn eA; replace eN := eN.gn eA
 have gC : OwnLL aV (aO.heap.size) [obk (some ⟨aS.heap.size, 0, none⟩)] (some ⟨aO.heap.size, 0, none⟩) ((((g.ow.length : Nat) : Int) : Int).toNat) 22 3 (List.replicate (((g.ow.length : Nat) : Int) : Int).toNat ([] : List Int) : List (List Int)) := iK.grA eA (fun _ _ h => by cases h) (fun k hk hs => ⟨(fun e => by simp only [obk, Option.map_some] at e; injection e; omega), hs⟩)
 clear iK; clear eA; have : (List.replicate (((g.ow.length : Nat) : Int) : Int).toNat (0 : Int)).length = (((g.ow.length : Nat) : Int) : Int).toNat := List.length_replicate
 refine At.rk kR 1 [(14, .slice (some ⟨aS.heap.size, 0, none⟩) ((List.replicate (((g.ow.length : Nat) : Int) : Int).toNat (0 : Int)).length) ((((g.ow.length : Nat) : Int) : Int).toNat))] .n (fun uM kS => ?_)
 clear kR
 refine At.dn ?_
 refine sqs ?_
 refine At.rk kS 1 [(51, .int .i64 (((g.ow.length : Nat) : Int)))] .n (fun uN kT => ?_)
 clear kS
 refine At.act kT (makeR (k1 := .i64) (k2 := .i64) (α := Int) (e := 3) (bytes := 8) (t := 22) (d := 52) (n := ((g.ow.length : Nat) : Int)) (cap := ((g.ow.length : Nat) : Int)) (0) κ rfl κ ω ω ω ω) ?_
 rintro d_ v_ kU ⟨rfl, rfl, dR, hH⟩
 refine ⟨_, rfl, fun uO kV => ?_⟩
 clear kT; replace hH := hH (Sx (aV.heap.size) [obk (some ⟨aO.heap.size, 0, none⟩), obk (some ⟨aS.heap.size, 0, none⟩)]) ⟨gC.ne_new, gA.ne_new, (Nat.le_refl _)⟩; have := dR.size; replace eJ := eJ.gn dR; replace eW := eW.gn dR; replace eX := eX.gn dR; replace eK := eK.gn dR; replace eL := eL.gn dR; replace eM := eM.gn dR; replace eN := eN.gn dR
 replace gC : OwnLL kU (aO.heap.size) [obk (some ⟨aV.heap.size, 0, none⟩), obk (some ⟨aS.heap.size, 0, none⟩)] (some ⟨aO.heap.size, 0, none⟩) ((((g.ow.length : Nat) : Int) : Int).toNat) 22 3 (List.replicate (((g.ow.length : Nat) : Int) : Int).toNat ([] : List Int) : List (List Int)) := gC.grA dR (fun _ _ h => by cases h) (fun k hk hs => ⟨(fun e => by simp only [obk, Option.map_some] at e; injection e; omega), hs.1, hs.2⟩)
 have kW : OwnR kU (Sx (aS.heap.size) [obk (some ⟨aV.heap.size, 0, none⟩), obk (some ⟨aO.heap.size, 0, none⟩)]) (some ⟨aS.heap.size, 0, none⟩) ((((g.ow.length : Nat) : Int) : Int).toNat) 3 (List.replicate (((g.ow.length : Nat) : Int) : Int).toNat (0 : Int) : List Int) := gA.grA dR (fun _ _ h => by cases h) (fun k hk hs => ⟨(fun e => by simp only [obk, Option.map_some] at e; injection e; omega), hs.1, hs.2⟩)
 clear gA; clear dR; have : (List.replicate (((g.ow.length : Nat) : Int) : Int).toNat (0 : Int)).length = (((g.ow.length : Nat) : Int) : Int).toNat := List.length_replicate
 refine At.rk kV 1 [(15, .slice (some ⟨aV.heap.size, 0, none⟩) ((List.replicate (((g.ow.length : Nat) : Int) : Int).toNat (0 : Int)).length) ((((g.ow.length : Nat) : Int) : Int).toNat))] .n (fun uP kX => ?_)
 clear kV
 refine At.dn ?_
 refine wp_seq ?_
 refine sqs ?_
 refine At.rk kX 2 [(54, .int .i64 (0)), (53, .int .i64 (((g.ow.length : Nat) : Int)))] .n (fun uQ kY => ?_)
 clear kX
 refine At.dn ?_
 refine wp_block ?_
 have kZ := kY.as 15 (.slice (some ⟨aV.heap.size, 0, none⟩) ((List.replicate (((g.ow.length : Nat) : Int) : Int).toNat (0 : Int)).length) ((((g.ow.length : Nat) : Int) : Int).toNat)) (.slice (some ⟨aV.heap.size, 0, none⟩) ((List.replicate (((g.ow.length : Nat) : Int) : Int).toNat (0 : Int) : List Int).length) ((((g.ow.length : Nat) : Int) : Int).toNat)) rfl (slice_len (by first | rfl | omega | (simp; done) | (simp; omega)))
 clear kY
 have lA := kZ.as 14 (.slice (some ⟨aS.heap.size, 0, none⟩) ((List.replicate (((g.ow.length : Nat) : Int) : Int).toNat (0 : Int)).length) ((((g.ow.length : Nat) : Int) : Int).toNat)) (.slice (some ⟨aS.heap.size, 0, none⟩) ((List.replicate (((g.ow.length : Nat) : Int) : Int).toNat (0 : Int) : List Int).length) ((((g.ow.length : Nat) : Int) : Int).toNat)) rfl (slice_len (by first | rfl | omega | (simp; done) | (simp; omega)))
 clear kZ
 have lB := lA.as 13 (.slice (some ⟨aO.heap.size, 0, none⟩) ((List.replicate (((g.ow.length : Nat) : Int) : Int).toNat ((⟨none, 0, 0⟩ : SliceV) : SliceV)).length) ((((g.ow.length : Nat) : Int) : Int).toNat)) (.slice (some ⟨aO.heap.size, 0, none⟩) ((List.replicate (((g.ow.length : Nat) : Int) : Int).toNat ([] : List Int) : List (List Int)).length) ((((g.ow.length : Nat) : Int) : Int).toNat)) rfl (slice_len (by first | rfl | omega | (simp; done) | (simp; omega)))
 clear lA
 refine loop_g (fun (m_ : Nat) a_ w_ => ∃ (i : Int) (fr : List (List Int)) (aE : Option Addr) (bA : Nat) (lf : List Int) (bG : Option Addr) (cG : Nat) (ms : List Int) (aT : Option Addr) (bV : Nat), m_ = ((g.ow.length : Int) - i).toNat ∧ (Frm 163 a_ [(54, .int .i64 (i)), (53, .int .i64 (((g.ow.length : Nat) : Int))), (15, .slice aT ms.length bV), (14, .slice bG lf.length cG), (13, .slice aE fr.length bA), (8, pt bU.heap.size 0), (7, pt eS.heap.size 0), (5, pt w1.heap.size 0), (4, pt w.heap.size 0), (2, .int .i64 (p))]) ∧ (Ext w w_) ∧ (RdG w_ 0 w.heap.size Ag0 Ag1 Ag2 cg0 cg1 cg2 g) ∧ (RdT w_ 0 w.heap.size) ∧ (Bx w_ (w.heap.size) [.slice Ag0 g.ow.length cg0, .slice Ag1 g.pr.length cg1, .slice Ag2 g.mv.length cg2] 25) ∧ (Bx w_ (w1.heap.size) (((inS g s : List Int) : List Int).map wV) 44) ∧ (Bx w_ (eS.heap.size) ((t : List Int).map wV) 44) ∧ (Bx w_ (bU.heap.size) ((List.replicate 4 (0 : Int) : List Int).map wV) 44) ∧ (OwnLL w_ (aO.heap.size) [obk (aT), obk (bG)] aE bA 22 3 (fr : List (List Int))) ∧ (OwnR w_ (Sx (aS.heap.size) [obk (aT), obk (aE)]) bG cG 3 (lf : List Int)) ∧ (OwnR w_ (Sx (aV.heap.size) [obk (aE), obk (bG)]) aT bV 3 (ms : List Int)) ∧ (0 ≤ i) ∧ (i ≤ (g.ow.length : Int)) ∧ (FrA g (inT g s) fr lf i 0) ∧ (ms.length = g.ow.length) ∧ (∀ j : Int, 0 ≤ j → j < i → gI ms j = -1) ∧ (aO.heap.size ≤ w_.heap.size) ∧ (aS.heap.size ≤ w_.heap.size) ∧ (aV.heap.size ≤ w_.heap.size)) _ ⟨0, (List.replicate (((g.ow.length : Nat) : Int) : Int).toNat ([] : List Int) : List (List Int)), some ⟨aO.heap.size, 0, none⟩, (((g.ow.length : Nat) : Int) : Int).toNat, (List.replicate (((g.ow.length : Nat) : Int) : Int).toNat (0 : Int) : List Int), some ⟨aS.heap.size, 0, none⟩, (((g.ow.length : Nat) : Int) : Int).toNat, (List.replicate (((g.ow.length : Nat) : Int) : Int).toNat (0 : Int) : List Int), some ⟨aV.heap.size, 0, none⟩, (((g.ow.length : Nat) : Int) : Int).toNat, rfl, lB.sb, eJ, eW, eX, eK, eL, eM, eN, gC, kW, hH, ω, ω, (by simp only [Int.toNat_natCast]; exact fra0), (by simp), (fun j a b => by omega), ω, ω, ω⟩ ?_
 clear lB; clear eW; clear eX; clear eK; clear eL; clear eM; clear eN; clear gC; clear kW; clear hH; clear eJ
 intro m_ uR uS ⟨i, fr, aE, bA, lf, bG, cG, ms, aT, bV, hm306, lC, bH, bI, bJ, bB, bO, bQ, bK, hI, bL, aX, i317, i318, hfr, i319, hms, i320, i321, i322⟩
 have := bH.size; have := bB.lt; have := bO.lt; have := bQ.lt; have := bK.lt; have hfl_ := hfr.len; have hll_ := hfr.ll
 refine sqs ?_
 refine At.rk lC 1 [(55, .bool (decide ((i : Int) < ((g.ow.length : Nat) : Int))))] .n (fun uT gD => ?_)
 clear lC
 refine At.dn ?_
 refine wp_seq ?_
 refine cond_S gD (t := decide ((i : Int) < ((g.ow.length : Nat) : Int))) rfl (fun iL => ?_) (fun iL => ?_)
 ·have uU := of_decide_eq_true iL
  refine wp_skip ?_
  refine t_n ?_
  refine wp_seq ?_
  refine wp_block ?_
  refine sqs ?_
  refine At.rk gD 2 [(16, .int .i64 (i))] .n (fun uV lD => ?_)
  clear gD
  refine At.dn ?_
  refine sqs ?_
  obtain ⟨lE, lF, uW, uX, uY⟩ := aX.get (i) ω ω (sz := 1) rfl
  refine At.rk lD 3 [(59, .pointer (some (lE.add ((i : Int).toNat * 1))))] (.a i ms.length lF <| .n) (fun uZ lG => ?_)
  clear lD
  refine At.act lG (storeR (α := Int) (t := 3) (i := i) (ad := lE) (v := .int .i64 (-1)) (-1) κ rfl rfl κ lF aX ω ω) ?_
  rintro d_ v_ vA ⟨rfl, dS, gE⟩
  refine ⟨_, rfl, fun vB lH => ?_⟩
  clear lG; have vC : ((ms).set (i : Int).toNat (-1)).length = (ms).length := List.length_set; have := dS.size; replace bH := bH.gr dS (fun k hk => by have := aX.ge k hk; omega); replace bI := bI.gr dS (fun k hk => by have := aX.ge k hk; omega); replace bJ := bJ.gr dS (fun k hk => by have := aX.ge k hk; omega); replace bB := bB.gr dS (fun e => by have := aX.ge _ e; omega)
  replace bO := bO.gr dS (fun e => by have := aX.ge _ e; omega); replace bQ := bQ.gr dS (fun e => by have := aX.ge _ e; omega); replace bK := bK.gr dS (fun e => by have := aX.ge _ e; omega); have gF := hI.gr dS (fun k hk => hk.1); clear hI; replace bL := bL.gr dS (fun k hk => hk.1); clear aX dS
  refine At.dn ?_
  refine wp_seq ?_
  refine sqs ?_
  refine At.rk lH 2 [(61, .int .i64 (i)), (60, .agg (((inS g s : List Int) : List Int).map wV).toArray)] (.p (show (((inS g s : List Int) : List Int).map wV).length = 4 from ((List.length_map _).trans (okLen (inS_ok σ)))) <| .p bO.whole <| .o (.cs (((inS g s : List Int) : List Int).map wV)) <| .n) (fun vD lI => ?_)
  clear lH
  refine At.cl lI (some 62) (has_any (s := (inS g s : List Int)) (n := i) (inS_ok σ)) ?_
  rintro e_ vE ⟨rfl, he⟩
  refine ⟨_, rfl, _, rfl, fun vF lJ => ?_⟩
  clear lI; have cZ := gr_ext he; have := cZ.size; replace bH := bH.gn cZ; replace bI := bI.gn cZ; replace bJ := bJ.gn cZ; replace bB := bB.gn cZ; replace bO := bO.gn cZ; replace bQ := bQ.gn cZ; replace bK := bK.gn cZ; replace gF := gF.gn cZ; replace bL := bL.gn cZ; replace gE := gE.gn cZ; clear cZ he
  refine At.rk lJ 1 [(63, .bool (!(hasW (inS g s : List Int) i)))] .n (fun vG gG => ?_)
  clear lJ
  refine At.dn ?_
  refine cond_S gG (t := !(hasW (inS g s : List Int) i)) rfl (fun fK => ?_) (fun fK => ?_)
  ·have vH : (hasW (inS g s : List Int) i) = false := by first | exact Eq.mp (Bool.not_eq_true' _) fK | exact Eq.mp (Bool.not_eq_false' _) fK | simpa using fK
   refine wp_exit ?_
   refine t_e ?_
   refine b_e ?_
   refine t_n ?_
   refine At.start ?_
   refine At.rk gG 2 [(54, .int .i64 (i + 1))] (.w 94 (i + 1) <| .n) (fun vI lK => ?_)
   clear gG
   refine At.dn ?_
   have lL := lK.as 15 (.slice aT ms.length bV) (.slice aT (((ms).set (i : Int).toNat (-1) : List Int).length) bV) rfl (slice_len (by first | (simp only [List.length_set]; done) | rfl | omega | (simp; done) | (simp; omega)))
   clear lK; have lM := lL.as 14 (.slice bG lf.length cG) (.slice bG ((lf : List Int).length) cG) rfl (slice_len (by first | rfl | omega | (simp; done) | (simp; omega))); clear lL
   have qQ := lM.as 13 (.slice aE fr.length bA) (.slice aE ((fr : List (List Int)).length) bA) rfl (slice_len (by first | rfl | omega | (simp; done) | (simp; omega)))
   clear lM
   exact ⟨_, ω, (i + 1), (fr : List (List Int)), aE, bA, (lf : List Int), bG, cG, ((ms).set (i : Int).toNat (-1) : List Int), aT, bV, rfl, qQ.sb, bH, bI, bJ, bB, bO, bQ, bK, gF, bL, gE, ω, ω, (fra_out hG hfr ω ω (by rw [← has_inT ω ω]; assumption)), (by rw [List.length_set]; assumption), (ms_next hms ω ω), ω, ω, ω⟩
  have vJ : (hasW (inS g s : List Int) i) = true := by first | exact Eq.mp (Bool.not_eq_true' _) fK | exact Eq.mp (Bool.not_eq_false' _) fK | simpa using fK
  refine wp_skip ?_
  refine t_n ?_
  refine wp_seq ?_
  have hIi : gB (inT g s) i = true := by rw [← has_inT ω ω]; assumption
  have hrl := row_len hG (i := i) ω ω
  refine At.start ?_
  obtain ⟨vK, iM, lN, qR, _, _, qS, vL, iN⟩ := RdII.get bI.mv (i) ω ω
  have vM := iN.len
  refine At.rk gG 7 [(70, .int .i64 (0)), (69, .int .i64 ((((gL g.mv (i)).length : Nat) : Int))), (68, .slice iM ((gL g.mv (i)).length) lN)] (.l (bB.cell (i := 2) rfl) <| .a i g.mv.length qR <| .l qS <| .n) (fun vN lO => ?_)
  clear gG
  refine At.dn ?_
  refine wp_block ?_
  have lP := lO.as 14 (.slice bG lf.length cG) (.slice bG ((lf : List Int).length) cG) rfl (slice_len (by first | rfl | omega | (simp; done) | (simp; omega))); clear lO
  have lQ := lP.as 13 (.slice aE fr.length bA) (.slice aE ((fr : List (List Int)).length) bA) rfl (slice_len (by first | rfl | omega | (simp; done) | (simp; omega)))
  clear lP
  refine loop_g (fun (m_ : Nat) a_ w_ => ∃ (q : Int) (fr2 : List (List Int)) (bP : Option Addr) (bZ : Nat) (lf2 : List Int) (bR : Option Addr) (dA : Nat), m_ = (((gL g.mv i).length : Int) - q).toNat ∧ (Frm 163 a_ [(70, .int .i64 (q)), (69, .int .i64 ((((gL g.mv (i)).length : Nat) : Int))), (68, .slice iM ((gL g.mv (i)).length) lN), (16, .int .i64 (i)), (54, .int .i64 (i)), (53, .int .i64 (((g.ow.length : Nat) : Int))), (15, .slice aT ms.length bV), (14, .slice bR lf2.length dA), (13, .slice bP fr2.length bZ), (8, pt bU.heap.size 0), (7, pt eS.heap.size 0), (5, pt w1.heap.size 0), (4, pt w.heap.size 0), (2, .int .i64 (p))]) ∧ (Ext w w_) ∧ (RdG w_ 0 w.heap.size Ag0 Ag1 Ag2 cg0 cg1 cg2 g) ∧ (RdT w_ 0 w.heap.size) ∧ (Bx w_ (w.heap.size) [.slice Ag0 g.ow.length cg0, .slice Ag1 g.pr.length cg1, .slice Ag2 g.mv.length cg2] 25) ∧ (Bx w_ (w1.heap.size) (((inS g s : List Int) : List Int).map wV) 44) ∧ (Bx w_ (eS.heap.size) ((t : List Int).map wV) 44) ∧ (Bx w_ (bU.heap.size) ((List.replicate 4 (0 : Int) : List Int).map wV) 44) ∧ (OwnLL w_ (aO.heap.size) [obk (aT), obk (bR)] bP bZ 22 3 (fr2 : List (List Int))) ∧ (OwnR w_ (Sx (aS.heap.size) [obk (aT), obk (bP)]) bR dA 3 (lf2 : List Int)) ∧ (OwnR w_ (Sx (aV.heap.size) [obk (bP), obk (bR)]) aT bV 3 ((ms).set (i : Int).toNat (-1) : List Int)) ∧ (RdI w_ 0 w.heap.size iM (gL g.mv (i))) ∧ (0 ≤ q) ∧ (q ≤ ((gL g.mv i).length : Int)) ∧ (FrA g (inT g s) fr2 lf2 i q) ∧ (aO.heap.size ≤ w_.heap.size) ∧ (aS.heap.size ≤ w_.heap.size) ∧ (aV.heap.size ≤ w_.heap.size)) _ ⟨0, (fr : List (List Int)), aE, bA, (lf : List Int), bG, cG, rfl, lQ.sb, bH, bI, bJ, bB, bO, bQ, bK, gF, bL, gE, iN, ω, ω, hfr, ω, ω, ω⟩ ?_
  clear lQ; clear bI; clear bJ; clear bB; clear bO; clear bQ; clear bK; clear gF; clear bL; clear gE; clear iN; clear bH
  intro m_ vO vP ⟨q, fr2, bP, bZ, lf2, bR, dA, hm400, lR, cA, cH, cI, cB, bW, cC, cD, iO, aU, cE, cJ, i412, i413, hfr2, i414, i415, i416⟩
  have := cA.size; have := cB.lt; have := bW.lt; have := cC.lt; have := cD.lt
  refine sqs ?_
  refine At.rk lR 1 [(71, .bool (decide ((q : Int) < (((gL g.mv (i)).length : Nat) : Int))))] .n (fun vQ gH => ?_)
  clear lR
  refine At.dn ?_
  refine wp_seq ?_
  refine cond_S gH (t := decide ((q : Int) < (((gL g.mv (i)).length : Nat) : Int))) rfl (fun iP => ?_) (fun iP => ?_)
  ·have vR := of_decide_eq_true iP
   refine wp_skip ?_
   refine t_n ?_
   refine wp_seq ?_
   refine wp_block ?_
   refine wp_seq ?_
   have hmk := hG.mv i ω ω q ω ω; have hfl2 := hfr2.len; have hll2 := hfr2.ll; have hfc := hfr2.cnt _ hmk.1 hmk.2; have hlb := fra_lb hfr2 ω ω ω
   refine At.start ?_
   obtain ⟨vS, qT, _, _, qU⟩ := RdI.get cJ (q) ω ω
   refine At.rk gH 3 [(18, .int .i64 (gI (gL g.mv (i)) (q)))] (.a q ((gL g.mv (i)).length) qT <| .l qU <| .n) (fun vT lS => ?_)
   clear gH
   refine At.dn ?_
   refine sqs ?_
   refine At.rk lS 2 [(75, .int .i64 (gI (gL g.mv (i)) (q))), (74, .agg (((inS g s : List Int) : List Int).map wV).toArray)] (.p (show (((inS g s : List Int) : List Int).map wV).length = 4 from ((List.length_map _).trans (okLen (inS_ok σ)))) <| .p bW.whole <| .o (.cs (((inS g s : List Int) : List Int).map wV)) <| .n) (fun vU lT => ?_)
   clear lS
   refine At.cl lT (some 76) (has_any (s := (inS g s : List Int)) (n := gI (gL g.mv (i)) (q)) (inS_ok σ)) ?_
   rintro e_ iQ ⟨rfl, he⟩
   refine ⟨_, rfl, _, rfl, fun vV gJ => ?_⟩
   clear lT; have cK := gr_ext he; have := cK.size; replace cA := cA.gn cK; replace cH := cH.gn cK; replace cI := cI.gn cK; replace cB := cB.gn cK; replace bW := bW.gn cK; replace cC := cC.gn cK; replace cD := cD.gn cK; have fU := iO.gn cK; clear iO; replace aU := aU.gn cK; replace cE := cE.gn cK; replace cJ := cJ.gn cK; clear cK he
   refine At.dn ?_
   refine cond_S gJ (t := hasW (inS g s : List Int) (gI (gL g.mv (i)) (q))) rfl (fun qV => ?_) (fun qV => ?_)
   ·refine sqs ?_
    obtain ⟨lU, qW, qX, iR, vW, qY, cF, bS⟩ := fU.get (gI (gL g.mv (i)) (q)) ω ω
    refine At.rk gJ 7 [(83, .int .i64 (i)), (82, .slice qW ((gL fr2 (gI (gL g.mv (i)) (q))).length) qX), (78, .int .i64 (gI (gL g.mv (i)) (q))), (77, .slice bP fr2.length bZ)] (.a (gI (gL g.mv (i)) (q)) fr2.length iR <| .l qY <| .n) (fun vX lV => ?_)
    clear gJ
    refine At.seq lV 1 [[]] [(84, .slice (some ⟨iQ.heap.size, 0, none⟩) 1 1)] (iQ.alloc (.cells #[.int .i64 (i)] 3 (0, 0))) [] κ trivial (fun vY lW iS lX => ?_)
    clear lV; have bX := gr_alloc iS; have := bX.size; replace cA := cA.gn bX; replace cH := cH.gn bX; replace cI := cI.gn bX; replace cB := cB.gn bX; replace bW := bW.gn bX; replace cC := cC.gn bX; replace cD := cD.gn bX; replace fU := fU.grN bX; replace aU := aU.grN bX; replace cE := cE.grN bX; replace cJ := cJ.gn bX; replace bS := bS.grN bX; replace cF := cF.grN bX
    have iT : Bx lW (iQ.heap.size) [.int .i64 (i)] 3 := Bx.new iS; have := iT.lt; clear bX iS; have qZ : ((gL fr2 (gI (gL g.mv (i)) (q))) ++ ([i])).length = (gL fr2 (gI (gL g.mv (i)) (q))).length + ([i] : List Int).length := List.length_append
    simp only [List.length_cons, List.length_nil] at qZ
    refine At.act lX (appendR (α := Int) (t := 22) (d := 85) (n := (gL fr2 (gI (gL g.mv (i)) (q))).length) (m := 1) (cc := 1) (xs := gL fr2 (gI (gL g.mv (i)) (q))) (ys := [i]) (bytes := 8) (by first | rfl | omega | (simp; done) | (simp; omega)) (by first | rfl | omega | (simp; done) | (simp; omega)) κ rfl κ cF (Bx.srcR (l := ([i] : List Int)) iT rfl) (by simp only [List.length_cons, List.length_nil]; omega) (by simp only [List.length_cons, List.length_nil]; omega)) ?_
    rintro d_ v_ rA ⟨rfl, rB, vZ, gK⟩
    obtain rfl := gK.val
    have cL := gK.gr
    refine ⟨_, rfl, fun wA lY => ?_⟩
    clear lX; clear iT
    have lZ := gK.own (Sx (aO.heap.size) [obk (bP), obk (aT), obk (bR)]) (fun g _ hs => ⟨hs.2.1, hs.2.2.1, hs.2.2.2.1, hs.2.2.2.2⟩) ⟨fU.ne_new, cE.ne_new, aU.ne_new, (show aO.heap.size ≤ lW.heap.size by omega)⟩
    have := cL.size; replace cA := cA.gr cL (fun k hk => by have := cF.ge k hk; omega); replace cH := cH.gr cL (fun k hk => by have := cF.ge k hk; omega); replace cI := cI.gr cL (fun k hk => by have := cF.ge k hk; omega); replace cB := cB.gr cL (fun e => by have := cF.ge _ e; omega); replace bW := bW.gr cL (fun e => by have := cF.ge _ e; omega)
    replace cC := cC.gr cL (fun e => by have := cF.ge _ e; omega); replace cD := cD.gr cL (fun e => by have := cF.ge _ e; omega); clear fU; replace aU := aU.gr2 cL (fun k hk e => (cF.inS k e).2.2.2.1 hk); replace cE := cE.gr2 cL (fun k hk e => (cF.inS k e).2.2.1 hk); replace cJ := cJ.gr cL (fun k hk => by have := cF.ge k hk; omega); replace bS := bS.moved cL gK.at_; clear cF cL gK
    refine At.rk lY 1 [(86, .pointer (some (lU.add ((gI (gL g.mv (i)) (q) : Int).toNat * 1))))] (.a (gI (gL g.mv (i)) (q)) fr2.length iR <| .n) (fun wB mA => ?_)
    clear lY
    replace bS : HoleLL rA (aO.heap.size) [obk (aT), obk (bR)] bP bZ 22 3 (fr2 : List (List Int)) (gI (gL g.mv (i)) (q) : Int).toNat rB := bS.imp (fun g _ hs => ⟨hs.2.1, hs.2.2.1, hs.2.2.2⟩)
    refine At.act mA (storeLL (t := 22) (i := gI (gL g.mv (i)) (q)) (ad := lU) (xs := (gL fr2 (gI (gL g.mv (i)) (q))) ++ ([i])) κ κ iR bS lZ (by first | rfl | omega | (simp; done) | (simp; omega)) ω ω) ?_
    rintro d_ v_ wC ⟨rfl, dB, iU⟩
    refine ⟨_, rfl, fun wD mB => ?_⟩
    clear mA; have wE : ((fr2).set (gI (gL g.mv (i)) (q) : Int).toNat ((gL fr2 (gI (gL g.mv (i)) (q))) ++ ([i]))).length = (fr2).length := List.length_set; have := dB.size; replace cA := cA.gr dB (fun k hk => by have := (HoleLLP.row bS).ge k hk; omega); replace cH := cH.gr dB (fun k hk => by have := (HoleLLP.row bS).ge k hk; omega)
    replace cI := cI.gr dB (fun k hk => by have := (HoleLLP.row bS).ge k hk; omega); replace cB := cB.gr dB (fun e => by have := (HoleLLP.row bS).ge _ e; omega); replace bW := bW.gr dB (fun e => by have := (HoleLLP.row bS).ge _ e; omega); replace cC := cC.gr dB (fun e => by have := (HoleLLP.row bS).ge _ e; omega); replace cD := cD.gr dB (fun e => by have := (HoleLLP.row bS).ge _ e; omega)
    replace aU := aU.gr dB (fun k hk => hk.2.2.1); replace cE := cE.gr dB (fun k hk => hk.2.1); replace cJ := cJ.gr dB (fun k hk => by have := (HoleLLP.row bS).ge k hk; omega); clear bS lZ dB
    refine At.dn ?_
    refine At.start ?_
    obtain ⟨wF, rC, wG, rD, wH⟩ := aU.get (i) ω ω (sz := 1) rfl
    obtain ⟨mC, mD, wI, wJ, wK⟩ := aU.get (i) ω ω (sz := 1) rfl
    refine At.rk mB 6 [(92, .pointer (some (mC.add ((i : Int).toNat * 1)))), (91, .int .i64 ((gI lf2 i) + 1))] (.a i lf2.length rC <| .l rD <| .w 91 ((gI lf2 i) + 1) <| .a i lf2.length mD <| .n) (fun wL mE => ?_)
    clear mB
    refine At.act mE (storeR (α := Int) (t := 3) (i := i) (ad := mC) (v := .int .i64 ((gI lf2 i) + 1)) ((gI lf2 i) + 1) κ rfl rfl κ mD aU ω ω) ?_
    rintro d_ v_ wM ⟨rfl, dC, rE⟩
    refine ⟨_, rfl, fun wN mF => ?_⟩
    clear mE; have wO : ((lf2).set (i : Int).toNat ((gI lf2 i) + 1)).length = (lf2).length := List.length_set; have := dC.size; replace cA := cA.gr dC (fun k hk => by have := aU.ge k hk; omega); replace cH := cH.gr dC (fun k hk => by have := aU.ge k hk; omega); replace cI := cI.gr dC (fun k hk => by have := aU.ge k hk; omega); replace cB := cB.gr dC (fun e => by have := aU.ge _ e; omega)
    replace bW := bW.gr dC (fun e => by have := aU.ge _ e; omega); replace cC := cC.gr dC (fun e => by have := aU.ge _ e; omega); replace cD := cD.gr dC (fun e => by have := aU.ge _ e; omega); replace cE := cE.gr dC (fun k hk => hk.2.2.1); replace cJ := cJ.gr dC (fun k hk => by have := aU.ge k hk; omega); replace iU := iU.gr dC (fun k hk => hk.2.1); clear aU dC
    refine At.done rfl ?_
    refine b_n ?_
    refine t_n ?_
    refine At.start ?_
    refine At.rk mF 2 [(70, .int .i64 (q + 1))] (.w 93 (q + 1) <| .n) (fun wP mG => ?_)
    clear mF
    refine At.dn ?_
    have mH := mG.as 14 (.slice bR lf2.length dA) (.slice bR (((lf2).set (i : Int).toNat ((gI lf2 i) + 1) : List Int).length) dA) rfl (slice_len (by first | (simp only [List.length_set]; done) | rfl | omega | (simp; done) | (simp; omega)))
    clear mG
    have rF := mH.as 13 (.slice bP fr2.length bZ) (.slice bP (((fr2).set (gI (gL g.mv (i)) (q) : Int).toNat ((gL fr2 (gI (gL g.mv (i)) (q))) ++ ([i])) : List (List Int)).length) bZ) rfl (slice_len (by first | (simp only [List.length_set]; done) | rfl | omega | (simp; done) | (simp; omega)))
    clear mH
    exact ⟨_, ω, (q + 1), ((fr2).set (gI (gL g.mv (i)) (q) : Int).toNat ((gL fr2 (gI (gL g.mv (i)) (q))) ++ ([i])) : List (List Int)), bP, bZ, ((lf2).set (i : Int).toNat ((gI lf2 i) + 1) : List Int), bR, dA, rfl, rF.sb, cA, cH, cI, cB, bW, cC, cD, iU, (rE.imp (fun g _ hs => ⟨hs.2.1, hs.2.2.1, hs.2.2.2⟩)), (cE.imp (fun g _ hs => ⟨hs.2.1, hs.2.2.1, hs.2.2.2⟩)), cJ, ω, ω, (fra_push hG hfr2 ω ω ω ω hIi (by rw [← has_inT ω ω]; assumption)), ω, ω, ω⟩
   refine wp_skip ?_
   refine b_n ?_
   refine t_n ?_
   refine At.start ?_
   refine At.rk gJ 2 [(70, .int .i64 (q + 1))] (.w 93 (q + 1) <| .n) (fun wQ mI => ?_)
   clear gJ
   refine At.dn ?_
   have mJ := mI.as 14 (.slice bR lf2.length dA) (.slice bR ((lf2 : List Int).length) dA) rfl (slice_len (by first | rfl | omega | (simp; done) | (simp; omega)))
   clear mI
   have rG := mJ.as 13 (.slice bP fr2.length bZ) (.slice bP ((fr2 : List (List Int)).length) bZ) rfl (slice_len (by first | rfl | omega | (simp; done) | (simp; omega)))
   clear mJ
   exact ⟨_, ω, (q + 1), (fr2 : List (List Int)), bP, bZ, (lf2 : List Int), bR, dA, rfl, rG.sb, cA, cH, cI, cB, bW, cC, cD, fU, aU, cE, cJ, ω, ω, (fra_skip hG hfr2 ω ω ω ω (by rw [← has_inT ω ω]; assumption)), ω, ω, ω⟩
  have wR := of_decide_eq_false iP
  refine wp_exit ?_
  refine t_e ?_
  clear hm400
  refine t_e ?_
  refine b_e ?_
  refine b_n ?_
  refine t_n ?_
  refine At.start ?_
  refine At.rk gH 2 [(54, .int .i64 (i + 1))] (.w 94 (i + 1) <| .n) (fun wS mK => ?_)
  clear gH
  refine At.dn ?_
  have mL := mK.as 15 (.slice aT ms.length bV) (.slice aT (((ms).set (i : Int).toNat (-1) : List Int).length) bV) rfl (slice_len (by first | (simp only [List.length_set]; done) | rfl | omega | (simp; done) | (simp; omega)))
  clear mK
  have mM := mL.as 14 (.slice bR lf2.length dA) (.slice bR ((lf2 : List Int).length) dA) rfl (slice_len (by first | rfl | omega | (simp; done) | (simp; omega)))
  clear mL
  have rH := mM.as 13 (.slice bP fr2.length bZ) (.slice bP ((fr2 : List (List Int)).length) bZ) rfl (slice_len (by first | rfl | omega | (simp; done) | (simp; omega)))
  clear mM
  exact ⟨_, ω, (i + 1), (fr2 : List (List Int)), bP, bZ, (lf2 : List Int), bR, dA, ((ms).set (i : Int).toNat (-1) : List Int), aT, bV, rfl, rH.sb, cA, cH, cI, cB, bW, cC, cD, iO, aU, cE, ω, ω, (fra_row hG hfr2 ω ω ω ω hIi), (by rw [List.length_set]; assumption), (ms_next hms ω ω), ω, ω, ω⟩
 have wT := of_decide_eq_false iL
 refine wp_exit ?_
 refine t_e ?_
 clear hm306
 refine t_e ?_
 refine b_e ?_
 refine t_n ?_
 refine wp_seq ?_
 have hE : FrA g (inT g s) fr lf (g.ow.length : Int) 0 := by have e_ : i = (g.ow.length : Int) := ω; rw [← e_]; exact hfr
 have hmsE : ∀ j : Int, 0 ≤ j → j < (g.ow.length : Int) → gI ms j = -1 := fun j a b => hms j a ω
 have hfle := hE.len; have hlle := hE.ll
 refine At.start ?_
 refine At.rk gD 2 [(96, .agg (((inS g s : List Int) : List Int).map wV).toArray), (95, .agg ((t : List Int).map wV).toArray)] (.p (show ((t : List Int).map wV).length = 4 from ((List.length_map _).trans σ)) <| .p bQ.whole <| .o (.cs ((t : List Int).map wV)) <| .p (show (((inS g s : List Int) : List Int).map wV).length = 4 from ((List.length_map _).trans (okLen (inS_ok σ)))) <| .p bO.whole <| .o (.cs (((inS g s : List Int) : List Int).map wV)) <| .n) (fun wU mN => ?_)
 clear gD
 refine At.cl mN (some 97) (andS_any (s := t) (t := (inS g s : List Int)) σ (inS_ok σ)) ?_
 rintro e_ aN ⟨rfl, he⟩
 refine ⟨_, rfl, _, rfl, fun wW mO => ?_⟩
 clear mN; have dD := gr_ext he; have := dD.size; replace bH := bH.gn dD; replace bI := bI.gn dD; replace bJ := bJ.gn dD; replace bB := bB.gn dD; replace bO := bO.gn dD; replace bQ := bQ.gn dD; replace bK := bK.gn dD; have eP := hI.gn dD; clear hI; replace bL := bL.gn dD; replace aX := aX.gn dD; clear dD he
 refine At.bx mO 19 ((List.replicate 4 (0 : Int) : List Int).map wV) 44 (fun wX dE iV wY mP => ?_)
 clear mO; have := dE.size; replace bH := bH.gn dE; replace bI := bI.gn dE; replace bJ := bJ.gn dE; replace bB := bB.gn dE; replace bO := bO.gn dE; replace bQ := bQ.gn dE; replace bK := bK.gn dE; replace eP := eP.grN dE; replace bL := bL.grN dE; replace aX := aX.grN dE; have := iV.lt; clear dE
 refine At.act mP (storeBlk (t := 44) (b := aN.heap.size) (n := 4) (cs' := ((andS t (inS g s : List Int) : List Int).map wV)) κ κ ((List.length_map _).trans (okLen (okW_andS σ (inS_ok σ)))) oneW_ ((show ((andS t (inS g s : List Int) : List Int).map wV).length = 4 from ((List.length_map _).trans (okLen (okW_andS σ (inS_ok σ))))).trans (show ((List.replicate 4 (0 : Int) : List Int).map wV).length = 4 from len_P).symm) iV) ?_
 rintro d_ v_ cM ⟨rfl, dF, gM⟩
 refine ⟨_, rfl, fun wZ mQ => ?_⟩
 clear mP; have := dF.size; replace bH := bH.gr dF (fun k h => by injection h; omega); replace bI := bI.gb dF ω; replace bJ := bJ.gb dF ω; replace bB := bB.gb dF ω; replace bO := bO.gb dF ω; replace bQ := bQ.gb dF ω; replace bK := bK.gb dF ω; replace eP := eP.gr dF (fun k hk => hk.1); replace bL := bL.gr dF (fun k hk => hk.1); replace aX := aX.gr dF (fun k hk => hk.1); clear iV dF
 refine At.dn ?_
 clear bO; clear bQ
 refine wp_seq ?_
 refine sqs ?_
 refine At.rk mQ 1 [(98, .agg ((andS t (inS g s : List Int) : List Int).map wV).toArray)] (.p (show ((andS t (inS g s : List Int) : List Int).map wV).length = 4 from ((List.length_map _).trans (okLen (okW_andS σ (inS_ok σ))))) <| .p gM.whole <| .o (.cs ((andS t (inS g s : List Int) : List Int).map wV)) <| .n) (fun xA mR => ?_)
 clear mQ
 refine At.cl mR (some 99) (list_any (s := andS t (inS g s : List Int)) (okW_andS σ (inS_ok σ)) (bJ.wide (Nat.zero_le _) ω)) ?_
 rintro e_ hJ ⟨eY, gN, rfl, he, fL⟩
 have := ls_len (fromW (andS t (inS g s : List Int))) 256
 refine ⟨_, rfl, _, rfl, fun xB mS => ?_⟩
 clear mR; have dT := gr_ext he; have mT := eP.lt; have mU := bL.lt; have mV := aX.lt; have := dT.size; replace bH := bH.gn dT; replace bI := bI.gn dT; replace bJ := bJ.gn dT; replace bB := bB.gn dT; replace bK := bK.gn dT
 replace eP : OwnLL hJ (aO.heap.size) [obk (eY), some (aN.heap.size), obk (aT), obk (bG)] aE bA 22 3 (fr : List (List Int)) := eP.grA dT (fun _ _ h => by cases h) (fun k hk hs => ⟨(fun e => by have := fL.ge _ e; omega), hs.1, hs.2.1, hs.2.2.1, hs.2.2.2⟩)
 replace bL : OwnR hJ (Sx (aS.heap.size) [obk (eY), some (aN.heap.size), obk (aT), obk (aE)]) bG cG 3 (lf : List Int) := bL.grA dT (fun _ _ h => by cases h) (fun k hk hs => ⟨(fun e => by have := fL.ge _ e; omega), hs.1, hs.2.1, hs.2.2.1, hs.2.2.2⟩)
 replace aX : OwnR hJ (Sx (aV.heap.size) [obk (eY), some (aN.heap.size), obk (aE), obk (bG)]) aT bV 3 (ms : List Int) := aX.grA dT (fun _ _ h => by cases h) (fun k hk hs => ⟨(fun e => by have := fL.ge _ e; omega), hs.1, hs.2.1, hs.2.2.1, hs.2.2.2⟩)
 replace gM := gM.gn dT
 replace fL : OwnR hJ (Sx (cM.heap.size) [obk (aE), obk (bG), obk (aT)]) eY gN 3 ((lsD (fromW (andS t (inS g s : List Int))) 256) : List Int) := fL.imp (fun g _ hs => ⟨(fun e => by have := mT _ e; have := Sx_base hs; omega), (fun e => by have := mU _ e; have := Sx_base hs; omega), (fun e => by have := mV _ e; have := Sx_base hs; omega), hs⟩)
 clear mT mU mV; clear dT he
 refine At.rk mS 1 [(20, .slice eY ((lsD (fromW (andS t (inS g s : List Int))) 256).length) gN)] .n (fun xC mW => ?_)
 clear mS
 refine At.dn ?_
 refine wp_block ?_
 have mX := mW.as 20 (.slice eY ((lsD (fromW (andS t (inS g s : List Int))) 256).length) gN) (.slice eY (((lsD (fromW (andS t (inS g s : List Int))) 256) : List Int).length) gN) rfl (slice_len (by first | rfl | omega | (simp; done) | (simp; omega)))
 clear mW; have mY := mX.as 15 (.slice aT ms.length bV) (.slice aT ((ms : List Int).length) bV) rfl (slice_len (by first | rfl | omega | (simp; done) | (simp; omega))); clear mX; have mZ := mY.as 14 (.slice bG lf.length cG) (.slice bG ((lf : List Int).length) cG) rfl (slice_len (by first | rfl | omega | (simp; done) | (simp; omega))); clear mY
 refine loop_g (fun (m_ : Nat) a_ w_ => ∃ (ss : List Int) (lf3 : List Int) (eQ : Option Addr) (fV : Nat) (ms3 : List Int) (cN : Option Addr) (eB : Nat) (op : List Int) (eR : Option Addr) (fW : Nat), m_ = (512 - 2 * lenW ss + (op.length : Int)).toNat ∧ (Frm 163 a_ [(20, .slice eR op.length fW), (19, pt aN.heap.size 0), (15, .slice cN ms3.length eB), (14, .slice eQ lf3.length fV), (13, .slice aE fr.length bA), (8, pt bU.heap.size 0), (4, pt w.heap.size 0), (2, .int .i64 (p))]) ∧ (Ext w w_) ∧ (RdG w_ 0 w.heap.size Ag0 Ag1 Ag2 cg0 cg1 cg2 g) ∧ (RdT w_ 0 w.heap.size) ∧ (Bx w_ (w.heap.size) [.slice Ag0 g.ow.length cg0, .slice Ag1 g.pr.length cg1, .slice Ag2 g.mv.length cg2] 25) ∧ (Bx w_ (bU.heap.size) ((List.replicate 4 (0 : Int) : List Int).map wV) 44) ∧ (OwnLL w_ (aO.heap.size) [obk (eR), some (aN.heap.size), obk (cN), obk (eQ)] aE bA 22 3 (fr : List (List Int))) ∧ (OwnR w_ (Sx (aS.heap.size) [obk (eR), some (aN.heap.size), obk (cN), obk (aE)]) eQ fV 3 (lf3 : List Int)) ∧ (OwnR w_ (Sx (aV.heap.size) [obk (eR), some (aN.heap.size), obk (aE), obk (eQ)]) cN eB 3 (ms3 : List Int)) ∧ (Bx w_ (aN.heap.size) ((ss : List Int).map wV) 44) ∧ (OwnR w_ (Sx (cM.heap.size) [obk (aE), obk (eQ), obk (cN)]) eR fW 3 (op : List Int)) ∧ (ss.length = 4) ∧ (OkW ss) ∧ (∃ pr, AW g (inT g s) p (fromW t) (fromW ss) op lf3 ms3 pr [] []) ∧ (aO.heap.size ≤ w_.heap.size) ∧ (aS.heap.size ≤ w_.heap.size) ∧ (aV.heap.size ≤ w_.heap.size) ∧ (cM.heap.size ≤ w_.heap.size)) _ ⟨andS t (inS g s : List Int), (lf : List Int), bG, cG, (ms : List Int), aT, bV, ((lsD (fromW (andS t (inS g s : List Int))) 256) : List Int), eY, gN, rfl, mZ.sb, bH, bI, bJ, bB, bK, eP, bL, aX, gM, fL, (okW_andS ht (inS_ok hs)).1, (okW_andS ht (inS_ok hs)), ⟨[], aw_start hG inT_lt (fun j a b => by rw [from_andS, gB_andD a b]; rfl) hE.ll ω (fra_lf hE) hmsE⟩, ω, ω, ω, ω⟩ ?_
 clear mZ; clear bI; clear bJ; clear bB; clear bK; clear eP; clear bL; clear aX; clear gM; clear fL; clear bH
 intro m_ xD xE ⟨ss, lf3, eQ, fV, ms3, cN, eB, op, eR, fW, hm646, nA, fX, hK, hL, hM, gO, gP, hN, gQ, fM, gR, i657, hok, hw, i658, i659, i660, i661⟩
 have := fX.size; have := hM.lt; have := gO.lt; have := fM.lt; have hlw_ := lenW_le ss
 have hawl : op.length ≤ g.ow.length ∧ lf3.length = g.ow.length ∧ ms3.length = g.ow.length := by obtain ⟨pr_, hw_⟩ := hw; exact ⟨aw_len hw_, hw_.ll, hw_.ml⟩
 refine wp_seq ?_
 refine sqs ?_
 refine At.rk nA 3 [(102, .bool (decide ((((op.length : Nat) : Int) : Int) > 0)))] .n (fun xF gS => ?_)
 clear nA
 refine At.dn ?_
 refine cond_S gS (t := decide ((((op.length : Nat) : Int) : Int) > 0)) rfl (fun iW => ?_) (fun iW => ?_)
 ·have xG := of_decide_eq_true iW
  refine wp_skip ?_
  refine t_n ?_
  refine wp_seq ?_
  refine wp_block ?_
  refine wp_seq ?_
  obtain ⟨pr, hw⟩ := hw
  have hop := op_cons (op := op) ω
  have hw2 : AW g (inT g s) p (fromW t) (fromW ss) (gI op 0 :: op.drop 1) lf3 ms3 pr [] [] := by rw [← hop]; exact hw
  have hmr := hw2.rng (gI op 0) (by simp); have hld := fra_leads hE hmr.1 hmr.2.1; have hwo := aw_open hw2 hld; have hfc := hE.cnt _ hmr.1 hmr.2.1
  refine At.start ?_
  obtain ⟨xH, rI, xI, rJ, xJ⟩ := gR.get (0) ω ω (sz := 1) rfl
  refine At.rk gS 4 [(21, .int .i64 (gI op 0))] (.a 0 op.length rI <| .l rJ <| .n) (fun xK nB => ?_)
  clear gS
  refine At.dn ?_
  refine sqs ?_
  obtain ⟨xL, eZ, fA, rK, xM, rL, nC, xN⟩ := gP.get (gI op 0) ω ω
  refine At.rk nB 6 [(113, .int .i64 (0)), (112, .int .i64 ((((gL fr (gI op 0)).length : Nat) : Int))), (111, .slice eZ ((gL fr (gI op 0)).length) fA)] (.a (gI op 0) fr.length rK <| .l rL <| .n) (fun xO nD => ?_)
  clear nB
  refine At.dn ?_
  refine wp_block ?_
  have nE := nD.as 20 (.slice eR op.length fW) (.slice eR ((op : List Int).length) fW) rfl (slice_len (by first | rfl | omega | (simp; done) | (simp; omega))); clear nD
  have nF := nE.as 15 (.slice cN ms3.length eB) (.slice cN ((ms3 : List Int).length) eB) rfl (slice_len (by first | rfl | omega | (simp; done) | (simp; omega)))
  clear nE
  have nG := nF.as 14 (.slice eQ lf3.length fV) (.slice eQ ((lf3 : List Int).length) fV) rfl (slice_len (by first | rfl | omega | (simp; done) | (simp; omega)))
  clear nF
  refine loop_g (fun (m_ : Nat) a_ w_ => ∃ (q : Int) (ss2 : List Int) (lf4 : List Int) (aB : Option Addr) (aQ : Nat) (ms4 : List Int) (aC : Option Addr) (aR : Nat) (op4 : List Int) (aW : Option Addr) (aY : Nat), m_ = (((gL fr (gI op 0)).length : Int) - q).toNat ∧ (Frm 163 a_ [(20, .slice aW op4.length aY), (113, .int .i64 (q)), (112, .int .i64 ((((gL fr (gI op 0)).length : Nat) : Int))), (111, .slice eZ ((gL fr (gI op 0)).length) fA), (21, .int .i64 (gI op 0)), (19, pt aN.heap.size 0), (15, .slice aC ms4.length aR), (14, .slice aB lf4.length aQ), (13, .slice aE fr.length bA), (8, pt bU.heap.size 0), (4, pt w.heap.size 0), (2, .int .i64 (p))]) ∧ (Ext w w_) ∧ (RdG w_ 0 w.heap.size Ag0 Ag1 Ag2 cg0 cg1 cg2 g) ∧ (RdT w_ 0 w.heap.size) ∧ (Bx w_ (w.heap.size) [.slice Ag0 g.ow.length cg0, .slice Ag1 g.pr.length cg1, .slice Ag2 g.mv.length cg2] 25) ∧ (Bx w_ (bU.heap.size) ((List.replicate 4 (0 : Int) : List Int).map wV) 44) ∧ (OwnLL w_ (aO.heap.size) [obk (aW), some (aN.heap.size), obk (aC), obk (aB)] aE bA 22 3 (fr : List (List Int))) ∧ (OwnR w_ (Sx (aS.heap.size) [obk (aW), some (aN.heap.size), obk (aC), obk (aE)]) aB aQ 3 (lf4 : List Int)) ∧ (OwnR w_ (Sx (aV.heap.size) [obk (aW), some (aN.heap.size), obk (aE), obk (aB)]) aC aR 3 (ms4 : List Int)) ∧ (Bx w_ (aN.heap.size) ((ss2 : List Int).map wV) 44) ∧ (OwnR w_ (Sx (cM.heap.size) [obk (aE), obk (aB), obk (aC)]) aW aY 3 (op4 : List Int)) ∧ (OwnR w_ (Sx (aO.heap.size) [obk (aE), obk (aW), some (aN.heap.size), obk (aC), obk (aB)]) eZ fA 3 (gL fr (gI op 0) : List Int)) ∧ (0 ≤ q) ∧ (q ≤ ((gL fr (gI op 0)).length : Int)) ∧ (OkW ss2) ∧ (∃ tl, op4 = gI op 0 :: tl ∧ AW g (inT g s) p (fromW t) (fromW ss2) (gI op 0 :: tl) lf4 ms4 pr [gI op 0] ((gL fr (gI op 0)).drop q.toNat)) ∧ (2 * lenW ss - (op.length : Int) ≤ 2 * lenW ss2 - (op4.length : Int)) ∧ (ss2.length = 4) ∧ (aO.heap.size ≤ w_.heap.size) ∧ (aS.heap.size ≤ w_.heap.size) ∧ (aV.heap.size ≤ w_.heap.size) ∧ (cM.heap.size ≤ w_.heap.size)) _ ⟨0, ss, (lf3 : List Int), eQ, fV, (ms3 : List Int), cN, eB, (op : List Int), eR, fW, rfl, nG.sb, fX, hK, hL, hM, gO, gP, hN, gQ, fM, gR, nC, ω, ω, hok, ⟨_, hop, by rw [show (0 : Int).toNat = 0 from rfl, List.drop_zero]; exact hwo⟩, (Int.le_refl _), hok.1, ω, ω, ω, ω⟩ ?_
  clear nG; clear hK; clear hL; clear hM; clear gO; clear gP; clear hN; clear gQ; clear fM; clear gR; clear nC; clear fX
  intro m_ xP hO ⟨q, ss2, lf4, aB, aQ, ms4, aC, aR, op4, aW, aY, hm698, nH, aI, aF, aL, aD, aJ, hP, cO, aM, aP, aA, aG, i710, i711, hok2, hwi, hme, i712, i713, i714, i715, i716⟩
  have := aI.size; have := aD.lt; have := aJ.lt; have := aP.lt; have hlw2_ := lenW_le ss2
  refine sqs ?_
  refine At.rk nH 1 [(114, .bool (decide ((q : Int) < (((gL fr (gI op 0)).length : Nat) : Int))))] .n (fun xQ gT => ?_)
  clear nH
  refine At.dn ?_
  refine wp_seq ?_
  refine cond_S gT (t := decide ((q : Int) < (((gL fr (gI op 0)).length : Nat) : Int))) rfl (fun iX => ?_) (fun iX => ?_)
  ·have xR := of_decide_eq_true iX
   refine wp_skip ?_
   refine t_n ?_
   refine wp_seq ?_
   refine wp_block ?_
   refine wp_seq ?_
   obtain ⟨tl, hop4, hwi⟩ := hwi
   rw [drop_at (r := []) ω ω] at hwi
   have hil := (hld.2 (gI (gL fr (gI op 0)) q)).1 (mem_of_gI ω ω); have hi1 := hil.1; have hi2 := hil.2.1; have hnr := nd_drop hld.1 (k := q) ω ω; have hal := aw_lb hG hwi hi1 hi2 hil.2.2.1; have hll4 := hwi.ll; have hml4 := hwi.ml; have hol := aw_len hwi; have hol4 := congrArg List.length hop4
   simp only [List.length_cons] at hol hol4
   refine At.start ?_
   obtain ⟨xS, rM, xT, rN, xU⟩ := aG.get (q) ω ω (sz := 1) rfl
   refine At.rk gT 3 [(23, .int .i64 (gI (gL fr (gI op 0)) q))] (.a q ((gL fr (gI op 0)).length) rM <| .l rN <| .n) (fun xV nI => ?_)
   clear gT
   refine At.dn ?_
   refine sqs ?_
   obtain ⟨xW, rO, xX, rP, xY⟩ := cO.get (gI (gL fr (gI op 0)) q) ω ω (sz := 1) rfl
   obtain ⟨nJ, nK, xZ, yA, yB⟩ := cO.get (gI (gL fr (gI op 0)) q) ω ω (sz := 1) rfl
   refine At.rk nI 6 [(122, .pointer (some (nJ.add ((gI (gL fr (gI op 0)) q : Int).toNat * 1)))), (121, .int .i64 ((gI lf4 (gI (gL fr (gI op 0)) q)) - 1))] (.a (gI (gL fr (gI op 0)) q) lf4.length rO <| .l rP <| .w 121 ((gI lf4 (gI (gL fr (gI op 0)) q)) - 1) <| .a (gI (gL fr (gI op 0)) q) lf4.length nK <| .n) (fun yC nL => ?_)
   clear nI
   refine At.act nL (storeR (α := Int) (t := 3) (i := gI (gL fr (gI op 0)) q) (ad := nJ) (v := .int .i64 ((gI lf4 (gI (gL fr (gI op 0)) q)) - 1)) ((gI lf4 (gI (gL fr (gI op 0)) q)) - 1) κ rfl rfl κ nK cO ω ω) ?_
   rintro d_ v_ yD ⟨rfl, dG, aH⟩
   refine ⟨_, rfl, fun yE nM => ?_⟩
   clear nL; have yF : ((lf4).set (gI (gL fr (gI op 0)) q : Int).toNat ((gI lf4 (gI (gL fr (gI op 0)) q)) - 1)).length = (lf4).length := List.length_set; have := dG.size; replace aI := aI.gr dG (fun k hk => by have := cO.ge k hk; omega); replace aF := aF.gr dG (fun k hk => by have := cO.ge k hk; omega); replace aL := aL.gr dG (fun k hk => by have := cO.ge k hk; omega)
   replace aD := aD.gr dG (fun e => by have := cO.ge _ e; omega); replace aJ := aJ.gr dG (fun e => by have := cO.ge _ e; omega); have aK := hP.gr dG (fun k hk => hk.2.2.2.1); clear hP; replace aM := aM.gr dG (fun k hk => hk.2.2.2.1); replace aP := aP.gr dG (cO.neb (fun g hs => hs.2.1)); replace aA := aA.gr dG (fun k hk => hk.2.1); replace aG := aG.gr dG (fun k hk => hk.2.2.2.2.1); clear cO dG
   refine At.dn ?_
   refine wp_seq ?_
   refine wp_seq ?_
   have hgs : gI (lf4.set (gI (gL fr (gI op 0)) q).toNat (gI lf4 (gI (gL fr (gI op 0)) q) - 1)) (gI (gL fr (gI op 0)) q) = gI lf4 (gI (gL fr (gI op 0)) q) - 1 := by rw [gI_setE ω ω ω, if_pos rfl]
   refine At.start ?_
   refine At.rk nM 2 [(124, .int .i64 (gI (gL fr (gI op 0)) q)), (123, .agg ((ss2 : List Int).map wV).toArray)] (.p (show ((ss2 : List Int).map wV).length = 4 from ((List.length_map _).trans σ)) <| .p aP.whole <| .o (.cs ((ss2 : List Int).map wV)) <| .n) (fun yG nN => ?_)
   clear nM
   refine At.cl nN (some 125) (has_any (s := ss2) (n := gI (gL fr (gI op 0)) q) σ) ?_
   rintro e_ yH ⟨rfl, he⟩
   refine ⟨_, rfl, _, rfl, fun yI fY => ?_⟩
   clear nN; have cP := gr_ext he; have := cP.size; replace aI := aI.gn cP; replace aF := aF.gn cP; replace aL := aL.gn cP; replace aD := aD.gn cP; replace aJ := aJ.gn cP; replace aK := aK.gn cP; replace aH := aH.gn cP; replace aM := aM.gn cP; replace aP := aP.gn cP; replace aA := aA.gn cP; replace aG := aG.gn cP; clear cP he
   rcases Bool.eq_false_or_eq_true (hasW ss2 (gI (gL fr (gI op 0)) q)) with hQ | hQ
   ·refine At.rk fY 16 [(141, .bool true)] (.e 126 hQ <| .n) (fun yJ iY => ?_)
    clear fY
    refine At.dn ?_
    refine cond_T iY rfl ?_
    refine wp_exit ?_
    refine t_e ?_
    refine b_e ?_
    refine t_n ?_
    refine At.start ?_
    refine At.rk iY 2 [(113, .int .i64 (q + 1))] (.w 160 (q + 1) <| .n) (fun yK nO => ?_)
    clear iY
    refine At.dn ?_
    have nP := nO.as 20 (.slice aW op4.length aY) (.slice aW ((op4 : List Int).length) aY) rfl (slice_len (by first | rfl | omega | (simp; done) | (simp; omega)))
    clear nO
    have nQ := nP.as 15 (.slice aC ms4.length aR) (.slice aC ((ms4 : List Int).length) aR) rfl (slice_len (by first | rfl | omega | (simp; done) | (simp; omega)))
    clear nP
    have rQ := nQ.as 14 (.slice aB lf4.length aQ) (.slice aB (((lf4).set (gI (gL fr (gI op 0)) q : Int).toNat ((gI lf4 (gI (gL fr (gI op 0)) q)) - 1) : List Int).length) aQ) rfl (slice_len (by first | (simp only [List.length_set]; done) | rfl | omega | (simp; done) | (simp; omega)))
    clear nQ
    exact ⟨_, ω, (q + 1), ss2, ((lf4).set (gI (gL fr (gI op 0)) q : Int).toNat ((gI lf4 (gI (gL fr (gI op 0)) q)) - 1) : List Int), aB, aQ, (ms4 : List Int), aC, aR, (op4 : List Int), aW, aY, rfl, rQ.sb, aI, aF, aL, aD, aJ, aK, aH, aM, aP, aA, aG, ω, ω, hok2, ⟨tl, hop4, aw_skip hnd hwi hil hnr (by first | exact .inl (by rw [← has_W ω ω]; assumption) | exact .inr ⟨by omega, by omega⟩)⟩, ω, hok2.1, ω, ω, ω, ω⟩
   obtain ⟨nR, nS, _, _, nT⟩ := RdI.get aF.ow (gI (gL fr (gI op 0)) q) ω ω
   rcases Bool.eq_false_or_eq_true ((gI g.ow (gI (gL fr (gI op 0)) q) : Int) != p) with gU | gU
   ·have yL := bne_iff_ne.1 gU
    obtain ⟨rR, rS, yM, rU, yN⟩ := aH.get (gI (gL fr (gI op 0)) q) ω ω (sz := 1) rfl
    refine At.rk fY 16 [(141, .bool (decide ((gI ((lf4).set (gI (gL fr (gI op 0)) q : Int).toNat ((gI lf4 (gI (gL fr (gI op 0)) q)) - 1)) (gI (gL fr (gI op 0)) q) : Int) > 0))), (140, .bool (decide ((gI ((lf4).set (gI (gL fr (gI op 0)) q : Int).toNat ((gI lf4 (gI (gL fr (gI op 0)) q)) - 1)) (gI (gL fr (gI op 0)) q) : Int) > 0))), (139, .bool (decide ((gI ((lf4).set (gI (gL fr (gI op 0)) q : Int).toNat ((gI lf4 (gI (gL fr (gI op 0)) q)) - 1)) (gI (gL fr (gI op 0)) q) : Int) > 0))), (138, .int .i64 (gI ((lf4).set (gI (gL fr (gI op 0)) q : Int).toNat ((gI lf4 (gI (gL fr (gI op 0)) q)) - 1)) (gI (gL fr (gI op 0)) q))), (137, .pointer (some (rR.add ((gI (gL fr (gI op 0)) q : Int).toNat * 1)))), (136, .int .i64 (gI (gL fr (gI op 0)) q)), (135, .slice aB lf4.length aQ), (134, .bool true), (133, .bool ((gI g.ow (gI (gL fr (gI op 0)) q) : Int) != p)), (132, .int .i64 (p)), (131, .int .i64 (gI g.ow (gI (gL fr (gI op 0)) q))), (130, .pointer (some (nR.add ((gI (gL fr (gI op 0)) q : Int).toNat * 1)))), (129, .int .i64 (gI (gL fr (gI op 0)) q)), (128, .slice Ag0 g.ow.length cg0), (127, pt w.heap.size 0)] (.e 126 hQ <| .l (aD.cell (i := 0) rfl) <| .a (gI (gL fr (gI op 0)) q) g.ow.length nS <| .l nT <| .e 134 gU <| .a (gI (gL fr (gI op 0)) q) lf4.length rS <| .l rU <| .n) (fun yO gV => ?_)
    clear fY
    refine At.dn ?_
    refine cond_S gV (t := decide ((gI ((lf4).set (gI (gL fr (gI op 0)) q : Int).toNat ((gI lf4 (gI (gL fr (gI op 0)) q)) - 1)) (gI (gL fr (gI op 0)) q) : Int) > 0)) rfl (fun iZ => ?_) (fun iZ => ?_)
    ·have yP := of_decide_eq_true iZ
     refine wp_exit ?_
     refine t_e ?_
     refine b_e ?_
     refine t_n ?_
     refine At.start ?_
     refine At.rk gV 2 [(113, .int .i64 (q + 1))] (.w 160 (q + 1) <| .n) (fun yQ nU => ?_)
     clear gV
     refine At.dn ?_
     have nV := nU.as 20 (.slice aW op4.length aY) (.slice aW ((op4 : List Int).length) aY) rfl (slice_len (by first | rfl | omega | (simp; done) | (simp; omega)))
     clear nU
     have nW := nV.as 15 (.slice aC ms4.length aR) (.slice aC ((ms4 : List Int).length) aR) rfl (slice_len (by first | rfl | omega | (simp; done) | (simp; omega)))
     clear nV
     have rV := nW.as 14 (.slice aB lf4.length aQ) (.slice aB (((lf4).set (gI (gL fr (gI op 0)) q : Int).toNat ((gI lf4 (gI (gL fr (gI op 0)) q)) - 1) : List Int).length) aQ) rfl (slice_len (by first | (simp only [List.length_set]; done) | rfl | omega | (simp; done) | (simp; omega)))
     clear nW
     exact ⟨_, ω, (q + 1), ss2, ((lf4).set (gI (gL fr (gI op 0)) q : Int).toNat ((gI lf4 (gI (gL fr (gI op 0)) q)) - 1) : List Int), aB, aQ, (ms4 : List Int), aC, aR, (op4 : List Int), aW, aY, rfl, rV.sb, aI, aF, aL, aD, aJ, aK, aH, aM, aP, aA, aG, ω, ω, hok2, ⟨tl, hop4, aw_skip hnd hwi hil hnr (by first | exact .inl (by rw [← has_W ω ω]; assumption) | exact .inr ⟨by omega, by omega⟩)⟩, ω, hok2.1, ω, ω, ω, ω⟩
    have yR := of_decide_eq_false iZ
    refine wp_skip ?_
    refine t_n ?_
    refine wp_seq ?_
    refine sqs ?_
    obtain ⟨yS, rW, _, _, rX⟩ := RdI.get aF.ow (gI (gL fr (gI op 0)) q) ω ω
    refine At.rk gV 7 [(148, .bool ((gI g.ow (gI (gL fr (gI op 0)) q) : Int) == p))] (.l (aD.cell (i := 0) rfl) <| .a (gI (gL fr (gI op 0)) q) g.ow.length rW <| .l rX <| .n) (fun yT gW => ?_)
    clear gV
    refine At.dn ?_
    refine cond_S gW (t := (gI g.ow (gI (gL fr (gI op 0)) q) : Int) == p) rfl (fun jA => ?_) (fun jA => ?_)
    ·have yU := eq_of_beq jA
     refine At.start ?_
     obtain ⟨nX, nY, yV, yW, yX⟩ := aM.get (gI (gL fr (gI op 0)) q) ω ω (sz := 1) rfl
     refine At.rk gW 4 [(152, .pointer (some (nX.add ((gI (gL fr (gI op 0)) q : Int).toNat * 1)))), (151, .int .i64 (gI op 0))] (.a (gI (gL fr (gI op 0)) q) ms4.length nY <| .n) (fun yY nZ => ?_)
     clear gW
     refine At.act nZ (storeR (α := Int) (t := 3) (i := gI (gL fr (gI op 0)) q) (ad := nX) (v := .int .i64 (gI op 0)) (gI op 0) κ rfl rfl κ nY aM ω ω) ?_
     rintro d_ v_ yZ ⟨rfl, dH, eC⟩
     refine ⟨_, rfl, fun zA oA => ?_⟩
     clear nZ; have zB : ((ms4).set (gI (gL fr (gI op 0)) q : Int).toNat (gI op 0)).length = (ms4).length := List.length_set; have := dH.size; replace aI := aI.gr dH (fun k hk => by have := aM.ge k hk; omega); replace aF := aF.gr dH (fun k hk => by have := aM.ge k hk; omega); replace aL := aL.gr dH (fun k hk => by have := aM.ge k hk; omega); replace aD := aD.gr dH (fun e => by have := aM.ge _ e; omega)
     replace aJ := aJ.gr dH (fun e => by have := aM.ge _ e; omega); replace aK := aK.gr dH (fun k hk => hk.2.2.1); replace aH := aH.gr dH (fun k hk => hk.2.2.1); replace aP := aP.gr dH (aM.neb (fun g hs => hs.2.1)); replace aA := aA.gr dH (fun k hk => hk.2.2.1); replace aG := aG.gr dH (fun k hk => hk.2.2.2.1); clear aM dH
     refine At.dn ?_
     refine sqs ?_
     refine At.rk oA 2 [(154, .int .i64 (gI (gL fr (gI op 0)) q)), (153, .agg ((ss2 : List Int).map wV).toArray)] (.p (show ((ss2 : List Int).map wV).length = 4 from ((List.length_map _).trans σ)) <| .p aP.whole <| .o (.cs ((ss2 : List Int).map wV)) <| .n) (fun zC oB => ?_)
     clear oA
     refine At.cl oB (some 155) (with_any (s := ss2) (n := gI (gL fr (gI op 0)) q) σ) ?_
     rintro e_ zD ⟨rfl, he⟩
     refine ⟨_, rfl, _, rfl, fun zE oC => ?_⟩
     clear oB; have cQ := gr_ext he; have := cQ.size; replace aI := aI.gn cQ; replace aF := aF.gn cQ; replace aL := aL.gn cQ; replace aD := aD.gn cQ; replace aJ := aJ.gn cQ; replace aK := aK.gn cQ; replace aH := aH.gn cQ; replace eC := eC.gn cQ; replace aP := aP.gn cQ; replace aA := aA.gn cQ; replace aG := aG.gn cQ; clear cQ he
     refine At.act oC (storeBlk (t := 44) (b := aN.heap.size) (n := 4) (cs' := ((withW ss2 (gI (gL fr (gI op 0)) q) : List Int).map wV)) κ κ ((List.length_map _).trans (okLen (okW_with σ))) oneW_ ((show ((withW ss2 (gI (gL fr (gI op 0)) q) : List Int).map wV).length = 4 from ((List.length_map _).trans (okLen (okW_with σ)))).trans (show ((ss2 : List Int).map wV).length = 4 from ((List.length_map _).trans σ)).symm) aP) ?_
     rintro d_ v_ fN ⟨rfl, dI, gX⟩
     refine ⟨_, rfl, fun zF oD => ?_⟩
     clear oC; have := dI.size; replace aI := aI.gr dI (fun k h => by injection h; omega); replace aF := aF.gb dI ω; replace aL := aL.gb dI ω; replace aD := aD.gb dI ω; replace aJ := aJ.gb dI ω; replace aK := aK.gr dI (fun k hk => hk.2.1); replace aH := aH.gr dI (fun k hk => hk.2.1); replace eC := eC.gr dI (fun k hk => hk.2.1)
     replace aA := aA.gr dI (fun k hk e => by have := Sx_base hk; injection e; omega); replace aG := aG.gr dI (fun k hk => hk.2.2.1); clear aP dI
     refine At.dn ?_
     refine At.start ?_
     refine At.rk oD 2 [(157, .int .i64 (gI (gL fr (gI op 0)) q)), (156, .slice aW op4.length aY)] .n (fun zG oE => ?_)
     clear oD
     refine At.seq oE 1 [[]] [(158, .slice (some ⟨fN.heap.size, 0, none⟩) 1 1)] (fN.alloc (.cells #[.int .i64 (gI (gL fr (gI op 0)) q)] 3 (0, 0))) [] κ trivial (fun zH oF jB oG => ?_)
     clear oE; have cR := gr_alloc jB; have := cR.size; replace aI := aI.gn cR; replace aF := aF.gn cR; replace aL := aL.gn cR; replace aD := aD.gn cR; replace aJ := aJ.gn cR; replace aK := aK.grN cR; replace aH := aH.grN cR; replace eC := eC.grN cR; replace gX := gX.gn cR; replace aA := aA.grN cR; replace aG := aG.grN cR
     have jC : Bx oF (fN.heap.size) [.int .i64 (gI (gL fr (gI op 0)) q)] 3 := Bx.new jB; have := jC.lt; clear cR jB; have rY : (op4 ++ ([gI (gL fr (gI op 0)) q])).length = (op4).length + ([gI (gL fr (gI op 0)) q] : List Int).length := List.length_append
     simp only [List.length_cons, List.length_nil] at rY
     refine At.act oG (appendR (α := Int) (t := 22) (d := 159) (n := op4.length) (m := 1) (cc := 1) (xs := op4) (ys := [gI (gL fr (gI op 0)) q]) (bytes := 8) (by first | rfl | omega | (simp; done) | (simp; omega)) (by first | rfl | omega | (simp; done) | (simp; omega)) κ rfl κ aA (Bx.srcR (l := ([gI (gL fr (gI op 0)) q] : List Int)) jC rfl) (by simp only [List.length_cons, List.length_nil]; omega) (by simp only [List.length_cons, List.length_nil]; omega)) ?_
     rintro d_ v_ hS ⟨rfl, fB, hT, fC⟩
     obtain rfl := fC.val
     have dJ := fC.gr
     refine ⟨_, rfl, fun zI oH => ?_⟩
     clear oG; clear jC
     have rZ := fC.own (Sx (cM.heap.size) [obk (aE), obk (aB), obk (aC)]) (fun g _ hs => ⟨hs.2.1, hs.2.2.1, hs.2.2.2.1, hs.2.2.2.2⟩) ⟨aK.ne_new, aH.ne_new, eC.ne_new, (show cM.heap.size ≤ oF.heap.size by omega)⟩
     have := dJ.size; replace aI := aI.gr dJ (fun k hk => by have := aA.ge k hk; omega); replace aF := aF.gr dJ (fun k hk => by have := aA.ge k hk; omega); replace aL := aL.gr dJ (fun k hk => by have := aA.ge k hk; omega); replace aD := aD.gr dJ (fun e => by have := aA.ge _ e; omega); replace aJ := aJ.gr dJ (fun e => by have := aA.ge _ e; omega)
     replace aK : OwnLL hS (aO.heap.size) [some (fN.heap.size), obk (fB), some (aN.heap.size), obk (aC), obk (aB)] aE bA 22 3 (fr : List (List Int)) := aK.grA dJ (fun k hk => hk.2.1) (fun k hk hs => ⟨hs.1, own_repl fC.at_ hs.2.1 hk, hs.2.2.1, hs.2.2.2.1, hs.2.2.2.2.1, hs.2.2.2.2.2⟩)
     replace aH : OwnR hS (Sx (aS.heap.size) [some (fN.heap.size), obk (fB), some (aN.heap.size), obk (aC), obk (aE)]) aB aQ 3 ((lf4).set (gI (gL fr (gI op 0)) q : Int).toNat ((gI lf4 (gI (gL fr (gI op 0)) q)) - 1) : List Int) := aH.grA dJ (fun k hk => hk.2.1) (fun k hk hs => ⟨hs.1, own_repl fC.at_ hs.2.1 hk, hs.2.2.1, hs.2.2.2.1, hs.2.2.2.2.1, hs.2.2.2.2.2⟩)
     replace eC : OwnR hS (Sx (aV.heap.size) [some (fN.heap.size), obk (fB), some (aN.heap.size), obk (aE), obk (aB)]) aC aR 3 ((ms4).set (gI (gL fr (gI op 0)) q : Int).toNat (gI op 0) : List Int) := eC.grA dJ (fun k hk => hk.2.1) (fun k hk hs => ⟨hs.1, own_repl fC.at_ hs.2.1 hk, hs.2.2.1, hs.2.2.2.1, hs.2.2.2.2.1, hs.2.2.2.2.2⟩)
     replace gX := gX.gr dJ (fun e => by have := aA.ge _ e; omega)
     replace aG : OwnR hS (Sx (aO.heap.size) [some (fN.heap.size), obk (aE), obk (fB), some (aN.heap.size), obk (aC), obk (aB)]) eZ fA 3 (gL fr (gI op 0) : List Int) := aG.grA dJ (fun k hk => hk.2.2.1) (fun k hk hs => ⟨hs.1, hs.2.1, own_repl fC.at_ hs.2.2.1 hk, hs.2.2.2.1, hs.2.2.2.2.1, hs.2.2.2.2.2.1, hs.2.2.2.2.2.2⟩)
     clear aA dJ fC
     refine At.rk oH 1 [(20, .slice fB ((op4 ++ ([gI (gL fr (gI op 0)) q])).length) hT)] .n (fun zJ oI => ?_)
     clear oH
     refine At.done rfl ?_
     refine b_n ?_
     refine t_n ?_
     refine At.start ?_
     refine At.rk oI 2 [(113, .int .i64 (q + 1))] (.w 160 (q + 1) <| .n) (fun zK oJ => ?_)
     clear oI
     refine At.dn ?_
     have oK := oJ.as 20 (.slice fB ((op4 ++ ([gI (gL fr (gI op 0)) q])).length) hT) (.slice fB ((op4 ++ ([gI (gL fr (gI op 0)) q]) : List Int).length) hT) rfl (slice_len (by first | rfl | omega | (simp; done) | (simp; omega)))
     clear oJ
     have oL := oK.as 15 (.slice aC ms4.length aR) (.slice aC (((ms4).set (gI (gL fr (gI op 0)) q : Int).toNat (gI op 0) : List Int).length) aR) rfl (slice_len (by first | (simp only [List.length_set]; done) | rfl | omega | (simp; done) | (simp; omega)))
     clear oK
     have sA := oL.as 14 (.slice aB lf4.length aQ) (.slice aB (((lf4).set (gI (gL fr (gI op 0)) q : Int).toNat ((gI lf4 (gI (gL fr (gI op 0)) q)) - 1) : List Int).length) aQ) rfl (slice_len (by first | (simp only [List.length_set]; done) | rfl | omega | (simp; done) | (simp; omega)))
     clear oL
     exact ⟨_, ω, (q + 1), withW ss2 (gI (gL fr (gI op 0)) q), ((lf4).set (gI (gL fr (gI op 0)) q : Int).toNat ((gI lf4 (gI (gL fr (gI op 0)) q)) - 1) : List Int), aB, aQ, ((ms4).set (gI (gL fr (gI op 0)) q : Int).toNat (gI op 0) : List Int), aC, aR, (op4 ++ ([gI (gL fr (gI op 0)) q]) : List Int), fB, hT, rfl, sA.sb, aI, aF, aL, aD, aJ, (aK.imp (fun g _ hs => ⟨hs.2.1, hs.2.2.1, hs.2.2.2.1, hs.2.2.2.2.1, hs.2.2.2.2.2⟩)), (aH.imp (fun g _ hs => ⟨hs.2.1, hs.2.2.1, hs.2.2.2.1, hs.2.2.2.2.1, hs.2.2.2.2.2⟩)), (eC.imp (fun g _ hs => ⟨hs.2.1, hs.2.2.1, hs.2.2.2.1, hs.2.2.2.2.1, hs.2.2.2.2.2⟩)), gX, rZ, (aG.imp (fun g _ hs => ⟨hs.2.1, hs.2.2.1, hs.2.2.2.1, hs.2.2.2.2.1, hs.2.2.2.2.2.1, hs.2.2.2.2.2.2⟩)), ω, ω, (okW_with hok2), ⟨tl ++ [gI (gL fr (gI op 0)) q], by rw [hop4]; rfl, by rw [from_with hok2]; exact aw_add hG hnd (from_len _) hwi hil hnr (by rw [← has_W ω ω]; assumption) ω (.inl ⟨by omega, rfl⟩)⟩, (by have hlw := len_with (n := gI (gL fr (gI op 0)) q) (m := 1) hok2 (if_pos ⟨by omega, by omega, by assumption⟩).symm; rw [List.length_append]; simp only [List.length_singleton]; omega), (okW_with hok2).1, ω, ω, ω, ω⟩
    have zL := ne_of_beq_false jA
    refine wp_skip ?_
    refine t_n ?_
    refine sqs ?_
    refine At.rk gW 2 [(154, .int .i64 (gI (gL fr (gI op 0)) q)), (153, .agg ((ss2 : List Int).map wV).toArray)] (.p (show ((ss2 : List Int).map wV).length = 4 from ((List.length_map _).trans σ)) <| .p aP.whole <| .o (.cs ((ss2 : List Int).map wV)) <| .n) (fun zM oM => ?_)
    clear gW
    refine At.cl oM (some 155) (with_any (s := ss2) (n := gI (gL fr (gI op 0)) q) σ) ?_
    rintro e_ zN ⟨rfl, he⟩
    refine ⟨_, rfl, _, rfl, fun zO oN => ?_⟩
    clear oM; have cS := gr_ext he; have := cS.size; replace aI := aI.gn cS; replace aF := aF.gn cS; replace aL := aL.gn cS; replace aD := aD.gn cS; replace aJ := aJ.gn cS; replace aK := aK.gn cS; replace aH := aH.gn cS; replace aM := aM.gn cS; replace aP := aP.gn cS; replace aA := aA.gn cS; replace aG := aG.gn cS; clear cS he
    refine At.act oN (storeBlk (t := 44) (b := aN.heap.size) (n := 4) (cs' := ((withW ss2 (gI (gL fr (gI op 0)) q) : List Int).map wV)) κ κ ((List.length_map _).trans (okLen (okW_with σ))) oneW_ ((show ((withW ss2 (gI (gL fr (gI op 0)) q) : List Int).map wV).length = 4 from ((List.length_map _).trans (okLen (okW_with σ)))).trans (show ((ss2 : List Int).map wV).length = 4 from ((List.length_map _).trans σ)).symm) aP) ?_
    rintro d_ v_ fO ⟨rfl, dK, gY⟩
    refine ⟨_, rfl, fun zP oO => ?_⟩
    clear oN; have := dK.size; replace aI := aI.gr dK (fun k h => by injection h; omega); replace aF := aF.gb dK ω; replace aL := aL.gb dK ω; replace aD := aD.gb dK ω; replace aJ := aJ.gb dK ω; replace aK := aK.gr dK (fun k hk => hk.2.1); replace aH := aH.gr dK (fun k hk => hk.2.1); replace aM := aM.gr dK (fun k hk => hk.2.1)
    replace aA := aA.gr dK (fun k hk e => by have := Sx_base hk; injection e; omega); replace aG := aG.gr dK (fun k hk => hk.2.2.1); clear aP dK
    refine At.dn ?_
    refine At.start ?_
    refine At.rk oO 2 [(157, .int .i64 (gI (gL fr (gI op 0)) q)), (156, .slice aW op4.length aY)] .n (fun zQ oP => ?_)
    clear oO
    refine At.seq oP 1 [[]] [(158, .slice (some ⟨fO.heap.size, 0, none⟩) 1 1)] (fO.alloc (.cells #[.int .i64 (gI (gL fr (gI op 0)) q)] 3 (0, 0))) [] κ trivial (fun zR oQ jD oR => ?_)
    clear oP; have cT := gr_alloc jD; have := cT.size; replace aI := aI.gn cT; replace aF := aF.gn cT; replace aL := aL.gn cT; replace aD := aD.gn cT; replace aJ := aJ.gn cT; replace aK := aK.grN cT; replace aH := aH.grN cT; replace aM := aM.grN cT; replace gY := gY.gn cT; replace aA := aA.grN cT; replace aG := aG.grN cT
    have jE : Bx oQ (fO.heap.size) [.int .i64 (gI (gL fr (gI op 0)) q)] 3 := Bx.new jD; have := jE.lt; clear cT jD; have sB : (op4 ++ ([gI (gL fr (gI op 0)) q])).length = (op4).length + ([gI (gL fr (gI op 0)) q] : List Int).length := List.length_append
    simp only [List.length_cons, List.length_nil] at sB
    refine At.act oR (appendR (α := Int) (t := 22) (d := 159) (n := op4.length) (m := 1) (cc := 1) (xs := op4) (ys := [gI (gL fr (gI op 0)) q]) (bytes := 8) (by first | rfl | omega | (simp; done) | (simp; omega)) (by first | rfl | omega | (simp; done) | (simp; omega)) κ rfl κ aA (Bx.srcR (l := ([gI (gL fr (gI op 0)) q] : List Int)) jE rfl) (by simp only [List.length_cons, List.length_nil]; omega) (by simp only [List.length_cons, List.length_nil]; omega)) ?_
    rintro d_ v_ hU ⟨rfl, fD, hV, fE⟩
    obtain rfl := fE.val
    have dL := fE.gr
    refine ⟨_, rfl, fun zS oS => ?_⟩
    clear oR; clear jE
    have sC := fE.own (Sx (cM.heap.size) [obk (aE), obk (aB), obk (aC)]) (fun g _ hs => ⟨hs.2.1, hs.2.2.1, hs.2.2.2.1, hs.2.2.2.2⟩) ⟨aK.ne_new, aH.ne_new, aM.ne_new, (show cM.heap.size ≤ oQ.heap.size by omega)⟩
    have := dL.size; replace aI := aI.gr dL (fun k hk => by have := aA.ge k hk; omega); replace aF := aF.gr dL (fun k hk => by have := aA.ge k hk; omega); replace aL := aL.gr dL (fun k hk => by have := aA.ge k hk; omega); replace aD := aD.gr dL (fun e => by have := aA.ge _ e; omega); replace aJ := aJ.gr dL (fun e => by have := aA.ge _ e; omega)
    replace aK : OwnLL hU (aO.heap.size) [some (fO.heap.size), obk (fD), some (aN.heap.size), obk (aC), obk (aB)] aE bA 22 3 (fr : List (List Int)) := aK.grA dL (fun k hk => hk.2.1) (fun k hk hs => ⟨hs.1, own_repl fE.at_ hs.2.1 hk, hs.2.2.1, hs.2.2.2.1, hs.2.2.2.2.1, hs.2.2.2.2.2⟩)
    replace aH : OwnR hU (Sx (aS.heap.size) [some (fO.heap.size), obk (fD), some (aN.heap.size), obk (aC), obk (aE)]) aB aQ 3 ((lf4).set (gI (gL fr (gI op 0)) q : Int).toNat ((gI lf4 (gI (gL fr (gI op 0)) q)) - 1) : List Int) := aH.grA dL (fun k hk => hk.2.1) (fun k hk hs => ⟨hs.1, own_repl fE.at_ hs.2.1 hk, hs.2.2.1, hs.2.2.2.1, hs.2.2.2.2.1, hs.2.2.2.2.2⟩)
    replace aM : OwnR hU (Sx (aV.heap.size) [some (fO.heap.size), obk (fD), some (aN.heap.size), obk (aE), obk (aB)]) aC aR 3 (ms4 : List Int) := aM.grA dL (fun k hk => hk.2.1) (fun k hk hs => ⟨hs.1, own_repl fE.at_ hs.2.1 hk, hs.2.2.1, hs.2.2.2.1, hs.2.2.2.2.1, hs.2.2.2.2.2⟩)
    replace gY := gY.gr dL (fun e => by have := aA.ge _ e; omega)
    replace aG : OwnR hU (Sx (aO.heap.size) [some (fO.heap.size), obk (aE), obk (fD), some (aN.heap.size), obk (aC), obk (aB)]) eZ fA 3 (gL fr (gI op 0) : List Int) := aG.grA dL (fun k hk => hk.2.2.1) (fun k hk hs => ⟨hs.1, hs.2.1, own_repl fE.at_ hs.2.2.1 hk, hs.2.2.2.1, hs.2.2.2.2.1, hs.2.2.2.2.2.1, hs.2.2.2.2.2.2⟩)
    clear aA dL fE
    refine At.rk oS 1 [(20, .slice fD ((op4 ++ ([gI (gL fr (gI op 0)) q])).length) hV)] .n (fun zT oT => ?_)
    clear oS
    refine At.done rfl ?_
    refine b_n ?_
    refine t_n ?_
    refine At.start ?_
    refine At.rk oT 2 [(113, .int .i64 (q + 1))] (.w 160 (q + 1) <| .n) (fun zU oU => ?_)
    clear oT
    refine At.dn ?_
    have oV := oU.as 20 (.slice fD ((op4 ++ ([gI (gL fr (gI op 0)) q])).length) hV) (.slice fD ((op4 ++ ([gI (gL fr (gI op 0)) q]) : List Int).length) hV) rfl (slice_len (by first | rfl | omega | (simp; done) | (simp; omega)))
    clear oU
    have oW := oV.as 15 (.slice aC ms4.length aR) (.slice aC ((ms4 : List Int).length) aR) rfl (slice_len (by first | rfl | omega | (simp; done) | (simp; omega)))
    clear oV
    have sD := oW.as 14 (.slice aB lf4.length aQ) (.slice aB (((lf4).set (gI (gL fr (gI op 0)) q : Int).toNat ((gI lf4 (gI (gL fr (gI op 0)) q)) - 1) : List Int).length) aQ) rfl (slice_len (by first | (simp only [List.length_set]; done) | rfl | omega | (simp; done) | (simp; omega)))
    clear oW
    exact ⟨_, ω, (q + 1), withW ss2 (gI (gL fr (gI op 0)) q), ((lf4).set (gI (gL fr (gI op 0)) q : Int).toNat ((gI lf4 (gI (gL fr (gI op 0)) q)) - 1) : List Int), aB, aQ, (ms4 : List Int), aC, aR, (op4 ++ ([gI (gL fr (gI op 0)) q]) : List Int), fD, hV, rfl, sD.sb, aI, aF, aL, aD, aJ, (aK.imp (fun g _ hs => ⟨hs.2.1, hs.2.2.1, hs.2.2.2.1, hs.2.2.2.2.1, hs.2.2.2.2.2⟩)), (aH.imp (fun g _ hs => ⟨hs.2.1, hs.2.2.1, hs.2.2.2.1, hs.2.2.2.2.1, hs.2.2.2.2.2⟩)), (aM.imp (fun g _ hs => ⟨hs.2.1, hs.2.2.1, hs.2.2.2.1, hs.2.2.2.2.1, hs.2.2.2.2.2⟩)), gY, sC, (aG.imp (fun g _ hs => ⟨hs.2.1, hs.2.2.1, hs.2.2.2.1, hs.2.2.2.2.1, hs.2.2.2.2.2.1, hs.2.2.2.2.2.2⟩)), ω, ω, (okW_with hok2), ⟨tl ++ [gI (gL fr (gI op 0)) q], by rw [hop4]; rfl, by rw [from_with hok2]; exact aw_add hG hnd (from_len _) hwi hil hnr (by rw [← has_W ω ω]; assumption) ω (.inr ⟨by omega, rfl⟩)⟩, (by have hlw := len_with (n := gI (gL fr (gI op 0)) q) (m := 1) hok2 (if_pos ⟨by omega, by omega, by assumption⟩).symm; rw [List.length_append]; simp only [List.length_singleton]; omega), (okW_with hok2).1, ω, ω, ω, ω⟩
   have zV := bne_eq_false_iff_eq.1 gU
   refine At.rk fY 16 [(141, .bool false), (140, .bool false), (134, .bool false), (133, .bool ((gI g.ow (gI (gL fr (gI op 0)) q) : Int) != p)), (132, .int .i64 (p)), (131, .int .i64 (gI g.ow (gI (gL fr (gI op 0)) q))), (130, .pointer (some (nR.add ((gI (gL fr (gI op 0)) q : Int).toNat * 1)))), (129, .int .i64 (gI (gL fr (gI op 0)) q)), (128, .slice Ag0 g.ow.length cg0), (127, pt w.heap.size 0)] (.e 126 hQ <| .l (aD.cell (i := 0) rfl) <| .a (gI (gL fr (gI op 0)) q) g.ow.length nS <| .l nT <| .e 134 gU <| .n) (fun zW jF => ?_)
   clear fY
   refine At.dn ?_
   refine cond_F jF rfl ?_
   refine wp_skip ?_
   refine t_n ?_
   refine wp_seq ?_
   refine sqs ?_
   obtain ⟨zX, sE, _, _, sF⟩ := RdI.get aF.ow (gI (gL fr (gI op 0)) q) ω ω
   refine At.rk jF 7 [(148, .bool ((gI g.ow (gI (gL fr (gI op 0)) q) : Int) == p))] (.l (aD.cell (i := 0) rfl) <| .a (gI (gL fr (gI op 0)) q) g.ow.length sE <| .l sF <| .n) (fun zY gZ => ?_)
   clear jF
   refine At.dn ?_
   refine cond_S gZ (t := (gI g.ow (gI (gL fr (gI op 0)) q) : Int) == p) rfl (fun jG => ?_) (fun jG => ?_)
   ·have zZ := eq_of_beq jG
    refine At.start ?_
    obtain ⟨oX, oY, aAa, aAb, aAc⟩ := aM.get (gI (gL fr (gI op 0)) q) ω ω (sz := 1) rfl
    refine At.rk gZ 4 [(152, .pointer (some (oX.add ((gI (gL fr (gI op 0)) q : Int).toNat * 1)))), (151, .int .i64 (gI op 0))] (.a (gI (gL fr (gI op 0)) q) ms4.length oY <| .n) (fun aAd oZ => ?_)
    clear gZ
    refine At.act oZ (storeR (α := Int) (t := 3) (i := gI (gL fr (gI op 0)) q) (ad := oX) (v := .int .i64 (gI op 0)) (gI op 0) κ rfl rfl κ oY aM ω ω) ?_
    rintro d_ v_ aAe ⟨rfl, dM, eD⟩
    refine ⟨_, rfl, fun aAf pA => ?_⟩
    clear oZ; have aAg : ((ms4).set (gI (gL fr (gI op 0)) q : Int).toNat (gI op 0)).length = (ms4).length := List.length_set; have := dM.size; replace aI := aI.gr dM (fun k hk => by have := aM.ge k hk; omega); replace aF := aF.gr dM (fun k hk => by have := aM.ge k hk; omega); replace aL := aL.gr dM (fun k hk => by have := aM.ge k hk; omega); replace aD := aD.gr dM (fun e => by have := aM.ge _ e; omega)
    replace aJ := aJ.gr dM (fun e => by have := aM.ge _ e; omega); replace aK := aK.gr dM (fun k hk => hk.2.2.1); replace aH := aH.gr dM (fun k hk => hk.2.2.1); replace aP := aP.gr dM (aM.neb (fun g hs => hs.2.1)); replace aA := aA.gr dM (fun k hk => hk.2.2.1); replace aG := aG.gr dM (fun k hk => hk.2.2.2.1); clear aM dM
    refine At.dn ?_
    refine sqs ?_
    refine At.rk pA 2 [(154, .int .i64 (gI (gL fr (gI op 0)) q)), (153, .agg ((ss2 : List Int).map wV).toArray)] (.p (show ((ss2 : List Int).map wV).length = 4 from ((List.length_map _).trans σ)) <| .p aP.whole <| .o (.cs ((ss2 : List Int).map wV)) <| .n) (fun aAh pB => ?_)
    clear pA
    refine At.cl pB (some 155) (with_any (s := ss2) (n := gI (gL fr (gI op 0)) q) σ) ?_
    rintro e_ aAi ⟨rfl, he⟩
    refine ⟨_, rfl, _, rfl, fun aAj pC => ?_⟩
    clear pB; have cU := gr_ext he; have := cU.size; replace aI := aI.gn cU; replace aF := aF.gn cU; replace aL := aL.gn cU; replace aD := aD.gn cU; replace aJ := aJ.gn cU; replace aK := aK.gn cU; replace aH := aH.gn cU; replace eD := eD.gn cU; replace aP := aP.gn cU; replace aA := aA.gn cU; replace aG := aG.gn cU; clear cU he
    refine At.act pC (storeBlk (t := 44) (b := aN.heap.size) (n := 4) (cs' := ((withW ss2 (gI (gL fr (gI op 0)) q) : List Int).map wV)) κ κ ((List.length_map _).trans (okLen (okW_with σ))) oneW_ ((show ((withW ss2 (gI (gL fr (gI op 0)) q) : List Int).map wV).length = 4 from ((List.length_map _).trans (okLen (okW_with σ)))).trans (show ((ss2 : List Int).map wV).length = 4 from ((List.length_map _).trans σ)).symm) aP) ?_
    rintro d_ v_ fP ⟨rfl, dN, hA⟩
    refine ⟨_, rfl, fun aAk pD => ?_⟩
    clear pC; have := dN.size; replace aI := aI.gr dN (fun k h => by injection h; omega); replace aF := aF.gb dN ω; replace aL := aL.gb dN ω; replace aD := aD.gb dN ω; replace aJ := aJ.gb dN ω; replace aK := aK.gr dN (fun k hk => hk.2.1); replace aH := aH.gr dN (fun k hk => hk.2.1); replace eD := eD.gr dN (fun k hk => hk.2.1)
    replace aA := aA.gr dN (fun k hk e => by have := Sx_base hk; injection e; omega); replace aG := aG.gr dN (fun k hk => hk.2.2.1); clear aP dN
    refine At.dn ?_
    refine At.start ?_
    refine At.rk pD 2 [(157, .int .i64 (gI (gL fr (gI op 0)) q)), (156, .slice aW op4.length aY)] .n (fun aAl pE => ?_)
    clear pD
    refine At.seq pE 1 [[]] [(158, .slice (some ⟨fP.heap.size, 0, none⟩) 1 1)] (fP.alloc (.cells #[.int .i64 (gI (gL fr (gI op 0)) q)] 3 (0, 0))) [] κ trivial (fun aAm pF jH pG => ?_)
    clear pE; have cV := gr_alloc jH; have := cV.size; replace aI := aI.gn cV; replace aF := aF.gn cV; replace aL := aL.gn cV; replace aD := aD.gn cV; replace aJ := aJ.gn cV; replace aK := aK.grN cV; replace aH := aH.grN cV; replace eD := eD.grN cV; replace hA := hA.gn cV; replace aA := aA.grN cV; replace aG := aG.grN cV
    have jI : Bx pF (fP.heap.size) [.int .i64 (gI (gL fr (gI op 0)) q)] 3 := Bx.new jH; have := jI.lt; clear cV jH; have sG : (op4 ++ ([gI (gL fr (gI op 0)) q])).length = (op4).length + ([gI (gL fr (gI op 0)) q] : List Int).length := List.length_append
    simp only [List.length_cons, List.length_nil] at sG
    refine At.act pG (appendR (α := Int) (t := 22) (d := 159) (n := op4.length) (m := 1) (cc := 1) (xs := op4) (ys := [gI (gL fr (gI op 0)) q]) (bytes := 8) (by first | rfl | omega | (simp; done) | (simp; omega)) (by first | rfl | omega | (simp; done) | (simp; omega)) κ rfl κ aA (Bx.srcR (l := ([gI (gL fr (gI op 0)) q] : List Int)) jI rfl) (by simp only [List.length_cons, List.length_nil]; omega) (by simp only [List.length_cons, List.length_nil]; omega)) ?_
    rintro d_ v_ hW ⟨rfl, fF, hX, fG⟩
    obtain rfl := fG.val
    have dO := fG.gr
    refine ⟨_, rfl, fun aAn pH => ?_⟩
    clear pG; clear jI
    have sH := fG.own (Sx (cM.heap.size) [obk (aE), obk (aB), obk (aC)]) (fun g _ hs => ⟨hs.2.1, hs.2.2.1, hs.2.2.2.1, hs.2.2.2.2⟩) ⟨aK.ne_new, aH.ne_new, eD.ne_new, (show cM.heap.size ≤ pF.heap.size by omega)⟩
    have := dO.size; replace aI := aI.gr dO (fun k hk => by have := aA.ge k hk; omega); replace aF := aF.gr dO (fun k hk => by have := aA.ge k hk; omega); replace aL := aL.gr dO (fun k hk => by have := aA.ge k hk; omega); replace aD := aD.gr dO (fun e => by have := aA.ge _ e; omega); replace aJ := aJ.gr dO (fun e => by have := aA.ge _ e; omega)
    replace aK : OwnLL hW (aO.heap.size) [some (fP.heap.size), obk (fF), some (aN.heap.size), obk (aC), obk (aB)] aE bA 22 3 (fr : List (List Int)) := aK.grA dO (fun k hk => hk.2.1) (fun k hk hs => ⟨hs.1, own_repl fG.at_ hs.2.1 hk, hs.2.2.1, hs.2.2.2.1, hs.2.2.2.2.1, hs.2.2.2.2.2⟩)
    replace aH : OwnR hW (Sx (aS.heap.size) [some (fP.heap.size), obk (fF), some (aN.heap.size), obk (aC), obk (aE)]) aB aQ 3 ((lf4).set (gI (gL fr (gI op 0)) q : Int).toNat ((gI lf4 (gI (gL fr (gI op 0)) q)) - 1) : List Int) := aH.grA dO (fun k hk => hk.2.1) (fun k hk hs => ⟨hs.1, own_repl fG.at_ hs.2.1 hk, hs.2.2.1, hs.2.2.2.1, hs.2.2.2.2.1, hs.2.2.2.2.2⟩)
    replace eD : OwnR hW (Sx (aV.heap.size) [some (fP.heap.size), obk (fF), some (aN.heap.size), obk (aE), obk (aB)]) aC aR 3 ((ms4).set (gI (gL fr (gI op 0)) q : Int).toNat (gI op 0) : List Int) := eD.grA dO (fun k hk => hk.2.1) (fun k hk hs => ⟨hs.1, own_repl fG.at_ hs.2.1 hk, hs.2.2.1, hs.2.2.2.1, hs.2.2.2.2.1, hs.2.2.2.2.2⟩)
    replace hA := hA.gr dO (fun e => by have := aA.ge _ e; omega)
    replace aG : OwnR hW (Sx (aO.heap.size) [some (fP.heap.size), obk (aE), obk (fF), some (aN.heap.size), obk (aC), obk (aB)]) eZ fA 3 (gL fr (gI op 0) : List Int) := aG.grA dO (fun k hk => hk.2.2.1) (fun k hk hs => ⟨hs.1, hs.2.1, own_repl fG.at_ hs.2.2.1 hk, hs.2.2.2.1, hs.2.2.2.2.1, hs.2.2.2.2.2.1, hs.2.2.2.2.2.2⟩)
    clear aA dO fG
    refine At.rk pH 1 [(20, .slice fF ((op4 ++ ([gI (gL fr (gI op 0)) q])).length) hX)] .n (fun aAo pI => ?_)
    clear pH
    refine At.done rfl ?_
    refine b_n ?_
    refine t_n ?_
    refine At.start ?_
    refine At.rk pI 2 [(113, .int .i64 (q + 1))] (.w 160 (q + 1) <| .n) (fun aAp pJ => ?_)
    clear pI
    refine At.dn ?_
    have pK := pJ.as 20 (.slice fF ((op4 ++ ([gI (gL fr (gI op 0)) q])).length) hX) (.slice fF ((op4 ++ ([gI (gL fr (gI op 0)) q]) : List Int).length) hX) rfl (slice_len (by first | rfl | omega | (simp; done) | (simp; omega)))
    clear pJ
    have pL := pK.as 15 (.slice aC ms4.length aR) (.slice aC (((ms4).set (gI (gL fr (gI op 0)) q : Int).toNat (gI op 0) : List Int).length) aR) rfl (slice_len (by first | (simp only [List.length_set]; done) | rfl | omega | (simp; done) | (simp; omega)))
    clear pK
    have sI := pL.as 14 (.slice aB lf4.length aQ) (.slice aB (((lf4).set (gI (gL fr (gI op 0)) q : Int).toNat ((gI lf4 (gI (gL fr (gI op 0)) q)) - 1) : List Int).length) aQ) rfl (slice_len (by first | (simp only [List.length_set]; done) | rfl | omega | (simp; done) | (simp; omega)))
    clear pL
    exact ⟨_, ω, (q + 1), withW ss2 (gI (gL fr (gI op 0)) q), ((lf4).set (gI (gL fr (gI op 0)) q : Int).toNat ((gI lf4 (gI (gL fr (gI op 0)) q)) - 1) : List Int), aB, aQ, ((ms4).set (gI (gL fr (gI op 0)) q : Int).toNat (gI op 0) : List Int), aC, aR, (op4 ++ ([gI (gL fr (gI op 0)) q]) : List Int), fF, hX, rfl, sI.sb, aI, aF, aL, aD, aJ, (aK.imp (fun g _ hs => ⟨hs.2.1, hs.2.2.1, hs.2.2.2.1, hs.2.2.2.2.1, hs.2.2.2.2.2⟩)), (aH.imp (fun g _ hs => ⟨hs.2.1, hs.2.2.1, hs.2.2.2.1, hs.2.2.2.2.1, hs.2.2.2.2.2⟩)), (eD.imp (fun g _ hs => ⟨hs.2.1, hs.2.2.1, hs.2.2.2.1, hs.2.2.2.2.1, hs.2.2.2.2.2⟩)), hA, sH, (aG.imp (fun g _ hs => ⟨hs.2.1, hs.2.2.1, hs.2.2.2.1, hs.2.2.2.2.1, hs.2.2.2.2.2.1, hs.2.2.2.2.2.2⟩)), ω, ω, (okW_with hok2), ⟨tl ++ [gI (gL fr (gI op 0)) q], by rw [hop4]; rfl, by rw [from_with hok2]; exact aw_add hG hnd (from_len _) hwi hil hnr (by rw [← has_W ω ω]; assumption) ω (.inl ⟨by omega, rfl⟩)⟩, (by have hlw := len_with (n := gI (gL fr (gI op 0)) q) (m := 1) hok2 (if_pos ⟨by omega, by omega, by assumption⟩).symm; rw [List.length_append]; simp only [List.length_singleton]; omega), (okW_with hok2).1, ω, ω, ω, ω⟩
   have aAq := ne_of_beq_false jG
   refine wp_skip ?_
   refine t_n ?_
   refine sqs ?_
   refine At.rk gZ 2 [(154, .int .i64 (gI (gL fr (gI op 0)) q)), (153, .agg ((ss2 : List Int).map wV).toArray)] (.p (show ((ss2 : List Int).map wV).length = 4 from ((List.length_map _).trans σ)) <| .p aP.whole <| .o (.cs ((ss2 : List Int).map wV)) <| .n) (fun aAr pM => ?_)
   clear gZ
   refine At.cl pM (some 155) (with_any (s := ss2) (n := gI (gL fr (gI op 0)) q) σ) ?_
   rintro e_ aAs ⟨rfl, he⟩
   refine ⟨_, rfl, _, rfl, fun aAt pN => ?_⟩
   clear pM; have cW := gr_ext he; have := cW.size; replace aI := aI.gn cW; replace aF := aF.gn cW; replace aL := aL.gn cW; replace aD := aD.gn cW; replace aJ := aJ.gn cW; replace aK := aK.gn cW; replace aH := aH.gn cW; replace aM := aM.gn cW; replace aP := aP.gn cW; replace aA := aA.gn cW; replace aG := aG.gn cW; clear cW he
   refine At.act pN (storeBlk (t := 44) (b := aN.heap.size) (n := 4) (cs' := ((withW ss2 (gI (gL fr (gI op 0)) q) : List Int).map wV)) κ κ ((List.length_map _).trans (okLen (okW_with σ))) oneW_ ((show ((withW ss2 (gI (gL fr (gI op 0)) q) : List Int).map wV).length = 4 from ((List.length_map _).trans (okLen (okW_with σ)))).trans (show ((ss2 : List Int).map wV).length = 4 from ((List.length_map _).trans σ)).symm) aP) ?_
   rintro d_ v_ fQ ⟨rfl, dP, hB⟩
   refine ⟨_, rfl, fun aAu pO => ?_⟩
   clear pN; have := dP.size; replace aI := aI.gr dP (fun k h => by injection h; omega); replace aF := aF.gb dP ω; replace aL := aL.gb dP ω; replace aD := aD.gb dP ω; replace aJ := aJ.gb dP ω; replace aK := aK.gr dP (fun k hk => hk.2.1); replace aH := aH.gr dP (fun k hk => hk.2.1); replace aM := aM.gr dP (fun k hk => hk.2.1)
   replace aA := aA.gr dP (fun k hk e => by have := Sx_base hk; injection e; omega); replace aG := aG.gr dP (fun k hk => hk.2.2.1); clear aP dP
   refine At.dn ?_
   refine At.start ?_
   refine At.rk pO 2 [(157, .int .i64 (gI (gL fr (gI op 0)) q)), (156, .slice aW op4.length aY)] .n (fun aAv pP => ?_)
   clear pO
   refine At.seq pP 1 [[]] [(158, .slice (some ⟨fQ.heap.size, 0, none⟩) 1 1)] (fQ.alloc (.cells #[.int .i64 (gI (gL fr (gI op 0)) q)] 3 (0, 0))) [] κ trivial (fun aAw pQ jJ pR => ?_)
   clear pP; have cX := gr_alloc jJ; have := cX.size; replace aI := aI.gn cX; replace aF := aF.gn cX; replace aL := aL.gn cX; replace aD := aD.gn cX; replace aJ := aJ.gn cX; replace aK := aK.grN cX; replace aH := aH.grN cX; replace aM := aM.grN cX; replace hB := hB.gn cX; replace aA := aA.grN cX; replace aG := aG.grN cX
   have jK : Bx pQ (fQ.heap.size) [.int .i64 (gI (gL fr (gI op 0)) q)] 3 := Bx.new jJ; have := jK.lt; clear cX jJ; have sJ : (op4 ++ ([gI (gL fr (gI op 0)) q])).length = (op4).length + ([gI (gL fr (gI op 0)) q] : List Int).length := List.length_append
   simp only [List.length_cons, List.length_nil] at sJ
   refine At.act pR (appendR (α := Int) (t := 22) (d := 159) (n := op4.length) (m := 1) (cc := 1) (xs := op4) (ys := [gI (gL fr (gI op 0)) q]) (bytes := 8) (by first | rfl | omega | (simp; done) | (simp; omega)) (by first | rfl | omega | (simp; done) | (simp; omega)) κ rfl κ aA (Bx.srcR (l := ([gI (gL fr (gI op 0)) q] : List Int)) jK rfl) (by simp only [List.length_cons, List.length_nil]; omega) (by simp only [List.length_cons, List.length_nil]; omega)) ?_
   rintro d_ v_ hY ⟨rfl, fH, hZ, fI⟩
   obtain rfl := fI.val
   have dQ := fI.gr
   refine ⟨_, rfl, fun aAx pS => ?_⟩
   clear pR; clear jK
   have sK := fI.own (Sx (cM.heap.size) [obk (aE), obk (aB), obk (aC)]) (fun g _ hs => ⟨hs.2.1, hs.2.2.1, hs.2.2.2.1, hs.2.2.2.2⟩) ⟨aK.ne_new, aH.ne_new, aM.ne_new, (show cM.heap.size ≤ pQ.heap.size by omega)⟩
   have := dQ.size; replace aI := aI.gr dQ (fun k hk => by have := aA.ge k hk; omega); replace aF := aF.gr dQ (fun k hk => by have := aA.ge k hk; omega); replace aL := aL.gr dQ (fun k hk => by have := aA.ge k hk; omega); replace aD := aD.gr dQ (fun e => by have := aA.ge _ e; omega); replace aJ := aJ.gr dQ (fun e => by have := aA.ge _ e; omega)
   replace aK : OwnLL hY (aO.heap.size) [some (fQ.heap.size), obk (fH), some (aN.heap.size), obk (aC), obk (aB)] aE bA 22 3 (fr : List (List Int)) := aK.grA dQ (fun k hk => hk.2.1) (fun k hk hs => ⟨hs.1, own_repl fI.at_ hs.2.1 hk, hs.2.2.1, hs.2.2.2.1, hs.2.2.2.2.1, hs.2.2.2.2.2⟩)
   replace aH : OwnR hY (Sx (aS.heap.size) [some (fQ.heap.size), obk (fH), some (aN.heap.size), obk (aC), obk (aE)]) aB aQ 3 ((lf4).set (gI (gL fr (gI op 0)) q : Int).toNat ((gI lf4 (gI (gL fr (gI op 0)) q)) - 1) : List Int) := aH.grA dQ (fun k hk => hk.2.1) (fun k hk hs => ⟨hs.1, own_repl fI.at_ hs.2.1 hk, hs.2.2.1, hs.2.2.2.1, hs.2.2.2.2.1, hs.2.2.2.2.2⟩)
   replace aM : OwnR hY (Sx (aV.heap.size) [some (fQ.heap.size), obk (fH), some (aN.heap.size), obk (aE), obk (aB)]) aC aR 3 (ms4 : List Int) := aM.grA dQ (fun k hk => hk.2.1) (fun k hk hs => ⟨hs.1, own_repl fI.at_ hs.2.1 hk, hs.2.2.1, hs.2.2.2.1, hs.2.2.2.2.1, hs.2.2.2.2.2⟩)
   replace hB := hB.gr dQ (fun e => by have := aA.ge _ e; omega)
   replace aG : OwnR hY (Sx (aO.heap.size) [some (fQ.heap.size), obk (aE), obk (fH), some (aN.heap.size), obk (aC), obk (aB)]) eZ fA 3 (gL fr (gI op 0) : List Int) := aG.grA dQ (fun k hk => hk.2.2.1) (fun k hk hs => ⟨hs.1, hs.2.1, own_repl fI.at_ hs.2.2.1 hk, hs.2.2.2.1, hs.2.2.2.2.1, hs.2.2.2.2.2.1, hs.2.2.2.2.2.2⟩)
   clear aA dQ fI
   refine At.rk pS 1 [(20, .slice fH ((op4 ++ ([gI (gL fr (gI op 0)) q])).length) hZ)] .n (fun aAy pT => ?_)
   clear pS
   refine At.done rfl ?_
   refine b_n ?_
   refine t_n ?_
   refine At.start ?_
   refine At.rk pT 2 [(113, .int .i64 (q + 1))] (.w 160 (q + 1) <| .n) (fun aAz pU => ?_)
   clear pT
   refine At.dn ?_
   have pV := pU.as 20 (.slice fH ((op4 ++ ([gI (gL fr (gI op 0)) q])).length) hZ) (.slice fH ((op4 ++ ([gI (gL fr (gI op 0)) q]) : List Int).length) hZ) rfl (slice_len (by first | rfl | omega | (simp; done) | (simp; omega)))
   clear pU
   have pW := pV.as 15 (.slice aC ms4.length aR) (.slice aC ((ms4 : List Int).length) aR) rfl (slice_len (by first | rfl | omega | (simp; done) | (simp; omega)))
   clear pV
   have sL := pW.as 14 (.slice aB lf4.length aQ) (.slice aB (((lf4).set (gI (gL fr (gI op 0)) q : Int).toNat ((gI lf4 (gI (gL fr (gI op 0)) q)) - 1) : List Int).length) aQ) rfl (slice_len (by first | (simp only [List.length_set]; done) | rfl | omega | (simp; done) | (simp; omega)))
   clear pW
   exact ⟨_, ω, (q + 1), withW ss2 (gI (gL fr (gI op 0)) q), ((lf4).set (gI (gL fr (gI op 0)) q : Int).toNat ((gI lf4 (gI (gL fr (gI op 0)) q)) - 1) : List Int), aB, aQ, (ms4 : List Int), aC, aR, (op4 ++ ([gI (gL fr (gI op 0)) q]) : List Int), fH, hZ, rfl, sL.sb, aI, aF, aL, aD, aJ, (aK.imp (fun g _ hs => ⟨hs.2.1, hs.2.2.1, hs.2.2.2.1, hs.2.2.2.2.1, hs.2.2.2.2.2⟩)), (aH.imp (fun g _ hs => ⟨hs.2.1, hs.2.2.1, hs.2.2.2.1, hs.2.2.2.2.1, hs.2.2.2.2.2⟩)), (aM.imp (fun g _ hs => ⟨hs.2.1, hs.2.2.1, hs.2.2.2.1, hs.2.2.2.2.1, hs.2.2.2.2.2⟩)), hB, sK, (aG.imp (fun g _ hs => ⟨hs.2.1, hs.2.2.1, hs.2.2.2.1, hs.2.2.2.2.1, hs.2.2.2.2.2.1, hs.2.2.2.2.2.2⟩)), ω, ω, (okW_with hok2), ⟨tl ++ [gI (gL fr (gI op 0)) q], by rw [hop4]; rfl, by rw [from_with hok2]; exact aw_add hG hnd (from_len _) hwi hil hnr (by rw [← has_W ω ω]; assumption) ω (.inr ⟨by omega, rfl⟩)⟩, (by have hlw := len_with (n := gI (gL fr (gI op 0)) q) (m := 1) hok2 (if_pos ⟨by omega, by omega, by assumption⟩).symm; rw [List.length_append]; simp only [List.length_singleton]; omega), (okW_with hok2).1, ω, ω, ω, ω⟩
  have aAA := of_decide_eq_false iX
  refine wp_exit ?_
  refine t_e ?_
  clear hm698
  refine t_e ?_
  refine b_e ?_
  refine b_n ?_
  refine t_n ?_
  obtain ⟨tl, hop4, hwi⟩ := hwi
  have hol4 := congrArg List.length hop4
  simp only [List.length_cons] at hol4
  rw [List.drop_of_length_le ω] at hwi
  refine At.start ?_
  obtain ⟨eE, jL⟩ : ∃ A_ : Option Addr, (if aY = (1 : Int).toNat then aW else Option.map (fun a_ : Addr => a_.add ((1 : Int).toNat * 1)) (aW)) = A_ := ⟨_, rfl⟩
  have pX := aA.drop ((1 : Int).toNat) ω (sz := 1) rfl
  rw [jL] at pX
  clear aA
  have iA : obk eE = obk aW := by rw [← jL]; exact obk_drop
  have : ((op4).drop (1 : Int).toNat).length = (op4).length - (1 : Int).toNat := List.length_drop
  have sM : OwnLL hO (aO.heap.size) [obk (eE), some (aN.heap.size), obk (aC), obk (aB)] aE bA 22 3 (fr : List (List Int)) := by rw [iA]; exact hP
  clear hP
  replace cO : OwnR hO (Sx (aS.heap.size) [obk (eE), some (aN.heap.size), obk (aC), obk (aE)]) aB aQ 3 (lf4 : List Int) := by rw [iA]; exact cO
  replace aM : OwnR hO (Sx (aV.heap.size) [obk (eE), some (aN.heap.size), obk (aE), obk (aB)]) aC aR 3 (ms4 : List Int) := by rw [iA]; exact aM
  replace aG : OwnR hO (Sx (aO.heap.size) [obk (aE), obk (eE), some (aN.heap.size), obk (aC), obk (aB)]) eZ fA 3 (gL fr (gI op 0) : List Int) := by rw [iA]; exact aG
  refine At.rk gT 3 [(20, .slice eE (((op4).drop (1 : Int).toNat).length) (aY - (1 : Int).toNat))] (.p (show 0 ≤ (1 : Int) from ω) <| .p (show (1 : Int) ≤ ((op4.length : Nat) : Int) from ω) <| .v 104 (show (.slice (if aY = (1 : Int).toNat then aW else Option.map (fun a_ : Addr => a_.add ((1 : Int).toNat * 1)) (aW)) (op4.length - (1 : Int).toNat) (aY - (1 : Int).toNat) : Value) = .slice eE (((op4).drop (1 : Int).toNat).length) (aY - (1 : Int).toNat) from (by rw [jL, List.length_drop])) <| .n) (fun aAB pY => ?_)
  clear gT
  refine At.dn ?_
  have pZ := pY.as 20 (.slice eE (((op4).drop (1 : Int).toNat).length) (aY - (1 : Int).toNat)) (.slice eE (((op4).drop (1 : Int).toNat : List Int).length) (aY - (1 : Int).toNat)) rfl (slice_len (by first | rfl | omega | (simp; done) | (simp; omega)))
  clear pY
  have qA := pZ.as 15 (.slice aC ms4.length aR) (.slice aC ((ms4 : List Int).length) aR) rfl (slice_len (by first | rfl | omega | (simp; done) | (simp; omega)))
  clear pZ
  have sN := qA.as 14 (.slice aB lf4.length aQ) (.slice aB ((lf4 : List Int).length) aQ) rfl (slice_len (by first | rfl | omega | (simp; done) | (simp; omega)))
  clear qA
  exact ⟨_, ω, ss2, (lf4 : List Int), aB, aQ, (ms4 : List Int), aC, aR, ((op4).drop (1 : Int).toNat : List Int), eE, (aY - (1 : Int).toNat), rfl, sN.sb, aI, aF, aL, aD, aJ, sM, cO, aM, aP, pX, hok2.1, hok2, ⟨_, by rw [hop4]; exact aw_close hwi⟩, ω, ω, ω, ω⟩
 have aAC := of_decide_eq_false iW
 refine wp_exit ?_
 refine t_e ?_
 clear hm646
 refine t_e ?_
 refine b_e ?_
 refine t_n ?_
 clear hM
 refine wp_seq ?_
 obtain ⟨pr, hw⟩ := hw
 have hnil : op = [] := List.length_eq_zero_iff.1 ω
 rw [hnil] at hw
 have hend := aw_end hG hw
 refine At.start ?_
 refine At.rk gS 2 [(162, .slice cN ms3.length eB), (161, .agg ((ss : List Int).map wV).toArray)] (.p (show ((ss : List Int).map wV).length = 4 from ((List.length_map _).trans σ)) <| .p fM.whole <| .o (.cs ((ss : List Int).map wV)) <| .n) (fun aAD qB => ?_)
 clear gS
 refine At.act qB (storeBlk (t := 44) (b := bU.heap.size) (n := 4) (cs' := ((ss : List Int).map wV)) κ κ ((List.length_map _).trans σ) oneW_ ((show ((ss : List Int).map wV).length = 4 from ((List.length_map _).trans σ)).trans (show ((List.replicate 4 (0 : Int) : List Int).map wV).length = 4 from len_P).symm) gO) ?_
 rintro d_ v_ aAE ⟨rfl, eF, sO⟩
 refine ⟨_, rfl, fun aAF qC => ?_⟩
 clear qB; have := eF.size; replace fX := fX.gr eF (fun k h => by injection h; omega); replace hK := hK.gb eF ω; replace hL := hL.gb eF ω; have aAG := gP.gr eF (fun k hk e => by have := Sx_base hk; injection e; omega); clear gP; replace hN := hN.gr eF (fun k hk e => by have := Sx_base hk; injection e; omega); replace gQ := gQ.gr eF (fun k hk e => by have := Sx_base hk; injection e; omega)
 replace fM := fM.gb eF ω; replace gR := gR.gr eF (fun k hk e => by have := Sx_base hk; injection e; omega); clear gO eF
 refine At.rk qC 1 [(9, .slice cN ms3.length eB)] .n (fun aAH sP => ?_)
 clear qC
 refine At.dn ?_
 clear fM
 refine wp_ret ?_
 refine ret2B_ sP (sl := 8) (cs := ((ss : List Int).map wV)) (m := 4) (q := 9) (v := .slice cN ms3.length eB) rfl κ κ κ ((List.length_map _).trans σ) sO ?_
 exact ⟨cN, eB, _, _, rfl, fX, (gQ.imp (fun g _ hs => by have := Sx_base hs; show w.heap.size ≤ g; omega)), hok, .inr ⟨hR, hp01, hend.1, hend.2⟩⟩
end Go.Proofs.YtplpgfcjjnaigaaDoor
namespace Go.Proofs.YtplpgfcjjnaigaaDoor
open Go Go.RowKit
attribute [local irreducible] ofZ fromW wordsD ofD ofW lsD lenW lenN fullW withW lessW hasW hasD inW inD leastD putD onI tzI orS andS minusS orD andD minusD fullD emptyD
set_option maxHeartbeats 4000000 in
theorem top_any {Ag0 Ag1 Ag2 : Option Addr} {cg0 cg1 cg2 : Nat} {g : GameL} {s : List Int} {w : World} (rg : RdG w 0 w.heap.size Ag0 Ag1 Ag2 cg0 cg1 cg2 g) (hs : OkW s) (rT : RdT w 0 w.heap.size) (hR : isR g = true) (hlt : ∀ i, inP s i → i < (g.ow.length : Int)) (hne : ∃ i, inP s i) :
    Calls Tryd.prog 39 #[.agg #[.slice Ag0 g.ow.length cg0, .slice Ag1 g.pr.length cg1, .slice Ag2 g.mv.length cg2], .agg ((s : List Int).map wV).toArray] w fun e w' => ∃ ts hh, e = .returned (.agg ((ts : List Int).map wV).toArray) ∧ Ext w w' ∧ TopT g s ts hh := by
 have hlg0 := rg.ow.len; have hlg1 := rg.pr.len; have hlg2 := rg.mv.len; have hkg0 := rg.k0; have hkg1 := rg.k1; have hkg2 := rg.k2; have hls := hs.1; have hG := isR_ok hR; have hn1 := hG.n1; have hpl := hG.pl; have hOl := ls_len (fromW s) 256
 refine enter_ (args := [.agg #[.slice Ag0 g.ow.length cg0, .slice Ag1 g.pr.length cg1, .slice Ag2 g.mv.length cg2], .agg ((s : List Int).map wV).toArray]) Tryd.func39 rfl Tryd.ntmps39 (Nat.le_of_ble_eq_true rfl) (fun act0 f0 => ?_)
 have e0 : Ext w w := Ext.refl w
 refine sqs ?_
 refine At.bx f0 2 [.slice Ag0 g.ow.length cg0, .slice Ag1 g.pr.length cg1, .slice Ag2 g.mv.length cg2] 25 (fun w1 g5 bx6 act4 f3 => ?_)
 clear f0; have := g5.size; replace e0 := e0.gn g5; have r9 := rg.gn g5; clear rg; have aI := rT.gn g5; clear rT; have := bx6.lt; clear g5
 refine At.bx f3 3 ((s : List Int).map wV) 44 (fun bC aU aK cQ bH => ?_)
 clear f3; have := aU.size; replace e0 := e0.gn aU; replace r9 := r9.gn aU; replace aI := aI.gn aU; replace bx6 := bx6.gn aU; have := aK.lt; clear aU
 refine At.bx bH 4 ((List.replicate 4 (0 : Int) : List Int).map wV) 44 (fun bA aS aT cR bI => ?_)
 clear bH; have := aS.size; replace e0 := e0.gn aS; replace r9 := r9.gn aS; replace aI := aI.gn aS; replace bx6 := bx6.gn aS; replace aK := aK.gn aS; have := aT.lt; clear aS
 refine At.dn ?_
 refine sqs ?_
 refine At.rk bI 1 [(5, .int .i64 (-1))] .n (fun cS bJ => ?_)
 clear bI
 refine At.dn ?_
 refine sqs ?_
 refine At.bx bJ 6 ((List.replicate 4 (0 : Int) : List Int).map wV) 44 (fun bK aR aW cT bL => ?_)
 clear bJ; have := aR.size; replace e0 := e0.gn aR; replace r9 := r9.gn aR; replace aI := aI.gn aR; replace bx6 := bx6.gn aR; replace aK := aK.gn aR; replace aT := aT.gn aR; have := aW.lt; clear aR
 refine At.dn ?_
 refine wp_seq ?_
 refine sqs ?_
 refine At.rk bL 1 [(10, .agg ((s : List Int).map wV).toArray)] (.p (show ((s : List Int).map wV).length = 4 from ((List.length_map _).trans σ)) <| .p aK.whole <| .o (.cs ((s : List Int).map wV)) <| .n) (fun cU bM => ?_)
 clear bL
 refine At.cl bM (some 11) (list_any (s := s) σ (aI.wide (Nat.zero_le _) ω)) ?_
 rintro e_ cV ⟨bN, bO, rfl, he, bP⟩
 have := ls_len (fromW s) 256
 refine ⟨_, rfl, _, rfl, fun cW bQ => ?_⟩
 clear bM; have aO := gr_ext he; have := aO.size; replace e0 := e0.gn aO; replace r9 := r9.gn aO; replace aI := aI.gn aO; replace bx6 := bx6.gn aO; replace aK := aK.gn aO; replace aT := aT.gn aO; replace aW := aW.gn aO; clear aO he
 refine At.rk bQ 2 [(13, .int .i64 (0)), (12, .int .i64 ((((lsD (fromW s) 256).length : Nat) : Int)))] .n (fun cX bR => ?_)
 clear bQ
 refine At.dn ?_
 refine wp_block ?_
 refine loop_g (fun (m_ : Nat) a_ w_ => ∃ (k : Int) (ts : List Int) (hh : Int), m_ = (((lsD (fromW s) 256).length : Int) - k).toNat ∧ (Frm 39 a_ [(13, .int .i64 (k)), (5, .int .i64 (hh)), (12, .int .i64 ((((lsD (fromW s) 256).length : Nat) : Int))), (11, .slice bN ((lsD (fromW s) 256).length) bO), (6, pt bA.heap.size 0), (4, pt bC.heap.size 0), (2, pt w.heap.size 0)]) ∧ (Ext w w_) ∧ (RdG w_ 0 w.heap.size Ag0 Ag1 Ag2 cg0 cg1 cg2 g) ∧ (RdT w_ 0 w.heap.size) ∧ (Bx w_ (w.heap.size) [.slice Ag0 g.ow.length cg0, .slice Ag1 g.pr.length cg1, .slice Ag2 g.mv.length cg2] 25) ∧ (Bx w_ (w1.heap.size) ((s : List Int).map wV) 44) ∧ (Bx w_ (bC.heap.size) ((List.replicate 4 (0 : Int) : List Int).map wV) 44) ∧ (Bx w_ (bA.heap.size) ((ts : List Int).map wV) 44) ∧ (OwnR w_ (Sx (bK.heap.size) []) bN bO 3 ((lsD (fromW s) 256) : List Int)) ∧ (0 ≤ k) ∧ (k ≤ ((lsD (fromW s) 256).length : Int)) ∧ (TopK g s ts hh k) ∧ (ts.length = 4) ∧ (bK.heap.size ≤ w_.heap.size)) _ ⟨0, List.replicate 4 (0 : Int), -1, rfl, bR.sb, e0, r9, aI, bx6, aK, aT, aW, bP, ω, ω, topK_0, rfl, ω⟩ ?_
 clear bR; clear r9; clear aI; clear bx6; clear aK; clear aT; clear aW; clear bP; clear e0
 intro m_ cY bB ⟨k, ts, hh, hm72, bS, aA, aC, aH, aB, aD, aE, aF, aG, i81, i82, htk, i83, i84⟩
 have := aA.size; have := aB.lt; have := aD.lt; have := aE.lt; have := aF.lt; have hok_ := htk.ok
 refine sqs ?_
 refine At.rk bS 1 [(14, .bool (decide ((k : Int) < (((lsD (fromW s) 256).length : Nat) : Int))))] .n (fun cZ aX => ?_)
 clear bS
 refine At.dn ?_
 refine wp_seq ?_
 refine cond_S aX (t := decide ((k : Int) < (((lsD (fromW s) 256).length : Nat) : Int))) rfl (fun bD => ?_) (fun bD => ?_)
 ·have dA := of_decide_eq_true bD
  refine wp_skip ?_
  refine t_n ?_
  refine wp_seq ?_
  refine wp_block ?_
  refine wp_seq ?_
  have hir := ls_rg (l := fromW s) (k := k) ω ω; have hi1 := hir.1; have hi2 := hlt _ hir
  refine At.start ?_
  obtain ⟨dB, cE, dC, cF, dD⟩ := aG.get (k) ω ω (sz := 1) rfl
  refine At.rk aX 3 [(8, .int .i64 (gI (lsD (fromW s) 256) k))] (.a k ((lsD (fromW s) 256).length) cE <| .l cF <| .n) (fun dE bT => ?_)
  clear aX
  refine At.dn ?_
  refine sqs ?_
  obtain ⟨dF, cG, _, _, cH⟩ := RdI.get aC.pr (gI (lsD (fromW s) 256) k) ω ω
  refine At.rk bT 6 [(9, .int .i64 (gI g.pr (gI (lsD (fromW s) 256) k)))] (.l (aB.cell (i := 1) rfl) <| .a (gI (lsD (fromW s) 256) k) g.pr.length cG <| .l cH <| .n) (fun dG bU => ?_)
  clear bT
  refine At.dn ?_
  refine wp_block ?_
  refine sqs ?_
  refine At.rk bU 4 [(22, .bool (decide ((gI g.pr (gI (lsD (fromW s) 256) k) : Int) > hh)))] .n (fun dH aY => ?_)
  clear bU
  refine At.dn ?_
  refine cond_S aY (t := decide ((gI g.pr (gI (lsD (fromW s) 256) k) : Int) > hh)) rfl (fun bE => ?_) (fun bE => ?_)
  ·have dI := of_decide_eq_true bE
   refine At.start ?_
   refine At.rk aY 2 [(27, .int .i64 (gI (lsD (fromW s) 256) k)), (26, .int .i64 (gI g.pr (gI (lsD (fromW s) 256) k)))] .n (fun dJ bV => ?_)
   clear aY
   refine At.seq bV 1 [[]] [(28, .slice (some ⟨bB.heap.size, 0, none⟩) 1 1)] (bB.alloc (.cells #[.int .i64 (gI (lsD (fromW s) 256) k)] 3 (0, 0))) [] κ trivial (fun dK cI bF bW => ?_)
   clear bV; have aL := gr_alloc bF; have := aL.size; replace aA := aA.gn aL; replace aC := aC.gn aL; replace aH := aH.gn aL; replace aB := aB.gn aL; replace aD := aD.gn aL; replace aE := aE.gn aL; replace aF := aF.gn aL; replace aG := aG.grN aL; have aV : Bx cI (bB.heap.size) [.int .i64 (gI (lsD (fromW s) 256) k)] 3 := Bx.new bF; have := aV.lt; clear aL bF
   refine At.cl bW (some 29) (args := #[.slice (some ⟨bB.heap.size, 0, none⟩) 1 1]) (of_any (la := ([gI (lsD (fromW s) 256) k] : List Int)) (Bx.rdI (l := ([gI (lsD (fromW s) 256) k] : List Int)) aV rfl (by first | decide | exact Nat.le_of_ble_eq_true rfl))) ?_
   rintro e_ dL ⟨rfl, he⟩
   refine ⟨_, rfl, _, rfl, fun dM bX => ?_⟩
   clear bW; have aJ := gr_ext he; have := aJ.size; replace aA := aA.gn aJ; replace aC := aC.gn aJ; replace aH := aH.gn aJ; replace aB := aB.gn aJ; replace aD := aD.gn aJ; replace aE := aE.gn aJ; replace aF := aF.gn aJ; replace aG := aG.gn aJ; replace aV := aV.gn aJ; clear aJ he
   refine At.rk bX 1 [(5, .int .i64 (gI g.pr (gI (lsD (fromW s) 256) k)))] .n (fun dN bY => ?_)
   clear bX
   refine At.act bY (storeBlk (t := 44) (b := bA.heap.size) (n := 4) (cs' := ((ofW ([gI (lsD (fromW s) 256) k] : List Int) : List Int).map wV)) κ κ ((List.length_map _).trans (okLen (ofW_ok _))) oneW_ ((show ((ofW ([gI (lsD (fromW s) 256) k] : List Int) : List Int).map wV).length = 4 from ((List.length_map _).trans (okLen (ofW_ok _)))).trans (show ((ts : List Int).map wV).length = 4 from ((List.length_map _).trans σ)).symm) aF) ?_
   rintro d_ v_ dO ⟨rfl, aM, cJ⟩
   refine ⟨_, rfl, fun dP bZ => ?_⟩
   clear bY; have := aM.size; replace aA := aA.gr aM (fun k h => by injection h; omega); replace aC := aC.gb aM ω; replace aH := aH.gb aM ω; replace aB := aB.gb aM ω; replace aD := aD.gb aM ω; replace aE := aE.gb aM ω; replace aG := aG.gr aM (fun k hk e => by have := Sx_base hk; injection e; omega); replace aV := aV.gb aM ω; clear aF aM
   refine At.done rfl ?_
   refine b_n ?_
   refine b_n ?_
   refine t_n ?_
   refine At.start ?_
   refine At.rk bZ 2 [(13, .int .i64 (k + 1))] (.w 37 (k + 1) <| .n) (fun dQ cK => ?_)
   clear bZ
   refine At.dn ?_
   exact ⟨_, ω, (k + 1), ofW ([gI (lsD (fromW s) 256) k] : List Int), gI g.pr (gI (lsD (fromW s) 256) k), rfl, cK.sb, aA, aC, aH, aB, aD, aE, cJ, (aG.imp (fun g _ hs => hs.2)), ω, ω, (topK_new htk ω ω ω), (ofW_ok _).1, ω⟩
  have dR := of_decide_eq_false bE
  refine sqs ?_
  refine At.rk aY 4 [(30, .bool ((gI g.pr (gI (lsD (fromW s) 256) k) : Int) == hh))] .n (fun dS aZ => ?_)
  clear aY
  refine At.dn ?_
  refine cond_S aZ (t := (gI g.pr (gI (lsD (fromW s) 256) k) : Int) == hh) rfl (fun bG => ?_) (fun bG => ?_)
  ·have dT := eq_of_beq bG
   refine At.start ?_
   refine At.rk aZ 2 [(35, .int .i64 (gI (lsD (fromW s) 256) k)), (34, .agg ((ts : List Int).map wV).toArray)] (.p (show ((ts : List Int).map wV).length = 4 from ((List.length_map _).trans σ)) <| .p aF.whole <| .o (.cs ((ts : List Int).map wV)) <| .n) (fun dU cA => ?_)
   clear aZ
   refine At.cl cA (some 36) (with_any (s := ts) (n := gI (lsD (fromW s) 256) k) σ) ?_
   rintro e_ dV ⟨rfl, he⟩
   refine ⟨_, rfl, _, rfl, fun dW cB => ?_⟩
   clear cA; have aN := gr_ext he; have := aN.size; replace aA := aA.gn aN; replace aC := aC.gn aN; replace aH := aH.gn aN; replace aB := aB.gn aN; replace aD := aD.gn aN; replace aE := aE.gn aN; replace aF := aF.gn aN; replace aG := aG.gn aN; clear aN he
   refine At.act cB (storeBlk (t := 44) (b := bA.heap.size) (n := 4) (cs' := ((withW ts (gI (lsD (fromW s) 256) k) : List Int).map wV)) κ κ ((List.length_map _).trans (okLen (okW_with σ))) oneW_ ((show ((withW ts (gI (lsD (fromW s) 256) k) : List Int).map wV).length = 4 from ((List.length_map _).trans (okLen (okW_with σ)))).trans (show ((ts : List Int).map wV).length = 4 from ((List.length_map _).trans σ)).symm) aF) ?_
   rintro d_ v_ dX ⟨rfl, aP, cL⟩
   refine ⟨_, rfl, fun dY cC => ?_⟩
   clear cB; have := aP.size; replace aA := aA.gr aP (fun k h => by injection h; omega); replace aC := aC.gb aP ω; replace aH := aH.gb aP ω; replace aB := aB.gb aP ω; replace aD := aD.gb aP ω; replace aE := aE.gb aP ω; replace aG := aG.gr aP (fun k hk e => by have := Sx_base hk; injection e; omega); clear aF aP
   refine At.done rfl ?_
   refine b_n ?_
   refine b_n ?_
   refine t_n ?_
   refine At.start ?_
   refine At.rk cC 2 [(13, .int .i64 (k + 1))] (.w 37 (k + 1) <| .n) (fun dZ cM => ?_)
   clear cC
   refine At.dn ?_
   exact ⟨_, ω, (k + 1), withW ts (gI (lsD (fromW s) 256) k), hh, rfl, cM.sb, aA, aC, aH, aB, aD, aE, cL, aG, ω, ω, (topK_more htk ω ω ω), (okW_with htk.ok).1, ω⟩
  have eA := ne_of_beq_false bG
  refine wp_skip ?_
  refine b_n ?_
  refine b_n ?_
  refine t_n ?_
  refine At.start ?_
  refine At.rk aZ 2 [(13, .int .i64 (k + 1))] (.w 37 (k + 1) <| .n) (fun eB cN => ?_)
  clear aZ
  refine At.dn ?_
  exact ⟨_, ω, (k + 1), ts, hh, rfl, cN.sb, aA, aC, aH, aB, aD, aE, aF, aG, ω, ω, (topK_skip hG hlt htk ω ω ω ω), htk.ok.1, ω⟩
 have eC := of_decide_eq_false bD
 refine wp_exit ?_
 refine t_e ?_
 clear hm72
 refine t_e ?_
 refine b_e ?_
 refine t_n ?_
 refine sqs ?_
 refine At.rk aX 1 [(38, .agg ((ts : List Int).map wV).toArray)] (.p (show ((ts : List Int).map wV).length = 4 from ((List.length_map _).trans σ)) <| .p aF.whole <| .o (.cs ((ts : List Int).map wV)) <| .n) (fun eD cD => ?_)
 clear aX
 refine At.act cD (storeBlk (t := 44) (b := bC.heap.size) (n := 4) (cs' := ((ts : List Int).map wV)) κ κ ((List.length_map _).trans σ) oneW_ ((show ((ts : List Int).map wV).length = 4 from ((List.length_map _).trans σ)).trans (show ((List.replicate 4 (0 : Int) : List Int).map wV).length = 4 from len_P).symm) aE) ?_
 rintro d_ v_ eE ⟨rfl, aQ, cO⟩
 refine ⟨_, rfl, fun eF cP => ?_⟩
 clear cD; have := aQ.size; replace aA := aA.gr aQ (fun k h => by injection h; omega); replace aC := aC.gb aQ ω; replace aH := aH.gb aQ ω; replace aB := aB.gb aQ ω; replace aD := aD.gb aQ ω; replace aF := aF.gb aQ ω; replace aG := aG.gr aQ (fun k hk e => by have := Sx_base hk; injection e; omega); clear aE aQ
 refine At.dn ?_
 refine wp_ret ?_
 refine retB_ cP (sl := 4) (cs := ((ts : List Int).map wV)) (m := 4) rfl κ κ ((List.length_map _).trans σ) cO ?_
 exact ⟨_, hh, rfl, aA, top_end htk ω hne⟩
set_option maxHeartbeats 4000000 in
theorem keep0_any {M N A : Option Addr} {c c2 cl nn n2 bm lo : Nat} {la mm : List Int} {w : World} (rl : RdI w lo w.heap.size A la) (hbm : Bx w bm [.slice M nn c, .slice N n2 c2] 29) (hm : OwnR w (SxP (fun k => obk M = some k) [some bm]) M c 3 mm) (hlo : ∀ k, obk M = some k → k < lo) (hnn : nn = mm.length) (hll : la.length ≤ mm.length) :
    Calls Tryd.prog 37 #[.int .i64 (0), .slice A la.length cl, pt bm 0] w fun e w' => e = .returned (.tuple #[]) ∧ Tch (fun k => obk M = some k) w w' ∧ ∃ m' : List Int, OwnR w' (fun _ => True) M c 3 m' ∧ KeepT la mm m' := by
 have q0 := hm.toP (n := w.heap.size) (os := [some bm]) (fun _ _ hs => hs); have hla := rl.len; have hbl := hbm.lt
 refine enter_ (args := [.int .i64 (0), .slice A la.length cl, pt bm 0]) Tryd.func37 rfl Tryd.ntmps37 (Nat.le_of_ble_eq_true rfl) (fun act0 f0 => ?_)
 have e0 : Tch (fun k => obk M = some k) w w := Tch.refl w
 refine sqs ?_
 refine At.rk f0 3 [(9, .int .i64 (0)), (8, .int .i64 (((la.length : Nat) : Int))), (7, .slice A la.length cl)] .n (fun act2 f1 => ?_)
 clear f0
 refine At.dn ?_
 refine wp_block ?_
 refine loop_g (fun (m_ : Nat) a_ w_ => ∃ (k : Int) (xs : List Int), m_ = ((la.length : Int) - k).toNat ∧ (Frm 23 a_ [(9, .int .i64 (k)), (8, .int .i64 (((la.length : Nat) : Int))), (7, .slice A la.length cl), (0, .int .i64 (0)), (2, pt bm 0)]) ∧ (Tch (fun k => obk M = some k) w w_) ∧ (RdI w_ lo w.heap.size A la) ∧ (Bx w_ (bm) [.slice M xs.length c, .slice N n2 c2] 29) ∧ (OwnR w_ (SxP (orN (fun k => obk M = some k) w.heap.size) [some bm]) M c 3 (xs : List Int)) ∧ (0 ≤ k) ∧ (k ≤ (la.length : Int)) ∧ (KeepK la mm xs k) ∧ (xs.length = mm.length)) _ ⟨0, (mm : List Int), rfl, f1.sb, e0, rl, (hbm.as (by first | rfl | (simp only [List.cons.injEq, Value.slice.injEq, true_and, and_true]; omega))), q0, ω, ω, keepK_0, rfl⟩ ?_
 clear f1; clear rl; clear hbm; clear q0; clear e0
 intro m_ act4 w5 ⟨k, xs, hm7, f8, e6, r9, aB, aA, i12, i13, hkk, i14⟩
 have := e6.size; have := aB.lt
 refine sqs ?_
 refine At.rk f8 1 [(10, .bool (decide ((k : Int) < ((la.length : Nat) : Int))))] .n (fun aR aE => ?_)
 clear f8
 refine At.dn ?_
 refine wp_seq ?_
 refine cond_S aE (t := decide ((k : Int) < ((la.length : Nat) : Int))) rfl (fun aF => ?_) (fun aF => ?_)
 ·have aS := of_decide_eq_true aF
  refine wp_skip ?_
  refine t_n ?_
  refine wp_seq ?_
  refine wp_block ?_
  refine sqs ?_
  obtain ⟨aT, aM, _, _, aN⟩ := RdI.get r9 (k) ω ω
  refine At.rk aE 5 [(6, .int .i64 (gI la (k))), (5, .int .i64 (k))] (.a k la.length aM <| .l aN <| .n) (fun aU aH => ?_)
  clear aE
  refine At.dn ?_
  refine sqs ?_
  refine At.rk aH 2 [(15, .bool (decide ((gI la (k) : Int) ≥ 0)))] .n (fun aV aC => ?_)
  clear aH
  refine At.dn ?_
  refine cond_S aC (t := decide ((gI la (k) : Int) ≥ 0)) rfl (fun aG => ?_) (fun aG => ?_)
  ·have aW := of_decide_eq_true aG
   refine At.start ?_
   obtain ⟨aI, aJ, aX, aY, aZ⟩ := aA.get (k) ω ω (sz := 1) rfl
   refine At.rk aC 6 [(21, .pointer (some (aI.add ((k : Int).toNat * 1)))), (20, .int .i64 (gI la (k)))] (.b 0 2 <| .l (aB.cell (i := 0) rfl) <| .a k xs.length aJ <| .n) (fun bA aK => ?_)
   clear aC
   refine At.act aK (storeR (α := Int) (t := 3) (i := k) (ad := aI) (v := .int .i64 (gI la (k))) (gI la (k)) κ rfl rfl κ aJ aA ω ω) ?_
   rintro d_ v_ bB ⟨rfl, aD, aO⟩
   refine ⟨_, rfl, fun bC aL => ?_⟩
   clear aK; have bD : ((xs).set (k : Int).toNat (gI la (k))).length = (xs).length := List.length_set; have := aD.size; replace e6 := e6.gr aD (fun k hk => (aA.inS k hk).2); replace r9 := r9.gr aD (fun k hk => .inl (hlo k hk)); replace aB := aB.gr aD (aA.neb (fun g hs => hs.1)); clear aA aD
   refine At.done rfl ?_
   refine b_n ?_
   refine t_n ?_
   refine At.start ?_
   refine At.rk aL 2 [(9, .int .i64 (k + 1))] (.w 22 (k + 1) <| .n) (fun bE aP => ?_)
   clear aL
   refine At.dn ?_
   exact ⟨_, ω, (k + 1), ((xs).set (k : Int).toNat (gI la (k)) : List Int), rfl, aP.sb, e6, r9, (aB.as (by first | rfl | (simp only [List.length_set]; done) | (simp; done) | (simp only [List.cons.injEq, Value.slice.injEq, true_and, and_true]; omega))), aO, ω, ω, (keepK_yes hkk ω ω ω), (by rw [List.length_set]; exact hkk.1)⟩
  have bF := of_decide_eq_false aG
  refine wp_skip ?_
  refine b_n ?_
  refine t_n ?_
  refine At.start ?_
  refine At.rk aC 2 [(9, .int .i64 (k + 1))] (.w 22 (k + 1) <| .n) (fun bG aQ => ?_)
  clear aC
  refine At.dn ?_
  exact ⟨_, ω, (k + 1), (xs : List Int), rfl, aQ.sb, e6, r9, aB, aA, ω, ω, (keepK_no hkk ω), hkk.1⟩
 have bH := of_decide_eq_false aF
 refine wp_exit ?_
 refine t_e ?_
 clear hm7
 refine t_e ?_
 refine b_e ?_
 refine end_ aE [] [] [] κ trivial ?_
 exact ⟨rfl, e6, _, aA.imp (fun _ _ _ => trivial), keepK_end hkk ω⟩
set_option maxHeartbeats 4000000 in
theorem keep1_any {M N A : Option Addr} {c c2 cl nn n2 bm lo : Nat} {la mm : List Int} {w : World} (rl : RdI w lo w.heap.size A la) (hbm : Bx w bm [.slice N n2 c2, .slice M nn c] 29) (hm : OwnR w (SxP (fun k => obk M = some k) [some bm]) M c 3 mm) (hlo : ∀ k, obk M = some k → k < lo) (hnn : nn = mm.length) (hll : la.length ≤ mm.length) :
    Calls Tryd.prog 37 #[.int .i64 (1), .slice A la.length cl, pt bm 0] w fun e w' => e = .returned (.tuple #[]) ∧ Tch (fun k => obk M = some k) w w' ∧ ∃ m' : List Int, OwnR w' (fun _ => True) M c 3 m' ∧ KeepT la mm m' := by
 have q0 := hm.toP (n := w.heap.size) (os := [some bm]) (fun _ _ hs => hs); have hla := rl.len; have hbl := hbm.lt
 refine enter_ (args := [.int .i64 (1), .slice A la.length cl, pt bm 0]) Tryd.func37 rfl Tryd.ntmps37 (Nat.le_of_ble_eq_true rfl) (fun act0 f0 => ?_)
 have e0 : Tch (fun k => obk M = some k) w w := Tch.refl w
 refine sqs ?_
 refine At.rk f0 3 [(9, .int .i64 (0)), (8, .int .i64 (((la.length : Nat) : Int))), (7, .slice A la.length cl)] .n (fun act2 f1 => ?_)
 clear f0
 refine At.dn ?_
 refine wp_block ?_
 refine loop_g (fun (m_ : Nat) a_ w_ => ∃ (k : Int) (xs : List Int), m_ = ((la.length : Int) - k).toNat ∧ (Frm 23 a_ [(9, .int .i64 (k)), (8, .int .i64 (((la.length : Nat) : Int))), (7, .slice A la.length cl), (0, .int .i64 (1)), (2, pt bm 0)]) ∧ (Tch (fun k => obk M = some k) w w_) ∧ (RdI w_ lo w.heap.size A la) ∧ (Bx w_ (bm) [.slice N n2 c2, .slice M xs.length c] 29) ∧ (OwnR w_ (SxP (orN (fun k => obk M = some k) w.heap.size) [some bm]) M c 3 (xs : List Int)) ∧ (0 ≤ k) ∧ (k ≤ (la.length : Int)) ∧ (KeepK la mm xs k) ∧ (xs.length = mm.length)) _ ⟨0, (mm : List Int), rfl, f1.sb, e0, rl, (hbm.as (by first | rfl | (simp only [List.cons.injEq, Value.slice.injEq, true_and, and_true]; omega))), q0, ω, ω, keepK_0, rfl⟩ ?_
 clear f1; clear rl; clear hbm; clear q0; clear e0
 intro m_ act4 w5 ⟨k, xs, hm7, f8, e6, r9, aB, aA, i12, i13, hkk, i14⟩
 have := e6.size; have := aB.lt
 refine sqs ?_
 refine At.rk f8 1 [(10, .bool (decide ((k : Int) < ((la.length : Nat) : Int))))] .n (fun aR aE => ?_)
 clear f8
 refine At.dn ?_
 refine wp_seq ?_
 refine cond_S aE (t := decide ((k : Int) < ((la.length : Nat) : Int))) rfl (fun aF => ?_) (fun aF => ?_)
 ·have aS := of_decide_eq_true aF
  refine wp_skip ?_
  refine t_n ?_
  refine wp_seq ?_
  refine wp_block ?_
  refine sqs ?_
  obtain ⟨aT, aM, _, _, aN⟩ := RdI.get r9 (k) ω ω
  refine At.rk aE 5 [(6, .int .i64 (gI la (k))), (5, .int .i64 (k))] (.a k la.length aM <| .l aN <| .n) (fun aU aH => ?_)
  clear aE
  refine At.dn ?_
  refine sqs ?_
  refine At.rk aH 2 [(15, .bool (decide ((gI la (k) : Int) ≥ 0)))] .n (fun aV aC => ?_)
  clear aH
  refine At.dn ?_
  refine cond_S aC (t := decide ((gI la (k) : Int) ≥ 0)) rfl (fun aG => ?_) (fun aG => ?_)
  ·have aW := of_decide_eq_true aG
   refine At.start ?_
   obtain ⟨aI, aJ, aX, aY, aZ⟩ := aA.get (k) ω ω (sz := 1) rfl
   refine At.rk aC 6 [(21, .pointer (some (aI.add ((k : Int).toNat * 1)))), (20, .int .i64 (gI la (k)))] (.b 1 2 <| .l (aB.cell (i := 1) rfl) <| .a k xs.length aJ <| .n) (fun bA aK => ?_)
   clear aC
   refine At.act aK (storeR (α := Int) (t := 3) (i := k) (ad := aI) (v := .int .i64 (gI la (k))) (gI la (k)) κ rfl rfl κ aJ aA ω ω) ?_
   rintro d_ v_ bB ⟨rfl, aD, aO⟩
   refine ⟨_, rfl, fun bC aL => ?_⟩
   clear aK; have bD : ((xs).set (k : Int).toNat (gI la (k))).length = (xs).length := List.length_set; have := aD.size; replace e6 := e6.gr aD (fun k hk => (aA.inS k hk).2); replace r9 := r9.gr aD (fun k hk => .inl (hlo k hk)); replace aB := aB.gr aD (aA.neb (fun g hs => hs.1)); clear aA aD
   refine At.done rfl ?_
   refine b_n ?_
   refine t_n ?_
   refine At.start ?_
   refine At.rk aL 2 [(9, .int .i64 (k + 1))] (.w 22 (k + 1) <| .n) (fun bE aP => ?_)
   clear aL
   refine At.dn ?_
   exact ⟨_, ω, (k + 1), ((xs).set (k : Int).toNat (gI la (k)) : List Int), rfl, aP.sb, e6, r9, (aB.as (by first | rfl | (simp only [List.length_set]; done) | (simp; done) | (simp only [List.cons.injEq, Value.slice.injEq, true_and, and_true]; omega))), aO, ω, ω, (keepK_yes hkk ω ω ω), (by rw [List.length_set]; exact hkk.1)⟩
  have bF := of_decide_eq_false aG
  refine wp_skip ?_
  refine b_n ?_
  refine t_n ?_
  refine At.start ?_
  refine At.rk aC 2 [(9, .int .i64 (k + 1))] (.w 22 (k + 1) <| .n) (fun bG aQ => ?_)
  clear aC
  refine At.dn ?_
  exact ⟨_, ω, (k + 1), (xs : List Int), rfl, aQ.sb, e6, r9, aB, aA, ω, ω, (keepK_no hkk ω), hkk.1⟩
 have bH := of_decide_eq_false aF
 refine wp_exit ?_
 refine t_e ?_
 clear hm7
 refine t_e ?_
 refine b_e ?_
 refine end_ aE [] [] [] κ trivial ?_
 exact ⟨rfl, e6, _, aA.imp (fun _ _ _ => trivial), keepK_end hkk ω⟩
end Go.Proofs.YtplpgfcjjnaigaaDoor
