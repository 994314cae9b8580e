/-
  Texts of this repo, laid together: the frame of the walks, plain lemmas, walks of Go functions. Conditions: what the theorems name.
-/
import Derived.Laws.CopyRow
import Derived.Test.YtplpgfcjjnaigaaDoorZ3
set_option linter.unusedVariables false
set_option linter.unusedSimpArgs false
namespace Go.Proofs.YtplpgfcjjnaigaaDoor
open Go Go.RowKit
attribute [local irreducible] ofZ fromW wordsD ofD ofW lsD lenW lenN fullW withW lessW hasW hasD inW inD leastD putD onI tzI orS andS minusS orD andD minusD fullD emptyD
set_option maxHeartbeats 4000000 in
theorem part_step {x : DecS} (K : DecK x) {s m0 m1 : List Int} {d depth : Int} {w : World} (h : DecW w x d m0 m1) (B : DecB x s m0 m1 d depth) {p : Int} (hp_ : p = 0 ∨ p = 1) (IH : ∀ s2, lenW s2 < lenW s → PartOK x s2) (hp0 : ∀ ts hh, TopT x.g s ts hh → hh % 2 = p) :
    Calls Tryd.prog 38 #[.agg ((s : List Int).map wV).toArray, .int .i64 (depth), pt x.bd 0, pt x.bg 0, pt x.bp 0, pt x.bk 0, pt x.bm 0, pt x.bn 0] w fun e w' => DecR x s m0 m1 d depth w e w' := by
 rcases hp_ with rfl | rfl
 have pA := trivial
 all_goals
  have kd := h.wd; have kg := h.wg; have kp : Bx w x.bp [.func (.func 38) #[] #[pt x.bd 0, pt x.bg 0, pt x.bp 0, pt x.bk 0, pt x.bm 0, pt x.bn 0]] 65 := h.wp; have kk : Bx w x.bk [.func (.func 37) #[] #[pt x.bm 0]] 64 := h.wk; have km := h.wm; have kn := h.wn; have q0 := h.r0.toP (n := w.heap.size) (os := [obk x.M1, some x.bd, some x.bg, some x.bp, some x.bk, some x.bm, some x.bn]) (fun _ _ hs => hs)
  have q1 := h.r1.toP (n := w.heap.size) (os := [obk x.M0, some x.bd, some x.bg, some x.bp, some x.bk, some x.bm, some x.bn]) (fun _ _ hs => hs); have kr := h.rg; have kt := h.rt; have hM0 := h.r0.lt; have hM1 := h.r1.lt; clear h; have hR := K.hR; have hG := isR_ok hR; have hn1 := hG.n1; have hn0 := hG.n0; have hpl := hG.pl; have hml := hG.ml; have hdg := K.dg; have hhd := K.hd; have hs := B.ok
  have hs4 := okLen hs; have hL := B.live; have hl0_ := B.l0; have hl1_ := B.l1; have hb0 := B.d0; have hb1 := B.d1; have hb2 := B.e0; have hb3 := B.e1; have hkl := kd.lt; have hkg := kg.lt; have hkp := kp.lt; have hkk := kk.lt; have hkm := km.lt; have hkn := kn.lt; have hlg0 := kr.ow.len; have hlg1 := kr.pr.len; have hlg2 := kr.mv.len; have hkc0 := kr.k0; have hkc1 := kr.k1; have hkc2 := kr.k2
  have hsl_ := lenW_le s
  refine enter_ (args := [.agg ((s : List Int).map wV).toArray, .int .i64 (depth), pt x.bd 0, pt x.bg 0, pt x.bp 0, pt x.bk 0, pt x.bm 0, pt x.bn 0]) Tryd.func38 rfl Tryd.ntmps38 (Nat.le_of_ble_eq_true rfl) (fun act0 f0 => ?_)
  have e0 : Tch (x.T) w w := Tch.refl w
  refine sqs ?_
  refine At.bx f0 8 ((s : List Int).map wV) 44 (fun w1 g5 bx6 act4 f3 => ?_)
  clear f0; have := g5.size; replace e0 := e0.gn g5; have r9 := kr.gn g5; clear kr; have aF := kt.gn g5; clear kt; have gG := kd.gn g5; clear kd; have aD := kg.gn g5; clear kg; have aG := kp.gn g5; clear kp; have aH := kk.gn g5; clear kk; have aI := km.gn g5; clear km; have aJ := kn.gn g5; clear kn; have aB := q0.grN g5; clear q0; have aC := q1.grN g5; clear q1; have := bx6.lt; clear g5
  refine At.bx f3 10 ((([0, 0, 0, 0]) ++ ([0, 0, 0, 0]) : List Int).map wV) 67 (fun qA eA aL qB iU => ?_)
  clear f3; have := eA.size; replace e0 := e0.gn eA; replace r9 := r9.gn eA; replace aF := aF.gn eA; replace gG := gG.gn eA; replace aD := aD.gn eA; replace aG := aG.gn eA; replace aH := aH.gn eA; replace aI := aI.gn eA; replace aJ := aJ.gn eA; replace aB := aB.grN eA; replace aC := aC.grN eA; replace bx6 := bx6.gn eA; have := aL.lt; clear eA
  refine At.dn ?_
  refine sqs ?_
  refine At.rk iU 3 [(25, .int .i64 (max d depth))] (.l (gG.cell (i := 0) rfl) <| .v 25 (show (.int .i64 (if depth > d then depth else d) : Value) = .int .i64 (max d depth) from (congrArg (Value.int .i64) (max_if _ _))) <| .n) (fun qC iV => ?_)
  clear iU
  refine At.store iV (t := 3) (b := x.bd) (off := 0) (v := .int .i64 (max d depth)) κ gG κ (fun qD nZ eB aX iW => ?_)
  clear iV; replace aX : Bx nZ (x.bd) [.int .i64 (max d depth)] 3 := aX; have := eB.size; replace e0 := e0.gr eB (fun k h => .inl (.inr (.inr (Option.some.inj h).symm))); replace r9 := r9.gb eB ω; replace aF := aF.gb eB ω; replace aD := aD.gb eB ω; replace aG := aG.gb eB ω; replace aH := aH.gb eB ω; replace aI := aI.gb eB ω; replace aJ := aJ.gb eB ω; replace aB := aB.gr eB (fun k hk => hk.2.2.2.1)
  replace aC := aC.gr eB (fun k hk => hk.2.2.2.1); replace bx6 := bx6.gb eB ω; replace aL := aL.gb eB ω; clear gG eB
  refine At.dn ?_
  refine wp_seq ?_
  refine sqs ?_
  refine At.rk iW 3 [(28, .bool (decide ((s : List Int) = ([0, 0, 0, 0]))))] (.p (show ((s : List Int).map wV).length = 4 from ((List.length_map _).trans σ)) <| .p bx6.whole <| .o (.cs ((s : List Int).map wV)) <| .p (show ((s : List Int).map wV).toArray = ([wV (gI s 0), wV (gI s 1), wV (gI s 2), wV (gI s 3)] : List Value).toArray from (map4 σ)) <| .p (show (([0, 0, 0, 0] : List Int).map wV).toArray = ([wV (gI ([0, 0, 0, 0]) 0), wV (gI ([0, 0, 0, 0]) 1), wV (gI ([0, 0, 0, 0]) 2), wV (gI ([0, 0, 0, 0]) 3)] : List Value).toArray from (map4 (okLen okW_00))) <| .p (show (.bool ((((gI s 0 : Int) == gI ([0, 0, 0, 0]) 0) && (((gI s 1 : Int) == gI ([0, 0, 0, 0]) 1) && (((gI s 2 : Int) == gI ([0, 0, 0, 0]) 2) && (((gI s 3 : Int) == gI ([0, 0, 0, 0]) 3) && true))))) : Value) = .bool (decide ((s : List Int) = ([0, 0, 0, 0]))) from (congrArg (fun b => Value.bool b) (w4_eq σ (okLen okW_00)))) <| .o (.cs [wV (gI s 0), wV (gI s 1), wV (gI s 2), wV (gI s 3)]) <| .o (.cs [wV (gI ([0, 0, 0, 0]) 0), wV (gI ([0, 0, 0, 0]) 1), wV (gI ([0, 0, 0, 0]) 2), wV (gI ([0, 0, 0, 0]) 3)]) <| .o (.av 28 (.bool (decide ((s : List Int) = ([0, 0, 0, 0]))))) <| .n) (fun qE gH => ?_)
  clear iW
  refine At.dn ?_
  refine cond_S gH (t := decide ((s : List Int) = ([0, 0, 0, 0]))) rfl (fun hI => ?_) (fun hI => ?_)
  ·have qF := of_decide_eq_true hI
   refine sqs ?_
   refine At.rk gH 1 [(29, .agg ((([0, 0, 0, 0]) ++ ([0, 0, 0, 0]) : List Int).map wV).toArray)] .n (fun qG iX => ?_)
   clear gH
   refine At.act iX (storeBlk (t := 67) (b := w1.heap.size) (n := 8) (cs' := ((([0, 0, 0, 0]) ++ ([0, 0, 0, 0]) : List Int).map wV)) κ κ (len8 (okLen okW_00) (okLen okW_00)) oneW_ ((show ((([0, 0, 0, 0]) ++ ([0, 0, 0, 0]) : List Int).map wV).length = 8 from (len8 (okLen okW_00) (okLen okW_00))).trans (show ((([0, 0, 0, 0]) ++ ([0, 0, 0, 0]) : List Int).map wV).length = 8 from (len8 (okLen okW_00) (okLen okW_00))).symm) aL) ?_
   rintro d_ v_ qH ⟨rfl, eC, oA⟩
   refine ⟨_, rfl, fun qI oB => ?_⟩
   clear iX; have := eC.size; replace e0 := e0.gr eC (fun k h => .inr (by injection h; omega)); replace r9 := r9.gb eC ω; replace aF := aF.gb eC ω; replace aX := aX.gb eC ω; replace aD := aD.gb eC ω; replace aG := aG.gb eC ω; replace aH := aH.gb eC ω; replace aI := aI.gb eC ω; replace aJ := aJ.gb eC ω; replace aB := aB.gr eC (fun k hk => hk.1); replace aC := aC.gr eC (fun k hk => hk.1)
   replace bx6 := bx6.gb eC ω; clear aL eC
   refine At.dn ?_
   clear bx6
   refine wp_ret ?_
   refine t_r ?_
   refine retB_ oB (sl := 10) (cs := ((([0, 0, 0, 0]) ++ ([0, 0, 0, 0]) : List Int).map wV)) (m := 8) rfl κ κ (len8 (okLen okW_00) (okLen okW_00)) oA ?_
   have he_ : s = [0, 0, 0, 0] := by assumption
   subst he_
   exact ⟨[0, 0, 0, 0], [0, 0, 0, 0], _, _, _, rfl, e0, aX, aB.imp (fun _ _ _ => trivial), aC.imp (fun _ _ _ => trivial), part_empty, by omega, by omega, by omega⟩
  have qJ := of_decide_eq_false hI
  refine wp_skip ?_
  refine t_n ?_
  refine wp_seq ?_
  have hne_ := inP_none hs σ
  refine At.start ?_
  refine At.rk gH 2 [(31, .agg ((s : List Int).map wV).toArray), (30, .agg #[.slice x.A0 x.g.ow.length x.k0, .slice x.A1 x.g.pr.length x.k1, .slice x.A2 x.g.mv.length x.k2])] (.l (aD.cell (i := 0) rfl) <| .l (aD.cell (i := 1) rfl) <| .l (aD.cell (i := 2) rfl) <| .p (show ((s : List Int).map wV).length = 4 from ((List.length_map _).trans σ)) <| .p bx6.whole <| .o (.cs ((s : List Int).map wV)) <| .n) (fun qK iY => ?_)
  clear gH
  refine At.cl iY (some 32) (args := #[.agg #[.slice x.A0 x.g.ow.length x.k0, .slice x.A1 x.g.pr.length x.k1, .slice x.A2 x.g.mv.length x.k2], .agg ((s : List Int).map wV).toArray]) (top_any (g := x.g) (s := s) (r9.wide (Nat.zero_le _) ω) σ (aF.wide (Nat.zero_le _) ω) hR hL.lt hne_) ?_
  rintro e_ eH ⟨tt, hh, rfl, he, hTT⟩
  have hokt := hTT.ok; have hl4t := okLen hokt
  refine ⟨_, rfl, _, rfl, fun qL iZ => ?_⟩
  clear iY; have dT := gr_ext he; have := dT.size; replace e0 := e0.gn dT; replace r9 := r9.gn dT; replace aF := aF.gn dT; replace aX := aX.gn dT; replace aD := aD.gn dT; replace aG := aG.gn dT; replace aH := aH.gn dT; replace aI := aI.gn dT; replace aJ := aJ.gn dT; replace aB := aB.gn dT; replace aC := aC.gn dT; replace bx6 := bx6.gn dT; replace aL := aL.gn dT; clear dT he
  refine At.bx iZ 11 ((List.replicate 4 (0 : Int) : List Int).map wV) 44 (fun qM dU hJ qN jA => ?_)
  clear iZ; have := dU.size; replace e0 := e0.gn dU; replace r9 := r9.gn dU; replace aF := aF.gn dU; replace aX := aX.gn dU; replace aD := aD.gn dU; replace aG := aG.gn dU; replace aH := aH.gn dU; replace aI := aI.gn dU; replace aJ := aJ.gn dU; replace aB := aB.grN dU; replace aC := aC.grN dU; replace bx6 := bx6.gn dU; replace aL := aL.gn dU; have := hJ.lt; clear dU
  refine At.act jA (storeBlk (t := 44) (b := eH.heap.size) (n := 4) (cs' := ((tt : List Int).map wV)) κ κ ((List.length_map _).trans σ) oneW_ ((show ((tt : List Int).map wV).length = 4 from ((List.length_map _).trans σ)).trans (show ((List.replicate 4 (0 : Int) : List Int).map wV).length = 4 from len_P).symm) hJ) ?_
  rintro d_ v_ jB ⟨rfl, dV, aW⟩
  refine ⟨_, rfl, fun qO jC => ?_⟩
  clear jA; have := dV.size; replace e0 := e0.gr dV (fun k h => .inr (by injection h; omega)); replace r9 := r9.gb dV ω; replace aF := aF.gb dV ω; replace aX := aX.gb dV ω; replace aD := aD.gb dV ω; replace aG := aG.gb dV ω; replace aH := aH.gb dV ω; replace aI := aI.gb dV ω; replace aJ := aJ.gb dV ω; replace aB := aB.gr dV (fun k hk => hk.1); replace aC := aC.gr dV (fun k hk => hk.1)
  replace bx6 := bx6.gb dV ω; replace aL := aL.gb dV ω; clear hJ dV
  refine At.dn ?_
  have hlt_ := least_inP hTT.ex; have hlb_ := hL.lt _ ((hTT.at_ _).1 hlt_).1; have hl0 := hlt_.1; have hpr_ := hG.pr _ hl0 hlb_; have hpp := hp0 _ _ hTT; have hle_ : gI x.g.pr (leastD (fromW tt)) = hh := ((hTT.at_ _).1 hlt_).2
  refine wp_seq ?_
  obtain ⟨hK, hM⟩ : ∃ c : List (Addr × Value), c = ([(⟨x.bg, 1, none⟩, (.slice x.A1 x.g.pr.length x.k1))] : List (Addr × Value)) ++ blkC (eH.heap.size) ((tt : List Int).map wV) := ⟨_, rfl⟩
  have jD : HoldsC hK jB := by rw [hM]; exact (holdsA (show HoldsC [(⟨x.bg, 1, none⟩, (.slice x.A1 x.g.pr.length x.k1))] jB from ⟨(aD.cell (i := 1) rfl), trivial⟩) (holds_blk aW))
  refine AtH.start hK 8 _ κ rfl rfl (fun qP jE => ?_)
  have cR := gr_drew jE; have jF := jD.gr cR; have := cR.size; replace e0 := e0.gn cR; replace r9 := r9.gn cR; replace aF := aF.gn cR; replace aX := aX.gn cR; replace aD := aD.gn cR; replace aG := aG.gn cR; replace aH := aH.gn cR; replace aI := aI.gn cR; replace aJ := aJ.gn cR; replace aB := aB.gn cR; replace aC := aC.gn cR; replace bx6 := bx6.gn cR; replace aL := aL.gn cR; replace aW := aW.gn cR
  clear cR jE jD
  refine AtH.rk jF jC [0, 1, 2] 5 [(35, .agg ((tt : List Int).map wV).toArray), (34, .slice x.A1 x.g.pr.length x.k1)] (.l (CsC_at hM 0 rfl) <| .p (show ((tt : List Int).map wV).length = 4 from ((List.length_map _).trans σ)) <| .p (show ∀ (j : Nat) (v : Value), ((tt : List Int).map wV)[j]? = some v → ∃ j_ : Nat, hK[j_]? = some (((⟨eH.heap.size, 0, none⟩ : Addr).add j), v) from (fun j v hv => List.getElem?_of_mem (by rw [hM]; exact List.mem_append.2 (.inr (blkC_in hv))))) <| .o (.cs ((tt : List Int).map wV)) <| .n) (fun qQ jG => ?_)
  clear jC
  refine AtH.all [3] 4 κ (by simp) ⟨?_, trivial⟩
  refine OneH.cl jG (some 36) (least_any (s := tt) σ (aF.wide (Nat.zero_le _) ω)) ?_
  rintro e_ eS ⟨rfl, he⟩
  have := leastD_b (fromW tt)
  refine ⟨_, rfl, _, rfl, fun qR jH => ?_⟩
  clear jG; have cS := gr_ext he; have gA := jF.gr cS; have := cS.size; replace e0 := e0.gn cS; replace r9 := r9.gn cS; replace aF := aF.gn cS; replace aX := aX.gn cS; replace aD := aD.gn cS; replace aG := aG.gn cS; replace aH := aH.gn cS; replace aI := aI.gn cS; replace aJ := aJ.gn cS; replace aB := aB.gn cS; replace aC := aC.gn cS; replace bx6 := bx6.gn cS; replace aL := aL.gn cS
  replace aW := aW.gn cS; clear cS he
  refine ⟨gA, ?_⟩
  obtain ⟨jI, oC, _, qS, oD⟩ := RdI.get r9.pr (leastD (fromW tt)) ω ω
  refine AtH.rk gA jH [4] 3 [(37, .pointer (some (jI.add ((leastD (fromW tt) : Int).toNat * 1))))] (.a (leastD (fromW tt)) x.g.pr.length oC <| .n) (fun qT jJ => ?_)
  clear jH
  refine AtH.all [5] 2 κ (by simp) ⟨?_, trivial⟩
  refine OneH.seq jJ [[.ld (.int .i64 (gI x.g.pr (leastD (fromW tt))))]] [(38, .int .i64 (gI x.g.pr (leastD (fromW tt))))] eS [(eS.cell? (jI.add ((leastD (fromW tt) : Int).toNat * 1)) = some (.int .i64 (gI x.g.pr (leastD (fromW tt)))))] _ rfl κ κ ⟨oD, trivial⟩ (fun qU oE oF jK => ?_)
  obtain rfl : eS = oE := oF.symm
  clear jJ
  refine ⟨gA, ?_⟩
  first | (replace pA := pA; refine AtH.rk gA jK [6] 1 [(39, .int .i64 (0))] (.p (show (2 : Int) ≠ 0 from ω) <| .v 39 (show (.int .i64 ((gI x.g.pr (leastD (fromW tt)) : Int).tmod 2) : Value) = .int .i64 (0) from (Eq.trans (b := (.int .i64 ((gI x.g.pr (leastD (fromW tt)) : Int) % 2) : Value)) (congrArg (Value.int .i64) (Int.tmod_eq_emod_of_nonneg ω)) (congrArg (Value.int .i64) (by rw [hle_]; exact hpp)))) <| .n) (fun qV jL => ?_)) | (refine AtH.rk gA jK [6] 1 [(39, .int .i64 (1))] (.p (show (2 : Int) ≠ 0 from ω) <| .v 39 (show (.int .i64 ((gI x.g.pr (leastD (fromW tt)) : Int).tmod 2) : Value) = .int .i64 (1) from (Eq.trans (b := (.int .i64 ((gI x.g.pr (leastD (fromW tt)) : Int) % 2) : Value)) (congrArg (Value.int .i64) (Int.tmod_eq_emod_of_nonneg ω)) (congrArg (Value.int .i64) (by rw [hle_]; exact hpp)))) <| .n) (fun qV jL => ?_))
  clear jK
  first | (replace pA := pA; refine AtH.rk gA jL [7] 0 [(12, .int .i64 (0))] .n (fun qW jM => ?_)) | (refine AtH.rk gA jL [7] 0 [(12, .int .i64 (1))] .n (fun qW jM => ?_))
  clear jL
  refine AtH.done κ ?_
  clear gA
  refine t_n ?_
  refine sqs ?_
  first | (replace pA := pA; refine At.rk jM 4 [(44, .agg ((tt : List Int).map wV).toArray), (43, .int .i64 (0)), (42, .agg ((s : List Int).map wV).toArray), (41, .agg #[.slice x.A0 x.g.ow.length x.k0, .slice x.A1 x.g.pr.length x.k1, .slice x.A2 x.g.mv.length x.k2])] (.l (aD.cell (i := 0) rfl) <| .l (aD.cell (i := 1) rfl) <| .l (aD.cell (i := 2) rfl) <| .p (show ((s : List Int).map wV).length = 4 from ((List.length_map _).trans σ)) <| .p bx6.whole <| .o (.cs ((s : List Int).map wV)) <| .p (show ((tt : List Int).map wV).length = 4 from ((List.length_map _).trans σ)) <| .p aW.whole <| .o (.cs ((tt : List Int).map wV)) <| .n) (fun qX jN => ?_)) | (refine At.rk jM 4 [(44, .agg ((tt : List Int).map wV).toArray), (43, .int .i64 (1)), (42, .agg ((s : List Int).map wV).toArray), (41, .agg #[.slice x.A0 x.g.ow.length x.k0, .slice x.A1 x.g.pr.length x.k1, .slice x.A2 x.g.mv.length x.k2])] (.l (aD.cell (i := 0) rfl) <| .l (aD.cell (i := 1) rfl) <| .l (aD.cell (i := 2) rfl) <| .p (show ((s : List Int).map wV).length = 4 from ((List.length_map _).trans σ)) <| .p bx6.whole <| .o (.cs ((s : List Int).map wV)) <| .p (show ((tt : List Int).map wV).length = 4 from ((List.length_map _).trans σ)) <| .p aW.whole <| .o (.cs ((tt : List Int).map wV)) <| .n) (fun qX jN => ?_))
  clear jM
  first | (replace pA := pA; refine At.cl jN (some 45) (args := #[.agg #[.slice x.A0 x.g.ow.length x.k0, .slice x.A1 x.g.pr.length x.k1, .slice x.A2 x.g.mv.length x.k2], .agg ((s : List Int).map wV).toArray, .int .i64 (0), .agg ((tt : List Int).map wV).toArray]) (attract_any (g := x.g) (s := s) (t := tt) (p := 0) (r9.wide (Nat.zero_le _) ω) σ σ (aF.wide (Nat.zero_le _) ω)) ?_) | (refine At.cl jN (some 45) (args := #[.agg #[.slice x.A0 x.g.ow.length x.k0, .slice x.A1 x.g.pr.length x.k1, .slice x.A2 x.g.mv.length x.k2], .agg ((s : List Int).map wV).toArray, .int .i64 (1), .agg ((tt : List Int).map wV).toArray]) (attract_any (g := x.g) (s := s) (t := tt) (p := 1) (r9.wide (Nat.zero_le _) ω) σ σ (aF.wide (Nat.zero_le _) ω)) ?_)
  rintro e_ eD ⟨dW, fP, ss, ms, rfl, he, aY, hat⟩
  have hok_ss := att_ok hat; have hl_ss := okLen hok_ss; have hlm_ms := att_len hat
  refine ⟨_, rfl, _, rfl, fun qY jO => ?_⟩
  clear jN; have dJ := gr_ext he; have jP := aB.lt; have jQ := aC.lt; have := dJ.size; replace e0 := e0.gn dJ; replace r9 := r9.gn dJ; replace aF := aF.gn dJ; replace aX := aX.gn dJ; replace aD := aD.gn dJ; replace aG := aG.gn dJ; replace aH := aH.gn dJ; replace aI := aI.gn dJ; replace aJ := aJ.gn dJ
  replace aB : OwnR eD (SxP (orN x.T w.heap.size) [obk (dW), some (eH.heap.size), some (w1.heap.size), some (w.heap.size), obk x.M1, some (x.bd), some (x.bg), some (x.bp), some (x.bk), some (x.bm), some (x.bn)]) x.M0 x.c0 3 (m0 : List Int) := aB.grA dJ (fun _ _ h => by cases h) (fun k hk hs => ⟨(fun e => by have := aY.ge _ e; omega), hs.1, hs.2.1, hs.2.2.1, hs.2.2.2.1, hs.2.2.2.2.1, hs.2.2.2.2.2.1, hs.2.2.2.2.2.2.1, hs.2.2.2.2.2.2.2.1, hs.2.2.2.2.2.2.2.2.1, hs.2.2.2.2.2.2.2.2.2.1, hs.2.2.2.2.2.2.2.2.2.2⟩)
  replace aC : OwnR eD (SxP (orN x.T w.heap.size) [obk (dW), some (eH.heap.size), some (w1.heap.size), some (w.heap.size), obk x.M0, some (x.bd), some (x.bg), some (x.bp), some (x.bk), some (x.bm), some (x.bn)]) x.M1 x.c1 3 (m1 : List Int) := aC.grA dJ (fun _ _ h => by cases h) (fun k hk hs => ⟨(fun e => by have := aY.ge _ e; omega), hs.1, hs.2.1, hs.2.2.1, hs.2.2.2.1, hs.2.2.2.2.1, hs.2.2.2.2.2.1, hs.2.2.2.2.2.2.1, hs.2.2.2.2.2.2.2.1, hs.2.2.2.2.2.2.2.2.1, hs.2.2.2.2.2.2.2.2.2.1, hs.2.2.2.2.2.2.2.2.2.2⟩)
  replace bx6 := bx6.gn dJ; replace aL := aL.gn dJ; replace aW := aW.gn dJ
  replace aY : OwnR eD (Sx (eS.heap.size) [obk (x.M0), obk (x.M1)]) dW fP 3 (ms : List Int) := aY.imp (fun g _ hs => ⟨(fun e => by have := jP _ e; have := Sx_base hs; omega), (fun e => by have := jQ _ e; have := Sx_base hs; omega), hs⟩)
  clear jP jQ; clear dJ he
  refine At.rk jO 3 [(47, .slice dW ms.length fP), (46, .agg ((ss : List Int).map wV).toArray)] .n (fun qZ jR => ?_)
  clear jO
  refine At.bx jR 13 ((List.replicate 4 (0 : Int) : List Int).map wV) 44 (fun rA cT hN rB jS => ?_)
  clear jR; have := cT.size; replace e0 := e0.gn cT; replace r9 := r9.gn cT; replace aF := aF.gn cT; replace aX := aX.gn cT; replace aD := aD.gn cT; replace aG := aG.gn cT; replace aH := aH.gn cT; replace aI := aI.gn cT; replace aJ := aJ.gn cT; replace aB := aB.grN cT; replace aC := aC.grN cT; replace bx6 := bx6.gn cT; replace aL := aL.gn cT; replace aW := aW.gn cT; replace aY := aY.grN cT
  have := hN.lt; clear cT
  refine At.act jS (storeBlk (t := 44) (b := eD.heap.size) (n := 4) (cs' := ((ss : List Int).map wV)) κ κ ((List.length_map _).trans σ) oneW_ ((show ((ss : List Int).map wV).length = 4 from ((List.length_map _).trans σ)).trans (show ((List.replicate 4 (0 : Int) : List Int).map wV).length = 4 from len_P).symm) hN) ?_
  rintro d_ v_ gR ⟨rfl, cU, bB⟩
  refine ⟨_, rfl, fun rC jT => ?_⟩
  clear jS; have := cU.size; replace e0 := e0.gr cU (fun k h => .inr (by injection h; omega)); replace r9 := r9.gb cU ω; replace aF := aF.gb cU ω; replace aX := aX.gb cU ω; replace aD := aD.gb cU ω; replace aG := aG.gb cU ω; replace aH := aH.gb cU ω; replace aI := aI.gb cU ω; replace aJ := aJ.gb cU ω; replace aB := aB.gr cU (fun k hk => hk.1); replace aC := aC.gr cU (fun k hk => hk.1)
  replace bx6 := bx6.gb cU ω; replace aL := aL.gb cU ω; replace aW := aW.gb cU ω; replace aY := aY.gr cU (fun k hk => hk.1); clear hN cU
  refine At.rk jT 1 [(14, .slice dW ms.length fP)] .n (fun rD hO => ?_)
  clear jT
  refine At.dn ?_
  first | (replace pA := pA; have hml_ := (att_inT hR (.inl rfl) hat).2.ml; have hlive0 := att_live hR (.inl rfl) hL hat) | (have hml_ := (att_inT hR (.inr rfl) hat).2.ml; have hlive0 := att_live hR (.inr rfl) hL hat)
  first | (replace pA := pA; have hlen0 : lenW (minusS s ss) < lenW s := len_sub hat.1 (by obtain ⟨i_, hi_⟩ := hTT.ex; exact ⟨i_, ((hTT.at_ i_).1 hi_).1, att_base hR (.inl rfl) hL.lt hat i_ hi_ ((hTT.at_ i_).1 hi_).1⟩)) | (have hlen0 : lenW (minusS s ss) < lenW s := len_sub hat.1 (by obtain ⟨i_, hi_⟩ := hTT.ex; exact ⟨i_, ((hTT.at_ i_).1 hi_).1, att_base hR (.inr rfl) hL.lt hat i_ hi_ ((hTT.at_ i_).1 hi_).1⟩))
  have hlw0 := lenW_le (minusS s ss)
  first | (replace pA := pA; refine wp_seq (cut (fun a_ w_ => ∃ (sa : List Int) (sb : List Int) (na : List Int) (nb : List Int) (da : Int) (eJ : Nat), (Frm 154 a_ [(15, pt eJ 0), (14, .slice dW ms.length fP), (12, .int .i64 (0)), (11, pt eH.heap.size 0), (10, pt w1.heap.size 0), (8, pt w.heap.size 0), (1, .int .i64 (depth)), (3, pt x.bg 0), (4, pt x.bp 0), (5, pt x.bk 0), (6, pt x.bm 0), (7, pt x.bn 0)]) ∧ (Tch (x.T) w w_) ∧ (RdG w_ 0 x.hi x.A0 x.A1 x.A2 x.k0 x.k1 x.k2 x.g) ∧ (RdT w_ 0 x.hi) ∧ (Bx w_ (x.bd) [.int .i64 (da)] 3) ∧ (Bx w_ (x.bg) [.slice x.A0 x.g.ow.length x.k0, .slice x.A1 x.g.pr.length x.k1, .slice x.A2 x.g.mv.length x.k2] 25) ∧ (Bx w_ (x.bp) [.func (.func 38) #[] #[pt x.bd 0, pt x.bg 0, pt x.bp 0, pt x.bk 0, pt x.bm 0, pt x.bn 0]] 65) ∧ (Bx w_ (x.bk) [.func (.func 37) #[] #[pt x.bm 0]] 64) ∧ (Bx w_ (x.bm) [.slice x.M0 x.g.ow.length x.c0, .slice x.M1 x.g.ow.length x.c1] 29) ∧ (Bx w_ (x.bn) [.int .i64 (((x.g.ow.length : Nat) : Int))] 3) ∧ (OwnR w_ (SxP (orN x.T w.heap.size) [some (eD.heap.size), obk (dW), some (eH.heap.size), some (w1.heap.size), some (w.heap.size), obk (x.M1), some (x.bd), some (x.bg), some (x.bp), some (x.bk), some (x.bm), some (x.bn), some (eJ)]) x.M0 x.c0 3 (na : List Int)) ∧ (OwnR w_ (SxP (orN x.T w.heap.size) [some (eD.heap.size), obk (dW), some (eH.heap.size), some (w1.heap.size), some (w.heap.size), obk (x.M0), some (x.bd), some (x.bg), some (x.bp), some (x.bk), some (x.bm), some (x.bn), some (eJ)]) x.M1 x.c1 3 (nb : List Int)) ∧ (Bx w_ (w.heap.size) ((s : List Int).map wV) 44) ∧ (Bx w_ (w1.heap.size) ((([0, 0, 0, 0]) ++ ([0, 0, 0, 0]) : List Int).map wV) 67) ∧ (Bx w_ (eH.heap.size) ((tt : List Int).map wV) 44) ∧ (OwnR w_ (Sx (eS.heap.size) [some (eD.heap.size), obk (x.M0), obk (x.M1), some (eJ)]) dW fP 3 (ms : List Int)) ∧ (Bx w_ (eD.heap.size) ((ss : List Int).map wV) 44) ∧ (Bx w_ (eJ) ((sa ++ sb : List Int).map wV) 67) ∧ (gR.heap.size ≤ eJ) ∧ (gR.heap.size ≤ w_.heap.size) ∧ (PartS x.g (minusS s ss) 0 sa sb m0 m1 na nb) ∧ (max d depth ≤ da) ∧ (depth + 1 ≤ da) ∧ (da ≤ max (max d depth) (depth + 1 + lenW (minusS s ss)))) ?_ ?_)) | (refine wp_seq (cut (fun a_ w_ => ∃ (sa : List Int) (sb : List Int) (na : List Int) (nb : List Int) (da : Int) (eJ : Nat), (Frm 154 a_ [(15, pt eJ 0), (14, .slice dW ms.length fP), (12, .int .i64 (1)), (11, pt eH.heap.size 0), (10, pt w1.heap.size 0), (8, pt w.heap.size 0), (1, .int .i64 (depth)), (3, pt x.bg 0), (4, pt x.bp 0), (5, pt x.bk 0), (6, pt x.bm 0), (7, pt x.bn 0)]) ∧ (Tch (x.T) w w_) ∧ (RdG w_ 0 x.hi x.A0 x.A1 x.A2 x.k0 x.k1 x.k2 x.g) ∧ (RdT w_ 0 x.hi) ∧ (Bx w_ (x.bd) [.int .i64 (da)] 3) ∧ (Bx w_ (x.bg) [.slice x.A0 x.g.ow.length x.k0, .slice x.A1 x.g.pr.length x.k1, .slice x.A2 x.g.mv.length x.k2] 25) ∧ (Bx w_ (x.bp) [.func (.func 38) #[] #[pt x.bd 0, pt x.bg 0, pt x.bp 0, pt x.bk 0, pt x.bm 0, pt x.bn 0]] 65) ∧ (Bx w_ (x.bk) [.func (.func 37) #[] #[pt x.bm 0]] 64) ∧ (Bx w_ (x.bm) [.slice x.M0 x.g.ow.length x.c0, .slice x.M1 x.g.ow.length x.c1] 29) ∧ (Bx w_ (x.bn) [.int .i64 (((x.g.ow.length : Nat) : Int))] 3) ∧ (OwnR w_ (SxP (orN x.T w.heap.size) [some (eD.heap.size), obk (dW), some (eH.heap.size), some (w1.heap.size), some (w.heap.size), obk (x.M1), some (x.bd), some (x.bg), some (x.bp), some (x.bk), some (x.bm), some (x.bn), some (eJ)]) x.M0 x.c0 3 (na : List Int)) ∧ (OwnR w_ (SxP (orN x.T w.heap.size) [some (eD.heap.size), obk (dW), some (eH.heap.size), some (w1.heap.size), some (w.heap.size), obk (x.M0), some (x.bd), some (x.bg), some (x.bp), some (x.bk), some (x.bm), some (x.bn), some (eJ)]) x.M1 x.c1 3 (nb : List Int)) ∧ (Bx w_ (w.heap.size) ((s : List Int).map wV) 44) ∧ (Bx w_ (w1.heap.size) ((([0, 0, 0, 0]) ++ ([0, 0, 0, 0]) : List Int).map wV) 67) ∧ (Bx w_ (eH.heap.size) ((tt : List Int).map wV) 44) ∧ (OwnR w_ (Sx (eS.heap.size) [some (eD.heap.size), obk (x.M0), obk (x.M1), some (eJ)]) dW fP 3 (ms : List Int)) ∧ (Bx w_ (eD.heap.size) ((ss : List Int).map wV) 44) ∧ (Bx w_ (eJ) ((sa ++ sb : List Int).map wV) 67) ∧ (gR.heap.size ≤ eJ) ∧ (gR.heap.size ≤ w_.heap.size) ∧ (PartS x.g (minusS s ss) 0 sa sb m0 m1 na nb) ∧ (max d depth ≤ da) ∧ (depth + 1 ≤ da) ∧ (da ≤ max (max d depth) (depth + 1 + lenW (minusS s ss)))) ?_ ?_))
  ·obtain ⟨gS, eM⟩ : ∃ c : List (Addr × Value), c = ([(⟨x.bp, 0, none⟩, (.func (.func 38) #[] #[pt x.bd 0, pt x.bg 0, pt x.bp 0, pt x.bk 0, pt x.bm 0, pt x.bn 0]))] : List (Addr × Value)) ++ (blkC (w.heap.size) ((s : List Int).map wV) ++ blkC (eD.heap.size) ((ss : List Int).map wV)) := ⟨_, rfl⟩
   have jU : HoldsC gS gR := by rw [eM]; exact (holdsA (show HoldsC [(⟨x.bp, 0, none⟩, (.func (.func 38) #[] #[pt x.bd 0, pt x.bg 0, pt x.bp 0, pt x.bk 0, pt x.bm 0, pt x.bn 0]))] gR from ⟨(aG.cell (i := 0) rfl), trivial⟩) (holdsA (holds_blk bx6) (holds_blk bB)))
   refine AtH.start gS 9 _ κ rfl rfl (fun jV jW => ?_)
   have bW := gr_drew jW; have hP := jU.gr bW; have := bW.size; replace e0 := e0.gn bW; replace r9 := r9.gn bW; replace aF := aF.gn bW; replace aX := aX.gn bW; replace aD := aD.gn bW; replace aG := aG.gn bW; replace aH := aH.gn bW; replace aI := aI.gn bW; replace aJ := aJ.gn bW; replace aB := aB.gn bW; replace aC := aC.gn bW; replace bx6 := bx6.gn bW; replace aL := aL.gn bW; replace aW := aW.gn bW
   replace aY := aY.gn bW; replace bB := bB.gn bW; clear bW jW jU
   refine AtH.rk hP hO [0, 1, 2, 4, 5] 4 [(53, .int .i64 (depth + 1)), (50, .agg ((ss : List Int).map wV).toArray), (49, .agg ((s : List Int).map wV).toArray), (48, .func (.func 38) #[] #[pt x.bd 0, pt x.bg 0, pt x.bp 0, pt x.bk 0, pt x.bm 0, pt x.bn 0])] (.l (CsC_at eM 0 rfl) <| .p (show ((s : List Int).map wV).length = 4 from ((List.length_map _).trans σ)) <| .p (show ∀ (j : Nat) (v : Value), ((s : List Int).map wV)[j]? = some v → ∃ j_ : Nat, gS[j_]? = some (((⟨w.heap.size, 0, none⟩ : Addr).add j), v) from (fun j v hv => List.getElem?_of_mem (by rw [eM]; exact List.mem_append.2 (.inr (List.mem_append.2 (.inl (blkC_in hv))))))) <| .o (.cs ((s : List Int).map wV)) <| .p (show ((ss : List Int).map wV).length = 4 from ((List.length_map _).trans σ)) <| .p (show ∀ (j : Nat) (v : Value), ((ss : List Int).map wV)[j]? = some v → ∃ j_ : Nat, gS[j_]? = some (((⟨eD.heap.size, 0, none⟩ : Addr).add j), v) from (fun j v hv => List.getElem?_of_mem (by rw [eM]; exact List.mem_append.2 (.inr (List.mem_append.2 (.inr (blkC_in hv))))))) <| .o (.cs ((ss : List Int).map wV)) <| .w 53 (depth + 1) <| .n) (fun rE gT => ?_)
   clear hO
   refine AtH.all [3, 7] 3 κ (by simp) ⟨?_, ?_, trivial⟩
   ·refine OneH.cl gT (some 51) (minusS_any (s := s) (t := ss) σ σ) ?_
    rintro e_ jX ⟨rfl, he⟩
    refine ⟨_, rfl, _, rfl, fun rF gU => ?_⟩
    clear gT; have bX := gr_ext he; have hQ := hP.gr bX; have := bX.size; replace e0 := e0.gn bX; replace r9 := r9.gn bX; replace aF := aF.gn bX; replace aX := aX.gn bX; replace aD := aD.gn bX; replace aG := aG.gn bX; replace aH := aH.gn bX; replace aI := aI.gn bX; replace aJ := aJ.gn bX; replace aB := aB.gn bX; replace aC := aC.gn bX; replace bx6 := bx6.gn bX; replace aL := aL.gn bX
    replace aW := aW.gn bX; replace aY := aY.gn bX; replace bB := bB.gn bX; clear bX he
    refine ⟨hQ, ?_⟩
    refine AtH.all [6, 7] 2 κ (by simp) ⟨?_, ?_, trivial⟩
    ·refine OneH.cl gU (some 54) (IH (minusS s ss) hlen0 (m0) (m1) (max d depth) (depth + 1) _ ⟨aX, aD, aG, aH, (aI.as (by first | rfl | (simp only [List.cons.injEq, Value.slice.injEq, true_and, and_true]; omega))), aJ, (aB.self.imp (fun g _ hs => ⟨hs.1.2.2.2.2.2.1, hs.1.2.2.2.2.2.2.1, hs.1.2.2.2.2.2.2.2.1, hs.1.2.2.2.2.2.2.2.2.1, hs.1.2.2.2.2.2.2.2.2.2.1, hs.1.2.2.2.2.2.2.2.2.2.2.1, hs.1.2.2.2.2.2.2.2.2.2.2.2.1, .inl hs.2⟩)), (aC.self.imp (fun g _ hs => ⟨hs.1.2.2.2.2.2.1, hs.1.2.2.2.2.2.2.1, hs.1.2.2.2.2.2.2.2.1, hs.1.2.2.2.2.2.2.2.2.1, hs.1.2.2.2.2.2.2.2.2.2.1, hs.1.2.2.2.2.2.2.2.2.2.2.1, hs.1.2.2.2.2.2.2.2.2.2.2.2.1, .inr (.inl hs.2)⟩)), r9, aF⟩ ⟨(okW_minusS σ σ), hlive0, by omega, by omega, by omega, by omega, by omega, by omega⟩) ?_
     rintro e_ jY ⟨sa, sb, na, nb, da, rfl, he_hpa, hbd_hpa, hr0_hpa, hr1_hpa, hpa, hd1_hpa, hd2_hpa, hd3_hpa⟩
     have hla0 := hpa.lp; have hlb0 := hpa.lq; have hok_sa := hpa.okp; have hok_sb := hpa.okq; have hl4_sa := okLen hok_sa; have hl4_sb := okLen hok_sb
     refine ⟨_, rfl, _, rfl, fun rG jZ => ?_⟩
     clear gU
     have kA := hQ.tch he_hpa (by rw [eM]; exact (allP_app ⟨(show ¬ _ from by simp only [add_block]; exact (DecS.not (aB.neb (fun g hs => hs.2.2.2.2.2.2.2.2.1)) (aC.neb (fun g hs => hs.2.2.2.2.2.2.2.2.1)) ω)), trivial⟩ (allP_app (nT_blk (DecS.not (aB.neb (fun g hs => hs.2.2.2.2.1)) (aC.neb (fun g hs => hs.2.2.2.2.1)) ω)) (nT_blk (DecS.not (aB.neb (fun g hs => hs.1)) (aC.neb (fun g hs => hs.1)) ω)))))
     have := he_hpa.size; replace e0 := e0.tch he_hpa (fun k hk => .inl hk); replace r9 := r9.tch he_hpa (fun k hk => .inr (K.hT k hk)); replace aF := aF.tch he_hpa (fun k hk => .inr (K.hT k hk)); clear aX; replace aD := aD.tch he_hpa (DecS.not (aB.neb (fun g hs => hs.2.2.2.2.2.2.2.1)) (aC.neb (fun g hs => hs.2.2.2.2.2.2.2.1)) ω)
     replace aG := aG.tch he_hpa (DecS.not (aB.neb (fun g hs => hs.2.2.2.2.2.2.2.2.1)) (aC.neb (fun g hs => hs.2.2.2.2.2.2.2.2.1)) ω); replace aH := aH.tch he_hpa (DecS.not (aB.neb (fun g hs => hs.2.2.2.2.2.2.2.2.2.1)) (aC.neb (fun g hs => hs.2.2.2.2.2.2.2.2.2.1)) ω); replace aI := aI.tch he_hpa (DecS.not (aB.neb (fun g hs => hs.2.2.2.2.2.2.2.2.2.2.1)) (aC.neb (fun g hs => hs.2.2.2.2.2.2.2.2.2.2.1)) ω)
     replace aJ := aJ.tch he_hpa (DecS.not (aB.neb (fun g hs => hs.2.2.2.2.2.2.2.2.2.2.2.1)) (aC.neb (fun g hs => hs.2.2.2.2.2.2.2.2.2.2.2.1)) ω); have eT := OwnR.reS aB hr0_hpa; clear aB hr0_hpa; have eU := OwnR.reS aC hr1_hpa; clear aC hr1_hpa; replace bx6 := bx6.tch he_hpa (DecS.not (eT.neb (fun g hs => hs.2.2.2.2.1)) (eU.neb (fun g hs => hs.2.2.2.2.1)) ω)
     replace aL := aL.tch he_hpa (DecS.not (eT.neb (fun g hs => hs.2.2.2.1)) (eU.neb (fun g hs => hs.2.2.2.1)) ω); replace aW := aW.tch he_hpa (DecS.not (eT.neb (fun g hs => hs.2.2.1)) (eU.neb (fun g hs => hs.2.2.1)) ω); replace aY := aY.tch he_hpa (fun k hk _ => DecS.not hk.2.1 hk.2.2.1 (by have := Sx_base hk; omega))
     replace bB := bB.tch he_hpa (DecS.not (eT.neb (fun g hs => hs.1)) (eU.neb (fun g hs => hs.1)) ω); clear he_hpa
     refine ⟨kA, ?_⟩
     refine AtH.all [7] 1 κ (by simp) ⟨?_, trivial⟩
     refine OneH.bx jZ kA 15 ((([0, 0, 0, 0]) ++ ([0, 0, 0, 0]) : List Int).map wV) 67 (fun rH cJ hS oG rI kB => ?_)
     clear jZ; have := cJ.size; replace e0 := e0.gn cJ; replace r9 := r9.gn cJ; replace aF := aF.gn cJ; have hU := hbd_hpa.gn cJ; clear hbd_hpa; replace aD := aD.gn cJ; replace aG := aG.gn cJ; replace aH := aH.gn cJ; replace aI := aI.gn cJ; replace aJ := aJ.gn cJ; replace eT := eT.grN cJ; replace eU := eU.grN cJ; replace bx6 := bx6.gn cJ; replace aL := aL.gn cJ; replace aW := aW.gn cJ
     replace aY := aY.grN cJ; replace bB := bB.gn cJ; have := hS.lt; clear cJ
     refine AtH.all [8] 0 κ (by simp) ⟨?_, trivial⟩
     refine OneH.act kB _ rfl (storeBlk (t := 67) (b := jY.heap.size) (n := 8) (cs' := ((sa ++ sb : List Int).map wV)) κ κ (len8 σ σ) oneW_ ((show ((sa ++ sb : List Int).map wV).length = 8 from (len8 σ σ)).trans (show ((([0, 0, 0, 0]) ++ ([0, 0, 0, 0]) : List Int).map wV).length = 8 from (len8 (okLen okW_00) (okLen okW_00))).symm) hS) ?_
     rintro d_ v_ rJ ⟨rfl, bY, oH⟩
     have kC := oG.gr' bY (by rw [eM]; exact (allP_app ⟨(by simp only [add_block]; omega), trivial⟩ (allP_app (ne_blk ω) (ne_blk ω))))
     refine ⟨_, rfl, fun rK oI => ⟨kC, ?_⟩⟩
     clear kB; have := bY.size; replace e0 := e0.gr bY (fun k h => .inr (by injection h; omega)); replace r9 := r9.gb bY ω; replace aF := aF.gb bY ω; replace hU := hU.gb bY ω; replace aD := aD.gb bY ω; replace aG := aG.gb bY ω; replace aH := aH.gb bY ω; replace aI := aI.gb bY ω; replace aJ := aJ.gb bY ω; replace eT := eT.gr bY (fun k hk => hk.1); replace eU := eU.gr bY (fun k hk => hk.1)
     replace bx6 := bx6.gb bY ω; replace aL := aL.gb bY ω; replace aW := aW.gb bY ω; replace aY := aY.gr bY (fun k hk => hk.1); replace bB := bB.gb bY ω; clear hS bY
     refine AtH.done κ ?_
     clear kC
     refine t_n ?_
     exact ⟨sa, sb, na, nb, da, jY.heap.size, oI.sb, e0, r9, aF, hU, aD, aG, aH, aI, aJ, (eT.imp (fun g _ hs => ⟨hs.2.1, hs.2.2.1, hs.2.2.2.1, hs.2.2.2.2.1, hs.2.2.2.2.2.1, hs.2.2.2.2.2.2.1, hs.2.2.2.2.2.2.2.1, hs.2.2.2.2.2.2.2.2.1, hs.2.2.2.2.2.2.2.2.2.1, hs.2.2.2.2.2.2.2.2.2.2.1, hs.2.2.2.2.2.2.2.2.2.2.2.1, hs.2.2.2.2.2.2.2.2.2.2.2.2.1, hs.1, hs.2.2.2.2.2.2.2.2.2.2.2.2.2⟩)), (eU.imp (fun g _ hs => ⟨hs.2.1, hs.2.2.1, hs.2.2.2.1, hs.2.2.2.2.1, hs.2.2.2.2.2.1, hs.2.2.2.2.2.2.1, hs.2.2.2.2.2.2.2.1, hs.2.2.2.2.2.2.2.2.1, hs.2.2.2.2.2.2.2.2.2.1, hs.2.2.2.2.2.2.2.2.2.2.1, hs.2.2.2.2.2.2.2.2.2.2.2.1, hs.2.2.2.2.2.2.2.2.2.2.2.2.1, hs.1, hs.2.2.2.2.2.2.2.2.2.2.2.2.2⟩)), bx6, aL, aW, (aY.imp (fun g _ hs => ⟨hs.2.1, hs.2.2.1, hs.2.2.2.1, hs.1, (by have := Sx_base hs; show eS.heap.size ≤ g; omega)⟩)), bB, oH, ω, ω, hpa, hd1_hpa, hd2_hpa, hd3_hpa⟩
    refine OneH.bx gU hQ 15 ((([0, 0, 0, 0]) ++ ([0, 0, 0, 0]) : List Int).map wV) 67 (fun rL cK gJ oJ rM kD => ?_)
    clear gU; have := cK.size; replace e0 := e0.gn cK; replace r9 := r9.gn cK; replace aF := aF.gn cK; replace aX := aX.gn cK; replace aD := aD.gn cK; replace aG := aG.gn cK; replace aH := aH.gn cK; replace aI := aI.gn cK; replace aJ := aJ.gn cK; replace aB := aB.grN cK; replace aC := aC.grN cK; replace bx6 := bx6.gn cK; replace aL := aL.gn cK; replace aW := aW.gn cK; replace aY := aY.grN cK
    replace bB := bB.gn cK; have := gJ.lt; clear cK
    refine AtH.all [6] 1 κ (by simp) ⟨?_, trivial⟩
    refine OneH.cl kD (some 54) (IH (minusS s ss) hlen0 (m0) (m1) (max d depth) (depth + 1) _ ⟨aX, aD, aG, aH, (aI.as (by first | rfl | (simp only [List.cons.injEq, Value.slice.injEq, true_and, and_true]; omega))), aJ, (aB.self.imp (fun g _ hs => ⟨hs.1.2.2.2.2.2.2.1, hs.1.2.2.2.2.2.2.2.1, hs.1.2.2.2.2.2.2.2.2.1, hs.1.2.2.2.2.2.2.2.2.2.1, hs.1.2.2.2.2.2.2.2.2.2.2.1, hs.1.2.2.2.2.2.2.2.2.2.2.2.1, hs.1.2.2.2.2.2.2.2.2.2.2.2.2.1, .inl hs.2⟩)), (aC.self.imp (fun g _ hs => ⟨hs.1.2.2.2.2.2.2.1, hs.1.2.2.2.2.2.2.2.1, hs.1.2.2.2.2.2.2.2.2.1, hs.1.2.2.2.2.2.2.2.2.2.1, hs.1.2.2.2.2.2.2.2.2.2.2.1, hs.1.2.2.2.2.2.2.2.2.2.2.2.1, hs.1.2.2.2.2.2.2.2.2.2.2.2.2.1, .inr (.inl hs.2)⟩)), r9, aF⟩ ⟨(okW_minusS σ σ), hlive0, by omega, by omega, by omega, by omega, by omega, by omega⟩) ?_
    rintro e_ rN ⟨sa, sb, na, nb, da, rfl, he_hpa, hbd_hpa, hr0_hpa, hr1_hpa, hpa, hd1_hpa, hd2_hpa, hd3_hpa⟩
    have hla0 := hpa.lp; have hlb0 := hpa.lq; have hok_sa := hpa.okp; have hok_sb := hpa.okq; have hl4_sa := okLen hok_sa; have hl4_sb := okLen hok_sb
    refine ⟨_, rfl, _, rfl, fun rO kE => ?_⟩
    clear kD
    have kF := oJ.tch he_hpa (by rw [eM]; exact (allP_app ⟨(show ¬ _ from by simp only [add_block]; exact (DecS.not (aB.neb (fun g hs => hs.2.2.2.2.2.2.2.2.2.1)) (aC.neb (fun g hs => hs.2.2.2.2.2.2.2.2.2.1)) ω)), trivial⟩ (allP_app (nT_blk (DecS.not (aB.neb (fun g hs => hs.2.2.2.2.2.1)) (aC.neb (fun g hs => hs.2.2.2.2.2.1)) ω)) (nT_blk (DecS.not (aB.neb (fun g hs => hs.2.1)) (aC.neb (fun g hs => hs.2.1)) ω)))))
    have := he_hpa.size; replace e0 := e0.tch he_hpa (fun k hk => .inl hk); replace r9 := r9.tch he_hpa (fun k hk => .inr (K.hT k hk)); replace aF := aF.tch he_hpa (fun k hk => .inr (K.hT k hk)); clear aX; replace aD := aD.tch he_hpa (DecS.not (aB.neb (fun g hs => hs.2.2.2.2.2.2.2.2.1)) (aC.neb (fun g hs => hs.2.2.2.2.2.2.2.2.1)) ω)
    replace aG := aG.tch he_hpa (DecS.not (aB.neb (fun g hs => hs.2.2.2.2.2.2.2.2.2.1)) (aC.neb (fun g hs => hs.2.2.2.2.2.2.2.2.2.1)) ω); replace aH := aH.tch he_hpa (DecS.not (aB.neb (fun g hs => hs.2.2.2.2.2.2.2.2.2.2.1)) (aC.neb (fun g hs => hs.2.2.2.2.2.2.2.2.2.2.1)) ω)
    replace aI := aI.tch he_hpa (DecS.not (aB.neb (fun g hs => hs.2.2.2.2.2.2.2.2.2.2.2.1)) (aC.neb (fun g hs => hs.2.2.2.2.2.2.2.2.2.2.2.1)) ω); replace aJ := aJ.tch he_hpa (DecS.not (aB.neb (fun g hs => hs.2.2.2.2.2.2.2.2.2.2.2.2.1)) (aC.neb (fun g hs => hs.2.2.2.2.2.2.2.2.2.2.2.2.1)) ω); have fG := OwnR.reS aB hr0_hpa; clear aB hr0_hpa; have fH := OwnR.reS aC hr1_hpa; clear aC hr1_hpa
    replace bx6 := bx6.tch he_hpa (DecS.not (fG.neb (fun g hs => hs.2.2.2.2.2.1)) (fH.neb (fun g hs => hs.2.2.2.2.2.1)) ω); replace aL := aL.tch he_hpa (DecS.not (fG.neb (fun g hs => hs.2.2.2.2.1)) (fH.neb (fun g hs => hs.2.2.2.2.1)) ω); replace aW := aW.tch he_hpa (DecS.not (fG.neb (fun g hs => hs.2.2.2.1)) (fH.neb (fun g hs => hs.2.2.2.1)) ω)
    replace aY := aY.tch he_hpa (fun k hk _ => DecS.not hk.2.2.1 hk.2.2.2.1 (by have := Sx_base hk; omega)); replace bB := bB.tch he_hpa (DecS.not (fG.neb (fun g hs => hs.2.1)) (fH.neb (fun g hs => hs.2.1)) ω); replace gJ := gJ.tch he_hpa (DecS.not (fG.neb (fun g hs => hs.1)) (fH.neb (fun g hs => hs.1)) ω); clear he_hpa
    refine ⟨kF, ?_⟩
    refine AtH.all [8] 0 κ (by simp) ⟨?_, trivial⟩
    refine OneH.act kE _ rfl (storeBlk (t := 67) (b := jX.heap.size) (n := 8) (cs' := ((sa ++ sb : List Int).map wV)) κ κ (len8 σ σ) oneW_ ((show ((sa ++ sb : List Int).map wV).length = 8 from (len8 σ σ)).trans (show ((([0, 0, 0, 0]) ++ ([0, 0, 0, 0]) : List Int).map wV).length = 8 from (len8 (okLen okW_00) (okLen okW_00))).symm) gJ) ?_
    rintro d_ v_ rP ⟨rfl, bZ, oK⟩
    have kG := kF.gr' bZ (by rw [eM]; exact (allP_app ⟨(by simp only [add_block]; omega), trivial⟩ (allP_app (ne_blk ω) (ne_blk ω))))
    refine ⟨_, rfl, fun rQ oL => ⟨kG, ?_⟩⟩
    clear kE; have := bZ.size; replace e0 := e0.gr bZ (fun k h => .inr (by injection h; omega)); replace r9 := r9.gb bZ ω; replace aF := aF.gb bZ ω; have oM := hbd_hpa.gb bZ ω; clear hbd_hpa; replace aD := aD.gb bZ ω; replace aG := aG.gb bZ ω; replace aH := aH.gb bZ ω; replace aI := aI.gb bZ ω; replace aJ := aJ.gb bZ ω; replace fG := fG.gr bZ (fun k hk => hk.1)
    replace fH := fH.gr bZ (fun k hk => hk.1); replace bx6 := bx6.gb bZ ω; replace aL := aL.gb bZ ω; replace aW := aW.gb bZ ω; replace aY := aY.gr bZ (fun k hk => hk.1); replace bB := bB.gb bZ ω; clear gJ bZ
    refine AtH.done κ ?_
    clear kG
    refine t_n ?_
    exact ⟨sa, sb, na, nb, da, jX.heap.size, oL.sb, e0, r9, aF, oM, aD, aG, aH, aI, aJ, (fG.imp (fun g _ hs => ⟨hs.2.1, hs.2.2.1, hs.2.2.2.1, hs.2.2.2.2.1, hs.2.2.2.2.2.1, hs.2.2.2.2.2.2.1, hs.2.2.2.2.2.2.2.1, hs.2.2.2.2.2.2.2.2.1, hs.2.2.2.2.2.2.2.2.2.1, hs.2.2.2.2.2.2.2.2.2.2.1, hs.2.2.2.2.2.2.2.2.2.2.2.1, hs.2.2.2.2.2.2.2.2.2.2.2.2.1, hs.1, hs.2.2.2.2.2.2.2.2.2.2.2.2.2⟩)), (fH.imp (fun g _ hs => ⟨hs.2.1, hs.2.2.1, hs.2.2.2.1, hs.2.2.2.2.1, hs.2.2.2.2.2.1, hs.2.2.2.2.2.2.1, hs.2.2.2.2.2.2.2.1, hs.2.2.2.2.2.2.2.2.1, hs.2.2.2.2.2.2.2.2.2.1, hs.2.2.2.2.2.2.2.2.2.2.1, hs.2.2.2.2.2.2.2.2.2.2.2.1, hs.2.2.2.2.2.2.2.2.2.2.2.2.1, hs.1, hs.2.2.2.2.2.2.2.2.2.2.2.2.2⟩)), bx6, aL, aW, (aY.imp (fun g _ hs => ⟨hs.2.1, hs.2.2.1, hs.2.2.2.1, hs.1, (by have := Sx_base hs; show eS.heap.size ≤ g; omega)⟩)), bB, oK, ω, ω, hpa, hd1_hpa, hd2_hpa, hd3_hpa⟩
   refine OneH.bx gT hP 15 ((([0, 0, 0, 0]) ++ ([0, 0, 0, 0]) : List Int).map wV) 67 (fun rR cL fQ oN rS kH => ?_)
   clear gT; have := cL.size; replace e0 := e0.gn cL; replace r9 := r9.gn cL; replace aF := aF.gn cL; replace aX := aX.gn cL; replace aD := aD.gn cL; replace aG := aG.gn cL; replace aH := aH.gn cL; replace aI := aI.gn cL; replace aJ := aJ.gn cL; replace aB := aB.grN cL; replace aC := aC.grN cL; replace bx6 := bx6.gn cL; replace aL := aL.gn cL; replace aW := aW.gn cL; replace aY := aY.grN cL
   replace bB := bB.gn cL; have := fQ.lt; clear cL
   refine AtH.all [3] 2 κ (by simp) ⟨?_, trivial⟩
   refine OneH.cl kH (some 51) (minusS_any (s := s) (t := ss) σ σ) ?_
   rintro e_ rT ⟨rfl, he⟩
   refine ⟨_, rfl, _, rfl, fun rU kI => ?_⟩
   clear kH; have bR := gr_ext he; have kJ := oN.gr bR; have := bR.size; replace e0 := e0.gn bR; replace r9 := r9.gn bR; replace aF := aF.gn bR; replace aX := aX.gn bR; replace aD := aD.gn bR; replace aG := aG.gn bR; replace aH := aH.gn bR; replace aI := aI.gn bR; replace aJ := aJ.gn bR; replace aB := aB.gn bR; replace aC := aC.gn bR; replace bx6 := bx6.gn bR; replace aL := aL.gn bR
   replace aW := aW.gn bR; replace aY := aY.gn bR; replace bB := bB.gn bR; replace fQ := fQ.gn bR; clear bR he
   refine ⟨kJ, ?_⟩
   refine AtH.all [6] 1 κ (by simp) ⟨?_, trivial⟩
   refine OneH.cl kI (some 54) (IH (minusS s ss) hlen0 (m0) (m1) (max d depth) (depth + 1) _ ⟨aX, aD, aG, aH, (aI.as (by first | rfl | (simp only [List.cons.injEq, Value.slice.injEq, true_and, and_true]; omega))), aJ, (aB.self.imp (fun g _ hs => ⟨hs.1.2.2.2.2.2.2.1, hs.1.2.2.2.2.2.2.2.1, hs.1.2.2.2.2.2.2.2.2.1, hs.1.2.2.2.2.2.2.2.2.2.1, hs.1.2.2.2.2.2.2.2.2.2.2.1, hs.1.2.2.2.2.2.2.2.2.2.2.2.1, hs.1.2.2.2.2.2.2.2.2.2.2.2.2.1, .inl hs.2⟩)), (aC.self.imp (fun g _ hs => ⟨hs.1.2.2.2.2.2.2.1, hs.1.2.2.2.2.2.2.2.1, hs.1.2.2.2.2.2.2.2.2.1, hs.1.2.2.2.2.2.2.2.2.2.1, hs.1.2.2.2.2.2.2.2.2.2.2.1, hs.1.2.2.2.2.2.2.2.2.2.2.2.1, hs.1.2.2.2.2.2.2.2.2.2.2.2.2.1, .inr (.inl hs.2)⟩)), r9, aF⟩ ⟨(okW_minusS σ σ), hlive0, by omega, by omega, by omega, by omega, by omega, by omega⟩) ?_
   rintro e_ rV ⟨sa, sb, na, nb, da, rfl, he_hpa, hbd_hpa, hr0_hpa, hr1_hpa, hpa, hd1_hpa, hd2_hpa, hd3_hpa⟩
   have hla0 := hpa.lp; have hlb0 := hpa.lq; have hok_sa := hpa.okp; have hok_sb := hpa.okq; have hl4_sa := okLen hok_sa; have hl4_sb := okLen hok_sb
   refine ⟨_, rfl, _, rfl, fun rW kK => ?_⟩
   clear kI
   have kL := kJ.tch he_hpa (by rw [eM]; exact (allP_app ⟨(show ¬ _ from by simp only [add_block]; exact (DecS.not (aB.neb (fun g hs => hs.2.2.2.2.2.2.2.2.2.1)) (aC.neb (fun g hs => hs.2.2.2.2.2.2.2.2.2.1)) ω)), trivial⟩ (allP_app (nT_blk (DecS.not (aB.neb (fun g hs => hs.2.2.2.2.2.1)) (aC.neb (fun g hs => hs.2.2.2.2.2.1)) ω)) (nT_blk (DecS.not (aB.neb (fun g hs => hs.2.1)) (aC.neb (fun g hs => hs.2.1)) ω)))))
   have := he_hpa.size; replace e0 := e0.tch he_hpa (fun k hk => .inl hk); replace r9 := r9.tch he_hpa (fun k hk => .inr (K.hT k hk)); replace aF := aF.tch he_hpa (fun k hk => .inr (K.hT k hk)); clear aX; replace aD := aD.tch he_hpa (DecS.not (aB.neb (fun g hs => hs.2.2.2.2.2.2.2.2.1)) (aC.neb (fun g hs => hs.2.2.2.2.2.2.2.2.1)) ω)
   replace aG := aG.tch he_hpa (DecS.not (aB.neb (fun g hs => hs.2.2.2.2.2.2.2.2.2.1)) (aC.neb (fun g hs => hs.2.2.2.2.2.2.2.2.2.1)) ω); replace aH := aH.tch he_hpa (DecS.not (aB.neb (fun g hs => hs.2.2.2.2.2.2.2.2.2.2.1)) (aC.neb (fun g hs => hs.2.2.2.2.2.2.2.2.2.2.1)) ω)
   replace aI := aI.tch he_hpa (DecS.not (aB.neb (fun g hs => hs.2.2.2.2.2.2.2.2.2.2.2.1)) (aC.neb (fun g hs => hs.2.2.2.2.2.2.2.2.2.2.2.1)) ω); replace aJ := aJ.tch he_hpa (DecS.not (aB.neb (fun g hs => hs.2.2.2.2.2.2.2.2.2.2.2.2.1)) (aC.neb (fun g hs => hs.2.2.2.2.2.2.2.2.2.2.2.2.1)) ω); have fI := OwnR.reS aB hr0_hpa; clear aB hr0_hpa; have fJ := OwnR.reS aC hr1_hpa; clear aC hr1_hpa
   replace bx6 := bx6.tch he_hpa (DecS.not (fI.neb (fun g hs => hs.2.2.2.2.2.1)) (fJ.neb (fun g hs => hs.2.2.2.2.2.1)) ω); replace aL := aL.tch he_hpa (DecS.not (fI.neb (fun g hs => hs.2.2.2.2.1)) (fJ.neb (fun g hs => hs.2.2.2.2.1)) ω); replace aW := aW.tch he_hpa (DecS.not (fI.neb (fun g hs => hs.2.2.2.1)) (fJ.neb (fun g hs => hs.2.2.2.1)) ω)
   replace aY := aY.tch he_hpa (fun k hk _ => DecS.not hk.2.2.1 hk.2.2.2.1 (by have := Sx_base hk; omega)); replace bB := bB.tch he_hpa (DecS.not (fI.neb (fun g hs => hs.2.1)) (fJ.neb (fun g hs => hs.2.1)) ω); replace fQ := fQ.tch he_hpa (DecS.not (fI.neb (fun g hs => hs.1)) (fJ.neb (fun g hs => hs.1)) ω); clear he_hpa
   refine ⟨kL, ?_⟩
   refine AtH.all [8] 0 κ (by simp) ⟨?_, trivial⟩
   refine OneH.act kK _ rfl (storeBlk (t := 67) (b := jV.heap.size) (n := 8) (cs' := ((sa ++ sb : List Int).map wV)) κ κ (len8 σ σ) oneW_ ((show ((sa ++ sb : List Int).map wV).length = 8 from (len8 σ σ)).trans (show ((([0, 0, 0, 0]) ++ ([0, 0, 0, 0]) : List Int).map wV).length = 8 from (len8 (okLen okW_00) (okLen okW_00))).symm) fQ) ?_
   rintro d_ v_ rX ⟨rfl, cA, oO⟩
   have kM := kL.gr' cA (by rw [eM]; exact (allP_app ⟨(by simp only [add_block]; omega), trivial⟩ (allP_app (ne_blk ω) (ne_blk ω))))
   refine ⟨_, rfl, fun rY oP => ⟨kM, ?_⟩⟩
   clear kK; have := cA.size; replace e0 := e0.gr cA (fun k h => .inr (by injection h; omega)); replace r9 := r9.gb cA ω; replace aF := aF.gb cA ω; have oQ := hbd_hpa.gb cA ω; clear hbd_hpa; replace aD := aD.gb cA ω; replace aG := aG.gb cA ω; replace aH := aH.gb cA ω; replace aI := aI.gb cA ω; replace aJ := aJ.gb cA ω; replace fI := fI.gr cA (fun k hk => hk.1)
   replace fJ := fJ.gr cA (fun k hk => hk.1); replace bx6 := bx6.gb cA ω; replace aL := aL.gb cA ω; replace aW := aW.gb cA ω; replace aY := aY.gr cA (fun k hk => hk.1); replace bB := bB.gb cA ω; clear fQ cA
   refine AtH.done κ ?_
   clear kM
   refine t_n ?_
   exact ⟨sa, sb, na, nb, da, jV.heap.size, oP.sb, e0, r9, aF, oQ, aD, aG, aH, aI, aJ, (fI.imp (fun g _ hs => ⟨hs.2.1, hs.2.2.1, hs.2.2.2.1, hs.2.2.2.2.1, hs.2.2.2.2.2.1, hs.2.2.2.2.2.2.1, hs.2.2.2.2.2.2.2.1, hs.2.2.2.2.2.2.2.2.1, hs.2.2.2.2.2.2.2.2.2.1, hs.2.2.2.2.2.2.2.2.2.2.1, hs.2.2.2.2.2.2.2.2.2.2.2.1, hs.2.2.2.2.2.2.2.2.2.2.2.2.1, hs.1, hs.2.2.2.2.2.2.2.2.2.2.2.2.2⟩)), (fJ.imp (fun g _ hs => ⟨hs.2.1, hs.2.2.1, hs.2.2.2.1, hs.2.2.2.2.1, hs.2.2.2.2.2.1, hs.2.2.2.2.2.2.1, hs.2.2.2.2.2.2.2.1, hs.2.2.2.2.2.2.2.2.1, hs.2.2.2.2.2.2.2.2.2.1, hs.2.2.2.2.2.2.2.2.2.2.1, hs.2.2.2.2.2.2.2.2.2.2.2.1, hs.2.2.2.2.2.2.2.2.2.2.2.2.1, hs.1, hs.2.2.2.2.2.2.2.2.2.2.2.2.2⟩)), bx6, aL, aW, (aY.imp (fun g _ hs => ⟨hs.2.1, hs.2.2.1, hs.2.2.2.1, hs.1, (by have := Sx_base hs; show eS.heap.size ≤ g; omega)⟩)), bB, oO, ω, ω, hpa, hd1_hpa, hd2_hpa, hd3_hpa⟩
  clear r9; clear aF; clear aX; clear aD; clear aG; clear aH; clear aI; clear aJ; clear aB; clear aC; clear bx6; clear aL; clear aW; clear aY; clear bB; clear hO e0
  first | (replace pA := pA; intro rZ eN ⟨sa, sb, na, nb, da, eJ, kN, bL, bM, bH, bN, bD, bO, bF, bG, bI, bE, bC, bJ, bP, eK, eV, gB, fR, sA, sB, hpa, hd1_hpa, hd2_hpa, hd3_hpa⟩) | (intro rZ eN ⟨sa, sb, na, nb, da, eJ, kN, bL, bM, bH, bN, bD, bO, bF, bG, bI, bC, bE, bJ, bP, eK, eV, gB, fR, sA, sB, hpa, hd1_hpa, hd2_hpa, hd3_hpa⟩)
  have := bL.size; have hla0 := hpa.lp; have hlb0 := hpa.lq; have hok_sa := hpa.okp; have hok_sb := hpa.okq; have hl4_sa := okLen hok_sa; have hl4_sb := okLen hok_sb; have := bN.lt; have := bD.lt; have := bO.lt; have := bF.lt; have := bG.lt; have := bI.lt; have := bJ.lt; have := bP.lt; have := eK.lt; have := gB.lt; have := fR.lt
  refine wp_seq ?_
  first | (replace pA := pA; have hpS : PartS x.g (minusS s ss) 0 sa sb m0 m1 na nb := hpa) | (have hpS : PartS x.g (minusS s ss) 1 sb sa m1 m0 nb na := hpa.swap)
  refine At.start ?_
  first | (replace pA := pA; refine At.rk kN 4 [(58, .agg ((sb : List Int).map wV).toArray)] (.v 56 (show (.int .i64 (IntKind.i64.wrap (1 - 0)) : Value) = .int .i64 (1) from κ) <| .b 1 2 <| .p (show ((sb : List Int).map wV).length = 4 from ((List.length_map _).trans σ)) <| .p (show ∀ (j : Nat) (v : Value), ((sb : List Int).map wV)[j]? = some v → eN.cell? ((⟨eJ, 4, none⟩ : Addr).add j) = some v from (Bx.wholeR σ fR)) <| .o (.cs ((sb : List Int).map wV)) <| .n) (fun sC kO => ?_)) | (refine At.rk kN 4 [(58, .agg ((sa : List Int).map wV).toArray)] (.v 56 (show (.int .i64 (IntKind.i64.wrap (1 - 1)) : Value) = .int .i64 (0) from κ) <| .b 0 2 <| .p (show ((sa : List Int).map wV).length = 4 from ((List.length_map _).trans σ)) <| .p (show ∀ (j : Nat) (v : Value), ((sa : List Int).map wV)[j]? = some v → eN.cell? ((⟨eJ, 0, none⟩ : Addr).add j) = some v from (Bx.wholeL fR)) <| .o (.cs ((sa : List Int).map wV)) <| .n) (fun sC kO => ?_))
  clear kN
  refine At.bx kO 16 ((List.replicate 4 (0 : Int) : List Int).map wV) 44 (fun sD cB hV sE kP => ?_)
  first | (replace pA := pA; clear kO; have := cB.size; replace bL := bL.gn cB; replace bM := bM.gn cB; replace bH := bH.gn cB; replace bN := bN.gn cB; replace bD := bD.gn cB; replace bO := bO.gn cB; replace bF := bF.gn cB; replace bG := bG.gn cB; replace bI := bI.gn cB; replace bE := bE.grN cB; replace bC := bC.grN cB; replace bJ := bJ.gn cB; replace bP := bP.gn cB; replace eK := eK.gn cB; replace eV := eV.grN cB) | (clear kO; have := cB.size; replace bL := bL.gn cB; replace bM := bM.gn cB; replace bH := bH.gn cB; replace bN := bN.gn cB; replace bD := bD.gn cB; replace bO := bO.gn cB; replace bF := bF.gn cB; replace bG := bG.gn cB; replace bI := bI.gn cB; replace bC := bC.grN cB; replace bE := bE.grN cB; replace bJ := bJ.gn cB; replace bP := bP.gn cB; replace eK := eK.gn cB; replace eV := eV.grN cB)
  replace gB := gB.gn cB; replace fR := fR.gn cB; have := hV.lt; clear cB
  first | (replace pA := pA; refine At.act kP (storeBlk (t := 44) (b := eN.heap.size) (n := 4) (cs' := ((sb : List Int).map wV)) κ κ ((List.length_map _).trans σ) oneW_ ((show ((sb : List Int).map wV).length = 4 from ((List.length_map _).trans σ)).trans (show ((List.replicate 4 (0 : Int) : List Int).map wV).length = 4 from len_P).symm) hV) ?_) | (refine At.act kP (storeBlk (t := 44) (b := eN.heap.size) (n := 4) (cs' := ((sa : List Int).map wV)) κ κ ((List.length_map _).trans σ) oneW_ ((show ((sa : List Int).map wV).length = 4 from ((List.length_map _).trans σ)).trans (show ((List.replicate 4 (0 : Int) : List Int).map wV).length = 4 from len_P).symm) hV) ?_)
  rintro d_ v_ kQ ⟨rfl, cC, dX⟩
  refine ⟨_, rfl, fun sF kR => ?_⟩
  first | (replace pA := pA; clear kP; have := cC.size; replace bL := bL.gr cC (fun k h => .inr (by injection h; omega)); replace bM := bM.gb cC ω; replace bH := bH.gb cC ω; replace bN := bN.gb cC ω; replace bD := bD.gb cC ω; replace bO := bO.gb cC ω; replace bF := bF.gb cC ω; replace bG := bG.gb cC ω; replace bI := bI.gb cC ω; replace bE := bE.gr cC (fun k hk => hk.1); replace bC := bC.gr cC (fun k hk => hk.1)) | (clear kP; have := cC.size; replace bL := bL.gr cC (fun k h => .inr (by injection h; omega)); replace bM := bM.gb cC ω; replace bH := bH.gb cC ω; replace bN := bN.gb cC ω; replace bD := bD.gb cC ω; replace bO := bO.gb cC ω; replace bF := bF.gb cC ω; replace bG := bG.gb cC ω; replace bI := bI.gb cC ω; replace bC := bC.gr cC (fun k hk => hk.1); replace bE := bE.gr cC (fun k hk => hk.1))
  replace bJ := bJ.gb cC ω; replace bP := bP.gb cC ω; replace eK := eK.gb cC ω; replace eV := eV.gr cC (fun k hk => hk.1); replace gB := gB.gb cC ω; replace fR := fR.gb cC ω; clear hV cC
  refine At.dn ?_
  clear gB; clear fR
  refine wp_seq ?_
  refine sqs ?_
  first | (replace pA := pA; refine At.rk kR 3 [(61, .bool (decide ((sb : List Int) = ([0, 0, 0, 0]))))] (.p (show ((sb : List Int).map wV).length = 4 from ((List.length_map _).trans σ)) <| .p dX.whole <| .o (.cs ((sb : List Int).map wV)) <| .p (show ((sb : List Int).map wV).toArray = ([wV (gI sb 0), wV (gI sb 1), wV (gI sb 2), wV (gI sb 3)] : List Value).toArray from (map4 σ)) <| .p (show (([0, 0, 0, 0] : List Int).map wV).toArray = ([wV (gI ([0, 0, 0, 0]) 0), wV (gI ([0, 0, 0, 0]) 1), wV (gI ([0, 0, 0, 0]) 2), wV (gI ([0, 0, 0, 0]) 3)] : List Value).toArray from (map4 (okLen okW_00))) <| .p (show (.bool ((((gI sb 0 : Int) == gI ([0, 0, 0, 0]) 0) && (((gI sb 1 : Int) == gI ([0, 0, 0, 0]) 1) && (((gI sb 2 : Int) == gI ([0, 0, 0, 0]) 2) && (((gI sb 3 : Int) == gI ([0, 0, 0, 0]) 3) && true))))) : Value) = .bool (decide ((sb : List Int) = ([0, 0, 0, 0]))) from (congrArg (fun b => Value.bool b) (w4_eq σ (okLen okW_00)))) <| .o (.cs [wV (gI sb 0), wV (gI sb 1), wV (gI sb 2), wV (gI sb 3)]) <| .o (.cs [wV (gI ([0, 0, 0, 0]) 0), wV (gI ([0, 0, 0, 0]) 1), wV (gI ([0, 0, 0, 0]) 2), wV (gI ([0, 0, 0, 0]) 3)]) <| .o (.av 61 (.bool (decide ((sb : List Int) = ([0, 0, 0, 0]))))) <| .n) (fun sG gK => ?_)) | (refine At.rk kR 3 [(61, .bool (decide ((sa : List Int) = ([0, 0, 0, 0]))))] (.p (show ((sa : List Int).map wV).length = 4 from ((List.length_map _).trans σ)) <| .p dX.whole <| .o (.cs ((sa : List Int).map wV)) <| .p (show ((sa : List Int).map wV).toArray = ([wV (gI sa 0), wV (gI sa 1), wV (gI sa 2), wV (gI sa 3)] : List Value).toArray from (map4 σ)) <| .p (show (([0, 0, 0, 0] : List Int).map wV).toArray = ([wV (gI ([0, 0, 0, 0]) 0), wV (gI ([0, 0, 0, 0]) 1), wV (gI ([0, 0, 0, 0]) 2), wV (gI ([0, 0, 0, 0]) 3)] : List Value).toArray from (map4 (okLen okW_00))) <| .p (show (.bool ((((gI sa 0 : Int) == gI ([0, 0, 0, 0]) 0) && (((gI sa 1 : Int) == gI ([0, 0, 0, 0]) 1) && (((gI sa 2 : Int) == gI ([0, 0, 0, 0]) 2) && (((gI sa 3 : Int) == gI ([0, 0, 0, 0]) 3) && true))))) : Value) = .bool (decide ((sa : List Int) = ([0, 0, 0, 0]))) from (congrArg (fun b => Value.bool b) (w4_eq σ (okLen okW_00)))) <| .o (.cs [wV (gI sa 0), wV (gI sa 1), wV (gI sa 2), wV (gI sa 3)]) <| .o (.cs [wV (gI ([0, 0, 0, 0]) 0), wV (gI ([0, 0, 0, 0]) 1), wV (gI ([0, 0, 0, 0]) 2), wV (gI ([0, 0, 0, 0]) 3)]) <| .o (.av 61 (.bool (decide ((sa : List Int) = ([0, 0, 0, 0]))))) <| .n) (fun sG gK => ?_))
  clear kR
  refine At.dn ?_
  first | (replace pA := pA; refine cond_S gK (t := decide ((sb : List Int) = ([0, 0, 0, 0]))) rfl (fun hW => ?_) (fun hW => ?_)) | (refine cond_S gK (t := decide ((sa : List Int) = ([0, 0, 0, 0]))) rfl (fun hW => ?_) (fun hW => ?_))
  ·have sH := of_decide_eq_true hW
   refine wp_seq ?_
   first | (replace pA := pA; have he0_ : sb = [0, 0, 0, 0] := by assumption) | (have he0_ : sa = [0, 0, 0, 0] := by assumption)
   refine At.start ?_
   first | (replace pA := pA; refine At.rk gK 3 [(64, .slice dW ms.length fP), (63, .int .i64 (0)), (62, .func (.func 37) #[] #[pt x.bm 0])] (.l (bF.cell (i := 0) rfl) <| .n) (fun sI kS => ?_)) | (refine At.rk gK 3 [(64, .slice dW ms.length fP), (63, .int .i64 (1)), (62, .func (.func 37) #[] #[pt x.bm 0])] (.l (bF.cell (i := 0) rfl) <| .n) (fun sI kS => ?_))
   clear gK
   first | (replace pA := pA; refine At.cl kS (some 65) (args := #[.int .i64 (0), .slice dW ms.length fP, pt x.bm 0]) (keep0_any (mm := na) (la := ms) (lo := eS.heap.size) (bm := x.bm) ((OwnR.rdR eV (by show _ * 8 ≤ _; omega)).rdI) bG (bE.self.imp (fun g _ hs => ⟨hs.1.2.2.2.2.2.2.2.2.2.2.2.1, hs.2⟩)) (fun k hk => by have := hM0 k hk; omega) ω ω) ?_) | (refine At.cl kS (some 65) (args := #[.int .i64 (1), .slice dW ms.length fP, pt x.bm 0]) (keep1_any (mm := nb) (la := ms) (lo := eS.heap.size) (bm := x.bm) ((OwnR.rdR eV (by show _ * 8 ≤ _; omega)).rdI) bG (bE.self.imp (fun g _ hs => ⟨hs.1.2.2.2.2.2.2.2.2.2.2.2.1, hs.2⟩)) (fun k hk => by have := hM1 k hk; omega) ω ω) ?_)
   rintro e_ hX ⟨rfl, he617, n2, hmo616, hkeA⟩
   have hkl_n2 := hkeA.1
   refine ⟨_, rfl, _, rfl, fun sJ kT => ?_⟩
   first | (replace pA := pA; clear kS; have := he617.size; replace bL := bL.tch he617 (fun k hk => .inl (.inl hk)); replace bM := bM.tch he617 (fun k hk => .inr (K.hT k (.inl hk))); replace bH := bH.tch he617 (fun k hk => .inr (K.hT k (.inl hk))); replace bN := bN.tch he617 (bE.neb (fun g hs => hs.2.2.2.2.2.2.2.1)); replace bD := bD.tch he617 (bE.neb (fun g hs => hs.2.2.2.2.2.2.2.2.1))) | (clear kS; have := he617.size; replace bL := bL.tch he617 (fun k hk => .inl (.inr (.inl hk))); replace bM := bM.tch he617 (fun k hk => .inr (K.hT k (.inr (.inl hk)))); replace bH := bH.tch he617 (fun k hk => .inr (K.hT k (.inr (.inl hk)))); replace bN := bN.tch he617 (bE.neb (fun g hs => hs.2.2.2.2.2.2.2.1)); replace bD := bD.tch he617 (bE.neb (fun g hs => hs.2.2.2.2.2.2.2.2.1)))
   first | (replace pA := pA; replace bO := bO.tch he617 (bE.neb (fun g hs => hs.2.2.2.2.2.2.2.2.2.1)); replace bF := bF.tch he617 (bE.neb (fun g hs => hs.2.2.2.2.2.2.2.2.2.2.1)); replace bG := bG.tch he617 (bE.neb (fun g hs => hs.2.2.2.2.2.2.2.2.2.2.2.1)); replace bI := bI.tch he617 (bE.neb (fun g hs => hs.2.2.2.2.2.2.2.2.2.2.2.2.1)); have eW := OwnR.reS bE hmo616; clear bE hmo616) | (replace bO := bO.tch he617 (bE.neb (fun g hs => hs.2.2.2.2.2.2.2.2.2.1)); replace bF := bF.tch he617 (bE.neb (fun g hs => hs.2.2.2.2.2.2.2.2.2.2.1)); replace bG := bG.tch he617 (bE.neb (fun g hs => hs.2.2.2.2.2.2.2.2.2.2.2.1)); replace bI := bI.tch he617 (bE.neb (fun g hs => hs.2.2.2.2.2.2.2.2.2.2.2.2.1)); replace bC := bC.tch he617 (fun k hk _ e2 => hk.2.2.2.2.2.2.1 e2))
   first | (replace pA := pA; replace bC := bC.tch he617 (fun k hk _ e2 => hk.2.2.2.2.2.2.1 e2); replace bJ := bJ.tch he617 (eW.neb (fun g hs => hs.2.2.2.2.2.1)); replace bP := bP.tch he617 (eW.neb (fun g hs => hs.2.2.2.2.1)); replace eK := eK.tch he617 (eW.neb (fun g hs => hs.2.2.2.1)); replace eV := eV.tch he617 (fun k hk _ e2 => hk.2.2.1 e2); replace dX := dX.tch he617 (eW.neb (fun g hs => hs.1)); clear he617) | (have eW := OwnR.reS bE hmo616; clear bE hmo616; replace bJ := bJ.tch he617 (eW.neb (fun g hs => hs.2.2.2.2.2.1)); replace bP := bP.tch he617 (eW.neb (fun g hs => hs.2.2.2.2.1)); replace eK := eK.tch he617 (eW.neb (fun g hs => hs.2.2.2.1)); replace eV := eV.tch he617 (fun k hk _ e2 => hk.2.2.2.1 e2); replace dX := dX.tch he617 (eW.neb (fun g hs => hs.1)); clear he617)
   refine At.dn ?_
   clear eV; clear dX
   refine wp_seq ?_
   refine wp_seq ?_
   have hke_ := hkeA; have hLt := ls_len (fromW tt) 256
   refine At.start ?_
   refine At.rk kT 1 [(66, .agg ((tt : List Int).map wV).toArray)] (.p (show ((tt : List Int).map wV).length = 4 from ((List.length_map _).trans σ)) <| .p eK.whole <| .o (.cs ((tt : List Int).map wV)) <| .n) (fun sK kU => ?_)
   clear kT
   refine At.cl kU (some 67) (list_any (s := tt) σ (bH.wide (Nat.zero_le _) ω)) ?_
   rintro e_ hY ⟨fS, hZ, rfl, he, gC⟩
   have := ls_len (fromW tt) 256
   refine ⟨_, rfl, _, rfl, fun sL kV => ?_⟩
   first | (replace pA := pA; clear kU; have dK := gr_ext he; have kW := eW.lt; have kX := bC.lt; have := dK.size; replace bL := bL.gn dK; replace bM := bM.gn dK; replace bH := bH.gn dK; replace bN := bN.gn dK; replace bD := bD.gn dK; replace bO := bO.gn dK; replace bF := bF.gn dK; replace bG := bG.gn dK; replace bI := bI.gn dK) | (clear kU; have dK := gr_ext he; have kW := bC.lt; have kX := eW.lt; have := dK.size; replace bL := bL.gn dK; replace bM := bM.gn dK; replace bH := bH.gn dK; replace bN := bN.gn dK; replace bD := bD.gn dK; replace bO := bO.gn dK; replace bF := bF.gn dK; replace bG := bG.gn dK; replace bI := bI.gn dK)
   first | (replace pA := pA; replace eW : OwnR hY (SxP (orN x.T w.heap.size) [obk (fS), some (eN.heap.size), some (eD.heap.size), obk (dW), some (eH.heap.size), some (w1.heap.size), some (w.heap.size), obk (x.M1), some (x.bd), some (x.bg), some (x.bp), some (x.bk), some (x.bm), some (x.bn), some (eJ)]) x.M0 x.c0 3 (n2 : List Int) := eW.grA dK (fun _ _ h => by cases h) (fun k hk hs => ⟨(fun e => by have := gC.ge _ e; omega), hs.1, hs.2.1, hs.2.2.1, hs.2.2.2.1, hs.2.2.2.2.1, hs.2.2.2.2.2.1, hs.2.2.2.2.2.2.1, hs.2.2.2.2.2.2.2.1, hs.2.2.2.2.2.2.2.2.1, hs.2.2.2.2.2.2.2.2.2.1, hs.2.2.2.2.2.2.2.2.2.2.1, hs.2.2.2.2.2.2.2.2.2.2.2.1, hs.2.2.2.2.2.2.2.2.2.2.2.2.1, hs.2.2.2.2.2.2.2.2.2.2.2.2.2.1, hs.2.2.2.2.2.2.2.2.2.2.2.2.2.2⟩)) | (replace bC : OwnR hY (SxP (orN x.T w.heap.size) [obk (fS), some (eN.heap.size), some (eD.heap.size), obk (dW), some (eH.heap.size), some (w1.heap.size), some (w.heap.size), obk (x.M1), some (x.bd), some (x.bg), some (x.bp), some (x.bk), some (x.bm), some (x.bn), some (eJ)]) x.M0 x.c0 3 (na : List Int) := bC.grA dK (fun _ _ h => by cases h) (fun k hk hs => ⟨(fun e => by have := gC.ge _ e; omega), hs.1, hs.2.1, hs.2.2.1, hs.2.2.2.1, hs.2.2.2.2.1, hs.2.2.2.2.2.1, hs.2.2.2.2.2.2.1, hs.2.2.2.2.2.2.2.1, hs.2.2.2.2.2.2.2.2.1, hs.2.2.2.2.2.2.2.2.2.1, hs.2.2.2.2.2.2.2.2.2.2.1, hs.2.2.2.2.2.2.2.2.2.2.2.1, hs.2.2.2.2.2.2.2.2.2.2.2.2.1, hs.2.2.2.2.2.2.2.2.2.2.2.2.2.1, hs.2.2.2.2.2.2.2.2.2.2.2.2.2.2⟩))
   first | (replace pA := pA; replace bC : OwnR hY (SxP (orN x.T w.heap.size) [obk (fS), some (eN.heap.size), some (eD.heap.size), obk (dW), some (eH.heap.size), some (w1.heap.size), some (w.heap.size), obk (x.M0), some (x.bd), some (x.bg), some (x.bp), some (x.bk), some (x.bm), some (x.bn), some (eJ)]) x.M1 x.c1 3 (nb : List Int) := bC.grA dK (fun _ _ h => by cases h) (fun k hk hs => ⟨(fun e => by have := gC.ge _ e; omega), hs.1, hs.2.1, hs.2.2.1, hs.2.2.2.1, hs.2.2.2.2.1, hs.2.2.2.2.2.1, hs.2.2.2.2.2.2.1, hs.2.2.2.2.2.2.2.1, hs.2.2.2.2.2.2.2.2.1, hs.2.2.2.2.2.2.2.2.2.1, hs.2.2.2.2.2.2.2.2.2.2.1, hs.2.2.2.2.2.2.2.2.2.2.2.1, hs.2.2.2.2.2.2.2.2.2.2.2.2.1, hs.2.2.2.2.2.2.2.2.2.2.2.2.2.1, hs.2.2.2.2.2.2.2.2.2.2.2.2.2.2⟩)) | (replace eW : OwnR hY (SxP (orN x.T w.heap.size) [obk (fS), some (eN.heap.size), some (eD.heap.size), obk (dW), some (eH.heap.size), some (w1.heap.size), some (w.heap.size), obk (x.M0), some (x.bd), some (x.bg), some (x.bp), some (x.bk), some (x.bm), some (x.bn), some (eJ)]) x.M1 x.c1 3 (n2 : List Int) := eW.grA dK (fun _ _ h => by cases h) (fun k hk hs => ⟨(fun e => by have := gC.ge _ e; omega), hs.1, hs.2.1, hs.2.2.1, hs.2.2.2.1, hs.2.2.2.2.1, hs.2.2.2.2.2.1, hs.2.2.2.2.2.2.1, hs.2.2.2.2.2.2.2.1, hs.2.2.2.2.2.2.2.2.1, hs.2.2.2.2.2.2.2.2.2.1, hs.2.2.2.2.2.2.2.2.2.2.1, hs.2.2.2.2.2.2.2.2.2.2.2.1, hs.2.2.2.2.2.2.2.2.2.2.2.2.1, hs.2.2.2.2.2.2.2.2.2.2.2.2.2.1, hs.2.2.2.2.2.2.2.2.2.2.2.2.2.2⟩))
   replace bJ := bJ.gn dK; replace bP := bP.gn dK; replace eK := eK.gn dK
   replace gC : OwnR hY (Sx (hX.heap.size) [obk (x.M0), obk (x.M1)]) fS hZ 3 ((lsD (fromW tt) 256) : List Int) := gC.imp (fun g _ hs => ⟨(fun e => by have := kW _ e; have := Sx_base hs; omega), (fun e => by have := kX _ e; have := Sx_base hs; omega), hs⟩)
   clear kW kX; clear dK he
   refine At.rk kV 2 [(69, .int .i64 (0)), (68, .int .i64 ((((lsD (fromW tt) 256).length : Nat) : Int)))] .n (fun sM kY => ?_)
   clear kV
   refine At.dn ?_
   clear eK
   refine wp_block ?_
   first | (replace pA := pA; refine loop_g (fun (m_ : Nat) a_ w_ => ∃ (k : Int) (n3 : List Int), m_ = (((lsD (fromW tt) 256).length : Int) - k).toNat ∧ (Frm 154 a_ [(69, .int .i64 (k)), (68, .int .i64 ((((lsD (fromW tt) 256).length : Nat) : Int))), (67, .slice fS ((lsD (fromW tt) 256).length) hZ), (12, .int .i64 (0)), (10, pt w1.heap.size 0), (8, pt w.heap.size 0), (3, pt x.bg 0), (6, pt x.bm 0)]) ∧ (Tch (x.T) w w_) ∧ (RdG w_ 0 x.hi x.A0 x.A1 x.A2 x.k0 x.k1 x.k2 x.g) ∧ (RdT w_ 0 x.hi) ∧ (Bx w_ (x.bd) [.int .i64 (da)] 3) ∧ (Bx w_ (x.bg) [.slice x.A0 x.g.ow.length x.k0, .slice x.A1 x.g.pr.length x.k1, .slice x.A2 x.g.mv.length x.k2] 25) ∧ (Bx w_ (x.bp) [.func (.func 38) #[] #[pt x.bd 0, pt x.bg 0, pt x.bp 0, pt x.bk 0, pt x.bm 0, pt x.bn 0]] 65) ∧ (Bx w_ (x.bk) [.func (.func 37) #[] #[pt x.bm 0]] 64) ∧ (Bx w_ (x.bm) [.slice x.M0 n3.length x.c0, .slice x.M1 x.g.ow.length x.c1] 29) ∧ (Bx w_ (x.bn) [.int .i64 (((x.g.ow.length : Nat) : Int))] 3) ∧ (OwnR w_ (SxP (orN x.T w.heap.size) [obk (fS), some (w1.heap.size), some (w.heap.size), obk (x.M1), some (x.bd), some (x.bg), some (x.bp), some (x.bk), some (x.bm), some (x.bn)]) x.M0 x.c0 3 (n3 : List Int)) ∧ (OwnR w_ (SxP (orN x.T w.heap.size) [obk (fS), some (w1.heap.size), some (w.heap.size), obk (x.M0), some (x.bd), some (x.bg), some (x.bp), some (x.bk), some (x.bm), some (x.bn)]) x.M1 x.c1 3 (nb : List Int)) ∧ (Bx w_ (w.heap.size) ((s : List Int).map wV) 44) ∧ (Bx w_ (w1.heap.size) ((([0, 0, 0, 0]) ++ ([0, 0, 0, 0]) : List Int).map wV) 67) ∧ (OwnR w_ (Sx (hX.heap.size) [obk (x.M0), obk (x.M1)]) fS hZ 3 ((lsD (fromW tt) 256) : List Int)) ∧ (0 ≤ k) ∧ (k ≤ ((lsD (fromW tt) 256).length : Int)) ∧ (MostK x.g s tt 0 n2 n3 k) ∧ (n3.length = n2.length) ∧ (hX.heap.size ≤ w_.heap.size)) _ ⟨0, (n2 : List Int), rfl, kY.sb, bL, bM, bH, bN, bD, bO, bF, (bG.as (by first | rfl | (simp only [List.cons.injEq, Value.slice.injEq, true_and, and_true]; omega))), bI, (eW.imp (fun g _ hs => ⟨hs.1, hs.2.2.2.2.2.1, hs.2.2.2.2.2.2.1, hs.2.2.2.2.2.2.2.1, hs.2.2.2.2.2.2.2.2.1, hs.2.2.2.2.2.2.2.2.2.1, hs.2.2.2.2.2.2.2.2.2.2.1, hs.2.2.2.2.2.2.2.2.2.2.2.1, hs.2.2.2.2.2.2.2.2.2.2.2.2.1, hs.2.2.2.2.2.2.2.2.2.2.2.2.2.1, hs.2.2.2.2.2.2.2.2.2.2.2.2.2.2.2⟩)), (bC.imp (fun g _ hs => ⟨hs.1, hs.2.2.2.2.2.1, hs.2.2.2.2.2.2.1, hs.2.2.2.2.2.2.2.1, hs.2.2.2.2.2.2.2.2.1, hs.2.2.2.2.2.2.2.2.2.1, hs.2.2.2.2.2.2.2.2.2.2.1, hs.2.2.2.2.2.2.2.2.2.2.2.1, hs.2.2.2.2.2.2.2.2.2.2.2.2.1, hs.2.2.2.2.2.2.2.2.2.2.2.2.2.1, hs.2.2.2.2.2.2.2.2.2.2.2.2.2.2.2⟩)), bJ, bP, gC, ω, ω, mostK_0, rfl, ω⟩ ?_) | (refine loop_g (fun (m_ : Nat) a_ w_ => ∃ (k : Int) (n3 : List Int), m_ = (((lsD (fromW tt) 256).length : Int) - k).toNat ∧ (Frm 154 a_ [(69, .int .i64 (k)), (68, .int .i64 ((((lsD (fromW tt) 256).length : Nat) : Int))), (67, .slice fS ((lsD (fromW tt) 256).length) hZ), (12, .int .i64 (1)), (10, pt w1.heap.size 0), (8, pt w.heap.size 0), (3, pt x.bg 0), (6, pt x.bm 0)]) ∧ (Tch (x.T) w w_) ∧ (RdG w_ 0 x.hi x.A0 x.A1 x.A2 x.k0 x.k1 x.k2 x.g) ∧ (RdT w_ 0 x.hi) ∧ (Bx w_ (x.bd) [.int .i64 (da)] 3) ∧ (Bx w_ (x.bg) [.slice x.A0 x.g.ow.length x.k0, .slice x.A1 x.g.pr.length x.k1, .slice x.A2 x.g.mv.length x.k2] 25) ∧ (Bx w_ (x.bp) [.func (.func 38) #[] #[pt x.bd 0, pt x.bg 0, pt x.bp 0, pt x.bk 0, pt x.bm 0, pt x.bn 0]] 65) ∧ (Bx w_ (x.bk) [.func (.func 37) #[] #[pt x.bm 0]] 64) ∧ (Bx w_ (x.bm) [.slice x.M0 x.g.ow.length x.c0, .slice x.M1 n3.length x.c1] 29) ∧ (Bx w_ (x.bn) [.int .i64 (((x.g.ow.length : Nat) : Int))] 3) ∧ (OwnR w_ (SxP (orN x.T w.heap.size) [obk (fS), some (w1.heap.size), some (w.heap.size), obk (x.M1), some (x.bd), some (x.bg), some (x.bp), some (x.bk), some (x.bm), some (x.bn)]) x.M0 x.c0 3 (na : List Int)) ∧ (OwnR w_ (SxP (orN x.T w.heap.size) [obk (fS), some (w1.heap.size), some (w.heap.size), obk (x.M0), some (x.bd), some (x.bg), some (x.bp), some (x.bk), some (x.bm), some (x.bn)]) x.M1 x.c1 3 (n3 : List Int)) ∧ (Bx w_ (w.heap.size) ((s : List Int).map wV) 44) ∧ (Bx w_ (w1.heap.size) ((([0, 0, 0, 0]) ++ ([0, 0, 0, 0]) : List Int).map wV) 67) ∧ (OwnR w_ (Sx (hX.heap.size) [obk (x.M0), obk (x.M1)]) fS hZ 3 ((lsD (fromW tt) 256) : List Int)) ∧ (0 ≤ k) ∧ (k ≤ ((lsD (fromW tt) 256).length : Int)) ∧ (MostK x.g s tt 1 n2 n3 k) ∧ (n3.length = n2.length) ∧ (hX.heap.size ≤ w_.heap.size)) _ ⟨0, (n2 : List Int), rfl, kY.sb, bL, bM, bH, bN, bD, bO, bF, (bG.as (by first | rfl | (simp only [List.cons.injEq, Value.slice.injEq, true_and, and_true]; omega))), bI, (bC.imp (fun g _ hs => ⟨hs.1, hs.2.2.2.2.2.1, hs.2.2.2.2.2.2.1, hs.2.2.2.2.2.2.2.1, hs.2.2.2.2.2.2.2.2.1, hs.2.2.2.2.2.2.2.2.2.1, hs.2.2.2.2.2.2.2.2.2.2.1, hs.2.2.2.2.2.2.2.2.2.2.2.1, hs.2.2.2.2.2.2.2.2.2.2.2.2.1, hs.2.2.2.2.2.2.2.2.2.2.2.2.2.1, hs.2.2.2.2.2.2.2.2.2.2.2.2.2.2.2⟩)), (eW.imp (fun g _ hs => ⟨hs.1, hs.2.2.2.2.2.1, hs.2.2.2.2.2.2.1, hs.2.2.2.2.2.2.2.1, hs.2.2.2.2.2.2.2.2.1, hs.2.2.2.2.2.2.2.2.2.1, hs.2.2.2.2.2.2.2.2.2.2.1, hs.2.2.2.2.2.2.2.2.2.2.2.1, hs.2.2.2.2.2.2.2.2.2.2.2.2.1, hs.2.2.2.2.2.2.2.2.2.2.2.2.2.1, hs.2.2.2.2.2.2.2.2.2.2.2.2.2.2.2⟩)), bJ, bP, gC, ω, ω, mostK_0, rfl, ω⟩ ?_)
   first | (replace pA := pA; clear kY; clear bM; clear bH; clear bN; clear bD; clear bO; clear bF; clear bG; clear bI; clear eW; clear bC; clear bJ; clear bP; clear gC; clear bL) | (clear kY; clear bM; clear bH; clear bN; clear bD; clear bO; clear bF; clear bG; clear bI; clear bC; clear eW; clear bJ; clear bP; clear gC; clear bL)
   first | (replace pA := pA; intro m_ sN gV ⟨k, n3, hm671, kZ, bS, bT, cD, bU, bQ, cE, cF, bK, cG, aZ, cH, bV, cI, eE, i686, i687, hmk, i688, i689⟩) | (intro m_ sN gV ⟨k, n3, hm671, kZ, bS, bT, cD, bU, bQ, cE, cF, bK, cG, cH, aZ, bV, cI, eE, i686, i687, hmk, i688, i689⟩)
   have := bS.size; have := bU.lt; have := bQ.lt; have := cE.lt; have := cF.lt; have := bK.lt; have := cG.lt; have := bV.lt; have := cI.lt
   refine sqs ?_
   refine At.rk kZ 1 [(70, .bool (decide ((k : Int) < (((lsD (fromW tt) 256).length : Nat) : Int))))] .n (fun sO gM => ?_)
   clear kZ
   refine At.dn ?_
   refine wp_seq ?_
   refine cond_S gM (t := decide ((k : Int) < (((lsD (fromW tt) 256).length : Nat) : Int))) rfl (fun iA => ?_) (fun iA => ?_)
   ·have sP := of_decide_eq_true iA
    refine wp_skip ?_
    refine t_n ?_
    refine wp_seq ?_
    refine wp_block ?_
    refine sqs ?_
    obtain ⟨sQ, oR, sR, oS, sS⟩ := eE.get (k) ω ω (sz := 1) rfl
    refine At.rk gM 3 [(18, .int .i64 (gI (lsD (fromW tt) 256) k))] (.a k ((lsD (fromW tt) 256).length) oR <| .l oS <| .n) (fun sT lA => ?_)
    clear gM
    refine At.dn ?_
    refine wp_seq ?_
    have hir := ls_rg (l := fromW tt) (k := k) ω ω; have hi1 := hir.1; have hi2 := hL.lt _ ((hTT.at_ _).1 hir).1
    refine At.start ?_
    obtain ⟨sU, oT, _, sV, oU⟩ := RdI.get bT.ow (gI (lsD (fromW tt) 256) k) ω ω
    first | (replace pA := pA; refine At.rk lA 7 [(79, .bool ((gI x.g.ow (gI (lsD (fromW tt) 256) k) : Int) == 0))] (.l (bQ.cell (i := 0) rfl) <| .a (gI (lsD (fromW tt) 256) k) x.g.ow.length oT <| .l oU <| .n) (fun sW gN => ?_)) | (refine At.rk lA 7 [(79, .bool ((gI x.g.ow (gI (lsD (fromW tt) 256) k) : Int) == 1))] (.l (bQ.cell (i := 0) rfl) <| .a (gI (lsD (fromW tt) 256) k) x.g.ow.length oT <| .l oU <| .n) (fun sW gN => ?_))
    clear lA
    refine At.dn ?_
    first | (replace pA := pA; refine cond_S gN (t := (gI x.g.ow (gI (lsD (fromW tt) 256) k) : Int) == 0) rfl (fun iB => ?_) (fun iB => ?_)) | (refine cond_S gN (t := (gI x.g.ow (gI (lsD (fromW tt) 256) k) : Int) == 1) rfl (fun iB => ?_) (fun iB => ?_))
    ·have sX := eq_of_beq iB
     obtain ⟨lB, gW, gX, oV, _, sY, oW, sZ, eI⟩ := RdII.get bT.mv (gI (lsD (fromW tt) 256) k) ω ω
     have tA := eI.len
     first | (replace pA := pA; obtain ⟨iC, gD⟩ : ∃ c : List (Addr × Value), c = ([(⟨x.bm, 0, none⟩, (.slice x.M0 n3.length x.c0)), (⟨x.bg, 2, none⟩, (.slice x.A2 x.g.mv.length x.k2)), ((lB.add ((gI (lsD (fromW tt) 256) k : Int).toNat * 1)), (.slice gW ((gL x.g.mv (gI (lsD (fromW tt) 256) k)).length) gX))] : List (Addr × Value)) ++ blkC (w.heap.size) ((s : List Int).map wV) := ⟨_, rfl⟩) | (obtain ⟨iC, gD⟩ : ∃ c : List (Addr × Value), c = ([(⟨x.bm, 1, none⟩, (.slice x.M1 n3.length x.c1)), (⟨x.bg, 2, none⟩, (.slice x.A2 x.g.mv.length x.k2)), ((lB.add ((gI (lsD (fromW tt) 256) k : Int).toNat * 1)), (.slice gW ((gL x.g.mv (gI (lsD (fromW tt) 256) k)).length) gX))] : List (Addr × Value)) ++ blkC (w.heap.size) ((s : List Int).map wV) := ⟨_, rfl⟩)
     first | (replace pA := pA; have lC : HoldsC iC gV := by rw [gD]; exact (holdsA (show HoldsC [(⟨x.bm, 0, none⟩, (.slice x.M0 n3.length x.c0)), (⟨x.bg, 2, none⟩, (.slice x.A2 x.g.mv.length x.k2)), ((lB.add ((gI (lsD (fromW tt) 256) k : Int).toNat * 1)), (.slice gW ((gL x.g.mv (gI (lsD (fromW tt) 256) k)).length) gX))] gV from ⟨(bK.cell (i := 0) rfl), (bQ.cell (i := 2) rfl), oW, trivial⟩) (holds_blk bV))) | (have lC : HoldsC iC gV := by rw [gD]; exact (holdsA (show HoldsC [(⟨x.bm, 1, none⟩, (.slice x.M1 n3.length x.c1)), (⟨x.bg, 2, none⟩, (.slice x.A2 x.g.mv.length x.k2)), ((lB.add ((gI (lsD (fromW tt) 256) k : Int).toNat * 1)), (.slice gW ((gL x.g.mv (gI (lsD (fromW tt) 256) k)).length) gX))] gV from ⟨(bK.cell (i := 1) rfl), (bQ.cell (i := 2) rfl), oW, trivial⟩) (holds_blk bV)))
     refine AtH.start iC 15 _ κ rfl rfl (fun tB lD => ?_)
     first | (replace pA := pA; have cM := gr_drew lD; have lE := lC.gr cM; have := cM.size; replace bS := bS.gn cM; replace bT := bT.gn cM; replace cD := cD.gn cM; replace bU := bU.gn cM; replace bQ := bQ.gn cM; replace cE := cE.gn cM; replace cF := cF.gn cM; replace bK := bK.gn cM; replace cG := cG.gn cM; replace aZ := aZ.gn cM; replace cH := cH.gn cM; replace bV := bV.gn cM; replace cI := cI.gn cM; replace eE := eE.gn cM) | (have cM := gr_drew lD; have lE := lC.gr cM; have := cM.size; replace bS := bS.gn cM; replace bT := bT.gn cM; replace cD := cD.gn cM; replace bU := bU.gn cM; replace bQ := bQ.gn cM; replace cE := cE.gn cM; replace cF := cF.gn cM; replace bK := bK.gn cM; replace cG := cG.gn cM; replace cH := cH.gn cM; replace aZ := aZ.gn cM; replace bV := bV.gn cM; replace cI := cI.gn cM; replace eE := eE.gn cM)
     replace eI := eI.gn cM; clear cM lD lC
     first | (replace pA := pA; refine AtH.rk lE gN [0, 1, 2, 3, 4, 5, 6, 7, 8, 10] 5 [(90, .agg ((s : List Int).map wV).toArray), (88, .slice gW ((gL x.g.mv (gI (lsD (fromW tt) 256) k)).length) gX), (83, .int .i64 (gI (lsD (fromW tt) 256) k)), (82, .slice x.M0 n3.length x.c0)] (.b 0 2 <| .l (CsC_at gD 0 rfl) <| .l (CsC_at gD 1 rfl) <| .a (gI (lsD (fromW tt) 256) k) x.g.mv.length oV <| .l (CsC_at gD 2 rfl) <| .p (show ((s : List Int).map wV).length = 4 from ((List.length_map _).trans σ)) <| .p (show ∀ (j : Nat) (v : Value), ((s : List Int).map wV)[j]? = some v → ∃ j_ : Nat, iC[j_]? = some (((⟨w.heap.size, 0, none⟩ : Addr).add j), v) from (fun j v hv => List.getElem?_of_mem (by rw [gD]; exact List.mem_append.2 (.inr (blkC_in hv))))) <| .o (.cs ((s : List Int).map wV)) <| .n) (fun tC lF => ?_)) | (refine AtH.rk lE gN [0, 1, 2, 3, 4, 5, 6, 7, 8, 10] 5 [(90, .agg ((s : List Int).map wV).toArray), (88, .slice gW ((gL x.g.mv (gI (lsD (fromW tt) 256) k)).length) gX), (83, .int .i64 (gI (lsD (fromW tt) 256) k)), (82, .slice x.M1 n3.length x.c1)] (.b 1 2 <| .l (CsC_at gD 0 rfl) <| .l (CsC_at gD 1 rfl) <| .a (gI (lsD (fromW tt) 256) k) x.g.mv.length oV <| .l (CsC_at gD 2 rfl) <| .p (show ((s : List Int).map wV).length = 4 from ((List.length_map _).trans σ)) <| .p (show ∀ (j : Nat) (v : Value), ((s : List Int).map wV)[j]? = some v → ∃ j_ : Nat, iC[j_]? = some (((⟨w.heap.size, 0, none⟩ : Addr).add j), v) from (fun j v hv => List.getElem?_of_mem (by rw [gD]; exact List.mem_append.2 (.inr (blkC_in hv))))) <| .o (.cs ((s : List Int).map wV)) <| .n) (fun tC lF => ?_))
     clear gN
     refine AtH.all [9] 4 κ (by simp) ⟨?_, trivial⟩
     refine OneH.cl lF (some 89) (args := #[.slice gW ((gL x.g.mv (gI (lsD (fromW tt) 256) k)).length) gX]) (of_any (la := gL x.g.mv (gI (lsD (fromW tt) 256) k)) (eI.wide (Nat.zero_le _) ω)) ?_
     rintro e_ tD ⟨rfl, he⟩
     refine ⟨_, rfl, _, rfl, fun tE lG => ?_⟩
     first | (replace pA := pA; clear lF; have cN := gr_ext he; have lH := lE.gr cN; have := cN.size; replace bS := bS.gn cN; replace bT := bT.gn cN; replace cD := cD.gn cN; replace bU := bU.gn cN; replace bQ := bQ.gn cN; replace cE := cE.gn cN; replace cF := cF.gn cN; replace bK := bK.gn cN; replace cG := cG.gn cN; replace aZ := aZ.gn cN; replace cH := cH.gn cN; replace bV := bV.gn cN; replace cI := cI.gn cN) | (clear lF; have cN := gr_ext he; have lH := lE.gr cN; have := cN.size; replace bS := bS.gn cN; replace bT := bT.gn cN; replace cD := cD.gn cN; replace bU := bU.gn cN; replace bQ := bQ.gn cN; replace cE := cE.gn cN; replace cF := cF.gn cN; replace bK := bK.gn cN; replace cG := cG.gn cN; replace cH := cH.gn cN; replace aZ := aZ.gn cN; replace bV := bV.gn cN; replace cI := cI.gn cN)
     replace eE := eE.gn cN; replace eI := eI.gn cN; clear cN he
     refine ⟨lH, ?_⟩
     refine AtH.all [11] 3 κ (by simp) ⟨?_, trivial⟩
     refine OneH.cl lG (some 91) (andS_any (s := ofW (gL x.g.mv (gI (lsD (fromW tt) 256) k))) (t := s) (ofW_ok _) σ) ?_
     rintro e_ tF ⟨rfl, he⟩
     refine ⟨_, rfl, _, rfl, fun tG lI => ?_⟩
     first | (replace pA := pA; clear lG; have cO := gr_ext he; have lJ := lH.gr cO; have := cO.size; replace bS := bS.gn cO; replace bT := bT.gn cO; replace cD := cD.gn cO; replace bU := bU.gn cO; replace bQ := bQ.gn cO; replace cE := cE.gn cO; replace cF := cF.gn cO; replace bK := bK.gn cO; replace cG := cG.gn cO; replace aZ := aZ.gn cO; replace cH := cH.gn cO; replace bV := bV.gn cO; replace cI := cI.gn cO) | (clear lG; have cO := gr_ext he; have lJ := lH.gr cO; have := cO.size; replace bS := bS.gn cO; replace bT := bT.gn cO; replace cD := cD.gn cO; replace bU := bU.gn cO; replace bQ := bQ.gn cO; replace cE := cE.gn cO; replace cF := cF.gn cO; replace bK := bK.gn cO; replace cG := cG.gn cO; replace cH := cH.gn cO; replace aZ := aZ.gn cO; replace bV := bV.gn cO; replace cI := cI.gn cO)
     replace eE := eE.gn cO; replace eI := eI.gn cO; clear cO he
     refine ⟨lJ, ?_⟩
     refine AtH.all [12] 2 κ (by simp) ⟨?_, trivial⟩
     refine OneH.cl lI (some 92) (least_any (s := andS (ofW (gL x.g.mv (gI (lsD (fromW tt) 256) k))) s) (okW_andS (ofW_ok _) σ) (cD.wide (Nat.zero_le _) ω)) ?_
     rintro e_ tH ⟨rfl, he⟩
     have := leastD_b (fromW (andS (ofW (gL x.g.mv (gI (lsD (fromW tt) 256) k))) s))
     refine ⟨_, rfl, _, rfl, fun tI lK => ?_⟩
     first | (replace pA := pA; clear lI; have cP := gr_ext he; have iD := lJ.gr cP; have := cP.size; replace bS := bS.gn cP; replace bT := bT.gn cP; replace cD := cD.gn cP; replace bU := bU.gn cP; replace bQ := bQ.gn cP; replace cE := cE.gn cP; replace cF := cF.gn cP; replace bK := bK.gn cP; replace cG := cG.gn cP; replace aZ := aZ.gn cP; replace cH := cH.gn cP; replace bV := bV.gn cP; replace cI := cI.gn cP) | (clear lI; have cP := gr_ext he; have iD := lJ.gr cP; have := cP.size; replace bS := bS.gn cP; replace bT := bT.gn cP; replace cD := cD.gn cP; replace bU := bU.gn cP; replace bQ := bQ.gn cP; replace cE := cE.gn cP; replace cF := cF.gn cP; replace bK := bK.gn cP; replace cG := cG.gn cP; replace cH := cH.gn cP; replace aZ := aZ.gn cP; replace bV := bV.gn cP; replace cI := cI.gn cP)
     replace eE := eE.gn cP; replace eI := eI.gn cP; clear cP he
     refine ⟨iD, ?_⟩
     obtain ⟨lL, lM, tJ, tK, tL⟩ := aZ.get (gI (lsD (fromW tt) 256) k) ω ω (sz := 1) rfl
     refine AtH.rk iD lK [13] 1 [(93, .pointer (some (lL.add ((gI (lsD (fromW tt) 256) k : Int).toNat * 1))))] (.a (gI (lsD (fromW tt) 256) k) n3.length lM <| .n) (fun tM lN => ?_)
     clear lK
     refine AtH.all [14] 0 κ (by simp) ⟨?_, trivial⟩
     refine OneH.act lN _ rfl (storeR (α := Int) (t := 3) (i := gI (lsD (fromW tt) 256) k) (ad := lL) (v := .int .i64 (leastD (fromW (andS (ofW (gL x.g.mv (gI (lsD (fromW tt) 256) k))) s)))) (leastD (fromW (andS (ofW (gL x.g.mv (gI (lsD (fromW tt) 256) k))) s))) κ rfl rfl κ lM aZ ω ω) ?_
     rintro d_ v_ oX ⟨rfl, cV, oY⟩
     have lO := iD.grO cV (by rw [gD]; exact (allP_app ⟨(aZ.neb (fun g hs => hs.2.2.2.2.2.2.2.2.1)), (aZ.neb (fun g hs => hs.2.2.2.2.2.1)), (fun e => by have h_ := orN_hi K.hT ω ((aZ.inS _ e).2.2.2.2.2.2.2.2.2.2); simp only [add_block] at h_; omega), trivial⟩ (neO_blk (aZ.neb (fun g hs => hs.2.2.1)))))
     refine ⟨_, rfl, fun tN lP => ⟨lO, ?_⟩⟩
     clear lN
     have tO : ((n3).set (gI (lsD (fromW tt) 256) k : Int).toNat (leastD (fromW (andS (ofW (gL x.g.mv (gI (lsD (fromW tt) 256) k))) s)))).length = (n3).length := List.length_set
     have := cV.size; replace bS := bS.gr cV (fun k hk => (aZ.inS k hk).2.2.2.2.2.2.2.2.2.2); replace bT := bT.gr cV (fun k hk => .inr (orN_hi K.hT ω ((aZ.inS k hk).2.2.2.2.2.2.2.2.2.2))); replace cD := cD.gr cV (fun k hk => .inr (orN_hi K.hT ω ((aZ.inS k hk).2.2.2.2.2.2.2.2.2.2))); replace bU := bU.gr cV (aZ.neb (fun g hs => hs.2.2.2.2.1)); replace bQ := bQ.gr cV (aZ.neb (fun g hs => hs.2.2.2.2.2.1))
     replace cE := cE.gr cV (aZ.neb (fun g hs => hs.2.2.2.2.2.2.1)); replace cF := cF.gr cV (aZ.neb (fun g hs => hs.2.2.2.2.2.2.2.1)); replace bK := bK.gr cV (aZ.neb (fun g hs => hs.2.2.2.2.2.2.2.2.1)); replace cG := cG.gr cV (aZ.neb (fun g hs => hs.2.2.2.2.2.2.2.2.2.1)); replace cH := cH.gr cV (fun k hk => hk.2.2.2.1); replace bV := bV.gr cV (aZ.neb (fun g hs => hs.2.2.1))
     first | (replace pA := pA; replace cI := cI.gr cV (aZ.neb (fun g hs => hs.2.1)); replace eE := eE.gr cV (fun k hk => hk.1); replace eI := eI.gr cV (fun k hk => .inr (orN_hi K.hT ω ((aZ.inS k hk).2.2.2.2.2.2.2.2.2.2))); clear aZ cV) | (replace cI := cI.gr cV (aZ.neb (fun g hs => hs.2.1)); replace eE := eE.gr cV (fun k hk => hk.2.1); replace eI := eI.gr cV (fun k hk => .inr (orN_hi K.hT ω ((aZ.inS k hk).2.2.2.2.2.2.2.2.2.2))); clear aZ cV)
     first | (replace pA := pA; have lQ := lP.as 82 (.slice x.M0 n3.length x.c0) (.slice x.M0 (((n3).set (gI (lsD (fromW tt) 256) k : Int).toNat (leastD (fromW (andS (ofW (gL x.g.mv (gI (lsD (fromW tt) 256) k))) s))) : List Int).length) x.c0) rfl (slice_len (by first | (simp only [List.length_set]; done) | rfl | omega | (simp; done) | (simp; omega)))) | (have lQ := lP.as 82 (.slice x.M1 n3.length x.c1) (.slice x.M1 (((n3).set (gI (lsD (fromW tt) 256) k : Int).toNat (leastD (fromW (andS (ofW (gL x.g.mv (gI (lsD (fromW tt) 256) k))) s))) : List Int).length) x.c1) rfl (slice_len (by first | (simp only [List.length_set]; done) | rfl | omega | (simp; done) | (simp; omega))))
     clear lP
     first | (replace pA := pA; replace bK : Bx oX (x.bm) [.slice x.M0 (((n3).set (gI (lsD (fromW tt) 256) k : Int).toNat (leastD (fromW (andS (ofW (gL x.g.mv (gI (lsD (fromW tt) 256) k))) s)))).length) x.c0, .slice x.M1 x.g.ow.length x.c1] 29 := bK.as (by first | rfl | (simp only [List.length_set]; done))) | (replace bK : Bx oX (x.bm) [.slice x.M0 x.g.ow.length x.c0, .slice x.M1 (((n3).set (gI (lsD (fromW tt) 256) k : Int).toNat (leastD (fromW (andS (ofW (gL x.g.mv (gI (lsD (fromW tt) 256) k))) s)))).length) x.c1] 29 := bK.as (by first | rfl | (simp only [List.length_set]; done)))
     refine AtH.done κ ?_
     clear lO
     refine b_n ?_
     refine t_n ?_
     clear eI
     refine At.start ?_
     refine At.rk lQ 2 [(69, .int .i64 (k + 1))] (.w 94 (k + 1) <| .n) (fun tP oZ => ?_)
     clear lQ
     refine At.dn ?_
     first | (replace pA := pA; exact ⟨_, ω, (k + 1), ((n3).set (gI (lsD (fromW tt) 256) k : Int).toNat (leastD (fromW (andS (ofW (gL x.g.mv (gI (lsD (fromW tt) 256) k))) s))) : List Int), rfl, oZ.sb, bS, bT, cD, bU, bQ, cE, cF, bK, cG, oY, cH, bV, cI, eE, ω, ω, (mostK_yes hmk ω ω ω ω), (by rw [List.length_set]; exact hmk.1), ω⟩) | (exact ⟨_, ω, (k + 1), ((n3).set (gI (lsD (fromW tt) 256) k : Int).toNat (leastD (fromW (andS (ofW (gL x.g.mv (gI (lsD (fromW tt) 256) k))) s))) : List Int), rfl, oZ.sb, bS, bT, cD, bU, bQ, cE, cF, bK, cG, cH, oY, bV, cI, eE, ω, ω, (mostK_yes hmk ω ω ω ω), (by rw [List.length_set]; exact hmk.1), ω⟩)
    have tQ := ne_of_beq_false iB
    refine wp_skip ?_
    refine b_n ?_
    refine t_n ?_
    refine At.start ?_
    refine At.rk gN 2 [(69, .int .i64 (k + 1))] (.w 94 (k + 1) <| .n) (fun tR pA => ?_)
    clear gN
    refine At.dn ?_
    first | (replace pA := pA; exact ⟨_, ω, (k + 1), (n3 : List Int), rfl, pA.sb, bS, bT, cD, bU, bQ, cE, cF, bK, cG, aZ, cH, bV, cI, eE, ω, ω, (mostK_no hmk ω ω ω), hmk.1, ω⟩) | (exact ⟨_, ω, (k + 1), (n3 : List Int), rfl, pA.sb, bS, bT, cD, bU, bQ, cE, cF, bK, cG, cH, aZ, bV, cI, eE, ω, ω, (mostK_no hmk ω ω ω), hmk.1, ω⟩)
   have tS := of_decide_eq_false iA
   refine wp_exit ?_
   refine t_e ?_
   clear hm671
   refine t_e ?_
   refine b_e ?_
   refine t_n ?_
   clear eE
   refine wp_seq ?_
   have hms_ := mostK_end hmk ω
   refine At.start ?_
   refine At.bx gM 19 ((([0, 0, 0, 0]) ++ ([0, 0, 0, 0]) : List Int).map wV) 67 (fun tT dY iE tU lR => ?_)
   first | (replace pA := pA; clear gM; have := dY.size; replace bS := bS.gn dY; replace bT := bT.gn dY; replace cD := cD.gn dY; replace bU := bU.gn dY; replace bQ := bQ.gn dY; replace cE := cE.gn dY; replace cF := cF.gn dY; replace bK := bK.gn dY; replace cG := cG.gn dY; replace aZ := aZ.grN dY; replace cH := cH.grN dY; replace bV := bV.gn dY; replace cI := cI.gn dY; have := iE.lt; clear dY) | (clear gM; have := dY.size; replace bS := bS.gn dY; replace bT := bT.gn dY; replace cD := cD.gn dY; replace bU := bU.gn dY; replace bQ := bQ.gn dY; replace cE := cE.gn dY; replace cF := cF.gn dY; replace bK := bK.gn dY; replace cG := cG.gn dY; replace cH := cH.grN dY; replace aZ := aZ.grN dY; replace bV := bV.gn dY; replace cI := cI.gn dY; have := iE.lt; clear dY)
   refine At.dn ?_
   refine sqs ?_
   first | (replace pA := pA; refine At.rk lR 3 [(97, pt gV.heap.size 0), (96, .agg ((s : List Int).map wV).toArray)] (.p (show ((s : List Int).map wV).length = 4 from ((List.length_map _).trans σ)) <| .p bV.whole <| .o (.cs ((s : List Int).map wV)) <| .b 0 2 <| .n) (fun tV lS => ?_)) | (refine At.rk lR 3 [(97, pt gV.heap.size 4), (96, .agg ((s : List Int).map wV).toArray)] (.p (show ((s : List Int).map wV).length = 4 from ((List.length_map _).trans σ)) <| .p bV.whole <| .o (.cs ((s : List Int).map wV)) <| .b 1 2 <| .n) (fun tV lS => ?_))
   clear lR
   first | (replace pA := pA; refine At.act lS (storeBlkL (f := wV) (a := [0, 0, 0, 0]) (c := [0, 0, 0, 0]) (x := s) (t := 44) (b := gV.heap.size) (n := 4) κ κ ((List.length_map _).trans σ) oneW_ ((show s.length = 4 from σ).trans (show ([0, 0, 0, 0]).length = 4 from (okLen okW_00)).symm) iE) ?_) | (refine At.act lS (storeBlkR (f := wV) (a := [0, 0, 0, 0]) (c := [0, 0, 0, 0]) (x := s) (t := 44) (b := gV.heap.size) (n := 4) κ κ ((List.length_map _).trans σ) oneW_ (okLen okW_00) ((show s.length = 4 from σ).trans (show ([0, 0, 0, 0]).length = 4 from (okLen okW_00)).symm) iE) ?_)
   rintro d_ v_ tW ⟨rfl, dZ, gY⟩
   refine ⟨_, rfl, fun tX lT => ?_⟩
   first | (replace pA := pA; clear lS; have := dZ.size; replace bS := bS.gr dZ (fun k h => .inr (by injection h; omega)); replace bT := bT.gb dZ ω; replace cD := cD.gb dZ ω; replace bU := bU.gb dZ ω; replace bQ := bQ.gb dZ ω; replace cE := cE.gb dZ ω; replace cF := cF.gb dZ ω; replace bK := bK.gb dZ ω; replace cG := cG.gb dZ ω; replace aZ := aZ.gr dZ (fun k hk => hk.1); replace cH := cH.gr dZ (fun k hk => hk.1)) | (clear lS; have := dZ.size; replace bS := bS.gr dZ (fun k h => .inr (by injection h; omega)); replace bT := bT.gb dZ ω; replace cD := cD.gb dZ ω; replace bU := bU.gb dZ ω; replace bQ := bQ.gb dZ ω; replace cE := cE.gb dZ ω; replace cF := cF.gb dZ ω; replace bK := bK.gb dZ ω; replace cG := cG.gb dZ ω; replace cH := cH.gr dZ (fun k hk => hk.1); replace aZ := aZ.gr dZ (fun k hk => hk.1))
   replace bV := bV.gb dZ ω; replace cI := cI.gb dZ ω; clear iE dZ
   refine At.dn ?_
   clear bV
   refine sqs ?_
   first | (replace pA := pA; refine At.rk lT 1 [(98, .agg ((s ++ ([0, 0, 0, 0]) : List Int).map wV).toArray)] (.p (show ((s ++ ([0, 0, 0, 0]) : List Int).map wV).length = 8 from (len8 σ (okLen okW_00))) <| .p gY.whole <| .o (.cs ((s ++ ([0, 0, 0, 0]) : List Int).map wV)) <| .n) (fun tY lU => ?_)) | (refine At.rk lT 1 [(98, .agg ((([0, 0, 0, 0]) ++ s : List Int).map wV).toArray)] (.p (show ((([0, 0, 0, 0]) ++ s : List Int).map wV).length = 8 from (len8 (okLen okW_00) σ)) <| .p gY.whole <| .o (.cs ((([0, 0, 0, 0]) ++ s : List Int).map wV)) <| .n) (fun tY lU => ?_))
   clear lT
   first | (replace pA := pA; refine At.act lU (storeBlk (t := 67) (b := w1.heap.size) (n := 8) (cs' := ((s ++ ([0, 0, 0, 0]) : List Int).map wV)) κ κ (len8 σ (okLen okW_00)) oneW_ ((show ((s ++ ([0, 0, 0, 0]) : List Int).map wV).length = 8 from (len8 σ (okLen okW_00))).trans (show ((([0, 0, 0, 0]) ++ ([0, 0, 0, 0]) : List Int).map wV).length = 8 from (len8 (okLen okW_00) (okLen okW_00))).symm) cI) ?_) | (refine At.act lU (storeBlk (t := 67) (b := w1.heap.size) (n := 8) (cs' := ((([0, 0, 0, 0]) ++ s : List Int).map wV)) κ κ (len8 (okLen okW_00) σ) oneW_ ((show ((([0, 0, 0, 0]) ++ s : List Int).map wV).length = 8 from (len8 (okLen okW_00) σ)).trans (show ((([0, 0, 0, 0]) ++ ([0, 0, 0, 0]) : List Int).map wV).length = 8 from (len8 (okLen okW_00) (okLen okW_00))).symm) cI) ?_)
   rintro d_ v_ tZ ⟨rfl, eF, pB⟩
   refine ⟨_, rfl, fun uA pC => ?_⟩
   first | (replace pA := pA; clear lU; have := eF.size; replace bS := bS.gr eF (fun k h => .inr (by injection h; omega)); replace bT := bT.gb eF ω; replace cD := cD.gb eF ω; replace bU := bU.gb eF ω; replace bQ := bQ.gb eF ω; replace cE := cE.gb eF ω; replace cF := cF.gb eF ω; replace bK := bK.gb eF ω; replace cG := cG.gb eF ω; replace aZ := aZ.gr eF (fun k hk => hk.2.2.1); replace cH := cH.gr eF (fun k hk => hk.2.2.1)) | (clear lU; have := eF.size; replace bS := bS.gr eF (fun k h => .inr (by injection h; omega)); replace bT := bT.gb eF ω; replace cD := cD.gb eF ω; replace bU := bU.gb eF ω; replace bQ := bQ.gb eF ω; replace cE := cE.gb eF ω; replace cF := cF.gb eF ω; replace bK := bK.gb eF ω; replace cG := cG.gb eF ω; replace cH := cH.gr eF (fun k hk => hk.2.2.1); replace aZ := aZ.gr eF (fun k hk => hk.2.2.1))
   replace gY := gY.gb eF ω; clear cI eF
   refine At.dn ?_
   clear gY
   refine wp_ret ?_
   refine t_r ?_
   first | (replace pA := pA; refine retB_ pC (sl := 10) (cs := ((s ++ ([0, 0, 0, 0]) : List Int).map wV)) (m := 8) rfl κ κ (len8 σ (okLen okW_00)) pB ?_) | (refine retB_ pC (sl := 10) (cs := ((([0, 0, 0, 0]) ++ s : List Int).map wV)) (m := 8) rfl κ κ (len8 (okLen okW_00) σ) pB ?_)
   first | (replace pA := pA; have hfin := (part_win hR (.inl rfl) hL hs ω hTT hpp hat hpS he0_ hke_ hms_)) | (have hfin := (part_win hR (.inr rfl) hL hs ω hTT hpp hat hpS he0_ hke_ hms_).swap)
   first | (replace pA := pA; exact ⟨s, [0, 0, 0, 0], _, _, _, rfl, bS, bU, aZ.imp (fun _ _ _ => trivial), cH.imp (fun _ _ _ => trivial), hfin, by omega, by omega, by omega⟩) | (exact ⟨[0, 0, 0, 0], s, _, _, _, rfl, bS, bU, cH.imp (fun _ _ _ => trivial), aZ.imp (fun _ _ _ => trivial), hfin, by omega, by omega, by omega⟩)
  have uB := of_decide_eq_false hW
  refine wp_skip ?_
  refine t_n ?_
  clear eK; clear eV
  refine wp_seq ?_
  first | (replace pA := pA; have hne2_ := inP_none hok_sb σ) | (have hne2_ := inP_none hok_sa σ)
  refine At.start ?_
  first | (replace pA := pA; refine At.rk gK 5 [(104, .agg ((sb : List Int).map wV).toArray), (103, .int .i64 (1)), (101, .agg ((s : List Int).map wV).toArray), (100, .agg #[.slice x.A0 x.g.ow.length x.k0, .slice x.A1 x.g.pr.length x.k1, .slice x.A2 x.g.mv.length x.k2])] (.l (bD.cell (i := 0) rfl) <| .l (bD.cell (i := 1) rfl) <| .l (bD.cell (i := 2) rfl) <| .p (show ((s : List Int).map wV).length = 4 from ((List.length_map _).trans σ)) <| .p bJ.whole <| .o (.cs ((s : List Int).map wV)) <| .v 103 (show (.int .i64 (IntKind.i64.wrap (1 - 0)) : Value) = .int .i64 (1) from κ) <| .p (show ((sb : List Int).map wV).length = 4 from ((List.length_map _).trans σ)) <| .p dX.whole <| .o (.cs ((sb : List Int).map wV)) <| .n) (fun uC lV => ?_)) | (refine At.rk gK 5 [(104, .agg ((sa : List Int).map wV).toArray), (103, .int .i64 (0)), (101, .agg ((s : List Int).map wV).toArray), (100, .agg #[.slice x.A0 x.g.ow.length x.k0, .slice x.A1 x.g.pr.length x.k1, .slice x.A2 x.g.mv.length x.k2])] (.l (bD.cell (i := 0) rfl) <| .l (bD.cell (i := 1) rfl) <| .l (bD.cell (i := 2) rfl) <| .p (show ((s : List Int).map wV).length = 4 from ((List.length_map _).trans σ)) <| .p bJ.whole <| .o (.cs ((s : List Int).map wV)) <| .v 103 (show (.int .i64 (IntKind.i64.wrap (1 - 1)) : Value) = .int .i64 (0) from κ) <| .p (show ((sa : List Int).map wV).length = 4 from ((List.length_map _).trans σ)) <| .p dX.whole <| .o (.cs ((sa : List Int).map wV)) <| .n) (fun uC lV => ?_))
  clear gK
  first | (replace pA := pA; refine At.cl lV (some 105) (args := #[.agg #[.slice x.A0 x.g.ow.length x.k0, .slice x.A1 x.g.pr.length x.k1, .slice x.A2 x.g.mv.length x.k2], .agg ((s : List Int).map wV).toArray, .int .i64 (1), .agg ((sb : List Int).map wV).toArray]) (attract_any (g := x.g) (s := s) (t := sb) (p := 1) (bM.wide (Nat.zero_le _) ω) σ σ (bH.wide (Nat.zero_le _) ω)) ?_) | (refine At.cl lV (some 105) (args := #[.agg #[.slice x.A0 x.g.ow.length x.k0, .slice x.A1 x.g.pr.length x.k1, .slice x.A2 x.g.mv.length x.k2], .agg ((s : List Int).map wV).toArray, .int .i64 (0), .agg ((sa : List Int).map wV).toArray]) (attract_any (g := x.g) (s := s) (t := sa) (p := 0) (bM.wide (Nat.zero_le _) ω) σ σ (bH.wide (Nat.zero_le _) ω)) ?_)
  rintro e_ dL ⟨fT, gO, gs, ls, rfl, he, eL, hbt⟩
  have hok_gs := att_ok hbt; have hl_gs := okLen hok_gs; have hlm_ls := att_len hbt
  refine ⟨_, rfl, _, rfl, fun uD lW => ?_⟩
  first | (replace pA := pA; clear lV; have dM := gr_ext he; have lX := bE.lt; have lY := bC.lt; have := dM.size; replace bL := bL.gn dM; replace bM := bM.gn dM; replace bH := bH.gn dM; replace bN := bN.gn dM; replace bD := bD.gn dM; replace bO := bO.gn dM; replace bF := bF.gn dM; replace bG := bG.gn dM; replace bI := bI.gn dM) | (clear lV; have dM := gr_ext he; have lX := bC.lt; have lY := bE.lt; have := dM.size; replace bL := bL.gn dM; replace bM := bM.gn dM; replace bH := bH.gn dM; replace bN := bN.gn dM; replace bD := bD.gn dM; replace bO := bO.gn dM; replace bF := bF.gn dM; replace bG := bG.gn dM; replace bI := bI.gn dM)
  first | (replace pA := pA; replace bE : OwnR dL (SxP (orN x.T w.heap.size) [obk (fT), some (eN.heap.size), some (eD.heap.size), obk (dW), some (eH.heap.size), some (w1.heap.size), some (w.heap.size), obk (x.M1), some (x.bd), some (x.bg), some (x.bp), some (x.bk), some (x.bm), some (x.bn), some (eJ)]) x.M0 x.c0 3 (na : List Int) := bE.grA dM (fun _ _ h => by cases h) (fun k hk hs => ⟨(fun e => by have := eL.ge _ e; omega), hs.1, hs.2.1, hs.2.2.1, hs.2.2.2.1, hs.2.2.2.2.1, hs.2.2.2.2.2.1, hs.2.2.2.2.2.2.1, hs.2.2.2.2.2.2.2.1, hs.2.2.2.2.2.2.2.2.1, hs.2.2.2.2.2.2.2.2.2.1, hs.2.2.2.2.2.2.2.2.2.2.1, hs.2.2.2.2.2.2.2.2.2.2.2.1, hs.2.2.2.2.2.2.2.2.2.2.2.2.1, hs.2.2.2.2.2.2.2.2.2.2.2.2.2.1, hs.2.2.2.2.2.2.2.2.2.2.2.2.2.2⟩)) | (replace bC : OwnR dL (SxP (orN x.T w.heap.size) [obk (fT), some (eN.heap.size), some (eD.heap.size), obk (dW), some (eH.heap.size), some (w1.heap.size), some (w.heap.size), obk (x.M1), some (x.bd), some (x.bg), some (x.bp), some (x.bk), some (x.bm), some (x.bn), some (eJ)]) x.M0 x.c0 3 (na : List Int) := bC.grA dM (fun _ _ h => by cases h) (fun k hk hs => ⟨(fun e => by have := eL.ge _ e; omega), hs.1, hs.2.1, hs.2.2.1, hs.2.2.2.1, hs.2.2.2.2.1, hs.2.2.2.2.2.1, hs.2.2.2.2.2.2.1, hs.2.2.2.2.2.2.2.1, hs.2.2.2.2.2.2.2.2.1, hs.2.2.2.2.2.2.2.2.2.1, hs.2.2.2.2.2.2.2.2.2.2.1, hs.2.2.2.2.2.2.2.2.2.2.2.1, hs.2.2.2.2.2.2.2.2.2.2.2.2.1, hs.2.2.2.2.2.2.2.2.2.2.2.2.2.1, hs.2.2.2.2.2.2.2.2.2.2.2.2.2.2⟩))
  first | (replace pA := pA; replace bC : OwnR dL (SxP (orN x.T w.heap.size) [obk (fT), some (eN.heap.size), some (eD.heap.size), obk (dW), some (eH.heap.size), some (w1.heap.size), some (w.heap.size), obk (x.M0), some (x.bd), some (x.bg), some (x.bp), some (x.bk), some (x.bm), some (x.bn), some (eJ)]) x.M1 x.c1 3 (nb : List Int) := bC.grA dM (fun _ _ h => by cases h) (fun k hk hs => ⟨(fun e => by have := eL.ge _ e; omega), hs.1, hs.2.1, hs.2.2.1, hs.2.2.2.1, hs.2.2.2.2.1, hs.2.2.2.2.2.1, hs.2.2.2.2.2.2.1, hs.2.2.2.2.2.2.2.1, hs.2.2.2.2.2.2.2.2.1, hs.2.2.2.2.2.2.2.2.2.1, hs.2.2.2.2.2.2.2.2.2.2.1, hs.2.2.2.2.2.2.2.2.2.2.2.1, hs.2.2.2.2.2.2.2.2.2.2.2.2.1, hs.2.2.2.2.2.2.2.2.2.2.2.2.2.1, hs.2.2.2.2.2.2.2.2.2.2.2.2.2.2⟩)) | (replace bE : OwnR dL (SxP (orN x.T w.heap.size) [obk (fT), some (eN.heap.size), some (eD.heap.size), obk (dW), some (eH.heap.size), some (w1.heap.size), some (w.heap.size), obk (x.M0), some (x.bd), some (x.bg), some (x.bp), some (x.bk), some (x.bm), some (x.bn), some (eJ)]) x.M1 x.c1 3 (nb : List Int) := bE.grA dM (fun _ _ h => by cases h) (fun k hk hs => ⟨(fun e => by have := eL.ge _ e; omega), hs.1, hs.2.1, hs.2.2.1, hs.2.2.2.1, hs.2.2.2.2.1, hs.2.2.2.2.2.1, hs.2.2.2.2.2.2.1, hs.2.2.2.2.2.2.2.1, hs.2.2.2.2.2.2.2.2.1, hs.2.2.2.2.2.2.2.2.2.1, hs.2.2.2.2.2.2.2.2.2.2.1, hs.2.2.2.2.2.2.2.2.2.2.2.1, hs.2.2.2.2.2.2.2.2.2.2.2.2.1, hs.2.2.2.2.2.2.2.2.2.2.2.2.2.1, hs.2.2.2.2.2.2.2.2.2.2.2.2.2.2⟩))
  replace bJ := bJ.gn dM; replace bP := bP.gn dM; replace dX := dX.gn dM
  replace eL : OwnR dL (Sx (kQ.heap.size) [obk (x.M0), obk (x.M1)]) fT gO 3 (ls : List Int) := eL.imp (fun g _ hs => ⟨(fun e => by have := lX _ e; have := Sx_base hs; omega), (fun e => by have := lY _ e; have := Sx_base hs; omega), hs⟩)
  clear lX lY; clear dM he
  refine At.rk lW 3 [(107, .slice fT ls.length gO), (106, .agg ((gs : List Int).map wV).toArray)] .n (fun uE lZ => ?_)
  clear lW
  refine At.bx lZ 20 ((List.replicate 4 (0 : Int) : List Int).map wV) 44 (fun uF cW iF uG mA => ?_)
  first | (replace pA := pA; clear lZ; have := cW.size; replace bL := bL.gn cW; replace bM := bM.gn cW; replace bH := bH.gn cW; replace bN := bN.gn cW; replace bD := bD.gn cW; replace bO := bO.gn cW; replace bF := bF.gn cW; replace bG := bG.gn cW; replace bI := bI.gn cW; replace bE := bE.grN cW; replace bC := bC.grN cW; replace bJ := bJ.gn cW; replace bP := bP.gn cW; replace dX := dX.gn cW; replace eL := eL.grN cW) | (clear lZ; have := cW.size; replace bL := bL.gn cW; replace bM := bM.gn cW; replace bH := bH.gn cW; replace bN := bN.gn cW; replace bD := bD.gn cW; replace bO := bO.gn cW; replace bF := bF.gn cW; replace bG := bG.gn cW; replace bI := bI.gn cW; replace bC := bC.grN cW; replace bE := bE.grN cW; replace bJ := bJ.gn cW; replace bP := bP.gn cW; replace dX := dX.gn cW; replace eL := eL.grN cW)
  have := iF.lt; clear cW
  refine At.act mA (storeBlk (t := 44) (b := dL.heap.size) (n := 4) (cs' := ((gs : List Int).map wV)) κ κ ((List.length_map _).trans σ) oneW_ ((show ((gs : List Int).map wV).length = 4 from ((List.length_map _).trans σ)).trans (show ((List.replicate 4 (0 : Int) : List Int).map wV).length = 4 from len_P).symm) iF) ?_
  rintro d_ v_ uH ⟨rfl, cX, gZ⟩
  refine ⟨_, rfl, fun uI mB => ?_⟩
  first | (replace pA := pA; clear mA; have := cX.size; replace bL := bL.gr cX (fun k h => .inr (by injection h; omega)); replace bM := bM.gb cX ω; replace bH := bH.gb cX ω; replace bN := bN.gb cX ω; replace bD := bD.gb cX ω; replace bO := bO.gb cX ω; replace bF := bF.gb cX ω; replace bG := bG.gb cX ω; replace bI := bI.gb cX ω; replace bE := bE.gr cX (fun k hk => hk.1); replace bC := bC.gr cX (fun k hk => hk.1)) | (clear mA; have := cX.size; replace bL := bL.gr cX (fun k h => .inr (by injection h; omega)); replace bM := bM.gb cX ω; replace bH := bH.gb cX ω; replace bN := bN.gb cX ω; replace bD := bD.gb cX ω; replace bO := bO.gb cX ω; replace bF := bF.gb cX ω; replace bG := bG.gb cX ω; replace bI := bI.gb cX ω; replace bC := bC.gr cX (fun k hk => hk.1); replace bE := bE.gr cX (fun k hk => hk.1))
  replace bJ := bJ.gb cX ω; replace bP := bP.gb cX ω; replace dX := dX.gb cX ω; replace eL := eL.gr cX (fun k hk => hk.1); clear iF cX
  refine At.rk mB 1 [(14, .slice fT ls.length gO)] .n (fun uJ mC => ?_)
  clear mB
  refine At.dn ?_
  refine wp_seq ?_
  first | (replace pA := pA; have hml2_ := (att_inT hR (.inr rfl) hbt).2.ml) | (have hml2_ := (att_inT hR (.inl rfl) hbt).2.ml)
  refine At.start ?_
  first | (replace pA := pA; refine At.rk mC 4 [(111, .slice fT ls.length gO), (110, .int .i64 (1)), (108, .func (.func 37) #[] #[pt x.bm 0])] (.l (bF.cell (i := 0) rfl) <| .v 110 (show (.int .i64 (IntKind.i64.wrap (1 - 0)) : Value) = .int .i64 (1) from κ) <| .n) (fun uK mD => ?_)) | (refine At.rk mC 4 [(111, .slice fT ls.length gO), (110, .int .i64 (0)), (108, .func (.func 37) #[] #[pt x.bm 0])] (.l (bF.cell (i := 0) rfl) <| .v 110 (show (.int .i64 (IntKind.i64.wrap (1 - 1)) : Value) = .int .i64 (0) from κ) <| .n) (fun uK mD => ?_))
  clear mC
  first | (replace pA := pA; refine At.cl mD (some 112) (args := #[.int .i64 (1), .slice fT ls.length gO, pt x.bm 0]) (keep1_any (mm := nb) (la := ls) (lo := kQ.heap.size) (bm := x.bm) ((OwnR.rdR eL (by show _ * 8 ≤ _; omega)).rdI) bG (bC.self.imp (fun g _ hs => ⟨hs.1.2.2.2.2.2.2.2.2.2.2.2.2.2.1, hs.2⟩)) (fun k hk => by have := hM1 k hk; omega) ω ω) ?_) | (refine At.cl mD (some 112) (args := #[.int .i64 (0), .slice fT ls.length gO, pt x.bm 0]) (keep0_any (mm := na) (la := ls) (lo := kQ.heap.size) (bm := x.bm) ((OwnR.rdR eL (by show _ * 8 ≤ _; omega)).rdI) bG (bC.self.imp (fun g _ hs => ⟨hs.1.2.2.2.2.2.2.2.2.2.2.2.2.2.1, hs.2⟩)) (fun k hk => by have := hM0 k hk; omega) ω ω) ?_)
  rintro e_ uL ⟨rfl, he975, q2, hmo974, hkeB⟩
  have hkl_q2 := hkeB.1
  refine ⟨_, rfl, _, rfl, fun uM mE => ?_⟩
  first | (replace pA := pA; clear mD; have := he975.size; replace bL := bL.tch he975 (fun k hk => .inl (.inr (.inl hk))); replace bM := bM.tch he975 (fun k hk => .inr (K.hT k (.inr (.inl hk)))); replace bH := bH.tch he975 (fun k hk => .inr (K.hT k (.inr (.inl hk)))); replace bN := bN.tch he975 (bC.neb (fun g hs => hs.2.2.2.2.2.2.2.2.2.1)); replace bD := bD.tch he975 (bC.neb (fun g hs => hs.2.2.2.2.2.2.2.2.2.2.1))) | (clear mD; have := he975.size; replace bL := bL.tch he975 (fun k hk => .inl (.inl hk)); replace bM := bM.tch he975 (fun k hk => .inr (K.hT k (.inl hk))); replace bH := bH.tch he975 (fun k hk => .inr (K.hT k (.inl hk))); replace bN := bN.tch he975 (bC.neb (fun g hs => hs.2.2.2.2.2.2.2.2.2.1)); replace bD := bD.tch he975 (bC.neb (fun g hs => hs.2.2.2.2.2.2.2.2.2.2.1)))
  first | (replace pA := pA; replace bO := bO.tch he975 (bC.neb (fun g hs => hs.2.2.2.2.2.2.2.2.2.2.2.1)); replace bF := bF.tch he975 (bC.neb (fun g hs => hs.2.2.2.2.2.2.2.2.2.2.2.2.1)); replace bG := bG.tch he975 (bC.neb (fun g hs => hs.2.2.2.2.2.2.2.2.2.2.2.2.2.1)); replace bI := bI.tch he975 (bC.neb (fun g hs => hs.2.2.2.2.2.2.2.2.2.2.2.2.2.2.1)); replace bE := bE.tch he975 (fun k hk _ e2 => hk.2.2.2.2.2.2.2.2.1 e2)) | (replace bO := bO.tch he975 (bC.neb (fun g hs => hs.2.2.2.2.2.2.2.2.2.2.2.1)); replace bF := bF.tch he975 (bC.neb (fun g hs => hs.2.2.2.2.2.2.2.2.2.2.2.2.1)); replace bG := bG.tch he975 (bC.neb (fun g hs => hs.2.2.2.2.2.2.2.2.2.2.2.2.2.1)); replace bI := bI.tch he975 (bC.neb (fun g hs => hs.2.2.2.2.2.2.2.2.2.2.2.2.2.2.1)); have gE := OwnR.reS bC hmo974; clear bC hmo974)
  first | (replace pA := pA; have gE := OwnR.reS bC hmo974; clear bC hmo974; replace bJ := bJ.tch he975 (gE.neb (fun g hs => hs.2.2.2.2.2.2.2.1)); replace bP := bP.tch he975 (gE.neb (fun g hs => hs.2.2.2.2.2.2.1)); replace dX := dX.tch he975 (gE.neb (fun g hs => hs.2.2.1)); replace eL := eL.tch he975 (fun k hk _ e2 => hk.2.2.1 e2); replace gZ := gZ.tch he975 (gE.neb (fun g hs => hs.1)); clear he975) | (replace bE := bE.tch he975 (fun k hk _ e2 => hk.2.2.2.2.2.2.2.2.1 e2); replace bJ := bJ.tch he975 (gE.neb (fun g hs => hs.2.2.2.2.2.2.2.1)); replace bP := bP.tch he975 (gE.neb (fun g hs => hs.2.2.2.2.2.2.1)); replace dX := dX.tch he975 (gE.neb (fun g hs => hs.2.2.1)); replace eL := eL.tch he975 (fun k hk _ e2 => hk.2.1 e2); replace gZ := gZ.tch he975 (gE.neb (fun g hs => hs.1)); clear he975)
  refine At.dn ?_
  clear eL
  refine wp_seq ?_
  refine wp_seq ?_
  have hkf_ := hkeB
  refine At.start ?_
  refine At.rk mE 2 [(114, .int .i64 (0)), (113, .int .i64 (((x.g.ow.length : Nat) : Int)))] (.l (bI.cell (i := 0) rfl) <| .n) (fun uN mF => ?_)
  clear mE
  refine At.dn ?_
  refine wp_block ?_
  first | (replace pA := pA; refine loop_g (fun (m_ : Nat) a_ w_ => ∃ (k2 : Int) (r2 : List Int), m_ = ((x.g.ow.length : Int) - k2).toNat ∧ (Frm 154 a_ [(114, .int .i64 (k2)), (113, .int .i64 (((x.g.ow.length : Nat) : Int))), (20, pt dL.heap.size 0), (16, pt eN.heap.size 0), (12, .int .i64 (0)), (10, pt w1.heap.size 0), (8, pt w.heap.size 0), (1, .int .i64 (depth)), (4, pt x.bp 0), (6, pt x.bm 0)]) ∧ (Tch (x.T) w w_) ∧ (RdG w_ 0 x.hi x.A0 x.A1 x.A2 x.k0 x.k1 x.k2 x.g) ∧ (RdT w_ 0 x.hi) ∧ (Bx w_ (x.bd) [.int .i64 (da)] 3) ∧ (Bx w_ (x.bg) [.slice x.A0 x.g.ow.length x.k0, .slice x.A1 x.g.pr.length x.k1, .slice x.A2 x.g.mv.length x.k2] 25) ∧ (Bx w_ (x.bp) [.func (.func 38) #[] #[pt x.bd 0, pt x.bg 0, pt x.bp 0, pt x.bk 0, pt x.bm 0, pt x.bn 0]] 65) ∧ (Bx w_ (x.bk) [.func (.func 37) #[] #[pt x.bm 0]] 64) ∧ (Bx w_ (x.bm) [.slice x.M0 r2.length x.c0, .slice x.M1 x.g.ow.length x.c1] 29) ∧ (Bx w_ (x.bn) [.int .i64 (((x.g.ow.length : Nat) : Int))] 3) ∧ (OwnR w_ (SxP (orN x.T w.heap.size) [some (dL.heap.size), some (eN.heap.size), some (w1.heap.size), some (w.heap.size), obk (x.M1), some (x.bd), some (x.bg), some (x.bp), some (x.bk), some (x.bm), some (x.bn)]) x.M0 x.c0 3 (r2 : List Int)) ∧ (OwnR w_ (SxP (orN x.T w.heap.size) [some (dL.heap.size), some (eN.heap.size), some (w1.heap.size), some (w.heap.size), obk (x.M0), some (x.bd), some (x.bg), some (x.bp), some (x.bk), some (x.bm), some (x.bn)]) x.M1 x.c1 3 (q2 : List Int)) ∧ (Bx w_ (w.heap.size) ((s : List Int).map wV) 44) ∧ (Bx w_ (w1.heap.size) ((([0, 0, 0, 0]) ++ ([0, 0, 0, 0]) : List Int).map wV) 67) ∧ (Bx w_ (eN.heap.size) ((sb : List Int).map wV) 44) ∧ (Bx w_ (dL.heap.size) ((gs : List Int).map wV) 44) ∧ (0 ≤ k2) ∧ (k2 ≤ (x.g.ow.length : Int)) ∧ (ResK s gs sb na r2 k2) ∧ (r2.length = na.length)) _ ⟨0, (na : List Int), rfl, mF.sb, bL, bM, bH, bN, bD, bO, bF, (bG.as (by first | rfl | (simp only [List.cons.injEq, Value.slice.injEq, true_and, and_true]; omega))), bI, (bE.imp (fun g _ hs => ⟨hs.1, hs.2.2.1, hs.2.2.2.2.2.2.1, hs.2.2.2.2.2.2.2.1, hs.2.2.2.2.2.2.2.2.1, hs.2.2.2.2.2.2.2.2.2.1, hs.2.2.2.2.2.2.2.2.2.2.1, hs.2.2.2.2.2.2.2.2.2.2.2.1, hs.2.2.2.2.2.2.2.2.2.2.2.2.1, hs.2.2.2.2.2.2.2.2.2.2.2.2.2.1, hs.2.2.2.2.2.2.2.2.2.2.2.2.2.2.1, hs.2.2.2.2.2.2.2.2.2.2.2.2.2.2.2.2⟩)), (gE.imp (fun g _ hs => ⟨hs.1, hs.2.2.1, hs.2.2.2.2.2.2.1, hs.2.2.2.2.2.2.2.1, hs.2.2.2.2.2.2.2.2.1, hs.2.2.2.2.2.2.2.2.2.1, hs.2.2.2.2.2.2.2.2.2.2.1, hs.2.2.2.2.2.2.2.2.2.2.2.1, hs.2.2.2.2.2.2.2.2.2.2.2.2.1, hs.2.2.2.2.2.2.2.2.2.2.2.2.2.1, hs.2.2.2.2.2.2.2.2.2.2.2.2.2.2.1, hs.2.2.2.2.2.2.2.2.2.2.2.2.2.2.2.2⟩)), bJ, bP, dX, gZ, ω, ω, resK_0, rfl⟩ ?_) | (refine loop_g (fun (m_ : Nat) a_ w_ => ∃ (k2 : Int) (r2 : List Int), m_ = ((x.g.ow.length : Int) - k2).toNat ∧ (Frm 154 a_ [(114, .int .i64 (k2)), (113, .int .i64 (((x.g.ow.length : Nat) : Int))), (20, pt dL.heap.size 0), (16, pt eN.heap.size 0), (12, .int .i64 (1)), (10, pt w1.heap.size 0), (8, pt w.heap.size 0), (1, .int .i64 (depth)), (4, pt x.bp 0), (6, pt x.bm 0)]) ∧ (Tch (x.T) w w_) ∧ (RdG w_ 0 x.hi x.A0 x.A1 x.A2 x.k0 x.k1 x.k2 x.g) ∧ (RdT w_ 0 x.hi) ∧ (Bx w_ (x.bd) [.int .i64 (da)] 3) ∧ (Bx w_ (x.bg) [.slice x.A0 x.g.ow.length x.k0, .slice x.A1 x.g.pr.length x.k1, .slice x.A2 x.g.mv.length x.k2] 25) ∧ (Bx w_ (x.bp) [.func (.func 38) #[] #[pt x.bd 0, pt x.bg 0, pt x.bp 0, pt x.bk 0, pt x.bm 0, pt x.bn 0]] 65) ∧ (Bx w_ (x.bk) [.func (.func 37) #[] #[pt x.bm 0]] 64) ∧ (Bx w_ (x.bm) [.slice x.M0 x.g.ow.length x.c0, .slice x.M1 r2.length x.c1] 29) ∧ (Bx w_ (x.bn) [.int .i64 (((x.g.ow.length : Nat) : Int))] 3) ∧ (OwnR w_ (SxP (orN x.T w.heap.size) [some (dL.heap.size), some (eN.heap.size), some (w1.heap.size), some (w.heap.size), obk (x.M1), some (x.bd), some (x.bg), some (x.bp), some (x.bk), some (x.bm), some (x.bn)]) x.M0 x.c0 3 (q2 : List Int)) ∧ (OwnR w_ (SxP (orN x.T w.heap.size) [some (dL.heap.size), some (eN.heap.size), some (w1.heap.size), some (w.heap.size), obk (x.M0), some (x.bd), some (x.bg), some (x.bp), some (x.bk), some (x.bm), some (x.bn)]) x.M1 x.c1 3 (r2 : List Int)) ∧ (Bx w_ (w.heap.size) ((s : List Int).map wV) 44) ∧ (Bx w_ (w1.heap.size) ((([0, 0, 0, 0]) ++ ([0, 0, 0, 0]) : List Int).map wV) 67) ∧ (Bx w_ (eN.heap.size) ((sa : List Int).map wV) 44) ∧ (Bx w_ (dL.heap.size) ((gs : List Int).map wV) 44) ∧ (0 ≤ k2) ∧ (k2 ≤ (x.g.ow.length : Int)) ∧ (ResK s gs sa nb r2 k2) ∧ (r2.length = nb.length)) _ ⟨0, (nb : List Int), rfl, mF.sb, bL, bM, bH, bN, bD, bO, bF, (bG.as (by first | rfl | (simp only [List.cons.injEq, Value.slice.injEq, true_and, and_true]; omega))), bI, (gE.imp (fun g _ hs => ⟨hs.1, hs.2.2.1, hs.2.2.2.2.2.2.1, hs.2.2.2.2.2.2.2.1, hs.2.2.2.2.2.2.2.2.1, hs.2.2.2.2.2.2.2.2.2.1, hs.2.2.2.2.2.2.2.2.2.2.1, hs.2.2.2.2.2.2.2.2.2.2.2.1, hs.2.2.2.2.2.2.2.2.2.2.2.2.1, hs.2.2.2.2.2.2.2.2.2.2.2.2.2.1, hs.2.2.2.2.2.2.2.2.2.2.2.2.2.2.1, hs.2.2.2.2.2.2.2.2.2.2.2.2.2.2.2.2⟩)), (bE.imp (fun g _ hs => ⟨hs.1, hs.2.2.1, hs.2.2.2.2.2.2.1, hs.2.2.2.2.2.2.2.1, hs.2.2.2.2.2.2.2.2.1, hs.2.2.2.2.2.2.2.2.2.1, hs.2.2.2.2.2.2.2.2.2.2.1, hs.2.2.2.2.2.2.2.2.2.2.2.1, hs.2.2.2.2.2.2.2.2.2.2.2.2.1, hs.2.2.2.2.2.2.2.2.2.2.2.2.2.1, hs.2.2.2.2.2.2.2.2.2.2.2.2.2.2.1, hs.2.2.2.2.2.2.2.2.2.2.2.2.2.2.2.2⟩)), bJ, bP, dX, gZ, ω, ω, resK_0, rfl⟩ ?_)
  first | (replace pA := pA; clear mF; clear bM; clear bH; clear bN; clear bD; clear bO; clear bF; clear bG; clear bI; clear bE; clear gE; clear bJ; clear bP; clear dX; clear gZ; clear bL) | (clear mF; clear bM; clear bH; clear bN; clear bD; clear bO; clear bF; clear bG; clear bI; clear gE; clear bE; clear bJ; clear bP; clear dX; clear gZ; clear bL)
  first | (replace pA := pA; intro m_ uO hA ⟨k2, r2, hm1002, mG, aU, aQ, aR, bA, aN, aM, aO, aK, aP, aA, aE, aS, aV, cY, aT, i1018, i1019, hrk, i1020⟩) | (intro m_ uO hA ⟨k2, r2, hm1002, mG, aU, aQ, aR, bA, aN, aM, aO, aK, aP, aE, aA, aS, aV, cY, aT, i1018, i1019, hrk, i1020⟩)
  have := aU.size; have := bA.lt; have := aN.lt; have := aM.lt; have := aO.lt; have := aK.lt; have := aP.lt; have := aS.lt; have := aV.lt; have := cY.lt; have := aT.lt
  refine sqs ?_
  refine At.rk mG 1 [(115, .bool (decide ((k2 : Int) < ((x.g.ow.length : Nat) : Int))))] .n (fun uP gF => ?_)
  clear mG
  refine At.dn ?_
  refine wp_seq ?_
  refine cond_S gF (t := decide ((k2 : Int) < ((x.g.ow.length : Nat) : Int))) rfl (fun iG => ?_) (fun iG => ?_)
  ·have uQ := of_decide_eq_true iG
   refine wp_skip ?_
   refine t_n ?_
   refine wp_seq ?_
   refine wp_block ?_
   refine sqs ?_
   refine At.rk gF 2 [(21, .int .i64 (k2))] .n (fun uR mH => ?_)
   clear gF
   refine At.dn ?_
   refine sqs ?_
   refine At.rk mH 2 [(118, .int .i64 (k2)), (117, .agg ((gs : List Int).map wV).toArray)] (.p (show ((gs : List Int).map wV).length = 4 from ((List.length_map _).trans σ)) <| .p aT.whole <| .o (.cs ((gs : List Int).map wV)) <| .n) (fun uS mI => ?_)
   clear mH
   refine At.cl mI (some 119) (has_any (s := gs) (n := k2) σ) ?_
   rintro e_ uT ⟨rfl, he⟩
   refine ⟨_, rfl, _, rfl, fun uU hB => ?_⟩
   first | (replace pA := pA; clear mI; have cZ := gr_ext he; have := cZ.size; replace aU := aU.gn cZ; replace aQ := aQ.gn cZ; replace aR := aR.gn cZ; replace bA := bA.gn cZ; replace aN := aN.gn cZ; replace aM := aM.gn cZ; replace aO := aO.gn cZ; replace aK := aK.gn cZ; replace aP := aP.gn cZ; replace aA := aA.gn cZ; replace aE := aE.gn cZ; replace aS := aS.gn cZ; replace aV := aV.gn cZ; replace cY := cY.gn cZ) | (clear mI; have cZ := gr_ext he; have := cZ.size; replace aU := aU.gn cZ; replace aQ := aQ.gn cZ; replace aR := aR.gn cZ; replace bA := bA.gn cZ; replace aN := aN.gn cZ; replace aM := aM.gn cZ; replace aO := aO.gn cZ; replace aK := aK.gn cZ; replace aP := aP.gn cZ; replace aE := aE.gn cZ; replace aA := aA.gn cZ; replace aS := aS.gn cZ; replace aV := aV.gn cZ; replace cY := cY.gn cZ)
   replace aT := aT.gn cZ; clear cZ he
   rcases Bool.eq_false_or_eq_true (hasW gs k2) with iH | iH
   ·refine At.rk hB 11 [(130, .bool true)] (.e 120 iH <| .n) (fun uV iI => ?_)
    clear hB
    refine At.dn ?_
    refine cond_T iI rfl ?_
    refine At.start ?_
    obtain ⟨mJ, mK, uW, uX, uY⟩ := aA.get (k2) ω ω (sz := 1) rfl
    first | (replace pA := pA; refine At.rk iI 5 [(135, .pointer (some (mJ.add ((k2 : Int).toNat * 1))))] (.b 0 2 <| .l (aK.cell (i := 0) rfl) <| .a k2 r2.length mK <| .n) (fun uZ mL => ?_)) | (refine At.rk iI 5 [(135, .pointer (some (mJ.add ((k2 : Int).toNat * 1))))] (.b 1 2 <| .l (aK.cell (i := 1) rfl) <| .a k2 r2.length mK <| .n) (fun uZ mL => ?_))
    clear iI
    refine At.act mL (storeR (α := Int) (t := 3) (i := k2) (ad := mJ) (v := .int .i64 (-1)) (-1) κ rfl rfl κ mK aA ω ω) ?_
    rintro d_ v_ pD ⟨rfl, dN, pE⟩
    refine ⟨_, rfl, fun vA mM => ?_⟩
    clear mL; have vB : ((r2).set (k2 : Int).toNat (-1)).length = (r2).length := List.length_set; have := dN.size; replace aU := aU.gr dN (fun k hk => (aA.inS k hk).2.2.2.2.2.2.2.2.2.2.2); replace aQ := aQ.gr dN (fun k hk => .inr (orN_hi K.hT ω ((aA.inS k hk).2.2.2.2.2.2.2.2.2.2.2))); replace aR := aR.gr dN (fun k hk => .inr (orN_hi K.hT ω ((aA.inS k hk).2.2.2.2.2.2.2.2.2.2.2)))
    replace bA := bA.gr dN (aA.neb (fun g hs => hs.2.2.2.2.2.1)); replace aN := aN.gr dN (aA.neb (fun g hs => hs.2.2.2.2.2.2.1)); replace aM := aM.gr dN (aA.neb (fun g hs => hs.2.2.2.2.2.2.2.1)); replace aO := aO.gr dN (aA.neb (fun g hs => hs.2.2.2.2.2.2.2.2.1)); replace aK := aK.gr dN (aA.neb (fun g hs => hs.2.2.2.2.2.2.2.2.2.1)); replace aP := aP.gr dN (aA.neb (fun g hs => hs.2.2.2.2.2.2.2.2.2.2.1))
    replace aE := aE.gr dN (fun k hk => hk.2.2.2.2.1); replace aS := aS.gr dN (aA.neb (fun g hs => hs.2.2.2.1)); replace aV := aV.gr dN (aA.neb (fun g hs => hs.2.2.1)); replace cY := cY.gr dN (aA.neb (fun g hs => hs.2.1)); replace aT := aT.gr dN (aA.neb (fun g hs => hs.1)); clear aA dN
    first | (replace pA := pA; replace aK : Bx pD (x.bm) [.slice x.M0 (((r2).set (k2 : Int).toNat (-1)).length) x.c0, .slice x.M1 x.g.ow.length x.c1] 29 := aK.as (by first | rfl | (simp only [List.length_set]; done))) | (replace aK : Bx pD (x.bm) [.slice x.M0 x.g.ow.length x.c0, .slice x.M1 (((r2).set (k2 : Int).toNat (-1)).length) x.c1] 29 := aK.as (by first | rfl | (simp only [List.length_set]; done)))
    refine At.done rfl ?_
    refine b_n ?_
    refine t_n ?_
    refine At.start ?_
    refine At.rk mM 2 [(114, .int .i64 (k2 + 1))] (.w 136 (k2 + 1) <| .n) (fun vC pF => ?_)
    clear mM
    refine At.dn ?_
    first | (replace pA := pA; exact ⟨_, ω, (k2 + 1), ((r2).set (k2 : Int).toNat (-1) : List Int), rfl, pF.sb, aU, aQ, aR, bA, aN, aM, aO, aK, aP, pE, aE, aS, aV, cY, aT, ω, ω, (resK_yes hrk ω ω (by first | exact .inl (inP_has.1 σ) | exact .inr ⟨inP_has.1 σ, has_nP σ⟩)), (by rw [List.length_set]; exact hrk.1)⟩) | (exact ⟨_, ω, (k2 + 1), ((r2).set (k2 : Int).toNat (-1) : List Int), rfl, pF.sb, aU, aQ, aR, bA, aN, aM, aO, aK, aP, aE, pE, aS, aV, cY, aT, ω, ω, (resK_yes hrk ω ω (by first | exact .inl (inP_has.1 σ) | exact .inr ⟨inP_has.1 σ, has_nP σ⟩)), (by rw [List.length_set]; exact hrk.1)⟩)
   refine At.rk hB 3 [(122, .int .i64 (k2)), (121, .agg ((s : List Int).map wV).toArray), (120, .bool false)] (.e 120 iH <| .p (show ((s : List Int).map wV).length = 4 from ((List.length_map _).trans σ)) <| .p aS.whole <| .o (.cs ((s : List Int).map wV)) <| .n) (fun vD mN => ?_)
   clear hB
   refine At.cl mN (some 123) (has_any (s := s) (n := k2) σ) ?_
   rintro e_ vE ⟨rfl, he⟩
   refine ⟨_, rfl, _, rfl, fun vF hC => ?_⟩
   first | (replace pA := pA; clear mN; have dA := gr_ext he; have := dA.size; replace aU := aU.gn dA; replace aQ := aQ.gn dA; replace aR := aR.gn dA; replace bA := bA.gn dA; replace aN := aN.gn dA; replace aM := aM.gn dA; replace aO := aO.gn dA; replace aK := aK.gn dA; replace aP := aP.gn dA; replace aA := aA.gn dA; replace aE := aE.gn dA; replace aS := aS.gn dA; replace aV := aV.gn dA; replace cY := cY.gn dA) | (clear mN; have dA := gr_ext he; have := dA.size; replace aU := aU.gn dA; replace aQ := aQ.gn dA; replace aR := aR.gn dA; replace bA := bA.gn dA; replace aN := aN.gn dA; replace aM := aM.gn dA; replace aO := aO.gn dA; replace aK := aK.gn dA; replace aP := aP.gn dA; replace aE := aE.gn dA; replace aA := aA.gn dA; replace aS := aS.gn dA; replace aV := aV.gn dA; replace cY := cY.gn dA)
   replace aT := aT.gn dA; clear dA he
   rcases Bool.eq_false_or_eq_true (hasW s k2) with iJ | iJ
   ·first | (replace pA := pA; refine At.rk hC 3 [(126, .int .i64 (k2)), (125, .agg ((sb : List Int).map wV).toArray), (124, .bool true)] (.e 124 iJ <| .p (show ((sb : List Int).map wV).length = 4 from ((List.length_map _).trans σ)) <| .p cY.whole <| .o (.cs ((sb : List Int).map wV)) <| .n) (fun vG mO => ?_)) | (refine At.rk hC 3 [(126, .int .i64 (k2)), (125, .agg ((sa : List Int).map wV).toArray), (124, .bool true)] (.e 124 iJ <| .p (show ((sa : List Int).map wV).length = 4 from ((List.length_map _).trans σ)) <| .p cY.whole <| .o (.cs ((sa : List Int).map wV)) <| .n) (fun vG mO => ?_))
    clear hC
    first | (replace pA := pA; refine At.cl mO (some 127) (has_any (s := sb) (n := k2) σ) ?_) | (refine At.cl mO (some 127) (has_any (s := sa) (n := k2) σ) ?_)
    rintro e_ vH ⟨rfl, he⟩
    refine ⟨_, rfl, _, rfl, fun vI mP => ?_⟩
    first | (replace pA := pA; clear mO; have dB := gr_ext he; have := dB.size; replace aU := aU.gn dB; replace aQ := aQ.gn dB; replace aR := aR.gn dB; replace bA := bA.gn dB; replace aN := aN.gn dB; replace aM := aM.gn dB; replace aO := aO.gn dB; replace aK := aK.gn dB; replace aP := aP.gn dB; replace aA := aA.gn dB; replace aE := aE.gn dB; replace aS := aS.gn dB; replace aV := aV.gn dB; replace cY := cY.gn dB) | (clear mO; have dB := gr_ext he; have := dB.size; replace aU := aU.gn dB; replace aQ := aQ.gn dB; replace aR := aR.gn dB; replace bA := bA.gn dB; replace aN := aN.gn dB; replace aM := aM.gn dB; replace aO := aO.gn dB; replace aK := aK.gn dB; replace aP := aP.gn dB; replace aE := aE.gn dB; replace aA := aA.gn dB; replace aS := aS.gn dB; replace aV := aV.gn dB; replace cY := cY.gn dB)
    replace aT := aT.gn dB; clear dB he
    first | (replace pA := pA; refine At.rk mP 3 [(130, .bool (!(hasW sb k2))), (129, .bool (!(hasW sb k2))), (128, .bool (!(hasW sb k2)))] .n (fun vJ gP => ?_)) | (refine At.rk mP 3 [(130, .bool (!(hasW sa k2))), (129, .bool (!(hasW sa k2))), (128, .bool (!(hasW sa k2)))] .n (fun vJ gP => ?_))
    clear mP
    refine At.dn ?_
    first | (replace pA := pA; refine cond_S gP (t := !(hasW sb k2)) rfl (fun fU => ?_) (fun fU => ?_)) | (refine cond_S gP (t := !(hasW sa k2)) rfl (fun fU => ?_) (fun fU => ?_))
    ·first | (replace pA := pA; have vK : (hasW sb k2) = false := by first | exact Eq.mp (Bool.not_eq_true' _) fU | exact Eq.mp (Bool.not_eq_false' _) fU | simpa using fU) | (have vK : (hasW sa k2) = false := by first | exact Eq.mp (Bool.not_eq_true' _) fU | exact Eq.mp (Bool.not_eq_false' _) fU | simpa using fU)
     refine At.start ?_
     obtain ⟨mQ, mR, vL, vM, vN⟩ := aA.get (k2) ω ω (sz := 1) rfl
     first | (replace pA := pA; refine At.rk gP 5 [(135, .pointer (some (mQ.add ((k2 : Int).toNat * 1))))] (.b 0 2 <| .l (aK.cell (i := 0) rfl) <| .a k2 r2.length mR <| .n) (fun vO mS => ?_)) | (refine At.rk gP 5 [(135, .pointer (some (mQ.add ((k2 : Int).toNat * 1))))] (.b 1 2 <| .l (aK.cell (i := 1) rfl) <| .a k2 r2.length mR <| .n) (fun vO mS => ?_))
     clear gP
     refine At.act mS (storeR (α := Int) (t := 3) (i := k2) (ad := mQ) (v := .int .i64 (-1)) (-1) κ rfl rfl κ mR aA ω ω) ?_
     rintro d_ v_ pG ⟨rfl, dO, pH⟩
     refine ⟨_, rfl, fun vP mT => ?_⟩
     clear mS; have vQ : ((r2).set (k2 : Int).toNat (-1)).length = (r2).length := List.length_set; have := dO.size; replace aU := aU.gr dO (fun k hk => (aA.inS k hk).2.2.2.2.2.2.2.2.2.2.2); replace aQ := aQ.gr dO (fun k hk => .inr (orN_hi K.hT ω ((aA.inS k hk).2.2.2.2.2.2.2.2.2.2.2))); replace aR := aR.gr dO (fun k hk => .inr (orN_hi K.hT ω ((aA.inS k hk).2.2.2.2.2.2.2.2.2.2.2)))
     replace bA := bA.gr dO (aA.neb (fun g hs => hs.2.2.2.2.2.1)); replace aN := aN.gr dO (aA.neb (fun g hs => hs.2.2.2.2.2.2.1)); replace aM := aM.gr dO (aA.neb (fun g hs => hs.2.2.2.2.2.2.2.1)); replace aO := aO.gr dO (aA.neb (fun g hs => hs.2.2.2.2.2.2.2.2.1)); replace aK := aK.gr dO (aA.neb (fun g hs => hs.2.2.2.2.2.2.2.2.2.1)); replace aP := aP.gr dO (aA.neb (fun g hs => hs.2.2.2.2.2.2.2.2.2.2.1))
     replace aE := aE.gr dO (fun k hk => hk.2.2.2.2.1); replace aS := aS.gr dO (aA.neb (fun g hs => hs.2.2.2.1)); replace aV := aV.gr dO (aA.neb (fun g hs => hs.2.2.1)); replace cY := cY.gr dO (aA.neb (fun g hs => hs.2.1)); replace aT := aT.gr dO (aA.neb (fun g hs => hs.1)); clear aA dO
     first | (replace pA := pA; replace aK : Bx pG (x.bm) [.slice x.M0 (((r2).set (k2 : Int).toNat (-1)).length) x.c0, .slice x.M1 x.g.ow.length x.c1] 29 := aK.as (by first | rfl | (simp only [List.length_set]; done))) | (replace aK : Bx pG (x.bm) [.slice x.M0 x.g.ow.length x.c0, .slice x.M1 (((r2).set (k2 : Int).toNat (-1)).length) x.c1] 29 := aK.as (by first | rfl | (simp only [List.length_set]; done)))
     refine At.done rfl ?_
     refine b_n ?_
     refine t_n ?_
     refine At.start ?_
     refine At.rk mT 2 [(114, .int .i64 (k2 + 1))] (.w 136 (k2 + 1) <| .n) (fun vR pI => ?_)
     clear mT
     refine At.dn ?_
     first | (replace pA := pA; exact ⟨_, ω, (k2 + 1), ((r2).set (k2 : Int).toNat (-1) : List Int), rfl, pI.sb, aU, aQ, aR, bA, aN, aM, aO, aK, aP, pH, aE, aS, aV, cY, aT, ω, ω, (resK_yes hrk ω ω (by first | exact .inl (inP_has.1 σ) | exact .inr ⟨inP_has.1 σ, has_nP σ⟩)), (by rw [List.length_set]; exact hrk.1)⟩) | (exact ⟨_, ω, (k2 + 1), ((r2).set (k2 : Int).toNat (-1) : List Int), rfl, pI.sb, aU, aQ, aR, bA, aN, aM, aO, aK, aP, aE, pH, aS, aV, cY, aT, ω, ω, (resK_yes hrk ω ω (by first | exact .inl (inP_has.1 σ) | exact .inr ⟨inP_has.1 σ, has_nP σ⟩)), (by rw [List.length_set]; exact hrk.1)⟩)
    first | (replace pA := pA; have vS : (hasW sb k2) = true := by first | exact Eq.mp (Bool.not_eq_true' _) fU | exact Eq.mp (Bool.not_eq_false' _) fU | simpa using fU) | (have vS : (hasW sa k2) = true := by first | exact Eq.mp (Bool.not_eq_true' _) fU | exact Eq.mp (Bool.not_eq_false' _) fU | simpa using fU)
    refine wp_skip ?_
    refine b_n ?_
    refine t_n ?_
    refine At.start ?_
    refine At.rk gP 2 [(114, .int .i64 (k2 + 1))] (.w 136 (k2 + 1) <| .n) (fun vT pJ => ?_)
    clear gP
    refine At.dn ?_
    first | (replace pA := pA; exact ⟨_, ω, (k2 + 1), (r2 : List Int), rfl, pJ.sb, aU, aQ, aR, bA, aN, aM, aO, aK, aP, aA, aE, aS, aV, cY, aT, ω, ω, (resK_no hrk (by rintro (h_ | ⟨h_, h2_⟩); (first | exact has_nP σ h_); (first | exact has_nP σ h_ | exact h2_ (inP_has.1 σ)))), hrk.1⟩) | (exact ⟨_, ω, (k2 + 1), (r2 : List Int), rfl, pJ.sb, aU, aQ, aR, bA, aN, aM, aO, aK, aP, aE, aA, aS, aV, cY, aT, ω, ω, (resK_no hrk (by rintro (h_ | ⟨h_, h2_⟩); (first | exact has_nP σ h_); (first | exact has_nP σ h_ | exact h2_ (inP_has.1 σ)))), hrk.1⟩)
   refine At.rk hC 7 [(130, .bool false), (129, .bool false), (124, .bool false)] (.e 124 iJ <| .n) (fun vU iK => ?_)
   clear hC
   refine At.dn ?_
   refine cond_F iK rfl ?_
   refine wp_skip ?_
   refine b_n ?_
   refine t_n ?_
   refine At.start ?_
   refine At.rk iK 2 [(114, .int .i64 (k2 + 1))] (.w 136 (k2 + 1) <| .n) (fun vV pK => ?_)
   clear iK
   refine At.dn ?_
   first | (replace pA := pA; exact ⟨_, ω, (k2 + 1), (r2 : List Int), rfl, pK.sb, aU, aQ, aR, bA, aN, aM, aO, aK, aP, aA, aE, aS, aV, cY, aT, ω, ω, (resK_no hrk (by rintro (h_ | ⟨h_, h2_⟩); (first | exact has_nP σ h_); (first | exact has_nP σ h_ | exact h2_ (inP_has.1 σ)))), hrk.1⟩) | (exact ⟨_, ω, (k2 + 1), (r2 : List Int), rfl, pK.sb, aU, aQ, aR, bA, aN, aM, aO, aK, aP, aE, aA, aS, aV, cY, aT, ω, ω, (resK_no hrk (by rintro (h_ | ⟨h_, h2_⟩); (first | exact has_nP σ h_); (first | exact has_nP σ h_ | exact h2_ (inP_has.1 σ)))), hrk.1⟩)
  have vW := of_decide_eq_false iG
  refine wp_exit ?_
  refine t_e ?_
  clear hm1002
  refine t_e ?_
  refine b_e ?_
  refine t_n ?_
  first | (replace pA := pA; clear cY; have hrs_ := resK_end hrk ω; have hlive1 := att_live hR (.inr rfl) hL hbt) | (clear cY; have hrs_ := resK_end hrk ω; have hlive1 := att_live hR (.inl rfl) hL hbt)
  first | (replace pA := pA; have hlen1 : lenW (minusS s gs) < lenW s := len_sub hbt.1 (by obtain ⟨i_, hi_⟩ := hne2_; have h1_ := ((inP_minus hat.1 i_).1 ((hpS.all i_).2 (.inr hi_))).1; exact ⟨i_, h1_, att_base hR (.inr rfl) hL.lt hbt i_ hi_ h1_⟩)) | (have hlen1 : lenW (minusS s gs) < lenW s := len_sub hbt.1 (by obtain ⟨i_, hi_⟩ := hne2_; have h1_ := ((inP_minus hat.1 i_).1 ((hpS.all i_).2 (.inr hi_))).1; exact ⟨i_, h1_, att_base hR (.inl rfl) hL.lt hbt i_ hi_ h1_⟩))
  have hlw1 := lenW_le (minusS s gs)
  first | (replace pA := pA; refine wp_seq (cut (fun a_ w_ => ∃ (sc : List Int) (sd : List Int) (nc : List Int) (nd : List Int) (dc : Int) (eO : Nat), (Frm 154 a_ [(22, pt eO 0), (20, pt dL.heap.size 0), (12, .int .i64 (0)), (10, pt w1.heap.size 0)]) ∧ (Tch (x.T) w w_) ∧ (RdG w_ 0 x.hi x.A0 x.A1 x.A2 x.k0 x.k1 x.k2 x.g) ∧ (RdT w_ 0 x.hi) ∧ (Bx w_ (x.bd) [.int .i64 (dc)] 3) ∧ (Bx w_ (x.bg) [.slice x.A0 x.g.ow.length x.k0, .slice x.A1 x.g.pr.length x.k1, .slice x.A2 x.g.mv.length x.k2] 25) ∧ (Bx w_ (x.bp) [.func (.func 38) #[] #[pt x.bd 0, pt x.bg 0, pt x.bp 0, pt x.bk 0, pt x.bm 0, pt x.bn 0]] 65) ∧ (Bx w_ (x.bk) [.func (.func 37) #[] #[pt x.bm 0]] 64) ∧ (Bx w_ (x.bm) [.slice x.M0 r2.length x.c0, .slice x.M1 x.g.ow.length x.c1] 29) ∧ (Bx w_ (x.bn) [.int .i64 (((x.g.ow.length : Nat) : Int))] 3) ∧ (OwnR w_ (SxP (orN x.T w.heap.size) [some (dL.heap.size), some (w1.heap.size), some (w.heap.size), obk (x.M1), some (x.bd), some (x.bg), some (x.bp), some (x.bk), some (x.bm), some (x.bn), some (eO)]) x.M0 x.c0 3 (nc : List Int)) ∧ (OwnR w_ (SxP (orN x.T w.heap.size) [some (dL.heap.size), some (w1.heap.size), some (w.heap.size), obk (x.M0), some (x.bd), some (x.bg), some (x.bp), some (x.bk), some (x.bm), some (x.bn), some (eO)]) x.M1 x.c1 3 (nd : List Int)) ∧ (Bx w_ (w.heap.size) ((s : List Int).map wV) 44) ∧ (Bx w_ (w1.heap.size) ((([0, 0, 0, 0]) ++ ([0, 0, 0, 0]) : List Int).map wV) 67) ∧ (Bx w_ (dL.heap.size) ((gs : List Int).map wV) 44) ∧ (Bx w_ (eO) ((sc ++ sd : List Int).map wV) 67) ∧ (hA.heap.size ≤ eO) ∧ (hA.heap.size ≤ w_.heap.size) ∧ (PartS x.g (minusS s gs) 0 sc sd r2 q2 nc nd) ∧ (da ≤ dc) ∧ (depth + 1 ≤ dc) ∧ (dc ≤ max (da) (depth + 1 + lenW (minusS s gs)))) ?_ ?_)) | (refine wp_seq (cut (fun a_ w_ => ∃ (sc : List Int) (sd : List Int) (nc : List Int) (nd : List Int) (dc : Int) (eO : Nat), (Frm 154 a_ [(22, pt eO 0), (20, pt dL.heap.size 0), (12, .int .i64 (1)), (10, pt w1.heap.size 0)]) ∧ (Tch (x.T) w w_) ∧ (RdG w_ 0 x.hi x.A0 x.A1 x.A2 x.k0 x.k1 x.k2 x.g) ∧ (RdT w_ 0 x.hi) ∧ (Bx w_ (x.bd) [.int .i64 (dc)] 3) ∧ (Bx w_ (x.bg) [.slice x.A0 x.g.ow.length x.k0, .slice x.A1 x.g.pr.length x.k1, .slice x.A2 x.g.mv.length x.k2] 25) ∧ (Bx w_ (x.bp) [.func (.func 38) #[] #[pt x.bd 0, pt x.bg 0, pt x.bp 0, pt x.bk 0, pt x.bm 0, pt x.bn 0]] 65) ∧ (Bx w_ (x.bk) [.func (.func 37) #[] #[pt x.bm 0]] 64) ∧ (Bx w_ (x.bm) [.slice x.M0 x.g.ow.length x.c0, .slice x.M1 r2.length x.c1] 29) ∧ (Bx w_ (x.bn) [.int .i64 (((x.g.ow.length : Nat) : Int))] 3) ∧ (OwnR w_ (SxP (orN x.T w.heap.size) [some (dL.heap.size), some (w1.heap.size), some (w.heap.size), obk (x.M1), some (x.bd), some (x.bg), some (x.bp), some (x.bk), some (x.bm), some (x.bn), some (eO)]) x.M0 x.c0 3 (nc : List Int)) ∧ (OwnR w_ (SxP (orN x.T w.heap.size) [some (dL.heap.size), some (w1.heap.size), some (w.heap.size), obk (x.M0), some (x.bd), some (x.bg), some (x.bp), some (x.bk), some (x.bm), some (x.bn), some (eO)]) x.M1 x.c1 3 (nd : List Int)) ∧ (Bx w_ (w.heap.size) ((s : List Int).map wV) 44) ∧ (Bx w_ (w1.heap.size) ((([0, 0, 0, 0]) ++ ([0, 0, 0, 0]) : List Int).map wV) 67) ∧ (Bx w_ (dL.heap.size) ((gs : List Int).map wV) 44) ∧ (Bx w_ (eO) ((sc ++ sd : List Int).map wV) 67) ∧ (hA.heap.size ≤ eO) ∧ (hA.heap.size ≤ w_.heap.size) ∧ (PartS x.g (minusS s gs) 0 sc sd q2 r2 nc nd) ∧ (da ≤ dc) ∧ (depth + 1 ≤ dc) ∧ (dc ≤ max (da) (depth + 1 + lenW (minusS s gs)))) ?_ ?_))
  ·obtain ⟨hD, eP⟩ : ∃ c : List (Addr × Value), c = ([(⟨x.bp, 0, none⟩, (.func (.func 38) #[] #[pt x.bd 0, pt x.bg 0, pt x.bp 0, pt x.bk 0, pt x.bm 0, pt x.bn 0]))] : List (Addr × Value)) ++ (blkC (w.heap.size) ((s : List Int).map wV) ++ blkC (dL.heap.size) ((gs : List Int).map wV)) := ⟨_, rfl⟩
   have mU : HoldsC hD hA := by rw [eP]; exact (holdsA (show HoldsC [(⟨x.bp, 0, none⟩, (.func (.func 38) #[] #[pt x.bd 0, pt x.bg 0, pt x.bp 0, pt x.bk 0, pt x.bm 0, pt x.bn 0]))] hA from ⟨(aM.cell (i := 0) rfl), trivial⟩) (holdsA (holds_blk aS) (holds_blk aT)))
   refine AtH.start hD 9 _ κ rfl rfl (fun mV mW => ?_)
   first | (replace pA := pA; have dC := gr_drew mW; have iL := mU.gr dC; have := dC.size; replace aU := aU.gn dC; replace aQ := aQ.gn dC; replace aR := aR.gn dC; replace bA := bA.gn dC; replace aN := aN.gn dC; replace aM := aM.gn dC; replace aO := aO.gn dC; replace aK := aK.gn dC; replace aP := aP.gn dC; replace aA := aA.gn dC; replace aE := aE.gn dC; replace aS := aS.gn dC; replace aV := aV.gn dC; replace aT := aT.gn dC) | (have dC := gr_drew mW; have iL := mU.gr dC; have := dC.size; replace aU := aU.gn dC; replace aQ := aQ.gn dC; replace aR := aR.gn dC; replace bA := bA.gn dC; replace aN := aN.gn dC; replace aM := aM.gn dC; replace aO := aO.gn dC; replace aK := aK.gn dC; replace aP := aP.gn dC; replace aE := aE.gn dC; replace aA := aA.gn dC; replace aS := aS.gn dC; replace aV := aV.gn dC; replace aT := aT.gn dC)
   clear dC mW mU
   refine AtH.rk iL gF [0, 1, 2, 4, 5] 4 [(142, .int .i64 (depth + 1)), (139, .agg ((gs : List Int).map wV).toArray), (138, .agg ((s : List Int).map wV).toArray), (137, .func (.func 38) #[] #[pt x.bd 0, pt x.bg 0, pt x.bp 0, pt x.bk 0, pt x.bm 0, pt x.bn 0])] (.l (CsC_at eP 0 rfl) <| .p (show ((s : List Int).map wV).length = 4 from ((List.length_map _).trans σ)) <| .p (show ∀ (j : Nat) (v : Value), ((s : List Int).map wV)[j]? = some v → ∃ j_ : Nat, hD[j_]? = some (((⟨w.heap.size, 0, none⟩ : Addr).add j), v) from (fun j v hv => List.getElem?_of_mem (by rw [eP]; exact List.mem_append.2 (.inr (List.mem_append.2 (.inl (blkC_in hv))))))) <| .o (.cs ((s : List Int).map wV)) <| .p (show ((gs : List Int).map wV).length = 4 from ((List.length_map _).trans σ)) <| .p (show ∀ (j : Nat) (v : Value), ((gs : List Int).map wV)[j]? = some v → ∃ j_ : Nat, hD[j_]? = some (((⟨dL.heap.size, 0, none⟩ : Addr).add j), v) from (fun j v hv => List.getElem?_of_mem (by rw [eP]; exact List.mem_append.2 (.inr (List.mem_append.2 (.inr (blkC_in hv))))))) <| .o (.cs ((gs : List Int).map wV)) <| .w 142 (depth + 1) <| .n) (fun vX hE => ?_)
   clear gF
   refine AtH.all [3, 7] 3 κ (by simp) ⟨?_, ?_, trivial⟩
   ·refine OneH.cl hE (some 140) (minusS_any (s := s) (t := gs) σ σ) ?_
    rintro e_ mX ⟨rfl, he⟩
    refine ⟨_, rfl, _, rfl, fun vY hF => ?_⟩
    first | (replace pA := pA; clear hE; have dD := gr_ext he; have iM := iL.gr dD; have := dD.size; replace aU := aU.gn dD; replace aQ := aQ.gn dD; replace aR := aR.gn dD; replace bA := bA.gn dD; replace aN := aN.gn dD; replace aM := aM.gn dD; replace aO := aO.gn dD; replace aK := aK.gn dD; replace aP := aP.gn dD; replace aA := aA.gn dD; replace aE := aE.gn dD; replace aS := aS.gn dD; replace aV := aV.gn dD) | (clear hE; have dD := gr_ext he; have iM := iL.gr dD; have := dD.size; replace aU := aU.gn dD; replace aQ := aQ.gn dD; replace aR := aR.gn dD; replace bA := bA.gn dD; replace aN := aN.gn dD; replace aM := aM.gn dD; replace aO := aO.gn dD; replace aK := aK.gn dD; replace aP := aP.gn dD; replace aE := aE.gn dD; replace aA := aA.gn dD; replace aS := aS.gn dD; replace aV := aV.gn dD)
    replace aT := aT.gn dD; clear dD he
    refine ⟨iM, ?_⟩
    refine AtH.all [6, 7] 2 κ (by simp) ⟨?_, ?_, trivial⟩
    ·first | (replace pA := pA; refine OneH.cl hF (some 143) (IH (minusS s gs) hlen1 (r2) (q2) (da) (depth + 1) _ ⟨bA, aN, aM, aO, (aK.as (by first | rfl | (simp only [List.cons.injEq, Value.slice.injEq, true_and, and_true]; omega))), aP, (aA.self.imp (fun g _ hs => ⟨hs.1.2.2.2.2.1, hs.1.2.2.2.2.2.1, hs.1.2.2.2.2.2.2.1, hs.1.2.2.2.2.2.2.2.1, hs.1.2.2.2.2.2.2.2.2.1, hs.1.2.2.2.2.2.2.2.2.2.1, hs.1.2.2.2.2.2.2.2.2.2.2.1, .inl hs.2⟩)), (aE.self.imp (fun g _ hs => ⟨hs.1.2.2.2.2.1, hs.1.2.2.2.2.2.1, hs.1.2.2.2.2.2.2.1, hs.1.2.2.2.2.2.2.2.1, hs.1.2.2.2.2.2.2.2.2.1, hs.1.2.2.2.2.2.2.2.2.2.1, hs.1.2.2.2.2.2.2.2.2.2.2.1, .inr (.inl hs.2)⟩)), aQ, aR⟩ ⟨(okW_minusS σ σ), hlive1, by omega, by omega, by omega, by omega, by omega, by omega⟩) ?_) | (refine OneH.cl hF (some 143) (IH (minusS s gs) hlen1 (q2) (r2) (da) (depth + 1) _ ⟨bA, aN, aM, aO, (aK.as (by first | rfl | (simp only [List.cons.injEq, Value.slice.injEq, true_and, and_true]; omega))), aP, (aE.self.imp (fun g _ hs => ⟨hs.1.2.2.2.2.1, hs.1.2.2.2.2.2.1, hs.1.2.2.2.2.2.2.1, hs.1.2.2.2.2.2.2.2.1, hs.1.2.2.2.2.2.2.2.2.1, hs.1.2.2.2.2.2.2.2.2.2.1, hs.1.2.2.2.2.2.2.2.2.2.2.1, .inl hs.2⟩)), (aA.self.imp (fun g _ hs => ⟨hs.1.2.2.2.2.1, hs.1.2.2.2.2.2.1, hs.1.2.2.2.2.2.2.1, hs.1.2.2.2.2.2.2.2.1, hs.1.2.2.2.2.2.2.2.2.1, hs.1.2.2.2.2.2.2.2.2.2.1, hs.1.2.2.2.2.2.2.2.2.2.2.1, .inr (.inl hs.2)⟩)), aQ, aR⟩ ⟨(okW_minusS σ σ), hlive1, by omega, by omega, by omega, by omega, by omega, by omega⟩) ?_)
     rintro e_ mY ⟨sc, sd, nc, nd, dc, rfl, he_hpc, hbd_hpc, hr0_hpc, hr1_hpc, hpc, hd1_hpc, hd2_hpc, hd3_hpc⟩
     have hla1 := hpc.lp; have hlb1 := hpc.lq; have hok_sc := hpc.okp; have hok_sd := hpc.okq; have hl4_sc := okLen hok_sc; have hl4_sd := okLen hok_sd
     refine ⟨_, rfl, _, rfl, fun vZ mZ => ?_⟩
     clear hF
     first | (replace pA := pA; have nA := iM.tch he_hpc (by rw [eP]; exact (allP_app ⟨(show ¬ _ from by simp only [add_block]; exact (DecS.not (aA.neb (fun g hs => hs.2.2.2.2.2.2.2.1)) (aE.neb (fun g hs => hs.2.2.2.2.2.2.2.1)) ω)), trivial⟩ (allP_app (nT_blk (DecS.not (aA.neb (fun g hs => hs.2.2.2.1)) (aE.neb (fun g hs => hs.2.2.2.1)) ω)) (nT_blk (DecS.not (aA.neb (fun g hs => hs.1)) (aE.neb (fun g hs => hs.1)) ω)))))) | (have nA := iM.tch he_hpc (by rw [eP]; exact (allP_app ⟨(show ¬ _ from by simp only [add_block]; exact (DecS.not (aE.neb (fun g hs => hs.2.2.2.2.2.2.2.1)) (aA.neb (fun g hs => hs.2.2.2.2.2.2.2.1)) ω)), trivial⟩ (allP_app (nT_blk (DecS.not (aE.neb (fun g hs => hs.2.2.2.1)) (aA.neb (fun g hs => hs.2.2.2.1)) ω)) (nT_blk (DecS.not (aE.neb (fun g hs => hs.1)) (aA.neb (fun g hs => hs.1)) ω))))))
     first | (replace pA := pA; have := he_hpc.size; replace aU := aU.tch he_hpc (fun k hk => .inl hk); replace aQ := aQ.tch he_hpc (fun k hk => .inr (K.hT k hk)); replace aR := aR.tch he_hpc (fun k hk => .inr (K.hT k hk)); clear bA; replace aN := aN.tch he_hpc (DecS.not (aA.neb (fun g hs => hs.2.2.2.2.2.2.1)) (aE.neb (fun g hs => hs.2.2.2.2.2.2.1)) ω)) | (have := he_hpc.size; replace aU := aU.tch he_hpc (fun k hk => .inl hk); replace aQ := aQ.tch he_hpc (fun k hk => .inr (K.hT k hk)); replace aR := aR.tch he_hpc (fun k hk => .inr (K.hT k hk)); clear bA; replace aN := aN.tch he_hpc (DecS.not (aE.neb (fun g hs => hs.2.2.2.2.2.2.1)) (aA.neb (fun g hs => hs.2.2.2.2.2.2.1)) ω))
     first | (replace pA := pA; replace aM := aM.tch he_hpc (DecS.not (aA.neb (fun g hs => hs.2.2.2.2.2.2.2.1)) (aE.neb (fun g hs => hs.2.2.2.2.2.2.2.1)) ω); replace aO := aO.tch he_hpc (DecS.not (aA.neb (fun g hs => hs.2.2.2.2.2.2.2.2.1)) (aE.neb (fun g hs => hs.2.2.2.2.2.2.2.2.1)) ω); replace aK := aK.tch he_hpc (DecS.not (aA.neb (fun g hs => hs.2.2.2.2.2.2.2.2.2.1)) (aE.neb (fun g hs => hs.2.2.2.2.2.2.2.2.2.1)) ω)) | (replace aM := aM.tch he_hpc (DecS.not (aE.neb (fun g hs => hs.2.2.2.2.2.2.2.1)) (aA.neb (fun g hs => hs.2.2.2.2.2.2.2.1)) ω); replace aO := aO.tch he_hpc (DecS.not (aE.neb (fun g hs => hs.2.2.2.2.2.2.2.2.1)) (aA.neb (fun g hs => hs.2.2.2.2.2.2.2.2.1)) ω); replace aK := aK.tch he_hpc (DecS.not (aE.neb (fun g hs => hs.2.2.2.2.2.2.2.2.2.1)) (aA.neb (fun g hs => hs.2.2.2.2.2.2.2.2.2.1)) ω))
     first | (replace pA := pA; replace aP := aP.tch he_hpc (DecS.not (aA.neb (fun g hs => hs.2.2.2.2.2.2.2.2.2.2.1)) (aE.neb (fun g hs => hs.2.2.2.2.2.2.2.2.2.2.1)) ω); have fK := OwnR.reS aA hr0_hpc; clear aA hr0_hpc; have fL := OwnR.reS aE hr1_hpc; clear aE hr1_hpc; replace aS := aS.tch he_hpc (DecS.not (fK.neb (fun g hs => hs.2.2.2.1)) (fL.neb (fun g hs => hs.2.2.2.1)) ω)) | (replace aP := aP.tch he_hpc (DecS.not (aE.neb (fun g hs => hs.2.2.2.2.2.2.2.2.2.2.1)) (aA.neb (fun g hs => hs.2.2.2.2.2.2.2.2.2.2.1)) ω); have fK := OwnR.reS aE hr0_hpc; clear aE hr0_hpc; have fL := OwnR.reS aA hr1_hpc; clear aA hr1_hpc; replace aS := aS.tch he_hpc (DecS.not (fK.neb (fun g hs => hs.2.2.2.1)) (fL.neb (fun g hs => hs.2.2.2.1)) ω))
     replace aV := aV.tch he_hpc (DecS.not (fK.neb (fun g hs => hs.2.2.1)) (fL.neb (fun g hs => hs.2.2.1)) ω); replace aT := aT.tch he_hpc (DecS.not (fK.neb (fun g hs => hs.1)) (fL.neb (fun g hs => hs.1)) ω); clear he_hpc
     refine ⟨nA, ?_⟩
     refine AtH.all [7] 1 κ (by simp) ⟨?_, trivial⟩
     refine OneH.bx mZ nA 22 ((([0, 0, 0, 0]) ++ ([0, 0, 0, 0]) : List Int).map wV) 67 (fun wA dP iN pL wB nB => ?_)
     clear mZ; have := dP.size; replace aU := aU.gn dP; replace aQ := aQ.gn dP; replace aR := aR.gn dP; have iO := hbd_hpc.gn dP; clear hbd_hpc; replace aN := aN.gn dP; replace aM := aM.gn dP; replace aO := aO.gn dP; replace aK := aK.gn dP; replace aP := aP.gn dP; replace fK := fK.grN dP; replace fL := fL.grN dP; replace aS := aS.gn dP; replace aV := aV.gn dP; replace aT := aT.gn dP; have := iN.lt
     clear dP
     refine AtH.all [8] 0 κ (by simp) ⟨?_, trivial⟩
     refine OneH.act nB _ rfl (storeBlk (t := 67) (b := mY.heap.size) (n := 8) (cs' := ((sc ++ sd : List Int).map wV)) κ κ (len8 σ σ) oneW_ ((show ((sc ++ sd : List Int).map wV).length = 8 from (len8 σ σ)).trans (show ((([0, 0, 0, 0]) ++ ([0, 0, 0, 0]) : List Int).map wV).length = 8 from (len8 (okLen okW_00) (okLen okW_00))).symm) iN) ?_
     rintro d_ v_ wC ⟨rfl, dE, pM⟩
     have nC := pL.gr' dE (by rw [eP]; exact (allP_app ⟨(by simp only [add_block]; omega), trivial⟩ (allP_app (ne_blk ω) (ne_blk ω))))
     refine ⟨_, rfl, fun wD pN => ⟨nC, ?_⟩⟩
     clear nB; have := dE.size; replace aU := aU.gr dE (fun k h => .inr (by injection h; omega)); replace aQ := aQ.gb dE ω; replace aR := aR.gb dE ω; replace iO := iO.gb dE ω; replace aN := aN.gb dE ω; replace aM := aM.gb dE ω; replace aO := aO.gb dE ω; replace aK := aK.gb dE ω; replace aP := aP.gb dE ω; replace fK := fK.gr dE (fun k hk => hk.1); replace fL := fL.gr dE (fun k hk => hk.1)
     replace aS := aS.gb dE ω; replace aV := aV.gb dE ω; replace aT := aT.gb dE ω; clear iN dE
     refine AtH.done κ ?_
     clear nC
     refine t_n ?_
     exact ⟨sc, sd, nc, nd, dc, mY.heap.size, pN.sb, aU, aQ, aR, iO, aN, aM, aO, aK, aP, (fK.imp (fun g _ hs => ⟨hs.2.1, hs.2.2.2.1, hs.2.2.2.2.1, hs.2.2.2.2.2.1, hs.2.2.2.2.2.2.1, hs.2.2.2.2.2.2.2.1, hs.2.2.2.2.2.2.2.2.1, hs.2.2.2.2.2.2.2.2.2.1, hs.2.2.2.2.2.2.2.2.2.2.1, hs.2.2.2.2.2.2.2.2.2.2.2.1, hs.1, hs.2.2.2.2.2.2.2.2.2.2.2.2⟩)), (fL.imp (fun g _ hs => ⟨hs.2.1, hs.2.2.2.1, hs.2.2.2.2.1, hs.2.2.2.2.2.1, hs.2.2.2.2.2.2.1, hs.2.2.2.2.2.2.2.1, hs.2.2.2.2.2.2.2.2.1, hs.2.2.2.2.2.2.2.2.2.1, hs.2.2.2.2.2.2.2.2.2.2.1, hs.2.2.2.2.2.2.2.2.2.2.2.1, hs.1, hs.2.2.2.2.2.2.2.2.2.2.2.2⟩)), aS, aV, aT, pM, ω, ω, hpc, hd1_hpc, hd2_hpc, hd3_hpc⟩
    refine OneH.bx hF iM 22 ((([0, 0, 0, 0]) ++ ([0, 0, 0, 0]) : List Int).map wV) 67 (fun wE dQ gQ pO wF nD => ?_)
    first | (replace pA := pA; clear hF; have := dQ.size; replace aU := aU.gn dQ; replace aQ := aQ.gn dQ; replace aR := aR.gn dQ; replace bA := bA.gn dQ; replace aN := aN.gn dQ; replace aM := aM.gn dQ; replace aO := aO.gn dQ; replace aK := aK.gn dQ; replace aP := aP.gn dQ; replace aA := aA.grN dQ; replace aE := aE.grN dQ; replace aS := aS.gn dQ; replace aV := aV.gn dQ; replace aT := aT.gn dQ; have := gQ.lt; clear dQ) | (clear hF; have := dQ.size; replace aU := aU.gn dQ; replace aQ := aQ.gn dQ; replace aR := aR.gn dQ; replace bA := bA.gn dQ; replace aN := aN.gn dQ; replace aM := aM.gn dQ; replace aO := aO.gn dQ; replace aK := aK.gn dQ; replace aP := aP.gn dQ; replace aE := aE.grN dQ; replace aA := aA.grN dQ; replace aS := aS.gn dQ; replace aV := aV.gn dQ; replace aT := aT.gn dQ; have := gQ.lt; clear dQ)
    refine AtH.all [6] 1 κ (by simp) ⟨?_, trivial⟩
    first | (replace pA := pA; refine OneH.cl nD (some 143) (IH (minusS s gs) hlen1 (r2) (q2) (da) (depth + 1) _ ⟨bA, aN, aM, aO, (aK.as (by first | rfl | (simp only [List.cons.injEq, Value.slice.injEq, true_and, and_true]; omega))), aP, (aA.self.imp (fun g _ hs => ⟨hs.1.2.2.2.2.2.1, hs.1.2.2.2.2.2.2.1, hs.1.2.2.2.2.2.2.2.1, hs.1.2.2.2.2.2.2.2.2.1, hs.1.2.2.2.2.2.2.2.2.2.1, hs.1.2.2.2.2.2.2.2.2.2.2.1, hs.1.2.2.2.2.2.2.2.2.2.2.2.1, .inl hs.2⟩)), (aE.self.imp (fun g _ hs => ⟨hs.1.2.2.2.2.2.1, hs.1.2.2.2.2.2.2.1, hs.1.2.2.2.2.2.2.2.1, hs.1.2.2.2.2.2.2.2.2.1, hs.1.2.2.2.2.2.2.2.2.2.1, hs.1.2.2.2.2.2.2.2.2.2.2.1, hs.1.2.2.2.2.2.2.2.2.2.2.2.1, .inr (.inl hs.2)⟩)), aQ, aR⟩ ⟨(okW_minusS σ σ), hlive1, by omega, by omega, by omega, by omega, by omega, by omega⟩) ?_) | (refine OneH.cl nD (some 143) (IH (minusS s gs) hlen1 (q2) (r2) (da) (depth + 1) _ ⟨bA, aN, aM, aO, (aK.as (by first | rfl | (simp only [List.cons.injEq, Value.slice.injEq, true_and, and_true]; omega))), aP, (aE.self.imp (fun g _ hs => ⟨hs.1.2.2.2.2.2.1, hs.1.2.2.2.2.2.2.1, hs.1.2.2.2.2.2.2.2.1, hs.1.2.2.2.2.2.2.2.2.1, hs.1.2.2.2.2.2.2.2.2.2.1, hs.1.2.2.2.2.2.2.2.2.2.2.1, hs.1.2.2.2.2.2.2.2.2.2.2.2.1, .inl hs.2⟩)), (aA.self.imp (fun g _ hs => ⟨hs.1.2.2.2.2.2.1, hs.1.2.2.2.2.2.2.1, hs.1.2.2.2.2.2.2.2.1, hs.1.2.2.2.2.2.2.2.2.1, hs.1.2.2.2.2.2.2.2.2.2.1, hs.1.2.2.2.2.2.2.2.2.2.2.1, hs.1.2.2.2.2.2.2.2.2.2.2.2.1, .inr (.inl hs.2)⟩)), aQ, aR⟩ ⟨(okW_minusS σ σ), hlive1, by omega, by omega, by omega, by omega, by omega, by omega⟩) ?_)
    rintro e_ wG ⟨sc, sd, nc, nd, dc, rfl, he_hpc, hbd_hpc, hr0_hpc, hr1_hpc, hpc, hd1_hpc, hd2_hpc, hd3_hpc⟩
    have hla1 := hpc.lp; have hlb1 := hpc.lq; have hok_sc := hpc.okp; have hok_sd := hpc.okq; have hl4_sc := okLen hok_sc; have hl4_sd := okLen hok_sd
    refine ⟨_, rfl, _, rfl, fun wH nE => ?_⟩
    clear nD
    first | (replace pA := pA; have nF := pO.tch he_hpc (by rw [eP]; exact (allP_app ⟨(show ¬ _ from by simp only [add_block]; exact (DecS.not (aA.neb (fun g hs => hs.2.2.2.2.2.2.2.2.1)) (aE.neb (fun g hs => hs.2.2.2.2.2.2.2.2.1)) ω)), trivial⟩ (allP_app (nT_blk (DecS.not (aA.neb (fun g hs => hs.2.2.2.2.1)) (aE.neb (fun g hs => hs.2.2.2.2.1)) ω)) (nT_blk (DecS.not (aA.neb (fun g hs => hs.2.1)) (aE.neb (fun g hs => hs.2.1)) ω)))))) | (have nF := pO.tch he_hpc (by rw [eP]; exact (allP_app ⟨(show ¬ _ from by simp only [add_block]; exact (DecS.not (aE.neb (fun g hs => hs.2.2.2.2.2.2.2.2.1)) (aA.neb (fun g hs => hs.2.2.2.2.2.2.2.2.1)) ω)), trivial⟩ (allP_app (nT_blk (DecS.not (aE.neb (fun g hs => hs.2.2.2.2.1)) (aA.neb (fun g hs => hs.2.2.2.2.1)) ω)) (nT_blk (DecS.not (aE.neb (fun g hs => hs.2.1)) (aA.neb (fun g hs => hs.2.1)) ω))))))
    first | (replace pA := pA; have := he_hpc.size; replace aU := aU.tch he_hpc (fun k hk => .inl hk); replace aQ := aQ.tch he_hpc (fun k hk => .inr (K.hT k hk)); replace aR := aR.tch he_hpc (fun k hk => .inr (K.hT k hk)); clear bA; replace aN := aN.tch he_hpc (DecS.not (aA.neb (fun g hs => hs.2.2.2.2.2.2.2.1)) (aE.neb (fun g hs => hs.2.2.2.2.2.2.2.1)) ω)) | (have := he_hpc.size; replace aU := aU.tch he_hpc (fun k hk => .inl hk); replace aQ := aQ.tch he_hpc (fun k hk => .inr (K.hT k hk)); replace aR := aR.tch he_hpc (fun k hk => .inr (K.hT k hk)); clear bA; replace aN := aN.tch he_hpc (DecS.not (aE.neb (fun g hs => hs.2.2.2.2.2.2.2.1)) (aA.neb (fun g hs => hs.2.2.2.2.2.2.2.1)) ω))
    first | (replace pA := pA; replace aM := aM.tch he_hpc (DecS.not (aA.neb (fun g hs => hs.2.2.2.2.2.2.2.2.1)) (aE.neb (fun g hs => hs.2.2.2.2.2.2.2.2.1)) ω); replace aO := aO.tch he_hpc (DecS.not (aA.neb (fun g hs => hs.2.2.2.2.2.2.2.2.2.1)) (aE.neb (fun g hs => hs.2.2.2.2.2.2.2.2.2.1)) ω); replace aK := aK.tch he_hpc (DecS.not (aA.neb (fun g hs => hs.2.2.2.2.2.2.2.2.2.2.1)) (aE.neb (fun g hs => hs.2.2.2.2.2.2.2.2.2.2.1)) ω)) | (replace aM := aM.tch he_hpc (DecS.not (aE.neb (fun g hs => hs.2.2.2.2.2.2.2.2.1)) (aA.neb (fun g hs => hs.2.2.2.2.2.2.2.2.1)) ω); replace aO := aO.tch he_hpc (DecS.not (aE.neb (fun g hs => hs.2.2.2.2.2.2.2.2.2.1)) (aA.neb (fun g hs => hs.2.2.2.2.2.2.2.2.2.1)) ω); replace aK := aK.tch he_hpc (DecS.not (aE.neb (fun g hs => hs.2.2.2.2.2.2.2.2.2.2.1)) (aA.neb (fun g hs => hs.2.2.2.2.2.2.2.2.2.2.1)) ω))
    first | (replace pA := pA; replace aP := aP.tch he_hpc (DecS.not (aA.neb (fun g hs => hs.2.2.2.2.2.2.2.2.2.2.2.1)) (aE.neb (fun g hs => hs.2.2.2.2.2.2.2.2.2.2.2.1)) ω); have fV := OwnR.reS aA hr0_hpc; clear aA hr0_hpc; have fW := OwnR.reS aE hr1_hpc; clear aE hr1_hpc; replace aS := aS.tch he_hpc (DecS.not (fV.neb (fun g hs => hs.2.2.2.2.1)) (fW.neb (fun g hs => hs.2.2.2.2.1)) ω)) | (replace aP := aP.tch he_hpc (DecS.not (aE.neb (fun g hs => hs.2.2.2.2.2.2.2.2.2.2.2.1)) (aA.neb (fun g hs => hs.2.2.2.2.2.2.2.2.2.2.2.1)) ω); have fV := OwnR.reS aE hr0_hpc; clear aE hr0_hpc; have fW := OwnR.reS aA hr1_hpc; clear aA hr1_hpc; replace aS := aS.tch he_hpc (DecS.not (fV.neb (fun g hs => hs.2.2.2.2.1)) (fW.neb (fun g hs => hs.2.2.2.2.1)) ω))
    replace aV := aV.tch he_hpc (DecS.not (fV.neb (fun g hs => hs.2.2.2.1)) (fW.neb (fun g hs => hs.2.2.2.1)) ω); replace aT := aT.tch he_hpc (DecS.not (fV.neb (fun g hs => hs.2.1)) (fW.neb (fun g hs => hs.2.1)) ω); replace gQ := gQ.tch he_hpc (DecS.not (fV.neb (fun g hs => hs.1)) (fW.neb (fun g hs => hs.1)) ω); clear he_hpc
    refine ⟨nF, ?_⟩
    refine AtH.all [8] 0 κ (by simp) ⟨?_, trivial⟩
    refine OneH.act nE _ rfl (storeBlk (t := 67) (b := mX.heap.size) (n := 8) (cs' := ((sc ++ sd : List Int).map wV)) κ κ (len8 σ σ) oneW_ ((show ((sc ++ sd : List Int).map wV).length = 8 from (len8 σ σ)).trans (show ((([0, 0, 0, 0]) ++ ([0, 0, 0, 0]) : List Int).map wV).length = 8 from (len8 (okLen okW_00) (okLen okW_00))).symm) gQ) ?_
    rintro d_ v_ wI ⟨rfl, dF, pP⟩
    have nG := nF.gr' dF (by rw [eP]; exact (allP_app ⟨(by simp only [add_block]; omega), trivial⟩ (allP_app (ne_blk ω) (ne_blk ω))))
    refine ⟨_, rfl, fun wJ pQ => ⟨nG, ?_⟩⟩
    clear nE; have := dF.size; replace aU := aU.gr dF (fun k h => .inr (by injection h; omega)); replace aQ := aQ.gb dF ω; replace aR := aR.gb dF ω; have pR := hbd_hpc.gb dF ω; clear hbd_hpc; replace aN := aN.gb dF ω; replace aM := aM.gb dF ω; replace aO := aO.gb dF ω; replace aK := aK.gb dF ω; replace aP := aP.gb dF ω; replace fV := fV.gr dF (fun k hk => hk.1)
    replace fW := fW.gr dF (fun k hk => hk.1); replace aS := aS.gb dF ω; replace aV := aV.gb dF ω; replace aT := aT.gb dF ω; clear gQ dF
    refine AtH.done κ ?_
    clear nG
    refine t_n ?_
    exact ⟨sc, sd, nc, nd, dc, mX.heap.size, pQ.sb, aU, aQ, aR, pR, aN, aM, aO, aK, aP, (fV.imp (fun g _ hs => ⟨hs.2.1, hs.2.2.2.1, hs.2.2.2.2.1, hs.2.2.2.2.2.1, hs.2.2.2.2.2.2.1, hs.2.2.2.2.2.2.2.1, hs.2.2.2.2.2.2.2.2.1, hs.2.2.2.2.2.2.2.2.2.1, hs.2.2.2.2.2.2.2.2.2.2.1, hs.2.2.2.2.2.2.2.2.2.2.2.1, hs.1, hs.2.2.2.2.2.2.2.2.2.2.2.2⟩)), (fW.imp (fun g _ hs => ⟨hs.2.1, hs.2.2.2.1, hs.2.2.2.2.1, hs.2.2.2.2.2.1, hs.2.2.2.2.2.2.1, hs.2.2.2.2.2.2.2.1, hs.2.2.2.2.2.2.2.2.1, hs.2.2.2.2.2.2.2.2.2.1, hs.2.2.2.2.2.2.2.2.2.2.1, hs.2.2.2.2.2.2.2.2.2.2.2.1, hs.1, hs.2.2.2.2.2.2.2.2.2.2.2.2⟩)), aS, aV, aT, pP, ω, ω, hpc, hd1_hpc, hd2_hpc, hd3_hpc⟩
   refine OneH.bx hE iL 22 ((([0, 0, 0, 0]) ++ ([0, 0, 0, 0]) : List Int).map wV) 67 (fun wK dR fX pS wL nH => ?_)
   first | (replace pA := pA; clear hE; have := dR.size; replace aU := aU.gn dR; replace aQ := aQ.gn dR; replace aR := aR.gn dR; replace bA := bA.gn dR; replace aN := aN.gn dR; replace aM := aM.gn dR; replace aO := aO.gn dR; replace aK := aK.gn dR; replace aP := aP.gn dR; replace aA := aA.grN dR; replace aE := aE.grN dR; replace aS := aS.gn dR; replace aV := aV.gn dR; replace aT := aT.gn dR; have := fX.lt; clear dR) | (clear hE; have := dR.size; replace aU := aU.gn dR; replace aQ := aQ.gn dR; replace aR := aR.gn dR; replace bA := bA.gn dR; replace aN := aN.gn dR; replace aM := aM.gn dR; replace aO := aO.gn dR; replace aK := aK.gn dR; replace aP := aP.gn dR; replace aE := aE.grN dR; replace aA := aA.grN dR; replace aS := aS.gn dR; replace aV := aV.gn dR; replace aT := aT.gn dR; have := fX.lt; clear dR)
   refine AtH.all [3] 2 κ (by simp) ⟨?_, trivial⟩
   refine OneH.cl nH (some 140) (minusS_any (s := s) (t := gs) σ σ) ?_
   rintro e_ wM ⟨rfl, he⟩
   refine ⟨_, rfl, _, rfl, fun wN nI => ?_⟩
   first | (replace pA := pA; clear nH; have cQ := gr_ext he; have nJ := pS.gr cQ; have := cQ.size; replace aU := aU.gn cQ; replace aQ := aQ.gn cQ; replace aR := aR.gn cQ; replace bA := bA.gn cQ; replace aN := aN.gn cQ; replace aM := aM.gn cQ; replace aO := aO.gn cQ; replace aK := aK.gn cQ; replace aP := aP.gn cQ; replace aA := aA.gn cQ; replace aE := aE.gn cQ; replace aS := aS.gn cQ; replace aV := aV.gn cQ) | (clear nH; have cQ := gr_ext he; have nJ := pS.gr cQ; have := cQ.size; replace aU := aU.gn cQ; replace aQ := aQ.gn cQ; replace aR := aR.gn cQ; replace bA := bA.gn cQ; replace aN := aN.gn cQ; replace aM := aM.gn cQ; replace aO := aO.gn cQ; replace aK := aK.gn cQ; replace aP := aP.gn cQ; replace aE := aE.gn cQ; replace aA := aA.gn cQ; replace aS := aS.gn cQ; replace aV := aV.gn cQ)
   replace aT := aT.gn cQ; replace fX := fX.gn cQ; clear cQ he
   refine ⟨nJ, ?_⟩
   refine AtH.all [6] 1 κ (by simp) ⟨?_, trivial⟩
   first | (replace pA := pA; refine OneH.cl nI (some 143) (IH (minusS s gs) hlen1 (r2) (q2) (da) (depth + 1) _ ⟨bA, aN, aM, aO, (aK.as (by first | rfl | (simp only [List.cons.injEq, Value.slice.injEq, true_and, and_true]; omega))), aP, (aA.self.imp (fun g _ hs => ⟨hs.1.2.2.2.2.2.1, hs.1.2.2.2.2.2.2.1, hs.1.2.2.2.2.2.2.2.1, hs.1.2.2.2.2.2.2.2.2.1, hs.1.2.2.2.2.2.2.2.2.2.1, hs.1.2.2.2.2.2.2.2.2.2.2.1, hs.1.2.2.2.2.2.2.2.2.2.2.2.1, .inl hs.2⟩)), (aE.self.imp (fun g _ hs => ⟨hs.1.2.2.2.2.2.1, hs.1.2.2.2.2.2.2.1, hs.1.2.2.2.2.2.2.2.1, hs.1.2.2.2.2.2.2.2.2.1, hs.1.2.2.2.2.2.2.2.2.2.1, hs.1.2.2.2.2.2.2.2.2.2.2.1, hs.1.2.2.2.2.2.2.2.2.2.2.2.1, .inr (.inl hs.2)⟩)), aQ, aR⟩ ⟨(okW_minusS σ σ), hlive1, by omega, by omega, by omega, by omega, by omega, by omega⟩) ?_) | (refine OneH.cl nI (some 143) (IH (minusS s gs) hlen1 (q2) (r2) (da) (depth + 1) _ ⟨bA, aN, aM, aO, (aK.as (by first | rfl | (simp only [List.cons.injEq, Value.slice.injEq, true_and, and_true]; omega))), aP, (aE.self.imp (fun g _ hs => ⟨hs.1.2.2.2.2.2.1, hs.1.2.2.2.2.2.2.1, hs.1.2.2.2.2.2.2.2.1, hs.1.2.2.2.2.2.2.2.2.1, hs.1.2.2.2.2.2.2.2.2.2.1, hs.1.2.2.2.2.2.2.2.2.2.2.1, hs.1.2.2.2.2.2.2.2.2.2.2.2.1, .inl hs.2⟩)), (aA.self.imp (fun g _ hs => ⟨hs.1.2.2.2.2.2.1, hs.1.2.2.2.2.2.2.1, hs.1.2.2.2.2.2.2.2.1, hs.1.2.2.2.2.2.2.2.2.1, hs.1.2.2.2.2.2.2.2.2.2.1, hs.1.2.2.2.2.2.2.2.2.2.2.1, hs.1.2.2.2.2.2.2.2.2.2.2.2.1, .inr (.inl hs.2)⟩)), aQ, aR⟩ ⟨(okW_minusS σ σ), hlive1, by omega, by omega, by omega, by omega, by omega, by omega⟩) ?_)
   rintro e_ wO ⟨sc, sd, nc, nd, dc, rfl, he_hpc, hbd_hpc, hr0_hpc, hr1_hpc, hpc, hd1_hpc, hd2_hpc, hd3_hpc⟩
   have hla1 := hpc.lp; have hlb1 := hpc.lq; have hok_sc := hpc.okp; have hok_sd := hpc.okq; have hl4_sc := okLen hok_sc; have hl4_sd := okLen hok_sd
   refine ⟨_, rfl, _, rfl, fun wP nK => ?_⟩
   clear nI
   first | (replace pA := pA; have nL := nJ.tch he_hpc (by rw [eP]; exact (allP_app ⟨(show ¬ _ from by simp only [add_block]; exact (DecS.not (aA.neb (fun g hs => hs.2.2.2.2.2.2.2.2.1)) (aE.neb (fun g hs => hs.2.2.2.2.2.2.2.2.1)) ω)), trivial⟩ (allP_app (nT_blk (DecS.not (aA.neb (fun g hs => hs.2.2.2.2.1)) (aE.neb (fun g hs => hs.2.2.2.2.1)) ω)) (nT_blk (DecS.not (aA.neb (fun g hs => hs.2.1)) (aE.neb (fun g hs => hs.2.1)) ω)))))) | (have nL := nJ.tch he_hpc (by rw [eP]; exact (allP_app ⟨(show ¬ _ from by simp only [add_block]; exact (DecS.not (aE.neb (fun g hs => hs.2.2.2.2.2.2.2.2.1)) (aA.neb (fun g hs => hs.2.2.2.2.2.2.2.2.1)) ω)), trivial⟩ (allP_app (nT_blk (DecS.not (aE.neb (fun g hs => hs.2.2.2.2.1)) (aA.neb (fun g hs => hs.2.2.2.2.1)) ω)) (nT_blk (DecS.not (aE.neb (fun g hs => hs.2.1)) (aA.neb (fun g hs => hs.2.1)) ω))))))
   first | (replace pA := pA; have := he_hpc.size; replace aU := aU.tch he_hpc (fun k hk => .inl hk); replace aQ := aQ.tch he_hpc (fun k hk => .inr (K.hT k hk)); replace aR := aR.tch he_hpc (fun k hk => .inr (K.hT k hk)); clear bA; replace aN := aN.tch he_hpc (DecS.not (aA.neb (fun g hs => hs.2.2.2.2.2.2.2.1)) (aE.neb (fun g hs => hs.2.2.2.2.2.2.2.1)) ω)) | (have := he_hpc.size; replace aU := aU.tch he_hpc (fun k hk => .inl hk); replace aQ := aQ.tch he_hpc (fun k hk => .inr (K.hT k hk)); replace aR := aR.tch he_hpc (fun k hk => .inr (K.hT k hk)); clear bA; replace aN := aN.tch he_hpc (DecS.not (aE.neb (fun g hs => hs.2.2.2.2.2.2.2.1)) (aA.neb (fun g hs => hs.2.2.2.2.2.2.2.1)) ω))
   first | (replace pA := pA; replace aM := aM.tch he_hpc (DecS.not (aA.neb (fun g hs => hs.2.2.2.2.2.2.2.2.1)) (aE.neb (fun g hs => hs.2.2.2.2.2.2.2.2.1)) ω); replace aO := aO.tch he_hpc (DecS.not (aA.neb (fun g hs => hs.2.2.2.2.2.2.2.2.2.1)) (aE.neb (fun g hs => hs.2.2.2.2.2.2.2.2.2.1)) ω); replace aK := aK.tch he_hpc (DecS.not (aA.neb (fun g hs => hs.2.2.2.2.2.2.2.2.2.2.1)) (aE.neb (fun g hs => hs.2.2.2.2.2.2.2.2.2.2.1)) ω)) | (replace aM := aM.tch he_hpc (DecS.not (aE.neb (fun g hs => hs.2.2.2.2.2.2.2.2.1)) (aA.neb (fun g hs => hs.2.2.2.2.2.2.2.2.1)) ω); replace aO := aO.tch he_hpc (DecS.not (aE.neb (fun g hs => hs.2.2.2.2.2.2.2.2.2.1)) (aA.neb (fun g hs => hs.2.2.2.2.2.2.2.2.2.1)) ω); replace aK := aK.tch he_hpc (DecS.not (aE.neb (fun g hs => hs.2.2.2.2.2.2.2.2.2.2.1)) (aA.neb (fun g hs => hs.2.2.2.2.2.2.2.2.2.2.1)) ω))
   first | (replace pA := pA; replace aP := aP.tch he_hpc (DecS.not (aA.neb (fun g hs => hs.2.2.2.2.2.2.2.2.2.2.2.1)) (aE.neb (fun g hs => hs.2.2.2.2.2.2.2.2.2.2.2.1)) ω); have fY := OwnR.reS aA hr0_hpc; clear aA hr0_hpc; have fZ := OwnR.reS aE hr1_hpc; clear aE hr1_hpc; replace aS := aS.tch he_hpc (DecS.not (fY.neb (fun g hs => hs.2.2.2.2.1)) (fZ.neb (fun g hs => hs.2.2.2.2.1)) ω)) | (replace aP := aP.tch he_hpc (DecS.not (aE.neb (fun g hs => hs.2.2.2.2.2.2.2.2.2.2.2.1)) (aA.neb (fun g hs => hs.2.2.2.2.2.2.2.2.2.2.2.1)) ω); have fY := OwnR.reS aE hr0_hpc; clear aE hr0_hpc; have fZ := OwnR.reS aA hr1_hpc; clear aA hr1_hpc; replace aS := aS.tch he_hpc (DecS.not (fY.neb (fun g hs => hs.2.2.2.2.1)) (fZ.neb (fun g hs => hs.2.2.2.2.1)) ω))
   replace aV := aV.tch he_hpc (DecS.not (fY.neb (fun g hs => hs.2.2.2.1)) (fZ.neb (fun g hs => hs.2.2.2.1)) ω); replace aT := aT.tch he_hpc (DecS.not (fY.neb (fun g hs => hs.2.1)) (fZ.neb (fun g hs => hs.2.1)) ω); replace fX := fX.tch he_hpc (DecS.not (fY.neb (fun g hs => hs.1)) (fZ.neb (fun g hs => hs.1)) ω); clear he_hpc
   refine ⟨nL, ?_⟩
   refine AtH.all [8] 0 κ (by simp) ⟨?_, trivial⟩
   refine OneH.act nK _ rfl (storeBlk (t := 67) (b := mV.heap.size) (n := 8) (cs' := ((sc ++ sd : List Int).map wV)) κ κ (len8 σ σ) oneW_ ((show ((sc ++ sd : List Int).map wV).length = 8 from (len8 σ σ)).trans (show ((([0, 0, 0, 0]) ++ ([0, 0, 0, 0]) : List Int).map wV).length = 8 from (len8 (okLen okW_00) (okLen okW_00))).symm) fX) ?_
   rintro d_ v_ wQ ⟨rfl, dG, pT⟩
   have nM := nL.gr' dG (by rw [eP]; exact (allP_app ⟨(by simp only [add_block]; omega), trivial⟩ (allP_app (ne_blk ω) (ne_blk ω))))
   refine ⟨_, rfl, fun wR pU => ⟨nM, ?_⟩⟩
   clear nK; have := dG.size; replace aU := aU.gr dG (fun k h => .inr (by injection h; omega)); replace aQ := aQ.gb dG ω; replace aR := aR.gb dG ω; have pV := hbd_hpc.gb dG ω; clear hbd_hpc; replace aN := aN.gb dG ω; replace aM := aM.gb dG ω; replace aO := aO.gb dG ω; replace aK := aK.gb dG ω; replace aP := aP.gb dG ω; replace fY := fY.gr dG (fun k hk => hk.1)
   replace fZ := fZ.gr dG (fun k hk => hk.1); replace aS := aS.gb dG ω; replace aV := aV.gb dG ω; replace aT := aT.gb dG ω; clear fX dG
   refine AtH.done κ ?_
   clear nM
   refine t_n ?_
   exact ⟨sc, sd, nc, nd, dc, mV.heap.size, pU.sb, aU, aQ, aR, pV, aN, aM, aO, aK, aP, (fY.imp (fun g _ hs => ⟨hs.2.1, hs.2.2.2.1, hs.2.2.2.2.1, hs.2.2.2.2.2.1, hs.2.2.2.2.2.2.1, hs.2.2.2.2.2.2.2.1, hs.2.2.2.2.2.2.2.2.1, hs.2.2.2.2.2.2.2.2.2.1, hs.2.2.2.2.2.2.2.2.2.2.1, hs.2.2.2.2.2.2.2.2.2.2.2.1, hs.1, hs.2.2.2.2.2.2.2.2.2.2.2.2⟩)), (fZ.imp (fun g _ hs => ⟨hs.2.1, hs.2.2.2.1, hs.2.2.2.2.1, hs.2.2.2.2.2.1, hs.2.2.2.2.2.2.1, hs.2.2.2.2.2.2.2.1, hs.2.2.2.2.2.2.2.2.1, hs.2.2.2.2.2.2.2.2.2.1, hs.2.2.2.2.2.2.2.2.2.2.1, hs.2.2.2.2.2.2.2.2.2.2.2.1, hs.1, hs.2.2.2.2.2.2.2.2.2.2.2.2⟩)), aS, aV, aT, pT, ω, ω, hpc, hd1_hpc, hd2_hpc, hd3_hpc⟩
  first | (replace pA := pA; clear aQ; clear aR; clear bA; clear aN; clear aM; clear aO; clear aK; clear aP; clear aA; clear aE; clear aS; clear aV; clear aT; clear gF aU) | (clear aQ; clear aR; clear bA; clear aN; clear aM; clear aO; clear aK; clear aP; clear aE; clear aA; clear aS; clear aV; clear aT; clear gF aU)
  intro wS nN ⟨sc, sd, nc, nd, dc, eO, nO, eQ, fM, fN, eR, eX, eY, eZ, fA, fB, fC, fD, nP, fE, fF, fO, wT, wU, hpc, hd1_hpc, hd2_hpc, hd3_hpc⟩
  first | (replace pA := pA; have := eQ.size; have hla1 := hpc.lp; have hlb1 := hpc.lq; have hok_sc := hpc.okp; have hok_sd := hpc.okq; have hl4_sc := okLen hok_sc; have hl4_sd := okLen hok_sd; have := eR.lt; have := eX.lt; have := eY.lt; have := eZ.lt; have := fA.lt; have := fB.lt; have := nP.lt; have := fE.lt; have := fF.lt; have := fO.lt; have hpT : PartS x.g (minusS s gs) 0 sc sd r2 q2 nc nd := hpc; clear nP) | (have := eQ.size; have hla1 := hpc.lp; have hlb1 := hpc.lq; have hok_sc := hpc.okp; have hok_sd := hpc.okq; have hl4_sc := okLen hok_sc; have hl4_sd := okLen hok_sd; have := eR.lt; have := eX.lt; have := eY.lt; have := eZ.lt; have := fA.lt; have := fB.lt; have := nP.lt; have := fE.lt; have := fF.lt; have := fO.lt; have hpT : PartS x.g (minusS s gs) 1 sd sc r2 q2 nd nc := hpc.swap; clear nP)
  refine wp_seq ?_
  obtain ⟨iP, iQ⟩ : ∃ c : List (Addr × Value), c = ([] : List (Addr × Value)) ++ blkC (dL.heap.size) ((gs : List Int).map wV) := ⟨_, rfl⟩
  have nQ : HoldsC iP nN := by rw [iQ]; exact (holdsA (show HoldsC [] nN from trivial) (holds_blk fF))
  refine AtH.start iP 10 _ κ rfl rfl (fun iR nR => ?_)
  have dH := gr_drew nR; have iS := nQ.gr dH; have := dH.size; replace eQ := eQ.gn dH; replace fM := fM.gn dH; replace fN := fN.gn dH; replace eR := eR.gn dH; replace eX := eX.gn dH; replace eY := eY.gn dH; replace eZ := eZ.gn dH; replace fA := fA.gn dH; replace fB := fB.gn dH; replace fC := fC.gn dH; replace fD := fD.gn dH; replace fE := fE.gn dH; replace fF := fF.gn dH; replace fO := fO.gn dH
  clear dH nR nQ
  first | (replace pA := pA; refine AtH.rk iS nO [0, 1, 2, 3, 4, 6] 4 [(150, .agg ((gs : List Int).map wV).toArray), (148, pt eO 4), (145, .int .i64 (1))] (.v 145 (show (.int .i64 (IntKind.i64.wrap (1 - 0)) : Value) = .int .i64 (1) from κ) <| .v 147 (show (.int .i64 (IntKind.i64.wrap (1 - 0)) : Value) = .int .i64 (1) from κ) <| .b 1 2 <| .p (show ((gs : List Int).map wV).length = 4 from ((List.length_map _).trans σ)) <| .p (show ∀ (j : Nat) (v : Value), ((gs : List Int).map wV)[j]? = some v → ∃ j_ : Nat, iP[j_]? = some (((⟨dL.heap.size, 0, none⟩ : Addr).add j), v) from (fun j v hv => List.getElem?_of_mem (by rw [iQ]; exact List.mem_append.2 (.inr (blkC_in hv))))) <| .o (.cs ((gs : List Int).map wV)) <| .n) (fun wW nS => ?_)) | (refine AtH.rk iS nO [0, 1, 2, 3, 4, 6] 4 [(150, .agg ((gs : List Int).map wV).toArray), (148, pt eO 0), (145, .int .i64 (0))] (.v 145 (show (.int .i64 (IntKind.i64.wrap (1 - 1)) : Value) = .int .i64 (0) from κ) <| .v 147 (show (.int .i64 (IntKind.i64.wrap (1 - 1)) : Value) = .int .i64 (0) from κ) <| .b 0 2 <| .p (show ((gs : List Int).map wV).length = 4 from ((List.length_map _).trans σ)) <| .p (show ∀ (j : Nat) (v : Value), ((gs : List Int).map wV)[j]? = some v → ∃ j_ : Nat, iP[j_]? = some (((⟨dL.heap.size, 0, none⟩ : Addr).add j), v) from (fun j v hv => List.getElem?_of_mem (by rw [iQ]; exact List.mem_append.2 (.inr (blkC_in hv))))) <| .o (.cs ((gs : List Int).map wV)) <| .n) (fun wW nS => ?_))
  clear nO
  refine AtH.all [5] 3 κ (by simp) ⟨?_, trivial⟩
  first | (replace pA := pA; refine OneH.seq nS [[.cs ((sd : List Int).map wV)]] [(149, .agg ((sd : List Int).map wV).toArray)] iR [(((sd : List Int).map wV).length = 4), (∀ (j : Nat) (v : Value), ((sd : List Int).map wV)[j]? = some v → iR.cell? ((⟨eO, 4, none⟩ : Addr).add j) = some v)] _ rfl κ κ ⟨((List.length_map _).trans σ), (Bx.wholeR σ fO), trivial⟩ (fun wX pW pX nT => ?_)) | (refine OneH.seq nS [[.cs ((sc : List Int).map wV)]] [(149, .agg ((sc : List Int).map wV).toArray)] iR [(((sc : List Int).map wV).length = 4), (∀ (j : Nat) (v : Value), ((sc : List Int).map wV)[j]? = some v → iR.cell? ((⟨eO, 0, none⟩ : Addr).add j) = some v)] _ rfl κ κ ⟨((List.length_map _).trans σ), (Bx.wholeL fO), trivial⟩ (fun wX pW pX nT => ?_))
  obtain rfl : iR = pW := pX.symm
  clear nS
  refine ⟨iS, ?_⟩
  refine AtH.all [7] 2 κ (by simp) ⟨?_, trivial⟩
  first | (replace pA := pA; refine OneH.cl nT (some 151) (orS_any (s := sd) (t := gs) σ σ) ?_) | (refine OneH.cl nT (some 151) (orS_any (s := sc) (t := gs) σ σ) ?_)
  rintro e_ wY ⟨rfl, he⟩
  refine ⟨_, rfl, _, rfl, fun wZ nU => ?_⟩
  clear nT; have dI := gr_ext he; have iT := iS.gr dI; have := dI.size; replace eQ := eQ.gn dI; replace fM := fM.gn dI; replace fN := fN.gn dI; replace eR := eR.gn dI; replace eX := eX.gn dI; replace eY := eY.gn dI; replace eZ := eZ.gn dI; replace fA := fA.gn dI; replace fB := fB.gn dI; replace fC := fC.gn dI; replace fD := fD.gn dI; replace fE := fE.gn dI; replace fF := fF.gn dI
  replace fO := fO.gn dI; clear dI he
  refine ⟨iT, ?_⟩
  first | (replace pA := pA; refine AtH.rk iT nU [8] 1 [(152, pt eO 4)] (.b 1 2 <| .n) (fun xA nV => ?_)) | (refine AtH.rk iT nU [8] 1 [(152, pt eO 0)] (.b 0 2 <| .n) (fun xA nV => ?_))
  clear nU
  refine AtH.all [9] 0 κ (by simp) ⟨?_, trivial⟩
  first | (replace pA := pA; refine OneH.act nV _ rfl (storeBlkR (f := wV) (a := sc) (c := sd) (x := orS sd gs) (t := 44) (b := eO) (n := 4) κ κ ((List.length_map _).trans (okLen (okW_orS σ σ))) oneW_ σ ((show (orS sd gs).length = 4 from (okLen (okW_orS σ σ))).trans (show sd.length = 4 from σ).symm) fO) ?_) | (refine OneH.act nV _ rfl (storeBlkL (f := wV) (a := sc) (c := sd) (x := orS sc gs) (t := 44) (b := eO) (n := 4) κ κ ((List.length_map _).trans (okLen (okW_orS σ σ))) oneW_ ((show (orS sc gs).length = 4 from (okLen (okW_orS σ σ))).trans (show sc.length = 4 from σ).symm) fO) ?_)
  rintro d_ v_ xB ⟨rfl, dS, hH⟩
  have nW := iT.gr' dS (by rw [iQ]; exact (allP_app trivial (ne_blk ω)))
  refine ⟨_, rfl, fun xC nX => ⟨nW, ?_⟩⟩
  clear nV; have := dS.size; replace eQ := eQ.gr dS (fun k h => .inr (by injection h; omega)); replace fM := fM.gb dS ω; replace fN := fN.gb dS ω; replace eR := eR.gb dS ω; replace eX := eX.gb dS ω; replace eY := eY.gb dS ω; replace eZ := eZ.gb dS ω; replace fA := fA.gb dS ω; replace fB := fB.gb dS ω; replace fC := fC.gr dS (fun k hk => hk.2.2.2.2.2.2.2.2.2.2.1)
  replace fD := fD.gr dS (fun k hk => hk.2.2.2.2.2.2.2.2.2.2.1); replace fE := fE.gb dS ω; replace fF := fF.gb dS ω; clear fO dS
  refine AtH.done κ ?_
  clear nW
  refine t_n ?_
  clear fF
  refine sqs ?_
  first | (replace pA := pA; refine At.rk nX 1 [(153, .agg ((sc ++ (orS sd gs) : List Int).map wV).toArray)] (.p (show ((sc ++ (orS sd gs) : List Int).map wV).length = 8 from (len8 σ (okLen (okW_orS σ σ)))) <| .p hH.whole <| .o (.cs ((sc ++ (orS sd gs) : List Int).map wV)) <| .n) (fun xD nY => ?_)) | (refine At.rk nX 1 [(153, .agg (((orS sc gs) ++ sd : List Int).map wV).toArray)] (.p (show (((orS sc gs) ++ sd : List Int).map wV).length = 8 from (len8 (okLen (okW_orS σ σ)) σ)) <| .p hH.whole <| .o (.cs (((orS sc gs) ++ sd : List Int).map wV)) <| .n) (fun xD nY => ?_))
  clear nX
  first | (replace pA := pA; refine At.act nY (storeBlk (t := 67) (b := w1.heap.size) (n := 8) (cs' := ((sc ++ (orS sd gs) : List Int).map wV)) κ κ (len8 σ (okLen (okW_orS σ σ))) oneW_ ((show ((sc ++ (orS sd gs) : List Int).map wV).length = 8 from (len8 σ (okLen (okW_orS σ σ)))).trans (show ((([0, 0, 0, 0]) ++ ([0, 0, 0, 0]) : List Int).map wV).length = 8 from (len8 (okLen okW_00) (okLen okW_00))).symm) fE) ?_) | (refine At.act nY (storeBlk (t := 67) (b := w1.heap.size) (n := 8) (cs' := (((orS sc gs) ++ sd : List Int).map wV)) κ κ (len8 (okLen (okW_orS σ σ)) σ) oneW_ ((show (((orS sc gs) ++ sd : List Int).map wV).length = 8 from (len8 (okLen (okW_orS σ σ)) σ)).trans (show ((([0, 0, 0, 0]) ++ ([0, 0, 0, 0]) : List Int).map wV).length = 8 from (len8 (okLen okW_00) (okLen okW_00))).symm) fE) ?_)
  rintro d_ v_ xE ⟨rfl, eG, pY⟩
  refine ⟨_, rfl, fun xF pZ => ?_⟩
  clear nY; have := eG.size; replace eQ := eQ.gr eG (fun k h => .inr (by injection h; omega)); replace fM := fM.gb eG ω; replace fN := fN.gb eG ω; replace eR := eR.gb eG ω; replace eX := eX.gb eG ω; replace eY := eY.gb eG ω; replace eZ := eZ.gb eG ω; replace fA := fA.gb eG ω; replace fB := fB.gb eG ω; replace fC := fC.gr eG (fun k hk => hk.2.1); replace fD := fD.gr eG (fun k hk => hk.2.1)
  replace hH := hH.gb eG ω; clear fE eG
  refine At.dn ?_
  clear hH
  refine wp_ret ?_
  first | (replace pA := pA; refine retB_ pZ (sl := 10) (cs := ((sc ++ (orS sd gs) : List Int).map wV)) (m := 8) rfl κ κ (len8 σ (okLen (okW_orS σ σ))) pY ?_) | (refine retB_ pZ (sl := 10) (cs := (((orS sc gs) ++ sd : List Int).map wV)) (m := 8) rfl κ κ (len8 (okLen (okW_orS σ σ)) σ) pY ?_)
  first | (replace pA := pA; have hfin := (part_two hR (.inl rfl) hL ω ω hat hpS hbt hkf_ hrs_ hpT)) | (have hfin := (part_two hR (.inr rfl) hL ω ω hat hpS hbt hkf_ hrs_ hpT).swap)
  first | (replace pA := pA; exact ⟨sc, orS sd gs, _, _, _, rfl, eQ, eR, fC.imp (fun _ _ _ => trivial), fD.imp (fun _ _ _ => trivial), hfin, by omega, by omega, by omega⟩) | (exact ⟨orS sc gs, sd, _, _, _, rfl, eQ, eR, fC.imp (fun _ _ _ => trivial), fD.imp (fun _ _ _ => trivial), hfin, by omega, by omega, by omega⟩)
end Go.Proofs.YtplpgfcjjnaigaaDoor
namespace Go.Proofs.YtplpgfcjjnaigaaDoor
open Go Go.RowKit
theorem top_one {g : GameL} {s t t' : List Int} {h h' : Int} (a : TopT g s t h) (b : TopT g s t' h') : h = h' := by
  obtain ⟨i, hi⟩ := a.ex
  obtain ⟨j, hj⟩ := b.ex
  have h1 := (a.at_ i).1 hi
  have h2 := (b.at_ j).1 hj
  have h3 := b.le i h1.1
  have h4 := a.le j h2.1
  omega
theorem part_any {x : DecS} (K : DecK x) : ∀ (N : Nat) (s : List Int), lenW s < (N : Int) → PartOK x s
  | 0, s, h => by have := (lenW_le s).1; omega
  | N + 1, s, h => fun m0 m1 d depth w hw hb => by
    have IH : ∀ s2, lenW s2 < lenW s → PartOK x s2 := fun s2 h2 => part_any K N s2 (by omega)
    by_cases h1 : ∃ ts hh, TopT x.g s ts hh ∧ hh % 2 = 1
    · exact part_step K hw hb (.inr rfl) IH (fun ts hh ht => by
        obtain ⟨ts', hh', ht', e⟩ := h1
        have := top_one ht ht'
        omega)
    · exact part_step K hw hb (.inl rfl) IH (fun ts hh ht => by
        have : ¬ hh % 2 = 1 := fun e => h1 ⟨ts, hh, ht, e⟩
        omega)
end Go.Proofs.YtplpgfcjjnaigaaDoor
namespace Go.Proofs.YtplpgfcjjnaigaaDoor
open Go Go.RowKit
structure SolT (g : GameL) (s0 s1 m0 m1 : List Int) (d : Int) : Prop where
  ok0 : OkW s0
  ok1 : OkW s1
  sp : Split g g.ow.length (inP s0) (inP s1) (gI m0) (gI m1)
  l0 : m0.length = g.ow.length
  l1 : m1.length = g.ow.length
  no0 : ∀ i : Int, 0 ≤ i → i < (g.ow.length : Int) → ¬ (inP s0 i ∧ gI g.ow i = 0) → gI m0 i = -1
  no1 : ∀ i : Int, 0 ≤ i → i < (g.ow.length : Int) → ¬ (inP s1 i ∧ gI g.ow i = 1) → gI m1 i = -1
  d1 : 1 ≤ d
  d2 : d ≤ (g.ow.length : Int) + 1
def SolveT (g : GameL) (l0 l1 m0 m1 : List Int) (d : Int) : Prop :=
  (isR g = false ∧ l0 = [] ∧ l1 = [] ∧ m0 = [] ∧ m1 = [] ∧ d = 0) ∨ (isR g = true ∧ ∃ s0 s1, l0 = lsD (fromW s0) 256 ∧ l1 = lsD (fromW s1) 256 ∧ SolT g s0 s1 m0 m1 d)
theorem solve_lens {g : GameL} {l0 l1 m0 m1 : List Int} {d : Int} (h : SolveT g l0 l1 m0 m1 d) : l0.length ≤ 256 ∧ l1.length ≤ 256 ∧ m0.length ≤ 200 ∧ m1.length ≤ 200 ∧ 0 ≤ d ∧ d ≤ 201 := by
  rcases h with ⟨_, rfl, rfl, rfl, rfl, rfl⟩ | ⟨hR, s0, s1, rfl, rfl, h⟩
  · decide
  · have := ls_len (fromW s0) 256
    have := ls_len (fromW s1) 256
    have := h.l0
    have := h.l1
    have := (isR_ok hR).n1
    have := h.d1
    have := h.d2
    omega
theorem isR_no {g : GameL} (h : (rightP g).2 ≠ 0) : isR g = false := by unfold isR; simpa using h
def CutK (g : GameL) (s : List Int) (p : Int) (m xs : List Int) (k : Int) : Prop := xs.length = m.length ∧ ∀ i : Int, 0 ≤ i → i < (m.length : Int) → gI xs i = if i < k ∧ ¬ (inP s i ∧ gI g.ow i = p) then -1 else gI m i
section
variable {g : GameL} {s m xs : List Int} {p k : Int}
theorem cutK_0 : CutK g s p m m 0 := ⟨rfl, fun i a b => by rw [if_neg (by omega)]⟩
theorem cutK_no (h : CutK g s p m xs k) (hk : inP s k ∧ gI g.ow k = p) : CutK g s p m xs (k + 1) := ⟨h.1, fun i a b => by
  rw [h.2 i a b]
  by_cases e : i = k
  · subst e
    rw [if_neg (fun h2 => h2.2 hk), if_neg (fun h2 => h2.2 hk)]
  · by_cases h2 : i < k ∧ ¬ (inP s i ∧ gI g.ow i = p)
    · rw [if_pos h2, if_pos ⟨by omega, h2.2⟩]
    · rw [if_neg h2, if_neg (fun h3 => h2 ⟨by omega, h3.2⟩)]⟩
theorem cutK_yes (h : CutK g s p m xs k) (a0 : 0 ≤ k) (b0 : k < (m.length : Int)) (hk : ¬ (inP s k ∧ gI g.ow k = p)) : CutK g s p m (xs.set k.toNat (-1)) (k + 1) := ⟨by rw [List.length_set]; exact h.1, fun i a b => by
  have hl := h.1
  rw [gI_setE a0 (by omega) a]
  by_cases e : k = i
  · subst e
    rw [if_pos rfl, if_pos ⟨by omega, hk⟩]
  · rw [if_neg e, h.2 i a b]
    by_cases h2 : i < k ∧ ¬ (inP s i ∧ gI g.ow i = p)
    · rw [if_pos h2, if_pos ⟨by omega, h2.2⟩]
    · rw [if_neg h2, if_neg (fun h3 => h2 ⟨by omega, h3.2⟩)]⟩
end
theorem inP_full {n : Nat} (h : n ≤ 256) (i : Int) : inP (fullW (n : Int)) i ↔ 0 ≤ i ∧ i < (n : Int) := by
  unfold inP
  constructor
  · rintro ⟨a, b, c⟩
    rw [from_full, gB_fullD a b] at c
    exact ⟨a, of_decide_eq_true c⟩
  · rintro ⟨a, b⟩
    exact ⟨a, by omega, by rw [from_full, gB_fullD a (by omega)]; exact decide_eq_true b⟩
theorem live_full {g : GameL} (hR : isR g = true) : LiveT g (fullW ((g.ow.length : Nat) : Int)) := by
  have hG := isR_ok hR
  have hn := hG.n1
  refine ⟨fun i hi => ((inP_full (by omega) i).1 hi).2, fun i hi => ?_⟩
  have h1 := (inP_full (by omega) i).1 hi
  have h2 := hG.ne i h1.1 h1.2
  refine ⟨gI (gL g.mv i) 0, mem_of_gI (Int.le_refl 0) (by omega), (inP_full (by omega) _).2 ?_⟩
  exact row_rng hR h1.1 h1.2 (mem_of_gI (Int.le_refl 0) (by omega))
theorem lenW_full {n : Nat} (h : n ≤ 256) : lenW (fullW (n : Int)) = (n : Int) := by
  rw [full_len]
  omega
theorem sol_end {g : GameL} (hR : isR g = true) {s0 s1 r0 r1 n0 n1 x0 x1 : List Int} {d k0 k1 : Int} (h : PartS g (fullW ((g.ow.length : Nat) : Int)) 0 s0 s1 r0 r1 n0 n1) (l0 : r0.length = g.ow.length) (l1 : r1.length = g.ow.length) (h0 : CutK g s0 0 n0 x0 k0) (h1 : CutK g s1 1 n1 x1 k1) (e0 : (g.ow.length : Int) ≤ k0) (e1 : (g.ow.length : Int) ≤ k1)
    (d1 : 1 ≤ d) (d2 : d ≤ max 0 (1 + lenW (fullW ((g.ow.length : Nat) : Int)))) : SolT g s0 s1 x0 x1 d := by
  have hn := (isR_ok hR).n1
  have lp := h.lp
  have lq := h.lq
  have hin := fun i => inP_full (n := g.ow.length) (by omega) i
  rw [lenW_full (by omega)] at d2
  have w0 := h.wp.iffI (J := fun i => 0 ≤ i ∧ i < (g.ow.length : Int)) (fun i => (hin i).symm)
  have w1 := h.wq.iffI (J := fun i => 0 ≤ i ∧ i < (g.ow.length : Int)) (fun i => (hin i).symm)
  have hx0 := h0.1
  have hx1 := h1.1
  refine ⟨h.okp, h.okq, ⟨fun i a b => (h.all i).1 ((hin i).2 ⟨a, b⟩), w0.congr fun i hi e => ?_, w1.congr fun i hi e => ?_⟩, by omega, by omega, fun i a b hc => ?_, fun i a b hc => ?_, d1, by omega⟩
  · have hr := w0.sub i hi
    rw [h0.2 i hr.1 (by omega), if_neg (fun h2 => h2.2 ⟨hi, e⟩)]
  · have hr := w1.sub i hi
    rw [h1.2 i hr.1 (by omega), if_neg (fun h2 => h2.2 ⟨hi, e⟩)]
  · rw [h0.2 i a (by omega), if_pos ⟨by omega, hc⟩]
  · rw [h1.2 i a (by omega), if_pos ⟨by omega, hc⟩]
end Go.Proofs.YtplpgfcjjnaigaaDoor
namespace Go.Proofs.YtplpgfcjjnaigaaDoor
open Go Go.RowKit
def copyAt (l : List (Nat × Value)) (ops : List Oper) (k : Nat) : Option (TypeId × Value × Value × Option Nat) :=
  match ops[k]? with
  | none => none
  | some o => match opOk l ops o, o.op with
    | true, .call ⟨.builtin .copy, args, tys⟩ => match args.toList, tys.toList with
      | [x, y], [t, t'] => if Nat.beq t t' = true then some (t, rho l x, rho l y, o.dst) else none
      | _, _ => none
    | _, _ => none
theorem copy_op {P : Program} {l : List (Nat × Value)} {ops : List Oper} {k : Nat} {t : TypeId} {x y : Value} {d : Nat} {w w1 : World} {m : Int} (ha : copyAt l ops k = some (t, x, y, some d)) (hr : ∀ ty, (Builtin.copy_ #[t, t] ty #[x, y]).run P w = .ok (.int .i64 m) w1)
    {R : Option Nat → Value → World → Prop} (hR : R (some d) (.int .i64 m) w1) : ActOp P l ops k w R := by
  unfold copyAt at ha
  cases ho : ops[k]? with
  | none => rw [ho] at ha; simp at ha
  | some o =>
    rw [ho] at ha
    simp only at ha
    split at ha
    · rename_i args tys hok hop
      split at ha
      · rename_i x' y' t1 t2 hargs htys
        split at ha
        · rename_i htt
          simp only [Option.some.injEq, Prod.mk.injEq] at ha
          obtain ⟨rfl, hx, hy, hd⟩ := ha
          have htt : t1 = t2 := by simpa using htt
          subst htt
          have ea : args = #[x', y'] := by cases args; simp_all
          have et : tys = #[t1, t1] := by cases tys; simp_all
          subst ea
          subst et
          refine ⟨o, ho, hok, .value (.int .i64 m), .int .i64 m, w1, ?_, .inl rfl, by rw [hd]; exact hR⟩
          unfold execOp
          simp only [hop, resolve, invoke, builtin, Sem.run_bind, Sem.run_pure, Result.andThen_ok, List.map_toArray, List.map_cons, List.map_nil, hx, hy, hr]
        · simp at ha
      · simp at ha
    · simp at ha
theorem ints_one' (l : List Int) : ∀ v ∈ l.map (Value.int .i64), v.oneCell' = true := fun v hv => by
  obtain ⟨x, _, rfl⟩ := List.mem_map.1 hv
  rfl
theorem rows_ints (l : List Int) : rows l = l.map (Value.int .i64) := flatMap_one _ l
theorem map_put {l zs : List Int} {f : Int → Value} {a : Nat} (h : a + zs.length ≤ l.length) : (l.map f).take a ++ zs.map f ++ (l.map f).drop (a + (zs.map f).length) = (l.take a ++ zs ++ l.drop (a + zs.length)).map f := by
  rw [List.map_append, List.map_append, List.map_take, List.map_drop, List.length_map]
section
variable {P : Program} {l : List (Nat × Value)} {ops : List Oper} {k : Nat} {w : World} {S : Nat → Prop} {A : Option Addr} {c : Nat} {e : TypeId} {xs : List Int} {t d : Nat}
theorem own_put {g o : Nat} {cur : Array Value} {zs : List Int} {q : Nat} (hg : w.heap[g]? = some (.cells cur e (0, 0))) (hn : xs.length ≤ c) (hc : c ≤ maxLen) (hcs : o + c * 1 ≤ cur.size) (ht : (cur.toList.drop o).take (xs.length * 1) = rows xs) (hS : S g) (hq : q + zs.length ≤ xs.length) :
    OwnR (w.setRow g (cur.toList.take (o + q) ++ zs.map (Value.int .i64) ++ cur.toList.drop (o + q + (zs.map (Value.int .i64)).length)).toArray) S (some ⟨g, o, none⟩) c e (xs.take q ++ zs ++ xs.drop (q + zs.length)) := by
  have hl : (xs.take q ++ zs ++ xs.drop (q + zs.length)).length = xs.length := by
    simp only [List.length_append, List.length_take, List.length_drop]
    omega
  unfold OwnR
  rw [hl]
  refine ⟨by rw [rows_len, hl], .inr ⟨g, o, _, rfl, hS, setRow_heap w g cur _ e _ hg, hn, hc, ?_, ?_⟩⟩
  · simp only [List.size_toArray, List.length_append, List.length_take, List.length_drop, Array.length_toList, List.length_map]
    show o + c * 1 ≤ _
    omega
  · show (List.drop o _).take (xs.length * 1) = _
    have hx : xs.map (Value.int .i64) = (cur.toList.drop o).take (xs.length * 1) := by rw [← rows_ints]; exact ht.symm
    rw [rows_ints, ← map_put (a := q) (by omega), hx]
    have hsz : cur.toList.length = cur.size := Array.length_toList
    refine List.ext_getElem? fun j => ?_
    simp only [List.getElem?_take, List.getElem?_append, List.length_append, List.length_take, List.length_drop, Array.length_toList, List.getElem?_drop, List.length_map]
    repeat' split
    all_goals first | rfl | omega | (congr 1; omega) | skip
theorem copyRd {X : Option Addr} {lo hi n m cc bytes : Nat} {ys : List Int} (ha : copyAt l ops k = some (t, .slice A n c, .slice X m cc, some d)) (hok : elemOk P t e 1 bytes = true) (h : OwnR w S A c e xs) (hs : RdI w lo hi X ys) (hn : n = xs.length) (hm : m = ys.length) :
    ActOp P l ops k w fun d' v w1 => d' = some d ∧ v = .int .i64 ((min ys.length xs.length : Nat) : Int) ∧ w.grownBy w1 (obk A) ∧ OwnR w1 S A c e (ys.take (min ys.length xs.length) ++ xs.drop (min ys.length xs.length)) := by
  subst hn hm
  simp only [elemOk, Bool.and_eq_true] at hok
  obtain ⟨⟨k1, k2⟩, k3⟩ := hok
  split at k1
  · rename_i e' hu
    have k1 : e = e' := by simpa using k1
    subst k1
    split at k2
    · rename_i i hi
      simp only [Bool.and_eq_true] at k2
      have hsz : i.size = 1 := by simpa using k2.1.2
      have hsm : (P.info? e).map (·.size) = some 1 := by rw [hi]; simp [hsz]
      rcases h.2 with ⟨rfl, h0, rfl⟩ | ⟨g, o, cur, rfl, hS, hg, hnc, hcm, hcs, ht⟩
      · have hx : xs = [] := List.length_eq_zero_iff.1 h0
        subst hx
        refine copy_op ha (w1 := w) (m := 0) (fun ty => ?_) ⟨rfl, by simp, gr_refl w _, by simpa using h⟩
        cases X <;> simp [Builtin.copy_, run_underlying hu, Builtin.lenOf, Builtin.firstCells, sizeOf, typeInfo, hi, loadCells, loadCellsFrom, goInt]
      · by_cases hy : ys = []
        · subst hy
          refine copy_op ha (w1 := w) (m := 0) (fun ty => ?_) ⟨rfl, by simp, gr_refl w _, by simpa using h⟩
          cases X <;> simp [Builtin.copy_, run_underlying hu, Builtin.lenOf, Builtin.firstCells, sizeOf, typeInfo, hi, loadCells, loadCellsFrom, storeCells, goInt]
        · obtain ⟨ad, hX, _⟩ := hs.row 0 0 (by cases ys with | nil => exact absurd rfl hy | cons _ _ => simp) (by omega)
          subst hX
          have hlen : (ys.take (min ys.length xs.length)).length = min ys.length xs.length := by rw [List.length_take]; omega
          have hr := fun ty => run_copy_row (P := P) w t t ty e g o xs.length c ad ys.length cc cur e ((ys.take (min ys.length xs.length)).map (Value.int .i64)) hu hsm hg (by rw [List.length_map, hlen]) (fun j v hv => by
            have hj := (List.getElem?_eq_some_iff.1 hv).1
            rw [List.length_map, hlen] at hj
            rw [List.getElem?_map, List.getElem?_take, if_pos hj, List.getElem?_eq_getElem (by omega)] at hv
            obtain ⟨ad', hA, _, _, hc⟩ := hs.row j 0 (by omega) (by omega)
            injection hA with hA
            subst hA
            rw [add_zero, Nat.mul_one] at hc
            rw [hc, ← hv]
            show some (Value.int .i64 (ys.getD j 0)) = _
            rw [List.getD_eq_getElem?_getD, List.getElem?_eq_getElem (show j < ys.length by omega)]
            rfl) (by rw [List.length_map, hlen]; have hcs : o + c * 1 ≤ cur.size := hcs; omega) (ints_one' _)
          have hp := own_put (S := S) (zs := ys.take (min ys.length xs.length)) (q := 0) hg hnc hcm hcs ht hS (by rw [hlen]; omega)
          refine copy_op ha hr ⟨rfl, by rw [List.length_map, hlen], ⟨rfl, rfl, rfl, by simp, fun k _ hk => setRow_other w g k _ (fun e => hk (by rw [e]; rfl))⟩, ?_⟩
          simpa [hlen] using hp
    · simp at k2
  · simp at k1
theorem copySelf {n q bytes : Nat} {cc : Nat} (ha : copyAt l ops k = some (t, .slice (if c = q then A else Option.map (fun a_ : Addr => a_.add (q * 1)) A) (n - q) (c - q), .slice A q cc, some d)) (hok : elemOk P t e 1 bytes = true) (h : OwnR w S A c e xs) (hn : n = xs.length) (hq : q < xs.length) :
    ActOp P l ops k w fun d' v w1 => d' = some d ∧ v = .int .i64 ((min q (xs.length - q) : Nat) : Int) ∧ w.grownBy w1 (obk A) ∧ OwnR w1 S A c e (xs.take q ++ xs.take (min q (xs.length - q)) ++ xs.drop (q + min q (xs.length - q))) := by
  subst hn
  simp only [elemOk, Bool.and_eq_true] at hok
  obtain ⟨⟨k1, k2⟩, k3⟩ := hok
  split at k1
  · rename_i e' hu
    have k1 : e = e' := by simpa using k1
    subst k1
    split at k2
    · rename_i i hi
      simp only [Bool.and_eq_true] at k2
      have hsz : i.size = 1 := by simpa using k2.1.2
      have hsm : (P.info? e).map (·.size) = some 1 := by rw [hi]; simp [hsz]
      rcases h.2 with ⟨rfl, h0, rfl⟩ | ⟨g, o, cur, rfl, hS, hg, hnc, hcm, hcs, ht⟩
      · omega
      · have hcs : o + c * 1 ≤ cur.size := hcs
        rw [if_neg (by omega)] at ha
        simp only [Option.map_some, add_plain_o, Nat.mul_one] at ha
        have hlen : (xs.take (min q (xs.length - q))).length = min q (xs.length - q) := by rw [List.length_take]; omega
        have hr := fun ty => run_copy_row (P := P) w t t ty e g (o + q) (xs.length - q) (c - q) ⟨g, o, none⟩ q cc cur e ((xs.take (min q (xs.length - q))).map (Value.int .i64)) hu hsm hg (by rw [List.length_map, hlen]) (fun j v hv => by
          have hj := (List.getElem?_eq_some_iff.1 hv).1
          rw [List.length_map, hlen] at hj
          rw [List.getElem?_map, List.getElem?_take, if_pos hj, List.getElem?_eq_getElem (by omega)] at hv
          have h2 : (rows xs)[j]? = some v := by rw [rows_ints, List.getElem?_map, List.getElem?_eq_getElem (by omega)]; exact hv
          rw [add_plain_o]
          rw [← ht, List.getElem?_take] at h2
          split at h2
          · simp only [World.cell?, hg]
            simpa using h2
          · cases h2) (by rw [List.length_map, hlen]; omega) (ints_one' _)
        have hp := own_put (S := S) (zs := xs.take (min q (xs.length - q))) (q := q) hg hnc hcm hcs ht hS (by rw [hlen]; omega)
        refine copy_op ha hr ⟨rfl, by rw [List.length_map, hlen], ⟨rfl, rfl, rfl, by simp, fun k _ hk => setRow_other w g k _ (fun e => hk (by rw [e]; rfl))⟩, ?_⟩
        rw [hlen] at hp
        exact hp
    · simp at k2
  · simp at k1
end
def RepT (v n : Int) (xs : List Int) (k : Int) : Prop := xs = List.replicate k.toNat v ++ List.replicate (n - k).toNat 0
theorem rep_len {v n k : Int} {xs : List Int} (h : RepT v n xs k) (a : 0 ≤ k) (b : k ≤ n) : xs.length = n.toNat := by
  rw [h, List.length_append, List.length_replicate, List.length_replicate]
  omega
theorem rep_0 {n : Int} {la zs : List Int} (h1 : la.length = 1) (h0 : 0 ≤ n) (hz : zs = List.replicate n.toNat (0 : Int)) : RepT (gI la 0) n (la.take (min la.length zs.length) ++ zs.drop (min la.length zs.length)) ((min la.length zs.length : Nat) : Int) := by
  subst hz
  obtain ⟨x, rfl⟩ : ∃ x, la = [x] := by
    cases la with
    | nil => simp at h1
    | cons x r => cases r with
      | nil => exact ⟨x, rfl⟩
      | cons y r => simp at h1
  unfold RepT
  simp only [List.length_singleton, List.length_replicate, List.drop_replicate]
  by_cases hn : n.toNat = 0
  · simp [hn, gI]
  · have e : min 1 n.toNat = 1 := by omega
    rw [e]
    have e2 : (n - ((1 : Nat) : Int)).toNat = n.toNat - 1 := by omega
    rw [e2]
    rfl
theorem rep_next {v n k : Int} {xs : List Int} (h : RepT v n xs k) (a : 0 ≤ k) (b : k ≤ n) : RepT v n (xs.take k.toNat ++ xs.take (min k.toNat (xs.length - k.toNat)) ++ xs.drop (k.toNat + min k.toNat (xs.length - k.toNat))) (k + ((min k.toNat (xs.length - k.toNat) : Nat) : Int)) := by
  have hl := rep_len h a b
  obtain ⟨m, hm⟩ : ∃ m, m = min k.toNat (xs.length - k.toNat) := ⟨_, rfl⟩
  rw [← hm]
  unfold RepT at h ⊢
  have e1 : xs.take k.toNat = List.replicate k.toNat v := by rw [h, List.take_left' (by simp)]
  have e2 : xs.take m = List.replicate m v := by
    rw [h, List.take_append_of_le_length (by simp; omega), List.take_replicate, Nat.min_eq_left (by omega)]
  have e3 : xs.drop (k.toNat + m) = List.replicate (n - (k + (m : Int))).toNat 0 := by
    rw [h, List.drop_append, List.length_replicate, List.drop_of_length_le (by simp), List.nil_append, List.drop_replicate]
    congr 1
    omega
  rw [e1, e2, e3, List.replicate_append_replicate]
  congr 2
  omega
theorem rep_end {v n k : Int} {xs : List Int} (h : RepT v n xs k) (a : 0 ≤ k) (b : k ≤ n) (c : n ≤ k) : xs = List.replicate n.toNat v := by
  obtain rfl : k = n := by omega
  rw [h]
  simp
theorem mask32 {n : Int} (a : 0 ≤ n) (b : n < 4294967296) : IntKind.u64.wrap (((BitVec.ofInt 64 n &&& BitVec.ofInt 64 4294967295).toNat : Nat) : Int) = n := by
  obtain ⟨m, rfl⟩ : ∃ m : Nat, n = (m : Int) := ⟨n.toNat, by omega⟩
  have e : (BitVec.ofInt 64 ((m : Nat) : Int) &&& BitVec.ofInt 64 4294967295).toNat = m := by
    rw [BitVec.toNat_and]
    have e1 : (BitVec.ofInt 64 ((m : Nat) : Int)).toNat = m := by
      rw [BitVec.toNat_ofInt]
      omega
    have e2 : (BitVec.ofInt 64 4294967295).toNat = 2 ^ 32 - 1 := by decide
    rw [e1, e2, Nat.and_two_pow_sub_one_eq_mod]
    omega
  rw [e]
  have := wu64 (x := (m : Int)) (by omega) (by omega)
  injection this
theorem shr32 {n : Int} (a : 0 ≤ n) (b : n < 4294967296) : n.fdiv (2 ^ (min (32 : Int).toNat IntKind.u64.bits)) = 0 := by
  have e : (2 : Int) ^ (min (32 : Int).toNat IntKind.u64.bits) = 4294967296 := by decide
  rw [e, Int.fdiv_eq_ediv_of_nonneg _ (by omega)]
  omega
theorem wrapM {n m : Int} (e : n = m) (a : 0 ≤ m) (b : m < 4294967296) : IntKind.u64.wrap n = m := by
  subst e
  have := wu64 (x := n) (by omega) (by omega)
  injection this
end Go.Proofs.YtplpgfcjjnaigaaDoor
namespace Go.Proofs.YtplpgfcjjnaigaaDoor
open Go Go.RowKit
def idxI (l : List Int) (v : Int) : Int := if v ∈ l then ((l.idxOf v : Nat) : Int) else -1
theorem notin_next {l : List Int} {v k : Int} (h0 : 0 ≤ k) (h1 : k < (l.length : Int)) (h : v ∉ l.take k.toNat) (e : v ≠ gI l k) : v ∉ l.take (k + 1).toNat := by
  rw [show (k + 1).toNat = k.toNat + 1 by omega, List.take_succ_eq_append_getElem (by omega)]
  simp only [gI, List.getD_eq_getElem?_getD, List.getElem?_eq_getElem (show k.toNat < l.length by omega), Option.getD_some] at e
  simp only [List.mem_append, List.mem_singleton, not_or]
  exact ⟨h, e⟩
theorem in_at {l : List Int} {v k : Int} (h0 : 0 ≤ k) (h1 : k < (l.length : Int)) (e : v = gI l k) : v ∈ l := by
  simp only [gI, List.getD_eq_getElem?_getD, List.getElem?_eq_getElem (show k.toNat < l.length by omega), Option.getD_some] at e
  rw [e]
  exact List.getElem_mem _
theorem notin_all {l : List Int} {v k : Int} (h : v ∉ l.take k.toNat) (h1 : (l.length : Int) ≤ k) : v ∉ l := by
  rwa [List.take_of_length_le (by omega)] at h
theorem idx_at {l : List Int} {v k : Int} (h0 : 0 ≤ k) (h1 : k < (l.length : Int)) (h : v ∉ l.take k.toNat) (e : v = gI l k) : k = idxI l v := by
  have hin := in_at h0 h1 e
  rw [idxI, if_pos hin]
  have h3 : k.toNat < l.length := by omega
  have h2 : l = l.take k.toNat ++ l.drop k.toNat := (List.take_append_drop _ _).symm
  have h4 : l.idxOf v = k.toNat := by
    rw [h2, List.idxOf_append, if_neg h, List.drop_eq_getElem_cons h3]
    simp only [gI, List.getD_eq_getElem?_getD, List.getElem?_eq_getElem h3, Option.getD_some] at e
    rw [← e, List.idxOf_cons_self, List.length_take]
    omega
  rw [h4]
  omega
theorem idx_no {l : List Int} {v k : Int} (h : v ∉ l.take k.toNat) (h1 : (l.length : Int) ≤ k) : -1 = idxI l v := by
  rw [idxI, if_neg (notin_all h h1)]
theorem idx_in (l : List Int) (v : Int) : decide (idxI l v ≥ 0) = decide (v ∈ l) := by
  unfold idxI
  split
  · rename_i h
    simp only [h, decide_true, decide_eq_true_eq]
    omega
  · rename_i h
    simp [h]
theorem notin_zero (l : List Int) (v : Int) : v ∉ l.take (0 : Int).toNat := by simp
end Go.Proofs.YtplpgfcjjnaigaaDoor
