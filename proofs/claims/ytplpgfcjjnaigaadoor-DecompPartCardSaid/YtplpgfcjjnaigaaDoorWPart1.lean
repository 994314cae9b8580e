/-
  A walk of a Go function, printed by a program of this repo. Conditions: what the theorems name.
-/
import Derived.Test.YtplpgfcjjnaigaaDoorWDecA
set_option linter.unusedVariables false
set_option linter.unusedSimpArgs false
namespace Go.Proofs.YtplpgfcjjnaigaaDoor
open Go Go.RowKit

attribute [local irreducible] ofZ fromW wordsD ofD ofW lsD lenW lenN fullW withW lessW hasW hasD inW inD leastD putD onI tzI orS andS minusS orD andD minusD fullD emptyD
set_option maxHeartbeats 4000000 in
theorem part1_step {x : DecS} (K : DecK x) {s m0 m1 : List Int} {d depth : Int} {w : World} (h : DecW w x d m0 m1) (B : DecB x s m0 m1 d depth) (IH : ∀ s2, lenW s2 < lenW s → PartOK x s2) (hp0 : ∀ ts hh, TopT x.g s ts hh → hh % 2 = 1) :
    Calls Tryd.prog 38 #[.agg ((s : List Int).map wV).toArray, .int .i64 (depth), .pointer (some ⟨x.bd, 0, none⟩), .pointer (some ⟨x.bg, 0, none⟩), .pointer (some ⟨x.bp, 0, none⟩), .pointer (some ⟨x.bk, 0, none⟩), .pointer (some ⟨x.bm, 0, none⟩), .pointer (some ⟨x.bn, 0, none⟩)] w fun e w' => DecR x s m0 m1 d depth w e w' := by
 have kd := h.wd; have kg := h.wg
 have kp : Bx w x.bp [.func (.func 38) #[] #[.pointer (some ⟨x.bd, 0, none⟩), .pointer (some ⟨x.bg, 0, none⟩), .pointer (some ⟨x.bp, 0, none⟩), .pointer (some ⟨x.bk, 0, none⟩), .pointer (some ⟨x.bm, 0, none⟩), .pointer (some ⟨x.bn, 0, none⟩)]] 65 := h.wp
 have kk : Bx w x.bk [.func (.func 37) #[] #[.pointer (some ⟨x.bm, 0, none⟩)]] 64 := h.wk; have km := h.wm; have kn := h.wn; have q0 := h.r0.toP (n := w.heap.size) (os := [obk x.M1, some x.bd, some x.bg, some x.bp, some x.bk, some x.bm, some x.bn]) (fun _ _ hs => hs)
 have q1 := h.r1.toP (n := w.heap.size) (os := [obk x.M0, some x.bd, some x.bg, some x.bp, some x.bk, some x.bm, some x.bn]) (fun _ _ hs => hs); have kr := h.rg; have kt := h.rt; have hM0 := h.r0.lt; have hM1 := h.r1.lt; clear h; have hR := K.hR; have hG := isR_ok hR; have hn1 := hG.n1; have hn0 := hG.n0; have hpl := hG.pl; have hml := hG.ml; have hdg := K.dg; have hhd := K.hd; have hs := B.ok
 have hs4 := okLen hs; have hL := B.live; have hl0_ := B.l0; have hl1_ := B.l1; have hb0 := B.d0; have hb1 := B.d1; have hb2 := B.e0; have hb3 := B.e1; have hkl := kd.lt; have hkg := kg.lt; have hkp := kp.lt; have hkk := kk.lt; have hkm := km.lt; have hkn := kn.lt; have hlg0 := kr.ow.len; have hlg1 := kr.pr.len; have hlg2 := kr.mv.len; have hkc0 := kr.k0; have hkc1 := kr.k1; have hkc2 := kr.k2
 have hsl_ := lenW_le s
 refine enter_ (args := [.agg ((s : List Int).map wV).toArray, .int .i64 (depth), .pointer (some ⟨x.bd, 0, none⟩), .pointer (some ⟨x.bg, 0, none⟩), .pointer (some ⟨x.bp, 0, none⟩), .pointer (some ⟨x.bk, 0, none⟩), .pointer (some ⟨x.bm, 0, none⟩), .pointer (some ⟨x.bn, 0, none⟩)]) Tryd.func38 rfl Tryd.ntmps38 (Nat.le_of_ble_eq_true rfl) (fun act0 f0 => ?_)
 have e0 : Tch (x.T) w w := Tch.refl w
 refine wp_seq ?_
 refine At.start ?_
 refine At.seq f0 1 [[]] [(8, .pointer (some ⟨w.heap.size, 0, none⟩))] (w.alloc (.cells ((s : List Int).map wV).toArray 44 (0, 0))) [] (by kernel_rfl) trivial (fun act4 w1 hw2 f3 => ?_)
 clear f0; have g5 := gr_alloc hw2; have := g5.size; replace e0 := e0.gn g5; have r8 := kr.gn g5; clear kr; have r9 := kt.gn g5; clear kt; have gX := kd.gn g5; clear kd; have aD := kg.gn g5; clear kg; have aG := kp.gn g5; clear kp; have aH := kk.gn g5; clear kk; have aI := km.gn g5; clear km; have aJ := kn.gn g5; clear kn; have aB := q0.grN g5; clear q0; have aC := q1.grN g5; clear q1
 have aF : Bx w1 (w.heap.size) ((s : List Int).map wV) 44 := Bx.new hw2; have := aF.lt; clear g5 hw2
 refine At.seq f3 1 [[]] [(10, .pointer (some ⟨w1.heap.size, 0, none⟩))] (w1.alloc (.cells ((([0, 0, 0, 0]) ++ ([0, 0, 0, 0]) : List Int).map wV).toArray 67 (0, 0))) [] (by kernel_rfl) trivial (fun rX jV iE jW => ?_)
 clear f3; have eD := gr_alloc iE; have := eD.size; replace e0 := e0.gn eD; replace r8 := r8.gn eD; replace r9 := r9.gn eD; replace gX := gX.gn eD; replace aD := aD.gn eD; replace aG := aG.gn eD; replace aH := aH.gn eD; replace aI := aI.gn eD; replace aJ := aJ.gn eD; replace aB := aB.grN eD; replace aC := aC.grN eD; replace aF := aF.gn eD
 have aL : Bx jV (w1.heap.size) ((([0, 0, 0, 0]) ++ ([0, 0, 0, 0]) : List Int).map wV) 67 := Bx.new iE; have := aL.lt; clear eD iE
 refine At.done rfl ?_
 refine t_n ?_
 refine wp_seq ?_
 refine At.start ?_
 refine At.rd jW 3 [[.ld (.int .i64 (d))], [], [.as_ (.int .i64 (max d depth))]] [(25, .int .i64 (max d depth)), (24, .int .i64 (depth)), (23, .int .i64 (d))] [(jV.cell? ⟨x.bd, 0, none⟩ = some (.int .i64 (d))), ((.int .i64 (if depth > d then depth else d) : Value) = .int .i64 (max d depth))] (by kernel_rfl) ⟨(gX.cell (i := 0) rfl), (congrArg (Value.int .i64) (max_if _ _)), trivial⟩ (fun rY jX => ?_)
 clear jW
 refine At.store jX (t := 3) (b := x.bd) (off := 0) (v := .int .i64 (max d depth)) (by kernel_rfl) gX (by kernel_rfl) (fun rZ gC eE aX jY => ?_)
 clear jX; replace aX : Bx gC (x.bd) [.int .i64 (max d depth)] 3 := aX; have := eE.size; replace e0 := e0.gr eE (fun k h => .inl (.inr (.inr (Option.some.inj h).symm))); replace r8 := r8.gb eE (by omega); replace r9 := r9.gb eE (by omega); replace aD := aD.gb eE (by omega); replace aG := aG.gb eE (by omega); replace aH := aH.gb eE (by omega); replace aI := aI.gb eE (by omega)
 replace aJ := aJ.gb eE (by omega); replace aB := aB.gr eE (fun k hk => hk.2.2.2.1); replace aC := aC.gr eE (fun k hk => hk.2.2.2.1); replace aF := aF.gb eE (by omega); replace aL := aL.gb eE (by omega); clear gX eE
 refine At.done rfl ?_
 refine t_n ?_
 refine wp_seq ?_
 refine wp_seq ?_
 refine At.start ?_
 refine At.rd jY 3 [[.cs ((s : List Int).map wV)], [], [.cs [wV (gI s 0), wV (gI s 1), wV (gI s 2), wV (gI s 3)], .cs [wV (gI ([0, 0, 0, 0]) 0), wV (gI ([0, 0, 0, 0]) 1), wV (gI ([0, 0, 0, 0]) 2), wV (gI ([0, 0, 0, 0]) 3)], .as_ (.bool (decide ((s : List Int) = ([0, 0, 0, 0]))))]] [(28, .bool (decide ((s : List Int) = ([0, 0, 0, 0])))), (27, .agg (([0, 0, 0, 0] : List Int).map wV).toArray), (26, .agg ((s : List Int).map wV).toArray)] [(((s : List Int).map wV).length = 4), (∀ (j : Nat) (v : Value), ((s : List Int).map wV)[j]? = some v → gC.cell? ((⟨w.heap.size, 0, none⟩ : Addr).add j) = some v), (((s : List Int).map wV).toArray = ([wV (gI s 0), wV (gI s 1), wV (gI s 2), wV (gI s 3)] : List Value).toArray), ((([0, 0, 0, 0] : List Int).map wV).toArray = ([wV (gI ([0, 0, 0, 0]) 0), wV (gI ([0, 0, 0, 0]) 1), wV (gI ([0, 0, 0, 0]) 2), wV (gI ([0, 0, 0, 0]) 3)] : List Value).toArray), ((.bool ((((gI s 0 : Int) == gI ([0, 0, 0, 0]) 0) && (((gI s 1 : Int) == gI ([0, 0, 0, 0]) 1) && (((gI s 2 : Int) == gI ([0, 0, 0, 0]) 2) && (((gI s 3 : Int) == gI ([0, 0, 0, 0]) 3) && true))))) : Value) = .bool (decide ((s : List Int) = ([0, 0, 0, 0]))))] (by kernel_rfl) ⟨((List.length_map _).trans (by assumption)), aF.whole, (map4 (by assumption)), (map4 (okLen okW_00)), (congrArg (fun b => Value.bool b) (w4_eq (by assumption) (okLen okW_00))), trivial⟩ (fun sA gY => ?_)
 clear jY
 refine At.done rfl ?_
 refine t_n ?_
 refine cond_S gY (t := decide ((s : List Int) = ([0, 0, 0, 0]))) rfl (fun iF => ?_) (fun iF => ?_)
 ·have sB := of_decide_eq_true iF
  refine wp_seq ?_
  refine At.start ?_
  refine At.rd gY 1 [[]] [(29, .agg ((([0, 0, 0, 0]) ++ ([0, 0, 0, 0]) : List Int).map wV).toArray)] [] (by kernel_rfl) trivial (fun sC jZ => ?_)
  clear gY
  refine At.act jZ (storeBlk (t := 67) (b := w1.heap.size) (n := 8) (cs' := ((([0, 0, 0, 0]) ++ ([0, 0, 0, 0]) : List Int).map wV)) (by kernel_rfl) (by kernel_rfl) (len8 (okLen okW_00) (okLen okW_00)) oneW_ ((show ((([0, 0, 0, 0]) ++ ([0, 0, 0, 0]) : List Int).map wV).length = 8 from (len8 (okLen okW_00) (okLen okW_00))).trans (show ((([0, 0, 0, 0]) ++ ([0, 0, 0, 0]) : List Int).map wV).length = 8 from (len8 (okLen okW_00) (okLen okW_00))).symm) aL) ?_
  rintro d_ v_ sD ⟨rfl, eF, pB⟩
  refine ⟨_, rfl, fun sE pC => ?_⟩
  clear jZ; have := eF.size; replace e0 := e0.gr eF (fun k h => .inr (by injection h; omega)); replace r8 := r8.gb eF (by omega); replace r9 := r9.gb eF (by omega); replace aX := aX.gb eF (by omega); replace aD := aD.gb eF (by omega); replace aG := aG.gb eF (by omega); replace aH := aH.gb eF (by omega); replace aI := aI.gb eF (by omega); replace aJ := aJ.gb eF (by omega)
  replace aB := aB.gr eF (fun k hk => hk.1); replace aC := aC.gr eF (fun k hk => hk.1); replace aF := aF.gb eF (by omega); clear aL eF
  refine At.done rfl ?_
  refine t_n ?_
  clear aF
  refine wp_ret ?_
  refine t_r ?_
  refine retB_ pC (sl := 10) (cs := ((([0, 0, 0, 0]) ++ ([0, 0, 0, 0]) : List Int).map wV)) (m := 8) rfl (by kernel_rfl) (by kernel_rfl) (len8 (okLen okW_00) (okLen okW_00)) pB ?_
  have he_ : s = [0, 0, 0, 0] := by assumption
  subst he_
  exact ⟨[0, 0, 0, 0], [0, 0, 0, 0], _, _, _, rfl, e0, aX, aB.imp (fun _ _ _ => trivial), aC.imp (fun _ _ _ => trivial), part_empty, by omega, by omega, by omega⟩
 have sF := of_decide_eq_false iF
 refine wp_skip ?_
 refine t_n ?_
 refine wp_seq ?_
 have hne_ := inP_none hs (by assumption)
 refine At.start ?_
 refine At.rd gY 2 [[.ld (.slice x.A0 x.g.ow.length x.k0), .ld (.slice x.A1 x.g.pr.length x.k1), .ld (.slice x.A2 x.g.mv.length x.k2)], [.cs ((s : List Int).map wV)]] [(31, .agg ((s : List Int).map wV).toArray), (30, .agg #[.slice x.A0 x.g.ow.length x.k0, .slice x.A1 x.g.pr.length x.k1, .slice x.A2 x.g.mv.length x.k2])] [(gC.cell? ⟨x.bg, 0, none⟩ = some (.slice x.A0 x.g.ow.length x.k0)), (gC.cell? ⟨x.bg, 1, none⟩ = some (.slice x.A1 x.g.pr.length x.k1)), (gC.cell? ⟨x.bg, 2, none⟩ = some (.slice x.A2 x.g.mv.length x.k2)), (((s : List Int).map wV).length = 4), (∀ (j : Nat) (v : Value), ((s : List Int).map wV)[j]? = some v → gC.cell? ((⟨w.heap.size, 0, none⟩ : Addr).add j) = some v)] (by kernel_rfl) ⟨(aD.cell (i := 0) rfl), (aD.cell (i := 1) rfl), (aD.cell (i := 2) rfl), ((List.length_map _).trans (by assumption)), aF.whole, trivial⟩ (fun sG kA => ?_)
 clear gY
 refine At.call kA 39 #[.agg #[.slice x.A0 x.g.ow.length x.k0, .slice x.A1 x.g.pr.length x.k1, .slice x.A2 x.g.mv.length x.k2], .agg ((s : List Int).map wV).toArray] (some 32) (by kernel_rfl) (top_any (g := x.g) (s := s) (r8.wide (Nat.zero_le _) (by omega)) (by assumption) (r9.wide (Nat.zero_le _) (by omega)) hR hL.lt hne_) ?_
 rintro e_ bM ⟨tt, hh, rfl, he, hTT⟩
 have hokt := hTT.ok; have hl4t := okLen hokt
 refine ⟨_, rfl, _, rfl, fun sH kB => ?_⟩
 clear kA; have dX := gr_ext he; have := dX.size; replace e0 := e0.gn dX; replace r8 := r8.gn dX; replace r9 := r9.gn dX; replace aX := aX.gn dX; replace aD := aD.gn dX; replace aG := aG.gn dX; replace aH := aH.gn dX; replace aI := aI.gn dX; replace aJ := aJ.gn dX; replace aB := aB.gn dX; replace aC := aC.gn dX; replace aF := aF.gn dX; replace aL := aL.gn dX; clear dX he
 refine At.seq kB 1 [[]] [(11, .pointer (some ⟨bM.heap.size, 0, none⟩))] (bM.alloc (.cells ((List.replicate 4 (0 : Int) : List Int).map wV).toArray 44 (0, 0))) [] (by kernel_rfl) trivial (fun sI pD iG kC => ?_)
 clear kB; have dY := gr_alloc iG; have := dY.size; replace e0 := e0.gn dY; replace r8 := r8.gn dY; replace r9 := r9.gn dY; replace aX := aX.gn dY; replace aD := aD.gn dY; replace aG := aG.gn dY; replace aH := aH.gn dY; replace aI := aI.gn dY; replace aJ := aJ.gn dY; replace aB := aB.grN dY; replace aC := aC.grN dY; replace aF := aF.gn dY; replace aL := aL.gn dY
 have iH : Bx pD (bM.heap.size) ((List.replicate 4 (0 : Int) : List Int).map wV) 44 := Bx.new iG; have := iH.lt; clear dY iG
 refine At.act kC (storeBlk (t := 44) (b := bM.heap.size) (n := 4) (cs' := ((tt : List Int).map wV)) (by kernel_rfl) (by kernel_rfl) ((List.length_map _).trans (by assumption)) oneW_ ((show ((tt : List Int).map wV).length = 4 from ((List.length_map _).trans (by assumption))).trans (show ((List.replicate 4 (0 : Int) : List Int).map wV).length = 4 from (by simp only [List.length_map, List.length_set, List.length_replicate, List.length_cons, List.length_nil]; first | done | assumption | exact from_len _ | exact of_len _ | exact ofZ_len _ | exact (ofW_ok _).1 | exact (fullW_W _).1 | exact (okW_with (by assumption)).1 | exact (okW_less (by assumption)).1 | exact put_len (from_len _) | exact orD_len _ _ | exact andD_len _ _ | exact minusD_len _ _ | exact fullD_len _ | (refine okLen ?_; (repeat (first | assumption | exact ofW_ok _ | exact fullW_W _ | apply okW_with | apply okW_less | refine okW_orS ?_ ?_ | refine okW_andS ?_ ?_ | refine okW_minusS ?_ ?_)); done) | omega | rfl)).symm) iH) ?_
 rintro d_ v_ kD ⟨rfl, dZ, aW⟩
 refine ⟨_, rfl, fun sJ kE => ?_⟩
 clear kC; have := dZ.size; replace e0 := e0.gr dZ (fun k h => .inr (by injection h; omega)); replace r8 := r8.gb dZ (by omega); replace r9 := r9.gb dZ (by omega); replace aX := aX.gb dZ (by omega); replace aD := aD.gb dZ (by omega); replace aG := aG.gb dZ (by omega); replace aH := aH.gb dZ (by omega); replace aI := aI.gb dZ (by omega); replace aJ := aJ.gb dZ (by omega)
 replace aB := aB.gr dZ (fun k hk => hk.1); replace aC := aC.gr dZ (fun k hk => hk.1); replace aF := aF.gb dZ (by omega); replace aL := aL.gb dZ (by omega); clear iH dZ
 refine At.done rfl ?_
 refine t_n ?_
 have hlt_ := least_inP hTT.ex; have hlb_ := hL.lt _ ((hTT.at_ _).1 hlt_).1; have hl0 := hlt_.1; have hpr_ := hG.pr _ hl0 hlb_; have hpp := hp0 _ _ hTT; have hle_ : gI x.g.pr (leastD (fromW tt)) = hh := ((hTT.at_ _).1 hlt_).2
 refine wp_seq ?_
 obtain ⟨hJ, iI⟩ : ∃ c : List (Addr × Value), c = ([(⟨x.bg, 1, none⟩, (.slice x.A1 x.g.pr.length x.k1))] : List (Addr × Value)) ++ blkC (bM.heap.size) ((tt : List Int).map wV) := ⟨_, rfl⟩
 have kF : HoldsC hJ kD := by rw [iI]; exact (holdsA (show HoldsC [(⟨x.bg, 1, none⟩, (.slice x.A1 x.g.pr.length x.k1))] kD from ⟨(aD.cell (i := 1) rfl), trivial⟩) (holds_blk aW))
 refine AtH.start hJ 8 #[false, false, false, false, false, false, false, false] (by kernel_rfl) rfl rfl (fun sK kG => ?_)
 have cV := gr_drew kG; have kH := kF.gr cV; have := cV.size; replace e0 := e0.gn cV; replace r8 := r8.gn cV; replace r9 := r9.gn cV; replace aX := aX.gn cV; replace aD := aD.gn cV; replace aG := aG.gn cV; replace aH := aH.gn cV; replace aI := aI.gn cV; replace aJ := aJ.gn cV; replace aB := aB.gn cV; replace aC := aC.gn cV; replace aF := aF.gn cV; replace aL := aL.gn cV; replace aW := aW.gn cV
 clear cV kG kF
 refine AtH.rd (by kernel_rfl) (fun d v c a w h => by cases d <;> exact h) kH [0, 1, 2] [[], [.ld (.slice x.A1 x.g.pr.length x.k1)], [.cs ((tt : List Int).map wV)]] [(35, .agg ((tt : List Int).map wV).toArray), (34, .slice x.A1 x.g.pr.length x.k1), (33, .pointer (some ⟨x.bg, 1, none⟩))] #[true, true, true, false, false, false, false, false] [(∃ j_ : Nat, hJ[j_]? = some (⟨x.bg, 1, none⟩, (.slice x.A1 x.g.pr.length x.k1))), (((tt : List Int).map wV).length = 4), (∀ (j : Nat) (v : Value), ((tt : List Int).map wV)[j]? = some v → ∃ j_ : Nat, hJ[j_]? = some (((⟨bM.heap.size, 0, none⟩ : Addr).add j), v))] 5 kE (by kernel_rfl) ⟨⟨0, by rw [iI]; rfl⟩, ((List.length_map _).trans (by assumption)), (fun j v hv => List.getElem?_of_mem (by rw [iI]; exact List.mem_append.2 (.inr (blkC_in hv)))), trivial⟩ (fun sL kI => ?_)
 clear kE
 refine AtH.all [3] 4 (by kernel_rfl) (by simp) ⟨?_, trivial⟩
 refine OneH.call kI 40 #[.agg ((tt : List Int).map wV).toArray] (some 36) #[true, true, true, true, false, false, false, false] (by kernel_rfl) (by kernel_rfl) (least_any (s := tt) (by assumption) (r9.wide (Nat.zero_le _) (by omega))) ?_
 rintro e_ eG ⟨rfl, he⟩
 have := leastD_b (fromW tt)
 refine ⟨_, rfl, _, rfl, fun sM kJ => ?_⟩
 clear kI; have cW := gr_ext he; have gD := kH.gr cW; have := cW.size; replace e0 := e0.gn cW; replace r8 := r8.gn cW; replace r9 := r9.gn cW; replace aX := aX.gn cW; replace aD := aD.gn cW; replace aG := aG.gn cW; replace aH := aH.gn cW; replace aI := aI.gn cW; replace aJ := aJ.gn cW; replace aB := aB.gn cW; replace aC := aC.gn cW; replace aF := aF.gn cW; replace aL := aL.gn cW
 replace aW := aW.gn cW; clear cW he
 refine ⟨gD, ?_⟩
 obtain ⟨hK, pE, _, sN, pF⟩ := RdI.get r8.pr (leastD (fromW tt)) (by omega) (by omega)
 refine AtH.rd (by kernel_rfl) (fun d v c a w h => by cases d <;> exact h) gD [4] [[.ad hK]] [(37, .pointer (some (hK.add ((leastD (fromW tt) : Int).toNat * 1))))] #[true, true, true, true, true, false, false, false] [(x.A1 = some hK), (0 ≤ (leastD (fromW tt) : Int)), ((leastD (fromW tt) : Int) < (x.g.pr.length : Nat))] 3 kJ (by kernel_rfl) ⟨pE, (by omega), (by omega), trivial⟩ (fun sO kK => ?_)
 clear kJ
 refine AtH.all [5] 2 (by kernel_rfl) (by simp) ⟨?_, trivial⟩
 refine OneH.seq kK [[.ld (.int .i64 (gI x.g.pr (leastD (fromW tt))))]] [(38, .int .i64 (gI x.g.pr (leastD (fromW tt))))] eG [(eG.cell? (hK.add ((leastD (fromW tt) : Int).toNat * 1)) = some (.int .i64 (gI x.g.pr (leastD (fromW tt)))))] #[true, true, true, true, true, true, false, false] (by kernel_rfl) (by kernel_rfl) (by kernel_rfl) ⟨pF, trivial⟩ (fun sP pG pH kL => ?_)
 obtain rfl : eG = pG := pH.symm
 clear kK
 refine ⟨gD, ?_⟩
 refine AtH.rd (by kernel_rfl) (fun d v c a w h => by cases d <;> exact h) gD [6] [[.as_ (.int .i64 (1))]] [(39, .int .i64 (1))] #[true, true, true, true, true, true, true, false] [((2 : Int) ≠ 0), ((.int .i64 ((gI x.g.pr (leastD (fromW tt)) : Int).tmod 2) : Value) = .int .i64 (1))] 1 kL (by kernel_rfl) ⟨(by omega), (Eq.trans (b := (.int .i64 ((gI x.g.pr (leastD (fromW tt)) : Int) % 2) : Value)) (congrArg (Value.int .i64) (tmodE (by omega) _)) (congrArg (Value.int .i64) (by rw [hle_]; exact hpp))), trivial⟩ (fun sQ kM => ?_)
 clear kL
 refine AtH.rd (by kernel_rfl) (fun d v c a w h => by cases d <;> exact h) gD [7] [[]] [(12, .int .i64 (1))] #[true, true, true, true, true, true, true, true] [] 0 kM (by kernel_rfl) trivial (fun sR kN => ?_)
 clear kM
 refine AtH.done (by kernel_rfl) ?_
 clear gD
 refine t_n ?_
 refine wp_seq ?_
 refine At.start ?_
 refine At.rd kN 4 [[.ld (.slice x.A0 x.g.ow.length x.k0), .ld (.slice x.A1 x.g.pr.length x.k1), .ld (.slice x.A2 x.g.mv.length x.k2)], [.cs ((s : List Int).map wV)], [], [.cs ((tt : List Int).map wV)]] [(44, .agg ((tt : List Int).map wV).toArray), (43, .int .i64 (1)), (42, .agg ((s : List Int).map wV).toArray), (41, .agg #[.slice x.A0 x.g.ow.length x.k0, .slice x.A1 x.g.pr.length x.k1, .slice x.A2 x.g.mv.length x.k2])] [(eG.cell? ⟨x.bg, 0, none⟩ = some (.slice x.A0 x.g.ow.length x.k0)), (eG.cell? ⟨x.bg, 1, none⟩ = some (.slice x.A1 x.g.pr.length x.k1)), (eG.cell? ⟨x.bg, 2, none⟩ = some (.slice x.A2 x.g.mv.length x.k2)), (((s : List Int).map wV).length = 4), (∀ (j : Nat) (v : Value), ((s : List Int).map wV)[j]? = some v → eG.cell? ((⟨w.heap.size, 0, none⟩ : Addr).add j) = some v), (((tt : List Int).map wV).length = 4), (∀ (j : Nat) (v : Value), ((tt : List Int).map wV)[j]? = some v → eG.cell? ((⟨bM.heap.size, 0, none⟩ : Addr).add j) = some v)] (by kernel_rfl) ⟨(aD.cell (i := 0) rfl), (aD.cell (i := 1) rfl), (aD.cell (i := 2) rfl), ((List.length_map _).trans (by assumption)), aF.whole, ((List.length_map _).trans (by assumption)), aW.whole, trivial⟩ (fun sS kO => ?_)
 clear kN
 refine At.call kO 41 #[.agg #[.slice x.A0 x.g.ow.length x.k0, .slice x.A1 x.g.pr.length x.k1, .slice x.A2 x.g.mv.length x.k2], .agg ((s : List Int).map wV).toArray, .int .i64 (1), .agg ((tt : List Int).map wV).toArray] (some 45) (by kernel_rfl) (attract_any (g := x.g) (s := s) (t := tt) (p := 1) (r8.wide (Nat.zero_le _) (by omega)) (by assumption) (by assumption) (r9.wide (Nat.zero_le _) (by omega))) ?_
 rintro e_ cX ⟨bZ, eO, ss, ms, rfl, he, aY, hat⟩
 have hok_ss := att_ok hat; have hl_ss := okLen hok_ss; have hlm_ms := att_len hat
 refine ⟨_, rfl, _, rfl, fun sT kP => ?_⟩
 clear kO; have dR := gr_ext he; have kQ := aB.lt; have kR := aC.lt; have := dR.size; replace e0 := e0.gn dR; replace r8 := r8.gn dR; replace r9 := r9.gn dR; replace aX := aX.gn dR; replace aD := aD.gn dR; replace aG := aG.gn dR; replace aH := aH.gn dR; replace aI := aI.gn dR; replace aJ := aJ.gn dR
 replace aB : OwnR cX (SxP (orN x.T w.heap.size) [obk (bZ), some (bM.heap.size), some (w1.heap.size), some (w.heap.size), obk x.M1, some (x.bd), some (x.bg), some (x.bp), some (x.bk), some (x.bm), some (x.bn)]) x.M0 x.c0 3 (m0 : List Int) := aB.grA dR (fun _ _ h => by cases h) (fun k hk hs => ⟨(fun e => by have := aY.ge _ e; omega), hs.1, hs.2.1, hs.2.2.1, hs.2.2.2.1, hs.2.2.2.2.1, hs.2.2.2.2.2.1, hs.2.2.2.2.2.2.1, hs.2.2.2.2.2.2.2.1, hs.2.2.2.2.2.2.2.2.1, hs.2.2.2.2.2.2.2.2.2.1, hs.2.2.2.2.2.2.2.2.2.2⟩)
 replace aC : OwnR cX (SxP (orN x.T w.heap.size) [obk (bZ), some (bM.heap.size), some (w1.heap.size), some (w.heap.size), obk x.M0, some (x.bd), some (x.bg), some (x.bp), some (x.bk), some (x.bm), some (x.bn)]) x.M1 x.c1 3 (m1 : List Int) := aC.grA dR (fun _ _ h => by cases h) (fun k hk hs => ⟨(fun e => by have := aY.ge _ e; omega), hs.1, hs.2.1, hs.2.2.1, hs.2.2.2.1, hs.2.2.2.2.1, hs.2.2.2.2.2.1, hs.2.2.2.2.2.2.1, hs.2.2.2.2.2.2.2.1, hs.2.2.2.2.2.2.2.2.1, hs.2.2.2.2.2.2.2.2.2.1, hs.2.2.2.2.2.2.2.2.2.2⟩)
 replace aF := aF.gn dR; replace aL := aL.gn dR; replace aW := aW.gn dR
 replace aY : OwnR cX (Sx (eG.heap.size) [obk (x.M0), obk (x.M1)]) bZ eO 3 (ms : List Int) := aY.imp (fun g _ hs => ⟨(fun e => by have := kQ _ e; have := Sx_base hs; omega), (fun e => by have := kR _ e; have := Sx_base hs; omega), hs⟩)
 clear kQ kR; clear dR he
 refine At.rd kP 3 [[], [], []] [(47, .slice bZ ms.length eO), (46, .agg ((ss : List Int).map wV).toArray), (40, .tuple #[.agg ((ss : List Int).map wV).toArray, .slice bZ ms.length eO])] [] (by kernel_rfl) trivial (fun sU kS => ?_)
 clear kP
 refine At.seq kS 1 [[]] [(13, .pointer (some ⟨cX.heap.size, 0, none⟩))] (cX.alloc (.cells ((List.replicate 4 (0 : Int) : List Int).map wV).toArray 44 (0, 0))) [] (by kernel_rfl) trivial (fun sV pI iJ kT => ?_)
 clear kS; have cY := gr_alloc iJ; have := cY.size; replace e0 := e0.gn cY; replace r8 := r8.gn cY; replace r9 := r9.gn cY; replace aX := aX.gn cY; replace aD := aD.gn cY; replace aG := aG.gn cY; replace aH := aH.gn cY; replace aI := aI.gn cY; replace aJ := aJ.gn cY; replace aB := aB.grN cY; replace aC := aC.grN cY; replace aF := aF.gn cY; replace aL := aL.gn cY; replace aW := aW.gn cY
 replace aY := aY.grN cY; have iK : Bx pI (cX.heap.size) ((List.replicate 4 (0 : Int) : List Int).map wV) 44 := Bx.new iJ; have := iK.lt; clear cY iJ
 refine At.act kT (storeBlk (t := 44) (b := cX.heap.size) (n := 4) (cs' := ((ss : List Int).map wV)) (by kernel_rfl) (by kernel_rfl) ((List.length_map _).trans (by assumption)) oneW_ ((show ((ss : List Int).map wV).length = 4 from ((List.length_map _).trans (by assumption))).trans (show ((List.replicate 4 (0 : Int) : List Int).map wV).length = 4 from (by simp only [List.length_map, List.length_set, List.length_replicate, List.length_cons, List.length_nil]; first | done | assumption | exact from_len _ | exact of_len _ | exact ofZ_len _ | exact (ofW_ok _).1 | exact (fullW_W _).1 | exact (okW_with (by assumption)).1 | exact (okW_less (by assumption)).1 | exact put_len (from_len _) | exact orD_len _ _ | exact andD_len _ _ | exact minusD_len _ _ | exact fullD_len _ | (refine okLen ?_; (repeat (first | assumption | exact ofW_ok _ | exact fullW_W _ | apply okW_with | apply okW_less | refine okW_orS ?_ ?_ | refine okW_andS ?_ ?_ | refine okW_minusS ?_ ?_)); done) | omega | rfl)).symm) iK) ?_
 rintro d_ v_ hM ⟨rfl, cZ, bB⟩
 refine ⟨_, rfl, fun sW kU => ?_⟩
 clear kT; have := cZ.size; replace e0 := e0.gr cZ (fun k h => .inr (by injection h; omega)); replace r8 := r8.gb cZ (by omega); replace r9 := r9.gb cZ (by omega); replace aX := aX.gb cZ (by omega); replace aD := aD.gb cZ (by omega); replace aG := aG.gb cZ (by omega); replace aH := aH.gb cZ (by omega); replace aI := aI.gb cZ (by omega); replace aJ := aJ.gb cZ (by omega)
 replace aB := aB.gr cZ (fun k hk => hk.1); replace aC := aC.gr cZ (fun k hk => hk.1); replace aF := aF.gb cZ (by omega); replace aL := aL.gb cZ (by omega); replace aW := aW.gb cZ (by omega); replace aY := aY.gr cZ (fun k hk => hk.1); clear iK cZ
 refine At.rd kU 1 [[]] [(14, .slice bZ ms.length eO)] [] (by kernel_rfl) trivial (fun sX iL => ?_)
 clear kU
 refine At.done rfl ?_
 refine t_n ?_
 have hml_ := (att_inT hR (.inr rfl) hat).2.ml; have hlive0 := att_live hR (.inr rfl) hL hat
 have hlen0 : lenW (minusS s ss) < lenW s := len_sub hat.1 (by obtain ⟨i_, hi_⟩ := hTT.ex; exact ⟨i_, ((hTT.at_ i_).1 hi_).1, att_base hR (.inr rfl) hL.lt hat i_ hi_ ((hTT.at_ i_).1 hi_).1⟩)
 have hlw0 := lenW_le (minusS s ss)
 refine wp_seq (cut (fun a_ w_ => ∃ (sa : List Int) (sb : List Int) (na : List Int) (nb : List Int) (da : Int) (eK : Nat), (Frm 154 a_ [(15, .pointer (some ⟨eK, 0, none⟩)), (14, .slice bZ ms.length eO), (12, .int .i64 (1)), (11, .pointer (some ⟨bM.heap.size, 0, none⟩)), (10, .pointer (some ⟨w1.heap.size, 0, none⟩)), (8, .pointer (some ⟨w.heap.size, 0, none⟩)), (1, .int .i64 (depth)), (3, .pointer (some ⟨x.bg, 0, none⟩)), (4, .pointer (some ⟨x.bp, 0, none⟩)), (5, .pointer (some ⟨x.bk, 0, none⟩)), (6, .pointer (some ⟨x.bm, 0, none⟩)), (7, .pointer (some ⟨x.bn, 0, none⟩))]) ∧ (Tch (x.T) w w_) ∧ (RdG w_ 0 x.hi x.A0 x.A1 x.A2 x.k0 x.k1 x.k2 x.g) ∧ (RdT w_ 0 x.hi) ∧ (Bx w_ (x.bd) [.int .i64 (da)] 3) ∧ (Bx w_ (x.bg) [.slice x.A0 x.g.ow.length x.k0, .slice x.A1 x.g.pr.length x.k1, .slice x.A2 x.g.mv.length x.k2] 25) ∧ (Bx w_ (x.bp) [.func (.func 38) #[] #[.pointer (some ⟨x.bd, 0, none⟩), .pointer (some ⟨x.bg, 0, none⟩), .pointer (some ⟨x.bp, 0, none⟩), .pointer (some ⟨x.bk, 0, none⟩), .pointer (some ⟨x.bm, 0, none⟩), .pointer (some ⟨x.bn, 0, none⟩)]] 65) ∧ (Bx w_ (x.bk) [.func (.func 37) #[] #[.pointer (some ⟨x.bm, 0, none⟩)]] 64) ∧ (Bx w_ (x.bm) [.slice x.M0 x.g.ow.length x.c0, .slice x.M1 x.g.ow.length x.c1] 29) ∧ (Bx w_ (x.bn) [.int .i64 (((x.g.ow.length : Nat) : Int))] 3) ∧ (OwnR w_ (SxP (orN x.T w.heap.size) [some (cX.heap.size), obk (bZ), some (bM.heap.size), some (w1.heap.size), some (w.heap.size), obk (x.M1), some (x.bd), some (x.bg), some (x.bp), some (x.bk), some (x.bm), some (x.bn), some (eK)]) x.M0 x.c0 3 (na : List Int)) ∧ (OwnR w_ (SxP (orN x.T w.heap.size) [some (cX.heap.size), obk (bZ), some (bM.heap.size), some (w1.heap.size), some (w.heap.size), obk (x.M0), some (x.bd), some (x.bg), some (x.bp), some (x.bk), some (x.bm), some (x.bn), some (eK)]) x.M1 x.c1 3 (nb : List Int)) ∧ (Bx w_ (w.heap.size) ((s : List Int).map wV) 44) ∧ (Bx w_ (w1.heap.size) ((([0, 0, 0, 0]) ++ ([0, 0, 0, 0]) : List Int).map wV) 67) ∧ (Bx w_ (bM.heap.size) ((tt : List Int).map wV) 44) ∧ (OwnR w_ (Sx (eG.heap.size) [some (cX.heap.size), obk (x.M0), obk (x.M1), some (eK)]) bZ eO 3 (ms : List Int)) ∧ (Bx w_ (cX.heap.size) ((ss : List Int).map wV) 44) ∧ (Bx w_ (eK) ((sa ++ sb : List Int).map wV) 67) ∧ (hM.heap.size ≤ eK) ∧ (hM.heap.size ≤ w_.heap.size) ∧ (PartS x.g (minusS s ss) 0 sa sb m0 m1 na nb) ∧ (max d depth ≤ da) ∧ (depth + 1 ≤ da) ∧ (da ≤ max (max d depth) (depth + 1 + lenW (minusS s ss)))) ?_ ?_)
 ·obtain ⟨gZ, eS⟩ : ∃ c : List (Addr × Value), c = ([(⟨x.bp, 0, none⟩, (.func (.func 38) #[] #[.pointer (some ⟨x.bd, 0, none⟩), .pointer (some ⟨x.bg, 0, none⟩), .pointer (some ⟨x.bp, 0, none⟩), .pointer (some ⟨x.bk, 0, none⟩), .pointer (some ⟨x.bm, 0, none⟩), .pointer (some ⟨x.bn, 0, none⟩)]))] : List (Addr × Value)) ++ (blkC (w.heap.size) ((s : List Int).map wV) ++ blkC (cX.heap.size) ((ss : List Int).map wV)) := ⟨_, rfl⟩
  have kV : HoldsC gZ hM := by rw [eS]; exact (holdsA (show HoldsC [(⟨x.bp, 0, none⟩, (.func (.func 38) #[] #[.pointer (some ⟨x.bd, 0, none⟩), .pointer (some ⟨x.bg, 0, none⟩), .pointer (some ⟨x.bp, 0, none⟩), .pointer (some ⟨x.bk, 0, none⟩), .pointer (some ⟨x.bm, 0, none⟩), .pointer (some ⟨x.bn, 0, none⟩)]))] hM from ⟨(aG.cell (i := 0) rfl), trivial⟩) (holdsA (holds_blk aF) (holds_blk bB)))
  refine AtH.start gZ 9 #[false, false, false, false, false, false, false, false, false] (by kernel_rfl) rfl rfl (fun gE kW => ?_)
  have cA := gr_drew kW; have iM := kV.gr cA; have := cA.size; replace e0 := e0.gn cA; replace r8 := r8.gn cA; replace r9 := r9.gn cA; replace aX := aX.gn cA; replace aD := aD.gn cA; replace aG := aG.gn cA; replace aH := aH.gn cA; replace aI := aI.gn cA; replace aJ := aJ.gn cA; replace aB := aB.gn cA; replace aC := aC.gn cA; replace aF := aF.gn cA; replace aL := aL.gn cA; replace aW := aW.gn cA
  replace aY := aY.gn cA; replace bB := bB.gn cA; clear cA kW kV
  refine AtH.rd (by kernel_rfl) (fun d v c a w h => by cases d <;> exact h) iM [0, 1, 2, 4, 5] [[.ld (.func (.func 38) #[] #[.pointer (some ⟨x.bd, 0, none⟩), .pointer (some ⟨x.bg, 0, none⟩), .pointer (some ⟨x.bp, 0, none⟩), .pointer (some ⟨x.bk, 0, none⟩), .pointer (some ⟨x.bm, 0, none⟩), .pointer (some ⟨x.bn, 0, none⟩)])], [.cs ((s : List Int).map wV)], [.cs ((ss : List Int).map wV)], [], [.as_ (.int .i64 (depth + 1))]] [(53, .int .i64 (depth + 1)), (52, .int .i64 (depth)), (50, .agg ((ss : List Int).map wV).toArray), (49, .agg ((s : List Int).map wV).toArray), (48, .func (.func 38) #[] #[.pointer (some ⟨x.bd, 0, none⟩), .pointer (some ⟨x.bg, 0, none⟩), .pointer (some ⟨x.bp, 0, none⟩), .pointer (some ⟨x.bk, 0, none⟩), .pointer (some ⟨x.bm, 0, none⟩), .pointer (some ⟨x.bn, 0, none⟩)])] #[true, true, true, false, true, true, false, false, false] [(∃ j_ : Nat, gZ[j_]? = some (⟨x.bp, 0, none⟩, (.func (.func 38) #[] #[.pointer (some ⟨x.bd, 0, none⟩), .pointer (some ⟨x.bg, 0, none⟩), .pointer (some ⟨x.bp, 0, none⟩), .pointer (some ⟨x.bk, 0, none⟩), .pointer (some ⟨x.bm, 0, none⟩), .pointer (some ⟨x.bn, 0, none⟩)]))), (((s : List Int).map wV).length = 4), (∀ (j : Nat) (v : Value), ((s : List Int).map wV)[j]? = some v → ∃ j_ : Nat, gZ[j_]? = some (((⟨w.heap.size, 0, none⟩ : Addr).add j), v)), (((ss : List Int).map wV).length = 4), (∀ (j : Nat) (v : Value), ((ss : List Int).map wV)[j]? = some v → ∃ j_ : Nat, gZ[j_]? = some (((⟨cX.heap.size, 0, none⟩ : Addr).add j), v)), ((.int .i64 (IntKind.i64.wrap (depth + 1)) : Value) = .int .i64 (depth + 1))] 4 iL (by kernel_rfl) ⟨⟨0, by rw [eS]; rfl⟩, ((List.length_map _).trans (by assumption)), (fun j v hv => List.getElem?_of_mem (by rw [eS]; exact List.mem_append.2 (.inr (List.mem_append.2 (.inl (blkC_in hv)))))), ((List.length_map _).trans (by assumption)), (fun j v hv => List.getElem?_of_mem (by rw [eS]; exact List.mem_append.2 (.inr (List.mem_append.2 (.inr (blkC_in hv)))))), (w64 (by omega) (by omega)), trivial⟩ (fun sY hN => ?_)
  clear iL
  refine AtH.all [3, 7] 3 (by kernel_rfl) (by simp) ⟨?_, ?_, trivial⟩
  ·refine OneH.call hN 42 #[.agg ((s : List Int).map wV).toArray, .agg ((ss : List Int).map wV).toArray] (some 51) #[true, true, true, true, true, true, false, false, false] (by kernel_rfl) (by kernel_rfl) (minusS_any (s := s) (t := ss) (by assumption) (by assumption)) ?_
   rintro e_ gF ⟨rfl, he⟩
   refine ⟨_, rfl, _, rfl, fun sZ hO => ?_⟩
   clear hN; have cB := gr_ext he; have iN := iM.gr cB; have := cB.size; replace e0 := e0.gn cB; replace r8 := r8.gn cB; replace r9 := r9.gn cB; replace aX := aX.gn cB; replace aD := aD.gn cB; replace aG := aG.gn cB; replace aH := aH.gn cB; replace aI := aI.gn cB; replace aJ := aJ.gn cB; replace aB := aB.gn cB; replace aC := aC.gn cB; replace aF := aF.gn cB; replace aL := aL.gn cB
   replace aW := aW.gn cB; replace aY := aY.gn cB; replace bB := bB.gn cB; clear cB he
   refine ⟨iN, ?_⟩
   refine AtH.all [6, 7] 2 (by kernel_rfl) (by simp) ⟨?_, ?_, trivial⟩
   ·refine OneH.call hO 38 #[.agg ((minusS s ss : List Int).map wV).toArray, .int .i64 (depth + 1), .pointer (some ⟨x.bd, 0, none⟩), .pointer (some ⟨x.bg, 0, none⟩), .pointer (some ⟨x.bp, 0, none⟩), .pointer (some ⟨x.bk, 0, none⟩), .pointer (some ⟨x.bm, 0, none⟩), .pointer (some ⟨x.bn, 0, none⟩)] (some 54) #[true, true, true, true, true, true, true, false, false] (by kernel_rfl) (by kernel_rfl) (IH (minusS s ss) hlen0 (m0) (m1) (max d depth) (depth + 1) _ ⟨aX, aD, aG, aH, (aI.as (by first | rfl | (simp only [List.cons.injEq, Value.slice.injEq, true_and, and_true]; omega))), aJ, (aB.self.imp (fun g _ hs => ⟨hs.1.2.2.2.2.2.1, hs.1.2.2.2.2.2.2.1, hs.1.2.2.2.2.2.2.2.1, hs.1.2.2.2.2.2.2.2.2.1, hs.1.2.2.2.2.2.2.2.2.2.1, hs.1.2.2.2.2.2.2.2.2.2.2.1, hs.1.2.2.2.2.2.2.2.2.2.2.2.1, .inl hs.2⟩)), (aC.self.imp (fun g _ hs => ⟨hs.1.2.2.2.2.2.1, hs.1.2.2.2.2.2.2.1, hs.1.2.2.2.2.2.2.2.1, hs.1.2.2.2.2.2.2.2.2.1, hs.1.2.2.2.2.2.2.2.2.2.1, hs.1.2.2.2.2.2.2.2.2.2.2.1, hs.1.2.2.2.2.2.2.2.2.2.2.2.1, .inr (.inl hs.2)⟩)), r8, r9⟩ ⟨(okW_minusS (by assumption) (by assumption)), hlive0, by omega, by omega, by omega, by omega, by omega, by omega⟩) ?_
    rintro e_ gG ⟨sa, sb, na, nb, da, rfl, he_hpa, hbd_hpa, hr0_hpa, hr1_hpa, hpa, hd1_hpa, hd2_hpa, hd3_hpa⟩
    have hla0 := hpa.lp; have hlb0 := hpa.lq; have hok_sa := hpa.okp; have hok_sb := hpa.okq; have hl4_sa := okLen hok_sa; have hl4_sb := okLen hok_sb
    refine ⟨_, rfl, _, rfl, fun tA kX => ?_⟩
    clear hO
    have kY := iN.tch he_hpa (by rw [eS]; exact (allP_app ⟨(show ¬ _ from by simp only [add_block]; exact (DecS.not (aB.neb (fun g hs => hs.2.2.2.2.2.2.2.2.1)) (aC.neb (fun g hs => hs.2.2.2.2.2.2.2.2.1)) (by omega))), trivial⟩ (allP_app (nT_blk (DecS.not (aB.neb (fun g hs => hs.2.2.2.2.1)) (aC.neb (fun g hs => hs.2.2.2.2.1)) (by omega))) (nT_blk (DecS.not (aB.neb (fun g hs => hs.1)) (aC.neb (fun g hs => hs.1)) (by omega))))))
    have := he_hpa.size; replace e0 := e0.tch he_hpa (fun k hk => .inl hk); replace r8 := r8.tch he_hpa (fun k hk => .inr (K.hT k hk)); replace r9 := r9.tch he_hpa (fun k hk => .inr (K.hT k hk)); clear aX; replace aD := aD.tch he_hpa (DecS.not (aB.neb (fun g hs => hs.2.2.2.2.2.2.2.1)) (aC.neb (fun g hs => hs.2.2.2.2.2.2.2.1)) (by omega))
    replace aG := aG.tch he_hpa (DecS.not (aB.neb (fun g hs => hs.2.2.2.2.2.2.2.2.1)) (aC.neb (fun g hs => hs.2.2.2.2.2.2.2.2.1)) (by omega)); replace aH := aH.tch he_hpa (DecS.not (aB.neb (fun g hs => hs.2.2.2.2.2.2.2.2.2.1)) (aC.neb (fun g hs => hs.2.2.2.2.2.2.2.2.2.1)) (by omega))
    replace aI := aI.tch he_hpa (DecS.not (aB.neb (fun g hs => hs.2.2.2.2.2.2.2.2.2.2.1)) (aC.neb (fun g hs => hs.2.2.2.2.2.2.2.2.2.2.1)) (by omega)); replace aJ := aJ.tch he_hpa (DecS.not (aB.neb (fun g hs => hs.2.2.2.2.2.2.2.2.2.2.2.1)) (aC.neb (fun g hs => hs.2.2.2.2.2.2.2.2.2.2.2.1)) (by omega)); have eW := OwnR.reS aB hr0_hpa; clear aB hr0_hpa; have eX := OwnR.reS aC hr1_hpa; clear aC hr1_hpa
    replace aF := aF.tch he_hpa (DecS.not (eW.neb (fun g hs => hs.2.2.2.2.1)) (eX.neb (fun g hs => hs.2.2.2.2.1)) (by omega)); replace aL := aL.tch he_hpa (DecS.not (eW.neb (fun g hs => hs.2.2.2.1)) (eX.neb (fun g hs => hs.2.2.2.1)) (by omega)); replace aW := aW.tch he_hpa (DecS.not (eW.neb (fun g hs => hs.2.2.1)) (eX.neb (fun g hs => hs.2.2.1)) (by omega))
    replace aY := aY.tch he_hpa (fun k hk _ => DecS.not hk.2.1 hk.2.2.1 (by have := Sx_base hk; omega)); replace bB := bB.tch he_hpa (DecS.not (eW.neb (fun g hs => hs.1)) (eX.neb (fun g hs => hs.1)) (by omega)); clear he_hpa
    refine ⟨kY, ?_⟩
    refine AtH.all [7] 1 (by kernel_rfl) (by simp) ⟨?_, trivial⟩
    refine OneH.seq kX [[]] [(15, .pointer (some ⟨gG.heap.size, 0, none⟩))] (gG.alloc (.cells ((([0, 0, 0, 0]) ++ ([0, 0, 0, 0]) : List Int).map wV).toArray 67 (0, 0))) [] #[true, true, true, true, true, true, true, true, false] (by kernel_rfl) (by kernel_rfl) (by kernel_rfl) trivial (fun tB pJ iO kZ => ?_)
    clear kX; have cC := gr_alloc iO; have lA := kY.gr cC; have := cC.size; replace e0 := e0.gn cC; replace r8 := r8.gn cC; replace r9 := r9.gn cC; have iP := hbd_hpa.gn cC; clear hbd_hpa; replace aD := aD.gn cC; replace aG := aG.gn cC; replace aH := aH.gn cC; replace aI := aI.gn cC; replace aJ := aJ.gn cC; replace eW := eW.grN cC; replace eX := eX.grN cC; replace aF := aF.gn cC; replace aL := aL.gn cC
    replace aW := aW.gn cC; replace aY := aY.grN cC; replace bB := bB.gn cC; have iQ : Bx pJ (gG.heap.size) ((([0, 0, 0, 0]) ++ ([0, 0, 0, 0]) : List Int).map wV) 67 := Bx.new iO; have := iQ.lt; clear cC iO
    refine ⟨lA, ?_⟩
    refine AtH.all [8] 0 (by kernel_rfl) (by simp) ⟨?_, trivial⟩
    refine OneH.act kZ #[true, true, true, true, true, true, true, true, true] (by kernel_rfl) (storeBlk (t := 67) (b := gG.heap.size) (n := 8) (cs' := ((sa ++ sb : List Int).map wV)) (by kernel_rfl) (by kernel_rfl) (len8 (by assumption) (by assumption)) oneW_ ((show ((sa ++ sb : List Int).map wV).length = 8 from (len8 (by assumption) (by assumption))).trans (show ((([0, 0, 0, 0]) ++ ([0, 0, 0, 0]) : List Int).map wV).length = 8 from (len8 (okLen okW_00) (okLen okW_00))).symm) iQ) ?_
    rintro d_ v_ tC ⟨rfl, cD, pK⟩
    have lB := lA.gr' cD (by rw [eS]; exact (allP_app ⟨(by simp only [add_block]; omega), trivial⟩ (allP_app (ne_blk (by omega)) (ne_blk (by omega)))))
    refine ⟨_, rfl, fun tD pL => ⟨lB, ?_⟩⟩
    clear kZ; have := cD.size; replace e0 := e0.gr cD (fun k h => .inr (by injection h; omega)); replace r8 := r8.gb cD (by omega); replace r9 := r9.gb cD (by omega); replace iP := iP.gb cD (by omega); replace aD := aD.gb cD (by omega); replace aG := aG.gb cD (by omega); replace aH := aH.gb cD (by omega); replace aI := aI.gb cD (by omega); replace aJ := aJ.gb cD (by omega)
    replace eW := eW.gr cD (fun k hk => hk.1); replace eX := eX.gr cD (fun k hk => hk.1); replace aF := aF.gb cD (by omega); replace aL := aL.gb cD (by omega); replace aW := aW.gb cD (by omega); replace aY := aY.gr cD (fun k hk => hk.1); replace bB := bB.gb cD (by omega); clear iQ cD
    refine AtH.done (by kernel_rfl) ?_
    clear lB
    refine t_n ?_
    have pM := pL.sub (r := [(15, .pointer (some ⟨gG.heap.size, 0, none⟩)), (14, .slice bZ ms.length eO), (12, .int .i64 (1)), (11, .pointer (some ⟨bM.heap.size, 0, none⟩)), (10, .pointer (some ⟨w1.heap.size, 0, none⟩)), (8, .pointer (some ⟨w.heap.size, 0, none⟩)), (1, .int .i64 (depth)), (3, .pointer (some ⟨x.bg, 0, none⟩)), (4, .pointer (some ⟨x.bp, 0, none⟩)), (5, .pointer (some ⟨x.bk, 0, none⟩)), (6, .pointer (some ⟨x.bm, 0, none⟩)), (7, .pointer (some ⟨x.bn, 0, none⟩))]) ⟨rfl, rfl, rfl, rfl, rfl, rfl, rfl, rfl, rfl, rfl, rfl, rfl, trivial⟩
    exact ⟨sa, sb, na, nb, da, gG.heap.size, pM, e0, r8, r9, iP, aD, aG, aH, aI, aJ, (eW.imp (fun g _ hs => ⟨hs.2.1, hs.2.2.1, hs.2.2.2.1, hs.2.2.2.2.1, hs.2.2.2.2.2.1, hs.2.2.2.2.2.2.1, hs.2.2.2.2.2.2.2.1, hs.2.2.2.2.2.2.2.2.1, hs.2.2.2.2.2.2.2.2.2.1, hs.2.2.2.2.2.2.2.2.2.2.1, hs.2.2.2.2.2.2.2.2.2.2.2.1, hs.2.2.2.2.2.2.2.2.2.2.2.2.1, hs.1, hs.2.2.2.2.2.2.2.2.2.2.2.2.2⟩)), (eX.imp (fun g _ hs => ⟨hs.2.1, hs.2.2.1, hs.2.2.2.1, hs.2.2.2.2.1, hs.2.2.2.2.2.1, hs.2.2.2.2.2.2.1, hs.2.2.2.2.2.2.2.1, hs.2.2.2.2.2.2.2.2.1, hs.2.2.2.2.2.2.2.2.2.1, hs.2.2.2.2.2.2.2.2.2.2.1, hs.2.2.2.2.2.2.2.2.2.2.2.1, hs.2.2.2.2.2.2.2.2.2.2.2.2.1, hs.1, hs.2.2.2.2.2.2.2.2.2.2.2.2.2⟩)), aF, aL, aW, (aY.imp (fun g _ hs => ⟨hs.2.1, hs.2.2.1, hs.2.2.2.1, hs.1, (by have := Sx_base hs; show eG.heap.size ≤ g; omega)⟩)), bB, pK, (by omega), (by omega), hpa, hd1_hpa, hd2_hpa, hd3_hpa⟩
   refine OneH.seq hO [[]] [(15, .pointer (some ⟨gF.heap.size, 0, none⟩))] (gF.alloc (.cells ((([0, 0, 0, 0]) ++ ([0, 0, 0, 0]) : List Int).map wV).toArray 67 (0, 0))) [] #[true, true, true, true, true, true, false, true, false] (by kernel_rfl) (by kernel_rfl) (by kernel_rfl) trivial (fun tE pN iR lC => ?_)
   clear hO; have cE := gr_alloc iR; have lD := iN.gr cE; have := cE.size; replace e0 := e0.gn cE; replace r8 := r8.gn cE; replace r9 := r9.gn cE; replace aX := aX.gn cE; replace aD := aD.gn cE; replace aG := aG.gn cE; replace aH := aH.gn cE; replace aI := aI.gn cE; replace aJ := aJ.gn cE; replace aB := aB.grN cE; replace aC := aC.grN cE; replace aF := aF.gn cE; replace aL := aL.gn cE
   replace aW := aW.gn cE; replace aY := aY.grN cE; replace bB := bB.gn cE; have hA : Bx pN (gF.heap.size) ((([0, 0, 0, 0]) ++ ([0, 0, 0, 0]) : List Int).map wV) 67 := Bx.new iR; have := hA.lt; clear cE iR
   refine ⟨lD, ?_⟩
   refine AtH.all [6] 1 (by kernel_rfl) (by simp) ⟨?_, trivial⟩
   refine OneH.call lC 38 #[.agg ((minusS s ss : List Int).map wV).toArray, .int .i64 (depth + 1), .pointer (some ⟨x.bd, 0, none⟩), .pointer (some ⟨x.bg, 0, none⟩), .pointer (some ⟨x.bp, 0, none⟩), .pointer (some ⟨x.bk, 0, none⟩), .pointer (some ⟨x.bm, 0, none⟩), .pointer (some ⟨x.bn, 0, none⟩)] (some 54) #[true, true, true, true, true, true, true, true, false] (by kernel_rfl) (by kernel_rfl) (IH (minusS s ss) hlen0 (m0) (m1) (max d depth) (depth + 1) _ ⟨aX, aD, aG, aH, (aI.as (by first | rfl | (simp only [List.cons.injEq, Value.slice.injEq, true_and, and_true]; omega))), aJ, (aB.self.imp (fun g _ hs => ⟨hs.1.2.2.2.2.2.2.1, hs.1.2.2.2.2.2.2.2.1, hs.1.2.2.2.2.2.2.2.2.1, hs.1.2.2.2.2.2.2.2.2.2.1, hs.1.2.2.2.2.2.2.2.2.2.2.1, hs.1.2.2.2.2.2.2.2.2.2.2.2.1, hs.1.2.2.2.2.2.2.2.2.2.2.2.2.1, .inl hs.2⟩)), (aC.self.imp (fun g _ hs => ⟨hs.1.2.2.2.2.2.2.1, hs.1.2.2.2.2.2.2.2.1, hs.1.2.2.2.2.2.2.2.2.1, hs.1.2.2.2.2.2.2.2.2.2.1, hs.1.2.2.2.2.2.2.2.2.2.2.1, hs.1.2.2.2.2.2.2.2.2.2.2.2.1, hs.1.2.2.2.2.2.2.2.2.2.2.2.2.1, .inr (.inl hs.2)⟩)), r8, r9⟩ ⟨(okW_minusS (by assumption) (by assumption)), hlive0, by omega, by omega, by omega, by omega, by omega, by omega⟩) ?_
   rintro e_ tF ⟨sa, sb, na, nb, da, rfl, he_hpa, hbd_hpa, hr0_hpa, hr1_hpa, hpa, hd1_hpa, hd2_hpa, hd3_hpa⟩
   have hla0 := hpa.lp; have hlb0 := hpa.lq; have hok_sa := hpa.okp; have hok_sb := hpa.okq; have hl4_sa := okLen hok_sa; have hl4_sb := okLen hok_sb
   refine ⟨_, rfl, _, rfl, fun tG lE => ?_⟩
   clear lC
   have lF := lD.tch he_hpa (by rw [eS]; exact (allP_app ⟨(show ¬ _ from by simp only [add_block]; exact (DecS.not (aB.neb (fun g hs => hs.2.2.2.2.2.2.2.2.2.1)) (aC.neb (fun g hs => hs.2.2.2.2.2.2.2.2.2.1)) (by omega))), trivial⟩ (allP_app (nT_blk (DecS.not (aB.neb (fun g hs => hs.2.2.2.2.2.1)) (aC.neb (fun g hs => hs.2.2.2.2.2.1)) (by omega))) (nT_blk (DecS.not (aB.neb (fun g hs => hs.2.1)) (aC.neb (fun g hs => hs.2.1)) (by omega))))))
   have := he_hpa.size; replace e0 := e0.tch he_hpa (fun k hk => .inl hk); replace r8 := r8.tch he_hpa (fun k hk => .inr (K.hT k hk)); replace r9 := r9.tch he_hpa (fun k hk => .inr (K.hT k hk)); clear aX; replace aD := aD.tch he_hpa (DecS.not (aB.neb (fun g hs => hs.2.2.2.2.2.2.2.2.1)) (aC.neb (fun g hs => hs.2.2.2.2.2.2.2.2.1)) (by omega))
   replace aG := aG.tch he_hpa (DecS.not (aB.neb (fun g hs => hs.2.2.2.2.2.2.2.2.2.1)) (aC.neb (fun g hs => hs.2.2.2.2.2.2.2.2.2.1)) (by omega)); replace aH := aH.tch he_hpa (DecS.not (aB.neb (fun g hs => hs.2.2.2.2.2.2.2.2.2.2.1)) (aC.neb (fun g hs => hs.2.2.2.2.2.2.2.2.2.2.1)) (by omega))
   replace aI := aI.tch he_hpa (DecS.not (aB.neb (fun g hs => hs.2.2.2.2.2.2.2.2.2.2.2.1)) (aC.neb (fun g hs => hs.2.2.2.2.2.2.2.2.2.2.2.1)) (by omega)); replace aJ := aJ.tch he_hpa (DecS.not (aB.neb (fun g hs => hs.2.2.2.2.2.2.2.2.2.2.2.2.1)) (aC.neb (fun g hs => hs.2.2.2.2.2.2.2.2.2.2.2.2.1)) (by omega)); have fK := OwnR.reS aB hr0_hpa; clear aB hr0_hpa; have fL := OwnR.reS aC hr1_hpa
   clear aC hr1_hpa; replace aF := aF.tch he_hpa (DecS.not (fK.neb (fun g hs => hs.2.2.2.2.2.1)) (fL.neb (fun g hs => hs.2.2.2.2.2.1)) (by omega)); replace aL := aL.tch he_hpa (DecS.not (fK.neb (fun g hs => hs.2.2.2.2.1)) (fL.neb (fun g hs => hs.2.2.2.2.1)) (by omega)); replace aW := aW.tch he_hpa (DecS.not (fK.neb (fun g hs => hs.2.2.2.1)) (fL.neb (fun g hs => hs.2.2.2.1)) (by omega))
   replace aY := aY.tch he_hpa (fun k hk _ => DecS.not hk.2.2.1 hk.2.2.2.1 (by have := Sx_base hk; omega)); replace bB := bB.tch he_hpa (DecS.not (fK.neb (fun g hs => hs.2.1)) (fL.neb (fun g hs => hs.2.1)) (by omega)); replace hA := hA.tch he_hpa (DecS.not (fK.neb (fun g hs => hs.1)) (fL.neb (fun g hs => hs.1)) (by omega)); clear he_hpa
   refine ⟨lF, ?_⟩
   refine AtH.all [8] 0 (by kernel_rfl) (by simp) ⟨?_, trivial⟩
   refine OneH.act lE #[true, true, true, true, true, true, true, true, true] (by kernel_rfl) (storeBlk (t := 67) (b := gF.heap.size) (n := 8) (cs' := ((sa ++ sb : List Int).map wV)) (by kernel_rfl) (by kernel_rfl) (len8 (by assumption) (by assumption)) oneW_ ((show ((sa ++ sb : List Int).map wV).length = 8 from (len8 (by assumption) (by assumption))).trans (show ((([0, 0, 0, 0]) ++ ([0, 0, 0, 0]) : List Int).map wV).length = 8 from (len8 (okLen okW_00) (okLen okW_00))).symm) hA) ?_
   rintro d_ v_ tH ⟨rfl, cF, pO⟩
   have lG := lF.gr' cF (by rw [eS]; exact (allP_app ⟨(by simp only [add_block]; omega), trivial⟩ (allP_app (ne_blk (by omega)) (ne_blk (by omega)))))
   refine ⟨_, rfl, fun tI pP => ⟨lG, ?_⟩⟩
   clear lE; have := cF.size; replace e0 := e0.gr cF (fun k h => .inr (by injection h; omega)); replace r8 := r8.gb cF (by omega); replace r9 := r9.gb cF (by omega); have pQ := hbd_hpa.gb cF (by omega); clear hbd_hpa; replace aD := aD.gb cF (by omega); replace aG := aG.gb cF (by omega); replace aH := aH.gb cF (by omega); replace aI := aI.gb cF (by omega); replace aJ := aJ.gb cF (by omega)
   replace fK := fK.gr cF (fun k hk => hk.1); replace fL := fL.gr cF (fun k hk => hk.1); replace aF := aF.gb cF (by omega); replace aL := aL.gb cF (by omega); replace aW := aW.gb cF (by omega); replace aY := aY.gr cF (fun k hk => hk.1); replace bB := bB.gb cF (by omega); clear hA cF
   refine AtH.done (by kernel_rfl) ?_
   clear lG
   refine t_n ?_
   have pR := pP.sub (r := [(15, .pointer (some ⟨gF.heap.size, 0, none⟩)), (14, .slice bZ ms.length eO), (12, .int .i64 (1)), (11, .pointer (some ⟨bM.heap.size, 0, none⟩)), (10, .pointer (some ⟨w1.heap.size, 0, none⟩)), (8, .pointer (some ⟨w.heap.size, 0, none⟩)), (1, .int .i64 (depth)), (3, .pointer (some ⟨x.bg, 0, none⟩)), (4, .pointer (some ⟨x.bp, 0, none⟩)), (5, .pointer (some ⟨x.bk, 0, none⟩)), (6, .pointer (some ⟨x.bm, 0, none⟩)), (7, .pointer (some ⟨x.bn, 0, none⟩))]) ⟨rfl, rfl, rfl, rfl, rfl, rfl, rfl, rfl, rfl, rfl, rfl, rfl, trivial⟩
   exact ⟨sa, sb, na, nb, da, gF.heap.size, pR, e0, r8, r9, pQ, aD, aG, aH, aI, aJ, (fK.imp (fun g _ hs => ⟨hs.2.1, hs.2.2.1, hs.2.2.2.1, hs.2.2.2.2.1, hs.2.2.2.2.2.1, hs.2.2.2.2.2.2.1, hs.2.2.2.2.2.2.2.1, hs.2.2.2.2.2.2.2.2.1, hs.2.2.2.2.2.2.2.2.2.1, hs.2.2.2.2.2.2.2.2.2.2.1, hs.2.2.2.2.2.2.2.2.2.2.2.1, hs.2.2.2.2.2.2.2.2.2.2.2.2.1, hs.1, hs.2.2.2.2.2.2.2.2.2.2.2.2.2⟩)), (fL.imp (fun g _ hs => ⟨hs.2.1, hs.2.2.1, hs.2.2.2.1, hs.2.2.2.2.1, hs.2.2.2.2.2.1, hs.2.2.2.2.2.2.1, hs.2.2.2.2.2.2.2.1, hs.2.2.2.2.2.2.2.2.1, hs.2.2.2.2.2.2.2.2.2.1, hs.2.2.2.2.2.2.2.2.2.2.1, hs.2.2.2.2.2.2.2.2.2.2.2.1, hs.2.2.2.2.2.2.2.2.2.2.2.2.1, hs.1, hs.2.2.2.2.2.2.2.2.2.2.2.2.2⟩)), aF, aL, aW, (aY.imp (fun g _ hs => ⟨hs.2.1, hs.2.2.1, hs.2.2.2.1, hs.1, (by have := Sx_base hs; show eG.heap.size ≤ g; omega)⟩)), bB, pO, (by omega), (by omega), hpa, hd1_hpa, hd2_hpa, hd3_hpa⟩
  refine OneH.seq hN [[]] [(15, .pointer (some ⟨gE.heap.size, 0, none⟩))] (gE.alloc (.cells ((([0, 0, 0, 0]) ++ ([0, 0, 0, 0]) : List Int).map wV).toArray 67 (0, 0))) [] #[true, true, true, false, true, true, false, true, false] (by kernel_rfl) (by kernel_rfl) (by kernel_rfl) trivial (fun tJ pS iS lH => ?_)
  clear hN; have cG := gr_alloc iS; have lI := iM.gr cG; have := cG.size; replace e0 := e0.gn cG; replace r8 := r8.gn cG; replace r9 := r9.gn cG; replace aX := aX.gn cG; replace aD := aD.gn cG; replace aG := aG.gn cG; replace aH := aH.gn cG; replace aI := aI.gn cG; replace aJ := aJ.gn cG; replace aB := aB.grN cG; replace aC := aC.grN cG; replace aF := aF.gn cG; replace aL := aL.gn cG
  replace aW := aW.gn cG; replace aY := aY.grN cG; replace bB := bB.gn cG; have fU : Bx pS (gE.heap.size) ((([0, 0, 0, 0]) ++ ([0, 0, 0, 0]) : List Int).map wV) 67 := Bx.new iS; have := fU.lt; clear cG iS
  refine ⟨lI, ?_⟩
  refine AtH.all [3] 2 (by kernel_rfl) (by simp) ⟨?_, trivial⟩
  refine OneH.call lH 42 #[.agg ((s : List Int).map wV).toArray, .agg ((ss : List Int).map wV).toArray] (some 51) #[true, true, true, true, true, true, false, true, false] (by kernel_rfl) (by kernel_rfl) (minusS_any (s := s) (t := ss) (by assumption) (by assumption)) ?_
  rintro e_ tK ⟨rfl, he⟩
  refine ⟨_, rfl, _, rfl, fun tL lJ => ?_⟩
  clear lH; have bU := gr_ext he; have lK := lI.gr bU; have := bU.size; replace e0 := e0.gn bU; replace r8 := r8.gn bU; replace r9 := r9.gn bU; replace aX := aX.gn bU; replace aD := aD.gn bU; replace aG := aG.gn bU; replace aH := aH.gn bU; replace aI := aI.gn bU; replace aJ := aJ.gn bU; replace aB := aB.gn bU; replace aC := aC.gn bU; replace aF := aF.gn bU; replace aL := aL.gn bU
  replace aW := aW.gn bU; replace aY := aY.gn bU; replace bB := bB.gn bU; replace fU := fU.gn bU; clear bU he
  refine ⟨lK, ?_⟩
  refine AtH.all [6] 1 (by kernel_rfl) (by simp) ⟨?_, trivial⟩
  refine OneH.call lJ 38 #[.agg ((minusS s ss : List Int).map wV).toArray, .int .i64 (depth + 1), .pointer (some ⟨x.bd, 0, none⟩), .pointer (some ⟨x.bg, 0, none⟩), .pointer (some ⟨x.bp, 0, none⟩), .pointer (some ⟨x.bk, 0, none⟩), .pointer (some ⟨x.bm, 0, none⟩), .pointer (some ⟨x.bn, 0, none⟩)] (some 54) #[true, true, true, true, true, true, true, true, false] (by kernel_rfl) (by kernel_rfl) (IH (minusS s ss) hlen0 (m0) (m1) (max d depth) (depth + 1) _ ⟨aX, aD, aG, aH, (aI.as (by first | rfl | (simp only [List.cons.injEq, Value.slice.injEq, true_and, and_true]; omega))), aJ, (aB.self.imp (fun g _ hs => ⟨hs.1.2.2.2.2.2.2.1, hs.1.2.2.2.2.2.2.2.1, hs.1.2.2.2.2.2.2.2.2.1, hs.1.2.2.2.2.2.2.2.2.2.1, hs.1.2.2.2.2.2.2.2.2.2.2.1, hs.1.2.2.2.2.2.2.2.2.2.2.2.1, hs.1.2.2.2.2.2.2.2.2.2.2.2.2.1, .inl hs.2⟩)), (aC.self.imp (fun g _ hs => ⟨hs.1.2.2.2.2.2.2.1, hs.1.2.2.2.2.2.2.2.1, hs.1.2.2.2.2.2.2.2.2.1, hs.1.2.2.2.2.2.2.2.2.2.1, hs.1.2.2.2.2.2.2.2.2.2.2.1, hs.1.2.2.2.2.2.2.2.2.2.2.2.1, hs.1.2.2.2.2.2.2.2.2.2.2.2.2.1, .inr (.inl hs.2)⟩)), r8, r9⟩ ⟨(okW_minusS (by assumption) (by assumption)), hlive0, by omega, by omega, by omega, by omega, by omega, by omega⟩) ?_
  rintro e_ tM ⟨sa, sb, na, nb, da, rfl, he_hpa, hbd_hpa, hr0_hpa, hr1_hpa, hpa, hd1_hpa, hd2_hpa, hd3_hpa⟩
  have hla0 := hpa.lp; have hlb0 := hpa.lq; have hok_sa := hpa.okp; have hok_sb := hpa.okq; have hl4_sa := okLen hok_sa; have hl4_sb := okLen hok_sb
  refine ⟨_, rfl, _, rfl, fun tN lL => ?_⟩
  clear lJ
  have lM := lK.tch he_hpa (by rw [eS]; exact (allP_app ⟨(show ¬ _ from by simp only [add_block]; exact (DecS.not (aB.neb (fun g hs => hs.2.2.2.2.2.2.2.2.2.1)) (aC.neb (fun g hs => hs.2.2.2.2.2.2.2.2.2.1)) (by omega))), trivial⟩ (allP_app (nT_blk (DecS.not (aB.neb (fun g hs => hs.2.2.2.2.2.1)) (aC.neb (fun g hs => hs.2.2.2.2.2.1)) (by omega))) (nT_blk (DecS.not (aB.neb (fun g hs => hs.2.1)) (aC.neb (fun g hs => hs.2.1)) (by omega))))))
  have := he_hpa.size; replace e0 := e0.tch he_hpa (fun k hk => .inl hk); replace r8 := r8.tch he_hpa (fun k hk => .inr (K.hT k hk)); replace r9 := r9.tch he_hpa (fun k hk => .inr (K.hT k hk)); clear aX; replace aD := aD.tch he_hpa (DecS.not (aB.neb (fun g hs => hs.2.2.2.2.2.2.2.2.1)) (aC.neb (fun g hs => hs.2.2.2.2.2.2.2.2.1)) (by omega))
  replace aG := aG.tch he_hpa (DecS.not (aB.neb (fun g hs => hs.2.2.2.2.2.2.2.2.2.1)) (aC.neb (fun g hs => hs.2.2.2.2.2.2.2.2.2.1)) (by omega)); replace aH := aH.tch he_hpa (DecS.not (aB.neb (fun g hs => hs.2.2.2.2.2.2.2.2.2.2.1)) (aC.neb (fun g hs => hs.2.2.2.2.2.2.2.2.2.2.1)) (by omega))
  replace aI := aI.tch he_hpa (DecS.not (aB.neb (fun g hs => hs.2.2.2.2.2.2.2.2.2.2.2.1)) (aC.neb (fun g hs => hs.2.2.2.2.2.2.2.2.2.2.2.1)) (by omega)); replace aJ := aJ.tch he_hpa (DecS.not (aB.neb (fun g hs => hs.2.2.2.2.2.2.2.2.2.2.2.2.1)) (aC.neb (fun g hs => hs.2.2.2.2.2.2.2.2.2.2.2.2.1)) (by omega)); have fM := OwnR.reS aB hr0_hpa; clear aB hr0_hpa; have fN := OwnR.reS aC hr1_hpa
  clear aC hr1_hpa; replace aF := aF.tch he_hpa (DecS.not (fM.neb (fun g hs => hs.2.2.2.2.2.1)) (fN.neb (fun g hs => hs.2.2.2.2.2.1)) (by omega)); replace aL := aL.tch he_hpa (DecS.not (fM.neb (fun g hs => hs.2.2.2.2.1)) (fN.neb (fun g hs => hs.2.2.2.2.1)) (by omega)); replace aW := aW.tch he_hpa (DecS.not (fM.neb (fun g hs => hs.2.2.2.1)) (fN.neb (fun g hs => hs.2.2.2.1)) (by omega))
  replace aY := aY.tch he_hpa (fun k hk _ => DecS.not hk.2.2.1 hk.2.2.2.1 (by have := Sx_base hk; omega)); replace bB := bB.tch he_hpa (DecS.not (fM.neb (fun g hs => hs.2.1)) (fN.neb (fun g hs => hs.2.1)) (by omega)); replace fU := fU.tch he_hpa (DecS.not (fM.neb (fun g hs => hs.1)) (fN.neb (fun g hs => hs.1)) (by omega)); clear he_hpa
  refine ⟨lM, ?_⟩
  refine AtH.all [8] 0 (by kernel_rfl) (by simp) ⟨?_, trivial⟩
  refine OneH.act lL #[true, true, true, true, true, true, true, true, true] (by kernel_rfl) (storeBlk (t := 67) (b := gE.heap.size) (n := 8) (cs' := ((sa ++ sb : List Int).map wV)) (by kernel_rfl) (by kernel_rfl) (len8 (by assumption) (by assumption)) oneW_ ((show ((sa ++ sb : List Int).map wV).length = 8 from (len8 (by assumption) (by assumption))).trans (show ((([0, 0, 0, 0]) ++ ([0, 0, 0, 0]) : List Int).map wV).length = 8 from (len8 (okLen okW_00) (okLen okW_00))).symm) fU) ?_
  rintro d_ v_ tO ⟨rfl, cH, pT⟩
  have lN := lM.gr' cH (by rw [eS]; exact (allP_app ⟨(by simp only [add_block]; omega), trivial⟩ (allP_app (ne_blk (by omega)) (ne_blk (by omega)))))
  refine ⟨_, rfl, fun tP pU => ⟨lN, ?_⟩⟩
  clear lL; have := cH.size; replace e0 := e0.gr cH (fun k h => .inr (by injection h; omega)); replace r8 := r8.gb cH (by omega); replace r9 := r9.gb cH (by omega); have pV := hbd_hpa.gb cH (by omega); clear hbd_hpa; replace aD := aD.gb cH (by omega); replace aG := aG.gb cH (by omega); replace aH := aH.gb cH (by omega); replace aI := aI.gb cH (by omega); replace aJ := aJ.gb cH (by omega)
  replace fM := fM.gr cH (fun k hk => hk.1); replace fN := fN.gr cH (fun k hk => hk.1); replace aF := aF.gb cH (by omega); replace aL := aL.gb cH (by omega); replace aW := aW.gb cH (by omega); replace aY := aY.gr cH (fun k hk => hk.1); replace bB := bB.gb cH (by omega); clear fU cH
  refine AtH.done (by kernel_rfl) ?_
  clear lN
  refine t_n ?_
  have pW := pU.sub (r := [(15, .pointer (some ⟨gE.heap.size, 0, none⟩)), (14, .slice bZ ms.length eO), (12, .int .i64 (1)), (11, .pointer (some ⟨bM.heap.size, 0, none⟩)), (10, .pointer (some ⟨w1.heap.size, 0, none⟩)), (8, .pointer (some ⟨w.heap.size, 0, none⟩)), (1, .int .i64 (depth)), (3, .pointer (some ⟨x.bg, 0, none⟩)), (4, .pointer (some ⟨x.bp, 0, none⟩)), (5, .pointer (some ⟨x.bk, 0, none⟩)), (6, .pointer (some ⟨x.bm, 0, none⟩)), (7, .pointer (some ⟨x.bn, 0, none⟩))]) ⟨rfl, rfl, rfl, rfl, rfl, rfl, rfl, rfl, rfl, rfl, rfl, rfl, trivial⟩
  exact ⟨sa, sb, na, nb, da, gE.heap.size, pW, e0, r8, r9, pV, aD, aG, aH, aI, aJ, (fM.imp (fun g _ hs => ⟨hs.2.1, hs.2.2.1, hs.2.2.2.1, hs.2.2.2.2.1, hs.2.2.2.2.2.1, hs.2.2.2.2.2.2.1, hs.2.2.2.2.2.2.2.1, hs.2.2.2.2.2.2.2.2.1, hs.2.2.2.2.2.2.2.2.2.1, hs.2.2.2.2.2.2.2.2.2.2.1, hs.2.2.2.2.2.2.2.2.2.2.2.1, hs.2.2.2.2.2.2.2.2.2.2.2.2.1, hs.1, hs.2.2.2.2.2.2.2.2.2.2.2.2.2⟩)), (fN.imp (fun g _ hs => ⟨hs.2.1, hs.2.2.1, hs.2.2.2.1, hs.2.2.2.2.1, hs.2.2.2.2.2.1, hs.2.2.2.2.2.2.1, hs.2.2.2.2.2.2.2.1, hs.2.2.2.2.2.2.2.2.1, hs.2.2.2.2.2.2.2.2.2.1, hs.2.2.2.2.2.2.2.2.2.2.1, hs.2.2.2.2.2.2.2.2.2.2.2.1, hs.2.2.2.2.2.2.2.2.2.2.2.2.1, hs.1, hs.2.2.2.2.2.2.2.2.2.2.2.2.2⟩)), aF, aL, aW, (aY.imp (fun g _ hs => ⟨hs.2.1, hs.2.2.1, hs.2.2.2.1, hs.1, (by have := Sx_base hs; show eG.heap.size ≤ g; omega)⟩)), bB, pT, (by omega), (by omega), hpa, hd1_hpa, hd2_hpa, hd3_hpa⟩
 clear r8; clear r9; clear aX; clear aD; clear aG; clear aH; clear aI; clear aJ; clear aB; clear aC; clear aF; clear aL; clear aW; clear aY; clear bB; clear iL e0
 intro tQ bN ⟨sa, sb, na, nb, da, eK, lO, bO, bP, bI, bQ, bE, bR, bG, bH, bJ, bD, bF, bK, bS, eM, eY, gH, fV, tR, tS, hpa, hd1_hpa, hd2_hpa, hd3_hpa⟩
 have := bO.size; have hla0 := hpa.lp; have hlb0 := hpa.lq; have hok_sa := hpa.okp; have hok_sb := hpa.okq; have hl4_sa := okLen hok_sa; have hl4_sb := okLen hok_sb; have := bQ.lt; have := bE.lt; have := bR.lt; have := bG.lt; have := bH.lt; have := bJ.lt; have := bK.lt; have := bS.lt; have := eM.lt; have := gH.lt; have := fV.lt
 refine wp_seq ?_
 have hpS : PartS x.g (minusS s ss) 1 sb sa m1 m0 nb na := hpa.swap
 refine At.start ?_
 refine At.rd lO 4 [[], [.as_ (.int .i64 (0))], [], [.cs ((sa : List Int).map wV)]] [(58, .agg ((sa : List Int).map wV).toArray), (57, .pointer (some ⟨eK, 0, none⟩)), (56, .int .i64 (0)), (55, .int .i64 (1))] [((.int .i64 (IntKind.i64.wrap (1 - 1)) : Value) = .int .i64 (0)), (0 ≤ (0 : Int)), ((0 : Int) < (2 : Nat)), (((sa : List Int).map wV).length = 4), (∀ (j : Nat) (v : Value), ((sa : List Int).map wV)[j]? = some v → bN.cell? ((⟨eK, 0, none⟩ : Addr).add j) = some v)] (by kernel_rfl) ⟨(by kernel_rfl), (by decide), (by decide), ((List.length_map _).trans (by assumption)), (Bx.wholeL fV), trivial⟩ (fun tT lP => ?_)
 clear lO
 refine At.seq lP 1 [[]] [(16, .pointer (some ⟨bN.heap.size, 0, none⟩))] (bN.alloc (.cells ((List.replicate 4 (0 : Int) : List Int).map wV).toArray 44 (0, 0))) [] (by kernel_rfl) trivial (fun tU pX iT lQ => ?_)
 clear lP; have cI := gr_alloc iT; have := cI.size; replace bO := bO.gn cI; replace bP := bP.gn cI; replace bI := bI.gn cI; replace bQ := bQ.gn cI; replace bE := bE.gn cI; replace bR := bR.gn cI; replace bG := bG.gn cI; replace bH := bH.gn cI; replace bJ := bJ.gn cI; replace bD := bD.grN cI; replace bF := bF.grN cI; replace bK := bK.gn cI; replace bS := bS.gn cI; replace eM := eM.gn cI
 replace eY := eY.grN cI; replace gH := gH.gn cI; replace fV := fV.gn cI; have iU : Bx pX (bN.heap.size) ((List.replicate 4 (0 : Int) : List Int).map wV) 44 := Bx.new iT; have := iU.lt; clear cI iT
 refine At.act lQ (storeBlk (t := 44) (b := bN.heap.size) (n := 4) (cs' := ((sa : List Int).map wV)) (by kernel_rfl) (by kernel_rfl) ((List.length_map _).trans (by assumption)) oneW_ ((show ((sa : List Int).map wV).length = 4 from ((List.length_map _).trans (by assumption))).trans (show ((List.replicate 4 (0 : Int) : List Int).map wV).length = 4 from (by simp only [List.length_map, List.length_set, List.length_replicate, List.length_cons, List.length_nil]; first | done | assumption | exact from_len _ | exact of_len _ | exact ofZ_len _ | exact (ofW_ok _).1 | exact (fullW_W _).1 | exact (okW_with (by assumption)).1 | exact (okW_less (by assumption)).1 | exact put_len (from_len _) | exact orD_len _ _ | exact andD_len _ _ | exact minusD_len _ _ | exact fullD_len _ | (refine okLen ?_; (repeat (first | assumption | exact ofW_ok _ | exact fullW_W _ | apply okW_with | apply okW_less | refine okW_orS ?_ ?_ | refine okW_andS ?_ ?_ | refine okW_minusS ?_ ?_)); done) | omega | rfl)).symm) iU) ?_
 rintro d_ v_ eZ ⟨rfl, cJ, eA⟩
 refine ⟨_, rfl, fun tV lR => ?_⟩
 clear lQ; have := cJ.size; replace bO := bO.gr cJ (fun k h => .inr (by injection h; omega)); replace bP := bP.gb cJ (by omega); replace bI := bI.gb cJ (by omega); replace bQ := bQ.gb cJ (by omega); replace bE := bE.gb cJ (by omega); replace bR := bR.gb cJ (by omega); replace bG := bG.gb cJ (by omega); replace bH := bH.gb cJ (by omega); replace bJ := bJ.gb cJ (by omega)
 replace bD := bD.gr cJ (fun k hk => hk.1); replace bF := bF.gr cJ (fun k hk => hk.1); replace bK := bK.gb cJ (by omega); replace bS := bS.gb cJ (by omega); replace eM := eM.gb cJ (by omega); replace eY := eY.gr cJ (fun k hk => hk.1); replace gH := gH.gb cJ (by omega); replace fV := fV.gb cJ (by omega); clear iU cJ
 refine At.done rfl ?_
 refine t_n ?_
 clear gH; clear fV
 refine wp_seq ?_
 refine wp_seq ?_
 refine At.start ?_
 refine At.rd lR 3 [[.cs ((sa : List Int).map wV)], [], [.cs [wV (gI sa 0), wV (gI sa 1), wV (gI sa 2), wV (gI sa 3)], .cs [wV (gI ([0, 0, 0, 0]) 0), wV (gI ([0, 0, 0, 0]) 1), wV (gI ([0, 0, 0, 0]) 2), wV (gI ([0, 0, 0, 0]) 3)], .as_ (.bool (decide ((sa : List Int) = ([0, 0, 0, 0]))))]] [(61, .bool (decide ((sa : List Int) = ([0, 0, 0, 0])))), (60, .agg (([0, 0, 0, 0] : List Int).map wV).toArray), (59, .agg ((sa : List Int).map wV).toArray)] [(((sa : List Int).map wV).length = 4), (∀ (j : Nat) (v : Value), ((sa : List Int).map wV)[j]? = some v → eZ.cell? ((⟨bN.heap.size, 0, none⟩ : Addr).add j) = some v), (((sa : List Int).map wV).toArray = ([wV (gI sa 0), wV (gI sa 1), wV (gI sa 2), wV (gI sa 3)] : List Value).toArray), ((([0, 0, 0, 0] : List Int).map wV).toArray = ([wV (gI ([0, 0, 0, 0]) 0), wV (gI ([0, 0, 0, 0]) 1), wV (gI ([0, 0, 0, 0]) 2), wV (gI ([0, 0, 0, 0]) 3)] : List Value).toArray), ((.bool ((((gI sa 0 : Int) == gI ([0, 0, 0, 0]) 0) && (((gI sa 1 : Int) == gI ([0, 0, 0, 0]) 1) && (((gI sa 2 : Int) == gI ([0, 0, 0, 0]) 2) && (((gI sa 3 : Int) == gI ([0, 0, 0, 0]) 3) && true))))) : Value) = .bool (decide ((sa : List Int) = ([0, 0, 0, 0]))))] (by kernel_rfl) ⟨((List.length_map _).trans (by assumption)), eA.whole, (map4 (by assumption)), (map4 (okLen okW_00)), (congrArg (fun b => Value.bool b) (w4_eq (by assumption) (okLen okW_00))), trivial⟩ (fun tW hB => ?_)
 clear lR
 refine At.done rfl ?_
 refine t_n ?_
 refine cond_S hB (t := decide ((sa : List Int) = ([0, 0, 0, 0]))) rfl (fun iV => ?_) (fun iV => ?_)
 ·have tX := of_decide_eq_true iV
  refine wp_seq ?_
  have he0_ : sa = [0, 0, 0, 0] := by assumption
  refine At.start ?_
  refine At.rd hB 3 [[.ld (.func (.func 37) #[] #[.pointer (some ⟨x.bm, 0, none⟩)])], [], []] [(64, .slice bZ ms.length eO), (63, .int .i64 (1)), (62, .func (.func 37) #[] #[.pointer (some ⟨x.bm, 0, none⟩)])] [(eZ.cell? ⟨x.bk, 0, none⟩ = some (.func (.func 37) #[] #[.pointer (some ⟨x.bm, 0, none⟩)]))] (by kernel_rfl) ⟨(bG.cell (i := 0) rfl), trivial⟩ (fun tY lS => ?_)
  clear hB
  refine At.call lS 37 #[.int .i64 (1), .slice bZ ms.length eO, .pointer (some ⟨x.bm, 0, none⟩)] (some 65) (by kernel_rfl) (keep1_any (mm := nb) (la := ms) (lo := eG.heap.size) (bm := x.bm) ((OwnR.rdR eY (by show _ * 8 ≤ _; omega)).rdI) bH (bF.self.imp (fun g _ hs => ⟨hs.1.2.2.2.2.2.2.2.2.2.2.2.1, hs.2⟩)) (fun k hk => by have := hM1 k hk; omega) (by omega) (by omega)) ?_
  rintro e_ hP ⟨rfl, he620, n2, hmo619, hkeA⟩
  have hkl_n2 := hkeA.1
  refine ⟨_, rfl, _, rfl, fun tZ lT => ?_⟩
  clear lS; have := he620.size; replace bO := bO.tch he620 (fun k hk => .inl (.inr (.inl hk))); replace bP := bP.tch he620 (fun k hk => .inr (K.hT k (.inr (.inl hk)))); replace bI := bI.tch he620 (fun k hk => .inr (K.hT k (.inr (.inl hk)))); replace bQ := bQ.tch he620 (bF.neb (fun g hs => hs.2.2.2.2.2.2.2.1)); replace bE := bE.tch he620 (bF.neb (fun g hs => hs.2.2.2.2.2.2.2.2.1))
  replace bR := bR.tch he620 (bF.neb (fun g hs => hs.2.2.2.2.2.2.2.2.2.1)); replace bG := bG.tch he620 (bF.neb (fun g hs => hs.2.2.2.2.2.2.2.2.2.2.1)); replace bH := bH.tch he620 (bF.neb (fun g hs => hs.2.2.2.2.2.2.2.2.2.2.2.1)); replace bJ := bJ.tch he620 (bF.neb (fun g hs => hs.2.2.2.2.2.2.2.2.2.2.2.2.1)); replace bD := bD.tch he620 (fun k hk _ e2 => hk.2.2.2.2.2.2.1 e2)
  have fA := OwnR.reS bF hmo619; clear bF hmo619; replace bK := bK.tch he620 (fA.neb (fun g hs => hs.2.2.2.2.2.1)); replace bS := bS.tch he620 (fA.neb (fun g hs => hs.2.2.2.2.1)); replace eM := eM.tch he620 (fA.neb (fun g hs => hs.2.2.2.1)); replace eY := eY.tch he620 (fun k hk _ e2 => hk.2.2.2.1 e2); replace eA := eA.tch he620 (fA.neb (fun g hs => hs.1)); clear he620
  refine At.done rfl ?_
  refine t_n ?_
  clear eY; clear eA
  refine wp_seq ?_
  refine wp_seq ?_
  have hke_ := hkeA; have hLt := ls_len (fromW tt) 256
  refine At.start ?_
  refine At.rd lT 1 [[.cs ((tt : List Int).map wV)]] [(66, .agg ((tt : List Int).map wV).toArray)] [(((tt : List Int).map wV).length = 4), (∀ (j : Nat) (v : Value), ((tt : List Int).map wV)[j]? = some v → hP.cell? ((⟨bM.heap.size, 0, none⟩ : Addr).add j) = some v)] (by kernel_rfl) ⟨((List.length_map _).trans (by assumption)), eM.whole, trivial⟩ (fun uA lU => ?_)
  clear lT
  refine At.call lU 43 #[.agg ((tt : List Int).map wV).toArray] (some 67) (by kernel_rfl) (list_any (s := tt) (by assumption) (bI.wide (Nat.zero_le _) (by omega))) ?_
  rintro e_ iW ⟨eP, gJ, rfl, he, gK⟩
  have := ls_len (fromW tt) 256
  refine ⟨_, rfl, _, rfl, fun uB lV => ?_⟩
  clear lU; have dS := gr_ext he; have lW := bD.lt; have lX := fA.lt; have := dS.size; replace bO := bO.gn dS; replace bP := bP.gn dS; replace bI := bI.gn dS; replace bQ := bQ.gn dS; replace bE := bE.gn dS; replace bR := bR.gn dS; replace bG := bG.gn dS; replace bH := bH.gn dS; replace bJ := bJ.gn dS
  replace bD : OwnR iW (SxP (orN x.T w.heap.size) [obk (eP), some (bN.heap.size), some (cX.heap.size), obk (bZ), some (bM.heap.size), some (w1.heap.size), some (w.heap.size), obk (x.M1), some (x.bd), some (x.bg), some (x.bp), some (x.bk), some (x.bm), some (x.bn), some (eK)]) x.M0 x.c0 3 (na : List Int) := bD.grA dS (fun _ _ h => by cases h) (fun k hk hs => ⟨(fun e => by have := gK.ge _ e; omega), hs.1, hs.2.1, hs.2.2.1, hs.2.2.2.1, hs.2.2.2.2.1, hs.2.2.2.2.2.1, hs.2.2.2.2.2.2.1, hs.2.2.2.2.2.2.2.1, hs.2.2.2.2.2.2.2.2.1, hs.2.2.2.2.2.2.2.2.2.1, hs.2.2.2.2.2.2.2.2.2.2.1, hs.2.2.2.2.2.2.2.2.2.2.2.1, hs.2.2.2.2.2.2.2.2.2.2.2.2.1, hs.2.2.2.2.2.2.2.2.2.2.2.2.2.1, hs.2.2.2.2.2.2.2.2.2.2.2.2.2.2⟩)
  replace fA : OwnR iW (SxP (orN x.T w.heap.size) [obk (eP), some (bN.heap.size), some (cX.heap.size), obk (bZ), some (bM.heap.size), some (w1.heap.size), some (w.heap.size), obk (x.M0), some (x.bd), some (x.bg), some (x.bp), some (x.bk), some (x.bm), some (x.bn), some (eK)]) x.M1 x.c1 3 (n2 : List Int) := fA.grA dS (fun _ _ h => by cases h) (fun k hk hs => ⟨(fun e => by have := gK.ge _ e; omega), hs.1, hs.2.1, hs.2.2.1, hs.2.2.2.1, hs.2.2.2.2.1, hs.2.2.2.2.2.1, hs.2.2.2.2.2.2.1, hs.2.2.2.2.2.2.2.1, hs.2.2.2.2.2.2.2.2.1, hs.2.2.2.2.2.2.2.2.2.1, hs.2.2.2.2.2.2.2.2.2.2.1, hs.2.2.2.2.2.2.2.2.2.2.2.1, hs.2.2.2.2.2.2.2.2.2.2.2.2.1, hs.2.2.2.2.2.2.2.2.2.2.2.2.2.1, hs.2.2.2.2.2.2.2.2.2.2.2.2.2.2⟩)
  replace bK := bK.gn dS; replace bS := bS.gn dS; replace eM := eM.gn dS
  replace gK : OwnR iW (Sx (hP.heap.size) [obk (x.M0), obk (x.M1)]) eP gJ 3 ((lsD (fromW tt) 256) : List Int) := gK.imp (fun g _ hs => ⟨(fun e => by have := lW _ e; have := Sx_base hs; omega), (fun e => by have := lX _ e; have := Sx_base hs; omega), hs⟩)
  clear lW lX; clear dS he
  refine At.rd lV 2 [[], []] [(69, .int .i64 (0)), (68, .int .i64 ((((lsD (fromW tt) 256).length : Nat) : Int)))] [] (by kernel_rfl) trivial (fun uC lY => ?_)
  clear lV
  refine At.done rfl ?_
  refine t_n ?_
  clear eM
  refine wp_block ?_
  have lZ := lY.sub (r := [(69, .int .i64 (0)), (68, .int .i64 ((((lsD (fromW tt) 256).length : Nat) : Int))), (67, .slice eP ((lsD (fromW tt) 256).length) gJ), (12, .int .i64 (1)), (10, .pointer (some ⟨w1.heap.size, 0, none⟩)), (8, .pointer (some ⟨w.heap.size, 0, none⟩)), (3, .pointer (some ⟨x.bg, 0, none⟩)), (6, .pointer (some ⟨x.bm, 0, none⟩))]) ⟨rfl, rfl, rfl, rfl, rfl, rfl, rfl, rfl, trivial⟩
  refine loop_g (fun (m_ : Nat) a_ w_ => ∃ (k : Int) (n3 : List Int), m_ = (((lsD (fromW tt) 256).length : Int) - k).toNat ∧ (Frm 154 a_ [(69, .int .i64 (k)), (68, .int .i64 ((((lsD (fromW tt) 256).length : Nat) : Int))), (67, .slice eP ((lsD (fromW tt) 256).length) gJ), (12, .int .i64 (1)), (10, .pointer (some ⟨w1.heap.size, 0, none⟩)), (8, .pointer (some ⟨w.heap.size, 0, none⟩)), (3, .pointer (some ⟨x.bg, 0, none⟩)), (6, .pointer (some ⟨x.bm, 0, none⟩))]) ∧ (Tch (x.T) w w_) ∧ (RdG w_ 0 x.hi x.A0 x.A1 x.A2 x.k0 x.k1 x.k2 x.g) ∧ (RdT w_ 0 x.hi) ∧ (Bx w_ (x.bd) [.int .i64 (da)] 3) ∧ (Bx w_ (x.bg) [.slice x.A0 x.g.ow.length x.k0, .slice x.A1 x.g.pr.length x.k1, .slice x.A2 x.g.mv.length x.k2] 25) ∧ (Bx w_ (x.bp) [.func (.func 38) #[] #[.pointer (some ⟨x.bd, 0, none⟩), .pointer (some ⟨x.bg, 0, none⟩), .pointer (some ⟨x.bp, 0, none⟩), .pointer (some ⟨x.bk, 0, none⟩), .pointer (some ⟨x.bm, 0, none⟩), .pointer (some ⟨x.bn, 0, none⟩)]] 65) ∧ (Bx w_ (x.bk) [.func (.func 37) #[] #[.pointer (some ⟨x.bm, 0, none⟩)]] 64) ∧ (Bx w_ (x.bm) [.slice x.M0 x.g.ow.length x.c0, .slice x.M1 n3.length x.c1] 29) ∧ (Bx w_ (x.bn) [.int .i64 (((x.g.ow.length : Nat) : Int))] 3) ∧ (OwnR w_ (SxP (orN x.T w.heap.size) [obk (eP), some (w1.heap.size), some (w.heap.size), obk (x.M1), some (x.bd), some (x.bg), some (x.bp), some (x.bk), some (x.bm), some (x.bn)]) x.M0 x.c0 3 (na : List Int)) ∧ (OwnR w_ (SxP (orN x.T w.heap.size) [obk (eP), some (w1.heap.size), some (w.heap.size), obk (x.M0), some (x.bd), some (x.bg), some (x.bp), some (x.bk), some (x.bm), some (x.bn)]) x.M1 x.c1 3 (n3 : List Int)) ∧ (Bx w_ (w.heap.size) ((s : List Int).map wV) 44) ∧ (Bx w_ (w1.heap.size) ((([0, 0, 0, 0]) ++ ([0, 0, 0, 0]) : List Int).map wV) 67) ∧ (OwnR w_ (Sx (hP.heap.size) [obk (x.M0), obk (x.M1)]) eP gJ 3 ((lsD (fromW tt) 256) : List Int)) ∧ (0 ≤ k) ∧ (k ≤ ((lsD (fromW tt) 256).length : Int)) ∧ (MostK x.g s tt 1 n2 n3 k) ∧ (n3.length = n2.length) ∧ (hP.heap.size ≤ w_.heap.size)) _ ⟨0, (n2 : List Int), rfl, lZ, bO, bP, bI, bQ, bE, bR, bG, (bH.as (by first | rfl | (simp only [List.cons.injEq, Value.slice.injEq, true_and, and_true]; omega))), bJ, (bD.imp (fun g _ hs => ⟨hs.1, hs.2.2.2.2.2.1, hs.2.2.2.2.2.2.1, hs.2.2.2.2.2.2.2.1, hs.2.2.2.2.2.2.2.2.1, hs.2.2.2.2.2.2.2.2.2.1, hs.2.2.2.2.2.2.2.2.2.2.1, hs.2.2.2.2.2.2.2.2.2.2.2.1, hs.2.2.2.2.2.2.2.2.2.2.2.2.1, hs.2.2.2.2.2.2.2.2.2.2.2.2.2.1, hs.2.2.2.2.2.2.2.2.2.2.2.2.2.2.2⟩)), (fA.imp (fun g _ hs => ⟨hs.1, hs.2.2.2.2.2.1, hs.2.2.2.2.2.2.1, hs.2.2.2.2.2.2.2.1, hs.2.2.2.2.2.2.2.2.1, hs.2.2.2.2.2.2.2.2.2.1, hs.2.2.2.2.2.2.2.2.2.2.1, hs.2.2.2.2.2.2.2.2.2.2.2.1, hs.2.2.2.2.2.2.2.2.2.2.2.2.1, hs.2.2.2.2.2.2.2.2.2.2.2.2.2.1, hs.2.2.2.2.2.2.2.2.2.2.2.2.2.2.2⟩)), bK, bS, gK, (by omega), (by omega), mostK_0, rfl, (by omega)⟩ ?_
  clear lZ lY; clear bP; clear bI; clear bQ; clear bE; clear bR; clear bG; clear bH; clear bJ; clear bD; clear fA; clear bK; clear bS; clear gK; clear bO
  intro m_ uD eQ ⟨k, n3, hm674, mA, bV, bW, cK, bX, bT, cL, cM, bL, cN, cO, aZ, bY, cP, eH, i689, i690, hmk, i691, i692⟩
  have := bV.size; have := bX.lt; have := bT.lt; have := cL.lt; have := cM.lt; have := bL.lt; have := cN.lt; have := bY.lt; have := cP.lt
  refine wp_seq ?_
  refine At.start ?_
  refine At.rd mA 1 [[]] [(70, .bool (decide ((k : Int) < (((lsD (fromW tt) 256).length : Nat) : Int))))] [] (by kernel_rfl) trivial (fun uE hC => ?_)
  clear mA
  refine At.done rfl ?_
  refine t_n ?_
  refine wp_seq ?_
  refine cond_S hC (t := decide ((k : Int) < (((lsD (fromW tt) 256).length : Nat) : Int))) rfl (fun iX => ?_) (fun iX => ?_)
  ·have uF := of_decide_eq_true iX
   refine wp_skip ?_
   refine t_n ?_
   refine wp_seq ?_
   refine wp_block ?_
   refine wp_seq ?_
   refine At.start ?_
   obtain ⟨hQ, pY, uG, pZ, uH⟩ := eH.get (k) (by omega) (by omega) (sz := 1) rfl
   refine At.rd hC 3 [[.ad hQ], [.ld (.int .i64 (gI (lsD (fromW tt) 256) k))], []] [(18, .int .i64 (gI (lsD (fromW tt) 256) k)), (72, .int .i64 (gI (lsD (fromW tt) 256) k)), (71, .pointer (some (hQ.add ((k : Int).toNat * 1))))] [(eP = some hQ), (0 ≤ (k : Int)), ((k : Int) < ((lsD (fromW tt) 256).length : Nat)), (eQ.cell? (hQ.add ((k : Int).toNat * 1)) = some (.int .i64 (gI (lsD (fromW tt) 256) k)))] (by kernel_rfl) ⟨pY, (by omega), (by omega), pZ, trivial⟩ (fun uI mB => ?_)
   clear hC
   refine At.done rfl ?_
   refine t_n ?_
   refine wp_seq ?_
   have hir := ls_rg (l := fromW tt) (k := k) (by omega) (by omega); have hi1 := hir.1; have hi2 := hL.lt _ ((hTT.at_ _).1 hir).1
   refine At.start ?_
   obtain ⟨hS, qA, _, uJ, qB⟩ := RdI.get bW.ow (gI (lsD (fromW tt) 256) k) (by omega) (by omega)
   refine At.rd mB 7 [[], [.ld (.slice x.A0 x.g.ow.length x.k0)], [], [.ad hS], [.ld (.int .i64 (gI x.g.ow (gI (lsD (fromW tt) 256) k)))], [], []] [(79, .bool ((gI x.g.ow (gI (lsD (fromW tt) 256) k) : Int) == 1)), (78, .int .i64 (1)), (77, .int .i64 (gI x.g.ow (gI (lsD (fromW tt) 256) k))), (76, .pointer (some (hS.add ((gI (lsD (fromW tt) 256) k : Int).toNat * 1)))), (75, .int .i64 (gI (lsD (fromW tt) 256) k)), (74, .slice x.A0 x.g.ow.length x.k0), (73, .pointer (some ⟨x.bg, 0, none⟩))] [(eQ.cell? ⟨x.bg, 0, none⟩ = some (.slice x.A0 x.g.ow.length x.k0)), (x.A0 = some hS), (0 ≤ (gI (lsD (fromW tt) 256) k : Int)), ((gI (lsD (fromW tt) 256) k : Int) < (x.g.ow.length : Nat)), (eQ.cell? (hS.add ((gI (lsD (fromW tt) 256) k : Int).toNat * 1)) = some (.int .i64 (gI x.g.ow (gI (lsD (fromW tt) 256) k))))] (by kernel_rfl) ⟨(bT.cell (i := 0) rfl), qA, (by omega), (by omega), qB, trivial⟩ (fun uK hD => ?_)
   clear mB
   refine At.done rfl ?_
   refine t_n ?_
   refine cond_S hD (t := (gI x.g.ow (gI (lsD (fromW tt) 256) k) : Int) == 1) rfl (fun iY => ?_) (fun iY => ?_)
   ·have uL := eq_of_beq iY
    obtain ⟨gM, gN, gO, qC, _, uM, qD, uN, eL⟩ := RdII.get bW.mv (gI (lsD (fromW tt) 256) k) (by omega) (by omega)
    have uO := eL.len
    obtain ⟨gP, gQ⟩ : ∃ c : List (Addr × Value), c = ([(⟨x.bm, 1, none⟩, (.slice x.M1 n3.length x.c1)), (⟨x.bg, 2, none⟩, (.slice x.A2 x.g.mv.length x.k2)), ((gM.add ((gI (lsD (fromW tt) 256) k : Int).toNat * 1)), (.slice gN ((gL x.g.mv (gI (lsD (fromW tt) 256) k)).length) gO))] : List (Addr × Value)) ++ blkC (w.heap.size) ((s : List Int).map wV) := ⟨_, rfl⟩
    have mC : HoldsC gP eQ := by rw [gQ]; exact (holdsA (show HoldsC [(⟨x.bm, 1, none⟩, (.slice x.M1 n3.length x.c1)), (⟨x.bg, 2, none⟩, (.slice x.A2 x.g.mv.length x.k2)), ((gM.add ((gI (lsD (fromW tt) 256) k : Int).toNat * 1)), (.slice gN ((gL x.g.mv (gI (lsD (fromW tt) 256) k)).length) gO))] eQ from ⟨(bL.cell (i := 1) rfl), (bT.cell (i := 2) rfl), qD, trivial⟩) (holds_blk bY))
    refine AtH.start gP 15 #[false, false, false, false, false, false, false, false, false, false, false, false, false, false, false] (by kernel_rfl) rfl rfl (fun uP mD => ?_)
    have cQ := gr_drew mD; have mE := mC.gr cQ; have := cQ.size; replace bV := bV.gn cQ; replace bW := bW.gn cQ; replace cK := cK.gn cQ; replace bX := bX.gn cQ; replace bT := bT.gn cQ; replace cL := cL.gn cQ; replace cM := cM.gn cQ; replace bL := bL.gn cQ; replace cN := cN.gn cQ; replace cO := cO.gn cQ; replace aZ := aZ.gn cQ; replace bY := bY.gn cQ; replace cP := cP.gn cQ; replace eH := eH.gn cQ
    replace eL := eL.gn cQ; clear cQ mD mC
    refine AtH.rd (by kernel_rfl) (fun d v c a w h => by cases d <;> exact h) mE [0, 1, 2, 3, 4, 5, 6, 7, 8, 10] [[], [], [.ld (.slice x.M1 n3.length x.c1)], [], [], [.ld (.slice x.A2 x.g.mv.length x.k2)], [], [.ad gM], [.ld (.slice gN ((gL x.g.mv (gI (lsD (fromW tt) 256) k)).length) gO)], [.cs ((s : List Int).map wV)]] [(90, .agg ((s : List Int).map wV).toArray), (88, .slice gN ((gL x.g.mv (gI (lsD (fromW tt) 256) k)).length) gO), (87, .pointer (some (gM.add ((gI (lsD (fromW tt) 256) k : Int).toNat * 1)))), (86, .int .i64 (gI (lsD (fromW tt) 256) k)), (85, .slice x.A2 x.g.mv.length x.k2), (84, .pointer (some ⟨x.bg, 2, none⟩)), (83, .int .i64 (gI (lsD (fromW tt) 256) k)), (82, .slice x.M1 n3.length x.c1), (81, .pointer (some ⟨x.bm, 1, none⟩)), (80, .int .i64 (1))] #[true, true, true, true, true, true, true, true, true, false, true, false, false, false, false] [(0 ≤ (1 : Int)), ((1 : Int) < (2 : Nat)), (∃ j_ : Nat, gP[j_]? = some (⟨x.bm, 1, none⟩, (.slice x.M1 n3.length x.c1))), (∃ j_ : Nat, gP[j_]? = some (⟨x.bg, 2, none⟩, (.slice x.A2 x.g.mv.length x.k2))), (x.A2 = some gM), (0 ≤ (gI (lsD (fromW tt) 256) k : Int)), ((gI (lsD (fromW tt) 256) k : Int) < (x.g.mv.length : Nat)), (∃ j_ : Nat, gP[j_]? = some ((gM.add ((gI (lsD (fromW tt) 256) k : Int).toNat * 1)), (.slice gN ((gL x.g.mv (gI (lsD (fromW tt) 256) k)).length) gO))), (((s : List Int).map wV).length = 4), (∀ (j : Nat) (v : Value), ((s : List Int).map wV)[j]? = some v → ∃ j_ : Nat, gP[j_]? = some (((⟨w.heap.size, 0, none⟩ : Addr).add j), v))] 5 hD (by kernel_rfl) ⟨(by decide), (by decide), ⟨0, by rw [gQ]; rfl⟩, ⟨1, by rw [gQ]; rfl⟩, qC, (by omega), (by omega), ⟨2, by rw [gQ]; rfl⟩, ((List.length_map _).trans (by assumption)), (fun j v hv => List.getElem?_of_mem (by rw [gQ]; exact List.mem_append.2 (.inr (blkC_in hv)))), trivial⟩ (fun uQ mF => ?_)
    clear hD
    refine AtH.all [9] 4 (by kernel_rfl) (by simp) ⟨?_, trivial⟩
    refine OneH.call mF 22 #[.slice gN ((gL x.g.mv (gI (lsD (fromW tt) 256) k)).length) gO] (some 89) #[true, true, true, true, true, true, true, true, true, true, true, false, false, false, false] (by kernel_rfl) (by kernel_rfl) (of_any (la := gL x.g.mv (gI (lsD (fromW tt) 256) k)) (eL.wide (Nat.zero_le _) (by omega))) ?_
    rintro e_ uR ⟨rfl, he⟩
    refine ⟨_, rfl, _, rfl, fun uS mG => ?_⟩
    clear mF; have cR := gr_ext he; have mH := mE.gr cR; have := cR.size; replace bV := bV.gn cR; replace bW := bW.gn cR; replace cK := cK.gn cR; replace bX := bX.gn cR; replace bT := bT.gn cR; replace cL := cL.gn cR; replace cM := cM.gn cR; replace bL := bL.gn cR; replace cN := cN.gn cR; replace cO := cO.gn cR; replace aZ := aZ.gn cR; replace bY := bY.gn cR; replace cP := cP.gn cR
    replace eH := eH.gn cR; replace eL := eL.gn cR; clear cR he
    refine ⟨mH, ?_⟩
    refine AtH.all [11] 3 (by kernel_rfl) (by simp) ⟨?_, trivial⟩
    refine OneH.call mG 26 #[.agg ((ofW (gL x.g.mv (gI (lsD (fromW tt) 256) k)) : List Int).map wV).toArray, .agg ((s : List Int).map wV).toArray] (some 91) #[true, true, true, true, true, true, true, true, true, true, true, true, false, false, false] (by kernel_rfl) (by kernel_rfl) (andS_any (s := ofW (gL x.g.mv (gI (lsD (fromW tt) 256) k))) (t := s) (ofW_ok _) (by assumption)) ?_
    rintro e_ uT ⟨rfl, he⟩
    refine ⟨_, rfl, _, rfl, fun uU mI => ?_⟩
    clear mG; have cS := gr_ext he; have mJ := mH.gr cS; have := cS.size; replace bV := bV.gn cS; replace bW := bW.gn cS; replace cK := cK.gn cS; replace bX := bX.gn cS; replace bT := bT.gn cS; replace cL := cL.gn cS; replace cM := cM.gn cS; replace bL := bL.gn cS; replace cN := cN.gn cS; replace cO := cO.gn cS; replace aZ := aZ.gn cS; replace bY := bY.gn cS; replace cP := cP.gn cS
    replace eH := eH.gn cS; replace eL := eL.gn cS; clear cS he
    refine ⟨mJ, ?_⟩
    refine AtH.all [12] 2 (by kernel_rfl) (by simp) ⟨?_, trivial⟩
    refine OneH.call mI 40 #[.agg ((andS (ofW (gL x.g.mv (gI (lsD (fromW tt) 256) k))) s : List Int).map wV).toArray] (some 92) #[true, true, true, true, true, true, true, true, true, true, true, true, true, false, false] (by kernel_rfl) (by kernel_rfl) (least_any (s := andS (ofW (gL x.g.mv (gI (lsD (fromW tt) 256) k))) s) (okW_andS (ofW_ok _) (by assumption)) (cK.wide (Nat.zero_le _) (by omega))) ?_
    rintro e_ uV ⟨rfl, he⟩
    have := leastD_b (fromW (andS (ofW (gL x.g.mv (gI (lsD (fromW tt) 256) k))) s))
    refine ⟨_, rfl, _, rfl, fun uW mK => ?_⟩
    clear mI; have cT := gr_ext he; have iZ := mJ.gr cT; have := cT.size; replace bV := bV.gn cT; replace bW := bW.gn cT; replace cK := cK.gn cT; replace bX := bX.gn cT; replace bT := bT.gn cT; replace cL := cL.gn cT; replace cM := cM.gn cT; replace bL := bL.gn cT; replace cN := cN.gn cT; replace cO := cO.gn cT; replace aZ := aZ.gn cT; replace bY := bY.gn cT; replace cP := cP.gn cT
    replace eH := eH.gn cT; replace eL := eL.gn cT; clear cT he
    refine ⟨iZ, ?_⟩
    obtain ⟨hU, mL, uX, uY, uZ⟩ := aZ.get (gI (lsD (fromW tt) 256) k) (by omega) (by omega) (sz := 1) rfl
    refine AtH.rd (by kernel_rfl) (fun d v c a w h => by cases d <;> exact h) iZ [13] [[.ad hU]] [(93, .pointer (some (hU.add ((gI (lsD (fromW tt) 256) k : Int).toNat * 1))))] #[true, true, true, true, true, true, true, true, true, true, true, true, true, true, false] [(x.M1 = some hU), (0 ≤ (gI (lsD (fromW tt) 256) k : Int)), ((gI (lsD (fromW tt) 256) k : Int) < (n3.length : Nat))] 1 mK (by kernel_rfl) ⟨mL, (by omega), (by omega), trivial⟩ (fun vA mM => ?_)
    clear mK
    refine AtH.all [14] 0 (by kernel_rfl) (by simp) ⟨?_, trivial⟩
    refine OneH.act mM #[true, true, true, true, true, true, true, true, true, true, true, true, true, true, true] (by kernel_rfl) (storeR (α := Int) (t := 3) (i := gI (lsD (fromW tt) 256) k) (ad := hU) (v := .int .i64 (leastD (fromW (andS (ofW (gL x.g.mv (gI (lsD (fromW tt) 256) k))) s)))) (leastD (fromW (andS (ofW (gL x.g.mv (gI (lsD (fromW tt) 256) k))) s))) (by kernel_rfl) rfl rfl (by kernel_rfl) mL aZ (by omega) (by omega)) ?_
    rintro d_ v_ qE ⟨rfl, dA, qF⟩
    have mN := iZ.grO dA (by rw [gQ]; exact (allP_app ⟨(aZ.neb (fun g hs => hs.2.2.2.2.2.2.2.2.1)), (aZ.neb (fun g hs => hs.2.2.2.2.2.1)), (fun e => by have h_ := orN_hi K.hT (by omega) ((aZ.inS _ e).2.2.2.2.2.2.2.2.2.2); simp only [add_block] at h_; omega), trivial⟩ (neO_blk (aZ.neb (fun g hs => hs.2.2.1)))))
    refine ⟨_, rfl, fun vB mO => ⟨mN, ?_⟩⟩
    clear mM
    have vC : ((n3).set (gI (lsD (fromW tt) 256) k : Int).toNat (leastD (fromW (andS (ofW (gL x.g.mv (gI (lsD (fromW tt) 256) k))) s)))).length = (n3).length := List.length_set
    have := dA.size; replace bV := bV.gr dA (fun k hk => (aZ.inS k hk).2.2.2.2.2.2.2.2.2.2); replace bW := bW.gr dA (fun k hk => .inr (orN_hi K.hT (by omega) ((aZ.inS k hk).2.2.2.2.2.2.2.2.2.2))); replace cK := cK.gr dA (fun k hk => .inr (orN_hi K.hT (by omega) ((aZ.inS k hk).2.2.2.2.2.2.2.2.2.2))); replace bX := bX.gr dA (aZ.neb (fun g hs => hs.2.2.2.2.1))
    replace bT := bT.gr dA (aZ.neb (fun g hs => hs.2.2.2.2.2.1)); replace cL := cL.gr dA (aZ.neb (fun g hs => hs.2.2.2.2.2.2.1)); replace cM := cM.gr dA (aZ.neb (fun g hs => hs.2.2.2.2.2.2.2.1)); replace bL := bL.gr dA (aZ.neb (fun g hs => hs.2.2.2.2.2.2.2.2.1)); replace cN := cN.gr dA (aZ.neb (fun g hs => hs.2.2.2.2.2.2.2.2.2.1)); replace cO := cO.gr dA (fun k hk => hk.2.2.2.1)
    replace bY := bY.gr dA (aZ.neb (fun g hs => hs.2.2.1)); replace cP := cP.gr dA (aZ.neb (fun g hs => hs.2.1)); replace eH := eH.gr dA (fun k hk => hk.2.1); replace eL := eL.gr dA (fun k hk => .inr (orN_hi K.hT (by omega) ((aZ.inS k hk).2.2.2.2.2.2.2.2.2.2))); clear aZ dA
    have mP := mO.as 82 (.slice x.M1 n3.length x.c1) (.slice x.M1 (((n3).set (gI (lsD (fromW tt) 256) k : Int).toNat (leastD (fromW (andS (ofW (gL x.g.mv (gI (lsD (fromW tt) 256) k))) s))) : List Int).length) x.c1) rfl (slice_len (by first | rfl | omega | (simp; done) | (simp; omega)))
    clear mO
    replace bL : Bx qE (x.bm) [.slice x.M0 x.g.ow.length x.c0, .slice x.M1 (((n3).set (gI (lsD (fromW tt) 256) k : Int).toNat (leastD (fromW (andS (ofW (gL x.g.mv (gI (lsD (fromW tt) 256) k))) s)))).length) x.c1] 29 := bL.as (by first | rfl | (simp only [List.length_set]; done))
    refine AtH.done (by kernel_rfl) ?_
    clear mN
    refine b_n ?_
    refine t_n ?_
    clear eL
    refine At.start ?_
    refine At.rd mP 2 [[.as_ (.int .i64 (k + 1))], []] [(69, .int .i64 (k + 1)), (94, .int .i64 (k + 1))] [((.int .i64 (IntKind.i64.wrap (k + 1)) : Value) = .int .i64 (k + 1))] (by kernel_rfl) ⟨(w64 (by omega) (by omega)), trivial⟩ (fun vD qG => ?_)
    clear mP
    refine At.done rfl ?_
    refine t_n ?_
    have qH := qG.sub (r := [(69, .int .i64 (k + 1)), (68, .int .i64 ((((lsD (fromW tt) 256).length : Nat) : Int))), (67, .slice eP ((lsD (fromW tt) 256).length) gJ), (12, .int .i64 (1)), (10, .pointer (some ⟨w1.heap.size, 0, none⟩)), (8, .pointer (some ⟨w.heap.size, 0, none⟩)), (3, .pointer (some ⟨x.bg, 0, none⟩)), (6, .pointer (some ⟨x.bm, 0, none⟩))]) ⟨rfl, rfl, rfl, rfl, rfl, rfl, rfl, rfl, trivial⟩
    exact ⟨_, (by omega), (k + 1), ((n3).set (gI (lsD (fromW tt) 256) k : Int).toNat (leastD (fromW (andS (ofW (gL x.g.mv (gI (lsD (fromW tt) 256) k))) s))) : List Int), rfl, qH, bV, bW, cK, bX, bT, cL, cM, bL, cN, cO, qF, bY, cP, eH, (by omega), (by omega), (mostK_yes hmk (by omega) (by omega) (by omega) (by omega)), (by rw [List.length_set]; exact hmk.1), (by omega)⟩
   have vE := ne_of_beq_false iY
   refine wp_skip ?_
   refine b_n ?_
   refine t_n ?_
   refine At.start ?_
   refine At.rd hD 2 [[.as_ (.int .i64 (k + 1))], []] [(69, .int .i64 (k + 1)), (94, .int .i64 (k + 1))] [((.int .i64 (IntKind.i64.wrap (k + 1)) : Value) = .int .i64 (k + 1))] (by kernel_rfl) ⟨(w64 (by omega) (by omega)), trivial⟩ (fun vF qI => ?_)
   clear hD
   refine At.done rfl ?_
   refine t_n ?_
   have qJ := qI.sub (r := [(69, .int .i64 (k + 1)), (68, .int .i64 ((((lsD (fromW tt) 256).length : Nat) : Int))), (67, .slice eP ((lsD (fromW tt) 256).length) gJ), (12, .int .i64 (1)), (10, .pointer (some ⟨w1.heap.size, 0, none⟩)), (8, .pointer (some ⟨w.heap.size, 0, none⟩)), (3, .pointer (some ⟨x.bg, 0, none⟩)), (6, .pointer (some ⟨x.bm, 0, none⟩))]) ⟨rfl, rfl, rfl, rfl, rfl, rfl, rfl, rfl, trivial⟩
   exact ⟨_, (by omega), (k + 1), (n3 : List Int), rfl, qJ, bV, bW, cK, bX, bT, cL, cM, bL, cN, cO, aZ, bY, cP, eH, (by omega), (by omega), (mostK_no hmk (by omega) (by omega) (by omega)), hmk.1, (by omega)⟩
  have vG := of_decide_eq_false iX
  refine wp_exit ?_
  refine t_e ?_
  refine t_e ?_
  refine b_e ?_
  refine t_n ?_
  clear eH
  refine wp_seq ?_
  have hms_ := mostK_end hmk (by omega)
  refine At.start ?_
  refine At.seq hC 1 [[]] [(19, .pointer (some ⟨eQ.heap.size, 0, none⟩))] (eQ.alloc (.cells ((([0, 0, 0, 0]) ++ ([0, 0, 0, 0]) : List Int).map wV).toArray 67 (0, 0))) [] (by kernel_rfl) trivial (fun vH mQ jA mR => ?_)
  clear hC; have eB := gr_alloc jA; have := eB.size; replace bV := bV.gn eB; replace bW := bW.gn eB; replace cK := cK.gn eB; replace bX := bX.gn eB; replace bT := bT.gn eB; replace cL := cL.gn eB; replace cM := cM.gn eB; replace bL := bL.gn eB; replace cN := cN.gn eB; replace cO := cO.grN eB; replace aZ := aZ.grN eB; replace bY := bY.gn eB; replace cP := cP.gn eB
  have jB : Bx mQ (eQ.heap.size) ((([0, 0, 0, 0]) ++ ([0, 0, 0, 0]) : List Int).map wV) 67 := Bx.new jA; have := jB.lt; clear eB jA
  refine At.done rfl ?_
  refine t_n ?_
  refine wp_seq ?_
  refine At.start ?_
  refine At.rd mR 3 [[], [.cs ((s : List Int).map wV)], []] [(97, .pointer (some ⟨eQ.heap.size, 4, none⟩)), (96, .agg ((s : List Int).map wV).toArray), (95, .int .i64 (1))] [(((s : List Int).map wV).length = 4), (∀ (j : Nat) (v : Value), ((s : List Int).map wV)[j]? = some v → mQ.cell? ((⟨w.heap.size, 0, none⟩ : Addr).add j) = some v), (0 ≤ (1 : Int)), ((1 : Int) < (2 : Nat))] (by kernel_rfl) ⟨((List.length_map _).trans (by assumption)), bY.whole, (by decide), (by decide), trivial⟩ (fun vI mS => ?_)
  clear mR
  refine At.act mS (storeBlkR (f := wV) (a := [0, 0, 0, 0]) (c := [0, 0, 0, 0]) (x := s) (t := 44) (b := eQ.heap.size) (n := 4) (by kernel_rfl) (by kernel_rfl) ((List.length_map _).trans (by assumption)) oneW_ (okLen okW_00) ((show s.length = 4 from (by assumption)).trans (show ([0, 0, 0, 0]).length = 4 from (okLen okW_00)).symm) jB) ?_
  rintro d_ v_ qK ⟨rfl, eC, hV⟩
  refine ⟨_, rfl, fun vJ mT => ?_⟩
  clear mS; have := eC.size; replace bV := bV.gr eC (fun k h => .inr (by injection h; omega)); replace bW := bW.gb eC (by omega); replace cK := cK.gb eC (by omega); replace bX := bX.gb eC (by omega); replace bT := bT.gb eC (by omega); replace cL := cL.gb eC (by omega); replace cM := cM.gb eC (by omega); replace bL := bL.gb eC (by omega); replace cN := cN.gb eC (by omega)
  replace cO := cO.gr eC (fun k hk => hk.1); replace aZ := aZ.gr eC (fun k hk => hk.1); replace bY := bY.gb eC (by omega); replace cP := cP.gb eC (by omega); clear jB eC
  refine At.done rfl ?_
  refine t_n ?_
  clear bY
  refine wp_seq ?_
  refine At.start ?_
  refine At.rd mT 1 [[.cs ((([0, 0, 0, 0]) ++ s : List Int).map wV)]] [(98, .agg ((([0, 0, 0, 0]) ++ s : List Int).map wV).toArray)] [(((([0, 0, 0, 0]) ++ s : List Int).map wV).length = 8), (∀ (j : Nat) (v : Value), ((([0, 0, 0, 0]) ++ s : List Int).map wV)[j]? = some v → qK.cell? ((⟨eQ.heap.size, 0, none⟩ : Addr).add j) = some v)] (by kernel_rfl) ⟨(len8 (okLen okW_00) (by assumption)), hV.whole, trivial⟩ (fun vK mU => ?_)
  clear mT
  refine At.act mU (storeBlk (t := 67) (b := w1.heap.size) (n := 8) (cs' := ((([0, 0, 0, 0]) ++ s : List Int).map wV)) (by kernel_rfl) (by kernel_rfl) (len8 (okLen okW_00) (by assumption)) oneW_ ((show ((([0, 0, 0, 0]) ++ s : List Int).map wV).length = 8 from (len8 (okLen okW_00) (by assumption))).trans (show ((([0, 0, 0, 0]) ++ ([0, 0, 0, 0]) : List Int).map wV).length = 8 from (len8 (okLen okW_00) (okLen okW_00))).symm) cP) ?_
  rintro d_ v_ vL ⟨rfl, eI, qL⟩
  refine ⟨_, rfl, fun vM qM => ?_⟩
  clear mU; have := eI.size; replace bV := bV.gr eI (fun k h => .inr (by injection h; omega)); replace bW := bW.gb eI (by omega); replace cK := cK.gb eI (by omega); replace bX := bX.gb eI (by omega); replace bT := bT.gb eI (by omega); replace cL := cL.gb eI (by omega); replace cM := cM.gb eI (by omega); replace bL := bL.gb eI (by omega); replace cN := cN.gb eI (by omega)
  replace cO := cO.gr eI (fun k hk => hk.2.2.1); replace aZ := aZ.gr eI (fun k hk => hk.2.2.1); replace hV := hV.gb eI (by omega); clear cP eI
  refine At.done rfl ?_
  refine t_n ?_
  clear hV
  refine wp_ret ?_
  refine t_r ?_
  refine retB_ qM (sl := 10) (cs := ((([0, 0, 0, 0]) ++ s : List Int).map wV)) (m := 8) rfl (by kernel_rfl) (by kernel_rfl) (len8 (okLen okW_00) (by assumption)) qL ?_
  have hfin := (part_win hR (.inr rfl) hL hs (by omega) hTT hpp hat hpS he0_ hke_ hms_).swap
  exact ⟨[0, 0, 0, 0], s, _, _, _, rfl, bV, bX, cO.imp (fun _ _ _ => trivial), aZ.imp (fun _ _ _ => trivial), hfin, by omega, by omega, by omega⟩
 have vN := of_decide_eq_false iV
 refine wp_skip ?_
 refine t_n ?_
 clear eM; clear eY
 refine wp_seq ?_
 have hne2_ := inP_none hok_sa (by assumption)
 refine At.start ?_
 refine At.rd hB 5 [[.ld (.slice x.A0 x.g.ow.length x.k0), .ld (.slice x.A1 x.g.pr.length x.k1), .ld (.slice x.A2 x.g.mv.length x.k2)], [.cs ((s : List Int).map wV)], [], [.as_ (.int .i64 (0))], [.cs ((sa : List Int).map wV)]] [(104, .agg ((sa : List Int).map wV).toArray), (103, .int .i64 (0)), (102, .int .i64 (1)), (101, .agg ((s : List Int).map wV).toArray), (100, .agg #[.slice x.A0 x.g.ow.length x.k0, .slice x.A1 x.g.pr.length x.k1, .slice x.A2 x.g.mv.length x.k2])] [(eZ.cell? ⟨x.bg, 0, none⟩ = some (.slice x.A0 x.g.ow.length x.k0)), (eZ.cell? ⟨x.bg, 1, none⟩ = some (.slice x.A1 x.g.pr.length x.k1)), (eZ.cell? ⟨x.bg, 2, none⟩ = some (.slice x.A2 x.g.mv.length x.k2)), (((s : List Int).map wV).length = 4), (∀ (j : Nat) (v : Value), ((s : List Int).map wV)[j]? = some v → eZ.cell? ((⟨w.heap.size, 0, none⟩ : Addr).add j) = some v), ((.int .i64 (IntKind.i64.wrap (1 - 1)) : Value) = .int .i64 (0)), (((sa : List Int).map wV).length = 4), (∀ (j : Nat) (v : Value), ((sa : List Int).map wV)[j]? = some v → eZ.cell? ((⟨bN.heap.size, 0, none⟩ : Addr).add j) = some v)] (by kernel_rfl) ⟨(bE.cell (i := 0) rfl), (bE.cell (i := 1) rfl), (bE.cell (i := 2) rfl), ((List.length_map _).trans (by assumption)), bK.whole, (by kernel_rfl), ((List.length_map _).trans (by assumption)), eA.whole, trivial⟩ (fun vO mV => ?_)
 clear hB
 refine At.call mV 41 #[.agg #[.slice x.A0 x.g.ow.length x.k0, .slice x.A1 x.g.pr.length x.k1, .slice x.A2 x.g.mv.length x.k2], .agg ((s : List Int).map wV).toArray, .int .i64 (0), .agg ((sa : List Int).map wV).toArray] (some 105) (by kernel_rfl) (attract_any (g := x.g) (s := s) (t := sa) (p := 0) (bP.wide (Nat.zero_le _) (by omega)) (by assumption) (by assumption) (bI.wide (Nat.zero_le _) (by omega))) ?_
 rintro e_ bC ⟨fO, gR, gs, ls, rfl, he, eN, hbt⟩
 have hok_gs := att_ok hbt; have hl_gs := okLen hok_gs; have hlm_ls := att_len hbt
 refine ⟨_, rfl, _, rfl, fun vP mW => ?_⟩
 clear mV; have dT := gr_ext he; have mX := bD.lt; have mY := bF.lt; have := dT.size; replace bO := bO.gn dT; replace bP := bP.gn dT; replace bI := bI.gn dT; replace bQ := bQ.gn dT; replace bE := bE.gn dT; replace bR := bR.gn dT; replace bG := bG.gn dT; replace bH := bH.gn dT; replace bJ := bJ.gn dT
 replace bD : OwnR bC (SxP (orN x.T w.heap.size) [obk (fO), some (bN.heap.size), some (cX.heap.size), obk (bZ), some (bM.heap.size), some (w1.heap.size), some (w.heap.size), obk (x.M1), some (x.bd), some (x.bg), some (x.bp), some (x.bk), some (x.bm), some (x.bn), some (eK)]) x.M0 x.c0 3 (na : List Int) := bD.grA dT (fun _ _ h => by cases h) (fun k hk hs => ⟨(fun e => by have := eN.ge _ e; omega), hs.1, hs.2.1, hs.2.2.1, hs.2.2.2.1, hs.2.2.2.2.1, hs.2.2.2.2.2.1, hs.2.2.2.2.2.2.1, hs.2.2.2.2.2.2.2.1, hs.2.2.2.2.2.2.2.2.1, hs.2.2.2.2.2.2.2.2.2.1, hs.2.2.2.2.2.2.2.2.2.2.1, hs.2.2.2.2.2.2.2.2.2.2.2.1, hs.2.2.2.2.2.2.2.2.2.2.2.2.1, hs.2.2.2.2.2.2.2.2.2.2.2.2.2.1, hs.2.2.2.2.2.2.2.2.2.2.2.2.2.2⟩)
 replace bF : OwnR bC (SxP (orN x.T w.heap.size) [obk (fO), some (bN.heap.size), some (cX.heap.size), obk (bZ), some (bM.heap.size), some (w1.heap.size), some (w.heap.size), obk (x.M0), some (x.bd), some (x.bg), some (x.bp), some (x.bk), some (x.bm), some (x.bn), some (eK)]) x.M1 x.c1 3 (nb : List Int) := bF.grA dT (fun _ _ h => by cases h) (fun k hk hs => ⟨(fun e => by have := eN.ge _ e; omega), hs.1, hs.2.1, hs.2.2.1, hs.2.2.2.1, hs.2.2.2.2.1, hs.2.2.2.2.2.1, hs.2.2.2.2.2.2.1, hs.2.2.2.2.2.2.2.1, hs.2.2.2.2.2.2.2.2.1, hs.2.2.2.2.2.2.2.2.2.1, hs.2.2.2.2.2.2.2.2.2.2.1, hs.2.2.2.2.2.2.2.2.2.2.2.1, hs.2.2.2.2.2.2.2.2.2.2.2.2.1, hs.2.2.2.2.2.2.2.2.2.2.2.2.2.1, hs.2.2.2.2.2.2.2.2.2.2.2.2.2.2⟩)
 replace bK := bK.gn dT; replace bS := bS.gn dT; replace eA := eA.gn dT
 replace eN : OwnR bC (Sx (eZ.heap.size) [obk (x.M0), obk (x.M1)]) fO gR 3 (ls : List Int) := eN.imp (fun g _ hs => ⟨(fun e => by have := mX _ e; have := Sx_base hs; omega), (fun e => by have := mY _ e; have := Sx_base hs; omega), hs⟩)
 clear mX mY; clear dT he
 refine At.rd mW 3 [[], [], []] [(107, .slice fO ls.length gR), (106, .agg ((gs : List Int).map wV).toArray), (99, .tuple #[.agg ((gs : List Int).map wV).toArray, .slice fO ls.length gR])] [] (by kernel_rfl) trivial (fun vQ mZ => ?_)
 clear mW
 refine At.seq mZ 1 [[]] [(20, .pointer (some ⟨bC.heap.size, 0, none⟩))] (bC.alloc (.cells ((List.replicate 4 (0 : Int) : List Int).map wV).toArray 44 (0, 0))) [] (by kernel_rfl) trivial (fun vR qN jC nA => ?_)
 clear mZ; have dB := gr_alloc jC; have := dB.size; replace bO := bO.gn dB; replace bP := bP.gn dB; replace bI := bI.gn dB; replace bQ := bQ.gn dB; replace bE := bE.gn dB; replace bR := bR.gn dB; replace bG := bG.gn dB; replace bH := bH.gn dB; replace bJ := bJ.gn dB; replace bD := bD.grN dB; replace bF := bF.grN dB; replace bK := bK.gn dB; replace bS := bS.gn dB; replace eA := eA.gn dB
 replace eN := eN.grN dB; have jD : Bx qN (bC.heap.size) ((List.replicate 4 (0 : Int) : List Int).map wV) 44 := Bx.new jC; have := jD.lt; clear dB jC
 refine At.act nA (storeBlk (t := 44) (b := bC.heap.size) (n := 4) (cs' := ((gs : List Int).map wV)) (by kernel_rfl) (by kernel_rfl) ((List.length_map _).trans (by assumption)) oneW_ ((show ((gs : List Int).map wV).length = 4 from ((List.length_map _).trans (by assumption))).trans (show ((List.replicate 4 (0 : Int) : List Int).map wV).length = 4 from (by simp only [List.length_map, List.length_set, List.length_replicate, List.length_cons, List.length_nil]; first | done | assumption | exact from_len _ | exact of_len _ | exact ofZ_len _ | exact (ofW_ok _).1 | exact (fullW_W _).1 | exact (okW_with (by assumption)).1 | exact (okW_less (by assumption)).1 | exact put_len (from_len _) | exact orD_len _ _ | exact andD_len _ _ | exact minusD_len _ _ | exact fullD_len _ | (refine okLen ?_; (repeat (first | assumption | exact ofW_ok _ | exact fullW_W _ | apply okW_with | apply okW_less | refine okW_orS ?_ ?_ | refine okW_andS ?_ ?_ | refine okW_minusS ?_ ?_)); done) | omega | rfl)).symm) jD) ?_
 rintro d_ v_ qO ⟨rfl, dC, hW⟩
 refine ⟨_, rfl, fun vS nB => ?_⟩
 clear nA; have := dC.size; replace bO := bO.gr dC (fun k h => .inr (by injection h; omega)); replace bP := bP.gb dC (by omega); replace bI := bI.gb dC (by omega); replace bQ := bQ.gb dC (by omega); replace bE := bE.gb dC (by omega); replace bR := bR.gb dC (by omega); replace bG := bG.gb dC (by omega); replace bH := bH.gb dC (by omega); replace bJ := bJ.gb dC (by omega)
 replace bD := bD.gr dC (fun k hk => hk.1); replace bF := bF.gr dC (fun k hk => hk.1); replace bK := bK.gb dC (by omega); replace bS := bS.gb dC (by omega); replace eA := eA.gb dC (by omega); replace eN := eN.gr dC (fun k hk => hk.1); clear jD dC
 refine At.rd nB 1 [[]] [(14, .slice fO ls.length gR)] [] (by kernel_rfl) trivial (fun vT nC => ?_)
 clear nB
 refine At.done rfl ?_
 refine t_n ?_
 refine wp_seq ?_
 have hml2_ := (att_inT hR (.inl rfl) hbt).2.ml
 refine At.start ?_
 refine At.rd nC 4 [[.ld (.func (.func 37) #[] #[.pointer (some ⟨x.bm, 0, none⟩)])], [], [.as_ (.int .i64 (0))], []] [(111, .slice fO ls.length gR), (110, .int .i64 (0)), (109, .int .i64 (1)), (108, .func (.func 37) #[] #[.pointer (some ⟨x.bm, 0, none⟩)])] [(qO.cell? ⟨x.bk, 0, none⟩ = some (.func (.func 37) #[] #[.pointer (some ⟨x.bm, 0, none⟩)])), ((.int .i64 (IntKind.i64.wrap (1 - 1)) : Value) = .int .i64 (0))] (by kernel_rfl) ⟨(bG.cell (i := 0) rfl), (by kernel_rfl), trivial⟩ (fun vU nD => ?_)
 clear nC
 refine At.call nD 37 #[.int .i64 (0), .slice fO ls.length gR, .pointer (some ⟨x.bm, 0, none⟩)] (some 112) (by kernel_rfl) (keep0_any (mm := na) (la := ls) (lo := eZ.heap.size) (bm := x.bm) ((OwnR.rdR eN (by show _ * 8 ≤ _; omega)).rdI) bH (bD.self.imp (fun g _ hs => ⟨hs.1.2.2.2.2.2.2.2.2.2.2.2.2.2.1, hs.2⟩)) (fun k hk => by have := hM0 k hk; omega) (by omega) (by omega)) ?_
 rintro e_ qP ⟨rfl, he980, q2, hmo979, hkeB⟩
 have hkl_q2 := hkeB.1
 refine ⟨_, rfl, _, rfl, fun vV nE => ?_⟩
 clear nD; have := he980.size; replace bO := bO.tch he980 (fun k hk => .inl (.inl hk)); replace bP := bP.tch he980 (fun k hk => .inr (K.hT k (.inl hk))); replace bI := bI.tch he980 (fun k hk => .inr (K.hT k (.inl hk))); replace bQ := bQ.tch he980 (bD.neb (fun g hs => hs.2.2.2.2.2.2.2.2.2.1)); replace bE := bE.tch he980 (bD.neb (fun g hs => hs.2.2.2.2.2.2.2.2.2.2.1))
 replace bR := bR.tch he980 (bD.neb (fun g hs => hs.2.2.2.2.2.2.2.2.2.2.2.1)); replace bG := bG.tch he980 (bD.neb (fun g hs => hs.2.2.2.2.2.2.2.2.2.2.2.2.1)); replace bH := bH.tch he980 (bD.neb (fun g hs => hs.2.2.2.2.2.2.2.2.2.2.2.2.2.1)); replace bJ := bJ.tch he980 (bD.neb (fun g hs => hs.2.2.2.2.2.2.2.2.2.2.2.2.2.2.1)); have gS := OwnR.reS bD hmo979; clear bD hmo979
 replace bF := bF.tch he980 (fun k hk _ e2 => hk.2.2.2.2.2.2.2.2.1 e2); replace bK := bK.tch he980 (gS.neb (fun g hs => hs.2.2.2.2.2.2.2.1)); replace bS := bS.tch he980 (gS.neb (fun g hs => hs.2.2.2.2.2.2.1)); replace eA := eA.tch he980 (gS.neb (fun g hs => hs.2.2.1)); replace eN := eN.tch he980 (fun k hk _ e2 => hk.2.1 e2); replace hW := hW.tch he980 (gS.neb (fun g hs => hs.1)); clear he980
 refine At.done rfl ?_
 refine t_n ?_
 clear eN
 refine wp_seq ?_
 refine wp_seq ?_
 have hkf_ := hkeB
 refine At.start ?_
 refine At.rd nE 2 [[.ld (.int .i64 (((x.g.ow.length : Nat) : Int)))], []] [(114, .int .i64 (0)), (113, .int .i64 (((x.g.ow.length : Nat) : Int)))] [(qP.cell? ⟨x.bn, 0, none⟩ = some (.int .i64 (((x.g.ow.length : Nat) : Int))))] (by kernel_rfl) ⟨(bJ.cell (i := 0) rfl), trivial⟩ (fun vW nF => ?_)
 clear nE
 refine At.done rfl ?_
 refine t_n ?_
 refine wp_block ?_
 have nG := nF.sub (r := [(114, .int .i64 (0)), (113, .int .i64 (((x.g.ow.length : Nat) : Int))), (20, .pointer (some ⟨bC.heap.size, 0, none⟩)), (16, .pointer (some ⟨bN.heap.size, 0, none⟩)), (12, .int .i64 (1)), (10, .pointer (some ⟨w1.heap.size, 0, none⟩)), (8, .pointer (some ⟨w.heap.size, 0, none⟩)), (1, .int .i64 (depth)), (4, .pointer (some ⟨x.bp, 0, none⟩)), (6, .pointer (some ⟨x.bm, 0, none⟩))]) ⟨rfl, rfl, rfl, rfl, rfl, rfl, rfl, rfl, rfl, rfl, trivial⟩
 refine loop_g (fun (m_ : Nat) a_ w_ => ∃ (k2 : Int) (r2 : List Int), m_ = ((x.g.ow.length : Int) - k2).toNat ∧ (Frm 154 a_ [(114, .int .i64 (k2)), (113, .int .i64 (((x.g.ow.length : Nat) : Int))), (20, .pointer (some ⟨bC.heap.size, 0, none⟩)), (16, .pointer (some ⟨bN.heap.size, 0, none⟩)), (12, .int .i64 (1)), (10, .pointer (some ⟨w1.heap.size, 0, none⟩)), (8, .pointer (some ⟨w.heap.size, 0, none⟩)), (1, .int .i64 (depth)), (4, .pointer (some ⟨x.bp, 0, none⟩)), (6, .pointer (some ⟨x.bm, 0, none⟩))]) ∧ (Tch (x.T) w w_) ∧ (RdG w_ 0 x.hi x.A0 x.A1 x.A2 x.k0 x.k1 x.k2 x.g) ∧ (RdT w_ 0 x.hi) ∧ (Bx w_ (x.bd) [.int .i64 (da)] 3) ∧ (Bx w_ (x.bg) [.slice x.A0 x.g.ow.length x.k0, .slice x.A1 x.g.pr.length x.k1, .slice x.A2 x.g.mv.length x.k2] 25) ∧ (Bx w_ (x.bp) [.func (.func 38) #[] #[.pointer (some ⟨x.bd, 0, none⟩), .pointer (some ⟨x.bg, 0, none⟩), .pointer (some ⟨x.bp, 0, none⟩), .pointer (some ⟨x.bk, 0, none⟩), .pointer (some ⟨x.bm, 0, none⟩), .pointer (some ⟨x.bn, 0, none⟩)]] 65) ∧ (Bx w_ (x.bk) [.func (.func 37) #[] #[.pointer (some ⟨x.bm, 0, none⟩)]] 64) ∧ (Bx w_ (x.bm) [.slice x.M0 x.g.ow.length x.c0, .slice x.M1 r2.length x.c1] 29) ∧ (Bx w_ (x.bn) [.int .i64 (((x.g.ow.length : Nat) : Int))] 3) ∧ (OwnR w_ (SxP (orN x.T w.heap.size) [some (bC.heap.size), some (bN.heap.size), some (w1.heap.size), some (w.heap.size), obk (x.M1), some (x.bd), some (x.bg), some (x.bp), some (x.bk), some (x.bm), some (x.bn)]) x.M0 x.c0 3 (q2 : List Int)) ∧ (OwnR w_ (SxP (orN x.T w.heap.size) [some (bC.heap.size), some (bN.heap.size), some (w1.heap.size), some (w.heap.size), obk (x.M0), some (x.bd), some (x.bg), some (x.bp), some (x.bk), some (x.bm), some (x.bn)]) x.M1 x.c1 3 (r2 : List Int)) ∧ (Bx w_ (w.heap.size) ((s : List Int).map wV) 44) ∧ (Bx w_ (w1.heap.size) ((([0, 0, 0, 0]) ++ ([0, 0, 0, 0]) : List Int).map wV) 67) ∧ (Bx w_ (bN.heap.size) ((sa : List Int).map wV) 44) ∧ (Bx w_ (bC.heap.size) ((gs : List Int).map wV) 44) ∧ (0 ≤ k2) ∧ (k2 ≤ (x.g.ow.length : Int)) ∧ (ResK s gs sa nb r2 k2) ∧ (r2.length = nb.length)) _ ⟨0, (nb : List Int), rfl, nG, bO, bP, bI, bQ, bE, bR, bG, (bH.as (by first | rfl | (simp only [List.cons.injEq, Value.slice.injEq, true_and, and_true]; omega))), bJ, (gS.imp (fun g _ hs => ⟨hs.1, hs.2.2.1, hs.2.2.2.2.2.2.1, hs.2.2.2.2.2.2.2.1, hs.2.2.2.2.2.2.2.2.1, hs.2.2.2.2.2.2.2.2.2.1, hs.2.2.2.2.2.2.2.2.2.2.1, hs.2.2.2.2.2.2.2.2.2.2.2.1, hs.2.2.2.2.2.2.2.2.2.2.2.2.1, hs.2.2.2.2.2.2.2.2.2.2.2.2.2.1, hs.2.2.2.2.2.2.2.2.2.2.2.2.2.2.1, hs.2.2.2.2.2.2.2.2.2.2.2.2.2.2.2.2⟩)), (bF.imp (fun g _ hs => ⟨hs.1, hs.2.2.1, hs.2.2.2.2.2.2.1, hs.2.2.2.2.2.2.2.1, hs.2.2.2.2.2.2.2.2.1, hs.2.2.2.2.2.2.2.2.2.1, hs.2.2.2.2.2.2.2.2.2.2.1, hs.2.2.2.2.2.2.2.2.2.2.2.1, hs.2.2.2.2.2.2.2.2.2.2.2.2.1, hs.2.2.2.2.2.2.2.2.2.2.2.2.2.1, hs.2.2.2.2.2.2.2.2.2.2.2.2.2.2.1, hs.2.2.2.2.2.2.2.2.2.2.2.2.2.2.2.2⟩)), bK, bS, eA, hW, (by omega), (by omega), resK_0, rfl⟩ ?_
 clear nG nF; clear bP; clear bI; clear bQ; clear bE; clear bR; clear bG; clear bH; clear bJ; clear gS; clear bF; clear bK; clear bS; clear eA; clear hW; clear bO
 intro m_ vX hE ⟨k2, r2, hm1007, nH, aU, aQ, aR, bA, aN, aM, aO, aK, aP, aE, aA, aS, aV, dD, aT, i1023, i1024, hrk, i1025⟩
 have := aU.size; have := bA.lt; have := aN.lt; have := aM.lt; have := aO.lt; have := aK.lt; have := aP.lt; have := aS.lt; have := aV.lt; have := dD.lt; have := aT.lt
 refine wp_seq ?_
 refine At.start ?_
 refine At.rd nH 1 [[]] [(115, .bool (decide ((k2 : Int) < ((x.g.ow.length : Nat) : Int))))] [] (by kernel_rfl) trivial (fun vY gT => ?_)
 clear nH
 refine At.done rfl ?_
 refine t_n ?_
 refine wp_seq ?_
 refine cond_S gT (t := decide ((k2 : Int) < ((x.g.ow.length : Nat) : Int))) rfl (fun jE => ?_) (fun jE => ?_)
 ·have vZ := of_decide_eq_true jE
  refine wp_skip ?_
  refine t_n ?_
  refine wp_seq ?_
  refine wp_block ?_
  refine wp_seq ?_
  refine At.start ?_
  refine At.rd gT 2 [[], []] [(21, .int .i64 (k2)), (116, .int .i64 (k2))] [] (by kernel_rfl) trivial (fun wA nI => ?_)
  clear gT
  refine At.done rfl ?_
  refine t_n ?_
  refine wp_seq ?_
  refine At.start ?_
  refine At.rd nI 2 [[.cs ((gs : List Int).map wV)], []] [(118, .int .i64 (k2)), (117, .agg ((gs : List Int).map wV).toArray)] [(((gs : List Int).map wV).length = 4), (∀ (j : Nat) (v : Value), ((gs : List Int).map wV)[j]? = some v → hE.cell? ((⟨bC.heap.size, 0, none⟩ : Addr).add j) = some v)] (by kernel_rfl) ⟨((List.length_map _).trans (by assumption)), aT.whole, trivial⟩ (fun wB nJ => ?_)
  clear nI
  refine At.call nJ 23 #[.agg ((gs : List Int).map wV).toArray, .int .i64 (k2)] (some 119) (by kernel_rfl) (has_any (s := gs) (n := k2) (by assumption)) ?_
  rintro e_ nK ⟨rfl, he⟩
  refine ⟨_, rfl, _, rfl, fun wC hX => ?_⟩
  clear nJ; have dE := gr_ext he; have := dE.size; replace aU := aU.gn dE; replace aQ := aQ.gn dE; replace aR := aR.gn dE; replace bA := bA.gn dE; replace aN := aN.gn dE; replace aM := aM.gn dE; replace aO := aO.gn dE; replace aK := aK.gn dE; replace aP := aP.gn dE; replace aE := aE.gn dE; replace aA := aA.gn dE; replace aS := aS.gn dE; replace aV := aV.gn dE; replace dD := dD.gn dE
  replace aT := aT.gn dE; clear dE he
  rcases Bool.eq_false_or_eq_true (hasW gs k2) with jF | jF
  ·refine At.rd hX 11 [[.as_ (.bool true)], [], [], [], [], [], [], [], [], [], []] [(130, .bool true), (129, undef), (128, undef), (127, undef), (126, undef), (125, undef), (124, undef), (123, undef), (122, undef), (121, undef), (120, .bool true)] [((.bool (hasW gs k2) : Value) = .bool true)] (by kernel_rfl) ⟨(congrArg Value.bool jF), trivial⟩ (fun wD jG => ?_)
   clear hX
   refine At.done rfl ?_
   refine t_n ?_
   refine cond_T jG rfl ?_
   refine At.start ?_
   obtain ⟨hY, nL, wE, wF, wG⟩ := aA.get (k2) (by omega) (by omega) (sz := 1) rfl
   refine At.rd jG 5 [[], [], [.ld (.slice x.M1 r2.length x.c1)], [], [.ad hY]] [(135, .pointer (some (hY.add ((k2 : Int).toNat * 1)))), (134, .int .i64 (k2)), (133, .slice x.M1 r2.length x.c1), (132, .pointer (some ⟨x.bm, 1, none⟩)), (131, .int .i64 (1))] [(0 ≤ (1 : Int)), ((1 : Int) < (2 : Nat)), (nK.cell? ⟨x.bm, 1, none⟩ = some (.slice x.M1 r2.length x.c1)), (x.M1 = some hY), (0 ≤ (k2 : Int)), ((k2 : Int) < (r2.length : Nat))] (by kernel_rfl) ⟨(by decide), (by decide), (aK.cell (i := 1) rfl), nL, (by omega), (by omega), trivial⟩ (fun wH nM => ?_)
   clear jG
   refine At.act nM (storeR (α := Int) (t := 3) (i := k2) (ad := hY) (v := .int .i64 (-1)) (-1) (by kernel_rfl) rfl rfl (by kernel_rfl) nL aA (by omega) (by omega)) ?_
   rintro d_ v_ qQ ⟨rfl, dU, qR⟩
   refine ⟨_, rfl, fun wI nN => ?_⟩
   clear nM; have wJ : ((r2).set (k2 : Int).toNat (-1)).length = (r2).length := List.length_set; have := dU.size; replace aU := aU.gr dU (fun k hk => (aA.inS k hk).2.2.2.2.2.2.2.2.2.2.2); replace aQ := aQ.gr dU (fun k hk => .inr (orN_hi K.hT (by omega) ((aA.inS k hk).2.2.2.2.2.2.2.2.2.2.2))); replace aR := aR.gr dU (fun k hk => .inr (orN_hi K.hT (by omega) ((aA.inS k hk).2.2.2.2.2.2.2.2.2.2.2)))
   replace bA := bA.gr dU (aA.neb (fun g hs => hs.2.2.2.2.2.1)); replace aN := aN.gr dU (aA.neb (fun g hs => hs.2.2.2.2.2.2.1)); replace aM := aM.gr dU (aA.neb (fun g hs => hs.2.2.2.2.2.2.2.1)); replace aO := aO.gr dU (aA.neb (fun g hs => hs.2.2.2.2.2.2.2.2.1)); replace aK := aK.gr dU (aA.neb (fun g hs => hs.2.2.2.2.2.2.2.2.2.1)); replace aP := aP.gr dU (aA.neb (fun g hs => hs.2.2.2.2.2.2.2.2.2.2.1))
   replace aE := aE.gr dU (fun k hk => hk.2.2.2.2.1); replace aS := aS.gr dU (aA.neb (fun g hs => hs.2.2.2.1)); replace aV := aV.gr dU (aA.neb (fun g hs => hs.2.2.1)); replace dD := dD.gr dU (aA.neb (fun g hs => hs.2.1)); replace aT := aT.gr dU (aA.neb (fun g hs => hs.1)); clear aA dU
   have nO := nN.as 133 (.slice x.M1 r2.length x.c1) (.slice x.M1 (((r2).set (k2 : Int).toNat (-1) : List Int).length) x.c1) rfl (slice_len (by first | rfl | omega | (simp; done) | (simp; omega)))
   clear nN
   replace aK : Bx qQ (x.bm) [.slice x.M0 x.g.ow.length x.c0, .slice x.M1 (((r2).set (k2 : Int).toNat (-1)).length) x.c1] 29 := aK.as (by first | rfl | (simp only [List.length_set]; done))
   refine At.done rfl ?_
   refine b_n ?_
   refine t_n ?_
   refine At.start ?_
   refine At.rd nO 2 [[.as_ (.int .i64 (k2 + 1))], []] [(114, .int .i64 (k2 + 1)), (136, .int .i64 (k2 + 1))] [((.int .i64 (IntKind.i64.wrap (k2 + 1)) : Value) = .int .i64 (k2 + 1))] (by kernel_rfl) ⟨(w64 (by omega) (by omega)), trivial⟩ (fun wK qS => ?_)
   clear nO
   refine At.done rfl ?_
   refine t_n ?_
   have qT := qS.sub (r := [(114, .int .i64 (k2 + 1)), (113, .int .i64 (((x.g.ow.length : Nat) : Int))), (20, .pointer (some ⟨bC.heap.size, 0, none⟩)), (16, .pointer (some ⟨bN.heap.size, 0, none⟩)), (12, .int .i64 (1)), (10, .pointer (some ⟨w1.heap.size, 0, none⟩)), (8, .pointer (some ⟨w.heap.size, 0, none⟩)), (1, .int .i64 (depth)), (4, .pointer (some ⟨x.bp, 0, none⟩)), (6, .pointer (some ⟨x.bm, 0, none⟩))]) ⟨rfl, rfl, rfl, rfl, rfl, rfl, rfl, rfl, rfl, rfl, trivial⟩
   exact ⟨_, (by omega), (k2 + 1), ((r2).set (k2 : Int).toNat (-1) : List Int), rfl, qT, aU, aQ, aR, bA, aN, aM, aO, aK, aP, aE, qR, aS, aV, dD, aT, (by omega), (by omega), (resK_yes hrk (by omega) (by omega) (by first | exact .inl (inP_has.1 (by assumption)) | exact .inr ⟨inP_has.1 (by assumption), has_nP (by assumption)⟩)), (by rw [List.length_set]; exact hrk.1)⟩
  refine At.rd hX 3 [[.as_ (.bool false)], [.cs ((s : List Int).map wV)], []] [(122, .int .i64 (k2)), (121, .agg ((s : List Int).map wV).toArray), (120, .bool false)] [((.bool (hasW gs k2) : Value) = .bool false), (((s : List Int).map wV).length = 4), (∀ (j : Nat) (v : Value), ((s : List Int).map wV)[j]? = some v → nK.cell? ((⟨w.heap.size, 0, none⟩ : Addr).add j) = some v)] (by kernel_rfl) ⟨(congrArg Value.bool jF), ((List.length_map _).trans (by assumption)), aS.whole, trivial⟩ (fun wL nP => ?_)
  clear hX
  refine At.call nP 23 #[.agg ((s : List Int).map wV).toArray, .int .i64 (k2)] (some 123) (by kernel_rfl) (has_any (s := s) (n := k2) (by assumption)) ?_
  rintro e_ qU ⟨rfl, he⟩
  refine ⟨_, rfl, _, rfl, fun wM hZ => ?_⟩
  clear nP; have dF := gr_ext he; have := dF.size; replace aU := aU.gn dF; replace aQ := aQ.gn dF; replace aR := aR.gn dF; replace bA := bA.gn dF; replace aN := aN.gn dF; replace aM := aM.gn dF; replace aO := aO.gn dF; replace aK := aK.gn dF; replace aP := aP.gn dF; replace aE := aE.gn dF; replace aA := aA.gn dF; replace aS := aS.gn dF; replace aV := aV.gn dF; replace dD := dD.gn dF
  replace aT := aT.gn dF; clear dF he
  rcases Bool.eq_false_or_eq_true (hasW s k2) with jH | jH
  ·refine At.rd hZ 3 [[.as_ (.bool true)], [.cs ((sa : List Int).map wV)], []] [(126, .int .i64 (k2)), (125, .agg ((sa : List Int).map wV).toArray), (124, .bool true)] [((.bool (hasW s k2) : Value) = .bool true), (((sa : List Int).map wV).length = 4), (∀ (j : Nat) (v : Value), ((sa : List Int).map wV)[j]? = some v → qU.cell? ((⟨bN.heap.size, 0, none⟩ : Addr).add j) = some v)] (by kernel_rfl) ⟨(congrArg Value.bool jH), ((List.length_map _).trans (by assumption)), dD.whole, trivial⟩ (fun wN nQ => ?_)
   clear hZ
   refine At.call nQ 23 #[.agg ((sa : List Int).map wV).toArray, .int .i64 (k2)] (some 127) (by kernel_rfl) (has_any (s := sa) (n := k2) (by assumption)) ?_
   rintro e_ qV ⟨rfl, he⟩
   refine ⟨_, rfl, _, rfl, fun wO nR => ?_⟩
   clear nQ; have dG := gr_ext he; have := dG.size; replace aU := aU.gn dG; replace aQ := aQ.gn dG; replace aR := aR.gn dG; replace bA := bA.gn dG; replace aN := aN.gn dG; replace aM := aM.gn dG; replace aO := aO.gn dG; replace aK := aK.gn dG; replace aP := aP.gn dG; replace aE := aE.gn dG; replace aA := aA.gn dG; replace aS := aS.gn dG; replace aV := aV.gn dG; replace dD := dD.gn dG
   replace aT := aT.gn dG; clear dG he
   refine At.rd nR 3 [[], [], []] [(130, .bool (!(hasW sa k2))), (129, .bool (!(hasW sa k2))), (128, .bool (!(hasW sa k2)))] [] (by kernel_rfl) trivial (fun wP hF => ?_)
   clear nR
   refine At.done rfl ?_
   refine t_n ?_
   refine cond_S hF (t := !(hasW sa k2)) rfl (fun fW => ?_) (fun fW => ?_)
   ·have wQ : (hasW sa k2) = false := by first | exact Eq.mp (Bool.not_eq_true' _) fW | exact Eq.mp (Bool.not_eq_false' _) fW | simpa using fW
    refine At.start ?_
    obtain ⟨iA, nS, wR, wS, wT⟩ := aA.get (k2) (by omega) (by omega) (sz := 1) rfl
    refine At.rd hF 5 [[], [], [.ld (.slice x.M1 r2.length x.c1)], [], [.ad iA]] [(135, .pointer (some (iA.add ((k2 : Int).toNat * 1)))), (134, .int .i64 (k2)), (133, .slice x.M1 r2.length x.c1), (132, .pointer (some ⟨x.bm, 1, none⟩)), (131, .int .i64 (1))] [(0 ≤ (1 : Int)), ((1 : Int) < (2 : Nat)), (qV.cell? ⟨x.bm, 1, none⟩ = some (.slice x.M1 r2.length x.c1)), (x.M1 = some iA), (0 ≤ (k2 : Int)), ((k2 : Int) < (r2.length : Nat))] (by kernel_rfl) ⟨(by decide), (by decide), (aK.cell (i := 1) rfl), nS, (by omega), (by omega), trivial⟩ (fun wU nT => ?_)
    clear hF
    refine At.act nT (storeR (α := Int) (t := 3) (i := k2) (ad := iA) (v := .int .i64 (-1)) (-1) (by kernel_rfl) rfl rfl (by kernel_rfl) nS aA (by omega) (by omega)) ?_
    rintro d_ v_ qW ⟨rfl, dV, qX⟩
    refine ⟨_, rfl, fun wW nU => ?_⟩
    clear nT; have wX : ((r2).set (k2 : Int).toNat (-1)).length = (r2).length := List.length_set; have := dV.size; replace aU := aU.gr dV (fun k hk => (aA.inS k hk).2.2.2.2.2.2.2.2.2.2.2); replace aQ := aQ.gr dV (fun k hk => .inr (orN_hi K.hT (by omega) ((aA.inS k hk).2.2.2.2.2.2.2.2.2.2.2))); replace aR := aR.gr dV (fun k hk => .inr (orN_hi K.hT (by omega) ((aA.inS k hk).2.2.2.2.2.2.2.2.2.2.2)))
    replace bA := bA.gr dV (aA.neb (fun g hs => hs.2.2.2.2.2.1)); replace aN := aN.gr dV (aA.neb (fun g hs => hs.2.2.2.2.2.2.1)); replace aM := aM.gr dV (aA.neb (fun g hs => hs.2.2.2.2.2.2.2.1)); replace aO := aO.gr dV (aA.neb (fun g hs => hs.2.2.2.2.2.2.2.2.1)); replace aK := aK.gr dV (aA.neb (fun g hs => hs.2.2.2.2.2.2.2.2.2.1)); replace aP := aP.gr dV (aA.neb (fun g hs => hs.2.2.2.2.2.2.2.2.2.2.1))
    replace aE := aE.gr dV (fun k hk => hk.2.2.2.2.1); replace aS := aS.gr dV (aA.neb (fun g hs => hs.2.2.2.1)); replace aV := aV.gr dV (aA.neb (fun g hs => hs.2.2.1)); replace dD := dD.gr dV (aA.neb (fun g hs => hs.2.1)); replace aT := aT.gr dV (aA.neb (fun g hs => hs.1)); clear aA dV
    have nV := nU.as 133 (.slice x.M1 r2.length x.c1) (.slice x.M1 (((r2).set (k2 : Int).toNat (-1) : List Int).length) x.c1) rfl (slice_len (by first | rfl | omega | (simp; done) | (simp; omega)))
    clear nU
    replace aK : Bx qW (x.bm) [.slice x.M0 x.g.ow.length x.c0, .slice x.M1 (((r2).set (k2 : Int).toNat (-1)).length) x.c1] 29 := aK.as (by first | rfl | (simp only [List.length_set]; done))
    refine At.done rfl ?_
    refine b_n ?_
    refine t_n ?_
    refine At.start ?_
    refine At.rd nV 2 [[.as_ (.int .i64 (k2 + 1))], []] [(114, .int .i64 (k2 + 1)), (136, .int .i64 (k2 + 1))] [((.int .i64 (IntKind.i64.wrap (k2 + 1)) : Value) = .int .i64 (k2 + 1))] (by kernel_rfl) ⟨(w64 (by omega) (by omega)), trivial⟩ (fun wY qY => ?_)
    clear nV
    refine At.done rfl ?_
    refine t_n ?_
    have qZ := qY.sub (r := [(114, .int .i64 (k2 + 1)), (113, .int .i64 (((x.g.ow.length : Nat) : Int))), (20, .pointer (some ⟨bC.heap.size, 0, none⟩)), (16, .pointer (some ⟨bN.heap.size, 0, none⟩)), (12, .int .i64 (1)), (10, .pointer (some ⟨w1.heap.size, 0, none⟩)), (8, .pointer (some ⟨w.heap.size, 0, none⟩)), (1, .int .i64 (depth)), (4, .pointer (some ⟨x.bp, 0, none⟩)), (6, .pointer (some ⟨x.bm, 0, none⟩))]) ⟨rfl, rfl, rfl, rfl, rfl, rfl, rfl, rfl, rfl, rfl, trivial⟩
    exact ⟨_, (by omega), (k2 + 1), ((r2).set (k2 : Int).toNat (-1) : List Int), rfl, qZ, aU, aQ, aR, bA, aN, aM, aO, aK, aP, aE, qX, aS, aV, dD, aT, (by omega), (by omega), (resK_yes hrk (by omega) (by omega) (by first | exact .inl (inP_has.1 (by assumption)) | exact .inr ⟨inP_has.1 (by assumption), has_nP (by assumption)⟩)), (by rw [List.length_set]; exact hrk.1)⟩
   have wZ : (hasW sa k2) = true := by first | exact Eq.mp (Bool.not_eq_true' _) fW | exact Eq.mp (Bool.not_eq_false' _) fW | simpa using fW
   refine wp_skip ?_
   refine b_n ?_
   refine t_n ?_
   refine At.start ?_
   refine At.rd hF 2 [[.as_ (.int .i64 (k2 + 1))], []] [(114, .int .i64 (k2 + 1)), (136, .int .i64 (k2 + 1))] [((.int .i64 (IntKind.i64.wrap (k2 + 1)) : Value) = .int .i64 (k2 + 1))] (by kernel_rfl) ⟨(w64 (by omega) (by omega)), trivial⟩ (fun xA rA => ?_)
   clear hF
   refine At.done rfl ?_
   refine t_n ?_
   have rB := rA.sub (r := [(114, .int .i64 (k2 + 1)), (113, .int .i64 (((x.g.ow.length : Nat) : Int))), (20, .pointer (some ⟨bC.heap.size, 0, none⟩)), (16, .pointer (some ⟨bN.heap.size, 0, none⟩)), (12, .int .i64 (1)), (10, .pointer (some ⟨w1.heap.size, 0, none⟩)), (8, .pointer (some ⟨w.heap.size, 0, none⟩)), (1, .int .i64 (depth)), (4, .pointer (some ⟨x.bp, 0, none⟩)), (6, .pointer (some ⟨x.bm, 0, none⟩))]) ⟨rfl, rfl, rfl, rfl, rfl, rfl, rfl, rfl, rfl, rfl, trivial⟩
   exact ⟨_, (by omega), (k2 + 1), (r2 : List Int), rfl, rB, aU, aQ, aR, bA, aN, aM, aO, aK, aP, aE, aA, aS, aV, dD, aT, (by omega), (by omega), (resK_no hrk (by rintro (h_ | ⟨h_, h2_⟩); (first | exact has_nP (by assumption) h_); (first | exact has_nP (by assumption) h_ | exact h2_ (inP_has.1 (by assumption))))), hrk.1⟩
  refine At.rd hZ 7 [[.as_ (.bool false)], [], [], [], [], [], []] [(130, .bool false), (129, .bool false), (128, undef), (127, undef), (126, undef), (125, undef), (124, .bool false)] [((.bool (hasW s k2) : Value) = .bool false)] (by kernel_rfl) ⟨(congrArg Value.bool jH), trivial⟩ (fun xB jI => ?_)
  clear hZ
  refine At.done rfl ?_
  refine t_n ?_
  refine cond_F jI rfl ?_
  refine wp_skip ?_
  refine b_n ?_
  refine t_n ?_
  refine At.start ?_
  refine At.rd jI 2 [[.as_ (.int .i64 (k2 + 1))], []] [(114, .int .i64 (k2 + 1)), (136, .int .i64 (k2 + 1))] [((.int .i64 (IntKind.i64.wrap (k2 + 1)) : Value) = .int .i64 (k2 + 1))] (by kernel_rfl) ⟨(w64 (by omega) (by omega)), trivial⟩ (fun xC rC => ?_)
  clear jI
  refine At.done rfl ?_
  refine t_n ?_
  have rD := rC.sub (r := [(114, .int .i64 (k2 + 1)), (113, .int .i64 (((x.g.ow.length : Nat) : Int))), (20, .pointer (some ⟨bC.heap.size, 0, none⟩)), (16, .pointer (some ⟨bN.heap.size, 0, none⟩)), (12, .int .i64 (1)), (10, .pointer (some ⟨w1.heap.size, 0, none⟩)), (8, .pointer (some ⟨w.heap.size, 0, none⟩)), (1, .int .i64 (depth)), (4, .pointer (some ⟨x.bp, 0, none⟩)), (6, .pointer (some ⟨x.bm, 0, none⟩))]) ⟨rfl, rfl, rfl, rfl, rfl, rfl, rfl, rfl, rfl, rfl, trivial⟩
  exact ⟨_, (by omega), (k2 + 1), (r2 : List Int), rfl, rD, aU, aQ, aR, bA, aN, aM, aO, aK, aP, aE, aA, aS, aV, dD, aT, (by omega), (by omega), (resK_no hrk (by rintro (h_ | ⟨h_, h2_⟩); (first | exact has_nP (by assumption) h_); (first | exact has_nP (by assumption) h_ | exact h2_ (inP_has.1 (by assumption))))), hrk.1⟩
 have xD := of_decide_eq_false jE
 refine wp_exit ?_
 refine t_e ?_
 refine t_e ?_
 refine b_e ?_
 refine t_n ?_
 clear dD; have hrs_ := resK_end hrk (by omega); have hlive1 := att_live hR (.inl rfl) hL hbt
 have hlen1 : lenW (minusS s gs) < lenW s := len_sub hbt.1 (by obtain ⟨i_, hi_⟩ := hne2_; have h1_ := ((inP_minus hat.1 i_).1 ((hpS.all i_).2 (.inr hi_))).1; exact ⟨i_, h1_, att_base hR (.inl rfl) hL.lt hbt i_ hi_ h1_⟩)
 have hlw1 := lenW_le (minusS s gs)
 refine wp_seq (cut (fun a_ w_ => ∃ (sc : List Int) (sd : List Int) (nc : List Int) (nd : List Int) (dc : Int) (eR : Nat), (Frm 154 a_ [(22, .pointer (some ⟨eR, 0, none⟩)), (20, .pointer (some ⟨bC.heap.size, 0, none⟩)), (12, .int .i64 (1)), (10, .pointer (some ⟨w1.heap.size, 0, none⟩))]) ∧ (Tch (x.T) w w_) ∧ (RdG w_ 0 x.hi x.A0 x.A1 x.A2 x.k0 x.k1 x.k2 x.g) ∧ (RdT w_ 0 x.hi) ∧ (Bx w_ (x.bd) [.int .i64 (dc)] 3) ∧ (Bx w_ (x.bg) [.slice x.A0 x.g.ow.length x.k0, .slice x.A1 x.g.pr.length x.k1, .slice x.A2 x.g.mv.length x.k2] 25) ∧ (Bx w_ (x.bp) [.func (.func 38) #[] #[.pointer (some ⟨x.bd, 0, none⟩), .pointer (some ⟨x.bg, 0, none⟩), .pointer (some ⟨x.bp, 0, none⟩), .pointer (some ⟨x.bk, 0, none⟩), .pointer (some ⟨x.bm, 0, none⟩), .pointer (some ⟨x.bn, 0, none⟩)]] 65) ∧ (Bx w_ (x.bk) [.func (.func 37) #[] #[.pointer (some ⟨x.bm, 0, none⟩)]] 64) ∧ (Bx w_ (x.bm) [.slice x.M0 x.g.ow.length x.c0, .slice x.M1 r2.length x.c1] 29) ∧ (Bx w_ (x.bn) [.int .i64 (((x.g.ow.length : Nat) : Int))] 3) ∧ (OwnR w_ (SxP (orN x.T w.heap.size) [some (bC.heap.size), some (w1.heap.size), some (w.heap.size), obk (x.M1), some (x.bd), some (x.bg), some (x.bp), some (x.bk), some (x.bm), some (x.bn), some (eR)]) x.M0 x.c0 3 (nc : List Int)) ∧ (OwnR w_ (SxP (orN x.T w.heap.size) [some (bC.heap.size), some (w1.heap.size), some (w.heap.size), obk (x.M0), some (x.bd), some (x.bg), some (x.bp), some (x.bk), some (x.bm), some (x.bn), some (eR)]) x.M1 x.c1 3 (nd : List Int)) ∧ (Bx w_ (w.heap.size) ((s : List Int).map wV) 44) ∧ (Bx w_ (w1.heap.size) ((([0, 0, 0, 0]) ++ ([0, 0, 0, 0]) : List Int).map wV) 67) ∧ (Bx w_ (bC.heap.size) ((gs : List Int).map wV) 44) ∧ (Bx w_ (eR) ((sc ++ sd : List Int).map wV) 67) ∧ (hE.heap.size ≤ eR) ∧ (hE.heap.size ≤ w_.heap.size) ∧ (PartS x.g (minusS s gs) 0 sc sd q2 r2 nc nd) ∧ (da ≤ dc) ∧ (depth + 1 ≤ dc) ∧ (dc ≤ max (da) (depth + 1 + lenW (minusS s gs)))) ?_ ?_)
 ·obtain ⟨hH, eT⟩ : ∃ c : List (Addr × Value), c = ([(⟨x.bp, 0, none⟩, (.func (.func 38) #[] #[.pointer (some ⟨x.bd, 0, none⟩), .pointer (some ⟨x.bg, 0, none⟩), .pointer (some ⟨x.bp, 0, none⟩), .pointer (some ⟨x.bk, 0, none⟩), .pointer (some ⟨x.bm, 0, none⟩), .pointer (some ⟨x.bn, 0, none⟩)]))] : List (Addr × Value)) ++ (blkC (w.heap.size) ((s : List Int).map wV) ++ blkC (bC.heap.size) ((gs : List Int).map wV)) := ⟨_, rfl⟩
  have nW : HoldsC hH hE := by rw [eT]; exact (holdsA (show HoldsC [(⟨x.bp, 0, none⟩, (.func (.func 38) #[] #[.pointer (some ⟨x.bd, 0, none⟩), .pointer (some ⟨x.bg, 0, none⟩), .pointer (some ⟨x.bp, 0, none⟩), .pointer (some ⟨x.bk, 0, none⟩), .pointer (some ⟨x.bm, 0, none⟩), .pointer (some ⟨x.bn, 0, none⟩)]))] hE from ⟨(aM.cell (i := 0) rfl), trivial⟩) (holdsA (holds_blk aS) (holds_blk aT)))
  refine AtH.start hH 9 #[false, false, false, false, false, false, false, false, false] (by kernel_rfl) rfl rfl (fun gU nX => ?_)
  have dH := gr_drew nX; have jJ := nW.gr dH; have := dH.size; replace aU := aU.gn dH; replace aQ := aQ.gn dH; replace aR := aR.gn dH; replace bA := bA.gn dH; replace aN := aN.gn dH; replace aM := aM.gn dH; replace aO := aO.gn dH; replace aK := aK.gn dH; replace aP := aP.gn dH; replace aE := aE.gn dH; replace aA := aA.gn dH; replace aS := aS.gn dH; replace aV := aV.gn dH; replace aT := aT.gn dH
  clear dH nX nW
  refine AtH.rd (by kernel_rfl) (fun d v c a w h => by cases d <;> exact h) jJ [0, 1, 2, 4, 5] [[.ld (.func (.func 38) #[] #[.pointer (some ⟨x.bd, 0, none⟩), .pointer (some ⟨x.bg, 0, none⟩), .pointer (some ⟨x.bp, 0, none⟩), .pointer (some ⟨x.bk, 0, none⟩), .pointer (some ⟨x.bm, 0, none⟩), .pointer (some ⟨x.bn, 0, none⟩)])], [.cs ((s : List Int).map wV)], [.cs ((gs : List Int).map wV)], [], [.as_ (.int .i64 (depth + 1))]] [(142, .int .i64 (depth + 1)), (141, .int .i64 (depth)), (139, .agg ((gs : List Int).map wV).toArray), (138, .agg ((s : List Int).map wV).toArray), (137, .func (.func 38) #[] #[.pointer (some ⟨x.bd, 0, none⟩), .pointer (some ⟨x.bg, 0, none⟩), .pointer (some ⟨x.bp, 0, none⟩), .pointer (some ⟨x.bk, 0, none⟩), .pointer (some ⟨x.bm, 0, none⟩), .pointer (some ⟨x.bn, 0, none⟩)])] #[true, true, true, false, true, true, false, false, false] [(∃ j_ : Nat, hH[j_]? = some (⟨x.bp, 0, none⟩, (.func (.func 38) #[] #[.pointer (some ⟨x.bd, 0, none⟩), .pointer (some ⟨x.bg, 0, none⟩), .pointer (some ⟨x.bp, 0, none⟩), .pointer (some ⟨x.bk, 0, none⟩), .pointer (some ⟨x.bm, 0, none⟩), .pointer (some ⟨x.bn, 0, none⟩)]))), (((s : List Int).map wV).length = 4), (∀ (j : Nat) (v : Value), ((s : List Int).map wV)[j]? = some v → ∃ j_ : Nat, hH[j_]? = some (((⟨w.heap.size, 0, none⟩ : Addr).add j), v)), (((gs : List Int).map wV).length = 4), (∀ (j : Nat) (v : Value), ((gs : List Int).map wV)[j]? = some v → ∃ j_ : Nat, hH[j_]? = some (((⟨bC.heap.size, 0, none⟩ : Addr).add j), v)), ((.int .i64 (IntKind.i64.wrap (depth + 1)) : Value) = .int .i64 (depth + 1))] 4 gT (by kernel_rfl) ⟨⟨0, by rw [eT]; rfl⟩, ((List.length_map _).trans (by assumption)), (fun j v hv => List.getElem?_of_mem (by rw [eT]; exact List.mem_append.2 (.inr (List.mem_append.2 (.inl (blkC_in hv)))))), ((List.length_map _).trans (by assumption)), (fun j v hv => List.getElem?_of_mem (by rw [eT]; exact List.mem_append.2 (.inr (List.mem_append.2 (.inr (blkC_in hv)))))), (w64 (by omega) (by omega)), trivial⟩ (fun xE iB => ?_)
  clear gT
  refine AtH.all [3, 7] 3 (by kernel_rfl) (by simp) ⟨?_, ?_, trivial⟩
  ·refine OneH.call iB 42 #[.agg ((s : List Int).map wV).toArray, .agg ((gs : List Int).map wV).toArray] (some 140) #[true, true, true, true, true, true, false, false, false] (by kernel_rfl) (by kernel_rfl) (minusS_any (s := s) (t := gs) (by assumption) (by assumption)) ?_
   rintro e_ gV ⟨rfl, he⟩
   refine ⟨_, rfl, _, rfl, fun xF iC => ?_⟩
   clear iB; have dI := gr_ext he; have jK := jJ.gr dI; have := dI.size; replace aU := aU.gn dI; replace aQ := aQ.gn dI; replace aR := aR.gn dI; replace bA := bA.gn dI; replace aN := aN.gn dI; replace aM := aM.gn dI; replace aO := aO.gn dI; replace aK := aK.gn dI; replace aP := aP.gn dI; replace aE := aE.gn dI; replace aA := aA.gn dI; replace aS := aS.gn dI; replace aV := aV.gn dI
   replace aT := aT.gn dI; clear dI he
   refine ⟨jK, ?_⟩
   refine AtH.all [6, 7] 2 (by kernel_rfl) (by simp) ⟨?_, ?_, trivial⟩
   ·refine OneH.call iC 38 #[.agg ((minusS s gs : List Int).map wV).toArray, .int .i64 (depth + 1), .pointer (some ⟨x.bd, 0, none⟩), .pointer (some ⟨x.bg, 0, none⟩), .pointer (some ⟨x.bp, 0, none⟩), .pointer (some ⟨x.bk, 0, none⟩), .pointer (some ⟨x.bm, 0, none⟩), .pointer (some ⟨x.bn, 0, none⟩)] (some 143) #[true, true, true, true, true, true, true, false, false] (by kernel_rfl) (by kernel_rfl) (IH (minusS s gs) hlen1 (q2) (r2) (da) (depth + 1) _ ⟨bA, aN, aM, aO, (aK.as (by first | rfl | (simp only [List.cons.injEq, Value.slice.injEq, true_and, and_true]; omega))), aP, (aE.self.imp (fun g _ hs => ⟨hs.1.2.2.2.2.1, hs.1.2.2.2.2.2.1, hs.1.2.2.2.2.2.2.1, hs.1.2.2.2.2.2.2.2.1, hs.1.2.2.2.2.2.2.2.2.1, hs.1.2.2.2.2.2.2.2.2.2.1, hs.1.2.2.2.2.2.2.2.2.2.2.1, .inl hs.2⟩)), (aA.self.imp (fun g _ hs => ⟨hs.1.2.2.2.2.1, hs.1.2.2.2.2.2.1, hs.1.2.2.2.2.2.2.1, hs.1.2.2.2.2.2.2.2.1, hs.1.2.2.2.2.2.2.2.2.1, hs.1.2.2.2.2.2.2.2.2.2.1, hs.1.2.2.2.2.2.2.2.2.2.2.1, .inr (.inl hs.2)⟩)), aQ, aR⟩ ⟨(okW_minusS (by assumption) (by assumption)), hlive1, by omega, by omega, by omega, by omega, by omega, by omega⟩) ?_
    rintro e_ gW ⟨sc, sd, nc, nd, dc, rfl, he_hpc, hbd_hpc, hr0_hpc, hr1_hpc, hpc, hd1_hpc, hd2_hpc, hd3_hpc⟩
    have hla1 := hpc.lp; have hlb1 := hpc.lq; have hok_sc := hpc.okp; have hok_sd := hpc.okq; have hl4_sc := okLen hok_sc; have hl4_sd := okLen hok_sd
    refine ⟨_, rfl, _, rfl, fun xG nY => ?_⟩
    clear iC
    have nZ := jK.tch he_hpc (by rw [eT]; exact (allP_app ⟨(show ¬ _ from by simp only [add_block]; exact (DecS.not (aE.neb (fun g hs => hs.2.2.2.2.2.2.2.1)) (aA.neb (fun g hs => hs.2.2.2.2.2.2.2.1)) (by omega))), trivial⟩ (allP_app (nT_blk (DecS.not (aE.neb (fun g hs => hs.2.2.2.1)) (aA.neb (fun g hs => hs.2.2.2.1)) (by omega))) (nT_blk (DecS.not (aE.neb (fun g hs => hs.1)) (aA.neb (fun g hs => hs.1)) (by omega))))))
    have := he_hpc.size; replace aU := aU.tch he_hpc (fun k hk => .inl hk); replace aQ := aQ.tch he_hpc (fun k hk => .inr (K.hT k hk)); replace aR := aR.tch he_hpc (fun k hk => .inr (K.hT k hk)); clear bA; replace aN := aN.tch he_hpc (DecS.not (aE.neb (fun g hs => hs.2.2.2.2.2.2.1)) (aA.neb (fun g hs => hs.2.2.2.2.2.2.1)) (by omega))
    replace aM := aM.tch he_hpc (DecS.not (aE.neb (fun g hs => hs.2.2.2.2.2.2.2.1)) (aA.neb (fun g hs => hs.2.2.2.2.2.2.2.1)) (by omega)); replace aO := aO.tch he_hpc (DecS.not (aE.neb (fun g hs => hs.2.2.2.2.2.2.2.2.1)) (aA.neb (fun g hs => hs.2.2.2.2.2.2.2.2.1)) (by omega))
    replace aK := aK.tch he_hpc (DecS.not (aE.neb (fun g hs => hs.2.2.2.2.2.2.2.2.2.1)) (aA.neb (fun g hs => hs.2.2.2.2.2.2.2.2.2.1)) (by omega)); replace aP := aP.tch he_hpc (DecS.not (aE.neb (fun g hs => hs.2.2.2.2.2.2.2.2.2.2.1)) (aA.neb (fun g hs => hs.2.2.2.2.2.2.2.2.2.2.1)) (by omega)); have fP := OwnR.reS aE hr0_hpc; clear aE hr0_hpc; have fQ := OwnR.reS aA hr1_hpc; clear aA hr1_hpc
    replace aS := aS.tch he_hpc (DecS.not (fP.neb (fun g hs => hs.2.2.2.1)) (fQ.neb (fun g hs => hs.2.2.2.1)) (by omega)); replace aV := aV.tch he_hpc (DecS.not (fP.neb (fun g hs => hs.2.2.1)) (fQ.neb (fun g hs => hs.2.2.1)) (by omega)); replace aT := aT.tch he_hpc (DecS.not (fP.neb (fun g hs => hs.1)) (fQ.neb (fun g hs => hs.1)) (by omega)); clear he_hpc
    refine ⟨nZ, ?_⟩
    refine AtH.all [7] 1 (by kernel_rfl) (by simp) ⟨?_, trivial⟩
    refine OneH.seq nY [[]] [(22, .pointer (some ⟨gW.heap.size, 0, none⟩))] (gW.alloc (.cells ((([0, 0, 0, 0]) ++ ([0, 0, 0, 0]) : List Int).map wV).toArray 67 (0, 0))) [] #[true, true, true, true, true, true, true, true, false] (by kernel_rfl) (by kernel_rfl) (by kernel_rfl) trivial (fun xH rE jL oA => ?_)
    clear nY; have dJ := gr_alloc jL; have oB := nZ.gr dJ; have := dJ.size; replace aU := aU.gn dJ; replace aQ := aQ.gn dJ; replace aR := aR.gn dJ; have jM := hbd_hpc.gn dJ; clear hbd_hpc; replace aN := aN.gn dJ; replace aM := aM.gn dJ; replace aO := aO.gn dJ; replace aK := aK.gn dJ; replace aP := aP.gn dJ; replace fP := fP.grN dJ; replace fQ := fQ.grN dJ; replace aS := aS.gn dJ; replace aV := aV.gn dJ
    replace aT := aT.gn dJ; have jN : Bx rE (gW.heap.size) ((([0, 0, 0, 0]) ++ ([0, 0, 0, 0]) : List Int).map wV) 67 := Bx.new jL; have := jN.lt; clear dJ jL
    refine ⟨oB, ?_⟩
    refine AtH.all [8] 0 (by kernel_rfl) (by simp) ⟨?_, trivial⟩
    refine OneH.act oA #[true, true, true, true, true, true, true, true, true] (by kernel_rfl) (storeBlk (t := 67) (b := gW.heap.size) (n := 8) (cs' := ((sc ++ sd : List Int).map wV)) (by kernel_rfl) (by kernel_rfl) (len8 (by assumption) (by assumption)) oneW_ ((show ((sc ++ sd : List Int).map wV).length = 8 from (len8 (by assumption) (by assumption))).trans (show ((([0, 0, 0, 0]) ++ ([0, 0, 0, 0]) : List Int).map wV).length = 8 from (len8 (okLen okW_00) (okLen okW_00))).symm) jN) ?_
    rintro d_ v_ xI ⟨rfl, dK, rF⟩
    have oC := oB.gr' dK (by rw [eT]; exact (allP_app ⟨(by simp only [add_block]; omega), trivial⟩ (allP_app (ne_blk (by omega)) (ne_blk (by omega)))))
    refine ⟨_, rfl, fun xJ rG => ⟨oC, ?_⟩⟩
    clear oA; have := dK.size; replace aU := aU.gr dK (fun k h => .inr (by injection h; omega)); replace aQ := aQ.gb dK (by omega); replace aR := aR.gb dK (by omega); replace jM := jM.gb dK (by omega); replace aN := aN.gb dK (by omega); replace aM := aM.gb dK (by omega); replace aO := aO.gb dK (by omega); replace aK := aK.gb dK (by omega); replace aP := aP.gb dK (by omega)
    replace fP := fP.gr dK (fun k hk => hk.1); replace fQ := fQ.gr dK (fun k hk => hk.1); replace aS := aS.gb dK (by omega); replace aV := aV.gb dK (by omega); replace aT := aT.gb dK (by omega); clear jN dK
    refine AtH.done (by kernel_rfl) ?_
    clear oC
    refine t_n ?_
    have rH := rG.sub (r := [(22, .pointer (some ⟨gW.heap.size, 0, none⟩)), (20, .pointer (some ⟨bC.heap.size, 0, none⟩)), (12, .int .i64 (1)), (10, .pointer (some ⟨w1.heap.size, 0, none⟩))]) ⟨rfl, rfl, rfl, rfl, trivial⟩
    exact ⟨sc, sd, nc, nd, dc, gW.heap.size, rH, aU, aQ, aR, jM, aN, aM, aO, aK, aP, (fP.imp (fun g _ hs => ⟨hs.2.1, hs.2.2.2.1, hs.2.2.2.2.1, hs.2.2.2.2.2.1, hs.2.2.2.2.2.2.1, hs.2.2.2.2.2.2.2.1, hs.2.2.2.2.2.2.2.2.1, hs.2.2.2.2.2.2.2.2.2.1, hs.2.2.2.2.2.2.2.2.2.2.1, hs.2.2.2.2.2.2.2.2.2.2.2.1, hs.1, hs.2.2.2.2.2.2.2.2.2.2.2.2⟩)), (fQ.imp (fun g _ hs => ⟨hs.2.1, hs.2.2.2.1, hs.2.2.2.2.1, hs.2.2.2.2.2.1, hs.2.2.2.2.2.2.1, hs.2.2.2.2.2.2.2.1, hs.2.2.2.2.2.2.2.2.1, hs.2.2.2.2.2.2.2.2.2.1, hs.2.2.2.2.2.2.2.2.2.2.1, hs.2.2.2.2.2.2.2.2.2.2.2.1, hs.1, hs.2.2.2.2.2.2.2.2.2.2.2.2⟩)), aS, aV, aT, rF, (by omega), (by omega), hpc, hd1_hpc, hd2_hpc, hd3_hpc⟩
   refine OneH.seq iC [[]] [(22, .pointer (some ⟨gV.heap.size, 0, none⟩))] (gV.alloc (.cells ((([0, 0, 0, 0]) ++ ([0, 0, 0, 0]) : List Int).map wV).toArray 67 (0, 0))) [] #[true, true, true, true, true, true, false, true, false] (by kernel_rfl) (by kernel_rfl) (by kernel_rfl) trivial (fun xK rI jO oD => ?_)
   clear iC; have dL := gr_alloc jO; have oE := jK.gr dL; have := dL.size; replace aU := aU.gn dL; replace aQ := aQ.gn dL; replace aR := aR.gn dL; replace bA := bA.gn dL; replace aN := aN.gn dL; replace aM := aM.gn dL; replace aO := aO.gn dL; replace aK := aK.gn dL; replace aP := aP.gn dL; replace aE := aE.grN dL; replace aA := aA.grN dL; replace aS := aS.gn dL; replace aV := aV.gn dL
   replace aT := aT.gn dL; have hI : Bx rI (gV.heap.size) ((([0, 0, 0, 0]) ++ ([0, 0, 0, 0]) : List Int).map wV) 67 := Bx.new jO; have := hI.lt; clear dL jO
   refine ⟨oE, ?_⟩
   refine AtH.all [6] 1 (by kernel_rfl) (by simp) ⟨?_, trivial⟩
   refine OneH.call oD 38 #[.agg ((minusS s gs : List Int).map wV).toArray, .int .i64 (depth + 1), .pointer (some ⟨x.bd, 0, none⟩), .pointer (some ⟨x.bg, 0, none⟩), .pointer (some ⟨x.bp, 0, none⟩), .pointer (some ⟨x.bk, 0, none⟩), .pointer (some ⟨x.bm, 0, none⟩), .pointer (some ⟨x.bn, 0, none⟩)] (some 143) #[true, true, true, true, true, true, true, true, false] (by kernel_rfl) (by kernel_rfl) (IH (minusS s gs) hlen1 (q2) (r2) (da) (depth + 1) _ ⟨bA, aN, aM, aO, (aK.as (by first | rfl | (simp only [List.cons.injEq, Value.slice.injEq, true_and, and_true]; omega))), aP, (aE.self.imp (fun g _ hs => ⟨hs.1.2.2.2.2.2.1, hs.1.2.2.2.2.2.2.1, hs.1.2.2.2.2.2.2.2.1, hs.1.2.2.2.2.2.2.2.2.1, hs.1.2.2.2.2.2.2.2.2.2.1, hs.1.2.2.2.2.2.2.2.2.2.2.1, hs.1.2.2.2.2.2.2.2.2.2.2.2.1, .inl hs.2⟩)), (aA.self.imp (fun g _ hs => ⟨hs.1.2.2.2.2.2.1, hs.1.2.2.2.2.2.2.1, hs.1.2.2.2.2.2.2.2.1, hs.1.2.2.2.2.2.2.2.2.1, hs.1.2.2.2.2.2.2.2.2.2.1, hs.1.2.2.2.2.2.2.2.2.2.2.1, hs.1.2.2.2.2.2.2.2.2.2.2.2.1, .inr (.inl hs.2)⟩)), aQ, aR⟩ ⟨(okW_minusS (by assumption) (by assumption)), hlive1, by omega, by omega, by omega, by omega, by omega, by omega⟩) ?_
   rintro e_ xL ⟨sc, sd, nc, nd, dc, rfl, he_hpc, hbd_hpc, hr0_hpc, hr1_hpc, hpc, hd1_hpc, hd2_hpc, hd3_hpc⟩
   have hla1 := hpc.lp; have hlb1 := hpc.lq; have hok_sc := hpc.okp; have hok_sd := hpc.okq; have hl4_sc := okLen hok_sc; have hl4_sd := okLen hok_sd
   refine ⟨_, rfl, _, rfl, fun xM oF => ?_⟩
   clear oD
   have oG := oE.tch he_hpc (by rw [eT]; exact (allP_app ⟨(show ¬ _ from by simp only [add_block]; exact (DecS.not (aE.neb (fun g hs => hs.2.2.2.2.2.2.2.2.1)) (aA.neb (fun g hs => hs.2.2.2.2.2.2.2.2.1)) (by omega))), trivial⟩ (allP_app (nT_blk (DecS.not (aE.neb (fun g hs => hs.2.2.2.2.1)) (aA.neb (fun g hs => hs.2.2.2.2.1)) (by omega))) (nT_blk (DecS.not (aE.neb (fun g hs => hs.2.1)) (aA.neb (fun g hs => hs.2.1)) (by omega))))))
   have := he_hpc.size; replace aU := aU.tch he_hpc (fun k hk => .inl hk); replace aQ := aQ.tch he_hpc (fun k hk => .inr (K.hT k hk)); replace aR := aR.tch he_hpc (fun k hk => .inr (K.hT k hk)); clear bA; replace aN := aN.tch he_hpc (DecS.not (aE.neb (fun g hs => hs.2.2.2.2.2.2.2.1)) (aA.neb (fun g hs => hs.2.2.2.2.2.2.2.1)) (by omega))
   replace aM := aM.tch he_hpc (DecS.not (aE.neb (fun g hs => hs.2.2.2.2.2.2.2.2.1)) (aA.neb (fun g hs => hs.2.2.2.2.2.2.2.2.1)) (by omega)); replace aO := aO.tch he_hpc (DecS.not (aE.neb (fun g hs => hs.2.2.2.2.2.2.2.2.2.1)) (aA.neb (fun g hs => hs.2.2.2.2.2.2.2.2.2.1)) (by omega))
   replace aK := aK.tch he_hpc (DecS.not (aE.neb (fun g hs => hs.2.2.2.2.2.2.2.2.2.2.1)) (aA.neb (fun g hs => hs.2.2.2.2.2.2.2.2.2.2.1)) (by omega)); replace aP := aP.tch he_hpc (DecS.not (aE.neb (fun g hs => hs.2.2.2.2.2.2.2.2.2.2.2.1)) (aA.neb (fun g hs => hs.2.2.2.2.2.2.2.2.2.2.2.1)) (by omega)); have fX := OwnR.reS aE hr0_hpc; clear aE hr0_hpc; have fY := OwnR.reS aA hr1_hpc; clear aA hr1_hpc
   replace aS := aS.tch he_hpc (DecS.not (fX.neb (fun g hs => hs.2.2.2.2.1)) (fY.neb (fun g hs => hs.2.2.2.2.1)) (by omega)); replace aV := aV.tch he_hpc (DecS.not (fX.neb (fun g hs => hs.2.2.2.1)) (fY.neb (fun g hs => hs.2.2.2.1)) (by omega)); replace aT := aT.tch he_hpc (DecS.not (fX.neb (fun g hs => hs.2.1)) (fY.neb (fun g hs => hs.2.1)) (by omega))
   replace hI := hI.tch he_hpc (DecS.not (fX.neb (fun g hs => hs.1)) (fY.neb (fun g hs => hs.1)) (by omega)); clear he_hpc
   refine ⟨oG, ?_⟩
   refine AtH.all [8] 0 (by kernel_rfl) (by simp) ⟨?_, trivial⟩
   refine OneH.act oF #[true, true, true, true, true, true, true, true, true] (by kernel_rfl) (storeBlk (t := 67) (b := gV.heap.size) (n := 8) (cs' := ((sc ++ sd : List Int).map wV)) (by kernel_rfl) (by kernel_rfl) (len8 (by assumption) (by assumption)) oneW_ ((show ((sc ++ sd : List Int).map wV).length = 8 from (len8 (by assumption) (by assumption))).trans (show ((([0, 0, 0, 0]) ++ ([0, 0, 0, 0]) : List Int).map wV).length = 8 from (len8 (okLen okW_00) (okLen okW_00))).symm) hI) ?_
   rintro d_ v_ xN ⟨rfl, dM, rJ⟩
   have oH := oG.gr' dM (by rw [eT]; exact (allP_app ⟨(by simp only [add_block]; omega), trivial⟩ (allP_app (ne_blk (by omega)) (ne_blk (by omega)))))
   refine ⟨_, rfl, fun xO rK => ⟨oH, ?_⟩⟩
   clear oF; have := dM.size; replace aU := aU.gr dM (fun k h => .inr (by injection h; omega)); replace aQ := aQ.gb dM (by omega); replace aR := aR.gb dM (by omega); have rL := hbd_hpc.gb dM (by omega); clear hbd_hpc; replace aN := aN.gb dM (by omega); replace aM := aM.gb dM (by omega); replace aO := aO.gb dM (by omega); replace aK := aK.gb dM (by omega); replace aP := aP.gb dM (by omega)
   replace fX := fX.gr dM (fun k hk => hk.1); replace fY := fY.gr dM (fun k hk => hk.1); replace aS := aS.gb dM (by omega); replace aV := aV.gb dM (by omega); replace aT := aT.gb dM (by omega); clear hI dM
   refine AtH.done (by kernel_rfl) ?_
   clear oH
   refine t_n ?_
   have rM := rK.sub (r := [(22, .pointer (some ⟨gV.heap.size, 0, none⟩)), (20, .pointer (some ⟨bC.heap.size, 0, none⟩)), (12, .int .i64 (1)), (10, .pointer (some ⟨w1.heap.size, 0, none⟩))]) ⟨rfl, rfl, rfl, rfl, trivial⟩
   exact ⟨sc, sd, nc, nd, dc, gV.heap.size, rM, aU, aQ, aR, rL, aN, aM, aO, aK, aP, (fX.imp (fun g _ hs => ⟨hs.2.1, hs.2.2.2.1, hs.2.2.2.2.1, hs.2.2.2.2.2.1, hs.2.2.2.2.2.2.1, hs.2.2.2.2.2.2.2.1, hs.2.2.2.2.2.2.2.2.1, hs.2.2.2.2.2.2.2.2.2.1, hs.2.2.2.2.2.2.2.2.2.2.1, hs.2.2.2.2.2.2.2.2.2.2.2.1, hs.1, hs.2.2.2.2.2.2.2.2.2.2.2.2⟩)), (fY.imp (fun g _ hs => ⟨hs.2.1, hs.2.2.2.1, hs.2.2.2.2.1, hs.2.2.2.2.2.1, hs.2.2.2.2.2.2.1, hs.2.2.2.2.2.2.2.1, hs.2.2.2.2.2.2.2.2.1, hs.2.2.2.2.2.2.2.2.2.1, hs.2.2.2.2.2.2.2.2.2.2.1, hs.2.2.2.2.2.2.2.2.2.2.2.1, hs.1, hs.2.2.2.2.2.2.2.2.2.2.2.2⟩)), aS, aV, aT, rJ, (by omega), (by omega), hpc, hd1_hpc, hd2_hpc, hd3_hpc⟩
  refine OneH.seq iB [[]] [(22, .pointer (some ⟨gU.heap.size, 0, none⟩))] (gU.alloc (.cells ((([0, 0, 0, 0]) ++ ([0, 0, 0, 0]) : List Int).map wV).toArray 67 (0, 0))) [] #[true, true, true, false, true, true, false, true, false] (by kernel_rfl) (by kernel_rfl) (by kernel_rfl) trivial (fun xP rN jP oI => ?_)
  clear iB; have dN := gr_alloc jP; have oJ := jJ.gr dN; have := dN.size; replace aU := aU.gn dN; replace aQ := aQ.gn dN; replace aR := aR.gn dN; replace bA := bA.gn dN; replace aN := aN.gn dN; replace aM := aM.gn dN; replace aO := aO.gn dN; replace aK := aK.gn dN; replace aP := aP.gn dN; replace aE := aE.grN dN; replace aA := aA.grN dN; replace aS := aS.gn dN; replace aV := aV.gn dN
  replace aT := aT.gn dN; have fZ : Bx rN (gU.heap.size) ((([0, 0, 0, 0]) ++ ([0, 0, 0, 0]) : List Int).map wV) 67 := Bx.new jP; have := fZ.lt; clear dN jP
  refine ⟨oJ, ?_⟩
  refine AtH.all [3] 2 (by kernel_rfl) (by simp) ⟨?_, trivial⟩
  refine OneH.call oI 42 #[.agg ((s : List Int).map wV).toArray, .agg ((gs : List Int).map wV).toArray] (some 140) #[true, true, true, true, true, true, false, true, false] (by kernel_rfl) (by kernel_rfl) (minusS_any (s := s) (t := gs) (by assumption) (by assumption)) ?_
  rintro e_ xQ ⟨rfl, he⟩
  refine ⟨_, rfl, _, rfl, fun xR oK => ?_⟩
  clear oI; have cU := gr_ext he; have oL := oJ.gr cU; have := cU.size; replace aU := aU.gn cU; replace aQ := aQ.gn cU; replace aR := aR.gn cU; replace bA := bA.gn cU; replace aN := aN.gn cU; replace aM := aM.gn cU; replace aO := aO.gn cU; replace aK := aK.gn cU; replace aP := aP.gn cU; replace aE := aE.gn cU; replace aA := aA.gn cU; replace aS := aS.gn cU; replace aV := aV.gn cU
  replace aT := aT.gn cU; replace fZ := fZ.gn cU; clear cU he
  refine ⟨oL, ?_⟩
  refine AtH.all [6] 1 (by kernel_rfl) (by simp) ⟨?_, trivial⟩
  refine OneH.call oK 38 #[.agg ((minusS s gs : List Int).map wV).toArray, .int .i64 (depth + 1), .pointer (some ⟨x.bd, 0, none⟩), .pointer (some ⟨x.bg, 0, none⟩), .pointer (some ⟨x.bp, 0, none⟩), .pointer (some ⟨x.bk, 0, none⟩), .pointer (some ⟨x.bm, 0, none⟩), .pointer (some ⟨x.bn, 0, none⟩)] (some 143) #[true, true, true, true, true, true, true, true, false] (by kernel_rfl) (by kernel_rfl) (IH (minusS s gs) hlen1 (q2) (r2) (da) (depth + 1) _ ⟨bA, aN, aM, aO, (aK.as (by first | rfl | (simp only [List.cons.injEq, Value.slice.injEq, true_and, and_true]; omega))), aP, (aE.self.imp (fun g _ hs => ⟨hs.1.2.2.2.2.2.1, hs.1.2.2.2.2.2.2.1, hs.1.2.2.2.2.2.2.2.1, hs.1.2.2.2.2.2.2.2.2.1, hs.1.2.2.2.2.2.2.2.2.2.1, hs.1.2.2.2.2.2.2.2.2.2.2.1, hs.1.2.2.2.2.2.2.2.2.2.2.2.1, .inl hs.2⟩)), (aA.self.imp (fun g _ hs => ⟨hs.1.2.2.2.2.2.1, hs.1.2.2.2.2.2.2.1, hs.1.2.2.2.2.2.2.2.1, hs.1.2.2.2.2.2.2.2.2.1, hs.1.2.2.2.2.2.2.2.2.2.1, hs.1.2.2.2.2.2.2.2.2.2.2.1, hs.1.2.2.2.2.2.2.2.2.2.2.2.1, .inr (.inl hs.2)⟩)), aQ, aR⟩ ⟨(okW_minusS (by assumption) (by assumption)), hlive1, by omega, by omega, by omega, by omega, by omega, by omega⟩) ?_
  rintro e_ xS ⟨sc, sd, nc, nd, dc, rfl, he_hpc, hbd_hpc, hr0_hpc, hr1_hpc, hpc, hd1_hpc, hd2_hpc, hd3_hpc⟩
  have hla1 := hpc.lp; have hlb1 := hpc.lq; have hok_sc := hpc.okp; have hok_sd := hpc.okq; have hl4_sc := okLen hok_sc; have hl4_sd := okLen hok_sd
  refine ⟨_, rfl, _, rfl, fun xT oM => ?_⟩
  clear oK
  have oN := oL.tch he_hpc (by rw [eT]; exact (allP_app ⟨(show ¬ _ from by simp only [add_block]; exact (DecS.not (aE.neb (fun g hs => hs.2.2.2.2.2.2.2.2.1)) (aA.neb (fun g hs => hs.2.2.2.2.2.2.2.2.1)) (by omega))), trivial⟩ (allP_app (nT_blk (DecS.not (aE.neb (fun g hs => hs.2.2.2.2.1)) (aA.neb (fun g hs => hs.2.2.2.2.1)) (by omega))) (nT_blk (DecS.not (aE.neb (fun g hs => hs.2.1)) (aA.neb (fun g hs => hs.2.1)) (by omega))))))
  have := he_hpc.size; replace aU := aU.tch he_hpc (fun k hk => .inl hk); replace aQ := aQ.tch he_hpc (fun k hk => .inr (K.hT k hk)); replace aR := aR.tch he_hpc (fun k hk => .inr (K.hT k hk)); clear bA; replace aN := aN.tch he_hpc (DecS.not (aE.neb (fun g hs => hs.2.2.2.2.2.2.2.1)) (aA.neb (fun g hs => hs.2.2.2.2.2.2.2.1)) (by omega))
  replace aM := aM.tch he_hpc (DecS.not (aE.neb (fun g hs => hs.2.2.2.2.2.2.2.2.1)) (aA.neb (fun g hs => hs.2.2.2.2.2.2.2.2.1)) (by omega)); replace aO := aO.tch he_hpc (DecS.not (aE.neb (fun g hs => hs.2.2.2.2.2.2.2.2.2.1)) (aA.neb (fun g hs => hs.2.2.2.2.2.2.2.2.2.1)) (by omega))
  replace aK := aK.tch he_hpc (DecS.not (aE.neb (fun g hs => hs.2.2.2.2.2.2.2.2.2.2.1)) (aA.neb (fun g hs => hs.2.2.2.2.2.2.2.2.2.2.1)) (by omega)); replace aP := aP.tch he_hpc (DecS.not (aE.neb (fun g hs => hs.2.2.2.2.2.2.2.2.2.2.2.1)) (aA.neb (fun g hs => hs.2.2.2.2.2.2.2.2.2.2.2.1)) (by omega)); have gA := OwnR.reS aE hr0_hpc; clear aE hr0_hpc; have gB := OwnR.reS aA hr1_hpc; clear aA hr1_hpc
  replace aS := aS.tch he_hpc (DecS.not (gA.neb (fun g hs => hs.2.2.2.2.1)) (gB.neb (fun g hs => hs.2.2.2.2.1)) (by omega)); replace aV := aV.tch he_hpc (DecS.not (gA.neb (fun g hs => hs.2.2.2.1)) (gB.neb (fun g hs => hs.2.2.2.1)) (by omega)); replace aT := aT.tch he_hpc (DecS.not (gA.neb (fun g hs => hs.2.1)) (gB.neb (fun g hs => hs.2.1)) (by omega))
  replace fZ := fZ.tch he_hpc (DecS.not (gA.neb (fun g hs => hs.1)) (gB.neb (fun g hs => hs.1)) (by omega)); clear he_hpc
  refine ⟨oN, ?_⟩
  refine AtH.all [8] 0 (by kernel_rfl) (by simp) ⟨?_, trivial⟩
  refine OneH.act oM #[true, true, true, true, true, true, true, true, true] (by kernel_rfl) (storeBlk (t := 67) (b := gU.heap.size) (n := 8) (cs' := ((sc ++ sd : List Int).map wV)) (by kernel_rfl) (by kernel_rfl) (len8 (by assumption) (by assumption)) oneW_ ((show ((sc ++ sd : List Int).map wV).length = 8 from (len8 (by assumption) (by assumption))).trans (show ((([0, 0, 0, 0]) ++ ([0, 0, 0, 0]) : List Int).map wV).length = 8 from (len8 (okLen okW_00) (okLen okW_00))).symm) fZ) ?_
  rintro d_ v_ xU ⟨rfl, dO, rO⟩
  have oO := oN.gr' dO (by rw [eT]; exact (allP_app ⟨(by simp only [add_block]; omega), trivial⟩ (allP_app (ne_blk (by omega)) (ne_blk (by omega)))))
  refine ⟨_, rfl, fun xV rP => ⟨oO, ?_⟩⟩
  clear oM; have := dO.size; replace aU := aU.gr dO (fun k h => .inr (by injection h; omega)); replace aQ := aQ.gb dO (by omega); replace aR := aR.gb dO (by omega); have rQ := hbd_hpc.gb dO (by omega); clear hbd_hpc; replace aN := aN.gb dO (by omega); replace aM := aM.gb dO (by omega); replace aO := aO.gb dO (by omega); replace aK := aK.gb dO (by omega); replace aP := aP.gb dO (by omega)
  replace gA := gA.gr dO (fun k hk => hk.1); replace gB := gB.gr dO (fun k hk => hk.1); replace aS := aS.gb dO (by omega); replace aV := aV.gb dO (by omega); replace aT := aT.gb dO (by omega); clear fZ dO
  refine AtH.done (by kernel_rfl) ?_
  clear oO
  refine t_n ?_
  have rR := rP.sub (r := [(22, .pointer (some ⟨gU.heap.size, 0, none⟩)), (20, .pointer (some ⟨bC.heap.size, 0, none⟩)), (12, .int .i64 (1)), (10, .pointer (some ⟨w1.heap.size, 0, none⟩))]) ⟨rfl, rfl, rfl, rfl, trivial⟩
  exact ⟨sc, sd, nc, nd, dc, gU.heap.size, rR, aU, aQ, aR, rQ, aN, aM, aO, aK, aP, (gA.imp (fun g _ hs => ⟨hs.2.1, hs.2.2.2.1, hs.2.2.2.2.1, hs.2.2.2.2.2.1, hs.2.2.2.2.2.2.1, hs.2.2.2.2.2.2.2.1, hs.2.2.2.2.2.2.2.2.1, hs.2.2.2.2.2.2.2.2.2.1, hs.2.2.2.2.2.2.2.2.2.2.1, hs.2.2.2.2.2.2.2.2.2.2.2.1, hs.1, hs.2.2.2.2.2.2.2.2.2.2.2.2⟩)), (gB.imp (fun g _ hs => ⟨hs.2.1, hs.2.2.2.1, hs.2.2.2.2.1, hs.2.2.2.2.2.1, hs.2.2.2.2.2.2.1, hs.2.2.2.2.2.2.2.1, hs.2.2.2.2.2.2.2.2.1, hs.2.2.2.2.2.2.2.2.2.1, hs.2.2.2.2.2.2.2.2.2.2.1, hs.2.2.2.2.2.2.2.2.2.2.2.1, hs.1, hs.2.2.2.2.2.2.2.2.2.2.2.2⟩)), aS, aV, aT, rO, (by omega), (by omega), hpc, hd1_hpc, hd2_hpc, hd3_hpc⟩
 clear aQ; clear aR; clear bA; clear aN; clear aM; clear aO; clear aK; clear aP; clear aE; clear aA; clear aS; clear aV; clear aT; clear gT aU
 intro xW oP ⟨sc, sd, nc, nd, dc, eR, oQ, eU, fR, fS, eV, fB, fC, fD, fE, fF, fG, fH, oR, fI, fJ, fT, xX, xY, hpc, hd1_hpc, hd2_hpc, hd3_hpc⟩
 have := eU.size; have hla1 := hpc.lp; have hlb1 := hpc.lq; have hok_sc := hpc.okp; have hok_sd := hpc.okq; have hl4_sc := okLen hok_sc; have hl4_sd := okLen hok_sd; have := eV.lt; have := fB.lt; have := fC.lt; have := fD.lt; have := fE.lt; have := fF.lt; have := oR.lt; have := fI.lt; have := fJ.lt; have := fT.lt; have hpT : PartS x.g (minusS s gs) 1 sd sc r2 q2 nd nc := hpc.swap; clear oR
 refine wp_seq ?_
 obtain ⟨jQ, jR⟩ : ∃ c : List (Addr × Value), c = ([] : List (Addr × Value)) ++ blkC (bC.heap.size) ((gs : List Int).map wV) := ⟨_, rfl⟩
 have oS : HoldsC jQ oP := by rw [jR]; exact (holdsA (show HoldsC [] oP from trivial) (holds_blk fJ))
 refine AtH.start jQ 10 #[false, false, false, false, false, false, false, false, false, false] (by kernel_rfl) rfl rfl (fun jS oT => ?_)
 have dP := gr_drew oT; have jT := oS.gr dP; have := dP.size; replace eU := eU.gn dP; replace fR := fR.gn dP; replace fS := fS.gn dP; replace eV := eV.gn dP; replace fB := fB.gn dP; replace fC := fC.gn dP; replace fD := fD.gn dP; replace fE := fE.gn dP; replace fF := fF.gn dP; replace fG := fG.gn dP; replace fH := fH.gn dP; replace fI := fI.gn dP; replace fJ := fJ.gn dP; replace fT := fT.gn dP
 clear dP oT oS
 refine AtH.rd (by kernel_rfl) (fun d v c a w h => by cases d <;> exact h) jT [0, 1, 2, 3, 4, 6] [[], [.as_ (.int .i64 (0))], [], [.as_ (.int .i64 (0))], [], [.cs ((gs : List Int).map wV)]] [(150, .agg ((gs : List Int).map wV).toArray), (148, .pointer (some ⟨eR, 0, none⟩)), (147, .int .i64 (0)), (146, .int .i64 (1)), (145, .int .i64 (0)), (144, .int .i64 (1))] #[true, true, true, true, true, false, true, false, false, false] [((.int .i64 (IntKind.i64.wrap (1 - 1)) : Value) = .int .i64 (0)), ((.int .i64 (IntKind.i64.wrap (1 - 1)) : Value) = .int .i64 (0)), (0 ≤ (0 : Int)), ((0 : Int) < (2 : Nat)), (((gs : List Int).map wV).length = 4), (∀ (j : Nat) (v : Value), ((gs : List Int).map wV)[j]? = some v → ∃ j_ : Nat, jQ[j_]? = some (((⟨bC.heap.size, 0, none⟩ : Addr).add j), v))] 4 oQ (by kernel_rfl) ⟨(by kernel_rfl), (by kernel_rfl), (by decide), (by decide), ((List.length_map _).trans (by assumption)), (fun j v hv => List.getElem?_of_mem (by rw [jR]; exact List.mem_append.2 (.inr (blkC_in hv)))), trivial⟩ (fun xZ oU => ?_)
 clear oQ
 refine AtH.all [5] 3 (by kernel_rfl) (by simp) ⟨?_, trivial⟩
 refine OneH.seq oU [[.cs ((sc : List Int).map wV)]] [(149, .agg ((sc : List Int).map wV).toArray)] jS [(((sc : List Int).map wV).length = 4), (∀ (j : Nat) (v : Value), ((sc : List Int).map wV)[j]? = some v → jS.cell? ((⟨eR, 0, none⟩ : Addr).add j) = some v)] #[true, true, true, true, true, true, true, false, false, false] (by kernel_rfl) (by kernel_rfl) (by kernel_rfl) ⟨((List.length_map _).trans (by assumption)), (Bx.wholeL fT), trivial⟩ (fun yA rS rT oV => ?_)
 obtain rfl : jS = rS := rT.symm
 clear oU
 refine ⟨jT, ?_⟩
 refine AtH.all [7] 2 (by kernel_rfl) (by simp) ⟨?_, trivial⟩
 refine OneH.call oV 32 #[.agg ((sc : List Int).map wV).toArray, .agg ((gs : List Int).map wV).toArray] (some 151) #[true, true, true, true, true, true, true, true, false, false] (by kernel_rfl) (by kernel_rfl) (orS_any (s := sc) (t := gs) (by assumption) (by assumption)) ?_
 rintro e_ yB ⟨rfl, he⟩
 refine ⟨_, rfl, _, rfl, fun yC oW => ?_⟩
 clear oV; have dQ := gr_ext he; have jU := jT.gr dQ; have := dQ.size; replace eU := eU.gn dQ; replace fR := fR.gn dQ; replace fS := fS.gn dQ; replace eV := eV.gn dQ; replace fB := fB.gn dQ; replace fC := fC.gn dQ; replace fD := fD.gn dQ; replace fE := fE.gn dQ; replace fF := fF.gn dQ; replace fG := fG.gn dQ; replace fH := fH.gn dQ; replace fI := fI.gn dQ; replace fJ := fJ.gn dQ
 replace fT := fT.gn dQ; clear dQ he
 refine ⟨jU, ?_⟩
 refine AtH.rd (by kernel_rfl) (fun d v c a w h => by cases d <;> exact h) jU [8] [[]] [(152, .pointer (some ⟨eR, 0, none⟩))] #[true, true, true, true, true, true, true, true, true, false] [(0 ≤ (0 : Int)), ((0 : Int) < (2 : Nat))] 1 oW (by kernel_rfl) ⟨(by decide), (by decide), trivial⟩ (fun yD oX => ?_)
 clear oW
 refine AtH.all [9] 0 (by kernel_rfl) (by simp) ⟨?_, trivial⟩
 refine OneH.act oX #[true, true, true, true, true, true, true, true, true, true] (by kernel_rfl) (storeBlkL (f := wV) (a := sc) (c := sd) (x := orS sc gs) (t := 44) (b := eR) (n := 4) (by kernel_rfl) (by kernel_rfl) ((List.length_map _).trans (okLen (okW_orS (by assumption) (by assumption)))) oneW_ ((show (orS sc gs).length = 4 from (okLen (okW_orS (by assumption) (by assumption)))).trans (show sc.length = 4 from (by assumption)).symm) fT) ?_
 rintro d_ v_ rU ⟨rfl, dW, iD⟩
 have oY := jU.gr' dW (by rw [jR]; exact (allP_app trivial (ne_blk (by omega))))
 refine ⟨_, rfl, fun yE oZ => ⟨oY, ?_⟩⟩
 clear oX; have := dW.size; replace eU := eU.gr dW (fun k h => .inr (by injection h; omega)); replace fR := fR.gb dW (by omega); replace fS := fS.gb dW (by omega); replace eV := eV.gb dW (by omega); replace fB := fB.gb dW (by omega); replace fC := fC.gb dW (by omega); replace fD := fD.gb dW (by omega); replace fE := fE.gb dW (by omega); replace fF := fF.gb dW (by omega)
 replace fG := fG.gr dW (fun k hk => hk.2.2.2.2.2.2.2.2.2.2.1); replace fH := fH.gr dW (fun k hk => hk.2.2.2.2.2.2.2.2.2.2.1); replace fI := fI.gb dW (by omega); replace fJ := fJ.gb dW (by omega); clear fT dW
 refine AtH.done (by kernel_rfl) ?_
 clear oY
 refine t_n ?_
 clear fJ
 refine wp_seq ?_
 refine At.start ?_
 refine At.rd oZ 1 [[.cs (((orS sc gs) ++ sd : List Int).map wV)]] [(153, .agg (((orS sc gs) ++ sd : List Int).map wV).toArray)] [((((orS sc gs) ++ sd : List Int).map wV).length = 8), (∀ (j : Nat) (v : Value), (((orS sc gs) ++ sd : List Int).map wV)[j]? = some v → rU.cell? ((⟨eR, 0, none⟩ : Addr).add j) = some v)] (by kernel_rfl) ⟨(len8 (okLen (okW_orS (by assumption) (by assumption))) (by assumption)), iD.whole, trivial⟩ (fun yF pA => ?_)
 clear oZ
 refine At.act pA (storeBlk (t := 67) (b := w1.heap.size) (n := 8) (cs' := (((orS sc gs) ++ sd : List Int).map wV)) (by kernel_rfl) (by kernel_rfl) (len8 (okLen (okW_orS (by assumption) (by assumption))) (by assumption)) oneW_ ((show (((orS sc gs) ++ sd : List Int).map wV).length = 8 from (len8 (okLen (okW_orS (by assumption) (by assumption))) (by assumption))).trans (show ((([0, 0, 0, 0]) ++ ([0, 0, 0, 0]) : List Int).map wV).length = 8 from (len8 (okLen okW_00) (okLen okW_00))).symm) fI) ?_
 rintro d_ v_ yG ⟨rfl, eJ, rV⟩
 refine ⟨_, rfl, fun yH rW => ?_⟩
 clear pA; have := eJ.size; replace eU := eU.gr eJ (fun k h => .inr (by injection h; omega)); replace fR := fR.gb eJ (by omega); replace fS := fS.gb eJ (by omega); replace eV := eV.gb eJ (by omega); replace fB := fB.gb eJ (by omega); replace fC := fC.gb eJ (by omega); replace fD := fD.gb eJ (by omega); replace fE := fE.gb eJ (by omega); replace fF := fF.gb eJ (by omega)
 replace fG := fG.gr eJ (fun k hk => hk.2.1); replace fH := fH.gr eJ (fun k hk => hk.2.1); replace iD := iD.gb eJ (by omega); clear fI eJ
 refine At.done rfl ?_
 refine t_n ?_
 clear iD
 refine wp_ret ?_
 refine retB_ rW (sl := 10) (cs := (((orS sc gs) ++ sd : List Int).map wV)) (m := 8) rfl (by kernel_rfl) (by kernel_rfl) (len8 (okLen (okW_orS (by assumption) (by assumption))) (by assumption)) rV ?_
 have hfin := (part_two hR (.inr rfl) hL (by omega) (by omega) hat hpS hbt hkf_ hrs_ hpT).swap
 exact ⟨orS sc gs, sd, _, _, _, rfl, eU, eV, fG.imp (fun _ _ _ => trivial), fH.imp (fun _ _ _ => trivial), hfin, by omega, by omega, by omega⟩

end Go.Proofs.YtplpgfcjjnaigaaDoor
