/-
  A walk of a Go function, printed by a program of this repo. Conditions: what the theorems name.
-/
import Derived.Test.YtklbpajmoklheaaWShown17
set_option linter.unusedVariables false
set_option linter.unusedSimpArgs false
namespace Go.Proofs.Ytklbpajmoklheaa
open Go Go.RowKit

set_option maxHeartbeats 4000000 in
theorem go17_any {Ag0 Ag1 Ag2 : Option Addr} {cg0 cg1 cg2 : Nat} {g : GameL} {Am : Option Addr} {cm : Nat} {lm : List Int} {As : Option Addr} {cs : Nat} {ls : List Int} {i p : Int} {w : World} (rg : RdG w 0 w.heap.size Ag0 Ag1 Ag2 cg0 cg1 cg2 g) (rm : RdI w 0 w.heap.size Am lm) (rs : RdI w 0 w.heap.size As ls) :
    Calls Try.prog 4 #[.agg #[.slice Ag0 g.ow.length cg0, .slice Ag1 g.pr.length cg1, .slice Ag2 g.mv.length cg2], .int .i64 (i), .int .i64 (p), .slice Am lm.length cm, .slice As ls.length cs] w fun e w' => e = .returned (.bool true) ∧ Ext w w' := by
 have hlg0 := rg.ow.len; have hlg1 := rg.pr.len; have hlg2 := rg.mv.len; have hkg0 := rg.k0; have hkg1 := rg.k1; have hkg2 := rg.k2; have hlm := rm.len; have hls := rs.len
 refine enter_ (args := [.agg #[.slice Ag0 g.ow.length cg0, .slice Ag1 g.pr.length cg1, .slice Ag2 g.mv.length cg2], .int .i64 (i), .int .i64 (p), .slice Am lm.length cm, .slice As ls.length cs]) Try.func4 rfl Try.ntmps4 (Nat.le_of_ble_eq_true rfl) (fun act0 f0 => ?_)
 have e0 : Ext w w := Ext.refl w
 refine wp_seq ?_
 refine At.start ?_
 refine At.seq f0 1 [[]] [(5, .pointer (some ⟨w.heap.size, 0, none⟩))] (w.alloc (.cells #[.slice Ag0 g.ow.length cg0, .slice Ag1 g.pr.length cg1, .slice Ag2 g.mv.length cg2] 25 (0, 0))) [] (by kernel_rfl) trivial (fun act4 w1 hw2 f3 => ?_)
 clear f0; have g5 := gr_alloc hw2; have := g5.size; replace e0 := e0.gn g5; have r8 := rg.gn g5; clear rg; have r9 := rm.gn g5; clear rm; have aN := rs.gn g5; clear rs; have aF : Bx w1 (w.heap.size) [.slice Ag0 g.ow.length cg0, .slice Ag1 g.pr.length cg1, .slice Ag2 g.mv.length cg2] 25 := Bx.new hw2; have := aF.lt; clear g5 hw2
 refine At.rd f3 1 [[]] [(10, .bool false)] [] (by kernel_rfl) trivial (fun iP eG => ?_)
 clear f3
 refine At.done rfl ?_
 refine t_n ?_
 refine wp_seq ?_
 refine At.start ?_
 refine At.call eG 14 #[] (some 19) (by kernel_rfl) (shown17_any) ?_
 rintro e_ aW ⟨rfl, he⟩
 refine ⟨_, rfl, _, rfl, fun iQ eH => ?_⟩
 clear eG; have bV := gr_ext he; have := bV.size; replace e0 := e0.gn bV; replace r8 := r8.gn bV; replace r9 := r9.gn bV; replace aN := aN.gn bV; replace aF := aF.gn bV; clear bV he
 refine At.rd eH 1 [[]] [(11, .bool true)] [] (by kernel_rfl) trivial (fun iR eI => ?_)
 clear eH
 refine At.done rfl ?_
 refine t_n ?_
 refine wp_seq ?_
 refine At.start ?_
 refine At.rd eI 5 [[.ld (.slice Ag0 g.ow.length cg0), .ld (.slice Ag1 g.pr.length cg1), .ld (.slice Ag2 g.mv.length cg2)], [], [], [], []] [(25, .slice As ls.length cs), (24, .slice Am lm.length cm), (23, .int .i64 (p)), (22, .int .i64 (i)), (21, .agg #[.slice Ag0 g.ow.length cg0, .slice Ag1 g.pr.length cg1, .slice Ag2 g.mv.length cg2])] [(aW.cell? ⟨w.heap.size, 0, none⟩ = some (.slice Ag0 g.ow.length cg0)), (aW.cell? ⟨w.heap.size, 1, none⟩ = some (.slice Ag1 g.pr.length cg1)), (aW.cell? ⟨w.heap.size, 2, none⟩ = some (.slice Ag2 g.mv.length cg2))] (by kernel_rfl) ⟨(aF.cell (i := 0) rfl), (aF.cell (i := 1) rfl), (aF.cell (i := 2) rfl), trivial⟩ (fun iS eJ => ?_)
 clear eI
 refine At.call eJ 17 #[.agg #[.slice Ag0 g.ow.length cg0, .slice Ag1 g.pr.length cg1, .slice Ag2 g.mv.length cg2], .int .i64 (i), .int .i64 (p), .slice Am lm.length cm, .slice As ls.length cs] (some 26) (by kernel_rfl) (runM_any (g := g) (i := i) (p := p) (lm := lm) (ls := ls) (r8.wide (Nat.zero_le _) (by omega)) (r9.wide (Nat.zero_le _) (by omega)) (aN.wide (Nat.zero_le _) (by omega))) ?_
 rintro e_ aA ⟨r, hr, aD, aI, aC, aJ, rfl, he, aM, aK⟩
 have hlr := run_len hr
 refine ⟨_, rfl, _, rfl, fun iT eK => ?_⟩
 clear eJ; have bW := gr_ext he; have := bW.size; replace e0 := e0.gn bW; replace r8 := r8.gn bW; replace r9 := r9.gn bW; replace aN := aN.gn bW; replace aF := aF.gn bW; clear bW he
 refine At.rd eK 3 [[], [], []] [(28, .int .i64 (r.err)), (27, .agg #[.slice aD r.ah.length aI, .slice aC r.ro.length aJ, .int .i64 (r.win)]), (20, .tuple #[.agg #[.slice aD r.ah.length aI, .slice aC r.ro.length aJ, .int .i64 (r.win)], .int .i64 (r.err)])] [] (by kernel_rfl) trivial (fun iU eL => ?_)
 clear eK
 refine At.seq eL 1 [[]] [(12, .pointer (some ⟨aA.heap.size, 0, none⟩))] (aA.alloc (.cells #[.slice none 0 0, .slice none 0 0, .int .i64 (0)] 29 (0, 0))) [] (by kernel_rfl) trivial (fun iV gR dH eM => ?_)
 clear eL; have bR := gr_alloc dH; have := bR.size; replace e0 := e0.gn bR; replace r8 := r8.gn bR; replace r9 := r9.gn bR; replace aN := aN.gn bR; replace aF := aF.gn bR; replace aM := aM.grN bR; replace aK := aK.grN bR; have dI : Bx gR (aA.heap.size) [.slice none 0 0, .slice none 0 0, .int .i64 (0)] 29 := Bx.new dH; have := dI.lt; clear bR dH
 refine At.store eM (t := 29) (b := aA.heap.size) (off := 0) (v := .agg #[.slice aD r.ah.length aI, .slice aC r.ro.length aJ, .int .i64 (r.win)]) (by kernel_rfl) dI (by kernel_rfl) (fun iW cL bS aO eN => ?_)
 clear eM; replace aO : Bx cL (aA.heap.size) [.slice aD r.ah.length aI, .slice aC r.ro.length aJ, .int .i64 (r.win)] 29 := aO; have := bS.size; replace e0 := e0.gr bS (fun k h => by injection h; omega); replace r8 := r8.gb bS (by omega); replace r9 := r9.gb bS (by omega); replace aN := aN.gb bS (by omega); replace aF := aF.gb bS (by omega); replace aM := aM.gr bS (fun k hk => hk.1)
 replace aK := aK.gr bS (fun k hk => hk.1); clear dI bS
 refine At.rd eN 1 [[]] [(13, .int .i64 (r.err))] [] (by kernel_rfl) trivial (fun iX eO => ?_)
 clear eN
 refine At.done rfl ?_
 refine t_n ?_
 refine wp_seq ?_
 refine wp_seq ?_
 have hGo := fun he => go_of hr he
 refine At.start ?_
 refine At.rd eO 6 [[], [], [], [], [], []] [(34, .bool ((r.err : Int) != 0)), (33, .bool ((r.err : Int) != 0)), (32, .int .i64 (r.err)), (31, .bool false), (30, .bool false), (29, .bool true)] [] (by kernel_rfl) trivial (fun iY eP => ?_)
 clear eO
 refine At.done rfl ?_
 refine t_n ?_
 have cD := eP.sub (r := [(34, .bool ((r.err : Int) != 0)), (12, .pointer (some ⟨aA.heap.size, 0, none⟩)), (11, .bool true), (10, .bool false), (5, .pointer (some ⟨w.heap.size, 0, none⟩)), (1, .int .i64 (i)), (2, .int .i64 (p)), (3, .slice Am lm.length cm)]) ⟨rfl, rfl, rfl, rfl, rfl, rfl, rfl, rfl, trivial⟩
 clear eP
 refine cond_S cD (t := (r.err : Int) != 0) rfl (fun dJ => ?_) (fun dJ => ?_)
 ·have iZ := bne_iff_ne.1 dJ
  refine wp_seq ?_
  have hnil := run_none hr (by omega)
  refine At.start ?_
  refine At.rd cD 14 [[], [], [], [.ld (.slice aD r.ah.length aI)], [], [.as_ (.bool true)], [], [], [], [.ld (.slice aC r.ro.length aJ)], [], [.as_ (.bool true)], [], []] [(10, .bool true), (47, .bool true), (46, .bool true), (45, .int .i64 (((r.ro.length : Nat) : Int))), (44, .slice aC r.ro.length aJ), (43, .pointer (some ⟨aA.heap.size, 1, none⟩)), (42, .bool true), (41, .bool true), (40, .bool true), (39, .int .i64 (((r.ah.length : Nat) : Int))), (38, .slice aD r.ah.length aI), (37, .pointer (some ⟨aA.heap.size, 0, none⟩)), (36, .bool true), (35, .bool true)] [(cL.cell? ⟨aA.heap.size, 0, none⟩ = some (.slice aD r.ah.length aI)), ((.bool ((((r.ah.length : Nat) : Int) : Int) == 0) : Value) = .bool true), (cL.cell? ⟨aA.heap.size, 1, none⟩ = some (.slice aC r.ro.length aJ)), ((.bool ((((r.ro.length : Nat) : Int) : Int) == 0) : Value) = .bool true)] (by kernel_rfl) ⟨(aO.cell (i := 0) rfl), (congrArg Value.bool (peqT (by omega))), (aO.cell (i := 1) rfl), (congrArg Value.bool (peqT (by omega))), trivial⟩ (fun jA eQ => ?_)
  clear cD
  refine At.done rfl ?_
  refine t_n ?_
  clear aF; clear aM; clear aK; clear aO; have gS := eQ.sub (r := [(10, .bool true)]) ⟨rfl, trivial⟩; clear eQ
  refine wp_ret ?_
  refine t_r ?_
  refine ret_ gS [] [.bool true] [] (by kernel_rfl) trivial ?_
  exact ⟨by first | rfl | (rw [hnil.1, hnil.2]; rfl) | (simp_all; done), e0⟩
 have jB := bne_eq_false_iff_eq.1 dJ
 refine wp_skip ?_
 refine t_n ?_
 have hg := hGo (by omega); have hG := hg.R; have hn1 := hG.n1; have hpl := hG.pl; have hml := hG.ml; have hne := hg.ne; have hrg := hg.rng; have hsg := hg.step
 unfold goL at hrg hsg
 refine wp_seq ?_
 obtain ⟨cM, cE⟩ : ∃ c : List (Addr × Value), c = [(⟨aA.heap.size, 0, none⟩, (.slice aD r.ah.length aI)), (⟨aA.heap.size, 1, none⟩, (.slice aC r.ro.length aJ))] := ⟨_, rfl⟩
 have eR : HoldsC cM cL := by rw [cE]; exact ⟨(aO.cell (i := 0) rfl), (aO.cell (i := 1) rfl), trivial⟩
 refine AtH.start cM 8 #[false, false, false, false, false, false, false, false] (by kernel_rfl) rfl rfl (fun aV eS => ?_)
 have bE := gr_drew eS; have eT := eR.gr bE; have := bE.size; replace e0 := e0.gn bE; replace r8 := r8.gn bE; replace r9 := r9.gn bE; replace aN := aN.gn bE; replace aF := aF.gn bE; replace aM := aM.gn bE; replace aK := aK.gn bE; replace aO := aO.gn bE; clear bE eS eR
 refine AtH.rd (by kernel_rfl) (fun d v c a w h => by cases d <;> exact h) eT [1, 2, 4, 5] [[], [.ld (.slice aD r.ah.length aI)], [], [.ld (.slice aC r.ro.length aJ)]] [(53, .slice aC r.ro.length aJ), (52, .pointer (some ⟨aA.heap.size, 1, none⟩)), (50, .slice aD r.ah.length aI), (49, .pointer (some ⟨aA.heap.size, 0, none⟩))] #[false, true, true, false, true, true, false, false] [(∃ j_ : Nat, cM[j_]? = some (⟨aA.heap.size, 0, none⟩, (.slice aD r.ah.length aI))), (∃ j_ : Nat, cM[j_]? = some (⟨aA.heap.size, 1, none⟩, (.slice aC r.ro.length aJ)))] 4 cD (by kernel_rfl) ⟨⟨0, by rw [cE]; rfl⟩, ⟨1, by rw [cE]; rfl⟩, trivial⟩ (fun jC eU => ?_)
 clear cD
 refine AtH.all [0] 3 (by kernel_rfl) (by simp) ⟨?_, trivial⟩
 refine OneH.seq eU [[]] [(48, .slice (some ⟨aV.heap.size, 0, none⟩) 0 0)] (aV.alloc (.cells #[] 3 (0, 0))) [] #[true, true, true, false, true, true, false, false] (by kernel_rfl) (by kernel_rfl) (by kernel_rfl) trivial (fun jD dK dL eV => ?_)
 clear eU; have bF := gr_alloc dL; have eW := eT.gr bF
 refine ⟨eW, ?_⟩
 have := bF.size; replace e0 := e0.gn bF; replace r8 := r8.gn bF; replace r9 := r9.gn bF; replace aN := aN.gn bF; replace aF := aF.gn bF; replace aM := aM.grN bF; replace aK := aK.grN bF; replace aO := aO.gn bF; have dM : Bx dK (aV.heap.size) [] 3 := Bx.new dL; have := dM.lt; clear bF dL
 refine AtH.all [3] 2 (by kernel_rfl) (by simp) ⟨?_, trivial⟩
 have bP : OwnR dK (Sx (aV.heap.size) [obk (aD), obk (aC)]) (some ⟨aV.heap.size, 0, none⟩) 0 3 ([] : List Int) := Bx.own0 dM ⟨(aM.neb (fun g hs => hs.1)), (aK.neb (fun g hs => hs.1)), (Nat.le_refl _)⟩
 clear dM; have gT : (([] : List Int) ++ r.ah).length = (([] : List Int)).length + (r.ah : List Int).length := List.length_append
 simp only [List.length_cons, List.length_nil] at gT
 refine OneH.act eV #[true, true, true, true, true, true, false, false] (by kernel_rfl) (appendR (α := Int) (t := 22) (d := 51) (n := 0) (m := r.ah.length) (cc := aI) (xs := []) (ys := r.ah) (bytes := 8) (by first | rfl | omega | (simp; done) | (simp; omega)) (by first | rfl | omega | (simp; done) | (simp; omega)) (by kernel_rfl) rfl (by kernel_rfl) bP aM.src (by simp only [List.length_cons, List.length_nil]; omega) (by simp only [List.length_cons, List.length_nil]; omega)) ?_
 rintro d_ v_ cN ⟨rfl, dN, gU, bX⟩
 obtain rfl := bX.val
 have bG := bX.gr
 have eX := eW.grO bG (by rw [cE]; exact ⟨(fun e => by have := bP.ge _ e; simp only [add_block] at this; omega), (fun e => by have := bP.ge _ e; simp only [add_block] at this; omega), trivial⟩)
 refine ⟨_, rfl, fun jE eY => ⟨eX, ?_⟩⟩
 clear eV
 have aY := bX.own (Sx (aV.heap.size) [obk (aD), obk (aC)]) (fun g _ hs => ⟨hs.1, hs.2.1, hs.2.2⟩) ⟨aM.ne_new, aK.ne_new, (show aV.heap.size ≤ dK.heap.size by omega)⟩
 have := bG.size; replace e0 := e0.gr bG (fun k hk => by have := bP.ge k hk; omega); replace r8 := r8.gr bG (fun k hk => by have := bP.ge k hk; omega); replace r9 := r9.gr bG (fun k hk => by have := bP.ge k hk; omega); replace aN := aN.gr bG (fun k hk => by have := bP.ge k hk; omega); replace aF := aF.gr bG (fun e => by have := bP.ge _ e; omega)
 replace aM : OwnR cN (Sx (aW.heap.size) [obk (dN), some (aA.heap.size), obk (aC)]) aD aI 3 (r.ah : List Int) := aM.grA bG (fun k hk => hk.1) (fun k hk hs => ⟨own_repl bX.at_ hs.1 hk, hs.2.1, hs.2.2.1, hs.2.2.2⟩)
 replace aK : OwnR cN (Sx (aW.heap.size) [obk (dN), some (aA.heap.size), obk (aD)]) aC aJ 3 (r.ro : List Int) := aK.grA bG (fun k hk => hk.1) (fun k hk hs => ⟨own_repl bX.at_ hs.1 hk, hs.2.1, hs.2.2.1, hs.2.2.2⟩)
 replace aO := aO.gr bG (fun e => by have := bP.ge _ e; omega); clear bP bG bX; replace aY : OwnR cN (Sx (aV.heap.size) [obk (aD), obk (aC)]) dN gU 3 (r.ah : List Int) := aY
 refine AtH.all [6] 1 (by kernel_rfl) (by simp) ⟨?_, trivial⟩
 have jF : (r.ah ++ r.ro).length = (r.ah).length + (r.ro : List Int).length := List.length_append
 refine OneH.act eY #[true, true, true, true, true, true, true, false] (by kernel_rfl) (appendR (α := Int) (t := 22) (d := 54) (n := (([] : List Int) ++ r.ah).length) (m := r.ro.length) (cc := aJ) (xs := r.ah) (ys := r.ro) (bytes := 8) (by first | rfl | omega | (simp; done) | (simp; omega)) (by first | rfl | omega | (simp; done) | (simp; omega)) (by kernel_rfl) rfl (by kernel_rfl) aY aK.src (by omega) (by omega)) ?_
 rintro d_ v_ aZ ⟨rfl, bU, cF, bY⟩
 obtain rfl := bY.val
 have bH := bY.gr
 have dO := eX.grO bH (by rw [cE]; exact ⟨(fun e => by have := aY.ge _ e; simp only [add_block] at this; omega), (fun e => by have := aY.ge _ e; simp only [add_block] at this; omega), trivial⟩)
 refine ⟨_, rfl, fun jG eZ => ⟨dO, ?_⟩⟩
 clear eY
 have bI := bY.own (Sx (aV.heap.size) [obk (aD), obk (aC)]) (fun g _ hs => ⟨hs.1, hs.2.1, hs.2.2⟩) ⟨aM.ne_new, aK.ne_new, (show aV.heap.size ≤ cN.heap.size by omega)⟩
 have := bH.size; replace e0 := e0.gr bH (fun k hk => by have := aY.ge k hk; omega); replace r8 := r8.gr bH (fun k hk => by have := aY.ge k hk; omega); replace r9 := r9.gr bH (fun k hk => by have := aY.ge k hk; omega); replace aN := aN.gr bH (fun k hk => by have := aY.ge k hk; omega); replace aF := aF.gr bH (fun e => by have := aY.ge _ e; omega)
 replace aM : OwnR aZ (Sx (aW.heap.size) [obk (bU), some (aA.heap.size), obk (aC)]) aD aI 3 (r.ah : List Int) := aM.grA bH (fun k hk => hk.1) (fun k hk hs => ⟨own_repl bY.at_ hs.1 hk, hs.2.1, hs.2.2.1, hs.2.2.2⟩)
 replace aK : OwnR aZ (Sx (aW.heap.size) [obk (bU), some (aA.heap.size), obk (aD)]) aC aJ 3 (r.ro : List Int) := aK.grA bH (fun k hk => hk.1) (fun k hk hs => ⟨own_repl bY.at_ hs.1 hk, hs.2.1, hs.2.2.1, hs.2.2.2⟩)
 replace aO := aO.gr bH (fun e => by have := aY.ge _ e; omega); clear aY bH bY
 refine AtH.rd (by kernel_rfl) (fun d v c a w h => by cases d <;> exact h) dO [7] [[]] [(14, .slice bU ((r.ah ++ r.ro).length) cF)] #[true, true, true, true, true, true, true, true] [] 0 eZ (by kernel_rfl) trivial (fun jH fA => ?_)
 clear eZ
 refine AtH.done (by kernel_rfl) ?_
 clear dO
 refine t_n ?_
 refine wp_seq ?_
 refine wp_seq ?_
 have hf_ := hg.first
 refine At.start ?_
 obtain ⟨cO, gV, jI, gW, jJ⟩ := bI.get (0) (by omega) (by omega) (sz := 1) rfl
 refine At.rd fA 20 [[], [.ld (.slice aC r.ro.length aJ)], [], [.as_ (.bool false)], [], [], [.ad cO], [.ld (.int .i64 (gI (r.ah ++ r.ro) 0))], [], [.as_ (.bool false)], [], [], [], [], [], [.ld (.slice Ag0 g.ow.length cg0)], [], [.as_ (.int .i64 (((64 : Int) * ((g.ow.length : Nat) : Int))))], [.as_ (.bool false)], []] [(74, .bool false), (73, .bool false), (72, .int .i64 (((64 : Int) * ((g.ow.length : Nat) : Int)))), (71, .int .i64 (((g.ow.length : Nat) : Int))), (70, .slice Ag0 g.ow.length cg0), (69, .pointer (some ⟨w.heap.size, 0, none⟩)), (68, .int .i64 ((((r.ah ++ r.ro).length : Nat) : Int))), (67, .slice bU ((r.ah ++ r.ro).length) cF), (66, .bool false), (65, .bool false), (64, .bool false), (63, .int .i64 (i)), (62, .int .i64 (gI (r.ah ++ r.ro) 0)), (61, .pointer (some (cO.add ((0 : Int).toNat * 1)))), (60, .slice bU ((r.ah ++ r.ro).length) cF), (59, .bool false), (58, .bool false), (57, .int .i64 (((r.ro.length : Nat) : Int))), (56, .slice aC r.ro.length aJ), (55, .pointer (some ⟨aA.heap.size, 1, none⟩))] [(aZ.cell? ⟨aA.heap.size, 1, none⟩ = some (.slice aC r.ro.length aJ)), ((.bool ((((r.ro.length : Nat) : Int) : Int) == 0) : Value) = .bool false), (bU = some cO), (0 ≤ (0 : Int)), ((0 : Int) < ((r.ah ++ r.ro).length : Nat)), (aZ.cell? (cO.add ((0 : Int).toNat * 1)) = some (.int .i64 (gI (r.ah ++ r.ro) 0))), ((.bool ((gI (r.ah ++ r.ro) 0 : Int) != i) : Value) = .bool false), (aZ.cell? ⟨w.heap.size, 0, none⟩ = some (.slice Ag0 g.ow.length cg0)), ((.int .i64 (IntKind.i64.wrap (64 * ((g.ow.length : Nat) : Int))) : Value) = .int .i64 (((64 : Int) * ((g.ow.length : Nat) : Int)))), ((.bool (decide (((((r.ah ++ r.ro).length : Nat) : Int) : Int) > ((64 : Int) * ((g.ow.length : Nat) : Int)))) : Value) = .bool false)] (by kernel_rfl) ⟨(aO.cell (i := 1) rfl), (congrArg Value.bool (peqF (by omega))), gV, (by omega), (by omega), gW, (congrArg Value.bool (pneF hf_)), (aF.cell (i := 0) rfl), (Eq.trans (b := (.int .i64 (64 * ((g.ow.length : Nat) : Int)) : Value)) (w64 (by omega) (by omega)) (congrArg (Value.int .i64) rfl)), (congrArg Value.bool (decide_eq_false (by rw [List.length_append]; omega))), trivial⟩ (fun jK fB => ?_)
 clear fA
 refine At.done rfl ?_
 refine t_n ?_
 have dP := fB.sub (r := [(74, .bool false), (14, .slice bU ((r.ah ++ r.ro).length) cF), (12, .pointer (some ⟨aA.heap.size, 0, none⟩)), (10, .bool false), (5, .pointer (some ⟨w.heap.size, 0, none⟩)), (2, .int .i64 (p)), (3, .slice Am lm.length cm)]) ⟨rfl, rfl, rfl, rfl, rfl, rfl, rfl, trivial⟩
 clear fB
 refine cond_F dP rfl ?_
 refine wp_skip ?_
 refine t_n ?_
 refine wp_seq ?_
 have hgn := goL_len (r := r)
 unfold goL at hgn
 refine At.start ?_
 obtain ⟨cP, gX, jL, gY, jM⟩ := aK.get (0) (by omega) (by omega) (sz := 1) rfl
 refine At.rd dP 5 [[], [], [.ld (.slice aC r.ro.length aJ)], [.ad cP], [.ld (.int .i64 (gI r.ro 0))]] [(79, .int .i64 (gI r.ro 0)), (78, .pointer (some (cP.add ((0 : Int).toNat * 1)))), (77, .slice aC r.ro.length aJ), (76, .pointer (some ⟨aA.heap.size, 1, none⟩)), (75, .slice bU ((r.ah ++ r.ro).length) cF)] [(aZ.cell? ⟨aA.heap.size, 1, none⟩ = some (.slice aC r.ro.length aJ)), (aC = some cP), (0 ≤ (0 : Int)), ((0 : Int) < (r.ro.length : Nat)), (aZ.cell? (cP.add ((0 : Int).toNat * 1)) = some (.int .i64 (gI r.ro 0)))] (by kernel_rfl) ⟨(aO.cell (i := 1) rfl), gX, (by omega), (by omega), gY, trivial⟩ (fun jN fC => ?_)
 clear dP
 refine At.seq fC 1 [[]] [(80, .slice (some ⟨aZ.heap.size, 0, none⟩) 1 1)] (aZ.alloc (.cells #[.int .i64 (gI r.ro 0)] 3 (0, 0))) [] (by kernel_rfl) trivial (fun jO fD dQ fE => ?_)
 clear fC; have bJ := gr_alloc dQ; have := bJ.size; replace e0 := e0.gn bJ; replace r8 := r8.gn bJ; replace r9 := r9.gn bJ; replace aN := aN.gn bJ; replace aF := aF.gn bJ; replace aM := aM.grN bJ; replace aK := aK.grN bJ; replace aO := aO.gn bJ; replace bI := bI.grN bJ; have dR : Bx fD (aZ.heap.size) [.int .i64 (gI r.ro 0)] 3 := Bx.new dQ; have := dR.lt; clear bJ dQ
 have gZ : ((r.ah ++ r.ro) ++ ([gI r.ro 0])).length = (r.ah ++ r.ro).length + ([gI r.ro 0] : List Int).length := List.length_append
 simp only [List.length_cons, List.length_nil] at gZ
 refine At.act fE (appendR (α := Int) (t := 22) (d := 81) (n := (r.ah ++ r.ro).length) (m := 1) (cc := 1) (xs := r.ah ++ r.ro) (ys := [gI r.ro 0]) (bytes := 8) (by first | rfl | omega | (simp; done) | (simp; omega)) (by first | rfl | omega | (simp; done) | (simp; omega)) (by kernel_rfl) rfl (by kernel_rfl) bI (Bx.srcR (l := ([gI r.ro 0] : List Int)) dR rfl) (by simp only [List.length_cons, List.length_nil]; omega) (by simp only [List.length_cons, List.length_nil]; omega)) ?_
 rintro d_ v_ fF ⟨rfl, aB, aE, bZ⟩
 obtain rfl := bZ.val
 have bQ := bZ.gr
 refine ⟨_, rfl, fun jP fG => ?_⟩
 clear fE; clear dR
 have fH := bZ.own (Sx (aV.heap.size) [obk (aD), obk (aC)]) (fun g _ hs => ⟨hs.2.1, hs.2.2.1, hs.2.2.2⟩) ⟨aM.ne_new, aK.ne_new, (show aV.heap.size ≤ fD.heap.size by omega)⟩
 have := bQ.size; replace e0 := e0.gr bQ (fun k hk => by have := bI.ge k hk; omega); replace r8 := r8.gr bQ (fun k hk => by have := bI.ge k hk; omega); replace r9 := r9.gr bQ (fun k hk => by have := bI.ge k hk; omega); replace aN := aN.gr bQ (fun k hk => by have := bI.ge k hk; omega); replace aF := aF.gr bQ (fun e => by have := bI.ge _ e; omega)
 replace aM : OwnR fF (Sx (aW.heap.size) [some (aZ.heap.size), obk (aB), some (aA.heap.size), obk (aC)]) aD aI 3 (r.ah : List Int) := aM.grA bQ (fun k hk => hk.2.1) (fun k hk hs => ⟨hs.1, own_repl bZ.at_ hs.2.1 hk, hs.2.2.1, hs.2.2.2.1, hs.2.2.2.2⟩)
 replace aK : OwnR fF (Sx (aW.heap.size) [some (aZ.heap.size), obk (aB), some (aA.heap.size), obk (aD)]) aC aJ 3 (r.ro : List Int) := aK.grA bQ (fun k hk => hk.2.1) (fun k hk hs => ⟨hs.1, own_repl bZ.at_ hs.2.1 hk, hs.2.2.1, hs.2.2.2.1, hs.2.2.2.2⟩)
 replace aO := aO.gr bQ (fun e => by have := bI.ge _ e; omega); clear bI bQ bZ
 refine At.rd fG 1 [[]] [(14, .slice aB (((r.ah ++ r.ro) ++ ([gI r.ro 0])).length) aE)] [] (by kernel_rfl) trivial (fun jQ fI => ?_)
 clear fG
 refine At.done rfl ?_
 refine t_n ?_
 refine wp_seq ?_
 refine At.start ?_
 refine At.rd fI 1 [[]] [(15, .int .i64 (0))] [] (by kernel_rfl) trivial (fun jR fJ => ?_)
 clear fI
 refine At.done rfl ?_
 refine t_n ?_
 refine wp_seq ?_
 refine wp_seq ?_
 refine At.start ?_
 refine At.rd fJ 1 [[]] [(16, .int .i64 (0))] [] (by kernel_rfl) trivial (fun jS fK => ?_)
 clear fJ
 refine At.done rfl ?_
 refine t_n ?_
 refine wp_block ?_
 have fL := fK.sub (r := [(16, .int .i64 (0)), (15, .int .i64 (0)), (14, .slice aB (((r.ah ++ r.ro) ++ ([gI r.ro 0])).length) aE), (12, .pointer (some ⟨aA.heap.size, 0, none⟩)), (5, .pointer (some ⟨w.heap.size, 0, none⟩)), (2, .int .i64 (p)), (3, .slice Am lm.length cm)]) ⟨rfl, rfl, rfl, rfl, rfl, rfl, rfl, trivial⟩
 refine loop_g (fun (m_ : Nat) a_ w_ => ∃ (i_ : Int) (t : Int), m_ = (((r.ah ++ r.ro ++ [gI r.ro 0]).length : Int) - i_).toNat ∧ (Frm 171 a_ [(16, .int .i64 (i_)), (15, .int .i64 (t)), (14, .slice aB (((r.ah ++ r.ro) ++ ([gI r.ro 0])).length) aE), (12, .pointer (some ⟨aA.heap.size, 0, none⟩)), (5, .pointer (some ⟨w.heap.size, 0, none⟩)), (2, .int .i64 (p)), (3, .slice Am lm.length cm)]) ∧ (Ext w w_) ∧ (RdG w_ 0 w.heap.size Ag0 Ag1 Ag2 cg0 cg1 cg2 g) ∧ (RdI w_ 0 w.heap.size Am lm) ∧ (RdI w_ 0 w.heap.size As ls) ∧ (Bx w_ (w.heap.size) [.slice Ag0 g.ow.length cg0, .slice Ag1 g.pr.length cg1, .slice Ag2 g.mv.length cg2] 25) ∧ (OwnR w_ (Sx (aW.heap.size) [obk (aB), some (aA.heap.size), obk (aC)]) aD aI 3 (r.ah : List Int)) ∧ (OwnR w_ (Sx (aW.heap.size) [obk (aB), some (aA.heap.size), obk (aD)]) aC aJ 3 (r.ro : List Int)) ∧ (Bx w_ (aA.heap.size) [.slice aD r.ah.length aI, .slice aC r.ro.length aJ, .int .i64 (r.win)] 29) ∧ (OwnR w_ (Sx (aV.heap.size) [obk (aD), obk (aC)]) aB aE 3 ((r.ah ++ r.ro) ++ ([gI r.ro 0]) : List Int)) ∧ (0 ≤ i_) ∧ (i_ < ((r.ah ++ r.ro ++ [gI r.ro 0]).length : Int)) ∧ (TopT g r t i_) ∧ (aW.heap.size ≤ w_.heap.size) ∧ (aV.heap.size ≤ w_.heap.size)) _ ⟨0, 0, rfl, fL, e0, r8, r9, aN, aF, (aM.imp (fun g _ hs => ⟨hs.2.1, hs.2.2.1, hs.2.2.2.1, hs.2.2.2.2⟩)), (aK.imp (fun g _ hs => ⟨hs.2.1, hs.2.2.1, hs.2.2.2.1, hs.2.2.2.2⟩)), aO, fH, (by omega), (by omega), topT_0, (by omega), (by omega)⟩ ?_
 clear fL fK; clear r8; clear r9; clear aN; clear aF; clear aM; clear aK; clear aO; clear fH; clear e0
 intro m_ jT hA ⟨i_, t, hm217, fM, cQ, fN, fO, fP, cR, dS, dT, cG, dU, i227, i228, ht, i229, i230⟩
 have := cQ.size; have := cR.lt; have := cG.lt
 refine wp_seq ?_
 refine wp_seq ?_
 refine At.start ?_
 refine At.rd fM 5 [[], [.as_ (.int .i64 (i_ + 1))], [], [], []] [(86, .bool (decide ((i_ + 1 : Int) < ((((r.ah ++ r.ro) ++ ([gI r.ro 0])).length : Nat) : Int)))), (85, .int .i64 (((((r.ah ++ r.ro) ++ ([gI r.ro 0])).length : Nat) : Int))), (84, .slice aB (((r.ah ++ r.ro) ++ ([gI r.ro 0])).length) aE), (83, .int .i64 (i_ + 1)), (82, .int .i64 (i_))] [((.int .i64 (IntKind.i64.wrap (i_ + 1)) : Value) = .int .i64 (i_ + 1))] (by kernel_rfl) ⟨(w64 (by omega) (by omega)), trivial⟩ (fun jU cH => ?_)
 clear fM
 refine At.done rfl ?_
 refine t_n ?_
 refine cond_S cH (t := decide ((i_ + 1 : Int) < ((((r.ah ++ r.ro) ++ ([gI r.ro 0])).length : Nat) : Int))) rfl (fun dV => ?_) (fun dV => ?_)
 ·have jV := of_decide_eq_true dV
  refine wp_skip ?_
  refine t_n ?_
  refine wp_seq ?_
  refine wp_block ?_
  refine wp_seq ?_
  have hg1 := hrg i_ (by omega) (by omega); have hg2 := hsg i_ (by omega) (by omega); have hrw := row_len hG hg1.1 hg1.2
  refine At.start ?_
  refine At.rd cH 1 [[]] [(17, .bool false)] [] (by kernel_rfl) trivial (fun jW fQ => ?_)
  clear cH
  refine At.done rfl ?_
  refine t_n ?_
  refine wp_seq ?_
  refine wp_seq ?_
  refine At.start ?_
  refine At.rd fQ 1 [[]] [(18, .int .i64 (0))] [] (by kernel_rfl) trivial (fun jX fR => ?_)
  clear fQ
  refine At.done rfl ?_
  refine t_n ?_
  refine wp_block ?_
  have fS := fR.sub (r := [(18, .int .i64 (0)), (17, .bool false), (16, .int .i64 (i_)), (15, .int .i64 (t)), (14, .slice aB (((r.ah ++ r.ro) ++ ([gI r.ro 0])).length) aE), (12, .pointer (some ⟨aA.heap.size, 0, none⟩)), (5, .pointer (some ⟨w.heap.size, 0, none⟩)), (2, .int .i64 (p)), (3, .slice Am lm.length cm)]) ⟨rfl, rfl, rfl, rfl, rfl, rfl, rfl, rfl, rfl, trivial⟩
  refine loop_g (fun (m_ : Nat) a_ w_ => ∃ (k : Int) (gs : Bool), m_ = (((gL g.mv (gI (r.ah ++ r.ro ++ [gI r.ro 0]) i_)).length : Int) - k).toNat ∧ (Frm 171 a_ [(18, .int .i64 (k)), (17, .bool (gs)), (16, .int .i64 (i_)), (15, .int .i64 (t)), (14, .slice aB (((r.ah ++ r.ro) ++ ([gI r.ro 0])).length) aE), (12, .pointer (some ⟨aA.heap.size, 0, none⟩)), (5, .pointer (some ⟨w.heap.size, 0, none⟩)), (2, .int .i64 (p)), (3, .slice Am lm.length cm)]) ∧ (Ext w w_) ∧ (RdG w_ 0 w.heap.size Ag0 Ag1 Ag2 cg0 cg1 cg2 g) ∧ (RdI w_ 0 w.heap.size Am lm) ∧ (RdI w_ 0 w.heap.size As ls) ∧ (Bx w_ (w.heap.size) [.slice Ag0 g.ow.length cg0, .slice Ag1 g.pr.length cg1, .slice Ag2 g.mv.length cg2] 25) ∧ (OwnR w_ (Sx (aW.heap.size) [obk (aB), some (aA.heap.size), obk (aC)]) aD aI 3 (r.ah : List Int)) ∧ (OwnR w_ (Sx (aW.heap.size) [obk (aB), some (aA.heap.size), obk (aD)]) aC aJ 3 (r.ro : List Int)) ∧ (Bx w_ (aA.heap.size) [.slice aD r.ah.length aI, .slice aC r.ro.length aJ, .int .i64 (r.win)] 29) ∧ (OwnR w_ (Sx (aV.heap.size) [obk (aD), obk (aC)]) aB aE 3 ((r.ah ++ r.ro) ++ ([gI r.ro 0]) : List Int)) ∧ (0 ≤ k) ∧ (k ≤ ((gL g.mv (gI (r.ah ++ r.ro ++ [gI r.ro 0]) i_)).length : Int)) ∧ (gs = decide (gI (r.ah ++ r.ro ++ [gI r.ro 0]) (i_ + 1) ∈ (gL g.mv (gI (r.ah ++ r.ro ++ [gI r.ro 0]) i_)).take k.toNat)) ∧ (aW.heap.size ≤ w_.heap.size) ∧ (aV.heap.size ≤ w_.heap.size)) _ ⟨0, false, rfl, fS, cQ, fN, fO, fP, cR, dS, dT, cG, dU, (by omega), (Int.natCast_nonneg _), (by simp), (by omega), (by omega)⟩ ?_
  clear fS fR; clear fN; clear fO; clear fP; clear cR; clear dS; clear dT; clear cG; clear dU; clear cQ
  intro m_ jY dW ⟨k, gs, hm243, fT, aQ, aL, aR, aS, aH, aT, aU, aP, aG, i253, i254, hgs, i255, i256⟩
  have := aQ.size; have := aH.lt; have := aP.lt
  refine wp_seq ?_
  refine wp_seq ?_
  obtain ⟨cS, hB, jZ, hC, kA⟩ := aG.get (i_) (by omega) (by omega) (sz := 1) rfl
  obtain ⟨cT, dX, dY, hD, _, _, hE, kB, cU⟩ := RdII.get aL.mv (gI ((r.ah ++ r.ro) ++ ([gI r.ro 0])) i_) (by omega) (by omega)
  have kC := cU.len
  refine drawn_ro fT (by kernel_rfl) (by kernel_rfl) [[], [], [.ld (.slice Ag2 g.mv.length cg2)], [], [], [.ad cS], [.ld (.int .i64 (gI ((r.ah ++ r.ro) ++ ([gI r.ro 0])) i_))], [.ad cT], [.ld (.slice dX ((gL g.mv (gI ((r.ah ++ r.ro) ++ ([gI r.ro 0])) i_)).length) dY)], [], []] [(99, .bool (decide ((k : Int) < (((gL g.mv (gI ((r.ah ++ r.ro) ++ ([gI r.ro 0])) i_)).length : Nat) : Int)))), (98, .int .i64 ((((gL g.mv (gI ((r.ah ++ r.ro) ++ ([gI r.ro 0])) i_)).length : Nat) : Int))), (97, .slice dX ((gL g.mv (gI ((r.ah ++ r.ro) ++ ([gI r.ro 0])) i_)).length) dY), (96, .pointer (some (cT.add ((gI ((r.ah ++ r.ro) ++ ([gI r.ro 0])) i_ : Int).toNat * 1)))), (95, .int .i64 (gI ((r.ah ++ r.ro) ++ ([gI r.ro 0])) i_)), (94, .pointer (some (cS.add ((i_ : Int).toNat * 1)))), (93, .int .i64 (i_)), (92, .slice aB (((r.ah ++ r.ro) ++ ([gI r.ro 0])).length) aE), (91, .slice Ag2 g.mv.length cg2), (90, .pointer (some ⟨w.heap.size, 2, none⟩)), (89, .int .i64 (k))] [(dW.cell? ⟨w.heap.size, 2, none⟩ = some (.slice Ag2 g.mv.length cg2)), (aB = some cS), (0 ≤ (i_ : Int)), ((i_ : Int) < (((r.ah ++ r.ro) ++ ([gI r.ro 0])).length : Nat)), (dW.cell? (cS.add ((i_ : Int).toNat * 1)) = some (.int .i64 (gI ((r.ah ++ r.ro) ++ ([gI r.ro 0])) i_))), (Ag2 = some cT), (0 ≤ (gI ((r.ah ++ r.ro) ++ ([gI r.ro 0])) i_ : Int)), ((gI ((r.ah ++ r.ro) ++ ([gI r.ro 0])) i_ : Int) < (g.mv.length : Nat)), (dW.cell? (cT.add ((gI ((r.ah ++ r.ro) ++ ([gI r.ro 0])) i_ : Int).toNat * 1)) = some (.slice dX ((gL g.mv (gI ((r.ah ++ r.ro) ++ ([gI r.ro 0])) i_)).length) dY))] (by kernel_rfl) ⟨(aH.cell (i := 2) rfl), hB, (by omega), (by omega), hC, hD, (by omega), (by omega), hE, trivial⟩ (fun kD aX fU bT => ?_)
  clear fT; have bA := gr_drew fU; have := bA.size; replace aQ := aQ.gn bA; replace aL := aL.gn bA; replace aR := aR.gn bA; replace aS := aS.gn bA; replace aH := aH.gn bA; replace aT := aT.gn bA; replace aU := aU.gn bA; replace aP := aP.gn bA; replace aG := aG.gn bA; replace cU := cU.gn bA; clear bA fU
  refine t_n ?_
  clear cU
  refine cond_S bT (t := decide ((k : Int) < (((gL g.mv (gI ((r.ah ++ r.ro) ++ ([gI r.ro 0])) i_)).length : Nat) : Int))) rfl (fun dZ => ?_) (fun dZ => ?_)
  ·have kE := of_decide_eq_true dZ
   refine wp_skip ?_
   refine t_n ?_
   refine wp_seq ?_
   refine wp_block ?_
   rcases Bool.eq_false_or_eq_true (gs) with eA | eA
   ·refine drawn_ro bT (by kernel_rfl) (by kernel_rfl) [[], [.as_ (.bool true)], [], [], [], [], [], [], [], [], [], [], [], [], [], [], [], [], [], [], []] [(17, .bool true), (121, .bool true), (120, undef), (119, undef), (118, undef), (117, undef), (116, undef), (115, undef), (114, undef), (113, undef), (112, undef), (111, undef), (110, undef), (109, undef), (108, undef), (107, undef), (106, undef), (105, undef), (104, undef), (103, .bool true), (102, .bool (gs))] [((.bool (gs) : Value) = .bool true)] (by kernel_rfl) ⟨(congrArg Value.bool eA), trivial⟩ (fun kF kG fV fW => ?_)
    clear bT; have bK := gr_drew fV; have := bK.size; replace aQ := aQ.gn bK; replace aL := aL.gn bK; replace aR := aR.gn bK; replace aS := aS.gn bK; replace aH := aH.gn bK; replace aT := aT.gn bK; replace aU := aU.gn bK; replace aP := aP.gn bK; replace aG := aG.gn bK; clear bK fV
    refine b_n ?_
    refine t_n ?_
    have fX := fW.sub (r := [(17, .bool true), (18, .int .i64 (k)), (16, .int .i64 (i_)), (15, .int .i64 (t)), (14, .slice aB (((r.ah ++ r.ro) ++ ([gI r.ro 0])).length) aE), (12, .pointer (some ⟨aA.heap.size, 0, none⟩)), (5, .pointer (some ⟨w.heap.size, 0, none⟩)), (2, .int .i64 (p)), (3, .slice Am lm.length cm)]) ⟨rfl, rfl, rfl, rfl, rfl, rfl, rfl, rfl, rfl, trivial⟩
    clear fW
    refine At.start ?_
    refine At.rd fX 3 [[], [.as_ (.int .i64 (k + 1))], []] [(18, .int .i64 (k + 1)), (101, .int .i64 (k + 1)), (100, .int .i64 (k))] [((.int .i64 (IntKind.i64.wrap (k + 1)) : Value) = .int .i64 (k + 1))] (by kernel_rfl) ⟨(w64 (by omega) (by omega)), trivial⟩ (fun kH hF => ?_)
    clear fX
    refine At.done rfl ?_
    refine t_n ?_
    have hH := hF.sub (r := [(18, .int .i64 (k + 1)), (17, .bool true), (16, .int .i64 (i_)), (15, .int .i64 (t)), (14, .slice aB (((r.ah ++ r.ro) ++ ([gI r.ro 0])).length) aE), (12, .pointer (some ⟨aA.heap.size, 0, none⟩)), (5, .pointer (some ⟨w.heap.size, 0, none⟩)), (2, .int .i64 (p)), (3, .slice Am lm.length cm)]) ⟨rfl, rfl, rfl, rfl, rfl, rfl, rfl, rfl, rfl, trivial⟩
    exact ⟨_, (by omega), (k + 1), true, rfl, hH, aQ, aL, aR, aS, aH, aT, aU, aP, aG, (by omega), (by omega), (by rw [← in_next hgs (by omega) (by omega)]; simp_all), (by omega), (by omega)⟩
   obtain ⟨cV, hI, kI, hJ, kJ⟩ := aG.get (i_) (by omega) (by omega) (sz := 1) rfl
   obtain ⟨cW, cX, eB, hK, _, _, hL, kK, cY⟩ := RdII.get aL.mv (gI ((r.ah ++ r.ro) ++ ([gI r.ro 0])) i_) (by omega) (by omega)
   have kL := cY.len
   obtain ⟨cZ, hM, _, _, hN⟩ := RdI.get cY (k) (by omega) (by omega)
   obtain ⟨dA, hO, kM, hP, kN⟩ := aG.get (i_ + 1) (by omega) (by omega) (sz := 1) rfl
   refine drawn_ro bT (by kernel_rfl) (by kernel_rfl) [[], [.as_ (.bool false)], [], [.ld (.slice Ag2 g.mv.length cg2)], [], [], [.ad cV], [.ld (.int .i64 (gI ((r.ah ++ r.ro) ++ ([gI r.ro 0])) i_))], [.ad cW], [.ld (.slice cX ((gL g.mv (gI ((r.ah ++ r.ro) ++ ([gI r.ro 0])) i_)).length) eB)], [], [.ad cZ], [.ld (.int .i64 (gI (gL g.mv (gI ((r.ah ++ r.ro) ++ ([gI r.ro 0])) i_)) (k)))], [], [], [.as_ (.int .i64 (i_ + 1))], [.ad dA], [.ld (.int .i64 (gI ((r.ah ++ r.ro) ++ ([gI r.ro 0])) (i_ + 1)))], [], [], []] [(17, .bool ((gI (gL g.mv (gI ((r.ah ++ r.ro) ++ ([gI r.ro 0])) i_)) (k) : Int) == (gI ((r.ah ++ r.ro) ++ ([gI r.ro 0])) (i_ + 1)))), (121, .bool ((gI (gL g.mv (gI ((r.ah ++ r.ro) ++ ([gI r.ro 0])) i_)) (k) : Int) == (gI ((r.ah ++ r.ro) ++ ([gI r.ro 0])) (i_ + 1)))), (120, .bool ((gI (gL g.mv (gI ((r.ah ++ r.ro) ++ ([gI r.ro 0])) i_)) (k) : Int) == (gI ((r.ah ++ r.ro) ++ ([gI r.ro 0])) (i_ + 1)))), (119, .int .i64 (gI ((r.ah ++ r.ro) ++ ([gI r.ro 0])) (i_ + 1))), (118, .pointer (some (dA.add ((i_ + 1 : Int).toNat * 1)))), (117, .int .i64 (i_ + 1)), (116, .int .i64 (i_)), (115, .slice aB (((r.ah ++ r.ro) ++ ([gI r.ro 0])).length) aE), (114, .int .i64 (gI (gL g.mv (gI ((r.ah ++ r.ro) ++ ([gI r.ro 0])) i_)) (k))), (113, .pointer (some (cZ.add ((k : Int).toNat * 1)))), (112, .int .i64 (k)), (111, .slice cX ((gL g.mv (gI ((r.ah ++ r.ro) ++ ([gI r.ro 0])) i_)).length) eB), (110, .pointer (some (cW.add ((gI ((r.ah ++ r.ro) ++ ([gI r.ro 0])) i_ : Int).toNat * 1)))), (109, .int .i64 (gI ((r.ah ++ r.ro) ++ ([gI r.ro 0])) i_)), (108, .pointer (some (cV.add ((i_ : Int).toNat * 1)))), (107, .int .i64 (i_)), (106, .slice aB (((r.ah ++ r.ro) ++ ([gI r.ro 0])).length) aE), (105, .slice Ag2 g.mv.length cg2), (104, .pointer (some ⟨w.heap.size, 2, none⟩)), (103, .bool false), (102, .bool (gs))] [((.bool (gs) : Value) = .bool false), (aX.cell? ⟨w.heap.size, 2, none⟩ = some (.slice Ag2 g.mv.length cg2)), (aB = some cV), (0 ≤ (i_ : Int)), ((i_ : Int) < (((r.ah ++ r.ro) ++ ([gI r.ro 0])).length : Nat)), (aX.cell? (cV.add ((i_ : Int).toNat * 1)) = some (.int .i64 (gI ((r.ah ++ r.ro) ++ ([gI r.ro 0])) i_))), (Ag2 = some cW), (0 ≤ (gI ((r.ah ++ r.ro) ++ ([gI r.ro 0])) i_ : Int)), ((gI ((r.ah ++ r.ro) ++ ([gI r.ro 0])) i_ : Int) < (g.mv.length : Nat)), (aX.cell? (cW.add ((gI ((r.ah ++ r.ro) ++ ([gI r.ro 0])) i_ : Int).toNat * 1)) = some (.slice cX ((gL g.mv (gI ((r.ah ++ r.ro) ++ ([gI r.ro 0])) i_)).length) eB)), (cX = some cZ), (0 ≤ (k : Int)), ((k : Int) < ((gL g.mv (gI ((r.ah ++ r.ro) ++ ([gI r.ro 0])) i_)).length : Nat)), (aX.cell? (cZ.add ((k : Int).toNat * 1)) = some (.int .i64 (gI (gL g.mv (gI ((r.ah ++ r.ro) ++ ([gI r.ro 0])) i_)) (k)))), ((.int .i64 (IntKind.i64.wrap (i_ + 1)) : Value) = .int .i64 (i_ + 1)), (aB = some dA), (0 ≤ (i_ + 1 : Int)), ((i_ + 1 : Int) < (((r.ah ++ r.ro) ++ ([gI r.ro 0])).length : Nat)), (aX.cell? (dA.add ((i_ + 1 : Int).toNat * 1)) = some (.int .i64 (gI ((r.ah ++ r.ro) ++ ([gI r.ro 0])) (i_ + 1))))] (by kernel_rfl) ⟨(congrArg Value.bool eA), (aH.cell (i := 2) rfl), hI, (by omega), (by omega), hJ, hK, (by omega), (by omega), hL, hM, (by omega), (by omega), hN, (w64 (by omega) (by omega)), hO, (by omega), (by omega), hP, trivial⟩ (fun kO kP fY fZ => ?_)
   clear bT; have bB := gr_drew fY; have := bB.size; replace aQ := aQ.gn bB; replace aL := aL.gn bB; replace aR := aR.gn bB; replace aS := aS.gn bB; replace aH := aH.gn bB; replace aT := aT.gn bB; replace aU := aU.gn bB; replace aP := aP.gn bB; replace aG := aG.gn bB; replace cY := cY.gn bB; clear bB fY
   refine b_n ?_
   refine t_n ?_
   refine At.start ?_
   refine At.rd fZ 3 [[], [.as_ (.int .i64 (k + 1))], []] [(18, .int .i64 (k + 1)), (101, .int .i64 (k + 1)), (100, .int .i64 (k))] [((.int .i64 (IntKind.i64.wrap (k + 1)) : Value) = .int .i64 (k + 1))] (by kernel_rfl) ⟨(w64 (by omega) (by omega)), trivial⟩ (fun kQ hQ => ?_)
   clear fZ
   refine At.done rfl ?_
   refine t_n ?_
   have hR := hQ.sub (r := [(18, .int .i64 (k + 1)), (17, .bool ((gI (gL g.mv (gI ((r.ah ++ r.ro) ++ ([gI r.ro 0])) i_)) (k) : Int) == (gI ((r.ah ++ r.ro) ++ ([gI r.ro 0])) (i_ + 1)))), (16, .int .i64 (i_)), (15, .int .i64 (t)), (14, .slice aB (((r.ah ++ r.ro) ++ ([gI r.ro 0])).length) aE), (12, .pointer (some ⟨aA.heap.size, 0, none⟩)), (5, .pointer (some ⟨w.heap.size, 0, none⟩)), (2, .int .i64 (p)), (3, .slice Am lm.length cm)]) ⟨rfl, rfl, rfl, rfl, rfl, rfl, rfl, rfl, rfl, trivial⟩
   exact ⟨_, (by omega), (k + 1), ((gI (gL g.mv (gI ((r.ah ++ r.ro) ++ ([gI r.ro 0])) i_)) (k) : Int) == (gI ((r.ah ++ r.ro) ++ ([gI r.ro 0])) (i_ + 1))), rfl, hR, aQ, aL, aR, aS, aH, aT, aU, aP, aG, (by omega), (by omega), (by rw [← in_next hgs (by omega) (by omega)]; simp_all), (by omega), (by omega)⟩
  have kR := of_decide_eq_false dZ
  refine wp_exit ?_
  refine t_e ?_
  refine t_e ?_
  refine b_e ?_
  refine t_n ?_
  refine wp_seq ?_
  refine wp_seq ?_
  have hin := in_end hgs (by omega) hg2.1; have hg3 := hg2.2
  obtain ⟨bC, gA, kS, gB, kT⟩ := aG.get (i_) (by omega) (by omega) (sz := 1) rfl
  obtain ⟨bD, gC, _, _, gD⟩ := RdI.get aL.ow (gI ((r.ah ++ r.ro) ++ ([gI r.ro 0])) i_) (by omega) (by omega)
  rcases Bool.eq_false_or_eq_true ((gI g.ow (gI ((r.ah ++ r.ro) ++ ([gI r.ro 0])) i_) : Int) == p) with cI | cI
  ·have kU := eq_of_beq cI
   obtain ⟨cA, hS, kV, hT, kW⟩ := aG.get (i_) (by omega) (by omega) (sz := 1) rfl
   obtain ⟨cB, hU, _, _, hV⟩ := RdI.get aR (gI ((r.ah ++ r.ro) ++ ([gI r.ro 0])) i_) (by omega) (by omega)
   obtain ⟨cC, hW, kX, hX, kY⟩ := aG.get (i_ + 1) (by omega) (by omega) (sz := 1) rfl
   refine drawn_ro bT (by kernel_rfl) (by kernel_rfl) [[], [.as_ (.bool false)], [], [], [.ld (.slice Ag0 g.ow.length cg0)], [], [], [.ad bC], [.ld (.int .i64 (gI ((r.ah ++ r.ro) ++ ([gI r.ro 0])) i_))], [.ad bD], [.ld (.int .i64 (gI g.ow (gI ((r.ah ++ r.ro) ++ ([gI r.ro 0])) i_)))], [], [], [.as_ (.bool true)], [], [], [], [.ad cA], [.ld (.int .i64 (gI ((r.ah ++ r.ro) ++ ([gI r.ro 0])) i_))], [.ad cB], [.ld (.int .i64 (gI lm (gI ((r.ah ++ r.ro) ++ ([gI r.ro 0])) i_)))], [], [], [.as_ (.int .i64 (i_ + 1))], [.ad cC], [.ld (.int .i64 (gI ((r.ah ++ r.ro) ++ ([gI r.ro 0])) (i_ + 1)))], [.as_ (.bool false)], [], []] [(150, .bool false), (149, .bool false), (148, .bool false), (147, .int .i64 (gI ((r.ah ++ r.ro) ++ ([gI r.ro 0])) (i_ + 1))), (146, .pointer (some (cC.add ((i_ + 1 : Int).toNat * 1)))), (145, .int .i64 (i_ + 1)), (144, .int .i64 (i_)), (143, .slice aB (((r.ah ++ r.ro) ++ ([gI r.ro 0])).length) aE), (142, .int .i64 (gI lm (gI ((r.ah ++ r.ro) ++ ([gI r.ro 0])) i_))), (141, .pointer (some (cB.add ((gI ((r.ah ++ r.ro) ++ ([gI r.ro 0])) i_ : Int).toNat * 1)))), (140, .int .i64 (gI ((r.ah ++ r.ro) ++ ([gI r.ro 0])) i_)), (139, .pointer (some (cA.add ((i_ : Int).toNat * 1)))), (138, .int .i64 (i_)), (137, .slice aB (((r.ah ++ r.ro) ++ ([gI r.ro 0])).length) aE), (136, .slice Am lm.length cm), (135, .bool true), (134, .bool ((gI g.ow (gI ((r.ah ++ r.ro) ++ ([gI r.ro 0])) i_) : Int) == p)), (133, .int .i64 (p)), (132, .int .i64 (gI g.ow (gI ((r.ah ++ r.ro) ++ ([gI r.ro 0])) i_))), (131, .pointer (some (bD.add ((gI ((r.ah ++ r.ro) ++ ([gI r.ro 0])) i_ : Int).toNat * 1)))), (130, .int .i64 (gI ((r.ah ++ r.ro) ++ ([gI r.ro 0])) i_)), (129, .pointer (some (bC.add ((i_ : Int).toNat * 1)))), (128, .int .i64 (i_)), (127, .slice aB (((r.ah ++ r.ro) ++ ([gI r.ro 0])).length) aE), (126, .slice Ag0 g.ow.length cg0), (125, .pointer (some ⟨w.heap.size, 0, none⟩)), (124, .bool false), (123, .bool false), (122, .bool (gs))] [((.bool (!gs) : Value) = .bool false), (aX.cell? ⟨w.heap.size, 0, none⟩ = some (.slice Ag0 g.ow.length cg0)), (aB = some bC), (0 ≤ (i_ : Int)), ((i_ : Int) < (((r.ah ++ r.ro) ++ ([gI r.ro 0])).length : Nat)), (aX.cell? (bC.add ((i_ : Int).toNat * 1)) = some (.int .i64 (gI ((r.ah ++ r.ro) ++ ([gI r.ro 0])) i_))), (Ag0 = some bD), (0 ≤ (gI ((r.ah ++ r.ro) ++ ([gI r.ro 0])) i_ : Int)), ((gI ((r.ah ++ r.ro) ++ ([gI r.ro 0])) i_ : Int) < (g.ow.length : Nat)), (aX.cell? (bD.add ((gI ((r.ah ++ r.ro) ++ ([gI r.ro 0])) i_ : Int).toNat * 1)) = some (.int .i64 (gI g.ow (gI ((r.ah ++ r.ro) ++ ([gI r.ro 0])) i_)))), ((.bool ((gI g.ow (gI ((r.ah ++ r.ro) ++ ([gI r.ro 0])) i_) : Int) == p) : Value) = .bool true), (aB = some cA), (0 ≤ (i_ : Int)), ((i_ : Int) < (((r.ah ++ r.ro) ++ ([gI r.ro 0])).length : Nat)), (aX.cell? (cA.add ((i_ : Int).toNat * 1)) = some (.int .i64 (gI ((r.ah ++ r.ro) ++ ([gI r.ro 0])) i_))), (Am = some cB), (0 ≤ (gI ((r.ah ++ r.ro) ++ ([gI r.ro 0])) i_ : Int)), ((gI ((r.ah ++ r.ro) ++ ([gI r.ro 0])) i_ : Int) < (lm.length : Nat)), (aX.cell? (cB.add ((gI ((r.ah ++ r.ro) ++ ([gI r.ro 0])) i_ : Int).toNat * 1)) = some (.int .i64 (gI lm (gI ((r.ah ++ r.ro) ++ ([gI r.ro 0])) i_)))), ((.int .i64 (IntKind.i64.wrap (i_ + 1)) : Value) = .int .i64 (i_ + 1)), (aB = some cC), (0 ≤ (i_ + 1 : Int)), ((i_ + 1 : Int) < (((r.ah ++ r.ro) ++ ([gI r.ro 0])).length : Nat)), (aX.cell? (cC.add ((i_ + 1 : Int).toNat * 1)) = some (.int .i64 (gI ((r.ah ++ r.ro) ++ ([gI r.ro 0])) (i_ + 1)))), ((.bool ((gI lm (gI ((r.ah ++ r.ro) ++ ([gI r.ro 0])) i_) : Int) != (gI ((r.ah ++ r.ro) ++ ([gI r.ro 0])) (i_ + 1))) : Value) = .bool false)] (by kernel_rfl) ⟨(congrArg Value.bool (by rw [hin]; rfl)), (aH.cell (i := 0) rfl), gA, (by omega), (by omega), gB, gC, (by omega), (by omega), gD, (congrArg Value.bool cI), hS, (by omega), (by omega), hT, hU, (by omega), (by omega), hV, (w64 (by omega) (by omega)), hW, (by omega), (by omega), hX, (congrArg Value.bool (pneF (hg3 (by omega)).2)), trivial⟩ (fun kZ dB gE gF => ?_)
   clear bT; have bL := gr_drew gE; have := bL.size; replace aQ := aQ.gn bL; replace aL := aL.gn bL; replace aR := aR.gn bL; replace aS := aS.gn bL; replace aH := aH.gn bL; replace aT := aT.gn bL; replace aU := aU.gn bL; replace aP := aP.gn bL; replace aG := aG.gn bL; clear bL gE
   refine t_n ?_
   have eC := gF.sub (r := [(150, .bool false), (149, .bool false), (148, .bool false), (147, .int .i64 (gI ((r.ah ++ r.ro) ++ ([gI r.ro 0])) (i_ + 1))), (146, .pointer (some (cC.add ((i_ + 1 : Int).toNat * 1)))), (145, .int .i64 (i_ + 1)), (144, .int .i64 (i_)), (143, .slice aB (((r.ah ++ r.ro) ++ ([gI r.ro 0])).length) aE), (142, .int .i64 (gI lm (gI ((r.ah ++ r.ro) ++ ([gI r.ro 0])) i_))), (141, .pointer (some (cB.add ((gI ((r.ah ++ r.ro) ++ ([gI r.ro 0])) i_ : Int).toNat * 1)))), (140, .int .i64 (gI ((r.ah ++ r.ro) ++ ([gI r.ro 0])) i_)), (139, .pointer (some (cA.add ((i_ : Int).toNat * 1)))), (138, .int .i64 (i_)), (137, .slice aB (((r.ah ++ r.ro) ++ ([gI r.ro 0])).length) aE), (136, .slice Am lm.length cm), (135, .bool true), (134, .bool ((gI g.ow (gI ((r.ah ++ r.ro) ++ ([gI r.ro 0])) i_) : Int) == p)), (133, .int .i64 (p)), (132, .int .i64 (gI g.ow (gI ((r.ah ++ r.ro) ++ ([gI r.ro 0])) i_))), (131, .pointer (some (bD.add ((gI ((r.ah ++ r.ro) ++ ([gI r.ro 0])) i_ : Int).toNat * 1)))), (130, .int .i64 (gI ((r.ah ++ r.ro) ++ ([gI r.ro 0])) i_)), (129, .pointer (some (bC.add ((i_ : Int).toNat * 1)))), (128, .int .i64 (i_)), (127, .slice aB (((r.ah ++ r.ro) ++ ([gI r.ro 0])).length) aE), (126, .slice Ag0 g.ow.length cg0), (125, .pointer (some ⟨w.heap.size, 0, none⟩)), (16, .int .i64 (i_)), (15, .int .i64 (t)), (14, .slice aB (((r.ah ++ r.ro) ++ ([gI r.ro 0])).length) aE), (12, .pointer (some ⟨aA.heap.size, 0, none⟩)), (5, .pointer (some ⟨w.heap.size, 0, none⟩)), (2, .int .i64 (p)), (3, .slice Am lm.length cm)]) ⟨rfl, rfl, rfl, rfl, rfl, rfl, rfl, rfl, rfl, rfl, rfl, rfl, rfl, rfl, rfl, rfl, rfl, rfl, rfl, rfl, rfl, rfl, rfl, rfl, rfl, rfl, rfl, rfl, rfl, rfl, rfl, rfl, rfl, trivial⟩
   clear gF
   refine cond_F eC rfl ?_
   refine wp_skip ?_
   refine t_n ?_
   refine wp_seq ?_
   refine At.start ?_
   refine At.rd eC 5 [[], [], [.ld (.slice aD r.ah.length aI)], [], []] [(155, .bool (decide ((i_ : Int) ≥ ((r.ah.length : Nat) : Int)))), (154, .int .i64 (((r.ah.length : Nat) : Int))), (153, .slice aD r.ah.length aI), (152, .pointer (some ⟨aA.heap.size, 0, none⟩)), (151, .int .i64 (i_))] [(dB.cell? ⟨aA.heap.size, 0, none⟩ = some (.slice aD r.ah.length aI))] (by kernel_rfl) ⟨(aP.cell (i := 0) rfl), trivial⟩ (fun lA cJ => ?_)
   clear eC
   refine At.done rfl ?_
   refine t_n ?_
   refine cond_S cJ (t := decide ((i_ : Int) ≥ ((r.ah.length : Nat) : Int))) rfl (fun eD => ?_) (fun eD => ?_)
   ·have lB := of_decide_eq_true eD
    obtain ⟨dC, hY, lC, hZ, lD⟩ := aG.get (i_) (by omega) (by omega) (sz := 1) rfl
    obtain ⟨dD, iA, _, _, iB⟩ := RdI.get aL.pr (gI ((r.ah ++ r.ro) ++ ([gI r.ro 0])) i_) (by omega) (by omega)
    refine drawn_ro cJ (by kernel_rfl) (by kernel_rfl) [[], [], [.ld (.slice Ag1 g.pr.length cg1)], [], [], [.ad dC], [.ld (.int .i64 (gI ((r.ah ++ r.ro) ++ ([gI r.ro 0])) i_))], [.ad dD], [.ld (.int .i64 (gI g.pr (gI ((r.ah ++ r.ro) ++ ([gI r.ro 0])) i_)))], [.as_ (.int .i64 (max t (gI g.pr (gI ((r.ah ++ r.ro) ++ ([gI r.ro 0])) i_))))], []] [(15, .int .i64 (max t (gI g.pr (gI ((r.ah ++ r.ro) ++ ([gI r.ro 0])) i_)))), (165, .int .i64 (max t (gI g.pr (gI ((r.ah ++ r.ro) ++ ([gI r.ro 0])) i_)))), (164, .int .i64 (gI g.pr (gI ((r.ah ++ r.ro) ++ ([gI r.ro 0])) i_))), (163, .pointer (some (dD.add ((gI ((r.ah ++ r.ro) ++ ([gI r.ro 0])) i_ : Int).toNat * 1)))), (162, .int .i64 (gI ((r.ah ++ r.ro) ++ ([gI r.ro 0])) i_)), (161, .pointer (some (dC.add ((i_ : Int).toNat * 1)))), (160, .int .i64 (i_)), (159, .slice aB (((r.ah ++ r.ro) ++ ([gI r.ro 0])).length) aE), (158, .slice Ag1 g.pr.length cg1), (157, .pointer (some ⟨w.heap.size, 1, none⟩)), (156, .int .i64 (t))] [(dB.cell? ⟨w.heap.size, 1, none⟩ = some (.slice Ag1 g.pr.length cg1)), (aB = some dC), (0 ≤ (i_ : Int)), ((i_ : Int) < (((r.ah ++ r.ro) ++ ([gI r.ro 0])).length : Nat)), (dB.cell? (dC.add ((i_ : Int).toNat * 1)) = some (.int .i64 (gI ((r.ah ++ r.ro) ++ ([gI r.ro 0])) i_))), (Ag1 = some dD), (0 ≤ (gI ((r.ah ++ r.ro) ++ ([gI r.ro 0])) i_ : Int)), ((gI ((r.ah ++ r.ro) ++ ([gI r.ro 0])) i_ : Int) < (g.pr.length : Nat)), (dB.cell? (dD.add ((gI ((r.ah ++ r.ro) ++ ([gI r.ro 0])) i_ : Int).toNat * 1)) = some (.int .i64 (gI g.pr (gI ((r.ah ++ r.ro) ++ ([gI r.ro 0])) i_)))), ((.int .i64 (if (gI g.pr (gI ((r.ah ++ r.ro) ++ ([gI r.ro 0])) i_)) > t then (gI g.pr (gI ((r.ah ++ r.ro) ++ ([gI r.ro 0])) i_)) else t) : Value) = .int .i64 (max t (gI g.pr (gI ((r.ah ++ r.ro) ++ ([gI r.ro 0])) i_))))] (by kernel_rfl) ⟨(aH.cell (i := 1) rfl), hY, (by omega), (by omega), hZ, iA, (by omega), (by omega), iB, (congrArg (Value.int .i64) (max_if _ _)), trivial⟩ (fun lE lF gG gH => ?_)
    clear cJ; have bM := gr_drew gG; have := bM.size; replace aQ := aQ.gn bM; replace aL := aL.gn bM; replace aR := aR.gn bM; replace aS := aS.gn bM; replace aH := aH.gn bM; replace aT := aT.gn bM; replace aU := aU.gn bM; replace aP := aP.gn bM; replace aG := aG.gn bM; clear bM gG
    refine b_n ?_
    refine t_n ?_
    have gJ := gH.sub (r := [(15, .int .i64 (max t (gI g.pr (gI ((r.ah ++ r.ro) ++ ([gI r.ro 0])) i_)))), (149, .bool false), (148, .bool false), (147, .int .i64 (gI ((r.ah ++ r.ro) ++ ([gI r.ro 0])) (i_ + 1))), (146, .pointer (some (cC.add ((i_ + 1 : Int).toNat * 1)))), (145, .int .i64 (i_ + 1)), (144, .int .i64 (i_)), (143, .slice aB (((r.ah ++ r.ro) ++ ([gI r.ro 0])).length) aE), (142, .int .i64 (gI lm (gI ((r.ah ++ r.ro) ++ ([gI r.ro 0])) i_))), (141, .pointer (some (cB.add ((gI ((r.ah ++ r.ro) ++ ([gI r.ro 0])) i_ : Int).toNat * 1)))), (140, .int .i64 (gI ((r.ah ++ r.ro) ++ ([gI r.ro 0])) i_)), (139, .pointer (some (cA.add ((i_ : Int).toNat * 1)))), (138, .int .i64 (i_)), (137, .slice aB (((r.ah ++ r.ro) ++ ([gI r.ro 0])).length) aE), (136, .slice Am lm.length cm), (135, .bool true), (134, .bool ((gI g.ow (gI ((r.ah ++ r.ro) ++ ([gI r.ro 0])) i_) : Int) == p)), (133, .int .i64 (p)), (132, .int .i64 (gI g.ow (gI ((r.ah ++ r.ro) ++ ([gI r.ro 0])) i_))), (131, .pointer (some (bD.add ((gI ((r.ah ++ r.ro) ++ ([gI r.ro 0])) i_ : Int).toNat * 1)))), (130, .int .i64 (gI ((r.ah ++ r.ro) ++ ([gI r.ro 0])) i_)), (129, .pointer (some (bC.add ((i_ : Int).toNat * 1)))), (128, .int .i64 (i_)), (127, .slice aB (((r.ah ++ r.ro) ++ ([gI r.ro 0])).length) aE), (126, .slice Ag0 g.ow.length cg0), (125, .pointer (some ⟨w.heap.size, 0, none⟩)), (16, .int .i64 (i_)), (14, .slice aB (((r.ah ++ r.ro) ++ ([gI r.ro 0])).length) aE), (12, .pointer (some ⟨aA.heap.size, 0, none⟩)), (5, .pointer (some ⟨w.heap.size, 0, none⟩)), (2, .int .i64 (p)), (3, .slice Am lm.length cm)]) ⟨rfl, rfl, rfl, rfl, rfl, rfl, rfl, rfl, rfl, rfl, rfl, rfl, rfl, rfl, rfl, rfl, rfl, rfl, rfl, rfl, rfl, rfl, rfl, rfl, rfl, rfl, rfl, rfl, rfl, rfl, rfl, rfl, trivial⟩
    clear gH
    refine At.start ?_
    refine At.rd gJ 3 [[], [.as_ (.int .i64 (i_ + 1))], []] [(16, .int .i64 (i_ + 1)), (88, .int .i64 (i_ + 1)), (87, .int .i64 (i_))] [((.int .i64 (IntKind.i64.wrap (i_ + 1)) : Value) = .int .i64 (i_ + 1))] (by kernel_rfl) ⟨(w64 (by omega) (by omega)), trivial⟩ (fun lG iC => ?_)
    clear gJ
    refine At.done rfl ?_
    refine t_n ?_
    have iD := iC.sub (r := [(16, .int .i64 (i_ + 1)), (15, .int .i64 (max t (gI g.pr (gI ((r.ah ++ r.ro) ++ ([gI r.ro 0])) i_)))), (14, .slice aB (((r.ah ++ r.ro) ++ ([gI r.ro 0])).length) aE), (12, .pointer (some ⟨aA.heap.size, 0, none⟩)), (5, .pointer (some ⟨w.heap.size, 0, none⟩)), (2, .int .i64 (p)), (3, .slice Am lm.length cm)]) ⟨rfl, rfl, rfl, rfl, rfl, rfl, rfl, trivial⟩
    exact ⟨_, (by omega), (i_ + 1), max t (gI g.pr (gI ((r.ah ++ r.ro) ++ ([gI r.ro 0])) i_)), rfl, iD, aQ, aL, aR, aS, aH, aT, aU, aP, aG, (by omega), (by omega), (by first | exact topT_in ht (by omega) (by omega) (by unfold goL; omega) | exact topT_out ht (by omega) (by omega)), (by omega), (by omega)⟩
   have lH := of_decide_eq_false eD
   refine wp_skip ?_
   refine b_n ?_
   refine t_n ?_
   refine At.start ?_
   refine At.rd cJ 3 [[], [.as_ (.int .i64 (i_ + 1))], []] [(16, .int .i64 (i_ + 1)), (88, .int .i64 (i_ + 1)), (87, .int .i64 (i_))] [((.int .i64 (IntKind.i64.wrap (i_ + 1)) : Value) = .int .i64 (i_ + 1))] (by kernel_rfl) ⟨(w64 (by omega) (by omega)), trivial⟩ (fun lI iE => ?_)
   clear cJ
   refine At.done rfl ?_
   refine t_n ?_
   have iF := iE.sub (r := [(16, .int .i64 (i_ + 1)), (15, .int .i64 (t)), (14, .slice aB (((r.ah ++ r.ro) ++ ([gI r.ro 0])).length) aE), (12, .pointer (some ⟨aA.heap.size, 0, none⟩)), (5, .pointer (some ⟨w.heap.size, 0, none⟩)), (2, .int .i64 (p)), (3, .slice Am lm.length cm)]) ⟨rfl, rfl, rfl, rfl, rfl, rfl, rfl, trivial⟩
   exact ⟨_, (by omega), (i_ + 1), t, rfl, iF, aQ, aL, aR, aS, aH, aT, aU, aP, aG, (by omega), (by omega), (by first | exact topT_in ht (by omega) (by omega) (by unfold goL; omega) | exact topT_out ht (by omega) (by omega)), (by omega), (by omega)⟩
  have lJ := ne_of_beq_false cI
  refine drawn_ro bT (by kernel_rfl) (by kernel_rfl) [[], [.as_ (.bool false)], [], [], [.ld (.slice Ag0 g.ow.length cg0)], [], [], [.ad bC], [.ld (.int .i64 (gI ((r.ah ++ r.ro) ++ ([gI r.ro 0])) i_))], [.ad bD], [.ld (.int .i64 (gI g.ow (gI ((r.ah ++ r.ro) ++ ([gI r.ro 0])) i_)))], [], [], [.as_ (.bool false)], [], [], [], [], [], [], [], [], [], [], [], [], [], [], []] [(150, .bool false), (149, .bool false), (148, undef), (147, undef), (146, undef), (145, undef), (144, undef), (143, undef), (142, undef), (141, undef), (140, undef), (139, undef), (138, undef), (137, undef), (136, undef), (135, .bool false), (134, .bool ((gI g.ow (gI ((r.ah ++ r.ro) ++ ([gI r.ro 0])) i_) : Int) == p)), (133, .int .i64 (p)), (132, .int .i64 (gI g.ow (gI ((r.ah ++ r.ro) ++ ([gI r.ro 0])) i_))), (131, .pointer (some (bD.add ((gI ((r.ah ++ r.ro) ++ ([gI r.ro 0])) i_ : Int).toNat * 1)))), (130, .int .i64 (gI ((r.ah ++ r.ro) ++ ([gI r.ro 0])) i_)), (129, .pointer (some (bC.add ((i_ : Int).toNat * 1)))), (128, .int .i64 (i_)), (127, .slice aB (((r.ah ++ r.ro) ++ ([gI r.ro 0])).length) aE), (126, .slice Ag0 g.ow.length cg0), (125, .pointer (some ⟨w.heap.size, 0, none⟩)), (124, .bool false), (123, .bool false), (122, .bool (gs))] [((.bool (!gs) : Value) = .bool false), (aX.cell? ⟨w.heap.size, 0, none⟩ = some (.slice Ag0 g.ow.length cg0)), (aB = some bC), (0 ≤ (i_ : Int)), ((i_ : Int) < (((r.ah ++ r.ro) ++ ([gI r.ro 0])).length : Nat)), (aX.cell? (bC.add ((i_ : Int).toNat * 1)) = some (.int .i64 (gI ((r.ah ++ r.ro) ++ ([gI r.ro 0])) i_))), (Ag0 = some bD), (0 ≤ (gI ((r.ah ++ r.ro) ++ ([gI r.ro 0])) i_ : Int)), ((gI ((r.ah ++ r.ro) ++ ([gI r.ro 0])) i_ : Int) < (g.ow.length : Nat)), (aX.cell? (bD.add ((gI ((r.ah ++ r.ro) ++ ([gI r.ro 0])) i_ : Int).toNat * 1)) = some (.int .i64 (gI g.ow (gI ((r.ah ++ r.ro) ++ ([gI r.ro 0])) i_)))), ((.bool ((gI g.ow (gI ((r.ah ++ r.ro) ++ ([gI r.ro 0])) i_) : Int) == p) : Value) = .bool false)] (by kernel_rfl) ⟨(congrArg Value.bool (by rw [hin]; rfl)), (aH.cell (i := 0) rfl), gA, (by omega), (by omega), gB, gC, (by omega), (by omega), gD, (congrArg Value.bool cI), trivial⟩ (fun lK dE gK gM => ?_)
  clear bT; have bN := gr_drew gK; have := bN.size; replace aQ := aQ.gn bN; replace aL := aL.gn bN; replace aR := aR.gn bN; replace aS := aS.gn bN; replace aH := aH.gn bN; replace aT := aT.gn bN; replace aU := aU.gn bN; replace aP := aP.gn bN; replace aG := aG.gn bN; clear bN gK
  refine t_n ?_
  have eE := gM.sub (r := [(150, .bool false), (149, .bool false), (135, .bool false), (134, .bool ((gI g.ow (gI ((r.ah ++ r.ro) ++ ([gI r.ro 0])) i_) : Int) == p)), (133, .int .i64 (p)), (132, .int .i64 (gI g.ow (gI ((r.ah ++ r.ro) ++ ([gI r.ro 0])) i_))), (131, .pointer (some (bD.add ((gI ((r.ah ++ r.ro) ++ ([gI r.ro 0])) i_ : Int).toNat * 1)))), (130, .int .i64 (gI ((r.ah ++ r.ro) ++ ([gI r.ro 0])) i_)), (129, .pointer (some (bC.add ((i_ : Int).toNat * 1)))), (128, .int .i64 (i_)), (127, .slice aB (((r.ah ++ r.ro) ++ ([gI r.ro 0])).length) aE), (126, .slice Ag0 g.ow.length cg0), (125, .pointer (some ⟨w.heap.size, 0, none⟩)), (16, .int .i64 (i_)), (15, .int .i64 (t)), (14, .slice aB (((r.ah ++ r.ro) ++ ([gI r.ro 0])).length) aE), (12, .pointer (some ⟨aA.heap.size, 0, none⟩)), (5, .pointer (some ⟨w.heap.size, 0, none⟩)), (2, .int .i64 (p)), (3, .slice Am lm.length cm)]) ⟨rfl, rfl, rfl, rfl, rfl, rfl, rfl, rfl, rfl, rfl, rfl, rfl, rfl, rfl, rfl, rfl, rfl, rfl, rfl, rfl, trivial⟩
  clear gM
  refine cond_F eE rfl ?_
  refine wp_skip ?_
  refine t_n ?_
  refine wp_seq ?_
  refine At.start ?_
  refine At.rd eE 5 [[], [], [.ld (.slice aD r.ah.length aI)], [], []] [(155, .bool (decide ((i_ : Int) ≥ ((r.ah.length : Nat) : Int)))), (154, .int .i64 (((r.ah.length : Nat) : Int))), (153, .slice aD r.ah.length aI), (152, .pointer (some ⟨aA.heap.size, 0, none⟩)), (151, .int .i64 (i_))] [(dE.cell? ⟨aA.heap.size, 0, none⟩ = some (.slice aD r.ah.length aI))] (by kernel_rfl) ⟨(aP.cell (i := 0) rfl), trivial⟩ (fun lL cK => ?_)
  clear eE
  refine At.done rfl ?_
  refine t_n ?_
  refine cond_S cK (t := decide ((i_ : Int) ≥ ((r.ah.length : Nat) : Int))) rfl (fun eF => ?_) (fun eF => ?_)
  ·have lM := of_decide_eq_true eF
   obtain ⟨dF, iG, lN, iH, lO⟩ := aG.get (i_) (by omega) (by omega) (sz := 1) rfl
   obtain ⟨dG, iI, _, _, iJ⟩ := RdI.get aL.pr (gI ((r.ah ++ r.ro) ++ ([gI r.ro 0])) i_) (by omega) (by omega)
   refine drawn_ro cK (by kernel_rfl) (by kernel_rfl) [[], [], [.ld (.slice Ag1 g.pr.length cg1)], [], [], [.ad dF], [.ld (.int .i64 (gI ((r.ah ++ r.ro) ++ ([gI r.ro 0])) i_))], [.ad dG], [.ld (.int .i64 (gI g.pr (gI ((r.ah ++ r.ro) ++ ([gI r.ro 0])) i_)))], [.as_ (.int .i64 (max t (gI g.pr (gI ((r.ah ++ r.ro) ++ ([gI r.ro 0])) i_))))], []] [(15, .int .i64 (max t (gI g.pr (gI ((r.ah ++ r.ro) ++ ([gI r.ro 0])) i_)))), (165, .int .i64 (max t (gI g.pr (gI ((r.ah ++ r.ro) ++ ([gI r.ro 0])) i_)))), (164, .int .i64 (gI g.pr (gI ((r.ah ++ r.ro) ++ ([gI r.ro 0])) i_))), (163, .pointer (some (dG.add ((gI ((r.ah ++ r.ro) ++ ([gI r.ro 0])) i_ : Int).toNat * 1)))), (162, .int .i64 (gI ((r.ah ++ r.ro) ++ ([gI r.ro 0])) i_)), (161, .pointer (some (dF.add ((i_ : Int).toNat * 1)))), (160, .int .i64 (i_)), (159, .slice aB (((r.ah ++ r.ro) ++ ([gI r.ro 0])).length) aE), (158, .slice Ag1 g.pr.length cg1), (157, .pointer (some ⟨w.heap.size, 1, none⟩)), (156, .int .i64 (t))] [(dE.cell? ⟨w.heap.size, 1, none⟩ = some (.slice Ag1 g.pr.length cg1)), (aB = some dF), (0 ≤ (i_ : Int)), ((i_ : Int) < (((r.ah ++ r.ro) ++ ([gI r.ro 0])).length : Nat)), (dE.cell? (dF.add ((i_ : Int).toNat * 1)) = some (.int .i64 (gI ((r.ah ++ r.ro) ++ ([gI r.ro 0])) i_))), (Ag1 = some dG), (0 ≤ (gI ((r.ah ++ r.ro) ++ ([gI r.ro 0])) i_ : Int)), ((gI ((r.ah ++ r.ro) ++ ([gI r.ro 0])) i_ : Int) < (g.pr.length : Nat)), (dE.cell? (dG.add ((gI ((r.ah ++ r.ro) ++ ([gI r.ro 0])) i_ : Int).toNat * 1)) = some (.int .i64 (gI g.pr (gI ((r.ah ++ r.ro) ++ ([gI r.ro 0])) i_)))), ((.int .i64 (if (gI g.pr (gI ((r.ah ++ r.ro) ++ ([gI r.ro 0])) i_)) > t then (gI g.pr (gI ((r.ah ++ r.ro) ++ ([gI r.ro 0])) i_)) else t) : Value) = .int .i64 (max t (gI g.pr (gI ((r.ah ++ r.ro) ++ ([gI r.ro 0])) i_))))] (by kernel_rfl) ⟨(aH.cell (i := 1) rfl), iG, (by omega), (by omega), iH, iI, (by omega), (by omega), iJ, (congrArg (Value.int .i64) (max_if _ _)), trivial⟩ (fun lP lQ gN gO => ?_)
   clear cK; have bO := gr_drew gN; have := bO.size; replace aQ := aQ.gn bO; replace aL := aL.gn bO; replace aR := aR.gn bO; replace aS := aS.gn bO; replace aH := aH.gn bO; replace aT := aT.gn bO; replace aU := aU.gn bO; replace aP := aP.gn bO; replace aG := aG.gn bO; clear bO gN
   refine b_n ?_
   refine t_n ?_
   have gP := gO.sub (r := [(15, .int .i64 (max t (gI g.pr (gI ((r.ah ++ r.ro) ++ ([gI r.ro 0])) i_)))), (149, .bool false), (135, .bool false), (134, .bool ((gI g.ow (gI ((r.ah ++ r.ro) ++ ([gI r.ro 0])) i_) : Int) == p)), (133, .int .i64 (p)), (132, .int .i64 (gI g.ow (gI ((r.ah ++ r.ro) ++ ([gI r.ro 0])) i_))), (131, .pointer (some (bD.add ((gI ((r.ah ++ r.ro) ++ ([gI r.ro 0])) i_ : Int).toNat * 1)))), (130, .int .i64 (gI ((r.ah ++ r.ro) ++ ([gI r.ro 0])) i_)), (129, .pointer (some (bC.add ((i_ : Int).toNat * 1)))), (128, .int .i64 (i_)), (127, .slice aB (((r.ah ++ r.ro) ++ ([gI r.ro 0])).length) aE), (126, .slice Ag0 g.ow.length cg0), (125, .pointer (some ⟨w.heap.size, 0, none⟩)), (16, .int .i64 (i_)), (14, .slice aB (((r.ah ++ r.ro) ++ ([gI r.ro 0])).length) aE), (12, .pointer (some ⟨aA.heap.size, 0, none⟩)), (5, .pointer (some ⟨w.heap.size, 0, none⟩)), (2, .int .i64 (p)), (3, .slice Am lm.length cm)]) ⟨rfl, rfl, rfl, rfl, rfl, rfl, rfl, rfl, rfl, rfl, rfl, rfl, rfl, rfl, rfl, rfl, rfl, rfl, rfl, trivial⟩
   clear gO
   refine At.start ?_
   refine At.rd gP 3 [[], [.as_ (.int .i64 (i_ + 1))], []] [(16, .int .i64 (i_ + 1)), (88, .int .i64 (i_ + 1)), (87, .int .i64 (i_))] [((.int .i64 (IntKind.i64.wrap (i_ + 1)) : Value) = .int .i64 (i_ + 1))] (by kernel_rfl) ⟨(w64 (by omega) (by omega)), trivial⟩ (fun lR iK => ?_)
   clear gP
   refine At.done rfl ?_
   refine t_n ?_
   have iL := iK.sub (r := [(16, .int .i64 (i_ + 1)), (15, .int .i64 (max t (gI g.pr (gI ((r.ah ++ r.ro) ++ ([gI r.ro 0])) i_)))), (14, .slice aB (((r.ah ++ r.ro) ++ ([gI r.ro 0])).length) aE), (12, .pointer (some ⟨aA.heap.size, 0, none⟩)), (5, .pointer (some ⟨w.heap.size, 0, none⟩)), (2, .int .i64 (p)), (3, .slice Am lm.length cm)]) ⟨rfl, rfl, rfl, rfl, rfl, rfl, rfl, trivial⟩
   exact ⟨_, (by omega), (i_ + 1), max t (gI g.pr (gI ((r.ah ++ r.ro) ++ ([gI r.ro 0])) i_)), rfl, iL, aQ, aL, aR, aS, aH, aT, aU, aP, aG, (by omega), (by omega), (by first | exact topT_in ht (by omega) (by omega) (by unfold goL; omega) | exact topT_out ht (by omega) (by omega)), (by omega), (by omega)⟩
  have lS := of_decide_eq_false eF
  refine wp_skip ?_
  refine b_n ?_
  refine t_n ?_
  refine At.start ?_
  refine At.rd cK 3 [[], [.as_ (.int .i64 (i_ + 1))], []] [(16, .int .i64 (i_ + 1)), (88, .int .i64 (i_ + 1)), (87, .int .i64 (i_))] [((.int .i64 (IntKind.i64.wrap (i_ + 1)) : Value) = .int .i64 (i_ + 1))] (by kernel_rfl) ⟨(w64 (by omega) (by omega)), trivial⟩ (fun lT iM => ?_)
  clear cK
  refine At.done rfl ?_
  refine t_n ?_
  have iN := iM.sub (r := [(16, .int .i64 (i_ + 1)), (15, .int .i64 (t)), (14, .slice aB (((r.ah ++ r.ro) ++ ([gI r.ro 0])).length) aE), (12, .pointer (some ⟨aA.heap.size, 0, none⟩)), (5, .pointer (some ⟨w.heap.size, 0, none⟩)), (2, .int .i64 (p)), (3, .slice Am lm.length cm)]) ⟨rfl, rfl, rfl, rfl, rfl, rfl, rfl, trivial⟩
  exact ⟨_, (by omega), (i_ + 1), t, rfl, iN, aQ, aL, aR, aS, aH, aT, aU, aP, aG, (by omega), (by omega), (by first | exact topT_in ht (by omega) (by omega) (by unfold goL; omega) | exact topT_out ht (by omega) (by omega)), (by omega), (by omega)⟩
 have lU := of_decide_eq_false dV
 refine wp_exit ?_
 refine t_e ?_
 refine t_e ?_
 refine b_e ?_
 refine t_n ?_
 clear cR; clear dU
 refine wp_seq ?_
 have htt := topT_end ht (by omega) (by unfold goL; omega); have htg := top_ge g r.ro
 refine At.start ?_
 refine At.rd cH 6 [[], [.ld (.int .i64 (r.win))], [], [.as_ (.int .i64 ((t : Int) % 2))], [.as_ (.bool true)], []] [(10, .bool true), (170, .bool true), (169, .int .i64 ((t : Int) % 2)), (168, .int .i64 (t)), (167, .int .i64 (r.win)), (166, .pointer (some ⟨aA.heap.size, 2, none⟩))] [(hA.cell? ⟨aA.heap.size, 2, none⟩ = some (.int .i64 (r.win))), ((2 : Int) ≠ 0), ((.int .i64 ((t : Int).tmod 2) : Value) = .int .i64 ((t : Int) % 2)), ((.bool ((r.win : Int) == ((t : Int) % 2)) : Value) = .bool true)] (by kernel_rfl) ⟨(cG.cell (i := 2) rfl), (by omega), (congrArg (Value.int .i64) (Int.tmod_eq_emod_of_nonneg (by omega))), (congrArg Value.bool (peqT (by rw [hg.win, htt]))), trivial⟩ (fun lV gQ => ?_)
 clear cH
 refine At.done rfl ?_
 refine t_n ?_
 clear dS; clear dT; clear cG; have iO := gQ.sub (r := [(10, .bool true)]) ⟨rfl, trivial⟩; clear gQ
 refine wp_ret ?_
 refine ret_ iO [] [.bool true] [] (by kernel_rfl) trivial ?_
 exact ⟨by first | rfl | (rw [hnil.1, hnil.2]; rfl) | (simp_all; done), cQ⟩

end Go.Proofs.Ytklbpajmoklheaa
