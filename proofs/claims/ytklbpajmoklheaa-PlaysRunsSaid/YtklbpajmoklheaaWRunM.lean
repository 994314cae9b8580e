/-
  A walk of a Go function, printed by a program of this repo. Conditions: what the theorems name.
-/
import Derived.Test.YtklbpajmoklheaaWNext
import Derived.Test.YtklbpajmoklheaaWTold
import Derived.Test.YtklbpajmoklheaaFmK
set_option linter.unusedVariables false
set_option linter.unusedSimpArgs false
namespace Go.Proofs.Ytklbpajmoklheaa
open Go Go.RowKit

set_option maxHeartbeats 4000000 in
theorem runM_any {Ag0 Ag1 Ag2 : Option Addr} {cg0 cg1 cg2 : Nat} {g : GameL} {Am : Option Addr} {cm : Nat} {lm : List Int} {As : Option Addr} {cs : Nat} {ls : List Int} {i p : Int} {w : World} (rg : RdG w 0 w.heap.size Ag0 Ag1 Ag2 cg0 cg1 cg2 g) (rm : RdI w 0 w.heap.size Am lm) (rs : RdI w 0 w.heap.size As ls) :
    Calls Try.prog 17 #[.agg #[.slice Ag0 g.ow.length cg0, .slice Ag1 g.pr.length cg1, .slice Ag2 g.mv.length cg2], .int .i64 (i), .int .i64 (p), .slice Am lm.length cm, .slice As ls.length cs] w fun e w' => ∃ (r : PlayR), RunT g i p lm ls r ∧ ∃ A0 c0 A1 c1, e = .returned (.tuple #[.agg #[.slice A0 (r.ah).length c0, .slice A1 (r.ro).length c1, .int .i64 (r.win)], .int .i64 (r.err)]) ∧ Ext w w' ∧ OwnR w' (Sx w.heap.size [obk A1]) A0 c0 3 (r.ah) ∧ OwnR w' (Sx w.heap.size [obk A0]) A1 c1 3 (r.ro) := by
 have hlg0 := rg.ow.len; have hlg1 := rg.pr.len; have hlg2 := rg.mv.len; have hkg0 := rg.k0; have hkg1 := rg.k1; have hkg2 := rg.k2; have hlm := rm.len; have hls := rs.len
 refine enter_ (args := [.agg #[.slice Ag0 g.ow.length cg0, .slice Ag1 g.pr.length cg1, .slice Ag2 g.mv.length cg2], .int .i64 (i), .int .i64 (p), .slice Am lm.length cm, .slice As ls.length cs]) Try.func17 rfl Try.ntmps17 (Nat.le_of_ble_eq_true rfl) (fun act0 f0 => ?_)
 have e0 : Ext w w := Ext.refl w
 refine wp_seq ?_
 refine At.start ?_
 refine At.seq f0 1 [[]] [(5, .pointer (some ⟨w.heap.size, 0, none⟩))] (w.alloc (.cells #[.slice Ag0 g.ow.length cg0, .slice Ag1 g.pr.length cg1, .slice Ag2 g.mv.length cg2] 25 (0, 0))) [] (by kernel_rfl) trivial (fun act4 w1 hw2 f3 => ?_)
 clear f0; have g5 := gr_alloc hw2; have := g5.size; replace e0 := e0.gn g5; have r8 := rg.gn g5; clear rg; have r9 := rm.gn g5; clear rm; have aC := rs.gn g5; clear rs; have aA : Bx w1 (w.heap.size) [.slice Ag0 g.ow.length cg0, .slice Ag1 g.pr.length cg1, .slice Ag2 g.mv.length cg2] 25 := Bx.new hw2; have := aA.lt; clear g5 hw2
 refine At.seq f3 1 [[]] [(10, .pointer (some ⟨w1.heap.size, 0, none⟩))] (w1.alloc (.cells #[.slice none 0 0, .slice none 0 0, .int .i64 (0)] 29 (0, 0))) [] (by kernel_rfl) trivial (fun iG dF dW eS => ?_)
 clear f3; have bZ := gr_alloc dW; have := bZ.size; replace e0 := e0.gn bZ; replace r8 := r8.gn bZ; replace r9 := r9.gn bZ; replace aC := aC.gn bZ; replace aA := aA.gn bZ; have aE : Bx dF (w1.heap.size) [.slice none 0 0, .slice none 0 0, .int .i64 (0)] 29 := Bx.new dW; have := aE.lt; clear bZ dW
 refine At.rd eS 1 [[]] [(11, .int .i64 (0))] [] (by kernel_rfl) trivial (fun iH eT => ?_)
 clear eS
 refine At.done rfl ?_
 refine t_n ?_
 refine wp_seq ?_
 refine At.start ?_
 refine At.rd eT 1 [[.ld (.slice Ag0 g.ow.length cg0), .ld (.slice Ag1 g.pr.length cg1), .ld (.slice Ag2 g.mv.length cg2)]] [(23, .agg #[.slice Ag0 g.ow.length cg0, .slice Ag1 g.pr.length cg1, .slice Ag2 g.mv.length cg2])] [(dF.cell? ⟨w.heap.size, 0, none⟩ = some (.slice Ag0 g.ow.length cg0)), (dF.cell? ⟨w.heap.size, 1, none⟩ = some (.slice Ag1 g.pr.length cg1)), (dF.cell? ⟨w.heap.size, 2, none⟩ = some (.slice Ag2 g.mv.length cg2))] (by kernel_rfl) ⟨(aA.cell (i := 0) rfl), (aA.cell (i := 1) rfl), (aA.cell (i := 2) rfl), trivial⟩ (fun iI eU => ?_)
 clear eT
 refine At.call eU 36 #[.agg #[.slice Ag0 g.ow.length cg0, .slice Ag1 g.pr.length cg1, .slice Ag2 g.mv.length cg2]] (some 24) (by kernel_rfl) (right_any (r8.wide (Nat.zero_le _) (by omega))) ?_
 rintro e_ aO ⟨rfl, he⟩
 refine ⟨_, rfl, _, rfl, fun iJ eV => ?_⟩
 clear eU; have bT := gr_ext he; have := bT.size; replace e0 := e0.gn bT; replace r8 := r8.gn bT; replace r9 := r9.gn bT; replace aC := aC.gn bT; replace aA := aA.gn bT; replace aE := aE.gn bT; clear bT he
 refine At.rd eV 5 [[], [], [], [], []] [(13, .int .i64 ((rightP g).2)), (12, .int .i64 ((rightP g).1)), (26, .int .i64 ((rightP g).2)), (25, .int .i64 ((rightP g).1)), (22, .tuple #[.int .i64 ((rightP g).1), .int .i64 ((rightP g).2)])] [] (by kernel_rfl) trivial (fun iK dX => ?_)
 clear eV
 refine At.done rfl ?_
 refine t_n ?_
 refine wp_seq (cut (fun a_ w_ => ∃ (As2 : Option Addr) (cs2 : Nat) (sc2 : List Int) (lo_ : Nat) (hi_ : Nat), (Frm 93 a_ [(4, .slice As2 sc2.length cs2), (10, .pointer (some ⟨w1.heap.size, 0, none⟩)), (5, .pointer (some ⟨w.heap.size, 0, none⟩)), (1, .int .i64 (i)), (2, .int .i64 (p)), (3, .slice Am lm.length cm)]) ∧ (Ext w w_) ∧ (RdG w_ 0 w.heap.size Ag0 Ag1 Ag2 cg0 cg1 cg2 g) ∧ (RdI w_ 0 w.heap.size Am lm) ∧ (RdI w_ 0 w.heap.size As ls) ∧ (Bx w_ (w.heap.size) [.slice Ag0 g.ow.length cg0, .slice Ag1 g.pr.length cg1, .slice Ag2 g.mv.length cg2] 25) ∧ (Bx w_ (w1.heap.size) [.slice none 0 0, .slice none 0 0, .int .i64 (0)] 29) ∧ (RdI w_ lo_ hi_ As2 sc2) ∧ (okP g i p) ∧ (ls.length ≤ 64) ∧ (sc2 = scN ls) ∧ (hi_ ≤ w_.heap.size) ∧ (w1.heap.size < lo_ ∨ hi_ ≤ w1.heap.size) ∧ (aO.heap.size ≤ w_.heap.size)) ?_ ?_)
 ·refine wp_block ?_
  refine wp_seq ?_
  refine wp_seq ?_
  refine At.start ?_
  refine At.rd dX 3 [[], [], []] [(27, .bool (((rightP g).2 : Int) != 0)), (29, .bool (((rightP g).2 : Int) != 0)), (28, .int .i64 ((rightP g).2))] [] (by kernel_rfl) trivial (fun iL cK => ?_)
  clear dX
  refine At.done rfl ?_
  refine t_n ?_
  refine cond_S cK (t := ((rightP g).2 : Int) != 0) rfl (fun dG => ?_) (fun dG => ?_)
  ·have iM := bne_iff_ne.1 dG
   refine wp_skip ?_
   refine t_n ?_
   refine cond_S cK (t := ((rightP g).2 : Int) != 0) rfl (fun hh => ?_) (fun hh => ?_)
   rotate_left
   · exact absurd (hh.symm.trans dG) (by decide)
   refine wp_seq ?_
   refine At.start ?_
   refine At.rd cK 1 [[]] [(43, .agg #[.slice none 0 0, .slice none 0 0, .int .i64 (0)])] [] (by kernel_rfl) trivial (fun iN eW => ?_)
   clear cK
   refine At.store eW (t := 29) (b := w1.heap.size) (off := 0) (v := .agg #[.slice none 0 0, .slice none 0 0, .int .i64 (0)]) (by kernel_rfl) aE (by kernel_rfl) (fun iO dH cA cQ eX => ?_)
   clear eW; replace cQ : Bx dH (w1.heap.size) [.slice none 0 0, .slice none 0 0, .int .i64 (0)] 29 := cQ; have := cA.size; replace e0 := e0.gr cA (fun k h => by injection h; omega); replace r8 := r8.gb cA (by omega); replace r9 := r9.gb cA (by omega); replace aC := aC.gb cA (by omega); replace aA := aA.gb cA (by omega); clear aE cA
   refine At.rd eX 1 [[]] [(11, .int .i64 (1))] [] (by kernel_rfl) trivial (fun iP eY => ?_)
   clear eX
   refine At.done rfl ?_
   refine t_n ?_
   have hH := eY.sub (r := [(11, .int .i64 (1)), (10, .pointer (some ⟨w1.heap.size, 0, none⟩))]) ⟨rfl, rfl, trivial⟩; clear eY
   refine wp_ret ?_
   refine b_r ?_
   refine t_r ?_
   refine ret_ hH [[.slice none 0 0, .slice none 0 0, .int .i64 (0)]] [.agg #[.slice none 0 0, .slice none 0 0, .int .i64 (0)], .int .i64 (1)] [(dH.cell? ⟨w1.heap.size, 0, none⟩ = some (.slice none 0 0)), (dH.cell? ⟨w1.heap.size, 1, none⟩ = some (.slice none 0 0)), (dH.cell? ⟨w1.heap.size, 2, none⟩ = some (.int .i64 (0)))] (by kernel_rfl) ⟨(cQ.cell (i := 0) rfl), (cQ.cell (i := 1) rfl), (cQ.cell (i := 2) rfl), trivial⟩ ?_
   exact ⟨⟨[], [], 0, 1⟩, .arg (by first | exact nok (by omega) | exact nok2 (by assumption)), none, 0, none, 0, rfl, e0, OwnR.nil, OwnR.nil⟩
  have iQ := bne_eq_false_iff_eq.1 dG
  refine wp_seq ?_
  refine At.start ?_
  refine At.rd cK 3 [[], [], []] [(27, .bool (decide ((i : Int) < 0))), (31, .bool (decide ((i : Int) < 0))), (30, .int .i64 (i))] [] (by kernel_rfl) trivial (fun iR cL => ?_)
  clear cK
  refine At.done rfl ?_
  refine t_n ?_
  refine cond_S cL (t := decide ((i : Int) < 0)) rfl (fun dI => ?_) (fun dI => ?_)
  ·have q63 := of_decide_eq_true dI
   refine wp_skip ?_
   refine t_n ?_
   refine cond_S cL (t := decide ((i : Int) < 0)) rfl (fun hh => ?_) (fun hh => ?_)
   rotate_left
   · exact absurd (hh.symm.trans dI) (by decide)
   refine wp_seq ?_
   refine At.start ?_
   refine At.rd cL 1 [[]] [(43, .agg #[.slice none 0 0, .slice none 0 0, .int .i64 (0)])] [] (by kernel_rfl) trivial (fun iS eZ => ?_)
   clear cL
   refine At.store eZ (t := 29) (b := w1.heap.size) (off := 0) (v := .agg #[.slice none 0 0, .slice none 0 0, .int .i64 (0)]) (by kernel_rfl) aE (by kernel_rfl) (fun iT dJ cB cR fA => ?_)
   clear eZ; replace cR : Bx dJ (w1.heap.size) [.slice none 0 0, .slice none 0 0, .int .i64 (0)] 29 := cR; have := cB.size; replace e0 := e0.gr cB (fun k h => by injection h; omega); replace r8 := r8.gb cB (by omega); replace r9 := r9.gb cB (by omega); replace aC := aC.gb cB (by omega); replace aA := aA.gb cB (by omega); clear aE cB
   refine At.rd fA 1 [[]] [(11, .int .i64 (1))] [] (by kernel_rfl) trivial (fun iU fB => ?_)
   clear fA
   refine At.done rfl ?_
   refine t_n ?_
   have hI := fB.sub (r := [(11, .int .i64 (1)), (10, .pointer (some ⟨w1.heap.size, 0, none⟩))]) ⟨rfl, rfl, trivial⟩; clear fB
   refine wp_ret ?_
   refine b_r ?_
   refine t_r ?_
   refine ret_ hI [[.slice none 0 0, .slice none 0 0, .int .i64 (0)]] [.agg #[.slice none 0 0, .slice none 0 0, .int .i64 (0)], .int .i64 (1)] [(dJ.cell? ⟨w1.heap.size, 0, none⟩ = some (.slice none 0 0)), (dJ.cell? ⟨w1.heap.size, 1, none⟩ = some (.slice none 0 0)), (dJ.cell? ⟨w1.heap.size, 2, none⟩ = some (.int .i64 (0)))] (by kernel_rfl) ⟨(cR.cell (i := 0) rfl), (cR.cell (i := 1) rfl), (cR.cell (i := 2) rfl), trivial⟩ ?_
   exact ⟨⟨[], [], 0, 1⟩, .arg (by first | exact nok (by omega) | exact nok2 (by assumption)), none, 0, none, 0, rfl, e0, OwnR.nil, OwnR.nil⟩
  have iV := of_decide_eq_false dI
  refine wp_seq ?_
  refine At.start ?_
  refine At.rd cL 6 [[], [], [.ld (.slice Ag0 g.ow.length cg0)], [], [], []] [(27, .bool (decide ((i : Int) ≥ ((g.ow.length : Nat) : Int)))), (36, .bool (decide ((i : Int) ≥ ((g.ow.length : Nat) : Int)))), (35, .int .i64 (((g.ow.length : Nat) : Int))), (34, .slice Ag0 g.ow.length cg0), (33, .pointer (some ⟨w.heap.size, 0, none⟩)), (32, .int .i64 (i))] [(aO.cell? ⟨w.heap.size, 0, none⟩ = some (.slice Ag0 g.ow.length cg0))] (by kernel_rfl) ⟨(aA.cell (i := 0) rfl), trivial⟩ (fun iW fC => ?_)
  clear cL
  refine At.done rfl ?_
  refine t_n ?_
  have bU := fC.sub (r := [(27, .bool (decide ((i : Int) ≥ ((g.ow.length : Nat) : Int)))), (11, .int .i64 (0)), (10, .pointer (some ⟨w1.heap.size, 0, none⟩)), (5, .pointer (some ⟨w.heap.size, 0, none⟩)), (1, .int .i64 (i)), (2, .int .i64 (p)), (3, .slice Am lm.length cm), (4, .slice As ls.length cs)]) ⟨rfl, rfl, rfl, rfl, rfl, rfl, rfl, rfl, trivial⟩
  clear fC
  refine cond_S bU (t := decide ((i : Int) ≥ ((g.ow.length : Nat) : Int))) rfl (fun dK => ?_) (fun dK => ?_)
  ·have iX := of_decide_eq_true dK
   refine wp_skip ?_
   refine t_n ?_
   refine cond_S bU (t := decide ((i : Int) ≥ ((g.ow.length : Nat) : Int))) rfl (fun hh => ?_) (fun hh => ?_)
   rotate_left
   · exact absurd (hh.symm.trans dK) (by decide)
   refine wp_seq ?_
   refine At.start ?_
   refine At.rd bU 1 [[]] [(43, .agg #[.slice none 0 0, .slice none 0 0, .int .i64 (0)])] [] (by kernel_rfl) trivial (fun iY fD => ?_)
   clear bU
   refine At.store fD (t := 29) (b := w1.heap.size) (off := 0) (v := .agg #[.slice none 0 0, .slice none 0 0, .int .i64 (0)]) (by kernel_rfl) aE (by kernel_rfl) (fun iZ dL cC cS fE => ?_)
   clear fD; replace cS : Bx dL (w1.heap.size) [.slice none 0 0, .slice none 0 0, .int .i64 (0)] 29 := cS; have := cC.size; replace e0 := e0.gr cC (fun k h => by injection h; omega); replace r8 := r8.gb cC (by omega); replace r9 := r9.gb cC (by omega); replace aC := aC.gb cC (by omega); replace aA := aA.gb cC (by omega); clear aE cC
   refine At.rd fE 1 [[]] [(11, .int .i64 (1))] [] (by kernel_rfl) trivial (fun jA hJ => ?_)
   clear fE
   refine At.done rfl ?_
   refine t_n ?_
   refine wp_ret ?_
   refine b_r ?_
   refine t_r ?_
   refine ret_ hJ [[.slice none 0 0, .slice none 0 0, .int .i64 (0)]] [.agg #[.slice none 0 0, .slice none 0 0, .int .i64 (0)], .int .i64 (1)] [(dL.cell? ⟨w1.heap.size, 0, none⟩ = some (.slice none 0 0)), (dL.cell? ⟨w1.heap.size, 1, none⟩ = some (.slice none 0 0)), (dL.cell? ⟨w1.heap.size, 2, none⟩ = some (.int .i64 (0)))] (by kernel_rfl) ⟨(cS.cell (i := 0) rfl), (cS.cell (i := 1) rfl), (cS.cell (i := 2) rfl), trivial⟩ ?_
   exact ⟨⟨[], [], 0, 1⟩, .arg (by first | exact nok (by omega) | exact nok2 (by assumption)), none, 0, none, 0, rfl, e0, OwnR.nil, OwnR.nil⟩
  have jB := of_decide_eq_false dK
  refine At.start ?_
  rcases Bool.eq_false_or_eq_true ((p : Int) != 0) with cT | cT
  ·have jC := bne_iff_ne.1 cT
   refine At.rd bU 7 [[], [], [.as_ (.bool true)], [], [], [], []] [(27, .bool ((p : Int) != 1)), (42, .bool ((p : Int) != 1)), (41, .bool ((p : Int) != 1)), (40, .int .i64 (p)), (39, .bool true), (38, .bool ((p : Int) != 0)), (37, .int .i64 (p))] [((.bool ((p : Int) != 0) : Value) = .bool true)] (by kernel_rfl) ⟨(congrArg Value.bool cT), trivial⟩ (fun jD cU => ?_)
   clear bU
   refine At.done rfl ?_
   refine t_n ?_
   refine cond_S cU (t := (p : Int) != 1) rfl (fun dY => ?_) (fun dY => ?_)
   ·have jE := bne_iff_ne.1 dY
    refine wp_seq ?_
    refine At.start ?_
    refine At.rd cU 1 [[]] [(43, .agg #[.slice none 0 0, .slice none 0 0, .int .i64 (0)])] [] (by kernel_rfl) trivial (fun jF fF => ?_)
    clear cU
    refine At.store fF (t := 29) (b := w1.heap.size) (off := 0) (v := .agg #[.slice none 0 0, .slice none 0 0, .int .i64 (0)]) (by kernel_rfl) aE (by kernel_rfl) (fun jG dM cD cV fG => ?_)
    clear fF; replace cV : Bx dM (w1.heap.size) [.slice none 0 0, .slice none 0 0, .int .i64 (0)] 29 := cV; have := cD.size; replace e0 := e0.gr cD (fun k h => by injection h; omega); replace r8 := r8.gb cD (by omega); replace r9 := r9.gb cD (by omega); replace aC := aC.gb cD (by omega); replace aA := aA.gb cD (by omega); clear aE cD
    refine At.rd fG 1 [[]] [(11, .int .i64 (1))] [] (by kernel_rfl) trivial (fun jH hK => ?_)
    clear fG
    refine At.done rfl ?_
    refine t_n ?_
    refine wp_ret ?_
    refine b_r ?_
    refine t_r ?_
    refine ret_ hK [[.slice none 0 0, .slice none 0 0, .int .i64 (0)]] [.agg #[.slice none 0 0, .slice none 0 0, .int .i64 (0)], .int .i64 (1)] [(dM.cell? ⟨w1.heap.size, 0, none⟩ = some (.slice none 0 0)), (dM.cell? ⟨w1.heap.size, 1, none⟩ = some (.slice none 0 0)), (dM.cell? ⟨w1.heap.size, 2, none⟩ = some (.int .i64 (0)))] (by kernel_rfl) ⟨(cV.cell (i := 0) rfl), (cV.cell (i := 1) rfl), (cV.cell (i := 2) rfl), trivial⟩ ?_
    exact ⟨⟨[], [], 0, 1⟩, .arg (by first | exact nok (by omega) | exact nok2 (by assumption)), none, 0, none, 0, rfl, e0, OwnR.nil, OwnR.nil⟩
   have jI := bne_eq_false_iff_eq.1 dY
   refine wp_seq ?_
   have hok : okP g i p := isok (by omega) (by omega) (by omega) (by omega)
   refine At.start ?_
   refine At.rd cU 4 [[], [], [], []] [(44, .bool (decide ((((ls.length : Nat) : Int) : Int) > 64))), (47, .bool (decide ((((ls.length : Nat) : Int) : Int) > 64))), (46, .int .i64 (((ls.length : Nat) : Int))), (45, .slice As ls.length cs)] [] (by kernel_rfl) trivial (fun jJ cW => ?_)
   clear cU
   refine At.done rfl ?_
   refine t_n ?_
   refine cond_S cW (t := decide ((((ls.length : Nat) : Int) : Int) > 64)) rfl (fun dZ => ?_) (fun dZ => ?_)
   ·have jK := of_decide_eq_true dZ
    refine wp_seq ?_
    refine At.start ?_
    refine At.rd cW 1 [[]] [(48, .agg #[.slice none 0 0, .slice none 0 0, .int .i64 (0)])] [] (by kernel_rfl) trivial (fun jL fH => ?_)
    clear cW
    refine At.store fH (t := 29) (b := w1.heap.size) (off := 0) (v := .agg #[.slice none 0 0, .slice none 0 0, .int .i64 (0)]) (by kernel_rfl) aE (by kernel_rfl) (fun jM dN cE cX fI => ?_)
    clear fH; replace cX : Bx dN (w1.heap.size) [.slice none 0 0, .slice none 0 0, .int .i64 (0)] 29 := cX; have := cE.size; replace e0 := e0.gr cE (fun k h => by injection h; omega); replace r8 := r8.gb cE (by omega); replace r9 := r9.gb cE (by omega); replace aC := aC.gb cE (by omega); replace aA := aA.gb cE (by omega); clear aE cE
    refine At.rd fI 1 [[]] [(11, .int .i64 (10))] [] (by kernel_rfl) trivial (fun jN fJ => ?_)
    clear fI
    refine At.done rfl ?_
    refine t_n ?_
    have hL := fJ.sub (r := [(11, .int .i64 (10)), (10, .pointer (some ⟨w1.heap.size, 0, none⟩))]) ⟨rfl, rfl, trivial⟩; clear fJ
    refine wp_ret ?_
    refine b_r ?_
    refine t_r ?_
    refine ret_ hL [[.slice none 0 0, .slice none 0 0, .int .i64 (0)]] [.agg #[.slice none 0 0, .slice none 0 0, .int .i64 (0)], .int .i64 (10)] [(dN.cell? ⟨w1.heap.size, 0, none⟩ = some (.slice none 0 0)), (dN.cell? ⟨w1.heap.size, 1, none⟩ = some (.slice none 0 0)), (dN.cell? ⟨w1.heap.size, 2, none⟩ = some (.int .i64 (0)))] (by kernel_rfl) ⟨(cX.cell (i := 0) rfl), (cX.cell (i := 1) rfl), (cX.cell (i := 2) rfl), trivial⟩ ?_
    exact ⟨⟨[], [], 0, 10⟩, .many hok (by omega), none, 0, none, 0, rfl, e0, OwnR.nil, OwnR.nil⟩
   have jO := of_decide_eq_false dZ
   refine wp_seq ?_
   refine At.start ?_
   refine At.rd cW 4 [[], [], [], []] [(49, .bool ((((ls.length : Nat) : Int) : Int) == 0)), (52, .bool ((((ls.length : Nat) : Int) : Int) == 0)), (51, .int .i64 (((ls.length : Nat) : Int))), (50, .slice As ls.length cs)] [] (by kernel_rfl) trivial (fun jP dO => ?_)
   clear cW
   refine At.done rfl ?_
   refine t_n ?_
   refine cond_S dO (t := (((ls.length : Nat) : Int) : Int) == 0) rfl (fun eA => ?_) (fun eA => ?_)
   ·have jQ := eq_of_beq eA
    refine At.start ?_
    refine At.seq dO 1 [[]] [(53, .slice (some ⟨aO.heap.size, 0, none⟩) 1 1)] (aO.alloc (.cells #[.int .i64 (0)] 3 (0, 0))) [] (by kernel_rfl) trivial (fun jR hM eB fK => ?_)
    clear dO; have bV := gr_alloc eB; have := bV.size; replace e0 := e0.gn bV; replace r8 := r8.gn bV; replace r9 := r9.gn bV; replace aC := aC.gn bV; replace aA := aA.gn bV; replace aE := aE.gn bV; have fL : Bx hM (aO.heap.size) [.int .i64 (0)] 3 := Bx.new eB; have := fL.lt; clear bV eB
    refine At.rd fK 1 [[]] [(4, .slice (some ⟨aO.heap.size, 0, none⟩) 1 1)] [] (by kernel_rfl) trivial (fun jS hN => ?_)
    clear fK
    refine At.done rfl ?_
    refine b_n ?_
    refine t_n ?_
    have hO := hN.sub (r := [(4, .slice (some ⟨aO.heap.size, 0, none⟩) 1 1), (10, .pointer (some ⟨w1.heap.size, 0, none⟩)), (5, .pointer (some ⟨w.heap.size, 0, none⟩)), (1, .int .i64 (i)), (2, .int .i64 (p)), (3, .slice Am lm.length cm)]) ⟨rfl, rfl, rfl, rfl, rfl, rfl, trivial⟩
    exact ⟨some ⟨aO.heap.size, 0, none⟩, 1, ([0] : List Int), aO.heap.size, (aO.heap.size + 1), hO, e0, r8, r9, aC, aA, aE, (Bx.rdI1 (l := [0]) fL rfl (by decide)), (by first | exact hok | exact isok (by omega) (by omega) (by omega) (by omega)), (by omega), (by first | exact scN_0 (by omega) | exact scN_1 (by omega)), (by omega), (by omega), (by omega)⟩
   have jT := ne_of_beq_false eA
   refine wp_skip ?_
   refine b_n ?_
   refine t_n ?_
   have hP := dO.sub (r := [(4, .slice As ls.length cs), (10, .pointer (some ⟨w1.heap.size, 0, none⟩)), (5, .pointer (some ⟨w.heap.size, 0, none⟩)), (1, .int .i64 (i)), (2, .int .i64 (p)), (3, .slice Am lm.length cm)]) ⟨rfl, rfl, rfl, rfl, rfl, rfl, trivial⟩
   exact ⟨As, cs, ls, 0, w.heap.size, hP, e0, r8, r9, aC, aA, aE, aC, (by first | exact hok | exact isok (by omega) (by omega) (by omega) (by omega)), (by omega), (by first | exact scN_0 (by omega) | exact scN_1 (by omega)), (by omega), (by omega), (by omega)⟩
  have jU := bne_eq_false_iff_eq.1 cT
  refine At.rd bU 7 [[], [], [.as_ (.bool false)], [], [], [], []] [(27, .bool false), (42, .bool false), (41, undef), (40, undef), (39, .bool false), (38, .bool ((p : Int) != 0)), (37, .int .i64 (p))] [((.bool ((p : Int) != 0) : Value) = .bool false)] (by kernel_rfl) ⟨(congrArg Value.bool cT), trivial⟩ (fun jV eC => ?_)
  clear bU
  refine At.done rfl ?_
  refine t_n ?_
  refine cond_F eC rfl ?_
  refine wp_seq ?_
  have hok : okP g i p := isok (by omega) (by omega) (by omega) (by omega)
  refine At.start ?_
  refine At.rd eC 4 [[], [], [], []] [(44, .bool (decide ((((ls.length : Nat) : Int) : Int) > 64))), (47, .bool (decide ((((ls.length : Nat) : Int) : Int) > 64))), (46, .int .i64 (((ls.length : Nat) : Int))), (45, .slice As ls.length cs)] [] (by kernel_rfl) trivial (fun jW cY => ?_)
  clear eC
  refine At.done rfl ?_
  refine t_n ?_
  refine cond_S cY (t := decide ((((ls.length : Nat) : Int) : Int) > 64)) rfl (fun eD => ?_) (fun eD => ?_)
  ·have jX := of_decide_eq_true eD
   refine wp_seq ?_
   refine At.start ?_
   refine At.rd cY 1 [[]] [(48, .agg #[.slice none 0 0, .slice none 0 0, .int .i64 (0)])] [] (by kernel_rfl) trivial (fun jY fM => ?_)
   clear cY
   refine At.store fM (t := 29) (b := w1.heap.size) (off := 0) (v := .agg #[.slice none 0 0, .slice none 0 0, .int .i64 (0)]) (by kernel_rfl) aE (by kernel_rfl) (fun jZ dP cF cZ fN => ?_)
   clear fM; replace cZ : Bx dP (w1.heap.size) [.slice none 0 0, .slice none 0 0, .int .i64 (0)] 29 := cZ; have := cF.size; replace e0 := e0.gr cF (fun k h => by injection h; omega); replace r8 := r8.gb cF (by omega); replace r9 := r9.gb cF (by omega); replace aC := aC.gb cF (by omega); replace aA := aA.gb cF (by omega); clear aE cF
   refine At.rd fN 1 [[]] [(11, .int .i64 (10))] [] (by kernel_rfl) trivial (fun kA fO => ?_)
   clear fN
   refine At.done rfl ?_
   refine t_n ?_
   have hQ := fO.sub (r := [(11, .int .i64 (10)), (10, .pointer (some ⟨w1.heap.size, 0, none⟩))]) ⟨rfl, rfl, trivial⟩; clear fO
   refine wp_ret ?_
   refine b_r ?_
   refine t_r ?_
   refine ret_ hQ [[.slice none 0 0, .slice none 0 0, .int .i64 (0)]] [.agg #[.slice none 0 0, .slice none 0 0, .int .i64 (0)], .int .i64 (10)] [(dP.cell? ⟨w1.heap.size, 0, none⟩ = some (.slice none 0 0)), (dP.cell? ⟨w1.heap.size, 1, none⟩ = some (.slice none 0 0)), (dP.cell? ⟨w1.heap.size, 2, none⟩ = some (.int .i64 (0)))] (by kernel_rfl) ⟨(cZ.cell (i := 0) rfl), (cZ.cell (i := 1) rfl), (cZ.cell (i := 2) rfl), trivial⟩ ?_
   exact ⟨⟨[], [], 0, 10⟩, .many hok (by omega), none, 0, none, 0, rfl, e0, OwnR.nil, OwnR.nil⟩
  have kB := of_decide_eq_false eD
  refine wp_seq ?_
  refine At.start ?_
  refine At.rd cY 4 [[], [], [], []] [(49, .bool ((((ls.length : Nat) : Int) : Int) == 0)), (52, .bool ((((ls.length : Nat) : Int) : Int) == 0)), (51, .int .i64 (((ls.length : Nat) : Int))), (50, .slice As ls.length cs)] [] (by kernel_rfl) trivial (fun kC dQ => ?_)
  clear cY
  refine At.done rfl ?_
  refine t_n ?_
  refine cond_S dQ (t := (((ls.length : Nat) : Int) : Int) == 0) rfl (fun eE => ?_) (fun eE => ?_)
  ·have kD := eq_of_beq eE
   refine At.start ?_
   refine At.seq dQ 1 [[]] [(53, .slice (some ⟨aO.heap.size, 0, none⟩) 1 1)] (aO.alloc (.cells #[.int .i64 (0)] 3 (0, 0))) [] (by kernel_rfl) trivial (fun kE hR eF fP => ?_)
   clear dQ; have bW := gr_alloc eF; have := bW.size; replace e0 := e0.gn bW; replace r8 := r8.gn bW; replace r9 := r9.gn bW; replace aC := aC.gn bW; replace aA := aA.gn bW; replace aE := aE.gn bW; have fQ : Bx hR (aO.heap.size) [.int .i64 (0)] 3 := Bx.new eF; have := fQ.lt; clear bW eF
   refine At.rd fP 1 [[]] [(4, .slice (some ⟨aO.heap.size, 0, none⟩) 1 1)] [] (by kernel_rfl) trivial (fun kF hS => ?_)
   clear fP
   refine At.done rfl ?_
   refine b_n ?_
   refine t_n ?_
   have hT := hS.sub (r := [(4, .slice (some ⟨aO.heap.size, 0, none⟩) 1 1), (10, .pointer (some ⟨w1.heap.size, 0, none⟩)), (5, .pointer (some ⟨w.heap.size, 0, none⟩)), (1, .int .i64 (i)), (2, .int .i64 (p)), (3, .slice Am lm.length cm)]) ⟨rfl, rfl, rfl, rfl, rfl, rfl, trivial⟩
   exact ⟨some ⟨aO.heap.size, 0, none⟩, 1, ([0] : List Int), aO.heap.size, (aO.heap.size + 1), hT, e0, r8, r9, aC, aA, aE, (Bx.rdI1 (l := [0]) fQ rfl (by decide)), (by first | exact hok | exact isok (by omega) (by omega) (by omega) (by omega)), (by omega), (by first | exact scN_0 (by omega) | exact scN_1 (by omega)), (by omega), (by omega), (by omega)⟩
  have kG := ne_of_beq_false eE
  refine wp_skip ?_
  refine b_n ?_
  refine t_n ?_
  have hU := dQ.sub (r := [(4, .slice As ls.length cs), (10, .pointer (some ⟨w1.heap.size, 0, none⟩)), (5, .pointer (some ⟨w.heap.size, 0, none⟩)), (1, .int .i64 (i)), (2, .int .i64 (p)), (3, .slice Am lm.length cm)]) ⟨rfl, rfl, rfl, rfl, rfl, rfl, trivial⟩
  exact ⟨As, cs, ls, 0, w.heap.size, hU, e0, r8, r9, aC, aA, aE, aC, (by first | exact hok | exact isok (by omega) (by omega) (by omega) (by omega)), (by omega), (by first | exact scN_0 (by omega) | exact scN_1 (by omega)), (by omega), (by omega), (by omega)⟩
 clear r8; clear r9; clear aC; clear aA; clear aE; clear dX e0
 intro kH aP ⟨As2, cs2, sc2, lo_, hi_, fR, bB, bH, bI, bJ, aQ, bC, bK, hok, eG, hsc, hhi, hrb, i218⟩
 have := bB.size; have := aQ.lt; have := bC.lt
 refine wp_seq ?_
 have hG := isR_ok hok.1; have hn1 := hG.n1; have hpl := hG.pl; have hml := hG.ml; have hi0 := hok.2.1; have hi1 := hok.2.2.1; have hscp : 0 < sc2.length := hsc ▸ scN_pos ls; have hsc6 : sc2.length ≤ 64 := hsc ▸ scN_le eG
 refine At.start ?_
 refine At.rd fR 5 [[.ld (.slice Ag0 g.ow.length cg0), .ld (.slice Ag1 g.pr.length cg1), .ld (.slice Ag2 g.mv.length cg2)], [], [], [], []] [(58, .agg #[.slice Ag0 g.ow.length cg0, .slice Ag1 g.pr.length cg1, .slice Ag2 g.mv.length cg2, .int .i64 (p), .slice Am lm.length cm, .slice As2 sc2.length cs2]), (57, .slice As2 sc2.length cs2), (56, .slice Am lm.length cm), (55, .int .i64 (p)), (54, .agg #[.slice Ag0 g.ow.length cg0, .slice Ag1 g.pr.length cg1, .slice Ag2 g.mv.length cg2])] [(aP.cell? ⟨w.heap.size, 0, none⟩ = some (.slice Ag0 g.ow.length cg0)), (aP.cell? ⟨w.heap.size, 1, none⟩ = some (.slice Ag1 g.pr.length cg1)), (aP.cell? ⟨w.heap.size, 2, none⟩ = some (.slice Ag2 g.mv.length cg2))] (by kernel_rfl) ⟨(aQ.cell (i := 0) rfl), (aQ.cell (i := 1) rfl), (aQ.cell (i := 2) rfl), trivial⟩ (fun kI fS => ?_)
 clear fR
 refine At.seq fS 1 [[]] [(59, .pointer (some ⟨aP.heap.size, 0, none⟩))] (aP.alloc (.cells #[.slice Ag0 g.ow.length cg0, .slice Ag1 g.pr.length cg1, .slice Ag2 g.mv.length cg2, .int .i64 (p), .slice Am lm.length cm, .slice As2 sc2.length cs2] 71 (0, 0))) [] (by kernel_rfl) trivial (fun kJ bD eH fT => ?_)
 clear fS; have bO := gr_alloc eH; have := bO.size; replace bB := bB.gn bO; replace bH := bH.gn bO; replace bI := bI.gn bO; replace bJ := bJ.gn bO; replace aQ := aQ.gn bO; replace bC := bC.gn bO; replace bK := bK.gn bO
 have bP : Bx bD (aP.heap.size) [.slice Ag0 g.ow.length cg0, .slice Ag1 g.pr.length cg1, .slice Ag2 g.mv.length cg2, .int .i64 (p), .slice Am lm.length cm, .slice As2 sc2.length cs2] 71 := Bx.new eH
 have := bP.lt; clear bO eH
 refine At.rd fT 1 [[]] [(14, .pointer (some ⟨aP.heap.size, 0, none⟩))] [] (by kernel_rfl) trivial (fun kK fU => ?_)
 clear fT
 refine At.done rfl ?_
 refine t_n ?_
 refine wp_seq ?_
 refine At.start ?_
 refine At.act fU (newM (t := 72) (d := 60) (by kernel_rfl)) ?_
 rintro d_ v_ aN ⟨rfl, rfl, bL, mp239⟩
 refine ⟨_, rfl, fun kL fV => ?_⟩
 clear fU; have := bL.size; replace bB := bB.gn bL; replace bH := bH.gn bL; replace bI := bI.gn bL; replace bJ := bJ.gn bL; replace aQ := aQ.gn bL; replace bC := bC.gn bL; replace bK := bK.gn bL; replace bP := bP.gn bL; clear bL; have := mp239.lt
 refine At.rd fV 1 [[]] [(15, .map (some (bD.heap.size)))] [] (by kernel_rfl) trivial (fun kM fW => ?_)
 clear fV
 refine At.done rfl ?_
 refine t_n ?_
 refine wp_seq ?_
 refine At.start ?_
 refine At.rd fW 1 [[]] [(16, .slice none 0 0)] [] (by kernel_rfl) trivial (fun kN fX => ?_)
 clear fW
 refine At.done rfl ?_
 refine t_n ?_
 refine wp_seq ?_
 refine At.start ?_
 refine At.rd fX 2 [[], []] [(62, .agg #[.int .i64 (i), .int .i64 (0)]), (61, .int .i64 (i))] [] (by kernel_rfl) trivial (fun kO fY => ?_)
 clear fX
 refine At.seq fY 1 [[]] [(17, .pointer (some ⟨aN.heap.size, 0, none⟩))] (aN.alloc (.cells #[.int .i64 (0), .int .i64 (0)] 74 (0, 0))) [] (by kernel_rfl) trivial (fun kP hV eI fZ => ?_)
 clear fY; have bE := gr_alloc eI; have := bE.size; replace bB := bB.gn bE; replace bH := bH.gn bE; replace bI := bI.gn bE; replace bJ := bJ.gn bE; replace aQ := aQ.gn bE; replace bC := bC.gn bE; replace bK := bK.gn bE; replace bP := bP.gn bE; have mp271 := mp239.gr bE (fun h => by cases h); clear mp239; have eJ : Bx hV (aN.heap.size) [.int .i64 (0), .int .i64 (0)] 74 := Bx.new eI; have := eJ.lt
 clear bE eI
 refine At.store fZ (t := 74) (b := aN.heap.size) (off := 0) (v := .agg #[.int .i64 (i), .int .i64 (0)]) (by kernel_rfl) eJ (by kernel_rfl) (fun kQ bX bF dR gA => ?_)
 clear fZ; replace dR : Bx bX (aN.heap.size) [.int .i64 (i), .int .i64 (0)] 74 := dR; have := bF.size; replace bB := bB.gr bF (fun k h => by injection h; omega); replace bH := bH.gb bF (by omega); replace bI := bI.gb bF (by omega); replace bJ := bJ.gb bF (by omega); replace aQ := aQ.gb bF (by omega); replace bC := bC.gb bF (by omega); replace bK := bK.gb bF (by omega)
 replace bP := bP.gb bF (by omega); have mp286 := mp271.gr bF (fun h => by injection h; omega); clear mp271; clear eJ bF
 refine At.done rfl ?_
 refine t_n ?_
 refine wp_block ?_
 have gB : OwnR bX (Sx (bX.heap.size) []) none 0 3 ([] : List Int) := OwnR.nil; have gC := gA.as 16 (.slice none 0 0) (.slice none (([] : List Int).length) 0) rfl (slice_len (by first | rfl | omega | (simp; done) | (simp; omega))); clear gA
 have gD := gC.sub (r := [(16, .slice none (([] : List Int).length) 0), (17, .pointer (some ⟨aN.heap.size, 0, none⟩)), (15, .map (some (bD.heap.size))), (14, .pointer (some ⟨aP.heap.size, 0, none⟩)), (10, .pointer (some ⟨w1.heap.size, 0, none⟩)), (5, .pointer (some ⟨w.heap.size, 0, none⟩))]) ⟨rfl, rfl, rfl, rfl, rfl, rfl, trivial⟩
 refine loop_g (fun (m_ : Nat) a_ w_ => ∃ (st_ : List (Int × Int)) (s1 : Int) (s2 : Int) (la : List Int) (bM : Option Addr) (bY : Nat), m_ = 12801 - st_.length ∧ (Frm 93 a_ [(16, .slice bM la.length bY), (17, .pointer (some ⟨aN.heap.size, 0, none⟩)), (15, .map (some (bD.heap.size))), (14, .pointer (some ⟨aP.heap.size, 0, none⟩)), (10, .pointer (some ⟨w1.heap.size, 0, none⟩)), (5, .pointer (some ⟨w.heap.size, 0, none⟩))]) ∧ (Ext w w_) ∧ (RdG w_ 0 w.heap.size Ag0 Ag1 Ag2 cg0 cg1 cg2 g) ∧ (RdI w_ 0 w.heap.size Am lm) ∧ (RdI w_ 0 w.heap.size As ls) ∧ (Bx w_ (w.heap.size) [.slice Ag0 g.ow.length cg0, .slice Ag1 g.pr.length cg1, .slice Ag2 g.mv.length cg2] 25) ∧ (Bx w_ (w1.heap.size) [.slice none 0 0, .slice none 0 0, .int .i64 (0)] 29) ∧ (RdI w_ lo_ hi_ As2 sc2) ∧ (Bx w_ (aP.heap.size) [.slice Ag0 g.ow.length cg0, .slice Ag1 g.pr.length cg1, .slice Ag2 g.mv.length cg2, .int .i64 (p), .slice Am lm.length cm, .slice As2 sc2.length cs2] 71) ∧ (Mp w_ (bD.heap.size) (numL 0 st_)) ∧ (Bx w_ (aN.heap.size) [.int .i64 s1, .int .i64 s2] 74) ∧ (OwnR w_ (Sx (bX.heap.size) []) bM bY 3 (la : List Int)) ∧ (la = st_.map Prod.fst) ∧ (StandT g p lm sc2 i st_ (s1, s2)) ∧ (bX.heap.size ≤ w_.heap.size)) _ ⟨[], i, 0, ([] : List Int), none, 0, rfl, gD, bB, bH, bI, bJ, aQ, bC, bK, bP, mp286, dR, gB, rfl, .nil, (by omega)⟩ ?_
 clear gD gC; clear bH; clear bI; clear bJ; clear aQ; clear bC; clear bK; clear bP; clear mp286; clear dR; clear gB; clear bB
 intro m_ kR bN ⟨st_, s1, s2, la, bM, bY, hm296, gE, aF, aG, aJ, aM, aD, aK, aL, aH, dA, aB, aI, hla, hst, i308⟩
 have := aF.size; have := aD.lt; have := aK.lt; have := aH.lt; have := aB.lt; have hsr := (hst.rng hG hscp hi0 hi1).2; have hle := hst.le hG hscp hsc6 hi0 hi1
 have hlal : la.length = st_.length := by rw [hla, List.length_map]
 refine wp_block ?_
 refine wp_seq ?_
 refine wp_seq ?_
 refine At.start ?_
 refine At.rd gE 2 [[], [.ld (.int .i64 (s1)), .ld (.int .i64 (s2))]] [(65, .agg #[.int .i64 (s1), .int .i64 (s2)]), (64, .map (some (bD.heap.size)))] [(bN.cell? ⟨aN.heap.size, 0, none⟩ = some (.int .i64 (s1))), (bN.cell? ⟨aN.heap.size, 1, none⟩ = some (.int .i64 (s2)))] (by kernel_rfl) ⟨(aB.cell (i := 0) rfl), (aB.cell (i := 1) rfl), trivial⟩ (fun kS gF => ?_)
 clear gE
 refine At.act gF (lookM (t := 72) (d := 66) (b := bD.heap.size) (x := s1) (y := s2) (L := numL 0 st_) keyT (by kernel_rfl) dA) ?_
 rintro d_ v_ hW ⟨rfl, rfl, hX⟩
 obtain rfl : bN = hW := hX.symm
 refine ⟨_, rfl, fun kT gG => ?_⟩
 clear gF
 refine At.rd gG 5 [[], [], [], [], []] [(19, .bool (inL (s1, s2) (numL 0 st_))), (18, .int .i64 (valL (s1, s2) (numL 0 st_))), (68, .bool (inL (s1, s2) (numL 0 st_))), (67, .int .i64 (valL (s1, s2) (numL 0 st_))), (63, .tuple #[.int .i64 (valL (s1, s2) (numL 0 st_)), .bool (inL (s1, s2) (numL 0 st_))])] [] (by kernel_rfl) trivial (fun kU gH => ?_)
 clear gG
 refine At.done rfl ?_
 refine t_n ?_
 refine wp_seq ?_
 refine At.start ?_
 refine At.rd gH 1 [[]] [(69, .bool (inL (s1, s2) (numL 0 st_)))] [] (by kernel_rfl) trivial (fun kV dB => ?_)
 clear gH
 refine At.done rfl ?_
 refine t_n ?_
 refine cond_S dB (t := inL (s1, s2) (numL 0 st_)) rfl (fun hY => ?_) (fun hY => ?_)
 ·refine wp_seq ?_
  obtain ⟨k, hk1, hk2⟩ := num_val (s1, s2) st_ 0 (of_decide_eq_true ((num_in _ _ _).symm.trans (by assumption)))
  have hk3 := (List.getElem?_eq_some_iff.1 hk2).1; have hrl := stand_in hst hG rfl (by omega) hscp hi0 hi1 hla
  refine At.start ?_
  refine At.rd dB 3 [[.ld (.slice Ag0 g.ow.length cg0), .ld (.slice Ag1 g.pr.length cg1), .ld (.slice Ag2 g.mv.length cg2)], [], []] [(72, .int .i64 (valL (s1, s2) (numL 0 st_))), (71, .slice bM la.length bY), (70, .agg #[.slice Ag0 g.ow.length cg0, .slice Ag1 g.pr.length cg1, .slice Ag2 g.mv.length cg2])] [(bN.cell? ⟨w.heap.size, 0, none⟩ = some (.slice Ag0 g.ow.length cg0)), (bN.cell? ⟨w.heap.size, 1, none⟩ = some (.slice Ag1 g.pr.length cg1)), (bN.cell? ⟨w.heap.size, 2, none⟩ = some (.slice Ag2 g.mv.length cg2))] (by kernel_rfl) ⟨(aD.cell (i := 0) rfl), (aD.cell (i := 1) rfl), (aD.cell (i := 2) rfl), trivial⟩ (fun kW gI => ?_)
  clear dB
  refine At.call gI 41 #[.agg #[.slice Ag0 g.ow.length cg0, .slice Ag1 g.pr.length cg1, .slice Ag2 g.mv.length cg2], .slice bM la.length bY, .int .i64 (valL (s1, s2) (numL 0 st_))] (some 73) (by kernel_rfl) (toldM_any (g := g) (la := la) (k := valL (s1, s2) (numL 0 st_)) (aG.wide (Nat.zero_le _) (by omega)) (aI.rdI0 (by first | omega | (simp only [List.length_cons, List.length_nil]; omega) | (simp; done) | (simp; omega))) aI.cap (by omega) (by omega) hrl) ?_
  rintro e_ eK ⟨bQ, cG, bR, cH, rfl, he, cM, cN⟩
  refine ⟨_, rfl, _, rfl, fun kX gJ => ?_⟩
  clear gI; have aS := gr_ext he; have eL := aI.lt; have := aS.size; replace aF := aF.gn aS; replace aG := aG.gn aS; replace aJ := aJ.gn aS; replace aM := aM.gn aS; replace aD := aD.gn aS; replace aK := aK.gn aS; replace aL := aL.gn aS; replace aH := aH.gn aS; have mp344 := dA.gr aS (fun h => by cases h); clear dA; replace aB := aB.gn aS
  replace aI : OwnR eK (Sx (bX.heap.size) [obk (bQ), obk (bR)]) bM bY 3 (la : List Int) := aI.grA aS (fun _ _ h => by cases h) (fun k hk hs => ⟨(fun e => by have := cM.ge _ e; omega), (fun e => by have := cN.ge _ e; omega), hs⟩)
  replace cM : OwnR eK (Sx (bN.heap.size) [obk (bM), obk (bR)]) bQ cG 3 ((la.take (valL (s1, s2) (numL 0 st_) : Int).toNat) : List Int) := cM.imp (fun g _ hs => ⟨(fun e => by have := eL _ e; have := Sx_base hs; omega), hs⟩)
  replace cN : OwnR eK (Sx (bN.heap.size) [obk (bM), obk (bQ)]) bR cH 3 ((la.drop (valL (s1, s2) (numL 0 st_) : Int).toNat) : List Int) := cN.imp (fun g _ hs => ⟨(fun e => by have := eL _ e; have := Sx_base hs; omega), hs⟩)
  clear eL; clear aS he
  refine At.store gJ (t := 29) (b := w1.heap.size) (off := 0) (v := .agg #[.slice bQ ((la.take (valL (s1, s2) (numL 0 st_) : Int).toNat).length) cG, .slice bR ((la.drop (valL (s1, s2) (numL 0 st_) : Int).toNat).length) cH, .int .i64 (topP g (la.drop (valL (s1, s2) (numL 0 st_) : Int).toNat) % 2)]) (by kernel_rfl) aK (by kernel_rfl) (fun kY dS aR dC gK => ?_)
  clear gJ
  replace dC : Bx dS (w1.heap.size) [.slice bQ ((la.take (valL (s1, s2) (numL 0 st_) : Int).toNat).length) cG, .slice bR ((la.drop (valL (s1, s2) (numL 0 st_) : Int).toNat).length) cH, .int .i64 (topP g (la.drop (valL (s1, s2) (numL 0 st_) : Int).toNat) % 2)] 29 := dC
  have := aR.size; replace aF := aF.gr aR (fun k h => by injection h; omega); replace aG := aG.gb aR (by omega); replace aJ := aJ.gb aR (by omega); replace aM := aM.gb aR (by omega); replace aD := aD.gb aR (by omega); replace aL := aL.gb aR (by omega); replace aH := aH.gb aR (by omega); have mp361 := mp344.gr aR (fun h => by injection h; omega); clear mp344; replace aB := aB.gb aR (by omega)
  replace aI := aI.gr aR (fun k hk e => by have := Sx_base hk; injection e; omega); replace cM := cM.gr aR (fun k hk e => by have := Sx_base hk; injection e; omega); replace cN := cN.gr aR (fun k hk e => by have := Sx_base hk; injection e; omega); clear aK aR
  refine At.rd gK 1 [[]] [(11, .int .i64 (0))] [] (by kernel_rfl) trivial (fun kZ gL => ?_)
  clear gK
  refine At.done rfl ?_
  refine t_n ?_
  have hZ := gL.sub (r := [(11, .int .i64 (0)), (10, .pointer (some ⟨w1.heap.size, 0, none⟩))]) ⟨rfl, rfl, trivial⟩; clear gL
  refine wp_ret ?_
  refine t_r ?_
  refine b_r ?_
  refine t_r ?_
  refine b_r ?_
  refine ret_ hZ [[.slice bQ ((la.take (valL (s1, s2) (numL 0 st_) : Int).toNat).length) cG, .slice bR ((la.drop (valL (s1, s2) (numL 0 st_) : Int).toNat).length) cH, .int .i64 (topP g (la.drop (valL (s1, s2) (numL 0 st_) : Int).toNat) % 2)]] [.agg #[.slice bQ ((la.take (valL (s1, s2) (numL 0 st_) : Int).toNat).length) cG, .slice bR ((la.drop (valL (s1, s2) (numL 0 st_) : Int).toNat).length) cH, .int .i64 (topP g (la.drop (valL (s1, s2) (numL 0 st_) : Int).toNat) % 2)], .int .i64 (0)] [(dS.cell? ⟨w1.heap.size, 0, none⟩ = some (.slice bQ ((la.take (valL (s1, s2) (numL 0 st_) : Int).toNat).length) cG)), (dS.cell? ⟨w1.heap.size, 1, none⟩ = some (.slice bR ((la.drop (valL (s1, s2) (numL 0 st_) : Int).toNat).length) cH)), (dS.cell? ⟨w1.heap.size, 2, none⟩ = some (.int .i64 (topP g (la.drop (valL (s1, s2) (numL 0 st_) : Int).toNat) % 2)))] (by kernel_rfl) ⟨(dC.cell (i := 0) rfl), (dC.cell (i := 1) rfl), (dC.cell (i := 2) rfl), trivial⟩ ?_
  exact ⟨⟨_, _, _, 0⟩, run_play hok eG (hsc ▸ hst) hla hk1 hk2, bQ, cG, bR, cH, rfl, aF, (cM.imp (fun g _ hs => ⟨hs.2.1, (by have := Sx_base hs; show w.heap.size ≤ g; omega)⟩)), (cN.imp (fun g _ hs => ⟨hs.2.1, (by have := Sx_base hs; show w.heap.size ≤ g; omega)⟩))⟩
 refine wp_skip ?_
 refine t_n ?_
 refine wp_seq ?_
 have hin : (s1, s2) ∉ st_ := of_decide_eq_false ((num_in _ _ _).symm.trans (by assumption))
 refine At.start ?_
 refine At.rd dB 4 [[], [.ld (.int .i64 (s1)), .ld (.int .i64 (s2))], [], []] [(77, .int .i64 (((la.length : Nat) : Int))), (76, .slice bM la.length bY), (75, .agg #[.int .i64 (s1), .int .i64 (s2)]), (74, .map (some (bD.heap.size)))] [(bN.cell? ⟨aN.heap.size, 0, none⟩ = some (.int .i64 (s1))), (bN.cell? ⟨aN.heap.size, 1, none⟩ = some (.int .i64 (s2)))] (by kernel_rfl) ⟨(aB.cell (i := 0) rfl), (aB.cell (i := 1) rfl), trivial⟩ (fun lA gM => ?_)
 clear dB
 refine At.act gM (putM (t := 72) (b := bD.heap.size) (x := s1) (y := s2) (v := ((la.length : Nat) : Int)) (L := numL 0 st_) keyT (by kernel_rfl) dA (by assumption)) ?_
 rintro d_ v_ dT ⟨rfl, aZ, mp374⟩
 refine ⟨_, rfl, fun lB gN => ?_⟩
 clear gM; have := aZ.size; replace aF := aF.gr aZ (fun k h => by injection h; omega); replace aG := aG.gb aZ (by omega); replace aJ := aJ.gb aZ (by omega); replace aM := aM.gb aZ (by omega); replace aD := aD.gb aZ (by omega); replace aK := aK.gb aZ (by omega); replace aL := aL.gb aZ (by omega); replace aH := aH.gb aZ (by omega); replace aB := aB.gb aZ (by omega)
 replace aI := aI.gr aZ (fun k hk e => by have := Sx_base hk; injection e; omega); clear dA aZ
 refine At.done rfl ?_
 refine t_n ?_
 refine wp_seq ?_
 refine At.start ?_
 refine At.rd gN 3 [[], [], [.ld (.int .i64 (s1))]] [(80, .int .i64 (s1)), (79, .pointer (some ⟨aN.heap.size, 0, none⟩)), (78, .slice bM la.length bY)] [(dT.cell? ⟨aN.heap.size, 0, none⟩ = some (.int .i64 (s1)))] (by kernel_rfl) ⟨(aB.cell (i := 0) rfl), trivial⟩ (fun lC gO => ?_)
 clear gN
 refine At.seq gO 1 [[]] [(81, .slice (some ⟨dT.heap.size, 0, none⟩) 1 1)] (dT.alloc (.cells #[.int .i64 (s1)] 3 (0, 0))) [] (by kernel_rfl) trivial (fun lD gP eM gQ => ?_)
 clear gO; have aT := gr_alloc eM; have := aT.size; replace aF := aF.gn aT; replace aG := aG.gn aT; replace aJ := aJ.gn aT; replace aM := aM.gn aT; replace aD := aD.gn aT; replace aK := aK.gn aT; replace aL := aL.gn aT; replace aH := aH.gn aT; have mp404 := mp374.gr aT (fun h => by cases h); clear mp374; replace aB := aB.gn aT; replace aI := aI.grN aT
 have eN : Bx gP (dT.heap.size) [.int .i64 (s1)] 3 := Bx.new eM; have := eN.lt; clear aT eM; have iA : (la ++ ([s1])).length = (la).length + ([s1] : List Int).length := List.length_append
 simp only [List.length_cons, List.length_nil] at iA
 refine At.act gQ (appendR (α := Int) (t := 22) (d := 82) (n := la.length) (m := 1) (cc := 1) (xs := la) (ys := [s1]) (bytes := 8) (by first | rfl | omega | (simp; done) | (simp; omega)) (by first | rfl | omega | (simp; done) | (simp; omega)) (by kernel_rfl) rfl (by kernel_rfl) aI (Bx.srcR (l := ([s1] : List Int)) eN rfl) (by simp only [List.length_cons, List.length_nil]; omega) (by simp only [List.length_cons, List.length_nil]; omega)) ?_
 rintro d_ v_ gR ⟨rfl, cO, cP, dU⟩
 obtain rfl := dU.val
 have bA := dU.gr
 refine ⟨_, rfl, fun lE gS => ?_⟩
 clear gQ; clear eN; have bG := dU.own (Sx (bX.heap.size) []) (fun g _ hs => hs.2) (show bX.heap.size ≤ gP.heap.size by omega); have := bA.size; replace aF := aF.gr bA (fun k hk => by have := aI.ge k hk; omega); replace aG := aG.gr bA (fun k hk => by have := aI.ge k hk; omega); replace aJ := aJ.gr bA (fun k hk => by have := aI.ge k hk; omega)
 replace aM := aM.gr bA (fun k hk => by have := aI.ge k hk; omega); replace aD := aD.gr bA (fun e => by have := aI.ge _ e; omega); replace aK := aK.gr bA (fun e => by have := aI.ge _ e; omega); replace aL := aL.gr bA (fun k hk => by have := aI.ge k hk; omega); replace aH := aH.gr bA (fun e => by have := aI.ge _ e; omega); have mp424 := mp404.gr bA (fun e => by have := aI.ge _ e; omega); clear mp404
 replace aB := aB.gr bA (fun e => by have := aI.ge _ e; omega); clear aI bA dU
 refine At.rd gS 1 [[]] [(16, .slice cO ((la ++ ([s1])).length) cP)] [] (by kernel_rfl) trivial (fun lF gT => ?_)
 clear gS
 refine At.done rfl ?_
 refine t_n ?_
 have gU := gT.sub (r := [(16, .slice cO ((la ++ ([s1])).length) cP), (17, .pointer (some ⟨aN.heap.size, 0, none⟩)), (15, .map (some (bD.heap.size))), (14, .pointer (some ⟨aP.heap.size, 0, none⟩)), (10, .pointer (some ⟨w1.heap.size, 0, none⟩)), (5, .pointer (some ⟨w.heap.size, 0, none⟩))]) ⟨rfl, rfl, rfl, rfl, rfl, rfl, trivial⟩
 clear gT
 refine wp_seq ?_
 refine At.start ?_
 refine At.rd gU 2 [[], [.ld (.int .i64 (s1)), .ld (.int .i64 (s2))]] [(85, .agg #[.int .i64 (s1), .int .i64 (s2)]), (84, .pointer (some ⟨aP.heap.size, 0, none⟩))] [(gR.cell? ⟨aN.heap.size, 0, none⟩ = some (.int .i64 (s1))), (gR.cell? ⟨aN.heap.size, 1, none⟩ = some (.int .i64 (s2)))] (by kernel_rfl) ⟨(aB.cell (i := 0) rfl), (aB.cell (i := 1) rfl), trivial⟩ (fun lG gV => ?_)
 clear gU
 refine At.call gV 42 #[.pointer (some ⟨aP.heap.size, 0, none⟩), .agg #[.int .i64 (s1), .int .i64 (s2)]] (some 86) (by kernel_rfl) (next_any (b := aP.heap.size) (g := g) (p := p) (x := s1) (y := s2) (lm := lm) (ls := sc2) aH (aG.wide (Nat.zero_le _) (by omega)) (aJ.wide (Nat.zero_le _) (by omega)) (aL.wide (Nat.zero_le _) (by omega)) hG (by omega) (by omega) (by omega) (by omega) (by omega)) ?_
 rintro e_ cI ⟨rfl, he⟩
 refine ⟨_, rfl, _, rfl, fun lH gW => ?_⟩
 clear gV; have aU := gr_ext he; have := aU.size; replace aF := aF.gn aU; replace aG := aG.gn aU; replace aJ := aJ.gn aU; replace aM := aM.gn aU; replace aD := aD.gn aU; replace aK := aK.gn aU; replace aL := aL.gn aU; replace aH := aH.gn aU; have mp443 := mp424.gr aU (fun h => by cases h); clear mp424; replace aB := aB.gn aU; replace bG := bG.gn aU; clear aU he
 refine At.rd gW 3 [[], [], []] [(88, .bool ((nxt g p lm sc2 (s1, s2)).2)), (87, .agg #[.int .i64 ((nxt g p lm sc2 (s1, s2)).1.1), .int .i64 ((nxt g p lm sc2 (s1, s2)).1.2)]), (83, .tuple #[.agg #[.int .i64 ((nxt g p lm sc2 (s1, s2)).1.1), .int .i64 ((nxt g p lm sc2 (s1, s2)).1.2)], .bool ((nxt g p lm sc2 (s1, s2)).2)])] [] (by kernel_rfl) trivial (fun lI gX => ?_)
 clear gW
 refine At.seq gX 1 [[]] [(20, .pointer (some ⟨cI.heap.size, 0, none⟩))] (cI.alloc (.cells #[.int .i64 (0), .int .i64 (0)] 74 (0, 0))) [] (by kernel_rfl) trivial (fun lJ iB eO gY => ?_)
 clear gX; have aV := gr_alloc eO; have := aV.size; replace aF := aF.gn aV; replace aG := aG.gn aV; replace aJ := aJ.gn aV; replace aM := aM.gn aV; replace aD := aD.gn aV; replace aK := aK.gn aV; replace aL := aL.gn aV; replace aH := aH.gn aV; have mp462 := mp443.gr aV (fun h => by cases h); clear mp443; replace aB := aB.gn aV; replace bG := bG.grN aV
 have eP : Bx iB (cI.heap.size) [.int .i64 (0), .int .i64 (0)] 74 := Bx.new eO; have := eP.lt; clear aV eO
 refine At.store gY (t := 74) (b := cI.heap.size) (off := 0) (v := .agg #[.int .i64 ((nxt g p lm sc2 (s1, s2)).1.1), .int .i64 ((nxt g p lm sc2 (s1, s2)).1.2)]) (by kernel_rfl) eP (by kernel_rfl) (fun lK eQ aW bS gZ => ?_)
 clear gY; replace bS : Bx eQ (cI.heap.size) [.int .i64 ((nxt g p lm sc2 (s1, s2)).1.1), .int .i64 ((nxt g p lm sc2 (s1, s2)).1.2)] 74 := bS; have := aW.size; replace aF := aF.gr aW (fun k h => by injection h; omega); replace aG := aG.gb aW (by omega); replace aJ := aJ.gb aW (by omega); replace aM := aM.gb aW (by omega); replace aD := aD.gb aW (by omega); replace aK := aK.gb aW (by omega)
 replace aL := aL.gb aW (by omega); replace aH := aH.gb aW (by omega); have mp479 := mp462.gr aW (fun h => by injection h; omega); clear mp462; replace aB := aB.gb aW (by omega); replace bG := bG.gr aW (fun k hk => hk.1); clear eP aW
 refine At.rd gZ 1 [[]] [(21, .bool ((nxt g p lm sc2 (s1, s2)).2))] [] (by kernel_rfl) trivial (fun lL hA => ?_)
 clear gZ
 refine At.done rfl ?_
 refine t_n ?_
 refine wp_seq ?_
 refine wp_seq ?_
 refine At.start ?_
 refine At.rd hA 2 [[], []] [(90, .bool (!((nxt g p lm sc2 (s1, s2)).2))), (89, .bool ((nxt g p lm sc2 (s1, s2)).2))] [] (by kernel_rfl) trivial (fun lM dD => ?_)
 clear hA
 refine At.done rfl ?_
 refine t_n ?_
 refine cond_S dD (t := !((nxt g p lm sc2 (s1, s2)).2)) rfl (fun cJ => ?_) (fun cJ => ?_)
 ·have lN : ((nxt g p lm sc2 (s1, s2)).2) = false := by first | exact Eq.mp (Bool.not_eq_true' _) cJ | exact Eq.mp (Bool.not_eq_false' _) cJ | simpa using cJ
  refine wp_seq ?_
  have hno := nxt_no (g := g) (p := p) (mv := lm) (sc := sc2) (s := (s1, s2)) (by assumption)
  refine At.start ?_
  refine At.rd dD 1 [[]] [(91, .agg #[.slice none 0 0, .slice none 0 0, .int .i64 (0)])] [] (by kernel_rfl) trivial (fun lO hB => ?_)
  clear dD
  refine At.store hB (t := 29) (b := w1.heap.size) (off := 0) (v := .agg #[.slice none 0 0, .slice none 0 0, .int .i64 (0)]) (by kernel_rfl) aK (by kernel_rfl) (fun lP dV aX dE hC => ?_)
  clear hB; replace dE : Bx dV (w1.heap.size) [.slice none 0 0, .slice none 0 0, .int .i64 (0)] 29 := dE; have := aX.size; replace aF := aF.gr aX (fun k h => by injection h; omega); replace aG := aG.gb aX (by omega); replace aJ := aJ.gb aX (by omega); replace aM := aM.gb aX (by omega); replace aD := aD.gb aX (by omega); replace aL := aL.gb aX (by omega); replace aH := aH.gb aX (by omega)
  have mp503 := mp479.gr aX (fun h => by injection h; omega); clear mp479; replace aB := aB.gb aX (by omega); replace bG := bG.gr aX (fun k hk e => by have := Sx_base hk; injection e; omega); replace bS := bS.gb aX (by omega); clear aK aX
  refine At.rd hC 1 [[]] [(11, .int .i64 (16))] [] (by kernel_rfl) trivial (fun lQ hD => ?_)
  clear hC
  refine At.done rfl ?_
  refine t_n ?_
  clear bS; have iC := hD.sub (r := [(11, .int .i64 (16)), (10, .pointer (some ⟨w1.heap.size, 0, none⟩))]) ⟨rfl, rfl, trivial⟩; clear hD
  refine wp_ret ?_
  refine t_r ?_
  refine b_r ?_
  refine t_r ?_
  refine b_r ?_
  refine ret_ iC [[.slice none 0 0, .slice none 0 0, .int .i64 (0)]] [.agg #[.slice none 0 0, .slice none 0 0, .int .i64 (0)], .int .i64 (16)] [(dV.cell? ⟨w1.heap.size, 0, none⟩ = some (.slice none 0 0)), (dV.cell? ⟨w1.heap.size, 1, none⟩ = some (.slice none 0 0)), (dV.cell? ⟨w1.heap.size, 2, none⟩ = some (.int .i64 (0)))] (by kernel_rfl) ⟨(dE.cell (i := 0) rfl), (dE.cell (i := 1) rfl), (dE.cell (i := 2) rfl), trivial⟩ ?_
  exact ⟨⟨[], [], 0, 16⟩, .move hok eG (hsc ▸ hst) hin (hsc ▸ hno), none, 0, none, 0, rfl, aF, OwnR.nil, OwnR.nil⟩
 have lR : ((nxt g p lm sc2 (s1, s2)).2) = true := by first | exact Eq.mp (Bool.not_eq_true' _) cJ | exact Eq.mp (Bool.not_eq_false' _) cJ | simpa using cJ
 refine wp_skip ?_
 refine t_n ?_
 refine At.start ?_
 refine At.rd dD 1 [[.ld (.int .i64 ((nxt g p lm sc2 (s1, s2)).1.1)), .ld (.int .i64 ((nxt g p lm sc2 (s1, s2)).1.2))]] [(92, .agg #[.int .i64 ((nxt g p lm sc2 (s1, s2)).1.1), .int .i64 ((nxt g p lm sc2 (s1, s2)).1.2)])] [(eQ.cell? ⟨cI.heap.size, 0, none⟩ = some (.int .i64 ((nxt g p lm sc2 (s1, s2)).1.1))), (eQ.cell? ⟨cI.heap.size, 1, none⟩ = some (.int .i64 ((nxt g p lm sc2 (s1, s2)).1.2)))] (by kernel_rfl) ⟨(bS.cell (i := 0) rfl), (bS.cell (i := 1) rfl), trivial⟩ (fun lS hE => ?_)
 clear dD
 refine At.store hE (t := 74) (b := aN.heap.size) (off := 0) (v := .agg #[.int .i64 ((nxt g p lm sc2 (s1, s2)).1.1), .int .i64 ((nxt g p lm sc2 (s1, s2)).1.2)]) (by kernel_rfl) aB (by kernel_rfl) (fun lT iD aY eR hF => ?_)
 clear hE; replace eR : Bx iD (aN.heap.size) [.int .i64 ((nxt g p lm sc2 (s1, s2)).1.1), .int .i64 ((nxt g p lm sc2 (s1, s2)).1.2)] 74 := eR; have := aY.size; replace aF := aF.gr aY (fun k h => by injection h; omega); replace aG := aG.gb aY (by omega); replace aJ := aJ.gb aY (by omega); replace aM := aM.gb aY (by omega); replace aD := aD.gb aY (by omega); replace aK := aK.gb aY (by omega)
 replace aL := aL.gb aY (by omega); replace aH := aH.gb aY (by omega); have mp527 := mp479.gr aY (fun h => by injection h; omega); clear mp479; replace bG := bG.gr aY (fun k hk e => by have := Sx_base hk; injection e; omega); replace bS := bS.gb aY (by omega); clear aB aY
 refine At.done rfl ?_
 refine b_n ?_
 refine t_n ?_
 have iE := hF.as 16 (.slice cO ((la ++ ([s1])).length) cP) (.slice cO ((la ++ ([s1]) : List Int).length) cP) rfl (slice_len (by first | rfl | omega | (simp; done) | (simp; omega)))
 clear hF
 have iF := iE.sub (r := [(16, .slice cO ((la ++ ([s1]) : List Int).length) cP), (17, .pointer (some ⟨aN.heap.size, 0, none⟩)), (15, .map (some (bD.heap.size))), (14, .pointer (some ⟨aP.heap.size, 0, none⟩)), (10, .pointer (some ⟨w1.heap.size, 0, none⟩)), (5, .pointer (some ⟨w.heap.size, 0, none⟩))]) ⟨rfl, rfl, rfl, rfl, rfl, rfl, trivial⟩
 exact ⟨_, (by rw [hm296]; simp only [List.length_append, List.length_cons, List.length_nil]; omega), (st_ ++ [(s1, s2)]), (nxt g p lm sc2 (s1, s2)).1.1, (nxt g p lm sc2 (s1, s2)).1.2, (la ++ ([s1]) : List Int), cO, cP, rfl, iF, aF, aG, aJ, aM, aD, aK, aL, aH, (mp527.as (by rw [num_push]; congr 3; omega)), eR, (bG.imp (fun g _ hs => hs.2)), (by rw [hla, List.map_append]; rfl), (.push hst hin (nxt_yes (by assumption))), (by omega)⟩

end Go.Proofs.Ytklbpajmoklheaa
