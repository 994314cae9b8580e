/-
  Texts of this repo, laid together: the frame of the walks, plain lemmas, walks of Go functions. Conditions: what the theorems name.
-/
import Derived.Deep.DeepHandedRow
import Derived.Deep.Matrix
import Derived.JoinedCond
import Derived.Lib.LaidTab
import Derived.Lib.SmallJoins
import Derived.OpenShut
import Derived.ProofKit
import Derived.Test.YtplpgfcjjnaigaaDoorRows
import Derived.WalkKit
import Derived.Test.YtplpgfcjjnaigaaDoorZ5
set_option linter.unusedVariables false
set_option linter.unusedSimpArgs false
namespace Go.Proofs.YtplpgfcjjnaigaaDoor
open Go Go.RowKit
set_option maxHeartbeats 4000000 in
theorem runM_any {Ag0 Ag1 Ag2 : Option Addr} {cg0 cg1 cg2 : Nat} {g : GameL} {Am : Option Addr} {cm : Nat} {lm : List Int} {As : Option Addr} {cs : Nat} {ls : List Int} {i p : Int} {w : World} (rg : RdG w 0 w.heap.size Ag0 Ag1 Ag2 cg0 cg1 cg2 g) (rm : RdI w 0 w.heap.size Am lm) (rs : RdI w 0 w.heap.size As ls) :
    Calls Tryd.prog 31 #[.agg #[.slice Ag0 g.ow.length cg0, .slice Ag1 g.pr.length cg1, .slice Ag2 g.mv.length cg2], .int .i64 (i), .int .i64 (p), .slice Am lm.length cm, .slice As ls.length cs] w fun e w' => ∃ (r : PlayR), RunT g i p lm ls r ∧ ∃ A0 c0 A1 c1, e = .returned (.tuple #[.agg #[.slice A0 (r.ah).length c0, .slice A1 (r.ro).length c1, .int .i64 (r.win)], .int .i64 (r.err)]) ∧ Ext w w' ∧ OwnR w' (Sx w.heap.size [obk A1]) A0 c0 3 (r.ah) ∧ OwnR w' (Sx w.heap.size [obk A0]) A1 c1 3 (r.ro) := by
 have hlg0 := rg.ow.len; have hlg1 := rg.pr.len; have hlg2 := rg.mv.len; have hkg0 := rg.k0; have hkg1 := rg.k1; have hkg2 := rg.k2; have hlm := rm.len; have hls := rs.len
 refine enter_ (args := [.agg #[.slice Ag0 g.ow.length cg0, .slice Ag1 g.pr.length cg1, .slice Ag2 g.mv.length cg2], .int .i64 (i), .int .i64 (p), .slice Am lm.length cm, .slice As ls.length cs]) Tryd.func31 rfl Tryd.ntmps31 (Nat.le_of_ble_eq_true rfl) (fun act0 f0 => ?_)
 have e0 : Ext w w := Ext.refl w
 refine sqs ?_
 refine At.bx f0 5 [.slice Ag0 g.ow.length cg0, .slice Ag1 g.pr.length cg1, .slice Ag2 g.mv.length cg2] 25 (fun w1 g5 bx6 act4 f3 => ?_)
 clear f0; have := g5.size; replace e0 := e0.gn g5; have r9 := rg.gn g5; clear rg; have aC := rm.gn g5; clear rm; have aB := rs.gn g5; clear rs; have := bx6.lt; clear g5
 refine At.bx f3 10 [.slice none 0 0, .slice none 0 0, .int .i64 (0)] 55 (fun hL bV aE hM eM => ?_)
 clear f3; have := bV.size; replace e0 := e0.gn bV; replace r9 := r9.gn bV; replace aC := aC.gn bV; replace aB := aB.gn bV; replace bx6 := bx6.gn bV; have := aE.lt; clear bV
 refine At.rk eM 1 [] .n (fun hN eN => ?_)
 clear eM
 refine At.dn ?_
 refine sqs ?_
 refine At.rk eN 1 [(23, .agg #[.slice Ag0 g.ow.length cg0, .slice Ag1 g.pr.length cg1, .slice Ag2 g.mv.length cg2])] (.l (bx6.cell (i := 0) rfl) <| .l (bx6.cell (i := 1) rfl) <| .l (bx6.cell (i := 2) rfl) <| .n) (fun hO eO => ?_)
 clear eN
 refine At.cl eO (some 24) (args := #[.agg #[.slice Ag0 g.ow.length cg0, .slice Ag1 g.pr.length cg1, .slice Ag2 g.mv.length cg2]]) (right_any (r9.wide (Nat.zero_le _) ω)) ?_
 rintro e_ aN ⟨rfl, he⟩
 refine ⟨_, rfl, _, rfl, fun hP eP => ?_⟩
 clear eO; have bP := gr_ext he; have := bP.size; replace e0 := e0.gn bP; replace r9 := r9.gn bP; replace aC := aC.gn bP; replace aB := aB.gn bP; replace bx6 := bx6.gn bP; replace aE := aE.gn bP; clear bP he
 refine At.rk eP 5 [(13, .int .i64 ((rightP g).2))] .n (fun hQ dS => ?_)
 clear eP
 refine At.dn ?_
 refine wp_seq (cut (fun a_ w_ => ∃ (As2 : Option Addr) (cs2 : Nat) (sc2 : List Int) (lo_ : Nat) (hi_ : Nat), (Frm 93 a_ [(4, .slice As2 sc2.length cs2), (10, pt w1.heap.size 0), (5, pt w.heap.size 0), (1, .int .i64 (i)), (2, .int .i64 (p)), (3, .slice Am lm.length cm)]) ∧ (Ext w w_) ∧ (RdG w_ 0 w.heap.size Ag0 Ag1 Ag2 cg0 cg1 cg2 g) ∧ (RdI w_ 0 w.heap.size Am lm) ∧ (RdI w_ 0 w.heap.size As ls) ∧ (Bx w_ (w.heap.size) [.slice Ag0 g.ow.length cg0, .slice Ag1 g.pr.length cg1, .slice Ag2 g.mv.length cg2] 25) ∧ (Bx w_ (w1.heap.size) [.slice none 0 0, .slice none 0 0, .int .i64 (0)] 55) ∧ (RdI w_ lo_ hi_ As2 sc2) ∧ (okP g i p) ∧ (ls.length ≤ 64) ∧ (sc2 = scN ls) ∧ (hi_ ≤ w_.heap.size) ∧ (w1.heap.size < lo_ ∨ hi_ ≤ w1.heap.size) ∧ (aN.heap.size ≤ w_.heap.size)) ?_ ?_)
 ·refine wp_block ?_
  refine wp_seq ?_
  refine sqs ?_
  refine At.rk dS 3 [(27, .bool (((rightP g).2 : Int) != 0))] .n (fun hR cH => ?_)
  clear dS
  refine At.dn ?_
  refine cond_S cH (t := ((rightP g).2 : Int) != 0) rfl (fun dD => ?_) (fun dD => ?_)
  ·have hS := bne_iff_ne.1 dD
   refine wp_skip ?_
   refine t_n ?_
   refine cond_S cH (t := ((rightP g).2 : Int) != 0) rfl (fun hh => ?_) (fun hh => ?_)
   rotate_left
   · exact absurd (hh.symm.trans dD) (by decide)
   refine sqs ?_
   refine At.rk cH 1 [(43, .agg #[.slice none 0 0, .slice none 0 0, .int .i64 (0)])] .n (fun hT eQ => ?_)
   clear cH
   refine At.store eQ (t := 55) (b := w1.heap.size) (off := 0) (v := .agg #[.slice none 0 0, .slice none 0 0, .int .i64 (0)]) κ aE κ (fun hU dE bW cN eR => ?_)
   clear eQ; replace cN : Bx dE (w1.heap.size) [.slice none 0 0, .slice none 0 0, .int .i64 (0)] 55 := cN; have := bW.size; replace e0 := e0.gr bW (fun k h => by injection h; omega); replace r9 := r9.gb bW ω; replace aC := aC.gb bW ω; replace aB := aB.gb bW ω; replace bx6 := bx6.gb bW ω; clear aE bW
   refine At.rk eR 1 [(11, .int .i64 (1))] .n (fun hV gR => ?_)
   clear eR
   refine At.dn ?_
   refine wp_ret ?_
   refine b_r ?_
   refine t_r ?_
   refine ret_ gR [[.slice none 0 0, .slice none 0 0, .int .i64 (0)]] [.agg #[.slice none 0 0, .slice none 0 0, .int .i64 (0)], .int .i64 (1)] [(dE.cell? ⟨w1.heap.size, 0, none⟩ = some (.slice none 0 0)), (dE.cell? ⟨w1.heap.size, 1, none⟩ = some (.slice none 0 0)), (dE.cell? ⟨w1.heap.size, 2, none⟩ = some (.int .i64 (0)))] κ ⟨(cN.cell (i := 0) rfl), (cN.cell (i := 1) rfl), (cN.cell (i := 2) rfl), trivial⟩ ?_
   exact ⟨⟨[], [], 0, 1⟩, .arg (by first | exact nok ω | exact nok2 σ), none, 0, none, 0, rfl, e0, OwnR.nil, OwnR.nil⟩
  have hW := bne_eq_false_iff_eq.1 dD
  refine sqs ?_
  refine At.rk cH 3 [(27, .bool (decide ((i : Int) < 0)))] .n (fun hX cI => ?_)
  clear cH
  refine At.dn ?_
  refine cond_S cI (t := decide ((i : Int) < 0)) rfl (fun dF => ?_) (fun dF => ?_)
  ·have hY := of_decide_eq_true dF
   refine wp_skip ?_
   refine t_n ?_
   refine cond_S cI (t := decide ((i : Int) < 0)) rfl (fun hh => ?_) (fun hh => ?_)
   rotate_left
   · exact absurd (hh.symm.trans dF) (by decide)
   refine sqs ?_
   refine At.rk cI 1 [(43, .agg #[.slice none 0 0, .slice none 0 0, .int .i64 (0)])] .n (fun hZ eS => ?_)
   clear cI
   refine At.store eS (t := 55) (b := w1.heap.size) (off := 0) (v := .agg #[.slice none 0 0, .slice none 0 0, .int .i64 (0)]) κ aE κ (fun iA dG bX cO eT => ?_)
   clear eS; replace cO : Bx dG (w1.heap.size) [.slice none 0 0, .slice none 0 0, .int .i64 (0)] 55 := cO; have := bX.size; replace e0 := e0.gr bX (fun k h => by injection h; omega); replace r9 := r9.gb bX ω; replace aC := aC.gb bX ω; replace aB := aB.gb bX ω; replace bx6 := bx6.gb bX ω; clear aE bX
   refine At.rk eT 1 [(11, .int .i64 (1))] .n (fun iB gS => ?_)
   clear eT
   refine At.dn ?_
   refine wp_ret ?_
   refine b_r ?_
   refine t_r ?_
   refine ret_ gS [[.slice none 0 0, .slice none 0 0, .int .i64 (0)]] [.agg #[.slice none 0 0, .slice none 0 0, .int .i64 (0)], .int .i64 (1)] [(dG.cell? ⟨w1.heap.size, 0, none⟩ = some (.slice none 0 0)), (dG.cell? ⟨w1.heap.size, 1, none⟩ = some (.slice none 0 0)), (dG.cell? ⟨w1.heap.size, 2, none⟩ = some (.int .i64 (0)))] κ ⟨(cO.cell (i := 0) rfl), (cO.cell (i := 1) rfl), (cO.cell (i := 2) rfl), trivial⟩ ?_
   exact ⟨⟨[], [], 0, 1⟩, .arg (by first | exact nok ω | exact nok2 σ), none, 0, none, 0, rfl, e0, OwnR.nil, OwnR.nil⟩
  have iC := of_decide_eq_false dF
  refine sqs ?_
  refine At.rk cI 6 [(27, .bool (decide ((i : Int) ≥ ((g.ow.length : Nat) : Int))))] (.l (bx6.cell (i := 0) rfl) <| .n) (fun iD bQ => ?_)
  clear cI
  refine At.dn ?_
  refine cond_S bQ (t := decide ((i : Int) ≥ ((g.ow.length : Nat) : Int))) rfl (fun dH => ?_) (fun dH => ?_)
  ·have iE := of_decide_eq_true dH
   refine wp_skip ?_
   refine t_n ?_
   refine cond_S bQ (t := decide ((i : Int) ≥ ((g.ow.length : Nat) : Int))) rfl (fun hh => ?_) (fun hh => ?_)
   rotate_left
   · exact absurd (hh.symm.trans dH) (by decide)
   refine sqs ?_
   refine At.rk bQ 1 [(43, .agg #[.slice none 0 0, .slice none 0 0, .int .i64 (0)])] .n (fun iF eU => ?_)
   clear bQ
   refine At.store eU (t := 55) (b := w1.heap.size) (off := 0) (v := .agg #[.slice none 0 0, .slice none 0 0, .int .i64 (0)]) κ aE κ (fun iG dI bY cP eV => ?_)
   clear eU; replace cP : Bx dI (w1.heap.size) [.slice none 0 0, .slice none 0 0, .int .i64 (0)] 55 := cP; have := bY.size; replace e0 := e0.gr bY (fun k h => by injection h; omega); replace r9 := r9.gb bY ω; replace aC := aC.gb bY ω; replace aB := aB.gb bY ω; replace bx6 := bx6.gb bY ω; clear aE bY
   refine At.rk eV 1 [(11, .int .i64 (1))] .n (fun iH gT => ?_)
   clear eV
   refine At.dn ?_
   refine wp_ret ?_
   refine b_r ?_
   refine t_r ?_
   refine ret_ gT [[.slice none 0 0, .slice none 0 0, .int .i64 (0)]] [.agg #[.slice none 0 0, .slice none 0 0, .int .i64 (0)], .int .i64 (1)] [(dI.cell? ⟨w1.heap.size, 0, none⟩ = some (.slice none 0 0)), (dI.cell? ⟨w1.heap.size, 1, none⟩ = some (.slice none 0 0)), (dI.cell? ⟨w1.heap.size, 2, none⟩ = some (.int .i64 (0)))] κ ⟨(cP.cell (i := 0) rfl), (cP.cell (i := 1) rfl), (cP.cell (i := 2) rfl), trivial⟩ ?_
   exact ⟨⟨[], [], 0, 1⟩, .arg (by first | exact nok ω | exact nok2 σ), none, 0, none, 0, rfl, e0, OwnR.nil, OwnR.nil⟩
  have iI := of_decide_eq_false dH
  refine At.start ?_
  rcases Bool.eq_false_or_eq_true ((p : Int) != 0) with cQ | cQ
  ·have iJ := bne_iff_ne.1 cQ
   refine At.rk bQ 7 [(27, .bool ((p : Int) != 1))] (.e 39 cQ <| .n) (fun iK cR => ?_)
   clear bQ
   refine At.dn ?_
   refine cond_S cR (t := (p : Int) != 1) rfl (fun dT => ?_) (fun dT => ?_)
   ·have iL := bne_iff_ne.1 dT
    refine sqs ?_
    refine At.rk cR 1 [(43, .agg #[.slice none 0 0, .slice none 0 0, .int .i64 (0)])] .n (fun iM eW => ?_)
    clear cR
    refine At.store eW (t := 55) (b := w1.heap.size) (off := 0) (v := .agg #[.slice none 0 0, .slice none 0 0, .int .i64 (0)]) κ aE κ (fun iN dJ bZ cS eX => ?_)
    clear eW; replace cS : Bx dJ (w1.heap.size) [.slice none 0 0, .slice none 0 0, .int .i64 (0)] 55 := cS; have := bZ.size; replace e0 := e0.gr bZ (fun k h => by injection h; omega); replace r9 := r9.gb bZ ω; replace aC := aC.gb bZ ω; replace aB := aB.gb bZ ω; replace bx6 := bx6.gb bZ ω; clear aE bZ
    refine At.rk eX 1 [(11, .int .i64 (1))] .n (fun iO gU => ?_)
    clear eX
    refine At.dn ?_
    refine wp_ret ?_
    refine b_r ?_
    refine t_r ?_
    refine ret_ gU [[.slice none 0 0, .slice none 0 0, .int .i64 (0)]] [.agg #[.slice none 0 0, .slice none 0 0, .int .i64 (0)], .int .i64 (1)] [(dJ.cell? ⟨w1.heap.size, 0, none⟩ = some (.slice none 0 0)), (dJ.cell? ⟨w1.heap.size, 1, none⟩ = some (.slice none 0 0)), (dJ.cell? ⟨w1.heap.size, 2, none⟩ = some (.int .i64 (0)))] κ ⟨(cS.cell (i := 0) rfl), (cS.cell (i := 1) rfl), (cS.cell (i := 2) rfl), trivial⟩ ?_
    exact ⟨⟨[], [], 0, 1⟩, .arg (by first | exact nok ω | exact nok2 σ), none, 0, none, 0, rfl, e0, OwnR.nil, OwnR.nil⟩
   have iP := bne_eq_false_iff_eq.1 dT
   refine wp_seq ?_
   have hok : okP g i p := isok ω ω ω ω
   refine At.start ?_
   refine At.rk cR 4 [(44, .bool (decide ((((ls.length : Nat) : Int) : Int) > 64)))] .n (fun iQ cT => ?_)
   clear cR
   refine At.dn ?_
   refine cond_S cT (t := decide ((((ls.length : Nat) : Int) : Int) > 64)) rfl (fun dU => ?_) (fun dU => ?_)
   ·have iR := of_decide_eq_true dU
    refine sqs ?_
    refine At.rk cT 1 [(48, .agg #[.slice none 0 0, .slice none 0 0, .int .i64 (0)])] .n (fun iS eY => ?_)
    clear cT
    refine At.store eY (t := 55) (b := w1.heap.size) (off := 0) (v := .agg #[.slice none 0 0, .slice none 0 0, .int .i64 (0)]) κ aE κ (fun iT dK cA cU eZ => ?_)
    clear eY; replace cU : Bx dK (w1.heap.size) [.slice none 0 0, .slice none 0 0, .int .i64 (0)] 55 := cU; have := cA.size; replace e0 := e0.gr cA (fun k h => by injection h; omega); replace r9 := r9.gb cA ω; replace aC := aC.gb cA ω; replace aB := aB.gb cA ω; replace bx6 := bx6.gb cA ω; clear aE cA
    refine At.rk eZ 1 [(11, .int .i64 (10))] .n (fun iU gV => ?_)
    clear eZ
    refine At.dn ?_
    refine wp_ret ?_
    refine b_r ?_
    refine t_r ?_
    refine ret_ gV [[.slice none 0 0, .slice none 0 0, .int .i64 (0)]] [.agg #[.slice none 0 0, .slice none 0 0, .int .i64 (0)], .int .i64 (10)] [(dK.cell? ⟨w1.heap.size, 0, none⟩ = some (.slice none 0 0)), (dK.cell? ⟨w1.heap.size, 1, none⟩ = some (.slice none 0 0)), (dK.cell? ⟨w1.heap.size, 2, none⟩ = some (.int .i64 (0)))] κ ⟨(cU.cell (i := 0) rfl), (cU.cell (i := 1) rfl), (cU.cell (i := 2) rfl), trivial⟩ ?_
    exact ⟨⟨[], [], 0, 10⟩, .many hok ω, none, 0, none, 0, rfl, e0, OwnR.nil, OwnR.nil⟩
   have iV := of_decide_eq_false dU
   refine sqs ?_
   refine At.rk cT 4 [(49, .bool ((((ls.length : Nat) : Int) : Int) == 0))] .n (fun iW dL => ?_)
   clear cT
   refine At.dn ?_
   refine cond_S dL (t := (((ls.length : Nat) : Int) : Int) == 0) rfl (fun dV => ?_) (fun dV => ?_)
   ·have iX := eq_of_beq dV
    refine At.start ?_
    refine At.seq dL 1 [[]] [(53, .slice (some ⟨aN.heap.size, 0, none⟩) 1 1)] (aN.alloc (.cells #[.int .i64 (0)] 3 (0, 0))) [] κ trivial (fun iY gW dW fA => ?_)
    clear dL; have bR := gr_alloc dW; have := bR.size; replace e0 := e0.gn bR; replace r9 := r9.gn bR; replace aC := aC.gn bR; replace aB := aB.gn bR; replace bx6 := bx6.gn bR; replace aE := aE.gn bR; have fB : Bx gW (aN.heap.size) [.int .i64 (0)] 3 := Bx.new dW; have := fB.lt; clear bR dW
    refine At.rk fA 1 [(4, .slice (some ⟨aN.heap.size, 0, none⟩) 1 1)] .n (fun iZ gX => ?_)
    clear fA
    refine At.done rfl ?_
    refine b_n ?_
    refine t_n ?_
    exact ⟨some ⟨aN.heap.size, 0, none⟩, 1, ([0] : List Int), aN.heap.size, (aN.heap.size + 1), gX.sb, e0, r9, aC, aB, bx6, aE, (Bx.rdI1 (l := [0]) fB rfl (by decide)), (by first | exact hok | exact isok ω ω ω ω), ω, (by first | exact scN_0 ω | exact scN_1 ω), ω, ω, ω⟩
   have jA := ne_of_beq_false dV
   refine wp_skip ?_
   refine b_n ?_
   refine t_n ?_
   exact ⟨As, cs, ls, 0, w.heap.size, dL.sb, e0, r9, aC, aB, bx6, aE, aB, (by first | exact hok | exact isok ω ω ω ω), ω, (by first | exact scN_0 ω | exact scN_1 ω), ω, ω, ω⟩
  have jB := bne_eq_false_iff_eq.1 cQ
  refine At.rk bQ 7 [(27, .bool false)] (.e 39 cQ <| .n) (fun jC dX => ?_)
  clear bQ
  refine At.dn ?_
  refine cond_F dX rfl ?_
  refine wp_seq ?_
  have hok : okP g i p := isok ω ω ω ω
  refine At.start ?_
  refine At.rk dX 4 [(44, .bool (decide ((((ls.length : Nat) : Int) : Int) > 64)))] .n (fun jD cV => ?_)
  clear dX
  refine At.dn ?_
  refine cond_S cV (t := decide ((((ls.length : Nat) : Int) : Int) > 64)) rfl (fun dY => ?_) (fun dY => ?_)
  ·have jE := of_decide_eq_true dY
   refine sqs ?_
   refine At.rk cV 1 [(48, .agg #[.slice none 0 0, .slice none 0 0, .int .i64 (0)])] .n (fun jF fC => ?_)
   clear cV
   refine At.store fC (t := 55) (b := w1.heap.size) (off := 0) (v := .agg #[.slice none 0 0, .slice none 0 0, .int .i64 (0)]) κ aE κ (fun jG dM cB cW fD => ?_)
   clear fC; replace cW : Bx dM (w1.heap.size) [.slice none 0 0, .slice none 0 0, .int .i64 (0)] 55 := cW; have := cB.size; replace e0 := e0.gr cB (fun k h => by injection h; omega); replace r9 := r9.gb cB ω; replace aC := aC.gb cB ω; replace aB := aB.gb cB ω; replace bx6 := bx6.gb cB ω; clear aE cB
   refine At.rk fD 1 [(11, .int .i64 (10))] .n (fun jH gY => ?_)
   clear fD
   refine At.dn ?_
   refine wp_ret ?_
   refine b_r ?_
   refine t_r ?_
   refine ret_ gY [[.slice none 0 0, .slice none 0 0, .int .i64 (0)]] [.agg #[.slice none 0 0, .slice none 0 0, .int .i64 (0)], .int .i64 (10)] [(dM.cell? ⟨w1.heap.size, 0, none⟩ = some (.slice none 0 0)), (dM.cell? ⟨w1.heap.size, 1, none⟩ = some (.slice none 0 0)), (dM.cell? ⟨w1.heap.size, 2, none⟩ = some (.int .i64 (0)))] κ ⟨(cW.cell (i := 0) rfl), (cW.cell (i := 1) rfl), (cW.cell (i := 2) rfl), trivial⟩ ?_
   exact ⟨⟨[], [], 0, 10⟩, .many hok ω, none, 0, none, 0, rfl, e0, OwnR.nil, OwnR.nil⟩
  have jI := of_decide_eq_false dY
  refine sqs ?_
  refine At.rk cV 4 [(49, .bool ((((ls.length : Nat) : Int) : Int) == 0))] .n (fun jJ dN => ?_)
  clear cV
  refine At.dn ?_
  refine cond_S dN (t := (((ls.length : Nat) : Int) : Int) == 0) rfl (fun dZ => ?_) (fun dZ => ?_)
  ·have jK := eq_of_beq dZ
   refine At.start ?_
   refine At.seq dN 1 [[]] [(53, .slice (some ⟨aN.heap.size, 0, none⟩) 1 1)] (aN.alloc (.cells #[.int .i64 (0)] 3 (0, 0))) [] κ trivial (fun jL gZ eA fE => ?_)
   clear dN; have bS := gr_alloc eA; have := bS.size; replace e0 := e0.gn bS; replace r9 := r9.gn bS; replace aC := aC.gn bS; replace aB := aB.gn bS; replace bx6 := bx6.gn bS; replace aE := aE.gn bS; have fF : Bx gZ (aN.heap.size) [.int .i64 (0)] 3 := Bx.new eA; have := fF.lt; clear bS eA
   refine At.rk fE 1 [(4, .slice (some ⟨aN.heap.size, 0, none⟩) 1 1)] .n (fun jM hA => ?_)
   clear fE
   refine At.done rfl ?_
   refine b_n ?_
   refine t_n ?_
   exact ⟨some ⟨aN.heap.size, 0, none⟩, 1, ([0] : List Int), aN.heap.size, (aN.heap.size + 1), hA.sb, e0, r9, aC, aB, bx6, aE, (Bx.rdI1 (l := [0]) fF rfl (by decide)), (by first | exact hok | exact isok ω ω ω ω), ω, (by first | exact scN_0 ω | exact scN_1 ω), ω, ω, ω⟩
  have jN := ne_of_beq_false dZ
  refine wp_skip ?_
  refine b_n ?_
  refine t_n ?_
  exact ⟨As, cs, ls, 0, w.heap.size, dN.sb, e0, r9, aC, aB, bx6, aE, aB, (by first | exact hok | exact isok ω ω ω ω), ω, (by first | exact scN_0 ω | exact scN_1 ω), ω, ω, ω⟩
 clear r9; clear aC; clear aB; clear bx6; clear aE; clear dS e0
 intro jO cJ ⟨As2, cs2, sc2, lo_, hi_, fG, aZ, bE, bF, bG, aO, bA, bH, hok, eB, hsc, hhi, hrb, i209⟩
 have := aZ.size; have := aO.lt; have := bA.lt
 refine wp_seq ?_
 have hG := isR_ok hok.1; have hn1 := hG.n1; have hpl := hG.pl; have hml := hG.ml; have hi0 := hok.2.1; have hi1 := hok.2.2.1; have hscp : 0 < sc2.length := hsc ▸ scN_pos ls; have hsc6 : sc2.length ≤ 64 := hsc ▸ scN_le eB
 refine At.start ?_
 refine At.rk fG 5 [(58, .agg #[.slice Ag0 g.ow.length cg0, .slice Ag1 g.pr.length cg1, .slice Ag2 g.mv.length cg2, .int .i64 (p), .slice Am lm.length cm, .slice As2 sc2.length cs2])] (.l (aO.cell (i := 0) rfl) <| .l (aO.cell (i := 1) rfl) <| .l (aO.cell (i := 2) rfl) <| .n) (fun jP fH => ?_)
 clear fG
 refine At.bx fH 59 [.slice Ag0 g.ow.length cg0, .slice Ag1 g.pr.length cg1, .slice Ag2 g.mv.length cg2, .int .i64 (p), .slice Am lm.length cm, .slice As2 sc2.length cs2] 82 (fun bT bJ bK jQ fI => ?_)
 clear fH; have := bJ.size; replace aZ := aZ.gn bJ; replace bE := bE.gn bJ; replace bF := bF.gn bJ; replace bG := bG.gn bJ; replace aO := aO.gn bJ; replace bA := bA.gn bJ; replace bH := bH.gn bJ; have := bK.lt; clear bJ
 refine At.rk fI 1 [(14, pt cJ.heap.size 0)] .n (fun jR fJ => ?_)
 clear fI
 refine At.dn ?_
 refine sqs ?_
 refine At.act fJ (newM (t := 83) (d := 60) κ) ?_
 rintro d_ v_ cC ⟨rfl, rfl, bI, mp230⟩
 refine ⟨_, rfl, fun jS fK => ?_⟩
 clear fJ; have := bI.size; replace aZ := aZ.gn bI; replace bE := bE.gn bI; replace bF := bF.gn bI; replace bG := bG.gn bI; replace aO := aO.gn bI; replace bA := bA.gn bI; replace bH := bH.gn bI; replace bK := bK.gn bI; clear bI; have := mp230.lt
 refine At.rk fK 1 [(15, .map (some (bT.heap.size)))] .n (fun jT fL => ?_)
 clear fK
 refine At.dn ?_
 refine sqs ?_
 refine At.rk fL 1 [(16, .slice none 0 0)] .n (fun jU fM => ?_)
 clear fL
 refine At.dn ?_
 refine sqs ?_
 refine At.rk fM 2 [(62, .agg #[.int .i64 (i), .int .i64 (0)])] .n (fun jV fN => ?_)
 clear fM
 refine At.bx fN 17 [.int .i64 (0), .int .i64 (0)] 85 (fun jW bB eC jX fO => ?_)
 clear fN; have := bB.size; replace aZ := aZ.gn bB; replace bE := bE.gn bB; replace bF := bF.gn bB; replace bG := bG.gn bB; replace aO := aO.gn bB; replace bA := bA.gn bB; replace bH := bH.gn bB; replace bK := bK.gn bB; have mp263 := mp230.gr bB (fun h => by cases h); clear mp230; have := eC.lt; clear bB
 refine At.store fO (t := 85) (b := cC.heap.size) (off := 0) (v := .agg #[.int .i64 (i), .int .i64 (0)]) κ eC κ (fun jY bU bC dO fP => ?_)
 clear fO; replace dO : Bx bU (cC.heap.size) [.int .i64 (i), .int .i64 (0)] 85 := dO; have := bC.size; replace aZ := aZ.gr bC (fun k h => by injection h; omega); replace bE := bE.gb bC ω; replace bF := bF.gb bC ω; replace bG := bG.gb bC ω; replace aO := aO.gb bC ω; replace bA := bA.gb bC ω; replace bH := bH.gb bC ω; replace bK := bK.gb bC ω; have mp277 := mp263.gr bC (fun h => by injection h; omega)
 clear mp263; clear eC bC
 refine At.dn ?_
 refine wp_block ?_
 have fQ : OwnR bU (Sx (bU.heap.size) []) none 0 3 ([] : List Int) := OwnR.nil; have fR := fP.as 16 (.slice none 0 0) (.slice none (([] : List Int).length) 0) rfl (slice_len (by first | rfl | omega | (simp; done) | (simp; omega))); clear fP
 refine loop_g (fun (m_ : Nat) a_ w_ => ∃ (st_ : List (Int × Int)) (s1 : Int) (s2 : Int) (la : List Int) (bL : Option Addr) (cD : Nat), m_ = 12801 - st_.length ∧ (Frm 93 a_ [(16, .slice bL la.length cD), (17, pt cC.heap.size 0), (15, .map (some (bT.heap.size))), (14, pt cJ.heap.size 0), (10, pt w1.heap.size 0), (5, pt w.heap.size 0)]) ∧ (Ext w w_) ∧ (RdG w_ 0 w.heap.size Ag0 Ag1 Ag2 cg0 cg1 cg2 g) ∧ (RdI w_ 0 w.heap.size Am lm) ∧ (RdI w_ 0 w.heap.size As ls) ∧ (Bx w_ (w.heap.size) [.slice Ag0 g.ow.length cg0, .slice Ag1 g.pr.length cg1, .slice Ag2 g.mv.length cg2] 25) ∧ (Bx w_ (w1.heap.size) [.slice none 0 0, .slice none 0 0, .int .i64 (0)] 55) ∧ (RdI w_ lo_ hi_ As2 sc2) ∧ (Bx w_ (cJ.heap.size) [.slice Ag0 g.ow.length cg0, .slice Ag1 g.pr.length cg1, .slice Ag2 g.mv.length cg2, .int .i64 (p), .slice Am lm.length cm, .slice As2 sc2.length cs2] 82) ∧ (Mp w_ (bT.heap.size) (numL 0 st_)) ∧ (Bx w_ (cC.heap.size) [.int .i64 s1, .int .i64 s2] 85) ∧ (OwnR w_ (Sx (bU.heap.size) []) bL cD 3 (la : List Int)) ∧ (la = st_.map Prod.fst) ∧ (StandT g p lm sc2 i st_ (s1, s2)) ∧ (bU.heap.size ≤ w_.heap.size)) _ ⟨[], i, 0, ([] : List Int), none, 0, rfl, fR.sb, aZ, bE, bF, bG, aO, bA, bH, bK, mp277, dO, fQ, rfl, .nil, ω⟩ ?_
 clear fR; clear bE; clear bF; clear bG; clear aO; clear bA; clear bH; clear bK; clear mp277; clear dO; clear fQ; clear aZ
 intro m_ jZ eD ⟨st_, s1, s2, la, bL, cD, hm287, fS, aF, aG, aJ, aM, aD, aK, aL, aH, cK, aA, aI, hla, hst, i299⟩
 have := aF.size; have := aD.lt; have := aK.lt; have := aH.lt; have := cK.lt; have := aA.lt; have hsr := (hst.rng hG hscp hi0 hi1).2; have hle := hst.le hG hscp hsc6 hi0 hi1
 have hlal : la.length = st_.length := by rw [hla, List.length_map]
 refine wp_block ?_
 refine wp_seq ?_
 refine sqs ?_
 refine At.rk fS 2 [(65, .agg #[.int .i64 (s1), .int .i64 (s2)]), (64, .map (some (bT.heap.size)))] (.l (aA.cell (i := 0) rfl) <| .l (aA.cell (i := 1) rfl) <| .n) (fun kA fT => ?_)
 clear fS
 refine At.act fT (lookM (t := 83) (d := 66) (b := bT.heap.size) (x := s1) (y := s2) (L := numL 0 st_) keyT κ cK) ?_
 rintro d_ v_ hB ⟨rfl, rfl, hC⟩
 obtain rfl : eD = hB := hC.symm
 refine ⟨_, rfl, fun kB fU => ?_⟩
 clear fT
 refine At.rk fU 5 [(19, .bool (inL (s1, s2) (numL 0 st_))), (18, .int .i64 (valL (s1, s2) (numL 0 st_)))] .n (fun kC fV => ?_)
 clear fU
 refine At.dn ?_
 refine sqs ?_
 refine At.rk fV 1 [(69, .bool (inL (s1, s2) (numL 0 st_)))] .n (fun kD cX => ?_)
 clear fV
 refine At.dn ?_
 refine cond_S cX (t := inL (s1, s2) (numL 0 st_)) rfl (fun hD => ?_) (fun hD => ?_)
 ·refine wp_seq ?_
  obtain ⟨k, hk1, hk2⟩ := num_val (s1, s2) st_ 0 (of_decide_eq_true ((num_in _ _ _).symm.trans σ))
  have hk3 := (List.getElem?_eq_some_iff.1 hk2).1; have hrl := stand_in hst hG rfl ω hscp hi0 hi1 hla
  refine At.start ?_
  refine At.rk cX 3 [(72, .int .i64 (valL (s1, s2) (numL 0 st_))), (71, .slice bL la.length cD), (70, .agg #[.slice Ag0 g.ow.length cg0, .slice Ag1 g.pr.length cg1, .slice Ag2 g.mv.length cg2])] (.l (aD.cell (i := 0) rfl) <| .l (aD.cell (i := 1) rfl) <| .l (aD.cell (i := 2) rfl) <| .n) (fun kE fW => ?_)
  clear cX
  refine At.cl fW (some 73) (args := #[.agg #[.slice Ag0 g.ow.length cg0, .slice Ag1 g.pr.length cg1, .slice Ag2 g.mv.length cg2], .slice bL la.length cD, .int .i64 (valL (s1, s2) (numL 0 st_))]) (toldM_any (g := g) (la := la) (k := valL (s1, s2) (numL 0 st_)) (aG.wide (Nat.zero_le _) ω) (aI.rdI0 (by first | omega | (simp only [List.length_cons, List.length_nil]; omega) | (simp; done) | (simp; omega))) aI.cap ω ω hrl) ?_
  rintro e_ eE ⟨bM, cE, bN, cF, rfl, he, cL, cM⟩
  refine ⟨_, rfl, _, rfl, fun kF fX => ?_⟩
  clear fW; have aQ := gr_ext he; have eF := aI.lt; have := aQ.size; replace aF := aF.gn aQ; replace aG := aG.gn aQ; replace aJ := aJ.gn aQ; replace aM := aM.gn aQ; replace aD := aD.gn aQ; replace aK := aK.gn aQ; replace aL := aL.gn aQ; replace aH := aH.gn aQ; have mp335 := cK.gr aQ (fun h => by cases h); clear cK; replace aA := aA.gn aQ
  replace aI : OwnR eE (Sx (bU.heap.size) [obk (bM), obk (bN)]) bL cD 3 (la : List Int) := aI.grA aQ (fun _ _ h => by cases h) (fun k hk hs => ⟨(fun e => by have := cL.ge _ e; omega), (fun e => by have := cM.ge _ e; omega), hs⟩)
  replace cL : OwnR eE (Sx (eD.heap.size) [obk (bL), obk (bN)]) bM cE 3 ((la.take (valL (s1, s2) (numL 0 st_) : Int).toNat) : List Int) := cL.imp (fun g _ hs => ⟨(fun e => by have := eF _ e; have := Sx_base hs; omega), hs⟩)
  replace cM : OwnR eE (Sx (eD.heap.size) [obk (bL), obk (bM)]) bN cF 3 ((la.drop (valL (s1, s2) (numL 0 st_) : Int).toNat) : List Int) := cM.imp (fun g _ hs => ⟨(fun e => by have := eF _ e; have := Sx_base hs; omega), hs⟩)
  clear eF; clear aQ he
  refine At.store fX (t := 55) (b := w1.heap.size) (off := 0) (v := .agg #[.slice bM ((la.take (valL (s1, s2) (numL 0 st_) : Int).toNat).length) cE, .slice bN ((la.drop (valL (s1, s2) (numL 0 st_) : Int).toNat).length) cF, .int .i64 (topP g (la.drop (valL (s1, s2) (numL 0 st_) : Int).toNat) % 2)]) κ aK κ (fun kG dP aP cY fY => ?_)
  clear fX
  replace cY : Bx dP (w1.heap.size) [.slice bM ((la.take (valL (s1, s2) (numL 0 st_) : Int).toNat).length) cE, .slice bN ((la.drop (valL (s1, s2) (numL 0 st_) : Int).toNat).length) cF, .int .i64 (topP g (la.drop (valL (s1, s2) (numL 0 st_) : Int).toNat) % 2)] 55 := cY
  have := aP.size; replace aF := aF.gr aP (fun k h => by injection h; omega); replace aG := aG.gb aP ω; replace aJ := aJ.gb aP ω; replace aM := aM.gb aP ω; replace aD := aD.gb aP ω; replace aL := aL.gb aP ω; replace aH := aH.gb aP ω; have mp352 := mp335.gr aP (fun h => by injection h; omega); clear mp335; replace aA := aA.gb aP ω
  replace aI := aI.gr aP (fun k hk e => by have := Sx_base hk; injection e; omega); replace cL := cL.gr aP (fun k hk e => by have := Sx_base hk; injection e; omega); replace cM := cM.gr aP (fun k hk e => by have := Sx_base hk; injection e; omega); clear aK aP
  refine At.rk fY 1 [(11, .int .i64 (0))] .n (fun kH hE => ?_)
  clear fY
  refine At.dn ?_
  refine wp_ret ?_
  refine t_r ?_
  refine b_r ?_
  refine t_r ?_
  refine b_r ?_
  refine ret_ hE [[.slice bM ((la.take (valL (s1, s2) (numL 0 st_) : Int).toNat).length) cE, .slice bN ((la.drop (valL (s1, s2) (numL 0 st_) : Int).toNat).length) cF, .int .i64 (topP g (la.drop (valL (s1, s2) (numL 0 st_) : Int).toNat) % 2)]] [.agg #[.slice bM ((la.take (valL (s1, s2) (numL 0 st_) : Int).toNat).length) cE, .slice bN ((la.drop (valL (s1, s2) (numL 0 st_) : Int).toNat).length) cF, .int .i64 (topP g (la.drop (valL (s1, s2) (numL 0 st_) : Int).toNat) % 2)], .int .i64 (0)] [(dP.cell? ⟨w1.heap.size, 0, none⟩ = some (.slice bM ((la.take (valL (s1, s2) (numL 0 st_) : Int).toNat).length) cE)), (dP.cell? ⟨w1.heap.size, 1, none⟩ = some (.slice bN ((la.drop (valL (s1, s2) (numL 0 st_) : Int).toNat).length) cF)), (dP.cell? ⟨w1.heap.size, 2, none⟩ = some (.int .i64 (topP g (la.drop (valL (s1, s2) (numL 0 st_) : Int).toNat) % 2)))] κ ⟨(cY.cell (i := 0) rfl), (cY.cell (i := 1) rfl), (cY.cell (i := 2) rfl), trivial⟩ ?_
  exact ⟨⟨_, _, _, 0⟩, run_play hok eB (hsc ▸ hst) hla hk1 hk2, bM, cE, bN, cF, rfl, aF, (cL.imp (fun g _ hs => ⟨hs.2.1, (by have := Sx_base hs; show w.heap.size ≤ g; omega)⟩)), (cM.imp (fun g _ hs => ⟨hs.2.1, (by have := Sx_base hs; show w.heap.size ≤ g; omega)⟩))⟩
 refine wp_skip ?_
 refine t_n ?_
 refine wp_seq ?_
 have hin : (s1, s2) ∉ st_ := of_decide_eq_false ((num_in _ _ _).symm.trans σ)
 refine At.start ?_
 refine At.rk cX 4 [(77, .int .i64 (((la.length : Nat) : Int))), (75, .agg #[.int .i64 (s1), .int .i64 (s2)]), (74, .map (some (bT.heap.size)))] (.l (aA.cell (i := 0) rfl) <| .l (aA.cell (i := 1) rfl) <| .n) (fun kI fZ => ?_)
 clear cX
 refine At.act fZ (putM (t := 83) (b := bT.heap.size) (x := s1) (y := s2) (v := ((la.length : Nat) : Int)) (L := numL 0 st_) keyT κ cK σ) ?_
 rintro d_ v_ eG ⟨rfl, aX, mp364⟩
 refine ⟨_, rfl, fun kJ gA => ?_⟩
 clear fZ; have := aX.size; replace aF := aF.gr aX (fun k h => by injection h; omega); replace aG := aG.gb aX ω; replace aJ := aJ.gb aX ω; replace aM := aM.gb aX ω; replace aD := aD.gb aX ω; replace aK := aK.gb aX ω; replace aL := aL.gb aX ω; replace aH := aH.gb aX ω; replace aA := aA.gb aX ω; replace aI := aI.gr aX (fun k hk e => by have := Sx_base hk; injection e; omega); clear cK aX
 refine At.dn ?_
 refine sqs ?_
 refine At.rk gA 3 [(80, .int .i64 (s1)), (78, .slice bL la.length cD)] (.l (aA.cell (i := 0) rfl) <| .n) (fun kK gB => ?_)
 clear gA
 refine At.seq gB 1 [[]] [(81, .slice (some ⟨eG.heap.size, 0, none⟩) 1 1)] (eG.alloc (.cells #[.int .i64 (s1)] 3 (0, 0))) [] κ trivial (fun kL gC eH gD => ?_)
 clear gB; have aR := gr_alloc eH; have := aR.size; replace aF := aF.gn aR; replace aG := aG.gn aR; replace aJ := aJ.gn aR; replace aM := aM.gn aR; replace aD := aD.gn aR; replace aK := aK.gn aR; replace aL := aL.gn aR; replace aH := aH.gn aR; have mp394 := mp364.gr aR (fun h => by cases h); clear mp364; replace aA := aA.gn aR; replace aI := aI.grN aR
 have eI : Bx gC (eG.heap.size) [.int .i64 (s1)] 3 := Bx.new eH; have := eI.lt; clear aR eH; have hF : (la ++ ([s1])).length = (la).length + ([s1] : List Int).length := List.length_append
 simp only [List.length_cons, List.length_nil] at hF
 refine At.act gD (appendR (α := Int) (t := 22) (d := 82) (n := la.length) (m := 1) (cc := 1) (xs := la) (ys := [s1]) (bytes := 8) (by first | rfl | omega | (simp; done) | (simp; omega)) (by first | rfl | omega | (simp; done) | (simp; omega)) κ rfl κ aI (Bx.srcR (l := ([s1] : List Int)) eI rfl) (by simp only [List.length_cons, List.length_nil]; omega) (by simp only [List.length_cons, List.length_nil]; omega)) ?_
 rintro d_ v_ kM ⟨rfl, cZ, dA, dQ⟩
 obtain rfl := dQ.val
 have aY := dQ.gr
 refine ⟨_, rfl, fun kN gE => ?_⟩
 clear gD; clear eI; have bD := dQ.own (Sx (bU.heap.size) []) (fun g _ hs => hs.2) (show bU.heap.size ≤ gC.heap.size by omega); have := aY.size; replace aF := aF.gr aY (fun k hk => by have := aI.ge k hk; omega); replace aG := aG.gr aY (fun k hk => by have := aI.ge k hk; omega); replace aJ := aJ.gr aY (fun k hk => by have := aI.ge k hk; omega)
 replace aM := aM.gr aY (fun k hk => by have := aI.ge k hk; omega); replace aD := aD.gr aY (fun e => by have := aI.ge _ e; omega); replace aK := aK.gr aY (fun e => by have := aI.ge _ e; omega); replace aL := aL.gr aY (fun k hk => by have := aI.ge k hk; omega); replace aH := aH.gr aY (fun e => by have := aI.ge _ e; omega); have mp414 := mp394.gr aY (fun e => by have := aI.ge _ e; omega); clear mp394
 replace aA := aA.gr aY (fun e => by have := aI.ge _ e; omega); clear aI aY dQ
 refine At.rk gE 1 [(16, .slice cZ ((la ++ ([s1])).length) dA)] .n (fun kO gF => ?_)
 clear gE
 refine At.dn ?_
 refine sqs ?_
 refine At.rk gF 2 [(85, .agg #[.int .i64 (s1), .int .i64 (s2)]), (84, pt cJ.heap.size 0)] (.l (aA.cell (i := 0) rfl) <| .l (aA.cell (i := 1) rfl) <| .n) (fun kP gG => ?_)
 clear gF
 refine At.cl gG (some 86) (next_any (b := cJ.heap.size) (g := g) (p := p) (x := s1) (y := s2) (lm := lm) (ls := sc2) aH (aG.wide (Nat.zero_le _) ω) (aJ.wide (Nat.zero_le _) ω) (aL.wide (Nat.zero_le _) ω) hG ω ω ω ω ω) ?_
 rintro e_ eJ ⟨rfl, he⟩
 refine ⟨_, rfl, _, rfl, fun kQ gH => ?_⟩
 clear gG; have aS := gr_ext he; have := aS.size; replace aF := aF.gn aS; replace aG := aG.gn aS; replace aJ := aJ.gn aS; replace aM := aM.gn aS; replace aD := aD.gn aS; replace aK := aK.gn aS; replace aL := aL.gn aS; replace aH := aH.gn aS; have mp432 := mp414.gr aS (fun h => by cases h); clear mp414; replace aA := aA.gn aS; replace bD := bD.gn aS; clear aS he
 refine At.rk gH 3 [(88, .bool ((nxt g p lm sc2 (s1, s2)).2)), (87, .agg #[.int .i64 ((nxt g p lm sc2 (s1, s2)).1.1), .int .i64 ((nxt g p lm sc2 (s1, s2)).1.2)])] .n (fun kR gI => ?_)
 clear gH
 refine At.bx gI 20 [.int .i64 (0), .int .i64 (0)] 85 (fun kS aT eK kT gJ => ?_)
 clear gI; have := aT.size; replace aF := aF.gn aT; replace aG := aG.gn aT; replace aJ := aJ.gn aT; replace aM := aM.gn aT; replace aD := aD.gn aT; replace aK := aK.gn aT; replace aL := aL.gn aT; replace aH := aH.gn aT; have mp452 := mp432.gr aT (fun h => by cases h); clear mp432; replace aA := aA.gn aT; replace bD := bD.grN aT; have := eK.lt; clear aT
 refine At.store gJ (t := 85) (b := eJ.heap.size) (off := 0) (v := .agg #[.int .i64 ((nxt g p lm sc2 (s1, s2)).1.1), .int .i64 ((nxt g p lm sc2 (s1, s2)).1.2)]) κ eK κ (fun kU hH aU bO gK => ?_)
 clear gJ; replace bO : Bx hH (eJ.heap.size) [.int .i64 ((nxt g p lm sc2 (s1, s2)).1.1), .int .i64 ((nxt g p lm sc2 (s1, s2)).1.2)] 85 := bO; have := aU.size; replace aF := aF.gr aU (fun k h => by injection h; omega); replace aG := aG.gb aU ω; replace aJ := aJ.gb aU ω; replace aM := aM.gb aU ω; replace aD := aD.gb aU ω; replace aK := aK.gb aU ω; replace aL := aL.gb aU ω; replace aH := aH.gb aU ω
 have mp468 := mp452.gr aU (fun h => by injection h; omega); clear mp452; replace aA := aA.gb aU ω; replace bD := bD.gr aU (fun k hk => hk.1); clear eK aU
 refine At.rk gK 1 [(21, .bool ((nxt g p lm sc2 (s1, s2)).2))] .n (fun kV gL => ?_)
 clear gK
 refine At.dn ?_
 have gM := gL.sb (r := [(21, .bool ((nxt g p lm sc2 (s1, s2)).2)), (20, pt eJ.heap.size 0), (16, .slice cZ ((la ++ ([s1])).length) dA), (17, pt cC.heap.size 0), (15, .map (some (bT.heap.size))), (14, pt cJ.heap.size 0), (10, pt w1.heap.size 0), (5, pt w.heap.size 0)])
 clear gL
 refine wp_seq ?_
 refine sqs ?_
 refine At.rk gM 2 [(90, .bool (!((nxt g p lm sc2 (s1, s2)).2)))] .n (fun kW dB => ?_)
 clear gM
 refine At.dn ?_
 refine cond_S dB (t := !((nxt g p lm sc2 (s1, s2)).2)) rfl (fun cG => ?_) (fun cG => ?_)
 ·have kX : ((nxt g p lm sc2 (s1, s2)).2) = false := by first | exact Eq.mp (Bool.not_eq_true' _) cG | exact Eq.mp (Bool.not_eq_false' _) cG | simpa using cG
  refine wp_seq ?_
  have hno := nxt_no (g := g) (p := p) (mv := lm) (sc := sc2) (s := (s1, s2)) σ
  refine At.start ?_
  refine At.rk dB 1 [(91, .agg #[.slice none 0 0, .slice none 0 0, .int .i64 (0)])] .n (fun kY gN => ?_)
  clear dB
  refine At.store gN (t := 55) (b := w1.heap.size) (off := 0) (v := .agg #[.slice none 0 0, .slice none 0 0, .int .i64 (0)]) κ aK κ (fun kZ dR aV dC gO => ?_)
  clear gN; replace dC : Bx dR (w1.heap.size) [.slice none 0 0, .slice none 0 0, .int .i64 (0)] 55 := dC; have := aV.size; replace aF := aF.gr aV (fun k h => by injection h; omega); replace aG := aG.gb aV ω; replace aJ := aJ.gb aV ω; replace aM := aM.gb aV ω; replace aD := aD.gb aV ω; replace aL := aL.gb aV ω; replace aH := aH.gb aV ω; have mp493 := mp468.gr aV (fun h => by injection h; omega)
  clear mp468; replace aA := aA.gb aV ω; replace bD := bD.gr aV (fun k hk e => by have := Sx_base hk; injection e; omega); replace bO := bO.gb aV ω; clear aK aV
  refine At.rk gO 1 [(11, .int .i64 (16))] .n (fun lA hI => ?_)
  clear gO
  refine At.dn ?_
  clear bO
  refine wp_ret ?_
  refine t_r ?_
  refine b_r ?_
  refine t_r ?_
  refine b_r ?_
  refine ret_ hI [[.slice none 0 0, .slice none 0 0, .int .i64 (0)]] [.agg #[.slice none 0 0, .slice none 0 0, .int .i64 (0)], .int .i64 (16)] [(dR.cell? ⟨w1.heap.size, 0, none⟩ = some (.slice none 0 0)), (dR.cell? ⟨w1.heap.size, 1, none⟩ = some (.slice none 0 0)), (dR.cell? ⟨w1.heap.size, 2, none⟩ = some (.int .i64 (0)))] κ ⟨(dC.cell (i := 0) rfl), (dC.cell (i := 1) rfl), (dC.cell (i := 2) rfl), trivial⟩ ?_
  exact ⟨⟨[], [], 0, 16⟩, .move hok eB (hsc ▸ hst) hin (hsc ▸ hno), none, 0, none, 0, rfl, aF, OwnR.nil, OwnR.nil⟩
 have lB : ((nxt g p lm sc2 (s1, s2)).2) = true := by first | exact Eq.mp (Bool.not_eq_true' _) cG | exact Eq.mp (Bool.not_eq_false' _) cG | simpa using cG
 refine wp_skip ?_
 refine t_n ?_
 refine At.start ?_
 refine At.rk dB 1 [(92, .agg #[.int .i64 ((nxt g p lm sc2 (s1, s2)).1.1), .int .i64 ((nxt g p lm sc2 (s1, s2)).1.2)])] (.l (bO.cell (i := 0) rfl) <| .l (bO.cell (i := 1) rfl) <| .n) (fun lC gP => ?_)
 clear dB
 refine At.store gP (t := 85) (b := cC.heap.size) (off := 0) (v := .agg #[.int .i64 ((nxt g p lm sc2 (s1, s2)).1.1), .int .i64 ((nxt g p lm sc2 (s1, s2)).1.2)]) κ aA κ (fun lD hJ aW eL gQ => ?_)
 clear gP; replace eL : Bx hJ (cC.heap.size) [.int .i64 ((nxt g p lm sc2 (s1, s2)).1.1), .int .i64 ((nxt g p lm sc2 (s1, s2)).1.2)] 85 := eL; have := aW.size; replace aF := aF.gr aW (fun k h => by injection h; omega); replace aG := aG.gb aW ω; replace aJ := aJ.gb aW ω; replace aM := aM.gb aW ω; replace aD := aD.gb aW ω; replace aK := aK.gb aW ω; replace aL := aL.gb aW ω; replace aH := aH.gb aW ω
 have mp516 := mp468.gr aW (fun h => by injection h; omega); clear mp468; replace bD := bD.gr aW (fun k hk e => by have := Sx_base hk; injection e; omega); replace bO := bO.gb aW ω; clear aA aW
 refine At.done rfl ?_
 refine b_n ?_
 refine t_n ?_
 have hK := gQ.as 16 (.slice cZ ((la ++ ([s1])).length) dA) (.slice cZ ((la ++ ([s1]) : List Int).length) dA) rfl (slice_len (by first | rfl | omega | (simp; done) | (simp; omega)))
 clear gQ
 exact ⟨_, (by rw [hm287]; simp only [List.length_append, List.length_cons, List.length_nil]; omega), (st_ ++ [(s1, s2)]), (nxt g p lm sc2 (s1, s2)).1.1, (nxt g p lm sc2 (s1, s2)).1.2, (la ++ ([s1]) : List Int), cZ, dA, rfl, hK.sb, aF, aG, aJ, aM, aD, aK, aL, aH, (mp516.as (by rw [num_push]; congr 3; omega)), eL, (bD.imp (fun g _ hs => hs.2)), (by rw [hla, List.map_append]; rfl), (.push hst hin (nxt_yes σ)), ω⟩
end Go.Proofs.YtplpgfcjjnaigaaDoor
namespace Go.Proofs.YtplpgfcjjnaigaaDoor
open Go Go.RowKit
end Go.Proofs.YtplpgfcjjnaigaaDoor
namespace Go.Proofs.YtplpgfcjjnaigaaDoor
open Go Go.RowKit
set_option maxHeartbeats 4000000 in
theorem shown17_any {w : World} :
    Calls Tryd.prog 30 #[] w fun e w' => e = .returned (.bool true) ∧ Ext w w' := by
 refine enter_ (args := []) Tryd.func30 rfl Tryd.ntmps30 (Nat.le_of_ble_eq_true rfl) (fun act0 f0 => ?_)
 have e0 : Ext w w := Ext.refl w
 refine sqs ?_
 refine At.rk f0 1 [] .n (fun act2 f1 => ?_)
 clear f0
 refine At.dn ?_
 refine sqs ?_
 refine At.seq f1 1 [[]] [(4, .slice (some ⟨w.heap.size, 0, none⟩) 2 2)] (w.alloc (.cells #[.int .i64 (0), .int .i64 (1)] 3 (0, 0))) [] κ trivial (fun act6 w3 hw4 f5 => ?_)
 clear f1; have g7 := gr_alloc hw4; have := g7.size; replace e0 := e0.gn g7; have bx9 : Bx w3 (w.heap.size) [.int .i64 (0), .int .i64 (1)] 3 := Bx.new hw4; have := bx9.lt; clear g7 hw4
 refine At.seq f5 1 [[]] [(5, .slice (some ⟨w3.heap.size, 0, none⟩) 2 2)] (w3.alloc (.cells #[.int .i64 (0), .int .i64 (1)] 3 (0, 0))) [] κ trivial (fun cI aR bA bN => ?_)
 clear f5; have aZ := gr_alloc bA; have := aZ.size; replace e0 := e0.gn aZ; replace bx9 := bx9.gn aZ; have aA : Bx aR (w3.heap.size) [.int .i64 (0), .int .i64 (1)] 3 := Bx.new bA; have := aA.lt; clear aZ bA
 refine At.seq bN 1 [[]] [(6, .slice (some ⟨aR.heap.size, 0, none⟩) 2 2)] (aR.alloc (.cells #[.int .i64 (0), .int .i64 (1)] 3 (0, 0))) [] κ trivial (fun cJ aS bB bO => ?_)
 clear bN; have aV := gr_alloc bB; have := aV.size; replace e0 := e0.gn aV; replace bx9 := bx9.gn aV; replace aA := aA.gn aV; have aB : Bx aS (aR.heap.size) [.int .i64 (0), .int .i64 (1)] 3 := Bx.new bB; have := aB.lt; clear aV bB
 refine At.seq bO 1 [[]] [(7, .slice (some ⟨aS.heap.size, 0, none⟩) 2 2)] (aS.alloc (.cells #[.int .i64 (0), .int .i64 (1)] 3 (0, 0))) [] κ trivial (fun cK aK bC bP => ?_)
 clear bO; have aT := gr_alloc bC; have := aT.size; replace e0 := e0.gn aT; replace bx9 := bx9.gn aT; replace aA := aA.gn aT; replace aB := aB.gn aT; have aC : Bx aK (aS.heap.size) [.int .i64 (0), .int .i64 (1)] 3 := Bx.new bC; have := aC.lt; clear aT bC
 refine At.seq bP 1 [[]] [(8, .slice (some ⟨aK.heap.size, 0, none⟩) 2 2)] (aK.alloc (.cells #[.slice (some ⟨aR.heap.size, 0, none⟩) 2 2, .slice (some ⟨aS.heap.size, 0, none⟩) 2 2] 22 (0, 0))) [] κ trivial (fun cL bD bE bQ => ?_)
 clear bP; have aP := gr_alloc bE; have := aP.size; replace e0 := e0.gn aP; replace bx9 := bx9.gn aP; replace aA := aA.gn aP; replace aB := aB.gn aP; replace aC := aC.gn aP; have aD : Bx bD (aK.heap.size) [.slice (some ⟨aR.heap.size, 0, none⟩) 2 2, .slice (some ⟨aS.heap.size, 0, none⟩) 2 2] 22 := Bx.new bE; have := aD.lt; clear aP bE
 refine At.rk bQ 1 [(9, .agg #[.slice (some ⟨w.heap.size, 0, none⟩) 2 2, .slice (some ⟨w3.heap.size, 0, none⟩) 2 2, .slice (some ⟨aK.heap.size, 0, none⟩) 2 2])] .n (fun cM bR => ?_)
 clear bQ
 refine At.bx bR 1 [.slice none 0 0, .slice none 0 0, .slice none 0 0] 25 (fun cN aN bF cO bS => ?_)
 clear bR; have := aN.size; replace e0 := e0.gn aN; replace bx9 := bx9.gn aN; replace aA := aA.gn aN; replace aB := aB.gn aN; replace aC := aC.gn aN; replace aD := aD.gn aN; have := bF.lt; clear aN
 refine At.store bS (t := 25) (b := bD.heap.size) (off := 0) (v := .agg #[.slice (some ⟨w.heap.size, 0, none⟩) 2 2, .slice (some ⟨w3.heap.size, 0, none⟩) 2 2, .slice (some ⟨aK.heap.size, 0, none⟩) 2 2]) κ bF κ (fun cP aW aO aE bT => ?_)
 clear bS
 replace aE : Bx aW (bD.heap.size) [.slice (some ⟨w.heap.size, 0, none⟩) 2 2, .slice (some ⟨w3.heap.size, 0, none⟩) 2 2, .slice (some ⟨aK.heap.size, 0, none⟩) 2 2] 25 := aE
 have := aO.size; replace e0 := e0.gr aO (fun k h => by injection h; omega); replace bx9 := bx9.gb aO ω; replace aA := aA.gb aO ω; replace aB := aB.gb aO ω; replace aC := aC.gb aO ω; replace aD := aD.gb aO ω; clear bF aO
 refine At.dn ?_
 refine sqs ?_
 refine At.rk bT 1 [(11, .agg #[.slice (some ⟨w.heap.size, 0, none⟩) 2 2, .slice (some ⟨w3.heap.size, 0, none⟩) 2 2, .slice (some ⟨aK.heap.size, 0, none⟩) 2 2])] (.l (aE.cell (i := 0) rfl) <| .l (aE.cell (i := 1) rfl) <| .l (aE.cell (i := 2) rfl) <| .n) (fun cQ bU => ?_)
 clear bT
 refine At.seq bU 1 [[]] [(12, .slice (some ⟨aW.heap.size, 0, none⟩) 1 1)] (aW.alloc (.cells #[.int .i64 (0)] 3 (0, 0))) [] κ trivial (fun cR aX bG bV => ?_)
 clear bU; have aL := gr_alloc bG; have := aL.size; replace e0 := e0.gn aL; replace bx9 := bx9.gn aL; replace aA := aA.gn aL; replace aB := aB.gn aL; replace aC := aC.gn aL; replace aD := aD.gn aL; replace aE := aE.gn aL; have aH : Bx aX (aW.heap.size) [.int .i64 (0)] 3 := Bx.new bG; have := aH.lt; clear aL bG
 refine At.seq bV 1 [[]] [(13, .slice (some ⟨aX.heap.size, 0, none⟩) 3 3)] (aX.alloc (.cells #[.int .i64 (1), .int .i64 (1), .int .i64 (0)] 3 (0, 0))) [] κ trivial (fun cS cD bH bW => ?_)
 clear bV; have aJ := gr_alloc bH; have := aJ.size; replace e0 := e0.gn aJ; replace bx9 := bx9.gn aJ; replace aA := aA.gn aJ; replace aB := aB.gn aJ; replace aC := aC.gn aJ; replace aD := aD.gn aJ; replace aE := aE.gn aJ; replace aH := aH.gn aJ; have aM : Bx cD (aX.heap.size) [.int .i64 (1), .int .i64 (1), .int .i64 (0)] 3 := Bx.new bH; have := aM.lt; clear aJ bH
 refine At.cl bW (some 14) (args := #[.agg #[.slice (some ⟨w.heap.size, 0, none⟩) 2 2, .slice (some ⟨w3.heap.size, 0, none⟩) 2 2, .slice (some ⟨aK.heap.size, 0, none⟩) 2 2], .int .i64 (1), .int .i64 (0), .slice (some ⟨aW.heap.size, 0, none⟩) 1 1, .slice (some ⟨aX.heap.size, 0, none⟩) 3 3]) (runM_any (g := showG17) (i := 1) (p := 0) (lm := ([0] : List Int)) (ls := ([1, 1, 0] : List Int)) (RdG.mk (G := showG17) (Bx.rdI (l := ([0, 1] : List Int)) bx9 rfl (by first | decide | exact Nat.le_of_ble_eq_true rfl)) (Bx.rdI (l := ([0, 1] : List Int)) aA rfl (by first | decide | exact Nat.le_of_ble_eq_true rfl)) (Bx.rdII (ls := ([([0, 1] : List Int), ([0, 1] : List Int)] : List (List Int))) aD ⟨⟨_, _, rfl, (by decide), (Bx.rdI (l := ([0, 1] : List Int)) aB rfl (by first | decide | exact Nat.le_of_ble_eq_true rfl))⟩, ⟨_, _, rfl, (by decide), (Bx.rdI (l := ([0, 1] : List Int)) aC rfl (by first | decide | exact Nat.le_of_ble_eq_true rfl))⟩, trivial⟩ (by decide)) (by decide) (by decide) (by decide)) (Bx.rdI (l := ([0] : List Int)) aH rfl (by first | decide | exact Nat.le_of_ble_eq_true rfl)) (Bx.rdI (l := ([1, 1, 0] : List Int)) aM rfl (by first | decide | exact Nat.le_of_ble_eq_true rfl))) ?_
 rintro e_ bX ⟨r, hr, bI, bJ, bK, bL, rfl, he, aY, aU⟩
 have hlr := run_len hr
 refine ⟨_, rfl, _, rfl, fun cT bY => ?_⟩
 clear bW; have aI := gr_ext he; have := aI.size; replace e0 := e0.gn aI; replace bx9 := bx9.gn aI; replace aA := aA.gn aI; replace aB := aB.gn aI; replace aC := aC.gn aI; replace aD := aD.gn aI; replace aE := aE.gn aI; replace aH := aH.gn aI; replace aM := aM.gn aI; clear aI he
 refine At.rk bY 3 [(16, .int .i64 (r.err)), (15, .agg #[.slice bI r.ah.length bJ, .slice bK r.ro.length bL, .int .i64 (r.win)])] .n (fun cU bZ => ?_)
 clear bY
 refine At.bx bZ 2 [.slice none 0 0, .slice none 0 0, .int .i64 (0)] 55 (fun cV aF bM cW cA => ?_)
 clear bZ; have := aF.size; replace e0 := e0.gn aF; replace bx9 := bx9.gn aF; replace aA := aA.gn aF; replace aB := aB.gn aF; replace aC := aC.gn aF; replace aD := aD.gn aF; replace aE := aE.gn aF; replace aH := aH.gn aF; replace aM := aM.gn aF; replace aY := aY.grN aF; replace aU := aU.grN aF; have := bM.lt; clear aF
 refine At.store cA (t := 55) (b := bX.heap.size) (off := 0) (v := .agg #[.slice bI r.ah.length bJ, .slice bK r.ro.length bL, .int .i64 (r.win)]) κ bM κ (fun cX cE aG aQ cB => ?_)
 clear cA; replace aQ : Bx cE (bX.heap.size) [.slice bI r.ah.length bJ, .slice bK r.ro.length bL, .int .i64 (r.win)] 55 := aQ; have := aG.size; replace e0 := e0.gr aG (fun k h => by injection h; omega); replace bx9 := bx9.gb aG ω; replace aA := aA.gb aG ω; replace aB := aB.gb aG ω; replace aC := aC.gb aG ω; replace aD := aD.gb aG ω; replace aE := aE.gb aG ω; replace aH := aH.gb aG ω
 replace aM := aM.gb aG ω; replace aY := aY.gr aG (fun k hk => hk.1); replace aU := aU.gr aG (fun k hk => hk.1); clear bM aG
 refine At.rk cB 1 [(3, .int .i64 (r.err))] .n (fun cY cC => ?_)
 clear cB
 refine At.dn ?_
 clear bx9; clear aA; clear aB; clear aC; clear aD; clear aE; clear aH; clear aM
 refine wp_seq ?_
 have hrr := shown_run hr
 have hrl : r.ro.length = 1 := by rw [hrr]; rfl
 refine At.start ?_
 obtain ⟨cZ, cF, dA, cG, dB⟩ := aU.get (0) ω ω (sz := 1) rfl
 refine At.rk cC 27 [(0, .bool true)] (.v 18 (show (.bool ((r.err : Int) == 0) : Value) = .bool true from (congrArg Value.bool (by rw [hrr]; rfl))) <| .l (aQ.cell (i := 0) rfl) <| .v 23 (show (.bool ((((r.ah.length : Nat) : Int) : Int) == 3) : Value) = .bool true from (congrArg Value.bool (by rw [hrr]; rfl))) <| .l (aQ.cell (i := 1) rfl) <| .v 29 (show (.bool ((((r.ro.length : Nat) : Int) : Int) == 1) : Value) = .bool true from (congrArg Value.bool (by rw [hrr]; rfl))) <| .l (aQ.cell (i := 1) rfl) <| .a 0 r.ro.length cF <| .l cG <| .v 36 (show (.bool ((gI r.ro 0 : Int) == 0) : Value) = .bool true from (congrArg Value.bool (by rw [hrr]; rfl))) <| .l (aQ.cell (i := 2) rfl) <| .v 41 (show (.bool ((r.win : Int) == 0) : Value) = .bool true from (congrArg Value.bool (by rw [hrr]; rfl))) <| .n) (fun dC cH => ?_)
 clear cC
 refine At.dn ?_
 clear aY; clear aU; clear aQ
 refine wp_ret ?_
 refine ret_ cH [] [.bool true] [] κ trivial ?_
 exact ⟨rfl, e0⟩
end Go.Proofs.YtplpgfcjjnaigaaDoor
namespace Go.Proofs.YtplpgfcjjnaigaaDoor
open Go Go.RowKit
def inB (l : List Bool) (i : Int) : Prop := 0 ≤ i ∧ gB l i = true
instance (l : List Bool) (i : Int) : Decidable (inB l i) := by unfold inB; exact inferInstance
structure LiveB (g : GameL) (l : List Bool) : Prop where
  len : l.length = g.ow.length
  mv : ∀ i, inB l i → ∃ x ∈ gL g.mv i, inB l x
structure LessT (a b c : List Bool) : Prop where
  len : c.length = a.length
  at_ : ∀ j : Int, 0 ≤ j → j < (a.length : Int) → gB c j = (gB a j && !gB b j)
structure WonP (g : GameL) (l : List Bool) (p : Int) (a b : List Bool) : Prop where
  la : a.length = g.ow.length
  lb : b.length = g.ow.length
  all : ∀ i, inB l i ↔ inB a i ∨ inB b i
  wp : ∃ f, WinT g (inB l) p f (inB a)
  wq : ∃ f, WinT g (inB l) (1 - p) f (inB b)
section
variable {g : GameL} {I A B M T S a b c c2 a2 b2 a3 b3 : List Bool} {p t : Int}
theorem WonP.swap (h : WonP g I p a b) : WonP g I (1 - p) b a := ⟨h.lb, h.la, fun i => (h.all i).trans or_comm, h.wq, by rw [show 1 - (1 - p) = p by omega]; exact h.wp⟩
inductive DrN (g : GameL) (I : Int → Prop) (p : Int) (T : Int → Prop) : Nat → Int → Prop
  | base {n : Nat} {i : Int} : T i → I i → DrN g I p T n i
  | own {n : Nat} {i x : Int} : I i → gI g.ow i = p → x ∈ gL g.mv i → I x → DrN g I p T n x → DrN g I p T (n + 1) i
  | oth {n : Nat} {i : Int} : I i → gI g.ow i ≠ p → (∃ x ∈ gL g.mv i, I x) → (∀ x ∈ gL g.mv i, I x → DrN g I p T n x) → DrN g I p T (n + 1) i
theorem DrN.mono {J U : Int → Prop} {n : Nat} {i : Int} (h : DrN g J p U n i) : ∀ m, n ≤ m → DrN g J p U m i := by
  induction h with
  | base h1 h2 => exact fun m _ => .base h1 h2
  | own h1 h2 h3 h4 _ ih =>
    intro m hm
    obtain ⟨k, rfl⟩ : ∃ k, m = k + 1 := ⟨m - 1, by omega⟩
    exact .own h1 h2 h3 h4 (ih k (by omega))
  | oth h1 h2 h3 _ ih =>
    intro m hm
    obtain ⟨k, rfl⟩ : ∃ k, m = k + 1 := ⟨m - 1, by omega⟩
    exact .oth h1 h2 h3 (fun x hx hJ => ih x hx hJ k (by omega))
theorem Draw.congr {J T A : Int → Prop} {f f' : Int → Int} {rk : Int → Nat} (h : Draw g J p f T A rk) (he : ∀ i, A i → ¬ T i → gI g.ow i = p → f' i = f i) : Draw g J p f' T A rk :=
  ⟨h.sub, fun i a b e => by rw [he i a b e]; exact h.own i a b e, h.oth⟩
end
end Go.Proofs.YtplpgfcjjnaigaaDoor
namespace Go.Proofs.YtplpgfcjjnaigaaDoor
open Go Go.RowKit
structure LessK (a b c : List Bool) (k : Int) : Prop where
  len : c.length = a.length
  at_ : ∀ j : Int, 0 ≤ j → j < k → gB c j = (gB a j && !gB b j)
section
variable {g : GameL} {l m : List Bool} {t k : Int} {v : Bool}
structure MosK (g : GameL) (l m : List Bool) (t k : Int) : Prop where
  len : m.length = l.length
  at_ : ∀ j : Int, 0 ≤ j → j < k → gB m j = (gB l j && (gI g.pr j == t))
structure HghT (g : GameL) (l : List Bool) (t : Int) : Prop where
  le : ∀ i, inB l i → gI g.pr i ≤ t
  ex : ∃ i, inB l i ∧ gI g.pr i = t
  ge : 0 ≤ t
structure GotK (b x x3 : List Bool) (v : Bool) (k : Int) : Prop where
  len : x3.length = x.length
  at_ : ∀ j : Int, 0 ≤ j → j < (x.length : Int) → gB x3 j = if j < k ∧ gB b j = true then v else gB x j
end
section
variable {g : GameL} {I M A B b c c2 x2 y2 x3 y3 oth lo : List Bool} {p t k : Int}
end
end Go.Proofs.YtplpgfcjjnaigaaDoor
namespace Go.Proofs.YtplpgfcjjnaigaaDoor
open Go Go.RowKit
section
variable {g : GameL} {l0 l1 xa xb : List Int} {al x y : List Bool} {k : Int}
end
end Go.Proofs.YtplpgfcjjnaigaaDoor
namespace Go.Proofs.YtplpgfcjjnaigaaDoor
open Go Go.RowKit
def EL (g : GameL) (ls : List (List Int)) (i : Int) (P : Int → Prop) (x y : Int) : Prop := P x ∧ y ∈ gL ls x ∧ gI g.pr x ≤ gI g.pr i ∧ gI g.pr y ≤ gI g.pr i
structure LoT (g : GameL) (ls : List (List Int)) (i : Int) (P : Int → Prop) (iv : List Bool) (op : List Int) : Prop where
  inn : ∀ y, inB iv y → Way (EL g ls i P) i y
  opn : ∀ x ∈ op, P x ∧ gI g.pr x ≤ gI g.pr i ∧ (x = i ∨ Way (EL g ls i P) i x)
section
variable {g : GameL} {ls : List (List Int)} {i x m k : Int} {P : Int → Prop} {iv : List Bool} {op : List Int}
end
section
variable {g : GameL} {p i k : Int} {lm lr : List Int} {ls : List (List Int)}
structure WinsT (g : GameL) (p : Int) (lm lr : List Int) : Prop where
  win : WinT g (fun i => 0 ≤ i ∧ i < (g.ow.length : Int)) p (gI lm) (fun i => i ∈ lr)
  ml : lm.length = g.ow.length
end
end Go.Proofs.YtplpgfcjjnaigaaDoor
namespace Go.Proofs.YtplpgfcjjnaigaaDoor
open Go Go.RowKit
section
variable {g : GameL} {la lb ma mb wa wb : List Int} {d : Int}
theorem reg_right (hR : isR g = true) (hA : SolveT g la lb ma mb d) : ∃ s0 s1, la = lsD (fromW s0) 256 ∧ lb = lsD (fromW s1) 256 ∧ SolT g s0 s1 ma mb d := by
  rcases hA with ⟨h0, _⟩ | ⟨_, h⟩
  · rw [hR] at h0
    cases h0
  · exact h
end
end Go.Proofs.YtplpgfcjjnaigaaDoor
namespace Go.Proofs.YtplpgfcjjnaigaaDoor
open Go Go.RowKit
section
variable {g : GameL} {p i : Int} {mv sc : List Int} {W : Int → Prop}
theorem way_seq {E : Int → Int → Prop} {v : Nat → Int} : ∀ {n a : Nat}, (∀ k, a ≤ k → k < a + (n + 1) → E (v k) (v (k + 1))) → Way E (v a) (v (a + (n + 1)))
  | 0, a, h => .one (h a (Nat.le_refl _) (by omega))
  | n + 1, a, h => by
    have h1 := h a (Nat.le_refl _) (by omega)
    have h2 := way_seq (E := E) (v := v) (n := n) (a := a + 1) (fun k k1 k2 => h k (by omega) (by omega))
    rw [show a + 1 + (n + 1) = a + (n + 1 + 1) by omega] at h2
    exact .more h1 h2
theorem row_in {x m : Int} (hG : RightG g) (a : 0 ≤ x) (b : x < ((g.ow.length : Nat) : Int)) (h : m ∈ gL g.mv x) : 0 ≤ m ∧ m < ((g.ow.length : Nat) : Int) := by
  obtain ⟨k, hk, rfl⟩ := List.mem_iff_getElem.1 h
  have h1 := hG.mv x a b (k : Int) (by omega) (by omega)
  unfold gI at h1
  rw [show ((k : Nat) : Int).toNat = k by omega, List.getD_eq_getElem?_getD, List.getElem?_eq_getElem hk] at h1
  exact h1
theorem next_some {s : Int × Int} (hs : gI g.ow s.1 = p → s.1 < (mv.length : Int) ∧ gI mv s.1 ∈ gL g.mv s.1) : ∃ t, nextS g p mv sc s = some t := by
  unfold nextS
  by_cases e : gI g.ow s.1 = p
  · obtain ⟨h1, h2⟩ := hs e
    rw [if_pos e, if_pos h1, if_pos h2]
    exact ⟨_, rfl⟩
  · rw [if_neg e]
    exact ⟨_, rfl⟩
theorem traj_W (hG : RightG g) (hW : WinT g (fun i => 0 ≤ i ∧ i < ((g.ow.length : Nat) : Int)) p (gI mv) W) (hl : mv.length = g.ow.length) (hi : W i) : ∀ j : Nat, ∃ s, traj g p mv sc i j = some s ∧ W s.1
  | 0 => ⟨_, rfl, hi⟩
  | j + 1 => by
    obtain ⟨s, h1, h2⟩ := traj_W hG hW hl hi j
    have hI := hW.sub _ h2
    obtain ⟨t, ht⟩ := next_some (g := g) (p := p) (mv := mv) (sc := sc) (s := s) (fun e => ⟨by omega, (hW.own _ h2 e).1⟩)
    obtain ⟨h3, h4⟩ := next_in hG hI.1 hI.2 ht
    refine ⟨t, by show (traj g p mv sc i j).bind _ = _; rw [h1]; exact ht, ?_⟩
    by_cases e : gI g.ow s.1 = p
    · rw [← (h4 e).2]
      exact (hW.own _ h2 e).2
    · exact hW.oth _ h2 e _ h3 (row_in hG hI.1 hI.2 h3)
theorem won_run {r : PlayR} (hG : RightG g) (hW : WinT g (fun i => 0 ≤ i ∧ i < ((g.ow.length : Nat) : Int)) p (gI mv) W) (hl : mv.length = g.ow.length) (hi : W i) (hok : okP g i p) (h64 : sc.length ≤ 64) (h : RunT g i p mv sc r) :
    r.err = 0 ∧ r.win = p ∧ (∀ x ∈ r.ah, W x) ∧ ∀ x ∈ r.ro, W x := by
  have hT := traj_W (sc := scN sc) hG hW hl hi
  rcases err_traj hok h64 h with ⟨he, hr⟩ | ⟨_, j, hj⟩
  rotate_left
  · obtain ⟨s, hs, _⟩ := hT j
    rw [hj] at hs
    cases hs
  have hst : ∀ j, W (stepP r j) := fun j => by
    obtain ⟨y, hy⟩ := hr.st j
    obtain ⟨s, hs, hw⟩ := hT j
    rw [hy] at hs
    injection hs with hs
    rw [← hs] at hw
    exact hw
  have hgo : ∀ j, stepW g (fun i => 0 ≤ i ∧ i < ((g.ow.length : Nat) : Int)) p (gI mv) W (stepP r j) (stepP r (j + 1)) := fun j => by
    obtain ⟨y, hy⟩ := hr.st j
    obtain ⟨z, hz⟩ := hr.st (j + 1)
    have hI := hW.sub _ (hst j)
    have hz : (traj g p mv (scN sc) i j).bind (nextS g p mv (scN sc)) = some (stepP r (j + 1), z) := hz
    rw [hy] at hz
    obtain ⟨h3, h4⟩ := next_in hG hI.1 hI.2 (show nextS g p mv (scN sc) (stepP r j, y) = _ from hz)
    exact ⟨hst j, h3, hW.sub _ (hst (j + 1)), fun e => (h4 e).2.symm⟩
  have hro : ∀ x ∈ r.ro, W x := fun x hx => by
    obtain ⟨j, _, rfl⟩ := ro_step hx 0
    exact hst j
  refine ⟨he, ?_, fun x hx => ?_, hro⟩
  · rw [hr.win]
    have hn := hr.ne
    have htop : ∃ x ∈ r.ro, gI g.pr x = topP g r.ro := by
      rcases top_at g r.ro with e | e
      · have hx : r.ro[0] ∈ r.ro := List.getElem_mem _
        have h1 := top_mem (g := g) hx
        have h2 := hW.sub _ (hro _ hx)
        have h3 := hG.pr _ h2.1 h2.2
        exact ⟨_, hx, by omega⟩
      · exact e
    obtain ⟨x, hx, hxt⟩ := htop
    have hp := hok.2.2.2
    by_cases hc : topP g r.ro % 2 = p
    · exact hc
    exfalso
    refine hW.cyc x (hro x hx) (by rw [hxt]; exact hc) ?_
    obtain ⟨j, hj, hjx⟩ := ro_step hx r.ah.length
    have hper : stepP r (j + (r.ro.length - 1 + 1)) = x := by
      rw [← hjx]
      unfold stepP
      rw [if_neg (by omega), if_neg (by omega), show j + (r.ro.length - 1 + 1) - r.ah.length = (j - r.ah.length) + r.ro.length by omega, Nat.add_mod_right]
    have hway := way_seq (E := lowE g (fun i => 0 ≤ i ∧ i < ((g.ow.length : Nat) : Int)) p (gI mv) W (gI g.pr x)) (v := stepP r) (n := r.ro.length - 1) (a := j) (fun k k1 k2 => by
      refine ⟨hgo k, ?_, ?_⟩
      · rw [hxt]
        exact top_mem (step_ro (by omega) hn)
      · rw [hxt]
        exact top_mem (step_ro (by omega) hn))
    rw [hper, hjx] at hway
    exact hway
  · obtain ⟨t, ht, rfl⟩ := List.mem_iff_getElem.1 hx
    have h1 := hst t
    unfold stepP at h1
    rw [if_pos ht, List.getD_eq_getElem?_getD, List.getElem?_eq_getElem ht] at h1
    exact h1
theorem pw_in {s a b : List Int} (ha : ∀ x ∈ a, inP s x) (hb : ∀ x ∈ b, inP s x) : inW (orS (ofW a) (ofW b)) (ofW (lsD (fromW s) 256)) = true := by
  rw [inW_from (okW_orS (ofW_ok _) (ofW_ok _)) (ofW_ok _), from_orS, from_of, from_of, from_of]
  exact (in_good (k := 256) (by omega) (fun j h0 h1 hj => by
    rw [gB_orD h0 h1, gB_ofD _ h0 h1, gB_ofD _ h0 h1] at hj
    rw [gB_ofD _ h0 h1]
    simp only [Bool.or_eq_true, decide_eq_true_eq] at hj
    refine decide_eq_true (inP_ls.2 ?_)
    rcases hj with hj | hj
    · exact ha j hj
    · exact hb j hj)).symm
structure PwT (r : PlayR) (p : Int) (l : List Int) : Prop where
  err : r.err = 0
  win : r.win = p
  all : inW (orS (ofW r.ah) (ofW r.ro)) (ofW l) = true
theorem pw_0 {la lb ma mb : List Int} {d k : Int} {r : PlayR} (hR : isR g = true) (hA : SolveT g la lb ma mb d) (h0 : 0 ≤ k) (h1 : k < ((la.length : Nat) : Int)) (h64 : sc.length ≤ 64) (h : RunT g (gI la k) 0 ma sc r) : PwT r 0 la := by
  obtain ⟨s0, s1, rfl, rfl, hs⟩ := reg_right hR hA
  have hG := isR_ok hR
  have hin : inP s0 (gI (lsD (fromW s0) 256) k) := inP_ls.1 (in_at h0 h1 rfl)
  have hI := hs.sp.w0.sub _ hin
  obtain ⟨e, w, a, b⟩ := won_run hG hs.sp.w0 hs.l0 hin ⟨hR, hI.1, hI.2, .inl rfl⟩ h64 h
  exact ⟨e, w, pw_in a b⟩
theorem pw_1 {la lb ma mb : List Int} {d k : Int} {r : PlayR} (hR : isR g = true) (hA : SolveT g la lb ma mb d) (h0 : 0 ≤ k) (h1 : k < ((lb.length : Nat) : Int)) (h64 : sc.length ≤ 64) (h : RunT g (gI lb k) 1 mb sc r) : PwT r 1 lb := by
  obtain ⟨s0, s1, rfl, rfl, hs⟩ := reg_right hR hA
  have hG := isR_ok hR
  have hin : inP s1 (gI (lsD (fromW s1) 256) k) := inP_ls.1 (in_at h0 h1 rfl)
  have hI := hs.sp.w1.sub _ hin
  obtain ⟨e, w, a, b⟩ := won_run hG hs.sp.w1 hs.l1 hin ⟨hR, hI.1, hI.2, .inr rfl⟩ h64 h
  exact ⟨e, w, pw_in a b⟩
end
end Go.Proofs.YtplpgfcjjnaigaaDoor
namespace Go.Proofs.YtplpgfcjjnaigaaDoor
open Go Go.RowKit
set_option maxHeartbeats 4000000 in
theorem in_any {s : List Int} {t : List Int} {w : World} (hs : OkW s) (ht : OkW t) :
    Calls Tryd.prog 33 #[.agg ((s : List Int).map wV).toArray, .agg ((t : List Int).map wV).toArray] w fun e w' => e = .returned (.bool (inW s t)) ∧ Ext w w' := by
 have hls := hs.1; have hlt := ht.1
 refine enter_ (args := [.agg ((s : List Int).map wV).toArray, .agg ((t : List Int).map wV).toArray]) Tryd.func33 rfl Tryd.ntmps33 (Nat.le_of_ble_eq_true rfl) (fun act0 f0 => ?_)
 have e0 : Ext w w := Ext.refl w
 refine sqs ?_
 refine At.bx f0 2 ((s : List Int).map wV) 44 (fun w1 g5 bx6 act4 f3 => ?_)
 clear f0; have := g5.size; replace e0 := e0.gn g5; have := bx6.lt; clear g5
 refine At.bx f3 3 ((t : List Int).map wV) 44 (fun w9 aB aC aI aD => ?_)
 clear f3; have := aB.size; replace e0 := e0.gn aB; replace bx6 := bx6.gn aB; have := aC.lt; clear aB
 refine At.rk aD 1 [] .n (fun aJ aE => ?_)
 clear aD
 refine At.dn ?_
 refine sqs ?_
 refine At.rk aE 2 [(6, .agg ((t : List Int).map wV).toArray), (5, .agg ((s : List Int).map wV).toArray)] (.p (show ((s : List Int).map wV).length = 4 from ((List.length_map _).trans σ)) <| .p bx6.whole <| .o (.cs ((s : List Int).map wV)) <| .p (show ((t : List Int).map wV).length = 4 from ((List.length_map _).trans σ)) <| .p aC.whole <| .o (.cs ((t : List Int).map wV)) <| .n) (fun aK aF => ?_)
 clear aE
 refine At.cl aF (some 7) (minus_any (s := s) (t := t) (by repeat (first | assumption | exact ofW_ok _ | exact fullW_W _ | exact wordsD_W _ | exact okW_0 | exact okW_00 | apply okW_orS | apply okW_andS | apply okW_minusS | apply okW_with | apply okW_less | apply okW_or | apply okW_and | apply okW_minus | (apply okW_lit <;> exact ⟨by omega, by omega⟩))) (by repeat (first | assumption | exact ofW_ok _ | exact fullW_W _ | exact wordsD_W _ | exact okW_0 | exact okW_00 | apply okW_orS | apply okW_andS | apply okW_minusS | apply okW_with | apply okW_less | apply okW_or | apply okW_and | apply okW_minus | (apply okW_lit <;> exact ⟨by omega, by omega⟩)))) ?_
 rintro e_ aL ⟨rfl, he⟩
 refine ⟨_, rfl, _, rfl, fun aM aG => ?_⟩
 clear aF; have aA := gr_ext he; have := aA.size; replace e0 := e0.gn aA; replace bx6 := bx6.gn aA; replace aC := aC.gn aA; clear aA he
 refine At.rk aG 3 [(4, .bool (decide ((ofZW (fun j => notW (gI s j) (gI t j)) : List Int) = ([0, 0, 0, 0]))))] (.p (show ((ofZW (fun j => notW (gI s j) (gI t j)) : List Int).map wV).toArray = ([wV (gI (ofZW (fun j => notW (gI s j) (gI t j))) 0), wV (gI (ofZW (fun j => notW (gI s j) (gI t j))) 1), wV (gI (ofZW (fun j => notW (gI s j) (gI t j))) 2), wV (gI (ofZW (fun j => notW (gI s j) (gI t j))) 3)] : List Value).toArray from (map4 len_4)) <| .p (show (([0, 0, 0, 0] : List Int).map wV).toArray = ([wV (gI ([0, 0, 0, 0]) 0), wV (gI ([0, 0, 0, 0]) 1), wV (gI ([0, 0, 0, 0]) 2), wV (gI ([0, 0, 0, 0]) 3)] : List Value).toArray from (map4 (okLen okW_00))) <| .p (show (.bool ((((gI (ofZW (fun j => notW (gI s j) (gI t j))) 0 : Int) == gI ([0, 0, 0, 0]) 0) && (((gI (ofZW (fun j => notW (gI s j) (gI t j))) 1 : Int) == gI ([0, 0, 0, 0]) 1) && (((gI (ofZW (fun j => notW (gI s j) (gI t j))) 2 : Int) == gI ([0, 0, 0, 0]) 2) && (((gI (ofZW (fun j => notW (gI s j) (gI t j))) 3 : Int) == gI ([0, 0, 0, 0]) 3) && true))))) : Value) = .bool (decide ((ofZW (fun j => notW (gI s j) (gI t j)) : List Int) = ([0, 0, 0, 0]))) from (congrArg (fun b => Value.bool b) (w4_eq len_4 (okLen okW_00)))) <| .o (.cs [wV (gI (ofZW (fun j => notW (gI s j) (gI t j))) 0), wV (gI (ofZW (fun j => notW (gI s j) (gI t j))) 1), wV (gI (ofZW (fun j => notW (gI s j) (gI t j))) 2), wV (gI (ofZW (fun j => notW (gI s j) (gI t j))) 3)]) <| .o (.cs [wV (gI ([0, 0, 0, 0]) 0), wV (gI ([0, 0, 0, 0]) 1), wV (gI ([0, 0, 0, 0]) 2), wV (gI ([0, 0, 0, 0]) 3)]) <| .o (.av 9 (.bool (decide ((ofZW (fun j => notW (gI s j) (gI t j)) : List Int) = ([0, 0, 0, 0]))))) <| .n) (fun aN aH => ?_)
 clear aG
 refine At.dn ?_
 refine wp_ret ?_
 refine ret_ aH [] [.bool (decide ((ofZW (fun j => notW (gI s j) (gI t j)) : List Int) = ([0, 0, 0, 0])))] [] κ trivial ?_
 exact ⟨rfl, e0⟩
end Go.Proofs.YtplpgfcjjnaigaaDoor
namespace Go.Proofs.YtplpgfcjjnaigaaDoor
open Go Go.RowKit
attribute [local irreducible] ofZ fromW wordsD ofD ofW lsD lenW lenN fullW withW lessW hasW hasD inW inD leastD putD onI tzI orS andS minusS orD andD minusD fullD emptyD
set_option maxHeartbeats 4000000 in
theorem won17_any {Ag0 Ag1 Ag2 : Option Addr} {cg0 cg1 cg2 : Nat} {g : GameL} {Asc : Option Addr} {csc : Nat} {lss : List (List Int)} {w : World} (rg : RdG w 0 w.heap.size Ag0 Ag1 Ag2 cg0 cg1 cg2 g) (rsc : RdII w 0 w.heap.size Asc lss) (rT : RdT w 0 w.heap.size) :
    Calls Tryd.prog 11 #[.agg #[.slice Ag0 g.ow.length cg0, .slice Ag1 g.pr.length cg1, .slice Ag2 g.mv.length cg2], .slice Asc lss.length csc] w fun e w' => e = .returned (.bool true) ∧ Ext w w' := by
 have hlg0 := rg.ow.len; have hlg1 := rg.pr.len; have hlg2 := rg.mv.len; have hkg0 := rg.k0; have hkg1 := rg.k1; have hkg2 := rg.k2; have hlsc := rsc.len
 refine enter_ (args := [.agg #[.slice Ag0 g.ow.length cg0, .slice Ag1 g.pr.length cg1, .slice Ag2 g.mv.length cg2], .slice Asc lss.length csc]) Tryd.func11 rfl Tryd.ntmps11 (Nat.le_of_ble_eq_true rfl) (fun act0 f0 => ?_)
 have e0 : Ext w w := Ext.refl w
 refine sqs ?_
 refine At.bx f0 2 [.slice Ag0 g.ow.length cg0, .slice Ag1 g.pr.length cg1, .slice Ag2 g.mv.length cg2] 25 (fun w1 g5 bx6 act4 f3 => ?_)
 clear f0; have := g5.size; replace e0 := e0.gn g5; have r9 := rg.gn g5; clear rg; have aQ := rT.gn g5; clear rT; have bA := rsc.gn g5; clear rsc; have := bx6.lt; clear g5
 refine At.rk f3 1 [(4, .bool false)] .n (fun wM oK => ?_)
 clear f3
 refine At.dn ?_
 refine sqs ?_
 refine At.cl oK (some 17) (shown17_any) ?_
 rintro e_ wN ⟨rfl, he⟩
 refine ⟨_, rfl, _, rfl, fun wO oL => ?_⟩
 clear oK; have gR := gr_ext he; have := gR.size; replace e0 := e0.gn gR; replace r9 := r9.gn gR; replace aQ := aQ.gn gR; replace bA := bA.gn gR; replace bx6 := bx6.gn gR; clear gR he
 refine At.rk oL 1 [(5, .bool true)] .n (fun wP oM => ?_)
 clear oL
 refine At.dn ?_
 refine sqs ?_
 refine At.rk oM 1 [(19, .agg #[.slice Ag0 g.ow.length cg0, .slice Ag1 g.pr.length cg1, .slice Ag2 g.mv.length cg2])] (.l (bx6.cell (i := 0) rfl) <| .l (bx6.cell (i := 1) rfl) <| .l (bx6.cell (i := 2) rfl) <| .n) (fun wQ oN => ?_)
 clear oM
 refine At.cl oN (some 20) (args := #[.agg #[.slice Ag0 g.ow.length cg0, .slice Ag1 g.pr.length cg1, .slice Ag2 g.mv.length cg2]]) (right_any (r9.wide (Nat.zero_le _) ω)) ?_
 rintro e_ aB ⟨rfl, he⟩
 refine ⟨_, rfl, _, rfl, fun wR oO => ?_⟩
 clear oN; have gS := gr_ext he; have := gS.size; replace e0 := e0.gn gS; replace r9 := r9.gn gS; replace aQ := aQ.gn gS; replace bA := bA.gn gS; replace bx6 := bx6.gn gS; clear gS he
 refine At.rk oO 5 [(7, .int .i64 ((rightP g).2))] .n (fun wS oP => ?_)
 clear oO
 refine At.dn ?_
 refine wp_seq ?_
 refine sqs ?_
 refine At.rk oP 6 [(28, .bool (((rightP g).2 : Int) != 0))] .n (fun wT hZ => ?_)
 clear oP
 refine At.dn ?_
 refine cond_S hZ (t := ((rightP g).2 : Int) != 0) rfl (fun lQ => ?_) (fun lQ => ?_)
 ·have wU := bne_iff_ne.1 lQ
  refine sqs ?_
  refine At.rk hZ 2 [(4, .bool true)] .n (fun wW uH => ?_)
  clear hZ
  refine At.dn ?_
  clear bx6
  refine wp_ret ?_
  refine t_r ?_
  refine ret_ uH [] [.bool true] [] κ trivial ?_
  exact ⟨rfl, e0⟩
 have wX := bne_eq_false_iff_eq.1 lQ
 refine wp_skip ?_
 refine t_n ?_
 refine wp_seq ?_
 have hR : isR g = true := right_of2 ω; have hG := isR_ok hR; have hn1 := hG.n1; have hpl := hG.pl; have hml := hG.ml
 refine At.start ?_
 refine At.rk hZ 1 [(31, .agg #[.slice Ag0 g.ow.length cg0, .slice Ag1 g.pr.length cg1, .slice Ag2 g.mv.length cg2])] (.l (bx6.cell (i := 0) rfl) <| .l (bx6.cell (i := 1) rfl) <| .l (bx6.cell (i := 2) rfl) <| .n) (fun wY oQ => ?_)
 clear hZ
 refine At.cl oQ (some 32) (args := #[.agg #[.slice Ag0 g.ow.length cg0, .slice Ag1 g.pr.length cg1, .slice Ag2 g.mv.length cg2]]) (solve_any (g := g) (r9.wide (Nat.zero_le _) ω) (aQ.wide (Nat.zero_le _) ω)) ?_
 rintro e_ aA ⟨aF, bB, aD, aI, aE, aR, aC, aG, la, lb, ma, mb, da, rfl, he, oR, oS, oT, oU, hsA⟩
 have hln_hsA := solve_lens hsA; have dW : RdI aA (aB.heap.size) aA.heap.size aF la := (OwnR.rdR oR (by show _ * 8 ≤ _; omega)).rdI; clear oR; have eA : RdI aA (aB.heap.size) aA.heap.size aD lb := (OwnR.rdR oS (by show _ * 8 ≤ _; omega)).rdI; clear oS; have eB : RdI aA (aB.heap.size) aA.heap.size aE ma := (OwnR.rdR oT (by show _ * 8 ≤ _; omega)).rdI; clear oT
 have eC : RdI aA (aB.heap.size) aA.heap.size aC mb := (OwnR.rdR oU (by show _ * 8 ≤ _; omega)).rdI; clear oU
 refine ⟨_, rfl, _, rfl, fun wZ oV => ?_⟩
 clear oQ; have gT := gr_ext he; have := gT.size; replace e0 := e0.gn gT; replace r9 := r9.gn gT; replace aQ := aQ.gn gT; replace bA := bA.gn gT; replace bx6 := bx6.gn gT; clear gT he
 refine At.rk oV 3 [(34, .int .i64 (da)), (33, .agg #[.slice aF la.length bB, .slice aD lb.length aI, .slice aE ma.length aR, .slice aC mb.length aG])] .n (fun xA oW => ?_)
 clear oV
 refine At.bx oW 8 [.slice none 0 0, .slice none 0 0, .slice none 0 0, .slice none 0 0] 32 (fun xB eV lR xC oX => ?_)
 clear oW; have := eV.size; replace e0 := e0.gn eV; replace r9 := r9.gn eV; replace aQ := aQ.gn eV; replace bA := bA.gn eV; replace bx6 := bx6.gn eV; replace dW := dW.gn eV; replace eA := eA.gn eV; replace eB := eB.gn eV; replace eC := eC.gn eV; have := lR.lt; clear eV
 refine At.store oX (t := 32) (b := aA.heap.size) (off := 0) (v := .agg #[.slice aF la.length bB, .slice aD lb.length aI, .slice aE ma.length aR, .slice aC mb.length aG]) κ lR κ (fun xD uI eW eX oY => ?_)
 clear oX; replace eX : Bx uI (aA.heap.size) [.slice aF la.length bB, .slice aD lb.length aI, .slice aE ma.length aR, .slice aC mb.length aG] 32 := eX; have := eW.size; replace e0 := e0.gr eW (fun k h => by injection h; omega); replace r9 := r9.gb eW ω; replace aQ := aQ.gb eW ω; replace bA := bA.gb eW ω; replace bx6 := bx6.gb eW ω; replace dW := dW.gb eW ω; replace eA := eA.gb eW ω
 replace eB := eB.gb eW ω; replace eC := eC.gb eW ω; clear lR eW
 refine At.rk oY 1 [] .n (fun xE oZ => ?_)
 clear oY
 refine At.dn ?_
 refine wp_seq ?_
 refine sqs ?_
 refine At.rk oZ 1 [(10, .int .i64 (0))] .n (fun xF pA => ?_)
 clear oZ
 refine At.dn ?_
 refine wp_block ?_
 have pB := pA.sb (r := [(10, .int .i64 (0)), (8, pt aA.heap.size 0), (4, .bool false), (2, pt w.heap.size 0), (1, .slice Asc lss.length csc)]); clear pA
 refine loop_u0 ?_
 refine loop_u ?_
 refine wp_seq ?_
 refine sqs ?_
 refine At.rk pB 2 [(36, .bool true)] (.v 36 (show (.bool (decide ((0 : Int) < 2)) : Value) = .bool true from κ) <| .n) (fun xG lS => ?_)
 clear pB
 refine At.dn ?_
 refine cond_T lS rfl ?_
 refine wp_skip ?_
 refine t_n ?_
 refine wp_seq ?_
 refine wp_block ?_
 refine sqs ?_
 refine At.rk lS 4 [(42, .slice aF la.length bB)] (.b 0 2 <| .l (eX.cell (i := 0) rfl) <| .n) (fun xH pC => ?_)
 clear lS
 refine At.cl pC (some 43) (args := #[.slice aF la.length bB]) (of_any (la := la) (dW.wide (Nat.zero_le _) ω)) ?_
 rintro e_ eY ⟨rfl, he⟩
 refine ⟨_, rfl, _, rfl, fun xI pD => ?_⟩
 clear pC; have eD := gr_ext he; have := eD.size; replace e0 := e0.gn eD; replace r9 := r9.gn eD; replace aQ := aQ.gn eD; replace bA := bA.gn eD; replace bx6 := bx6.gn eD; replace dW := dW.gn eD; replace eA := eA.gn eD; replace eB := eB.gn eD; replace eC := eC.gn eD; replace eX := eX.gn eD; clear eD he
 refine At.bx pD 11 ((List.replicate 4 (0 : Int) : List Int).map wV) 44 (fun xJ eE lT xK pE => ?_)
 clear pD; have := eE.size; replace e0 := e0.gn eE; replace r9 := r9.gn eE; replace aQ := aQ.gn eE; replace bA := bA.gn eE; replace bx6 := bx6.gn eE; replace dW := dW.gn eE; replace eA := eA.gn eE; replace eB := eB.gn eE; replace eC := eC.gn eE; replace eX := eX.gn eE; have := lT.lt; clear eE
 refine At.act pE (storeBlk (t := 44) (b := eY.heap.size) (n := 4) (cs' := ((ofW la : List Int).map wV)) κ κ ((List.length_map _).trans (okLen (ofW_ok _))) oneW_ ((show ((ofW la : List Int).map wV).length = 4 from ((List.length_map _).trans (okLen (ofW_ok _)))).trans (show ((List.replicate 4 (0 : Int) : List Int).map wV).length = 4 from len_P).symm) lT) ?_
 rintro d_ v_ xL ⟨rfl, eF, pF⟩
 refine ⟨_, rfl, fun xM pG => ?_⟩
 clear pE; have := eF.size; replace e0 := e0.gr eF (fun k h => by injection h; omega); replace r9 := r9.gb eF ω; replace aQ := aQ.gb eF ω; replace bA := bA.gb eF ω; replace bx6 := bx6.gb eF ω; replace dW := dW.gb eF ω; replace eA := eA.gb eF ω; replace eB := eB.gb eF ω; replace eC := eC.gb eF ω; replace eX := eX.gb eF ω; clear lT eF
 refine At.dn ?_
 refine sqs ?_
 refine At.rk pG 1 [(12, .int .i64 (0))] .n (fun xN pH => ?_)
 clear pG
 refine At.dn ?_
 refine wp_block ?_
 refine loop_g (fun (m_ : Nat) a_ w_ => ∃ (i0 : Int), m_ = ((la.length : Int) - i0).toNat ∧ (Frm 114 a_ [(12, .int .i64 (i0)), (11, pt eY.heap.size 0), (10, .int .i64 (0)), (8, pt aA.heap.size 0), (2, pt w.heap.size 0), (1, .slice Asc lss.length csc)]) ∧ (Ext w w_) ∧ (RdG w_ 0 w.heap.size Ag0 Ag1 Ag2 cg0 cg1 cg2 g) ∧ (RdT w_ 0 w.heap.size) ∧ (RdII w_ 0 w.heap.size Asc lss) ∧ (Bx w_ (w.heap.size) [.slice Ag0 g.ow.length cg0, .slice Ag1 g.pr.length cg1, .slice Ag2 g.mv.length cg2] 25) ∧ (RdI w_ (aB.heap.size) aA.heap.size aF la) ∧ (RdI w_ (aB.heap.size) aA.heap.size aD lb) ∧ (RdI w_ (aB.heap.size) aA.heap.size aE ma) ∧ (RdI w_ (aB.heap.size) aA.heap.size aC mb) ∧ (Bx w_ (aA.heap.size) [.slice aF la.length bB, .slice aD lb.length aI, .slice aE ma.length aR, .slice aC mb.length aG] 32) ∧ (Bx w_ (eY.heap.size) ((ofW la : List Int).map wV) 44) ∧ (0 ≤ i0) ∧ (i0 ≤ (la.length : Int))) _ ⟨0, rfl, pH.sb, e0, r9, aQ, bA, bx6, dW, eA, eB, eC, eX, pF, ω, (Int.natCast_nonneg _)⟩ ?_
 clear pH; clear r9; clear aQ; clear bA; clear bx6; clear dW; clear eA; clear eB; clear eC; clear eX; clear pF; clear e0
 intro m_ xO xP ⟨i0, hm169, lB, aS, bC, bD, bE, aT, bF, aM, bG, bH, aH, iA, i181, i182⟩
 have := aS.size; have := aT.lt; have := aH.lt; have := iA.lt
 refine wp_seq ?_
 refine sqs ?_
 rcases Bool.eq_false_or_eq_true (decide ((i0 : Int) < ((la.length : Nat) : Int))) with iB | iB
 ·have xQ := of_decide_eq_true iB
  refine At.rk lB 11 [(54, .bool (decide ((i0 : Int) < 30))), (53, .bool (decide ((i0 : Int) < 30))), (52, .int .i64 (i0))] (.b 0 2 <| .l (aH.cell (i := 0) rfl) <| .e 51 iB <| .n) (fun xR iC => ?_)
  clear lB
  refine At.dn ?_
  refine cond_S iC (t := decide ((i0 : Int) < 30)) rfl (fun lU => ?_) (fun lU => ?_)
  ·have xS := of_decide_eq_true lU
   refine wp_skip ?_
   refine t_n ?_
   refine wp_seq ?_
   refine wp_block ?_
   refine sqs ?_
   refine At.rk iC 1 [(13, .int .i64 (0))] .n (fun xT pI => ?_)
   clear iC
   refine At.dn ?_
   refine wp_block ?_
   refine loop_g (fun (m_ : Nat) a_ w_ => ∃ (k0 : Int), m_ = ((lss.length : Int) - k0).toNat ∧ (Frm 114 a_ [(13, .int .i64 (k0)), (53, .bool (decide ((i0 : Int) < 30))), (52, .int .i64 (i0)), (12, .int .i64 (i0)), (11, pt eY.heap.size 0), (10, .int .i64 (0)), (8, pt aA.heap.size 0), (2, pt w.heap.size 0), (1, .slice Asc lss.length csc)]) ∧ (Ext w w_) ∧ (RdG w_ 0 w.heap.size Ag0 Ag1 Ag2 cg0 cg1 cg2 g) ∧ (RdT w_ 0 w.heap.size) ∧ (RdII w_ 0 w.heap.size Asc lss) ∧ (Bx w_ (w.heap.size) [.slice Ag0 g.ow.length cg0, .slice Ag1 g.pr.length cg1, .slice Ag2 g.mv.length cg2] 25) ∧ (RdI w_ (aB.heap.size) aA.heap.size aF la) ∧ (RdI w_ (aB.heap.size) aA.heap.size aD lb) ∧ (RdI w_ (aB.heap.size) aA.heap.size aE ma) ∧ (RdI w_ (aB.heap.size) aA.heap.size aC mb) ∧ (Bx w_ (aA.heap.size) [.slice aF la.length bB, .slice aD lb.length aI, .slice aE ma.length aR, .slice aC mb.length aG] 32) ∧ (Bx w_ (eY.heap.size) ((ofW la : List Int).map wV) 44) ∧ (0 ≤ k0) ∧ (k0 ≤ (lss.length : Int))) _ ⟨0, rfl, pI.sb, aS, bC, bD, bE, aT, bF, aM, bG, bH, aH, iA, ω, (Int.natCast_nonneg _)⟩ ?_
   clear pI; clear bC; clear bD; clear bE; clear aT; clear bF; clear aM; clear bG; clear bH; clear aH; clear iA; clear aS
   intro m_ xU uJ ⟨k0, hm195, lC, hF, iD, iE, hH, hI, iF, iG, iH, iI, hJ, hK, i207, i208⟩
   have := hF.size; have := hI.lt; have := hJ.lt; have := hK.lt
   refine wp_seq ?_
   refine sqs ?_
   rcases Bool.eq_false_or_eq_true (decide ((k0 : Int) < ((lss.length : Nat) : Int))) with iJ | iJ
   ·have xV := of_decide_eq_true iJ
    refine At.rk lC 8 [(64, .bool (decide ((k0 : Int) < 4))), (63, .bool (decide ((k0 : Int) < 4))), (62, .int .i64 (k0))] (.e 61 iJ <| .n) (fun xW iK => ?_)
    clear lC
    refine At.dn ?_
    refine cond_S iK (t := decide ((k0 : Int) < 4)) rfl (fun lV => ?_) (fun lV => ?_)
    ·have xX := of_decide_eq_true lV
     refine wp_skip ?_
     refine t_n ?_
     refine wp_seq ?_
     refine wp_block ?_
     refine sqs ?_
     obtain ⟨xY, hL, gU, uK, _, _, uL, xZ, lW⟩ := RdII.get hH (k0) ω ω
     have yA := lW.len
     refine At.rk iK 5 [(14, .slice hL ((gL lss (k0)).length) gU)] (.a k0 lss.length uK <| .l uL <| .n) (fun yB lX => ?_)
     clear iK
     refine At.dn ?_
     refine wp_seq (cut (fun a_ w_ => ∃ (As2 : Option Addr) (cs2 : Nat) (sc : List Int), (Frm 114 a_ [(14, .slice As2 sc.length cs2), (63, .bool (decide ((k0 : Int) < 4))), (62, .int .i64 (k0)), (13, .int .i64 (k0)), (53, .bool (decide ((i0 : Int) < 30))), (52, .int .i64 (i0)), (12, .int .i64 (i0)), (11, pt eY.heap.size 0), (10, .int .i64 (0)), (8, pt aA.heap.size 0), (2, pt w.heap.size 0), (1, .slice Asc lss.length csc)]) ∧ (Ext w w_) ∧ (RdG w_ 0 w.heap.size Ag0 Ag1 Ag2 cg0 cg1 cg2 g) ∧ (RdT w_ 0 w.heap.size) ∧ (RdII w_ 0 w.heap.size Asc lss) ∧ (Bx w_ (w.heap.size) [.slice Ag0 g.ow.length cg0, .slice Ag1 g.pr.length cg1, .slice Ag2 g.mv.length cg2] 25) ∧ (RdI w_ (aB.heap.size) aA.heap.size aF la) ∧ (RdI w_ (aB.heap.size) aA.heap.size aD lb) ∧ (RdI w_ (aB.heap.size) aA.heap.size aE ma) ∧ (RdI w_ (aB.heap.size) aA.heap.size aC mb) ∧ (Bx w_ (aA.heap.size) [.slice aF la.length bB, .slice aD lb.length aI, .slice aE ma.length aR, .slice aC mb.length aG] 32) ∧ (Bx w_ (eY.heap.size) ((ofW la : List Int).map wV) 44) ∧ (RdI w_ 0 w.heap.size As2 sc) ∧ (sc.length ≤ 64) ∧ (uJ.heap.size ≤ w_.heap.size)) ?_ ?_)
     ·refine sqs ?_
      refine At.rk lX 3 [(73, .bool (decide (((((gL lss (k0)).length : Nat) : Int) : Int) > 64)))] .n (fun yC lD => ?_)
      clear lX
      refine At.dn ?_
      refine cond_S lD (t := decide (((((gL lss (k0)).length : Nat) : Int) : Int) > 64)) rfl (fun lY => ?_) (fun lY => ?_)
      ·have yD := of_decide_eq_true lY
       refine At.start ?_
       have uM := RdI.take lW ((64 : Int).toNat)
       have : ((gL lss (k0)).take (64 : Int).toNat).length = (64 : Int).toNat := by rw [List.length_take]; omega
       refine At.rk lD 3 [(14, .slice hL (((gL lss (k0)).take (64 : Int).toNat).length) gU)] (.p (show 0 ≤ (64 : Int) from ω) <| .p (show (64 : Int) ≤ (gU : Nat) from ω) <| .v 75 (show (.slice hL ((64 : Int).toNat) gU : Value) = .slice hL (((gL lss (k0)).take (64 : Int).toNat).length) gU from (slice_len (by rw [List.length_take]; omega))) <| .n) (fun yE uN => ?_)
       clear lD
       refine At.dn ?_
       exact ⟨hL, gU, ((gL lss (k0)).take (64 : Int).toNat), uN.sb, hF, iD, iE, hH, hI, iF, iG, iH, iI, hJ, hK, uM, (by first | omega | (rw [List.length_take]; omega)), ω⟩
      have yF := of_decide_eq_false lY
      refine wp_skip ?_
      refine t_n ?_
      exact ⟨hL, gU, gL lss (k0), lD.sb, hF, iD, iE, hH, hI, iF, iG, iH, iI, hJ, hK, lW, (by first | omega | (rw [List.length_take]; omega)), ω⟩
     clear iD; clear iE; clear hH; clear hI; clear iF; clear iG; clear iH; clear iI; clear hJ; clear hK; clear lX hF
     intro yG gC ⟨As2, cs2, sc, lZ, bI, aU, bR, bS, aJ, bJ, bT, aV, bU, aN, bK, bV, gJ, i250⟩
     have := bI.size; have := aJ.lt; have := aN.lt; have := bK.lt
     refine wp_seq (cut (fun a_ w_ => ∃ (r : PlayR) (dH : Nat) (gK : Option Addr) (gM : Option Addr) (gV : Nat) (gW : Nat), (Frm 114 a_ [(16, .int .i64 (r.err)), (15, pt dH 0), (63, .bool (decide ((k0 : Int) < 4))), (62, .int .i64 (k0)), (13, .int .i64 (k0)), (53, .bool (decide ((i0 : Int) < 30))), (52, .int .i64 (i0)), (12, .int .i64 (i0)), (11, pt eY.heap.size 0), (10, .int .i64 (0)), (8, pt aA.heap.size 0), (2, pt w.heap.size 0), (1, .slice Asc lss.length csc)]) ∧ (Ext w w_) ∧ (RdG w_ 0 w.heap.size Ag0 Ag1 Ag2 cg0 cg1 cg2 g) ∧ (RdT w_ 0 w.heap.size) ∧ (RdII w_ 0 w.heap.size Asc lss) ∧ (Bx w_ (w.heap.size) [.slice Ag0 g.ow.length cg0, .slice Ag1 g.pr.length cg1, .slice Ag2 g.mv.length cg2] 25) ∧ (RdI w_ (aB.heap.size) aA.heap.size aF la) ∧ (RdI w_ (aB.heap.size) aA.heap.size aD lb) ∧ (RdI w_ (aB.heap.size) aA.heap.size aE ma) ∧ (RdI w_ (aB.heap.size) aA.heap.size aC mb) ∧ (Bx w_ (aA.heap.size) [.slice aF la.length bB, .slice aD lb.length aI, .slice aE ma.length aR, .slice aC mb.length aG] 32) ∧ (Bx w_ (eY.heap.size) ((ofW la : List Int).map wV) 44) ∧ (OwnR w_ (Sx (gC.heap.size) [obk (gM), some (dH)]) (gK) (gV) 3 (r.ah : List Int)) ∧ (OwnR w_ (Sx (gC.heap.size) [obk (gK), some (dH)]) (gM) (gW) 3 (r.ro : List Int)) ∧ (Bx w_ (dH) [.slice (gK) r.ah.length (gV), .slice (gM) r.ro.length (gW), .int .i64 (r.win)] 55) ∧ (gC.heap.size ≤ dH) ∧ (gC.heap.size ≤ w_.heap.size) ∧ (RunT g (gI la (i0)) 0 ma sc r)) ?_ ?_)
     ·obtain ⟨uO, uP, _, _, uQ⟩ := RdI.get bJ (i0) ω ω
      obtain ⟨pJ, gD⟩ : ∃ c : List (Addr × Value), c = [(⟨w.heap.size, 0, none⟩, (.slice Ag0 g.ow.length cg0)), (⟨w.heap.size, 1, none⟩, (.slice Ag1 g.pr.length cg1)), (⟨w.heap.size, 2, none⟩, (.slice Ag2 g.mv.length cg2)), (⟨aA.heap.size, 0, none⟩, (.slice aF la.length bB)), ((uO.add ((i0 : Int).toNat * 1)), (.int .i64 (gI la (i0)))), (⟨aA.heap.size, 2, none⟩, (.slice aE ma.length aR))] := ⟨_, rfl⟩
      have pK : HoldsC pJ gC := by rw [gD]; exact ⟨(aJ.cell (i := 0) rfl), (aJ.cell (i := 1) rfl), (aJ.cell (i := 2) rfl), (aN.cell (i := 0) rfl), uQ, (aN.cell (i := 2) rfl), trivial⟩
      refine AtH.start pJ 21 _ κ rfl rfl (fun mA pL => ?_)
      have dI := gr_drew pL; have mB := pK.gr dI; have := dI.size; replace bI := bI.gn dI; replace aU := aU.gn dI; replace bR := bR.gn dI; replace bS := bS.gn dI; replace aJ := aJ.gn dI; replace bJ := bJ.gn dI; replace bT := bT.gn dI; replace aV := aV.gn dI; replace bU := bU.gn dI; replace aN := aN.gn dI; replace bK := bK.gn dI; replace bV := bV.gn dI; clear dI pL pK
      refine AtH.rk mB lZ [0, 1, 2, 3, 4, 5, 6, 7, 8, 9, 10, 11, 12, 13] 7 [(90, .slice As2 sc.length cs2), (89, .slice aE ma.length aR), (85, .int .i64 (0)), (84, .int .i64 (gI la (i0))), (77, .agg #[.slice Ag0 g.ow.length cg0, .slice Ag1 g.pr.length cg1, .slice Ag2 g.mv.length cg2])] (.l (CsC_at gD 0 rfl) <| .l (CsC_at gD 1 rfl) <| .l (CsC_at gD 2 rfl) <| .b 0 2 <| .l (CsC_at gD 3 rfl) <| .a i0 la.length uP <| .l (CsC_at gD 4 rfl) <| .b 0 2 <| .l (CsC_at gD 5 rfl) <| .n) (fun yH lE => ?_)
      clear lZ
      refine AtH.all [14, 18] 6 κ (by simp) ⟨?_, ?_, trivial⟩
      ·refine OneH.cl lE (some 91) (args := #[.agg #[.slice Ag0 g.ow.length cg0, .slice Ag1 g.pr.length cg1, .slice Ag2 g.mv.length cg2], .int .i64 (gI la (i0)), .int .i64 (0), .slice aE ma.length aR, .slice As2 sc.length cs2]) (runM_any (g := g) (i := gI la (i0)) (p := 0) (lm := ma) (ls := sc) (aU.wide (Nat.zero_le _) ω) (aV.wide (Nat.zero_le _) ω) (bV.wide (Nat.zero_le _) ω)) ?_
       rintro e_ mC ⟨r, hr, iL, iM, iN, iO, rfl, he, iP, iQ⟩
       have hlr := run_len hr
       refine ⟨_, rfl, _, rfl, fun yI pM => ?_⟩
       clear lE; have dJ := gr_ext he; have iR := mB.gr dJ; have := dJ.size; replace bI := bI.gn dJ; replace aU := aU.gn dJ; replace bR := bR.gn dJ; replace bS := bS.gn dJ; replace aJ := aJ.gn dJ; replace bJ := bJ.gn dJ; replace bT := bT.gn dJ; replace aV := aV.gn dJ; replace bU := bU.gn dJ; replace aN := aN.gn dJ; replace bK := bK.gn dJ; replace bV := bV.gn dJ; clear dJ he
       refine ⟨iR, ?_⟩
       refine AtH.rk iR pM [15] 5 [(76, .tuple #[.agg #[.slice iL r.ah.length iM, .slice iN r.ro.length iO, .int .i64 (r.win)], .int .i64 (r.err)])] .n (fun yJ pN => ?_)
       clear pM
       refine AtH.rk iR pN [16] 4 [(92, .agg #[.slice iL r.ah.length iM, .slice iN r.ro.length iO, .int .i64 (r.win)])] .n (fun yK pO => ?_)
       clear pN
       refine AtH.rk iR pO [17] 3 [(93, .int .i64 (r.err))] .n (fun yL pP => ?_)
       clear pO
       refine AtH.all [18] 2 κ (by simp) ⟨?_, trivial⟩
       refine OneH.bx pP iR 15 [.slice none 0 0, .slice none 0 0, .int .i64 (0)] 55 (fun yM dB mD uR yN pQ => ?_)
       clear pP; have := dB.size; replace bI := bI.gn dB; replace aU := aU.gn dB; replace bR := bR.gn dB; replace bS := bS.gn dB; replace aJ := aJ.gn dB; replace bJ := bJ.gn dB; replace bT := bT.gn dB; replace aV := aV.gn dB; replace bU := bU.gn dB; replace aN := aN.gn dB; replace bK := bK.gn dB; replace bV := bV.gn dB; replace iP := iP.grN dB; replace iQ := iQ.grN dB; have := mD.lt; clear dB
       refine AtH.all [19] 1 κ (by simp) ⟨?_, trivial⟩
       refine OneH.store pQ (t := 55) (b := mC.heap.size) (off := 0) (v := .agg #[.slice iL r.ah.length iM, .slice iN r.ro.length iO, .int .i64 (r.win)]) _ rfl κ mD κ (fun yO uS bW mE pR => ?_)
       clear pQ; replace mE : Bx uS (mC.heap.size) [.slice iL r.ah.length iM, .slice iN r.ro.length iO, .int .i64 (r.win)] 55 := mE
       have mF := uR.gr' bW (by rw [gD]; exact ⟨(by simp only [add_block]; omega), (by simp only [add_block]; omega), (by simp only [add_block]; omega), (by simp only [add_block]; omega), (by simp only [add_block]; omega), (by simp only [add_block]; omega), trivial⟩)
       have := bW.size; replace bI := bI.gr bW (fun k h => by injection h; omega); replace aU := aU.gb bW ω; replace bR := bR.gb bW ω; replace bS := bS.gb bW ω; replace aJ := aJ.gb bW ω; replace bJ := bJ.gb bW ω; replace bT := bT.gb bW ω; replace aV := aV.gb bW ω; replace bU := bU.gb bW ω; replace aN := aN.gb bW ω; replace bK := bK.gb bW ω; replace bV := bV.gb bW ω
       replace iP := iP.gr bW (fun k hk => hk.1); replace iQ := iQ.gr bW (fun k hk => hk.1); clear mD bW
       refine ⟨mF, ?_⟩
       refine AtH.rk mF pR [20] 0 [(16, .int .i64 (r.err))] .n (fun yP uT => ?_)
       clear pR
       refine AtH.done κ ?_
       clear mF
       refine t_n ?_
       exact ⟨r, mC.heap.size, iL, iN, iM, iO, uT.sb, bI, aU, bR, bS, aJ, bJ, bT, aV, bU, aN, bK, (iP.imp (fun g _ hs => ⟨hs.2.1, hs.1, (by have := Sx_base hs; show gC.heap.size ≤ g; omega)⟩)), (iQ.imp (fun g _ hs => ⟨hs.2.1, hs.1, (by have := Sx_base hs; show gC.heap.size ≤ g; omega)⟩)), mE, ω, ω, hr⟩
      refine OneH.bx lE mB 15 [.slice none 0 0, .slice none 0 0, .int .i64 (0)] 55 (fun yQ dQ iS uU yR pS => ?_)
      clear lE; have := dQ.size; replace bI := bI.gn dQ; replace aU := aU.gn dQ; replace bR := bR.gn dQ; replace bS := bS.gn dQ; replace aJ := aJ.gn dQ; replace bJ := bJ.gn dQ; replace bT := bT.gn dQ; replace aV := aV.gn dQ; replace bU := bU.gn dQ; replace aN := aN.gn dQ; replace bK := bK.gn dQ; replace bV := bV.gn dQ; have := iS.lt; clear dQ
      refine AtH.all [14] 5 κ (by simp) ⟨?_, trivial⟩
      refine OneH.cl pS (some 91) (args := #[.agg #[.slice Ag0 g.ow.length cg0, .slice Ag1 g.pr.length cg1, .slice Ag2 g.mv.length cg2], .int .i64 (gI la (i0)), .int .i64 (0), .slice aE ma.length aR, .slice As2 sc.length cs2]) (runM_any (g := g) (i := gI la (i0)) (p := 0) (lm := ma) (ls := sc) (aU.wide (Nat.zero_le _) ω) (aV.wide (Nat.zero_le _) ω) (bV.wide (Nat.zero_le _) ω)) ?_
      rintro e_ yS ⟨r, hr, iT, iU, iV, iW, rfl, he, mG, mH⟩
      have hlr := run_len hr
      refine ⟨_, rfl, _, rfl, fun yT pT => ?_⟩
      clear pS; have dC := gr_ext he; have iX := uU.gr dC; have := dC.size; replace bI := bI.gn dC; replace aU := aU.gn dC; replace bR := bR.gn dC; replace bS := bS.gn dC; replace aJ := aJ.gn dC; replace bJ := bJ.gn dC; replace bT := bT.gn dC; replace aV := aV.gn dC; replace bU := bU.gn dC; replace aN := aN.gn dC; replace bK := bK.gn dC; replace bV := bV.gn dC; replace iS := iS.gn dC; clear dC he
      refine ⟨iX, ?_⟩
      refine AtH.rk iX pT [15] 4 [(76, .tuple #[.agg #[.slice iT r.ah.length iU, .slice iV r.ro.length iW, .int .i64 (r.win)], .int .i64 (r.err)])] .n (fun yU pU => ?_)
      clear pT
      refine AtH.rk iX pU [16] 3 [(92, .agg #[.slice iT r.ah.length iU, .slice iV r.ro.length iW, .int .i64 (r.win)])] .n (fun yV pV => ?_)
      clear pU
      refine AtH.rk iX pV [17] 2 [(93, .int .i64 (r.err))] .n (fun yW pW => ?_)
      clear pV
      refine AtH.all [19] 1 κ (by simp) ⟨?_, trivial⟩
      refine OneH.store pW (t := 55) (b := mA.heap.size) (off := 0) (v := .agg #[.slice iT r.ah.length iU, .slice iV r.ro.length iW, .int .i64 (r.win)]) _ rfl κ iS κ (fun yX uV bX mI pX => ?_)
      clear pW; replace mI : Bx uV (mA.heap.size) [.slice iT r.ah.length iU, .slice iV r.ro.length iW, .int .i64 (r.win)] 55 := mI
      have mJ := iX.gr' bX (by rw [gD]; exact ⟨(by simp only [add_block]; omega), (by simp only [add_block]; omega), (by simp only [add_block]; omega), (by simp only [add_block]; omega), (by simp only [add_block]; omega), (by simp only [add_block]; omega), trivial⟩)
      have := bX.size; replace bI := bI.gr bX (fun k h => by injection h; omega); replace aU := aU.gb bX ω; replace bR := bR.gb bX ω; replace bS := bS.gb bX ω; replace aJ := aJ.gb bX ω; replace bJ := bJ.gb bX ω; replace bT := bT.gb bX ω; replace aV := aV.gb bX ω; replace bU := bU.gb bX ω; replace aN := aN.gb bX ω; replace bK := bK.gb bX ω; replace bV := bV.gb bX ω
      replace mG := mG.gr bX (fun k hk e => by have := Sx_base hk; injection e; omega); replace mH := mH.gr bX (fun k hk e => by have := Sx_base hk; injection e; omega); clear iS bX
      refine ⟨mJ, ?_⟩
      refine AtH.rk mJ pX [20] 0 [(16, .int .i64 (r.err))] .n (fun yY uW => ?_)
      clear pX
      refine AtH.done κ ?_
      clear mJ
      refine t_n ?_
      exact ⟨r, mA.heap.size, iT, iV, iU, iW, uW.sb, bI, aU, bR, bS, aJ, bJ, bT, aV, bU, aN, bK, (mG.imp (fun g _ hs => ⟨hs.1, (fun e => by have := Sx_base hs; injection e; omega), (by have := Sx_base hs; show gC.heap.size ≤ g; omega)⟩)), (mH.imp (fun g _ hs => ⟨hs.1, (fun e => by have := Sx_base hs; injection e; omega), (by have := Sx_base hs; show gC.heap.size ≤ g; omega)⟩)), mI, ω, ω, hr⟩
     clear aU; clear bR; clear bS; clear aJ; clear bJ; clear bT; clear aV; clear bU; clear aN; clear bK; clear bV; clear lZ bI
     intro yZ pY ⟨r, dH, gK, gM, gV, gW, pZ, eG, eZ, fA, fB, eH, fC, fD, fE, fF, eI, dX, fG, fH, dR, zA, zB, hr⟩
     have := eG.size; have hlr := run_len hr; have := eH.lt; have := eI.lt; have := dX.lt; have := dR.lt; have hpw := (by first | exact (pw_0 hR hsA ω ω gJ hr) | exact (pw_1 hR hsA ω ω gJ hr))
     refine wp_seq ?_
     obtain ⟨mK, iY⟩ : ∃ c : List (Addr × Value), c = ([(⟨dH, 2, none⟩, (.int .i64 (r.win))), (⟨dH, 0, none⟩, (.slice gK r.ah.length gV)), (⟨dH, 1, none⟩, (.slice gM r.ro.length gW))] : List (Addr × Value)) ++ blkC (eY.heap.size) ((ofW la : List Int).map wV) := ⟨_, rfl⟩
     have qA : HoldsC mK pY := by rw [iY]; exact (holdsA (show HoldsC [(⟨dH, 2, none⟩, (.int .i64 (r.win))), (⟨dH, 0, none⟩, (.slice gK r.ah.length gV)), (⟨dH, 1, none⟩, (.slice gM r.ro.length gW))] pY from ⟨(dR.cell (i := 2) rfl), (dR.cell (i := 0) rfl), (dR.cell (i := 1) rfl), trivial⟩) (holds_blk dX))
     refine AtH.start mK 20 _ κ rfl rfl (fun zC qB => ?_)
     have bY := gr_drew qB; have qC := qA.gr bY; have := bY.size; replace eG := eG.gn bY; replace eZ := eZ.gn bY; replace fA := fA.gn bY; replace fB := fB.gn bY; replace eH := eH.gn bY; replace fC := fC.gn bY; replace fD := fD.gn bY; replace fE := fE.gn bY; replace fF := fF.gn bY; replace eI := eI.gn bY; replace dX := dX.gn bY; replace fG := fG.gn bY; replace fH := fH.gn bY; replace dR := dR.gn bY
     clear bY qB qA
     refine AtH.rk qC pZ [0, 1, 2, 3, 4, 5, 6, 7, 8, 9, 10, 12, 13, 16] 6 [(110, .agg ((ofW la : List Int).map wV).toArray), (107, .slice gM r.ro.length gW), (106, pt dH 1), (104, .slice gK r.ah.length gV), (103, pt dH 0), (102, .bool false), (100, .bool false), (99, .int .i64 (0)), (98, .int .i64 (r.win)), (97, pt dH 2)] (.v 95 (show (.bool ((r.err : Int) != 0) : Value) = .bool false from (congrArg Value.bool (pneF hpw.err))) <| .l (CsC_at iY 0 rfl) <| .v 100 (show (.bool ((r.win : Int) != 0) : Value) = .bool false from (congrArg Value.bool (pneF hpw.win))) <| .l (CsC_at iY 1 rfl) <| .l (CsC_at iY 2 rfl) <| .p (show ((ofW la : List Int).map wV).length = 4 from ((List.length_map _).trans (okLen (ofW_ok _)))) <| .p (show ∀ (j : Nat) (v : Value), ((ofW la : List Int).map wV)[j]? = some v → ∃ j_ : Nat, mK[j_]? = some (((⟨eY.heap.size, 0, none⟩ : Addr).add j), v) from (fun j v hv => List.getElem?_of_mem (by rw [iY]; exact List.mem_append.2 (.inr (blkC_in hv))))) <| .o (.cs ((ofW la : List Int).map wV)) <| .n) (fun zD qD => ?_)
     clear pZ
     refine AtH.all [11] 5 κ (by simp) ⟨?_, trivial⟩
     refine OneH.cl qD (some 105) (args := #[.slice gK r.ah.length gV]) (of_any (la := r.ah) (fG.rdI0 (by first | omega | (simp only [List.length_cons, List.length_nil]; omega) | (simp; done) | (simp; omega)))) ?_
     rintro e_ zE ⟨rfl, he⟩
     refine ⟨_, rfl, _, rfl, fun zF qE => ?_⟩
     clear qD; have bZ := gr_ext he; have qF := qC.gr bZ; have := bZ.size; replace eG := eG.gn bZ; replace eZ := eZ.gn bZ; replace fA := fA.gn bZ; replace fB := fB.gn bZ; replace eH := eH.gn bZ; replace fC := fC.gn bZ; replace fD := fD.gn bZ; replace fE := fE.gn bZ; replace fF := fF.gn bZ; replace eI := eI.gn bZ; replace dX := dX.gn bZ; replace fG := fG.gn bZ; replace fH := fH.gn bZ
     replace dR := dR.gn bZ; clear bZ he
     refine ⟨qF, ?_⟩
     refine AtH.all [14] 4 κ (by simp) ⟨?_, trivial⟩
     refine OneH.cl qE (some 108) (args := #[.slice gM r.ro.length gW]) (of_any (la := r.ro) (fH.rdI0 (by first | omega | (simp only [List.length_cons, List.length_nil]; omega) | (simp; done) | (simp; omega)))) ?_
     rintro e_ zG ⟨rfl, he⟩
     refine ⟨_, rfl, _, rfl, fun zH qG => ?_⟩
     clear qE; have cA := gr_ext he; have qH := qF.gr cA; have := cA.size; replace eG := eG.gn cA; replace eZ := eZ.gn cA; replace fA := fA.gn cA; replace fB := fB.gn cA; replace eH := eH.gn cA; replace fC := fC.gn cA; replace fD := fD.gn cA; replace fE := fE.gn cA; replace fF := fF.gn cA; replace eI := eI.gn cA; replace dX := dX.gn cA; replace fG := fG.gn cA; replace fH := fH.gn cA
     replace dR := dR.gn cA; clear cA he
     refine ⟨qH, ?_⟩
     refine AtH.all [15] 3 κ (by simp) ⟨?_, trivial⟩
     refine OneH.cl qG (some 109) (orS_any (s := ofW r.ah) (t := ofW r.ro) (ofW_ok _) (ofW_ok _)) ?_
     rintro e_ zI ⟨rfl, he⟩
     refine ⟨_, rfl, _, rfl, fun zJ qI => ?_⟩
     clear qG; have cB := gr_ext he; have qJ := qH.gr cB; have := cB.size; replace eG := eG.gn cB; replace eZ := eZ.gn cB; replace fA := fA.gn cB; replace fB := fB.gn cB; replace eH := eH.gn cB; replace fC := fC.gn cB; replace fD := fD.gn cB; replace fE := fE.gn cB; replace fF := fF.gn cB; replace eI := eI.gn cB; replace dX := dX.gn cB; replace fG := fG.gn cB; replace fH := fH.gn cB
     replace dR := dR.gn cB; clear cB he
     refine ⟨qJ, ?_⟩
     refine AtH.all [17] 2 κ (by simp) ⟨?_, trivial⟩
     refine OneH.cl qI (some 111) ((in_any (s := orS (ofW r.ah) (ofW r.ro)) (t := ofW la) (okW_orS (ofW_ok _) (ofW_ok _)) (ofW_ok _)).mono (R' := fun e w' => e = .returned (.bool true) ∧ Ext _ w') (fun e_ w_ h_ => by rw [show (inW (orS (ofW r.ah) (ofW r.ro)) (ofW la) : Bool) = true from hpw.all] at h_; exact h_)) ?_
     rintro e_ zK ⟨rfl, he⟩
     refine ⟨_, rfl, _, rfl, fun zL qK => ?_⟩
     clear qI; have cC := gr_ext he; have lF := qJ.gr cC; have := cC.size; replace eG := eG.gn cC; replace eZ := eZ.gn cC; replace fA := fA.gn cC; replace fB := fB.gn cC; replace eH := eH.gn cC; replace fC := fC.gn cC; replace fD := fD.gn cC; replace fE := fE.gn cC; replace fF := fF.gn cC; replace eI := eI.gn cC; replace dX := dX.gn cC; replace fG := fG.gn cC; replace fH := fH.gn cC
     replace dR := dR.gn cC; clear cC he
     refine ⟨lF, ?_⟩
     refine AtH.rk lF qK [18] 1 [(112, .bool false)] .n (fun zM qL => ?_)
     clear qK
     refine AtH.rk lF qL [19] 0 [(113, .bool false)] .n (fun zN mL => ?_)
     clear qL
     refine AtH.done κ ?_
     clear lF
     refine t_n ?_
     refine cond_F mL rfl ?_
     refine wp_skip ?_
     refine b_n ?_
     refine t_n ?_
     refine At.start ?_
     refine At.rk mL 3 [(13, .int .i64 (k0 + 1))] (.w 66 (k0 + 1) <| .n) (fun zO uX => ?_)
     clear mL
     refine At.dn ?_
     exact ⟨_, ω, (k0 + 1), rfl, uX.sb, eG, eZ, fA, fB, eH, fC, fD, fE, fF, eI, dX, ω, ω⟩
    have zP := of_decide_eq_false lV
    refine wp_exit ?_
    refine t_e ?_
    clear hm195
    refine t_e ?_
    refine b_e ?_
    refine b_n ?_
    refine t_n ?_
    refine At.start ?_
    refine At.rk iK 3 [(12, .int .i64 (i0 + 1))] (.w 56 (i0 + 1) <| .n) (fun zQ uY => ?_)
    clear iK
    refine At.dn ?_
    exact ⟨_, ω, (i0 + 1), rfl, uY.sb, hF, iD, iE, hH, hI, iF, iG, iH, iI, hJ, hK, ω, ω⟩
   have zR := of_decide_eq_false iJ
   refine At.rk lC 8 [(64, .bool false)] (.e 61 iJ <| .n) (fun zS mM => ?_)
   clear lC
   refine At.dn ?_
   refine cond_F mM rfl ?_
   refine wp_exit ?_
   refine t_e ?_
   clear hm195
   refine t_e ?_
   refine b_e ?_
   refine b_n ?_
   refine t_n ?_
   refine At.start ?_
   refine At.rk mM 3 [(12, .int .i64 (i0 + 1))] (.w 56 (i0 + 1) <| .n) (fun zT uZ => ?_)
   clear mM
   refine At.dn ?_
   exact ⟨_, ω, (i0 + 1), rfl, uZ.sb, hF, iD, iE, hH, hI, iF, iG, iH, iI, hJ, hK, ω, ω⟩
  have zU := of_decide_eq_false lU
  refine wp_exit ?_
  refine t_e ?_
  clear hm169
  refine t_e ?_
  refine b_e ?_
  refine b_n ?_
  refine t_n ?_
  clear iA
  refine At.start ?_
  refine At.rk iC 3 [(10, .int .i64 (1))] (.v 38 (show (.int .i64 (IntKind.i64.wrap (0 + 1)) : Value) = .int .i64 (1) from κ) <| .n) (fun zV qM => ?_)
  clear iC
  refine At.dn ?_
  have qN := qM.sb (r := [(10, .int .i64 (1)), (53, .bool (decide ((i0 : Int) < 30))), (52, .int .i64 (i0)), (8, pt aA.heap.size 0), (2, pt w.heap.size 0), (1, .slice Asc lss.length csc)])
  clear qM
  refine loop_u ?_
  refine wp_seq ?_
  refine sqs ?_
  refine At.rk qN 2 [(36, .bool true)] (.v 36 (show (.bool (decide ((1 : Int) < 2)) : Value) = .bool true from κ) <| .n) (fun zW mN => ?_)
  clear qN
  refine At.dn ?_
  refine cond_T mN rfl ?_
  refine wp_skip ?_
  refine t_n ?_
  refine wp_seq ?_
  refine wp_block ?_
  refine sqs ?_
  refine At.rk mN 4 [(42, .slice aD lb.length aI)] (.b 1 2 <| .l (aH.cell (i := 1) rfl) <| .n) (fun zX qO => ?_)
  clear mN
  refine At.cl qO (some 43) (args := #[.slice aD lb.length aI]) (of_any (la := lb) (aM.wide (Nat.zero_le _) ω)) ?_
  rintro e_ fI ⟨rfl, he⟩
  refine ⟨_, rfl, _, rfl, fun zY qP => ?_⟩
  clear qO; have eJ := gr_ext he; have := eJ.size; replace aS := aS.gn eJ; replace bC := bC.gn eJ; replace bD := bD.gn eJ; replace bE := bE.gn eJ; replace aT := aT.gn eJ; replace bF := bF.gn eJ; replace aM := aM.gn eJ; replace bG := bG.gn eJ; replace bH := bH.gn eJ; replace aH := aH.gn eJ; clear eJ he
  refine At.bx qP 11 ((List.replicate 4 (0 : Int) : List Int).map wV) 44 (fun zZ eK mO aAa qQ => ?_)
  clear qP; have := eK.size; replace aS := aS.gn eK; replace bC := bC.gn eK; replace bD := bD.gn eK; replace bE := bE.gn eK; replace aT := aT.gn eK; replace bF := bF.gn eK; replace aM := aM.gn eK; replace bG := bG.gn eK; replace bH := bH.gn eK; replace aH := aH.gn eK; have := mO.lt; clear eK
  refine At.act qQ (storeBlk (t := 44) (b := fI.heap.size) (n := 4) (cs' := ((ofW lb : List Int).map wV)) κ κ ((List.length_map _).trans (okLen (ofW_ok _))) oneW_ ((show ((ofW lb : List Int).map wV).length = 4 from ((List.length_map _).trans (okLen (ofW_ok _)))).trans (show ((List.replicate 4 (0 : Int) : List Int).map wV).length = 4 from len_P).symm) mO) ?_
  rintro d_ v_ aAb ⟨rfl, eL, qR⟩
  refine ⟨_, rfl, fun aAc qS => ?_⟩
  clear qQ; have := eL.size; replace aS := aS.gr eL (fun k h => by injection h; omega); replace bC := bC.gb eL ω; replace bD := bD.gb eL ω; replace bE := bE.gb eL ω; replace aT := aT.gb eL ω; replace bF := bF.gb eL ω; replace aM := aM.gb eL ω; replace bG := bG.gb eL ω; replace bH := bH.gb eL ω; replace aH := aH.gb eL ω; clear mO eL
  refine At.dn ?_
  refine sqs ?_
  refine At.rk qS 1 [(12, .int .i64 (0))] .n (fun aAd qT => ?_)
  clear qS
  refine At.dn ?_
  refine wp_block ?_
  refine loop_g (fun (m_ : Nat) a_ w_ => ∃ (i1 : Int), m_ = ((lb.length : Int) - i1).toNat ∧ (Frm 114 a_ [(12, .int .i64 (i1)), (11, pt fI.heap.size 0), (10, .int .i64 (1)), (8, pt aA.heap.size 0), (2, pt w.heap.size 0), (1, .slice Asc lss.length csc)]) ∧ (Ext w w_) ∧ (RdG w_ 0 w.heap.size Ag0 Ag1 Ag2 cg0 cg1 cg2 g) ∧ (RdT w_ 0 w.heap.size) ∧ (RdII w_ 0 w.heap.size Asc lss) ∧ (Bx w_ (w.heap.size) [.slice Ag0 g.ow.length cg0, .slice Ag1 g.pr.length cg1, .slice Ag2 g.mv.length cg2] 25) ∧ (RdI w_ (aB.heap.size) aA.heap.size aF la) ∧ (RdI w_ (aB.heap.size) aA.heap.size aD lb) ∧ (RdI w_ (aB.heap.size) aA.heap.size aE ma) ∧ (RdI w_ (aB.heap.size) aA.heap.size aC mb) ∧ (Bx w_ (aA.heap.size) [.slice aF la.length bB, .slice aD lb.length aI, .slice aE ma.length aR, .slice aC mb.length aG] 32) ∧ (Bx w_ (fI.heap.size) ((ofW lb : List Int).map wV) 44) ∧ (0 ≤ i1) ∧ (i1 ≤ (lb.length : Int))) _ ⟨0, rfl, qT.sb, aS, bC, bD, bE, aT, bF, aM, bG, bH, aH, qR, ω, (Int.natCast_nonneg _)⟩ ?_
  clear qT; clear bC; clear bD; clear bE; clear aT; clear bF; clear aM; clear bG; clear bH; clear aH; clear qR; clear aS
  intro m_ aAe aAf ⟨i1, hm624, lG, iZ, qU, qV, qW, jA, qX, qY, qZ, rA, gX, jB, i636, i637⟩
  have := iZ.size; have := jA.lt; have := gX.lt; have := jB.lt
  refine wp_seq ?_
  refine sqs ?_
  rcases Bool.eq_false_or_eq_true (decide ((i1 : Int) < ((lb.length : Nat) : Int))) with jC | jC
  ·have aAg := of_decide_eq_true jC
   refine At.rk lG 11 [(54, .bool (decide ((i1 : Int) < 30))), (53, .bool (decide ((i1 : Int) < 30))), (52, .int .i64 (i1))] (.b 1 2 <| .l (gX.cell (i := 1) rfl) <| .e 51 jC <| .n) (fun aAh jD => ?_)
   clear lG
   refine At.dn ?_
   refine cond_S jD (t := decide ((i1 : Int) < 30)) rfl (fun mP => ?_) (fun mP => ?_)
   ·have aAi := of_decide_eq_true mP
    refine wp_skip ?_
    refine t_n ?_
    refine wp_seq ?_
    refine wp_block ?_
    refine sqs ?_
    refine At.rk jD 1 [(13, .int .i64 (0))] .n (fun aAj rB => ?_)
    clear jD
    refine At.dn ?_
    refine wp_block ?_
    refine loop_g (fun (m_ : Nat) a_ w_ => ∃ (k1 : Int), m_ = ((lss.length : Int) - k1).toNat ∧ (Frm 114 a_ [(13, .int .i64 (k1)), (53, .bool (decide ((i1 : Int) < 30))), (52, .int .i64 (i1)), (12, .int .i64 (i1)), (11, pt fI.heap.size 0), (10, .int .i64 (1)), (8, pt aA.heap.size 0), (2, pt w.heap.size 0), (1, .slice Asc lss.length csc)]) ∧ (Ext w w_) ∧ (RdG w_ 0 w.heap.size Ag0 Ag1 Ag2 cg0 cg1 cg2 g) ∧ (RdT w_ 0 w.heap.size) ∧ (RdII w_ 0 w.heap.size Asc lss) ∧ (Bx w_ (w.heap.size) [.slice Ag0 g.ow.length cg0, .slice Ag1 g.pr.length cg1, .slice Ag2 g.mv.length cg2] 25) ∧ (RdI w_ (aB.heap.size) aA.heap.size aF la) ∧ (RdI w_ (aB.heap.size) aA.heap.size aD lb) ∧ (RdI w_ (aB.heap.size) aA.heap.size aE ma) ∧ (RdI w_ (aB.heap.size) aA.heap.size aC mb) ∧ (Bx w_ (aA.heap.size) [.slice aF la.length bB, .slice aD lb.length aI, .slice aE ma.length aR, .slice aC mb.length aG] 32) ∧ (Bx w_ (fI.heap.size) ((ofW lb : List Int).map wV) 44) ∧ (0 ≤ k1) ∧ (k1 ≤ (lss.length : Int))) _ ⟨0, rfl, rB.sb, iZ, qU, qV, qW, jA, qX, qY, qZ, rA, gX, jB, ω, (Int.natCast_nonneg _)⟩ ?_
    clear rB; clear qU; clear qV; clear qW; clear jA; clear qX; clear qY; clear qZ; clear rA; clear gX; clear jB; clear iZ
    intro m_ aAk vA ⟨k1, hm650, lH, hM, jE, jF, hN, hO, jG, jH, jI, jJ, hP, hQ, i662, i663⟩
    have := hM.size; have := hO.lt; have := hP.lt; have := hQ.lt
    refine wp_seq ?_
    refine sqs ?_
    rcases Bool.eq_false_or_eq_true (decide ((k1 : Int) < ((lss.length : Nat) : Int))) with jK | jK
    ·have aAl := of_decide_eq_true jK
     refine At.rk lH 8 [(64, .bool (decide ((k1 : Int) < 4))), (63, .bool (decide ((k1 : Int) < 4))), (62, .int .i64 (k1))] (.e 61 jK <| .n) (fun aAm jL => ?_)
     clear lH
     refine At.dn ?_
     refine cond_S jL (t := decide ((k1 : Int) < 4)) rfl (fun mQ => ?_) (fun mQ => ?_)
     ·have aAn := of_decide_eq_true mQ
      refine wp_skip ?_
      refine t_n ?_
      refine wp_seq ?_
      refine wp_block ?_
      refine sqs ?_
      obtain ⟨aAo, hS, gY, vB, _, _, vC, aAp, mR⟩ := RdII.get hN (k1) ω ω
      have aAq := mR.len
      refine At.rk jL 5 [(14, .slice hS ((gL lss (k1)).length) gY)] (.a k1 lss.length vB <| .l vC <| .n) (fun aAr mS => ?_)
      clear jL
      refine At.dn ?_
      refine wp_seq (cut (fun a_ w_ => ∃ (As2 : Option Addr) (cs2 : Nat) (sc : List Int), (Frm 114 a_ [(14, .slice As2 sc.length cs2), (63, .bool (decide ((k1 : Int) < 4))), (62, .int .i64 (k1)), (13, .int .i64 (k1)), (53, .bool (decide ((i1 : Int) < 30))), (52, .int .i64 (i1)), (12, .int .i64 (i1)), (11, pt fI.heap.size 0), (10, .int .i64 (1)), (8, pt aA.heap.size 0), (2, pt w.heap.size 0), (1, .slice Asc lss.length csc)]) ∧ (Ext w w_) ∧ (RdG w_ 0 w.heap.size Ag0 Ag1 Ag2 cg0 cg1 cg2 g) ∧ (RdT w_ 0 w.heap.size) ∧ (RdII w_ 0 w.heap.size Asc lss) ∧ (Bx w_ (w.heap.size) [.slice Ag0 g.ow.length cg0, .slice Ag1 g.pr.length cg1, .slice Ag2 g.mv.length cg2] 25) ∧ (RdI w_ (aB.heap.size) aA.heap.size aF la) ∧ (RdI w_ (aB.heap.size) aA.heap.size aD lb) ∧ (RdI w_ (aB.heap.size) aA.heap.size aE ma) ∧ (RdI w_ (aB.heap.size) aA.heap.size aC mb) ∧ (Bx w_ (aA.heap.size) [.slice aF la.length bB, .slice aD lb.length aI, .slice aE ma.length aR, .slice aC mb.length aG] 32) ∧ (Bx w_ (fI.heap.size) ((ofW lb : List Int).map wV) 44) ∧ (RdI w_ 0 w.heap.size As2 sc) ∧ (sc.length ≤ 64) ∧ (vA.heap.size ≤ w_.heap.size)) ?_ ?_)
      ·refine sqs ?_
       refine At.rk mS 3 [(73, .bool (decide (((((gL lss (k1)).length : Nat) : Int) : Int) > 64)))] .n (fun aAs lI => ?_)
       clear mS
       refine At.dn ?_
       refine cond_S lI (t := decide (((((gL lss (k1)).length : Nat) : Int) : Int) > 64)) rfl (fun mT => ?_) (fun mT => ?_)
       ·have aAt := of_decide_eq_true mT
        refine At.start ?_
        have vD := RdI.take mR ((64 : Int).toNat)
        have : ((gL lss (k1)).take (64 : Int).toNat).length = (64 : Int).toNat := by rw [List.length_take]; omega
        refine At.rk lI 3 [(14, .slice hS (((gL lss (k1)).take (64 : Int).toNat).length) gY)] (.p (show 0 ≤ (64 : Int) from ω) <| .p (show (64 : Int) ≤ (gY : Nat) from ω) <| .v 75 (show (.slice hS ((64 : Int).toNat) gY : Value) = .slice hS (((gL lss (k1)).take (64 : Int).toNat).length) gY from (slice_len (by rw [List.length_take]; omega))) <| .n) (fun aAu vE => ?_)
        clear lI
        refine At.dn ?_
        exact ⟨hS, gY, ((gL lss (k1)).take (64 : Int).toNat), vE.sb, hM, jE, jF, hN, hO, jG, jH, jI, jJ, hP, hQ, vD, (by first | omega | (rw [List.length_take]; omega)), ω⟩
       have aAv := of_decide_eq_false mT
       refine wp_skip ?_
       refine t_n ?_
       exact ⟨hS, gY, gL lss (k1), lI.sb, hM, jE, jF, hN, hO, jG, jH, jI, jJ, hP, hQ, mR, (by first | omega | (rw [List.length_take]; omega)), ω⟩
      clear jE; clear jF; clear hN; clear hO; clear jG; clear jH; clear jI; clear jJ; clear hP; clear hQ; clear mS hM
      intro aAw gE ⟨As2, cs2, sc, mU, bL, aW, cD, cE, aK, cF, bM, cG, aX, aO, bN, cH, gJ, i705⟩
      have := bL.size; have := aK.lt; have := aO.lt; have := bN.lt
      refine wp_seq (cut (fun a_ w_ => ∃ (r : PlayR) (dK : Nat) (gN : Option Addr) (gO : Option Addr) (gZ : Nat) (hA : Nat), (Frm 114 a_ [(16, .int .i64 (r.err)), (15, pt dK 0), (63, .bool (decide ((k1 : Int) < 4))), (62, .int .i64 (k1)), (13, .int .i64 (k1)), (53, .bool (decide ((i1 : Int) < 30))), (52, .int .i64 (i1)), (12, .int .i64 (i1)), (11, pt fI.heap.size 0), (10, .int .i64 (1)), (8, pt aA.heap.size 0), (2, pt w.heap.size 0), (1, .slice Asc lss.length csc)]) ∧ (Ext w w_) ∧ (RdG w_ 0 w.heap.size Ag0 Ag1 Ag2 cg0 cg1 cg2 g) ∧ (RdT w_ 0 w.heap.size) ∧ (RdII w_ 0 w.heap.size Asc lss) ∧ (Bx w_ (w.heap.size) [.slice Ag0 g.ow.length cg0, .slice Ag1 g.pr.length cg1, .slice Ag2 g.mv.length cg2] 25) ∧ (RdI w_ (aB.heap.size) aA.heap.size aF la) ∧ (RdI w_ (aB.heap.size) aA.heap.size aD lb) ∧ (RdI w_ (aB.heap.size) aA.heap.size aE ma) ∧ (RdI w_ (aB.heap.size) aA.heap.size aC mb) ∧ (Bx w_ (aA.heap.size) [.slice aF la.length bB, .slice aD lb.length aI, .slice aE ma.length aR, .slice aC mb.length aG] 32) ∧ (Bx w_ (fI.heap.size) ((ofW lb : List Int).map wV) 44) ∧ (OwnR w_ (Sx (gE.heap.size) [obk (gO), some (dK)]) (gN) (gZ) 3 (r.ah : List Int)) ∧ (OwnR w_ (Sx (gE.heap.size) [obk (gN), some (dK)]) (gO) (hA) 3 (r.ro : List Int)) ∧ (Bx w_ (dK) [.slice (gN) r.ah.length (gZ), .slice (gO) r.ro.length (hA), .int .i64 (r.win)] 55) ∧ (gE.heap.size ≤ dK) ∧ (gE.heap.size ≤ w_.heap.size) ∧ (RunT g (gI lb (i1)) 1 mb sc r)) ?_ ?_)
      ·obtain ⟨vF, vG, _, _, vH⟩ := RdI.get bM (i1) ω ω
       obtain ⟨rC, gF⟩ : ∃ c : List (Addr × Value), c = [(⟨w.heap.size, 0, none⟩, (.slice Ag0 g.ow.length cg0)), (⟨w.heap.size, 1, none⟩, (.slice Ag1 g.pr.length cg1)), (⟨w.heap.size, 2, none⟩, (.slice Ag2 g.mv.length cg2)), (⟨aA.heap.size, 1, none⟩, (.slice aD lb.length aI)), ((vF.add ((i1 : Int).toNat * 1)), (.int .i64 (gI lb (i1)))), (⟨aA.heap.size, 3, none⟩, (.slice aC mb.length aG))] := ⟨_, rfl⟩
       have rD : HoldsC rC gE := by rw [gF]; exact ⟨(aK.cell (i := 0) rfl), (aK.cell (i := 1) rfl), (aK.cell (i := 2) rfl), (aO.cell (i := 1) rfl), vH, (aO.cell (i := 3) rfl), trivial⟩
       refine AtH.start rC 21 _ κ rfl rfl (fun mV rE => ?_)
       have dL := gr_drew rE; have mW := rD.gr dL; have := dL.size; replace bL := bL.gn dL; replace aW := aW.gn dL; replace cD := cD.gn dL; replace cE := cE.gn dL; replace aK := aK.gn dL; replace cF := cF.gn dL; replace bM := bM.gn dL; replace cG := cG.gn dL; replace aX := aX.gn dL; replace aO := aO.gn dL; replace bN := bN.gn dL; replace cH := cH.gn dL; clear dL rE rD
       refine AtH.rk mW mU [0, 1, 2, 3, 4, 5, 6, 7, 8, 9, 10, 11, 12, 13] 7 [(90, .slice As2 sc.length cs2), (89, .slice aC mb.length aG), (85, .int .i64 (1)), (84, .int .i64 (gI lb (i1))), (77, .agg #[.slice Ag0 g.ow.length cg0, .slice Ag1 g.pr.length cg1, .slice Ag2 g.mv.length cg2])] (.l (CsC_at gF 0 rfl) <| .l (CsC_at gF 1 rfl) <| .l (CsC_at gF 2 rfl) <| .b 1 2 <| .l (CsC_at gF 3 rfl) <| .a i1 lb.length vG <| .l (CsC_at gF 4 rfl) <| .b 1 2 <| .l (CsC_at gF 5 rfl) <| .n) (fun aAx lJ => ?_)
       clear mU
       refine AtH.all [14, 18] 6 κ (by simp) ⟨?_, ?_, trivial⟩
       ·refine OneH.cl lJ (some 91) (args := #[.agg #[.slice Ag0 g.ow.length cg0, .slice Ag1 g.pr.length cg1, .slice Ag2 g.mv.length cg2], .int .i64 (gI lb (i1)), .int .i64 (1), .slice aC mb.length aG, .slice As2 sc.length cs2]) (runM_any (g := g) (i := gI lb (i1)) (p := 1) (lm := mb) (ls := sc) (aW.wide (Nat.zero_le _) ω) (aX.wide (Nat.zero_le _) ω) (cH.wide (Nat.zero_le _) ω)) ?_
        rintro e_ mX ⟨r, hr, jM, jN, jO, jP, rfl, he, jQ, jR⟩
        have hlr := run_len hr
        refine ⟨_, rfl, _, rfl, fun aAy rF => ?_⟩
        clear lJ; have dM := gr_ext he; have jS := mW.gr dM; have := dM.size; replace bL := bL.gn dM; replace aW := aW.gn dM; replace cD := cD.gn dM; replace cE := cE.gn dM; replace aK := aK.gn dM; replace cF := cF.gn dM; replace bM := bM.gn dM; replace cG := cG.gn dM; replace aX := aX.gn dM; replace aO := aO.gn dM; replace bN := bN.gn dM; replace cH := cH.gn dM; clear dM he
        refine ⟨jS, ?_⟩
        refine AtH.rk jS rF [15] 5 [(76, .tuple #[.agg #[.slice jM r.ah.length jN, .slice jO r.ro.length jP, .int .i64 (r.win)], .int .i64 (r.err)])] .n (fun aAz rG => ?_)
        clear rF
        refine AtH.rk jS rG [16] 4 [(92, .agg #[.slice jM r.ah.length jN, .slice jO r.ro.length jP, .int .i64 (r.win)])] .n (fun aAA rH => ?_)
        clear rG
        refine AtH.rk jS rH [17] 3 [(93, .int .i64 (r.err))] .n (fun aAB rI => ?_)
        clear rH
        refine AtH.all [18] 2 κ (by simp) ⟨?_, trivial⟩
        refine OneH.bx rI jS 15 [.slice none 0 0, .slice none 0 0, .int .i64 (0)] 55 (fun aAC dD mY vI aAD rJ => ?_)
        clear rI; have := dD.size; replace bL := bL.gn dD; replace aW := aW.gn dD; replace cD := cD.gn dD; replace cE := cE.gn dD; replace aK := aK.gn dD; replace cF := cF.gn dD; replace bM := bM.gn dD; replace cG := cG.gn dD; replace aX := aX.gn dD; replace aO := aO.gn dD; replace bN := bN.gn dD; replace cH := cH.gn dD; replace jQ := jQ.grN dD; replace jR := jR.grN dD; have := mY.lt; clear dD
        refine AtH.all [19] 1 κ (by simp) ⟨?_, trivial⟩
        refine OneH.store rJ (t := 55) (b := mX.heap.size) (off := 0) (v := .agg #[.slice jM r.ah.length jN, .slice jO r.ro.length jP, .int .i64 (r.win)]) _ rfl κ mY κ (fun aAE vJ cI mZ rK => ?_)
        clear rJ; replace mZ : Bx vJ (mX.heap.size) [.slice jM r.ah.length jN, .slice jO r.ro.length jP, .int .i64 (r.win)] 55 := mZ
        have nA := vI.gr' cI (by rw [gF]; exact ⟨(by simp only [add_block]; omega), (by simp only [add_block]; omega), (by simp only [add_block]; omega), (by simp only [add_block]; omega), (by simp only [add_block]; omega), (by simp only [add_block]; omega), trivial⟩)
        have := cI.size; replace bL := bL.gr cI (fun k h => by injection h; omega); replace aW := aW.gb cI ω; replace cD := cD.gb cI ω; replace cE := cE.gb cI ω; replace aK := aK.gb cI ω; replace cF := cF.gb cI ω; replace bM := bM.gb cI ω; replace cG := cG.gb cI ω; replace aX := aX.gb cI ω; replace aO := aO.gb cI ω; replace bN := bN.gb cI ω; replace cH := cH.gb cI ω
        replace jQ := jQ.gr cI (fun k hk => hk.1); replace jR := jR.gr cI (fun k hk => hk.1); clear mY cI
        refine ⟨nA, ?_⟩
        refine AtH.rk nA rK [20] 0 [(16, .int .i64 (r.err))] .n (fun aAF vK => ?_)
        clear rK
        refine AtH.done κ ?_
        clear nA
        refine t_n ?_
        exact ⟨r, mX.heap.size, jM, jO, jN, jP, vK.sb, bL, aW, cD, cE, aK, cF, bM, cG, aX, aO, bN, (jQ.imp (fun g _ hs => ⟨hs.2.1, hs.1, (by have := Sx_base hs; show gE.heap.size ≤ g; omega)⟩)), (jR.imp (fun g _ hs => ⟨hs.2.1, hs.1, (by have := Sx_base hs; show gE.heap.size ≤ g; omega)⟩)), mZ, ω, ω, hr⟩
       refine OneH.bx lJ mW 15 [.slice none 0 0, .slice none 0 0, .int .i64 (0)] 55 (fun aAG dS jT vL aAH rL => ?_)
       clear lJ; have := dS.size; replace bL := bL.gn dS; replace aW := aW.gn dS; replace cD := cD.gn dS; replace cE := cE.gn dS; replace aK := aK.gn dS; replace cF := cF.gn dS; replace bM := bM.gn dS; replace cG := cG.gn dS; replace aX := aX.gn dS; replace aO := aO.gn dS; replace bN := bN.gn dS; replace cH := cH.gn dS; have := jT.lt; clear dS
       refine AtH.all [14] 5 κ (by simp) ⟨?_, trivial⟩
       refine OneH.cl rL (some 91) (args := #[.agg #[.slice Ag0 g.ow.length cg0, .slice Ag1 g.pr.length cg1, .slice Ag2 g.mv.length cg2], .int .i64 (gI lb (i1)), .int .i64 (1), .slice aC mb.length aG, .slice As2 sc.length cs2]) (runM_any (g := g) (i := gI lb (i1)) (p := 1) (lm := mb) (ls := sc) (aW.wide (Nat.zero_le _) ω) (aX.wide (Nat.zero_le _) ω) (cH.wide (Nat.zero_le _) ω)) ?_
       rintro e_ aAI ⟨r, hr, jU, jV, jW, jX, rfl, he, nB, nC⟩
       have hlr := run_len hr
       refine ⟨_, rfl, _, rfl, fun aAJ rM => ?_⟩
       clear rL; have dE := gr_ext he; have jY := vL.gr dE; have := dE.size; replace bL := bL.gn dE; replace aW := aW.gn dE; replace cD := cD.gn dE; replace cE := cE.gn dE; replace aK := aK.gn dE; replace cF := cF.gn dE; replace bM := bM.gn dE; replace cG := cG.gn dE; replace aX := aX.gn dE; replace aO := aO.gn dE; replace bN := bN.gn dE; replace cH := cH.gn dE; replace jT := jT.gn dE; clear dE he
       refine ⟨jY, ?_⟩
       refine AtH.rk jY rM [15] 4 [(76, .tuple #[.agg #[.slice jU r.ah.length jV, .slice jW r.ro.length jX, .int .i64 (r.win)], .int .i64 (r.err)])] .n (fun aAK rN => ?_)
       clear rM
       refine AtH.rk jY rN [16] 3 [(92, .agg #[.slice jU r.ah.length jV, .slice jW r.ro.length jX, .int .i64 (r.win)])] .n (fun aAL rO => ?_)
       clear rN
       refine AtH.rk jY rO [17] 2 [(93, .int .i64 (r.err))] .n (fun aAM rP => ?_)
       clear rO
       refine AtH.all [19] 1 κ (by simp) ⟨?_, trivial⟩
       refine OneH.store rP (t := 55) (b := mV.heap.size) (off := 0) (v := .agg #[.slice jU r.ah.length jV, .slice jW r.ro.length jX, .int .i64 (r.win)]) _ rfl κ jT κ (fun aAN vM cJ nD rQ => ?_)
       clear rP; replace nD : Bx vM (mV.heap.size) [.slice jU r.ah.length jV, .slice jW r.ro.length jX, .int .i64 (r.win)] 55 := nD
       have nE := jY.gr' cJ (by rw [gF]; exact ⟨(by simp only [add_block]; omega), (by simp only [add_block]; omega), (by simp only [add_block]; omega), (by simp only [add_block]; omega), (by simp only [add_block]; omega), (by simp only [add_block]; omega), trivial⟩)
       have := cJ.size; replace bL := bL.gr cJ (fun k h => by injection h; omega); replace aW := aW.gb cJ ω; replace cD := cD.gb cJ ω; replace cE := cE.gb cJ ω; replace aK := aK.gb cJ ω; replace cF := cF.gb cJ ω; replace bM := bM.gb cJ ω; replace cG := cG.gb cJ ω; replace aX := aX.gb cJ ω; replace aO := aO.gb cJ ω; replace bN := bN.gb cJ ω; replace cH := cH.gb cJ ω
       replace nB := nB.gr cJ (fun k hk e => by have := Sx_base hk; injection e; omega); replace nC := nC.gr cJ (fun k hk e => by have := Sx_base hk; injection e; omega); clear jT cJ
       refine ⟨nE, ?_⟩
       refine AtH.rk nE rQ [20] 0 [(16, .int .i64 (r.err))] .n (fun aAO vN => ?_)
       clear rQ
       refine AtH.done κ ?_
       clear nE
       refine t_n ?_
       exact ⟨r, mV.heap.size, jU, jW, jV, jX, vN.sb, bL, aW, cD, cE, aK, cF, bM, cG, aX, aO, bN, (nB.imp (fun g _ hs => ⟨hs.1, (fun e => by have := Sx_base hs; injection e; omega), (by have := Sx_base hs; show gE.heap.size ≤ g; omega)⟩)), (nC.imp (fun g _ hs => ⟨hs.1, (fun e => by have := Sx_base hs; injection e; omega), (by have := Sx_base hs; show gE.heap.size ≤ g; omega)⟩)), nD, ω, ω, hr⟩
      clear aW; clear cD; clear cE; clear aK; clear cF; clear bM; clear cG; clear aX; clear aO; clear bN; clear cH; clear mU bL
      intro aAP rR ⟨r, dK, gN, gO, gZ, hA, rS, eM, fJ, fK, fL, eN, fM, fN, fO, fP, eO, dY, fQ, fR, dT, aAQ, aAR, hr⟩
      have := eM.size; have hlr := run_len hr; have := eN.lt; have := eO.lt; have := dY.lt; have := dT.lt; have hpw := (by first | exact (pw_0 hR hsA ω ω gJ hr) | exact (pw_1 hR hsA ω ω gJ hr))
      refine wp_seq ?_
      obtain ⟨nF, jZ⟩ : ∃ c : List (Addr × Value), c = ([(⟨dK, 2, none⟩, (.int .i64 (r.win))), (⟨dK, 0, none⟩, (.slice gN r.ah.length gZ)), (⟨dK, 1, none⟩, (.slice gO r.ro.length hA))] : List (Addr × Value)) ++ blkC (fI.heap.size) ((ofW lb : List Int).map wV) := ⟨_, rfl⟩
      have rU : HoldsC nF rR := by rw [jZ]; exact (holdsA (show HoldsC [(⟨dK, 2, none⟩, (.int .i64 (r.win))), (⟨dK, 0, none⟩, (.slice gN r.ah.length gZ)), (⟨dK, 1, none⟩, (.slice gO r.ro.length hA))] rR from ⟨(dT.cell (i := 2) rfl), (dT.cell (i := 0) rfl), (dT.cell (i := 1) rfl), trivial⟩) (holds_blk dY))
      refine AtH.start nF 20 _ κ rfl rfl (fun aAS rV => ?_)
      have cK := gr_drew rV; have rW := rU.gr cK; have := cK.size; replace eM := eM.gn cK; replace fJ := fJ.gn cK; replace fK := fK.gn cK; replace fL := fL.gn cK; replace eN := eN.gn cK; replace fM := fM.gn cK; replace fN := fN.gn cK; replace fO := fO.gn cK; replace fP := fP.gn cK; replace eO := eO.gn cK; replace dY := dY.gn cK; replace fQ := fQ.gn cK; replace fR := fR.gn cK; replace dT := dT.gn cK
      clear cK rV rU
      refine AtH.rk rW rS [0, 1, 2, 3, 4, 5, 6, 7, 8, 9, 10, 12, 13, 16] 6 [(110, .agg ((ofW lb : List Int).map wV).toArray), (107, .slice gO r.ro.length hA), (106, pt dK 1), (104, .slice gN r.ah.length gZ), (103, pt dK 0), (102, .bool false), (100, .bool false), (99, .int .i64 (1)), (98, .int .i64 (r.win)), (97, pt dK 2)] (.v 95 (show (.bool ((r.err : Int) != 0) : Value) = .bool false from (congrArg Value.bool (pneF hpw.err))) <| .l (CsC_at jZ 0 rfl) <| .v 100 (show (.bool ((r.win : Int) != 1) : Value) = .bool false from (congrArg Value.bool (pneF hpw.win))) <| .l (CsC_at jZ 1 rfl) <| .l (CsC_at jZ 2 rfl) <| .p (show ((ofW lb : List Int).map wV).length = 4 from ((List.length_map _).trans (okLen (ofW_ok _)))) <| .p (show ∀ (j : Nat) (v : Value), ((ofW lb : List Int).map wV)[j]? = some v → ∃ j_ : Nat, nF[j_]? = some (((⟨fI.heap.size, 0, none⟩ : Addr).add j), v) from (fun j v hv => List.getElem?_of_mem (by rw [jZ]; exact List.mem_append.2 (.inr (blkC_in hv))))) <| .o (.cs ((ofW lb : List Int).map wV)) <| .n) (fun aAT rX => ?_)
      clear rS
      refine AtH.all [11] 5 κ (by simp) ⟨?_, trivial⟩
      refine OneH.cl rX (some 105) (args := #[.slice gN r.ah.length gZ]) (of_any (la := r.ah) (fQ.rdI0 (by first | omega | (simp only [List.length_cons, List.length_nil]; omega) | (simp; done) | (simp; omega)))) ?_
      rintro e_ aAU ⟨rfl, he⟩
      refine ⟨_, rfl, _, rfl, fun aAV rY => ?_⟩
      clear rX; have cL := gr_ext he; have rZ := rW.gr cL; have := cL.size; replace eM := eM.gn cL; replace fJ := fJ.gn cL; replace fK := fK.gn cL; replace fL := fL.gn cL; replace eN := eN.gn cL; replace fM := fM.gn cL; replace fN := fN.gn cL; replace fO := fO.gn cL; replace fP := fP.gn cL; replace eO := eO.gn cL; replace dY := dY.gn cL; replace fQ := fQ.gn cL; replace fR := fR.gn cL
      replace dT := dT.gn cL; clear cL he
      refine ⟨rZ, ?_⟩
      refine AtH.all [14] 4 κ (by simp) ⟨?_, trivial⟩
      refine OneH.cl rY (some 108) (args := #[.slice gO r.ro.length hA]) (of_any (la := r.ro) (fR.rdI0 (by first | omega | (simp only [List.length_cons, List.length_nil]; omega) | (simp; done) | (simp; omega)))) ?_
      rintro e_ aAW ⟨rfl, he⟩
      refine ⟨_, rfl, _, rfl, fun aAX sA => ?_⟩
      clear rY; have cM := gr_ext he; have sB := rZ.gr cM; have := cM.size; replace eM := eM.gn cM; replace fJ := fJ.gn cM; replace fK := fK.gn cM; replace fL := fL.gn cM; replace eN := eN.gn cM; replace fM := fM.gn cM; replace fN := fN.gn cM; replace fO := fO.gn cM; replace fP := fP.gn cM; replace eO := eO.gn cM; replace dY := dY.gn cM; replace fQ := fQ.gn cM; replace fR := fR.gn cM
      replace dT := dT.gn cM; clear cM he
      refine ⟨sB, ?_⟩
      refine AtH.all [15] 3 κ (by simp) ⟨?_, trivial⟩
      refine OneH.cl sA (some 109) (orS_any (s := ofW r.ah) (t := ofW r.ro) (ofW_ok _) (ofW_ok _)) ?_
      rintro e_ aAY ⟨rfl, he⟩
      refine ⟨_, rfl, _, rfl, fun aAZ sC => ?_⟩
      clear sA; have cN := gr_ext he; have sD := sB.gr cN; have := cN.size; replace eM := eM.gn cN; replace fJ := fJ.gn cN; replace fK := fK.gn cN; replace fL := fL.gn cN; replace eN := eN.gn cN; replace fM := fM.gn cN; replace fN := fN.gn cN; replace fO := fO.gn cN; replace fP := fP.gn cN; replace eO := eO.gn cN; replace dY := dY.gn cN; replace fQ := fQ.gn cN; replace fR := fR.gn cN
      replace dT := dT.gn cN; clear cN he
      refine ⟨sD, ?_⟩
      refine AtH.all [17] 2 κ (by simp) ⟨?_, trivial⟩
      refine OneH.cl sC (some 111) ((in_any (s := orS (ofW r.ah) (ofW r.ro)) (t := ofW lb) (okW_orS (ofW_ok _) (ofW_ok _)) (ofW_ok _)).mono (R' := fun e w' => e = .returned (.bool true) ∧ Ext _ w') (fun e_ w_ h_ => by rw [show (inW (orS (ofW r.ah) (ofW r.ro)) (ofW lb) : Bool) = true from hpw.all] at h_; exact h_)) ?_
      rintro e_ aBa ⟨rfl, he⟩
      refine ⟨_, rfl, _, rfl, fun aBb sE => ?_⟩
      clear sC; have cO := gr_ext he; have lK := sD.gr cO; have := cO.size; replace eM := eM.gn cO; replace fJ := fJ.gn cO; replace fK := fK.gn cO; replace fL := fL.gn cO; replace eN := eN.gn cO; replace fM := fM.gn cO; replace fN := fN.gn cO; replace fO := fO.gn cO; replace fP := fP.gn cO; replace eO := eO.gn cO; replace dY := dY.gn cO; replace fQ := fQ.gn cO; replace fR := fR.gn cO
      replace dT := dT.gn cO; clear cO he
      refine ⟨lK, ?_⟩
      refine AtH.rk lK sE [18] 1 [(112, .bool false)] .n (fun aBc sF => ?_)
      clear sE
      refine AtH.rk lK sF [19] 0 [(113, .bool false)] .n (fun aBd nG => ?_)
      clear sF
      refine AtH.done κ ?_
      clear lK
      refine t_n ?_
      refine cond_F nG rfl ?_
      refine wp_skip ?_
      refine b_n ?_
      refine t_n ?_
      refine At.start ?_
      refine At.rk nG 3 [(13, .int .i64 (k1 + 1))] (.w 66 (k1 + 1) <| .n) (fun aBe vO => ?_)
      clear nG
      refine At.dn ?_
      exact ⟨_, ω, (k1 + 1), rfl, vO.sb, eM, fJ, fK, fL, eN, fM, fN, fO, fP, eO, dY, ω, ω⟩
     have aBf := of_decide_eq_false mQ
     refine wp_exit ?_
     refine t_e ?_
     clear hm650
     refine t_e ?_
     refine b_e ?_
     refine b_n ?_
     refine t_n ?_
     refine At.start ?_
     refine At.rk jL 3 [(12, .int .i64 (i1 + 1))] (.w 56 (i1 + 1) <| .n) (fun aBg vP => ?_)
     clear jL
     refine At.dn ?_
     exact ⟨_, ω, (i1 + 1), rfl, vP.sb, hM, jE, jF, hN, hO, jG, jH, jI, jJ, hP, hQ, ω, ω⟩
    have aBh := of_decide_eq_false jK
    refine At.rk lH 8 [(64, .bool false)] (.e 61 jK <| .n) (fun aBi nH => ?_)
    clear lH
    refine At.dn ?_
    refine cond_F nH rfl ?_
    refine wp_exit ?_
    refine t_e ?_
    clear hm650
    refine t_e ?_
    refine b_e ?_
    refine b_n ?_
    refine t_n ?_
    refine At.start ?_
    refine At.rk nH 3 [(12, .int .i64 (i1 + 1))] (.w 56 (i1 + 1) <| .n) (fun aBj vQ => ?_)
    clear nH
    refine At.dn ?_
    exact ⟨_, ω, (i1 + 1), rfl, vQ.sb, hM, jE, jF, hN, hO, jG, jH, jI, jJ, hP, hQ, ω, ω⟩
   have aBk := of_decide_eq_false mP
   refine wp_exit ?_
   refine t_e ?_
   clear hm624
   refine t_e ?_
   refine b_e ?_
   refine b_n ?_
   refine t_n ?_
   clear jB
   refine At.start ?_
   refine At.rk jD 3 [(10, .int .i64 (2))] (.v 38 (show (.int .i64 (IntKind.i64.wrap (1 + 1)) : Value) = .int .i64 (2) from κ) <| .n) (fun aBl sG => ?_)
   clear jD
   refine At.dn ?_
   have sH := sG.sb (r := [(10, .int .i64 (2)), (53, .bool (decide ((i1 : Int) < 30))), (52, .int .i64 (i1)), (8, pt aA.heap.size 0), (2, pt w.heap.size 0), (1, .slice Asc lss.length csc)])
   clear sG
   refine loop_u ?_
   refine wp_seq ?_
   refine sqs ?_
   refine At.rk sH 2 [(36, .bool false)] (.v 36 (show (.bool (decide ((2 : Int) < 2)) : Value) = .bool false from κ) <| .n) (fun aBm nI => ?_)
   clear sH
   refine At.dn ?_
   refine cond_F nI rfl ?_
   refine wp_exit ?_
   refine t_e ?_
   refine t_e ?_
   refine b_e ?_
   refine t_n ?_
   clear jA; clear gX
   refine sqs ?_
   refine At.rk nI 1 [(4, .bool true)] .n (fun aBn vR => ?_)
   clear nI
   refine At.dn ?_
   refine wp_ret ?_
   refine ret_ vR [] [.bool true] [] κ trivial ?_
   exact ⟨rfl, iZ⟩
  have aBo := of_decide_eq_false jC
  refine At.rk lG 11 [(54, .bool false)] (.b 1 2 <| .l (gX.cell (i := 1) rfl) <| .e 51 jC <| .n) (fun aBp nJ => ?_)
  clear lG
  refine At.dn ?_
  refine cond_F nJ rfl ?_
  refine wp_exit ?_
  refine t_e ?_
  clear hm624
  refine t_e ?_
  refine b_e ?_
  refine b_n ?_
  refine t_n ?_
  clear jB
  refine At.start ?_
  refine At.rk nJ 3 [(10, .int .i64 (2))] (.v 38 (show (.int .i64 (IntKind.i64.wrap (1 + 1)) : Value) = .int .i64 (2) from κ) <| .n) (fun aBq sI => ?_)
  clear nJ
  refine At.dn ?_
  have sJ := sI.sb (r := [(10, .int .i64 (2)), (8, pt aA.heap.size 0), (2, pt w.heap.size 0), (1, .slice Asc lss.length csc)]); clear sI
  refine loop_u ?_
  refine wp_seq ?_
  refine sqs ?_
  refine At.rk sJ 2 [(36, .bool false)] (.v 36 (show (.bool (decide ((2 : Int) < 2)) : Value) = .bool false from κ) <| .n) (fun aBr nK => ?_)
  clear sJ
  refine At.dn ?_
  refine cond_F nK rfl ?_
  refine wp_exit ?_
  refine t_e ?_
  refine t_e ?_
  refine b_e ?_
  refine t_n ?_
  clear jA; clear gX
  refine sqs ?_
  refine At.rk nK 1 [(4, .bool true)] .n (fun aBs vS => ?_)
  clear nK
  refine At.dn ?_
  refine wp_ret ?_
  refine ret_ vS [] [.bool true] [] κ trivial ?_
  exact ⟨rfl, iZ⟩
 have aBt := of_decide_eq_false iB
 refine At.rk lB 11 [(54, .bool false)] (.b 0 2 <| .l (aH.cell (i := 0) rfl) <| .e 51 iB <| .n) (fun aBu nL => ?_)
 clear lB
 refine At.dn ?_
 refine cond_F nL rfl ?_
 refine wp_exit ?_
 refine t_e ?_
 clear hm169
 refine t_e ?_
 refine b_e ?_
 refine b_n ?_
 refine t_n ?_
 clear iA
 refine At.start ?_
 refine At.rk nL 3 [(10, .int .i64 (1))] (.v 38 (show (.int .i64 (IntKind.i64.wrap (0 + 1)) : Value) = .int .i64 (1) from κ) <| .n) (fun aBv sK => ?_)
 clear nL
 refine At.dn ?_
 have sL := sK.sb (r := [(10, .int .i64 (1)), (8, pt aA.heap.size 0), (2, pt w.heap.size 0), (1, .slice Asc lss.length csc)]); clear sK
 refine loop_u ?_
 refine wp_seq ?_
 refine sqs ?_
 refine At.rk sL 2 [(36, .bool true)] (.v 36 (show (.bool (decide ((1 : Int) < 2)) : Value) = .bool true from κ) <| .n) (fun aBw nM => ?_)
 clear sL
 refine At.dn ?_
 refine cond_T nM rfl ?_
 refine wp_skip ?_
 refine t_n ?_
 refine wp_seq ?_
 refine wp_block ?_
 refine sqs ?_
 refine At.rk nM 4 [(42, .slice aD lb.length aI)] (.b 1 2 <| .l (aH.cell (i := 1) rfl) <| .n) (fun aBx sM => ?_)
 clear nM
 refine At.cl sM (some 43) (args := #[.slice aD lb.length aI]) (of_any (la := lb) (aM.wide (Nat.zero_le _) ω)) ?_
 rintro e_ fS ⟨rfl, he⟩
 refine ⟨_, rfl, _, rfl, fun aBy sN => ?_⟩
 clear sM; have eP := gr_ext he; have := eP.size; replace aS := aS.gn eP; replace bC := bC.gn eP; replace bD := bD.gn eP; replace bE := bE.gn eP; replace aT := aT.gn eP; replace bF := bF.gn eP; replace aM := aM.gn eP; replace bG := bG.gn eP; replace bH := bH.gn eP; replace aH := aH.gn eP; clear eP he
 refine At.bx sN 11 ((List.replicate 4 (0 : Int) : List Int).map wV) 44 (fun aBz eQ nN aBA sO => ?_)
 clear sN; have := eQ.size; replace aS := aS.gn eQ; replace bC := bC.gn eQ; replace bD := bD.gn eQ; replace bE := bE.gn eQ; replace aT := aT.gn eQ; replace bF := bF.gn eQ; replace aM := aM.gn eQ; replace bG := bG.gn eQ; replace bH := bH.gn eQ; replace aH := aH.gn eQ; have := nN.lt; clear eQ
 refine At.act sO (storeBlk (t := 44) (b := fS.heap.size) (n := 4) (cs' := ((ofW lb : List Int).map wV)) κ κ ((List.length_map _).trans (okLen (ofW_ok _))) oneW_ ((show ((ofW lb : List Int).map wV).length = 4 from ((List.length_map _).trans (okLen (ofW_ok _)))).trans (show ((List.replicate 4 (0 : Int) : List Int).map wV).length = 4 from len_P).symm) nN) ?_
 rintro d_ v_ aBB ⟨rfl, eR, sP⟩
 refine ⟨_, rfl, fun aBC sQ => ?_⟩
 clear sO; have := eR.size; replace aS := aS.gr eR (fun k h => by injection h; omega); replace bC := bC.gb eR ω; replace bD := bD.gb eR ω; replace bE := bE.gb eR ω; replace aT := aT.gb eR ω; replace bF := bF.gb eR ω; replace aM := aM.gb eR ω; replace bG := bG.gb eR ω; replace bH := bH.gb eR ω; replace aH := aH.gb eR ω; clear nN eR
 refine At.dn ?_
 refine sqs ?_
 refine At.rk sQ 1 [(12, .int .i64 (0))] .n (fun aBD sR => ?_)
 clear sQ
 refine At.dn ?_
 refine wp_block ?_
 refine loop_g (fun (m_ : Nat) a_ w_ => ∃ (i1 : Int), m_ = ((lb.length : Int) - i1).toNat ∧ (Frm 114 a_ [(12, .int .i64 (i1)), (11, pt fS.heap.size 0), (10, .int .i64 (1)), (8, pt aA.heap.size 0), (2, pt w.heap.size 0), (1, .slice Asc lss.length csc)]) ∧ (Ext w w_) ∧ (RdG w_ 0 w.heap.size Ag0 Ag1 Ag2 cg0 cg1 cg2 g) ∧ (RdT w_ 0 w.heap.size) ∧ (RdII w_ 0 w.heap.size Asc lss) ∧ (Bx w_ (w.heap.size) [.slice Ag0 g.ow.length cg0, .slice Ag1 g.pr.length cg1, .slice Ag2 g.mv.length cg2] 25) ∧ (RdI w_ (aB.heap.size) aA.heap.size aF la) ∧ (RdI w_ (aB.heap.size) aA.heap.size aD lb) ∧ (RdI w_ (aB.heap.size) aA.heap.size aE ma) ∧ (RdI w_ (aB.heap.size) aA.heap.size aC mb) ∧ (Bx w_ (aA.heap.size) [.slice aF la.length bB, .slice aD lb.length aI, .slice aE ma.length aR, .slice aC mb.length aG] 32) ∧ (Bx w_ (fS.heap.size) ((ofW lb : List Int).map wV) 44) ∧ (0 ≤ i1) ∧ (i1 ≤ (lb.length : Int))) _ ⟨0, rfl, sR.sb, aS, bC, bD, bE, aT, bF, aM, bG, bH, aH, sP, ω, (Int.natCast_nonneg _)⟩ ?_
 clear sR; clear bC; clear bD; clear bE; clear aT; clear bF; clear aM; clear bG; clear bH; clear aH; clear sP; clear aS
 intro m_ aBE aBF ⟨i1, hm1099, lL, kA, sS, sT, sU, kB, sV, sW, sX, sY, hB, kC, i1111, i1112⟩
 have := kA.size; have := kB.lt; have := hB.lt; have := kC.lt
 refine wp_seq ?_
 refine sqs ?_
 rcases Bool.eq_false_or_eq_true (decide ((i1 : Int) < ((lb.length : Nat) : Int))) with kD | kD
 ·have aBG := of_decide_eq_true kD
  refine At.rk lL 11 [(54, .bool (decide ((i1 : Int) < 30))), (53, .bool (decide ((i1 : Int) < 30))), (52, .int .i64 (i1))] (.b 1 2 <| .l (hB.cell (i := 1) rfl) <| .e 51 kD <| .n) (fun aBH kE => ?_)
  clear lL
  refine At.dn ?_
  refine cond_S kE (t := decide ((i1 : Int) < 30)) rfl (fun nO => ?_) (fun nO => ?_)
  ·have aBI := of_decide_eq_true nO
   refine wp_skip ?_
   refine t_n ?_
   refine wp_seq ?_
   refine wp_block ?_
   refine sqs ?_
   refine At.rk kE 1 [(13, .int .i64 (0))] .n (fun aBJ sZ => ?_)
   clear kE
   refine At.dn ?_
   refine wp_block ?_
   refine loop_g (fun (m_ : Nat) a_ w_ => ∃ (k1 : Int), m_ = ((lss.length : Int) - k1).toNat ∧ (Frm 114 a_ [(13, .int .i64 (k1)), (53, .bool (decide ((i1 : Int) < 30))), (52, .int .i64 (i1)), (12, .int .i64 (i1)), (11, pt fS.heap.size 0), (10, .int .i64 (1)), (8, pt aA.heap.size 0), (2, pt w.heap.size 0), (1, .slice Asc lss.length csc)]) ∧ (Ext w w_) ∧ (RdG w_ 0 w.heap.size Ag0 Ag1 Ag2 cg0 cg1 cg2 g) ∧ (RdT w_ 0 w.heap.size) ∧ (RdII w_ 0 w.heap.size Asc lss) ∧ (Bx w_ (w.heap.size) [.slice Ag0 g.ow.length cg0, .slice Ag1 g.pr.length cg1, .slice Ag2 g.mv.length cg2] 25) ∧ (RdI w_ (aB.heap.size) aA.heap.size aF la) ∧ (RdI w_ (aB.heap.size) aA.heap.size aD lb) ∧ (RdI w_ (aB.heap.size) aA.heap.size aE ma) ∧ (RdI w_ (aB.heap.size) aA.heap.size aC mb) ∧ (Bx w_ (aA.heap.size) [.slice aF la.length bB, .slice aD lb.length aI, .slice aE ma.length aR, .slice aC mb.length aG] 32) ∧ (Bx w_ (fS.heap.size) ((ofW lb : List Int).map wV) 44) ∧ (0 ≤ k1) ∧ (k1 ≤ (lss.length : Int))) _ ⟨0, rfl, sZ.sb, kA, sS, sT, sU, kB, sV, sW, sX, sY, hB, kC, ω, (Int.natCast_nonneg _)⟩ ?_
   clear sZ; clear sS; clear sT; clear sU; clear kB; clear sV; clear sW; clear sX; clear sY; clear hB; clear kC; clear kA
   intro m_ aBK vT ⟨k1, hm1125, lM, hT, kF, kG, hU, hV, kH, kI, kJ, kK, hW, hX, i1137, i1138⟩
   have := hT.size; have := hV.lt; have := hW.lt; have := hX.lt
   refine wp_seq ?_
   refine sqs ?_
   rcases Bool.eq_false_or_eq_true (decide ((k1 : Int) < ((lss.length : Nat) : Int))) with kL | kL
   ·have aBL := of_decide_eq_true kL
    refine At.rk lM 8 [(64, .bool (decide ((k1 : Int) < 4))), (63, .bool (decide ((k1 : Int) < 4))), (62, .int .i64 (k1))] (.e 61 kL <| .n) (fun aBM kM => ?_)
    clear lM
    refine At.dn ?_
    refine cond_S kM (t := decide ((k1 : Int) < 4)) rfl (fun nP => ?_) (fun nP => ?_)
    ·have aBN := of_decide_eq_true nP
     refine wp_skip ?_
     refine t_n ?_
     refine wp_seq ?_
     refine wp_block ?_
     refine sqs ?_
     obtain ⟨aBO, hY, hC, vU, _, _, vV, aBP, nQ⟩ := RdII.get hU (k1) ω ω
     have aBQ := nQ.len
     refine At.rk kM 5 [(14, .slice hY ((gL lss (k1)).length) hC)] (.a k1 lss.length vU <| .l vV <| .n) (fun aBR nR => ?_)
     clear kM
     refine At.dn ?_
     refine wp_seq (cut (fun a_ w_ => ∃ (As2 : Option Addr) (cs2 : Nat) (sc : List Int), (Frm 114 a_ [(14, .slice As2 sc.length cs2), (63, .bool (decide ((k1 : Int) < 4))), (62, .int .i64 (k1)), (13, .int .i64 (k1)), (53, .bool (decide ((i1 : Int) < 30))), (52, .int .i64 (i1)), (12, .int .i64 (i1)), (11, pt fS.heap.size 0), (10, .int .i64 (1)), (8, pt aA.heap.size 0), (2, pt w.heap.size 0), (1, .slice Asc lss.length csc)]) ∧ (Ext w w_) ∧ (RdG w_ 0 w.heap.size Ag0 Ag1 Ag2 cg0 cg1 cg2 g) ∧ (RdT w_ 0 w.heap.size) ∧ (RdII w_ 0 w.heap.size Asc lss) ∧ (Bx w_ (w.heap.size) [.slice Ag0 g.ow.length cg0, .slice Ag1 g.pr.length cg1, .slice Ag2 g.mv.length cg2] 25) ∧ (RdI w_ (aB.heap.size) aA.heap.size aF la) ∧ (RdI w_ (aB.heap.size) aA.heap.size aD lb) ∧ (RdI w_ (aB.heap.size) aA.heap.size aE ma) ∧ (RdI w_ (aB.heap.size) aA.heap.size aC mb) ∧ (Bx w_ (aA.heap.size) [.slice aF la.length bB, .slice aD lb.length aI, .slice aE ma.length aR, .slice aC mb.length aG] 32) ∧ (Bx w_ (fS.heap.size) ((ofW lb : List Int).map wV) 44) ∧ (RdI w_ 0 w.heap.size As2 sc) ∧ (sc.length ≤ 64) ∧ (vT.heap.size ≤ w_.heap.size)) ?_ ?_)
     ·refine sqs ?_
      refine At.rk nR 3 [(73, .bool (decide (((((gL lss (k1)).length : Nat) : Int) : Int) > 64)))] .n (fun aBS lN => ?_)
      clear nR
      refine At.dn ?_
      refine cond_S lN (t := decide (((((gL lss (k1)).length : Nat) : Int) : Int) > 64)) rfl (fun nS => ?_) (fun nS => ?_)
      ·have aBT := of_decide_eq_true nS
       refine At.start ?_
       have vW := RdI.take nQ ((64 : Int).toNat)
       have : ((gL lss (k1)).take (64 : Int).toNat).length = (64 : Int).toNat := by rw [List.length_take]; omega
       refine At.rk lN 3 [(14, .slice hY (((gL lss (k1)).take (64 : Int).toNat).length) hC)] (.p (show 0 ≤ (64 : Int) from ω) <| .p (show (64 : Int) ≤ (hC : Nat) from ω) <| .v 75 (show (.slice hY ((64 : Int).toNat) hC : Value) = .slice hY (((gL lss (k1)).take (64 : Int).toNat).length) hC from (slice_len (by rw [List.length_take]; omega))) <| .n) (fun aBU vX => ?_)
       clear lN
       refine At.dn ?_
       exact ⟨hY, hC, ((gL lss (k1)).take (64 : Int).toNat), vX.sb, hT, kF, kG, hU, hV, kH, kI, kJ, kK, hW, hX, vW, (by first | omega | (rw [List.length_take]; omega)), ω⟩
      have aBV := of_decide_eq_false nS
      refine wp_skip ?_
      refine t_n ?_
      exact ⟨hY, hC, gL lss (k1), lN.sb, hT, kF, kG, hU, hV, kH, kI, kJ, kK, hW, hX, nQ, (by first | omega | (rw [List.length_take]; omega)), ω⟩
     clear kF; clear kG; clear hU; clear hV; clear kH; clear kI; clear kJ; clear kK; clear hW; clear hX; clear nR hT
     intro aBW gG ⟨As2, cs2, sc, nT, bO, aY, cP, cQ, aL, cR, bP, cS, aZ, aP, bQ, cT, gJ, i1180⟩
     have := bO.size; have := aL.lt; have := aP.lt; have := bQ.lt
     refine wp_seq (cut (fun a_ w_ => ∃ (r : PlayR) (dN : Nat) (gP : Option Addr) (gQ : Option Addr) (hD : Nat) (hE : Nat), (Frm 114 a_ [(16, .int .i64 (r.err)), (15, pt dN 0), (63, .bool (decide ((k1 : Int) < 4))), (62, .int .i64 (k1)), (13, .int .i64 (k1)), (53, .bool (decide ((i1 : Int) < 30))), (52, .int .i64 (i1)), (12, .int .i64 (i1)), (11, pt fS.heap.size 0), (10, .int .i64 (1)), (8, pt aA.heap.size 0), (2, pt w.heap.size 0), (1, .slice Asc lss.length csc)]) ∧ (Ext w w_) ∧ (RdG w_ 0 w.heap.size Ag0 Ag1 Ag2 cg0 cg1 cg2 g) ∧ (RdT w_ 0 w.heap.size) ∧ (RdII w_ 0 w.heap.size Asc lss) ∧ (Bx w_ (w.heap.size) [.slice Ag0 g.ow.length cg0, .slice Ag1 g.pr.length cg1, .slice Ag2 g.mv.length cg2] 25) ∧ (RdI w_ (aB.heap.size) aA.heap.size aF la) ∧ (RdI w_ (aB.heap.size) aA.heap.size aD lb) ∧ (RdI w_ (aB.heap.size) aA.heap.size aE ma) ∧ (RdI w_ (aB.heap.size) aA.heap.size aC mb) ∧ (Bx w_ (aA.heap.size) [.slice aF la.length bB, .slice aD lb.length aI, .slice aE ma.length aR, .slice aC mb.length aG] 32) ∧ (Bx w_ (fS.heap.size) ((ofW lb : List Int).map wV) 44) ∧ (OwnR w_ (Sx (gG.heap.size) [obk (gQ), some (dN)]) (gP) (hD) 3 (r.ah : List Int)) ∧ (OwnR w_ (Sx (gG.heap.size) [obk (gP), some (dN)]) (gQ) (hE) 3 (r.ro : List Int)) ∧ (Bx w_ (dN) [.slice (gP) r.ah.length (hD), .slice (gQ) r.ro.length (hE), .int .i64 (r.win)] 55) ∧ (gG.heap.size ≤ dN) ∧ (gG.heap.size ≤ w_.heap.size) ∧ (RunT g (gI lb (i1)) 1 mb sc r)) ?_ ?_)
     ·obtain ⟨vY, vZ, _, _, wA⟩ := RdI.get bP (i1) ω ω
      obtain ⟨tA, gH⟩ : ∃ c : List (Addr × Value), c = [(⟨w.heap.size, 0, none⟩, (.slice Ag0 g.ow.length cg0)), (⟨w.heap.size, 1, none⟩, (.slice Ag1 g.pr.length cg1)), (⟨w.heap.size, 2, none⟩, (.slice Ag2 g.mv.length cg2)), (⟨aA.heap.size, 1, none⟩, (.slice aD lb.length aI)), ((vY.add ((i1 : Int).toNat * 1)), (.int .i64 (gI lb (i1)))), (⟨aA.heap.size, 3, none⟩, (.slice aC mb.length aG))] := ⟨_, rfl⟩
      have tB : HoldsC tA gG := by rw [gH]; exact ⟨(aL.cell (i := 0) rfl), (aL.cell (i := 1) rfl), (aL.cell (i := 2) rfl), (aP.cell (i := 1) rfl), wA, (aP.cell (i := 3) rfl), trivial⟩
      refine AtH.start tA 21 _ κ rfl rfl (fun nU tC => ?_)
      have dO := gr_drew tC; have nV := tB.gr dO; have := dO.size; replace bO := bO.gn dO; replace aY := aY.gn dO; replace cP := cP.gn dO; replace cQ := cQ.gn dO; replace aL := aL.gn dO; replace cR := cR.gn dO; replace bP := bP.gn dO; replace cS := cS.gn dO; replace aZ := aZ.gn dO; replace aP := aP.gn dO; replace bQ := bQ.gn dO; replace cT := cT.gn dO; clear dO tC tB
      refine AtH.rk nV nT [0, 1, 2, 3, 4, 5, 6, 7, 8, 9, 10, 11, 12, 13] 7 [(90, .slice As2 sc.length cs2), (89, .slice aC mb.length aG), (85, .int .i64 (1)), (84, .int .i64 (gI lb (i1))), (77, .agg #[.slice Ag0 g.ow.length cg0, .slice Ag1 g.pr.length cg1, .slice Ag2 g.mv.length cg2])] (.l (CsC_at gH 0 rfl) <| .l (CsC_at gH 1 rfl) <| .l (CsC_at gH 2 rfl) <| .b 1 2 <| .l (CsC_at gH 3 rfl) <| .a i1 lb.length vZ <| .l (CsC_at gH 4 rfl) <| .b 1 2 <| .l (CsC_at gH 5 rfl) <| .n) (fun aBX lO => ?_)
      clear nT
      refine AtH.all [14, 18] 6 κ (by simp) ⟨?_, ?_, trivial⟩
      ·refine OneH.cl lO (some 91) (args := #[.agg #[.slice Ag0 g.ow.length cg0, .slice Ag1 g.pr.length cg1, .slice Ag2 g.mv.length cg2], .int .i64 (gI lb (i1)), .int .i64 (1), .slice aC mb.length aG, .slice As2 sc.length cs2]) (runM_any (g := g) (i := gI lb (i1)) (p := 1) (lm := mb) (ls := sc) (aY.wide (Nat.zero_le _) ω) (aZ.wide (Nat.zero_le _) ω) (cT.wide (Nat.zero_le _) ω)) ?_
       rintro e_ nW ⟨r, hr, kN, kO, kP, kQ, rfl, he, kR, kS⟩
       have hlr := run_len hr
       refine ⟨_, rfl, _, rfl, fun aBY tD => ?_⟩
       clear lO; have dP := gr_ext he; have kT := nV.gr dP; have := dP.size; replace bO := bO.gn dP; replace aY := aY.gn dP; replace cP := cP.gn dP; replace cQ := cQ.gn dP; replace aL := aL.gn dP; replace cR := cR.gn dP; replace bP := bP.gn dP; replace cS := cS.gn dP; replace aZ := aZ.gn dP; replace aP := aP.gn dP; replace bQ := bQ.gn dP; replace cT := cT.gn dP; clear dP he
       refine ⟨kT, ?_⟩
       refine AtH.rk kT tD [15] 5 [(76, .tuple #[.agg #[.slice kN r.ah.length kO, .slice kP r.ro.length kQ, .int .i64 (r.win)], .int .i64 (r.err)])] .n (fun aBZ tE => ?_)
       clear tD
       refine AtH.rk kT tE [16] 4 [(92, .agg #[.slice kN r.ah.length kO, .slice kP r.ro.length kQ, .int .i64 (r.win)])] .n (fun aCa tF => ?_)
       clear tE
       refine AtH.rk kT tF [17] 3 [(93, .int .i64 (r.err))] .n (fun aCb tG => ?_)
       clear tF
       refine AtH.all [18] 2 κ (by simp) ⟨?_, trivial⟩
       refine OneH.bx tG kT 15 [.slice none 0 0, .slice none 0 0, .int .i64 (0)] 55 (fun aCc dF nX wB aCd tH => ?_)
       clear tG; have := dF.size; replace bO := bO.gn dF; replace aY := aY.gn dF; replace cP := cP.gn dF; replace cQ := cQ.gn dF; replace aL := aL.gn dF; replace cR := cR.gn dF; replace bP := bP.gn dF; replace cS := cS.gn dF; replace aZ := aZ.gn dF; replace aP := aP.gn dF; replace bQ := bQ.gn dF; replace cT := cT.gn dF; replace kR := kR.grN dF; replace kS := kS.grN dF; have := nX.lt; clear dF
       refine AtH.all [19] 1 κ (by simp) ⟨?_, trivial⟩
       refine OneH.store tH (t := 55) (b := nW.heap.size) (off := 0) (v := .agg #[.slice kN r.ah.length kO, .slice kP r.ro.length kQ, .int .i64 (r.win)]) _ rfl κ nX κ (fun aCe wC cU nY tI => ?_)
       clear tH; replace nY : Bx wC (nW.heap.size) [.slice kN r.ah.length kO, .slice kP r.ro.length kQ, .int .i64 (r.win)] 55 := nY
       have nZ := wB.gr' cU (by rw [gH]; exact ⟨(by simp only [add_block]; omega), (by simp only [add_block]; omega), (by simp only [add_block]; omega), (by simp only [add_block]; omega), (by simp only [add_block]; omega), (by simp only [add_block]; omega), trivial⟩)
       have := cU.size; replace bO := bO.gr cU (fun k h => by injection h; omega); replace aY := aY.gb cU ω; replace cP := cP.gb cU ω; replace cQ := cQ.gb cU ω; replace aL := aL.gb cU ω; replace cR := cR.gb cU ω; replace bP := bP.gb cU ω; replace cS := cS.gb cU ω; replace aZ := aZ.gb cU ω; replace aP := aP.gb cU ω; replace bQ := bQ.gb cU ω; replace cT := cT.gb cU ω
       replace kR := kR.gr cU (fun k hk => hk.1); replace kS := kS.gr cU (fun k hk => hk.1); clear nX cU
       refine ⟨nZ, ?_⟩
       refine AtH.rk nZ tI [20] 0 [(16, .int .i64 (r.err))] .n (fun aCf wD => ?_)
       clear tI
       refine AtH.done κ ?_
       clear nZ
       refine t_n ?_
       exact ⟨r, nW.heap.size, kN, kP, kO, kQ, wD.sb, bO, aY, cP, cQ, aL, cR, bP, cS, aZ, aP, bQ, (kR.imp (fun g _ hs => ⟨hs.2.1, hs.1, (by have := Sx_base hs; show gG.heap.size ≤ g; omega)⟩)), (kS.imp (fun g _ hs => ⟨hs.2.1, hs.1, (by have := Sx_base hs; show gG.heap.size ≤ g; omega)⟩)), nY, ω, ω, hr⟩
      refine OneH.bx lO nV 15 [.slice none 0 0, .slice none 0 0, .int .i64 (0)] 55 (fun aCg dU kU wE aCh tJ => ?_)
      clear lO; have := dU.size; replace bO := bO.gn dU; replace aY := aY.gn dU; replace cP := cP.gn dU; replace cQ := cQ.gn dU; replace aL := aL.gn dU; replace cR := cR.gn dU; replace bP := bP.gn dU; replace cS := cS.gn dU; replace aZ := aZ.gn dU; replace aP := aP.gn dU; replace bQ := bQ.gn dU; replace cT := cT.gn dU; have := kU.lt; clear dU
      refine AtH.all [14] 5 κ (by simp) ⟨?_, trivial⟩
      refine OneH.cl tJ (some 91) (args := #[.agg #[.slice Ag0 g.ow.length cg0, .slice Ag1 g.pr.length cg1, .slice Ag2 g.mv.length cg2], .int .i64 (gI lb (i1)), .int .i64 (1), .slice aC mb.length aG, .slice As2 sc.length cs2]) (runM_any (g := g) (i := gI lb (i1)) (p := 1) (lm := mb) (ls := sc) (aY.wide (Nat.zero_le _) ω) (aZ.wide (Nat.zero_le _) ω) (cT.wide (Nat.zero_le _) ω)) ?_
      rintro e_ aCi ⟨r, hr, kV, kW, kX, kY, rfl, he, oA, oB⟩
      have hlr := run_len hr
      refine ⟨_, rfl, _, rfl, fun aCj tK => ?_⟩
      clear tJ; have dG := gr_ext he; have kZ := wE.gr dG; have := dG.size; replace bO := bO.gn dG; replace aY := aY.gn dG; replace cP := cP.gn dG; replace cQ := cQ.gn dG; replace aL := aL.gn dG; replace cR := cR.gn dG; replace bP := bP.gn dG; replace cS := cS.gn dG; replace aZ := aZ.gn dG; replace aP := aP.gn dG; replace bQ := bQ.gn dG; replace cT := cT.gn dG; replace kU := kU.gn dG; clear dG he
      refine ⟨kZ, ?_⟩
      refine AtH.rk kZ tK [15] 4 [(76, .tuple #[.agg #[.slice kV r.ah.length kW, .slice kX r.ro.length kY, .int .i64 (r.win)], .int .i64 (r.err)])] .n (fun aCk tL => ?_)
      clear tK
      refine AtH.rk kZ tL [16] 3 [(92, .agg #[.slice kV r.ah.length kW, .slice kX r.ro.length kY, .int .i64 (r.win)])] .n (fun aCl tM => ?_)
      clear tL
      refine AtH.rk kZ tM [17] 2 [(93, .int .i64 (r.err))] .n (fun aCm tN => ?_)
      clear tM
      refine AtH.all [19] 1 κ (by simp) ⟨?_, trivial⟩
      refine OneH.store tN (t := 55) (b := nU.heap.size) (off := 0) (v := .agg #[.slice kV r.ah.length kW, .slice kX r.ro.length kY, .int .i64 (r.win)]) _ rfl κ kU κ (fun aCn wF cV oC tO => ?_)
      clear tN; replace oC : Bx wF (nU.heap.size) [.slice kV r.ah.length kW, .slice kX r.ro.length kY, .int .i64 (r.win)] 55 := oC
      have oD := kZ.gr' cV (by rw [gH]; exact ⟨(by simp only [add_block]; omega), (by simp only [add_block]; omega), (by simp only [add_block]; omega), (by simp only [add_block]; omega), (by simp only [add_block]; omega), (by simp only [add_block]; omega), trivial⟩)
      have := cV.size; replace bO := bO.gr cV (fun k h => by injection h; omega); replace aY := aY.gb cV ω; replace cP := cP.gb cV ω; replace cQ := cQ.gb cV ω; replace aL := aL.gb cV ω; replace cR := cR.gb cV ω; replace bP := bP.gb cV ω; replace cS := cS.gb cV ω; replace aZ := aZ.gb cV ω; replace aP := aP.gb cV ω; replace bQ := bQ.gb cV ω; replace cT := cT.gb cV ω
      replace oA := oA.gr cV (fun k hk e => by have := Sx_base hk; injection e; omega); replace oB := oB.gr cV (fun k hk e => by have := Sx_base hk; injection e; omega); clear kU cV
      refine ⟨oD, ?_⟩
      refine AtH.rk oD tO [20] 0 [(16, .int .i64 (r.err))] .n (fun aCo wG => ?_)
      clear tO
      refine AtH.done κ ?_
      clear oD
      refine t_n ?_
      exact ⟨r, nU.heap.size, kV, kX, kW, kY, wG.sb, bO, aY, cP, cQ, aL, cR, bP, cS, aZ, aP, bQ, (oA.imp (fun g _ hs => ⟨hs.1, (fun e => by have := Sx_base hs; injection e; omega), (by have := Sx_base hs; show gG.heap.size ≤ g; omega)⟩)), (oB.imp (fun g _ hs => ⟨hs.1, (fun e => by have := Sx_base hs; injection e; omega), (by have := Sx_base hs; show gG.heap.size ≤ g; omega)⟩)), oC, ω, ω, hr⟩
     clear aY; clear cP; clear cQ; clear aL; clear cR; clear bP; clear cS; clear aZ; clear aP; clear bQ; clear cT; clear nT bO
     intro aCp tP ⟨r, dN, gP, gQ, hD, hE, tQ, eS, fT, fU, fV, eT, fW, fX, fY, fZ, eU, dZ, gA, gB, dV, aCq, aCr, hr⟩
     have := eS.size; have hlr := run_len hr; have := eT.lt; have := eU.lt; have := dZ.lt; have := dV.lt; have hpw := (by first | exact (pw_0 hR hsA ω ω gJ hr) | exact (pw_1 hR hsA ω ω gJ hr))
     refine wp_seq ?_
     obtain ⟨oE, lA⟩ : ∃ c : List (Addr × Value), c = ([(⟨dN, 2, none⟩, (.int .i64 (r.win))), (⟨dN, 0, none⟩, (.slice gP r.ah.length hD)), (⟨dN, 1, none⟩, (.slice gQ r.ro.length hE))] : List (Addr × Value)) ++ blkC (fS.heap.size) ((ofW lb : List Int).map wV) := ⟨_, rfl⟩
     have tR : HoldsC oE tP := by rw [lA]; exact (holdsA (show HoldsC [(⟨dN, 2, none⟩, (.int .i64 (r.win))), (⟨dN, 0, none⟩, (.slice gP r.ah.length hD)), (⟨dN, 1, none⟩, (.slice gQ r.ro.length hE))] tP from ⟨(dV.cell (i := 2) rfl), (dV.cell (i := 0) rfl), (dV.cell (i := 1) rfl), trivial⟩) (holds_blk dZ))
     refine AtH.start oE 20 _ κ rfl rfl (fun aCs tS => ?_)
     have cW := gr_drew tS; have tT := tR.gr cW; have := cW.size; replace eS := eS.gn cW; replace fT := fT.gn cW; replace fU := fU.gn cW; replace fV := fV.gn cW; replace eT := eT.gn cW; replace fW := fW.gn cW; replace fX := fX.gn cW; replace fY := fY.gn cW; replace fZ := fZ.gn cW; replace eU := eU.gn cW; replace dZ := dZ.gn cW; replace gA := gA.gn cW; replace gB := gB.gn cW; replace dV := dV.gn cW
     clear cW tS tR
     refine AtH.rk tT tQ [0, 1, 2, 3, 4, 5, 6, 7, 8, 9, 10, 12, 13, 16] 6 [(110, .agg ((ofW lb : List Int).map wV).toArray), (107, .slice gQ r.ro.length hE), (106, pt dN 1), (104, .slice gP r.ah.length hD), (103, pt dN 0), (102, .bool false), (100, .bool false), (99, .int .i64 (1)), (98, .int .i64 (r.win)), (97, pt dN 2)] (.v 95 (show (.bool ((r.err : Int) != 0) : Value) = .bool false from (congrArg Value.bool (pneF hpw.err))) <| .l (CsC_at lA 0 rfl) <| .v 100 (show (.bool ((r.win : Int) != 1) : Value) = .bool false from (congrArg Value.bool (pneF hpw.win))) <| .l (CsC_at lA 1 rfl) <| .l (CsC_at lA 2 rfl) <| .p (show ((ofW lb : List Int).map wV).length = 4 from ((List.length_map _).trans (okLen (ofW_ok _)))) <| .p (show ∀ (j : Nat) (v : Value), ((ofW lb : List Int).map wV)[j]? = some v → ∃ j_ : Nat, oE[j_]? = some (((⟨fS.heap.size, 0, none⟩ : Addr).add j), v) from (fun j v hv => List.getElem?_of_mem (by rw [lA]; exact List.mem_append.2 (.inr (blkC_in hv))))) <| .o (.cs ((ofW lb : List Int).map wV)) <| .n) (fun aCt tU => ?_)
     clear tQ
     refine AtH.all [11] 5 κ (by simp) ⟨?_, trivial⟩
     refine OneH.cl tU (some 105) (args := #[.slice gP r.ah.length hD]) (of_any (la := r.ah) (gA.rdI0 (by first | omega | (simp only [List.length_cons, List.length_nil]; omega) | (simp; done) | (simp; omega)))) ?_
     rintro e_ aCu ⟨rfl, he⟩
     refine ⟨_, rfl, _, rfl, fun aCv tV => ?_⟩
     clear tU; have cX := gr_ext he; have tW := tT.gr cX; have := cX.size; replace eS := eS.gn cX; replace fT := fT.gn cX; replace fU := fU.gn cX; replace fV := fV.gn cX; replace eT := eT.gn cX; replace fW := fW.gn cX; replace fX := fX.gn cX; replace fY := fY.gn cX; replace fZ := fZ.gn cX; replace eU := eU.gn cX; replace dZ := dZ.gn cX; replace gA := gA.gn cX; replace gB := gB.gn cX
     replace dV := dV.gn cX; clear cX he
     refine ⟨tW, ?_⟩
     refine AtH.all [14] 4 κ (by simp) ⟨?_, trivial⟩
     refine OneH.cl tV (some 108) (args := #[.slice gQ r.ro.length hE]) (of_any (la := r.ro) (gB.rdI0 (by first | omega | (simp only [List.length_cons, List.length_nil]; omega) | (simp; done) | (simp; omega)))) ?_
     rintro e_ aCw ⟨rfl, he⟩
     refine ⟨_, rfl, _, rfl, fun aCx tX => ?_⟩
     clear tV; have cY := gr_ext he; have tY := tW.gr cY; have := cY.size; replace eS := eS.gn cY; replace fT := fT.gn cY; replace fU := fU.gn cY; replace fV := fV.gn cY; replace eT := eT.gn cY; replace fW := fW.gn cY; replace fX := fX.gn cY; replace fY := fY.gn cY; replace fZ := fZ.gn cY; replace eU := eU.gn cY; replace dZ := dZ.gn cY; replace gA := gA.gn cY; replace gB := gB.gn cY
     replace dV := dV.gn cY; clear cY he
     refine ⟨tY, ?_⟩
     refine AtH.all [15] 3 κ (by simp) ⟨?_, trivial⟩
     refine OneH.cl tX (some 109) (orS_any (s := ofW r.ah) (t := ofW r.ro) (ofW_ok _) (ofW_ok _)) ?_
     rintro e_ aCy ⟨rfl, he⟩
     refine ⟨_, rfl, _, rfl, fun aCz tZ => ?_⟩
     clear tX; have cZ := gr_ext he; have uA := tY.gr cZ; have := cZ.size; replace eS := eS.gn cZ; replace fT := fT.gn cZ; replace fU := fU.gn cZ; replace fV := fV.gn cZ; replace eT := eT.gn cZ; replace fW := fW.gn cZ; replace fX := fX.gn cZ; replace fY := fY.gn cZ; replace fZ := fZ.gn cZ; replace eU := eU.gn cZ; replace dZ := dZ.gn cZ; replace gA := gA.gn cZ; replace gB := gB.gn cZ
     replace dV := dV.gn cZ; clear cZ he
     refine ⟨uA, ?_⟩
     refine AtH.all [17] 2 κ (by simp) ⟨?_, trivial⟩
     refine OneH.cl tZ (some 111) ((in_any (s := orS (ofW r.ah) (ofW r.ro)) (t := ofW lb) (okW_orS (ofW_ok _) (ofW_ok _)) (ofW_ok _)).mono (R' := fun e w' => e = .returned (.bool true) ∧ Ext _ w') (fun e_ w_ h_ => by rw [show (inW (orS (ofW r.ah) (ofW r.ro)) (ofW lb) : Bool) = true from hpw.all] at h_; exact h_)) ?_
     rintro e_ aCA ⟨rfl, he⟩
     refine ⟨_, rfl, _, rfl, fun aCB uB => ?_⟩
     clear tZ; have dA := gr_ext he; have lP := uA.gr dA; have := dA.size; replace eS := eS.gn dA; replace fT := fT.gn dA; replace fU := fU.gn dA; replace fV := fV.gn dA; replace eT := eT.gn dA; replace fW := fW.gn dA; replace fX := fX.gn dA; replace fY := fY.gn dA; replace fZ := fZ.gn dA; replace eU := eU.gn dA; replace dZ := dZ.gn dA; replace gA := gA.gn dA; replace gB := gB.gn dA
     replace dV := dV.gn dA; clear dA he
     refine ⟨lP, ?_⟩
     refine AtH.rk lP uB [18] 1 [(112, .bool false)] .n (fun aCC uC => ?_)
     clear uB
     refine AtH.rk lP uC [19] 0 [(113, .bool false)] .n (fun aCD oF => ?_)
     clear uC
     refine AtH.done κ ?_
     clear lP
     refine t_n ?_
     refine cond_F oF rfl ?_
     refine wp_skip ?_
     refine b_n ?_
     refine t_n ?_
     refine At.start ?_
     refine At.rk oF 3 [(13, .int .i64 (k1 + 1))] (.w 66 (k1 + 1) <| .n) (fun aCE wH => ?_)
     clear oF
     refine At.dn ?_
     exact ⟨_, ω, (k1 + 1), rfl, wH.sb, eS, fT, fU, fV, eT, fW, fX, fY, fZ, eU, dZ, ω, ω⟩
    have aCF := of_decide_eq_false nP
    refine wp_exit ?_
    refine t_e ?_
    clear hm1125
    refine t_e ?_
    refine b_e ?_
    refine b_n ?_
    refine t_n ?_
    refine At.start ?_
    refine At.rk kM 3 [(12, .int .i64 (i1 + 1))] (.w 56 (i1 + 1) <| .n) (fun aCG wI => ?_)
    clear kM
    refine At.dn ?_
    exact ⟨_, ω, (i1 + 1), rfl, wI.sb, hT, kF, kG, hU, hV, kH, kI, kJ, kK, hW, hX, ω, ω⟩
   have aCH := of_decide_eq_false kL
   refine At.rk lM 8 [(64, .bool false)] (.e 61 kL <| .n) (fun aCI oG => ?_)
   clear lM
   refine At.dn ?_
   refine cond_F oG rfl ?_
   refine wp_exit ?_
   refine t_e ?_
   clear hm1125
   refine t_e ?_
   refine b_e ?_
   refine b_n ?_
   refine t_n ?_
   refine At.start ?_
   refine At.rk oG 3 [(12, .int .i64 (i1 + 1))] (.w 56 (i1 + 1) <| .n) (fun aCJ wJ => ?_)
   clear oG
   refine At.dn ?_
   exact ⟨_, ω, (i1 + 1), rfl, wJ.sb, hT, kF, kG, hU, hV, kH, kI, kJ, kK, hW, hX, ω, ω⟩
  have aCK := of_decide_eq_false nO
  refine wp_exit ?_
  refine t_e ?_
  clear hm1099
  refine t_e ?_
  refine b_e ?_
  refine b_n ?_
  refine t_n ?_
  clear kC
  refine At.start ?_
  refine At.rk kE 3 [(10, .int .i64 (2))] (.v 38 (show (.int .i64 (IntKind.i64.wrap (1 + 1)) : Value) = .int .i64 (2) from κ) <| .n) (fun aCL uD => ?_)
  clear kE
  refine At.dn ?_
  have uE := uD.sb (r := [(10, .int .i64 (2)), (53, .bool (decide ((i1 : Int) < 30))), (52, .int .i64 (i1)), (8, pt aA.heap.size 0), (2, pt w.heap.size 0), (1, .slice Asc lss.length csc)])
  clear uD
  refine loop_u ?_
  refine wp_seq ?_
  refine sqs ?_
  refine At.rk uE 2 [(36, .bool false)] (.v 36 (show (.bool (decide ((2 : Int) < 2)) : Value) = .bool false from κ) <| .n) (fun aCM oH => ?_)
  clear uE
  refine At.dn ?_
  refine cond_F oH rfl ?_
  refine wp_exit ?_
  refine t_e ?_
  refine t_e ?_
  refine b_e ?_
  refine t_n ?_
  clear kB; clear hB
  refine sqs ?_
  refine At.rk oH 1 [(4, .bool true)] .n (fun aCN wK => ?_)
  clear oH
  refine At.dn ?_
  refine wp_ret ?_
  refine ret_ wK [] [.bool true] [] κ trivial ?_
  exact ⟨rfl, kA⟩
 have aCO := of_decide_eq_false kD
 refine At.rk lL 11 [(54, .bool false)] (.b 1 2 <| .l (hB.cell (i := 1) rfl) <| .e 51 kD <| .n) (fun aCP oI => ?_)
 clear lL
 refine At.dn ?_
 refine cond_F oI rfl ?_
 refine wp_exit ?_
 refine t_e ?_
 clear hm1099
 refine t_e ?_
 refine b_e ?_
 refine b_n ?_
 refine t_n ?_
 clear kC
 refine At.start ?_
 refine At.rk oI 3 [(10, .int .i64 (2))] (.v 38 (show (.int .i64 (IntKind.i64.wrap (1 + 1)) : Value) = .int .i64 (2) from κ) <| .n) (fun aCQ uF => ?_)
 clear oI
 refine At.dn ?_
 have uG := uF.sb (r := [(10, .int .i64 (2)), (8, pt aA.heap.size 0), (2, pt w.heap.size 0), (1, .slice Asc lss.length csc)]); clear uF
 refine loop_u ?_
 refine wp_seq ?_
 refine sqs ?_
 refine At.rk uG 2 [(36, .bool false)] (.v 36 (show (.bool (decide ((2 : Int) < 2)) : Value) = .bool false from κ) <| .n) (fun aCR oJ => ?_)
 clear uG
 refine At.dn ?_
 refine cond_F oJ rfl ?_
 refine wp_exit ?_
 refine t_e ?_
 refine t_e ?_
 refine b_e ?_
 refine t_n ?_
 clear kB; clear hB
 refine sqs ?_
 refine At.rk oJ 1 [(4, .bool true)] .n (fun aCS wL => ?_)
 clear oJ
 refine At.dn ?_
 refine wp_ret ?_
 refine ret_ wL [] [.bool true] [] κ trivial ?_
 exact ⟨rfl, kA⟩
end Go.Proofs.YtplpgfcjjnaigaaDoor
namespace Go.Proofs.YtplpgfcjjnaigaaDoor
open Go Go.RowKit Go.ChangeShapes Go.WideShapes Go.ChangeAt
section
variable {H : Type} {enc : TypeId × Value → H} {P : Program} {W W' : World}
theorem trodAll_stays (hl : laidOutB P = true) {sp : Nat → Bool} (hb : Below W.heap.size W W') : ∀ {ts : List TypeId} {vs : List Value} {ds : List (DataW H)} {ps : List MemPlace}, (∀ t ∈ ts, P.readableRec t = true ∧ t < P.types.size) →
    DataW.TrodAll enc P W 0 (fun _ => true) true ts vs ds ps → (∀ p ∈ ps, p.block < W.heap.size) → (∀ p ∈ ps, sp p.block = true) → DataW.TrodAll enc P W' 0 sp true ts vs ds ps
  | [], [], [], _, _, h, _, _ => h
  | _ :: _, _ :: _, _ :: _, _, hT, ⟨p, q, h1, h2, e⟩, hlt, hs => ⟨p, q, WideElems.Trod_stays hl (hT _ List.mem_cons_self).1 (hT _ List.mem_cons_self).2 h1 (fun x hx => hb.same (hlt x (by rw [e]; exact List.mem_append_left _ hx))) (fun x hx => hs x (by rw [e]; exact List.mem_append_left _ hx)),
      trodAll_stays hl hb (fun t ht => hT t (List.mem_cons_of_mem _ ht)) h2 (fun x hx => hlt x (by rw [e]; exact List.mem_append_right _ hx)) (fun x hx => hs x (by rw [e]; exact List.mem_append_right _ hx)), e⟩
theorem trodAll_len {w : World} {b : Nat} {sp : Nat → Bool} {hd : Bool} : ∀ {ts : List TypeId} {vs : List Value} {ds : List (DataW H)} {ps : List MemPlace}, DataW.TrodAll enc P w b sp hd ts vs ds ps → ds.length = ts.length
  | [], [], [], _, _ => rfl
  | _ :: _, _ :: _, _ :: _, _, ⟨_, _, _, h2, _⟩ => by simp [trodAll_len h2]
theorem law_post {f : Func} {s : ChangeSpec} {args : Array Value} {ds gs : List (DataW H)} {before : List MemPlace} (hl : laidOutB P = true) (hT : ∀ t ∈ f.params.toList, P.readableRec t = true ∧ t < P.types.size)
    (hv : s.vars = []) (hs : ∀ l : List (DataW H), l.length = f.params.size → s.fn H l = { results := [.lit (.bool true)], args := l }) {tb : TypeId} (hr : f.resultTypes = #[tb]) (htb : P.underlying tb = some .bool)
    (hW : DataW.Whole enc P f.params.toList s.vars false W args.toList ds gs before) (hE : Ext W W') :
    s.post enc P f false true false false W args (.bool true) W' := by
  have hW' := hW
  obtain ⟨p, q, hA, hV, rfl, hfz, hnd⟩ := hW
  rw [hv] at hV
  obtain ⟨rfl, rfl⟩ := trodVars_none hV
  have hlen : ds.length = f.params.size := by have := trodAll_len hA; simpa using this
  have hlt : ∀ x ∈ p, x.block < W.heap.size := fun x hx => by
    have := DataW.TrodAll.lt hA x hx
    exact this
  have e := hs (ds ++ []) (by simpa using hlen)
  refine ⟨ds, [], p ++ [], [], p, [], hW', ?_, ?_, ?_, Below.frame hE _, fun h => by cases h⟩
  · rw [e, hr]
    exact trodAll_cons_mk (shut_bool htb true) trodAll_mk0
  · rw [e]
    simp only [List.append_nil]
    exact trodAll_stays hl hE hT hA hlt (fun x hx => by simpa using hlt x hx)
  · rw [e, hv]
    rfl
def Fits (P : Program) (t : TypeId) (d : DataW H) : Prop := ∀ x ∈ d.weights P t, x ≤ reachBytes
theorem fits_each {t : TypeId} {ts : List TypeId} {d : DataW H} {ds : List (DataW H)} (h : ∀ x ∈ DataW.weightsEach P (t :: ts) (d :: ds), x ≤ reachBytes) : Fits P t d ∧ ∀ x ∈ DataW.weightsEach P ts ds, x ≤ reachBytes := by
  simp only [DataW.weightsEach, List.mem_append] at h
  exact ⟨fun x hx => h x (.inl hx), fun x hx => h x (.inr hx)⟩
theorem fits_all {e : TypeId} : ∀ {l : List (DataW H)}, (∀ x ∈ DataW.weightsAll P e l, x ≤ reachBytes) → ∀ d ∈ l, Fits P e d
  | [], _, _, hd => by cases hd
  | d :: r, h, d', hd => by
    simp only [DataW.weightsAll, List.mem_append] at h
    rcases List.mem_cons.1 hd with rfl | hd
    · exact fun x hx => h x (.inl hx)
    · exact fits_all (fun x hx => h x (.inr hx)) d' hd
theorem fits_slice {t e : TypeId} {el sp : List (DataW H)} (ht : P.underlying t = some (.slice e)) (h : Fits P t (.slice el sp)) : (el.length + sp.length) * P.bytesOf e ≤ reachBytes ∧ ∀ d ∈ el, Fits P e d := by
  simp only [Fits, DataW.weights, ht, List.mem_cons, List.mem_append] at h
  exact ⟨h _ (.inl rfl), fits_all (fun x hx => h x (.inr (.inl hx)))⟩
theorem fits_struct {t : TypeId} {fs : Array Field} {ps : List (DataW H)} (ht : P.underlying t = some (.struct fs)) (h : Fits P t (.agg ps)) : ∀ x ∈ DataW.weightsEach P (fs.toList.map (·.type)) ps, x ≤ reachBytes := by
  simp only [Fits, DataW.weights, ht] at h
  exact h
def I64 (z : Int) : Prop := -9223372036854775808 ≤ z ∧ z ≤ 9223372036854775807
theorem getD_take {l : List Int} {n i : Nat} (h : i < n) : (l.take n).getD i 0 = l.getD i 0 := by
  simp only [List.getD_eq_getElem?_getD, List.getElem?_take, if_pos h]
theorem bulk_one (d : DataW H) : 1 ≤ Rows.uptoBulk d := by
  cases d with
  | lit l => cases l <;> simp [Rows.uptoBulk]
  | _ => simp [Rows.uptoBulk]
theorem bulk_len : ∀ l : List (DataW H), l.length ≤ Rows.uptoBulkAll l
  | [] => Nat.zero_le _
  | x :: r => by
    have := bulk_one x
    have := bulk_len r
    simp only [Rows.uptoBulkAll, List.length_cons]
    omega
theorem bulk_slice (el sp : List (DataW H)) : el.length ≤ Rows.uptoBulk (.slice el sp) := by
  have := bulk_len el
  simp only [Rows.uptoBulk]
  omega
theorem openI {t e : TypeId} (ht : P.underlying t = some (.slice e)) (he : P.underlying e = some (.int .i64)) (hc : P.cellsOf e = 1) (hb : P.bytesOf e = 8) {n : Nat} {cs : List Value} {x : DataW H × List MemPlace}
    (h : DataW.trod enc P W 0 (fun _ => true) true n t cs = some x) (hf : Fits P t x.1) : ∃ A l c, cs = [.slice A l.length c] ∧ l.length ≤ c ∧ RdI W 0 W.heap.size A l ∧ (∀ z ∈ l, I64 z) ∧ l.length ≤ Rows.uptoBulk x.1 := by
  rcases open_ints ht he hc h with ⟨rfl, rfl⟩ | ⟨a, len, cap, zs, rfl, _, hle, hm, hz, rfl, hcell, hw⟩
  · exact ⟨none, [], 0, rfl, Nat.le_refl _, rdI_nil, (fun z hz => by cases hz), Nat.zero_le _⟩
  · simp only [if_true] at hz
    have h1 := (fits_slice ht hf).1
    rw [hb] at h1
    simp only [lits, List.length_map, List.length_take, List.length_drop, reachBytes] at h1
    have hlen : (zs.take len).length = len := by rw [List.length_take]; omega
    refine ⟨some a, zs.take len, cap, by rw [hlen], by omega, ⟨by omega, fun i q hi hq => ?_⟩, fun z hz' => ?_, ?_⟩
    · obtain rfl : q = 0 := by omega
      have hc' := hcell i (by omega)
      refine ⟨a, rfl, Nat.zero_le _, ?_, ?_⟩
      · have := World.block_lt_of_cell? _ _ hc'
        rwa [add_block] at this
      · rw [add_zero, Nat.mul_one, hc']
        show some _ = some (Value.int .i64 ((zs.take len).getD i 0))
        rw [getD_take (by omega)]
    · have := bounds_i64 (hw z (List.mem_of_mem_take hz'))
      exact this
    · have := bulk_slice (H := H) (lits .i64 (zs.take len)) (lits .i64 (zs.drop len))
      simpa [lits] using this
theorem openII {t e q : TypeId} (ht : P.underlying t = some (.slice e)) (he : P.underlying e = some (.slice q)) (hq : P.underlying q = some (.int .i64)) (ce : P.cellsOf e = 1) (cq : P.cellsOf q = 1) (be : P.bytesOf e = 24) (bq : P.bytesOf q = 8) {n : Nat} {cs : List Value} {x : DataW H × List MemPlace}
    (h : DataW.trod enc P W 0 (fun _ => true) true n t cs = some x) (hf : Fits P t x.1) : ∃ A l c, cs = [.slice A l.length c] ∧ l.length ≤ c ∧ RdII W 0 W.heap.size A l ∧ (∀ r ∈ l, ∀ z ∈ r, I64 z) ∧ l.length ≤ Rows.uptoBulk x.1 := by
  rcases Go.Deep.open_slice1 ht ce h with ⟨rfl, rfl⟩ | ⟨a, len, cap, m, n', V, D, Pl, rfl, _, hle, hm, hmm, rfl, hx⟩
  · exact ⟨none, [], 0, rfl, Nat.le_refl _, rdII_nil, (fun z hz => by cases hz), Nat.zero_le _⟩
  · simp only [if_true] at hmm
    subst hmm
    obtain ⟨h1, h2⟩ := fits_slice ht hf
    rw [be] at h1
    simp only [List.length_map, List.length_range, reachBytes] at h1
    have each : ∀ r, r < len → ∃ y : Option Addr × List Int × Nat, V r = .slice y.1 y.2.1.length y.2.2 ∧ y.2.1.length ≤ y.2.2 ∧ RdI W 0 W.heap.size y.1 y.2.1 ∧ ∀ z ∈ y.2.1, I64 z := fun r hr => by
      obtain ⟨A, l, c, e1, e2, e3, e4, _⟩ := openI he hq cq bq (hx r (by omega)).2 (h2 (D r) (List.mem_map.2 ⟨r, by simpa using hr, rfl⟩))
      exact ⟨(A, l, c), by simpa using e1, e2, e3, e4⟩
    obtain ⟨y, hy⟩ := Go.Deep.choose_lt each
    have hget : ∀ i, i < len → ((List.range len).map fun r => (y r).2.1).getD i [] = (y i).2.1 := fun i hi => by
      simp only [List.getD_eq_getElem?_getD, List.getElem?_map, List.getElem?_range hi, Option.map_some, Option.getD_some]
    refine ⟨some a, (List.range len).map fun r => (y r).2.1, m, by simp, by simpa using hle, ⟨by simp; omega, fun r => (y r).1, fun r => (y r).2.2, fun i q hi hq => ?_, fun i hi => ?_⟩, fun r hr => ?_, ?_⟩
    · obtain rfl : q = 0 := by omega
      simp only [List.length_map, List.length_range] at hi
      have hc' := (hx i (by omega)).1
      refine ⟨a, rfl, Nat.zero_le _, ?_, ?_⟩
      · have := World.block_lt_of_cell? _ _ hc'
        rwa [add_block] at this
      · rw [add_zero, Nat.mul_one, hc', (hy i hi).1]
        show _ = some (Value.slice _ (((List.range len).map fun r => (y r).2.1).getD i []).length _)
        rw [hget i hi]
    · simp only [List.length_map, List.length_range] at hi
      rw [hget i hi]
      exact ⟨(hy i hi).2.1, (hy i hi).2.2.1⟩
    · obtain ⟨i, hi, rfl⟩ := List.mem_map.1 hr
      exact (hy i (by simpa using hi)).2.2.2
    · have := bulk_slice ((List.range len).map D) ((List.range (m - len)).map fun j => D (len + j))
      simpa using this
end
end Go.Proofs.YtplpgfcjjnaigaaDoor
namespace Go.Proofs.YtplpgfcjjnaigaaDoor
open Go Go.RowKit Go.ChangeShapes Go.WideShapes Go.ChangeAt
section
variable {H : Type} {enc : TypeId × Value → H} {W : World}
theorem openG {n : Nat} {cs : List Value} {x : DataW H × List MemPlace} (h : DataW.trod enc Tryd.prog W 0 (fun _ => true) true n 25 cs = some x) (hf : Fits Tryd.prog 25 x.1) :
    ∃ A0 A1 A2 c0 c1 c2 g, cs = [.slice A0 (GameL.ow g).length c0, .slice A1 (GameL.pr g).length c1, .slice A2 (GameL.mv g).length c2] ∧ RdG W 0 W.heap.size A0 A1 A2 c0 c1 c2 g ∧ (∀ z ∈ g.ow, I64 z) ∧ (∀ z ∈ g.pr, I64 z) ∧ (∀ r ∈ g.mv, ∀ z ∈ r, I64 z) ∧ g.ow.length ≤ Rows.uptoBulk x.1 := by
  have hcI : Tryd.prog.cellsOf 22 = 1 := by kernel_rfl
  have hcII : Tryd.prog.cellsOf 23 = 1 := by kernel_rfl
  have hci : Tryd.prog.cellsOf 3 = 1 := by kernel_rfl
  have hbi : Tryd.prog.bytesOf 3 = 8 := by kernel_rfl
  have hbI : Tryd.prog.bytesOf 22 = 24 := by kernel_rfl
  have hcG : Tryd.prog.cellsOf 25 = 3 := by kernel_rfl
  obtain ⟨y0, y1, y2, n', rfl, hl, h0, h1, h2⟩ := Go.Deep.trod_struct3 Tryd.underlying25 h
  rw [hcG] at hl
  match cs, hl with
  | [v0, v1, v2], _ =>
    simp only [hcI, hcII] at h0 h1 h2
    obtain ⟨f0, hf⟩ := fits_each (fits_struct Tryd.underlying25 hf)
    obtain ⟨f1, hf⟩ := fits_each hf
    obtain ⟨f2, _⟩ := fits_each hf
    obtain ⟨A0, l0, c0, e0, k0, r0, b0, m0⟩ := openI Tryd.underlying22 Tryd.underlying3 hci hbi h0 f0
    obtain ⟨A1, l1, c1, e1, k1, r1, b1, m1⟩ := openI Tryd.underlying22 Tryd.underlying3 hci hbi h1 f1
    obtain ⟨A2, l2, c2, e2, k2, r2, b2, m2⟩ := openII Tryd.underlying23 Tryd.underlying22 Tryd.underlying3 hcI hci hbI hbi h2 f2
    obtain rfl : v0 = _ := by simpa using e0
    obtain rfl : v1 = _ := by simpa using e1
    obtain rfl : v2 = _ := by simpa using e2
    exact ⟨A0, A1, A2, c0, c1, c2, ⟨l0, l1, l2⟩, rfl, ⟨r0, r1, r2, k0, k1, k2⟩, b0, b1, b2, by
      simp only [Rows.uptoBulk, Rows.uptoBulkAll]
      show l0.length ≤ _
      omega⟩
end
end Go.Proofs.YtplpgfcjjnaigaaDoor
namespace Go.Proofs.YtplpgfcjjnaigaaDoor
open Go Go.RowKit Go.ChangeShapes Go.WideShapes Go.ChangeAt
section
variable {H : Type} {enc : TypeId × Value → H} {W : World}
end
theorem gTab : Tryd.prog.globalNamed "math/bits.deBruijn64tab" = some 0 := by kernel_rfl
theorem gTabType : (Tryd.prog.globals[0]?).map (·.type) = some 102 := by kernel_rfl
def tabI : List Int := Lib.deBruijn64tab.map Int.ofNat
theorem tabI_get : ∀ i, i < 64 → tabI.getD i 0 = ((Lib.deBruijn64tab.getD i 0 : Nat) : Int) := by decide +kernel
theorem rdT_of {W : World} (h : laidMetH Tryd.prog [("math/bits.deBruijn64tab", Rows.laid_math_bits_deBruijn64tab)] W) : RdT W 0 W.heap.size := by
  have ht : Lib.TabIs Tryd.prog W "math/bits.deBruijn64tab" .u8 tabI := Lib.tabIs_of_head (rest := []) gTab gTabType Tryd.underlying102 Tryd.underlying5 (by kernel_rfl) (by kernel_rfl) h
  intro i q hi hq
  obtain rfl : q = 0 := by omega
  have hc := ht.cell gTab i (by show i < 64; exact hi)
  refine ⟨⟨0, 0, none⟩, rfl, Nat.zero_le _, (show (⟨0, i, none⟩ : Addr).block < W.heap.size from World.block_lt_of_cell? _ _ hc), ?_⟩
  have ea : ((⟨0, 0, none⟩ : Addr).add (i * 1)).add 0 = ⟨0, i, none⟩ := by
    rw [add_zero, Nat.mul_one]
    simp [Addr.add]
    exact fun h => h.symm
  rw [ea, hc, tabI_get i hi]
  show _ = some (Value.int .u8 (deI ((i : Nat) : Int)))
  rw [deI, Int.toNat_natCast]
noncomputable def laidWorld (os : Os) : World :=
  { World.holding Tryd.prog os ⟨#[], #[], []⟩ with heap := (World.holding Tryd.prog os ⟨#[], #[], []⟩).heap.modify 0 fun
      | .cells _ t frozen => .cells (tabI.map (Value.int .u8)).toArray t frozen
      | o => o }
end Go.Proofs.YtplpgfcjjnaigaaDoor
