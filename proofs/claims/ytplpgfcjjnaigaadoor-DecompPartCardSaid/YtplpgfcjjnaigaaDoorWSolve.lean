/-
  A walk of a Go function, printed by a program of this repo. Conditions: what the theorems name.
-/
import Derived.Test.YtplpgfcjjnaigaaDoorWDecB
import Derived.Test.YtplpgfcjjnaigaaDoorPureSol
import Derived.Test.YtplpgfcjjnaigaaDoorWRepeat
set_option linter.unusedVariables false
set_option linter.unusedSimpArgs false
namespace Go.Proofs.YtplpgfcjjnaigaaDoor
open Go Go.RowKit

attribute [local irreducible] ofZ fromW wordsD ofD ofW lsD lenW lenN fullW withW lessW hasW hasD inW inD leastD putD onI tzI orS andS minusS orD andD minusD fullD emptyD
set_option maxHeartbeats 4000000 in
theorem solve_any {Ag0 Ag1 Ag2 : Option Addr} {cg0 cg1 cg2 : Nat} {g : GameL} {w : World} (rg : RdG w 0 w.heap.size Ag0 Ag1 Ag2 cg0 cg1 cg2 g) (rT : RdT w 0 w.heap.size) :
    Calls Tryd.prog 16 #[.agg #[.slice Ag0 g.ow.length cg0, .slice Ag1 g.pr.length cg1, .slice Ag2 g.mv.length cg2]] w fun e w' => ∃ A0 c0 A1 c1 A2 c2 A3 c3 l0 l1 m0 m1 d, e = .returned (.tuple #[.agg #[.slice A0 l0.length c0, .slice A1 l1.length c1, .slice A2 m0.length c2, .slice A3 m1.length c3], .int .i64 d]) ∧ Ext w w' ∧ OwnR w' (Sx w.heap.size [obk A1, obk A2, obk A3]) A0 c0 3 (l0 : List Int) ∧ OwnR w' (Sx w.heap.size [obk A0, obk A2, obk A3]) A1 c1 3 (l1 : List Int) ∧ OwnR w' (Sx w.heap.size [obk A0, obk A1, obk A3]) A2 c2 3 (m0 : List Int) ∧ OwnR w' (Sx w.heap.size [obk A0, obk A1, obk A2]) A3 c3 3 (m1 : List Int) ∧ SolveT g l0 l1 m0 m1 d := by
 have hlg0 := rg.ow.len; have hlg1 := rg.pr.len; have hlg2 := rg.mv.len; have hkg0 := rg.k0; have hkg1 := rg.k1; have hkg2 := rg.k2
 refine enter_ (args := [.agg #[.slice Ag0 g.ow.length cg0, .slice Ag1 g.pr.length cg1, .slice Ag2 g.mv.length cg2]]) Tryd.func16 rfl Tryd.ntmps16 (Nat.le_of_ble_eq_true rfl) (fun act0 f0 => ?_)
 have e0 : Ext w w := Ext.refl w
 refine wp_seq ?_
 refine At.start ?_
 refine At.seq f0 1 [[]] [(1, .pointer (some ⟨w.heap.size, 0, none⟩))] (w.alloc (.cells #[.slice Ag0 g.ow.length cg0, .slice Ag1 g.pr.length cg1, .slice Ag2 g.mv.length cg2] 25 (0, 0))) [] (by kernel_rfl) trivial (fun act4 w1 hw2 f3 => ?_)
 clear f0; have g5 := gr_alloc hw2; have := g5.size; replace e0 := e0.gn g5; have r8 := rg.gn g5; clear rg; have r9 := rT.gn g5; clear rT; have aD : Bx w1 (w.heap.size) [.slice Ag0 g.ow.length cg0, .slice Ag1 g.pr.length cg1, .slice Ag2 g.mv.length cg2] 25 := Bx.new hw2; have := aD.lt; clear g5 hw2
 refine At.seq f3 1 [[]] [(2, .pointer (some ⟨w1.heap.size, 0, none⟩))] (w1.alloc (.cells #[.slice none 0 0, .slice none 0 0, .slice none 0 0, .slice none 0 0] 32 (0, 0))) [] (by kernel_rfl) trivial (fun oE fR gK hX => ?_)
 clear f3; have eT := gr_alloc gK; have := eT.size; replace e0 := e0.gn eT; replace r8 := r8.gn eT; replace r9 := r9.gn eT; replace aD := aD.gn eT; have aG : Bx fR (w1.heap.size) [.slice none 0 0, .slice none 0 0, .slice none 0 0, .slice none 0 0] 32 := Bx.new gK; have := aG.lt; clear eT gK
 refine At.rd hX 1 [[]] [(3, .int .i64 (0))] [] (by kernel_rfl) trivial (fun oF hY => ?_)
 clear hX
 refine At.done rfl ?_
 refine t_n ?_
 refine wp_seq ?_
 refine wp_seq ?_
 refine At.start ?_
 refine At.rd hY 1 [[.ld (.slice Ag0 g.ow.length cg0), .ld (.slice Ag1 g.pr.length cg1), .ld (.slice Ag2 g.mv.length cg2)]] [(17, .agg #[.slice Ag0 g.ow.length cg0, .slice Ag1 g.pr.length cg1, .slice Ag2 g.mv.length cg2])] [(fR.cell? ⟨w.heap.size, 0, none⟩ = some (.slice Ag0 g.ow.length cg0)), (fR.cell? ⟨w.heap.size, 1, none⟩ = some (.slice Ag1 g.pr.length cg1)), (fR.cell? ⟨w.heap.size, 2, none⟩ = some (.slice Ag2 g.mv.length cg2))] (by kernel_rfl) ⟨(aD.cell (i := 0) rfl), (aD.cell (i := 1) rfl), (aD.cell (i := 2) rfl), trivial⟩ (fun oG hZ => ?_)
 clear hY
 refine At.call hZ 21 #[.agg #[.slice Ag0 g.ow.length cg0, .slice Ag1 g.pr.length cg1, .slice Ag2 g.mv.length cg2]] (some 18) (by kernel_rfl) (right_any (r8.wide (Nat.zero_le _) (by omega))) ?_
 rintro e_ aB ⟨rfl, he⟩
 refine ⟨_, rfl, _, rfl, fun oH iA => ?_⟩
 clear hZ; have eH := gr_ext he; have := eH.size; replace e0 := e0.gn eH; replace r8 := r8.gn eH; replace r9 := r9.gn eH; replace aD := aD.gn eH; replace aG := aG.gn eH; clear eH he
 refine At.rd iA 5 [[], [], [], [], []] [(5, .int .i64 ((rightP g).2)), (4, .int .i64 ((rightP g).1)), (20, .int .i64 ((rightP g).2)), (19, .int .i64 ((rightP g).1)), (16, .tuple #[.int .i64 ((rightP g).1), .int .i64 ((rightP g).2)])] [] (by kernel_rfl) trivial (fun oI iB => ?_)
 clear iA
 refine At.done rfl ?_
 refine t_n ?_
 refine wp_seq ?_
 refine At.start ?_
 refine At.rd iB 2 [[], []] [(22, .bool (((rightP g).2 : Int) != 0)), (21, .int .i64 ((rightP g).2))] [] (by kernel_rfl) trivial (fun oJ fF => ?_)
 clear iB
 refine At.done rfl ?_
 refine t_n ?_
 refine cond_S fF (t := ((rightP g).2 : Int) != 0) rfl (fun gL => ?_) (fun gL => ?_)
 ·have oK := bne_iff_ne.1 gL
  refine wp_seq ?_
  refine At.start ?_
  refine At.rd fF 1 [[]] [(23, .agg #[.slice none 0 0, .slice none 0 0, .slice none 0 0, .slice none 0 0])] [] (by kernel_rfl) trivial (fun oL iC => ?_)
  clear fF
  refine At.store iC (t := 32) (b := w1.heap.size) (off := 0) (v := .agg #[.slice none 0 0, .slice none 0 0, .slice none 0 0, .slice none 0 0]) (by kernel_rfl) aG (by kernel_rfl) (fun oM fG eU eV iD => ?_)
  clear iC; replace eV : Bx fG (w1.heap.size) [.slice none 0 0, .slice none 0 0, .slice none 0 0, .slice none 0 0] 32 := eV; have := eU.size; replace e0 := e0.gr eU (fun k h => by injection h; omega); replace r8 := r8.gb eU (by omega); replace r9 := r9.gb eU (by omega); replace aD := aD.gb eU (by omega); clear aG eU
  refine At.rd iD 1 [[]] [(3, .int .i64 (0))] [] (by kernel_rfl) trivial (fun oN mL => ?_)
  clear iD
  refine At.done rfl ?_
  refine t_n ?_
  clear aD
  refine wp_ret ?_
  refine t_r ?_
  refine ret_ mL [[.slice none 0 0, .slice none 0 0, .slice none 0 0, .slice none 0 0]] [.agg #[.slice none 0 0, .slice none 0 0, .slice none 0 0, .slice none 0 0], .int .i64 (0)] [(fG.cell? ⟨w1.heap.size, 0, none⟩ = some (.slice none 0 0)), (fG.cell? ⟨w1.heap.size, 1, none⟩ = some (.slice none 0 0)), (fG.cell? ⟨w1.heap.size, 2, none⟩ = some (.slice none 0 0)), (fG.cell? ⟨w1.heap.size, 3, none⟩ = some (.slice none 0 0))] (by kernel_rfl) ⟨(eV.cell (i := 0) rfl), (eV.cell (i := 1) rfl), (eV.cell (i := 2) rfl), (eV.cell (i := 3) rfl), trivial⟩ ?_
  exact ⟨none, 0, none, 0, none, 0, none, 0, [], [], [], [], 0, rfl, e0, OwnR.nil, OwnR.nil, OwnR.nil, OwnR.nil, .inl ⟨isR_no (by omega), rfl, rfl, rfl, rfl, rfl⟩⟩
 have oO := bne_eq_false_iff_eq.1 gL
 refine wp_skip ?_
 refine t_n ?_
 refine wp_seq ?_
 have hR : isR g = true := right_of2 (by omega); have hG := isR_ok hR; have hn1 := hG.n1; have hn0 := hG.n0; have hpl := hG.pl; have hml := hG.ml
 have hrl_ : (List.replicate (((g.ow.length : Nat) : Int) : Int).toNat (gI ([-1] : List Int) 0)).length = g.ow.length := by rw [List.length_replicate]; omega
 refine At.start ?_
 refine At.rd fF 3 [[], [.ld (.slice Ag0 g.ow.length cg0)], []] [(26, .int .i64 (((g.ow.length : Nat) : Int))), (25, .slice Ag0 g.ow.length cg0), (24, .pointer (some ⟨w.heap.size, 0, none⟩))] [(aB.cell? ⟨w.heap.size, 0, none⟩ = some (.slice Ag0 g.ow.length cg0))] (by kernel_rfl) ⟨(aD.cell (i := 0) rfl), trivial⟩ (fun oP iE => ?_)
 clear fF
 refine At.seq iE 1 [[]] [(6, .pointer (some ⟨aB.heap.size, 0, none⟩))] (aB.alloc (.cells #[.int .i64 (0)] 3 (0, 0))) [] (by kernel_rfl) trivial (fun oQ aA gM iF => ?_)
 clear iE; have eI := gr_alloc gM; have := eI.size; replace e0 := e0.gn eI; replace r8 := r8.gn eI; replace r9 := r9.gn eI; replace aD := aD.gn eI; replace aG := aG.gn eI; have fH : Bx aA (aB.heap.size) [.int .i64 (0)] 3 := Bx.new gM; have := fH.lt; clear eI gM
 refine At.seq iF 1 [[]] [(7, .pointer (some ⟨aA.heap.size, 0, none⟩))] (aA.alloc (.cells #[.int .i64 (0)] 3 (0, 0))) [] (by kernel_rfl) trivial (fun oR mM gN iG => ?_)
 clear iF; have eA := gr_alloc gN; have := eA.size; replace e0 := e0.gn eA; replace r8 := r8.gn eA; replace r9 := r9.gn eA; replace aD := aD.gn eA; replace aG := aG.gn eA; replace fH := fH.gn eA; have fI : Bx mM (aA.heap.size) [.int .i64 (0)] 3 := Bx.new gN; have := fI.lt; clear eA gN
 refine At.store iG (t := 3) (b := aB.heap.size) (off := 0) (v := .int .i64 (((g.ow.length : Nat) : Int))) (by kernel_rfl) fH (by kernel_rfl) (fun oS mN eB aJ iH => ?_)
 clear iG; replace aJ : Bx mN (aB.heap.size) [.int .i64 (((g.ow.length : Nat) : Int))] 3 := aJ; have := eB.size; replace e0 := e0.gr eB (fun k h => by injection h; omega); replace r8 := r8.gb eB (by omega); replace r9 := r9.gb eB (by omega); replace aD := aD.gb eB (by omega); replace aG := aG.gb eB (by omega); replace fI := fI.gb eB (by omega); clear fH eB
 refine At.store iH (t := 3) (b := aA.heap.size) (off := 0) (v := .int .i64 (0)) (by kernel_rfl) fI (by kernel_rfl) (fun oT aC eC aQ iI => ?_)
 clear iH; replace aQ : Bx aC (aA.heap.size) [.int .i64 (0)] 3 := aQ; have := eC.size; replace e0 := e0.gr eC (fun k h => by injection h; omega); replace r8 := r8.gb eC (by omega); replace r9 := r9.gb eC (by omega); replace aD := aD.gb eC (by omega); replace aG := aG.gb eC (by omega); replace aJ := aJ.gb eC (by omega); clear fI eC
 refine At.done rfl ?_
 refine t_n ?_
 refine wp_seq ?_
 refine At.start ?_
 refine At.seq iI 1 [[]] [(8, .pointer (some ⟨aC.heap.size, 0, none⟩))] (aC.alloc (.cells #[.slice none 0 0, .slice none 0 0] 29 (0, 0))) [] (by kernel_rfl) trivial (fun oU fJ gO iJ => ?_)
 clear iI; have dU := gr_alloc gO; have := dU.size; replace e0 := e0.gn dU; replace r8 := r8.gn dU; replace r9 := r9.gn dU; replace aD := aD.gn dU; replace aG := aG.gn dU; replace aJ := aJ.gn dU; replace aQ := aQ.gn dU; have eJ : Bx fJ (aC.heap.size) [.slice none 0 0, .slice none 0 0] 29 := Bx.new gO; have := eJ.lt; clear dU gO
 refine At.done rfl ?_
 refine t_n ?_
 refine wp_seq ?_
 refine wp_seq ?_
 refine At.start ?_
 refine At.rd iJ 1 [[]] [(27, .int .i64 (0))] [] (by kernel_rfl) trivial (fun oV iK => ?_)
 clear iJ
 refine At.done rfl ?_
 refine t_n ?_
 refine wp_block ?_
 have iL := iK.sub (r := [(27, .int .i64 (0)), (8, .pointer (some ⟨aC.heap.size, 0, none⟩)), (7, .pointer (some ⟨aA.heap.size, 0, none⟩)), (6, .pointer (some ⟨aB.heap.size, 0, none⟩)), (3, .int .i64 (0)), (2, .pointer (some ⟨w1.heap.size, 0, none⟩)), (1, .pointer (some ⟨w.heap.size, 0, none⟩))]) ⟨rfl, rfl, rfl, rfl, rfl, rfl, rfl, trivial⟩
 clear iK
 refine loop_u0 ?_
 refine loop_u ?_
 refine wp_seq ?_
 refine At.start ?_
 refine At.rd iL 1 [[.as_ (.bool true)]] [(28, .bool true)] [((.bool (decide ((0 : Int) < 2)) : Value) = .bool true)] (by kernel_rfl) ⟨(by kernel_rfl), trivial⟩ (fun oW gP => ?_)
 clear iL
 refine At.done rfl ?_
 refine t_n ?_
 refine wp_seq ?_
 refine cond_T gP rfl ?_
 refine wp_skip ?_
 refine t_n ?_
 refine wp_seq ?_
 refine wp_block ?_
 refine wp_seq ?_
 refine At.start ?_
 refine At.rd gP 2 [[], []] [(9, .int .i64 (0)), (29, .int .i64 (0))] [] (by kernel_rfl) trivial (fun oX iM => ?_)
 clear gP
 refine At.done rfl ?_
 refine t_n ?_
 refine At.start ?_
 refine At.rd iM 1 [[]] [(30, .int .i64 (0))] [] (by kernel_rfl) trivial (fun oY iN => ?_)
 clear iM
 refine At.seq iN 1 [[]] [(31, .slice (some ⟨fJ.heap.size, 0, none⟩) 1 1)] (fJ.alloc (.cells #[.int .i64 (-1)] 3 (0, 0))) [] (by kernel_rfl) trivial (fun oZ cO gQ iO => ?_)
 clear iN; have dS := gr_alloc gQ; have := dS.size; replace e0 := e0.gn dS; replace r8 := r8.gn dS; replace r9 := r9.gn dS; replace aD := aD.gn dS; replace aG := aG.gn dS; replace aJ := aJ.gn dS; replace aQ := aQ.gn dS; replace eJ := eJ.gn dS; have eK : Bx cO (fJ.heap.size) [.int .i64 (-1)] 3 := Bx.new gQ; have := eK.lt; clear dS gQ
 refine At.rd iO 1 [[.ld (.int .i64 (((g.ow.length : Nat) : Int)))]] [(32, .int .i64 (((g.ow.length : Nat) : Int)))] [(cO.cell? ⟨aB.heap.size, 0, none⟩ = some (.int .i64 (((g.ow.length : Nat) : Int))))] (by kernel_rfl) ⟨(aJ.cell (i := 0) rfl), trivial⟩ (fun pA iP => ?_)
 clear iO
 refine At.call iP 36 #[.slice (some ⟨fJ.heap.size, 0, none⟩) 1 1, .int .i64 (((g.ow.length : Nat) : Int))] (some 33) (by kernel_rfl) (repeat_any (la := ([-1] : List Int)) (n := ((g.ow.length : Nat) : Int)) (Bx.rdI (l := ([-1] : List Int)) eK rfl (by first | decide | exact Nat.le_of_ble_eq_true rfl)) rfl (by omega) (by omega)) ?_
 rintro e_ pB ⟨aK, aO, rfl, he, aL⟩
 have : (List.replicate (((g.ow.length : Nat) : Int) : Int).toNat (gI ([-1] : List Int) 0)).length = (((g.ow.length : Nat) : Int) : Int).toNat := List.length_replicate
 refine ⟨_, rfl, _, rfl, fun pC iQ => ?_⟩
 clear iP; have dH := gr_ext he; have := dH.size; replace e0 := e0.gn dH; replace r8 := r8.gn dH; replace r9 := r9.gn dH; replace aD := aD.gn dH; replace aG := aG.gn dH; replace aJ := aJ.gn dH; replace aQ := aQ.gn dH; replace eJ := eJ.gn dH; replace eK := eK.gn dH; clear dH he
 refine At.rd iQ 1 [[]] [(34, .pointer (some ⟨aC.heap.size, 0, none⟩))] [(0 ≤ (0 : Int)), ((0 : Int) < (2 : Nat))] (by kernel_rfl) ⟨(by decide), (by decide), trivial⟩ (fun pD iR => ?_)
 clear iQ
 refine At.store iR (t := 22) (b := aC.heap.size) (off := 0) (v := .slice aK ((List.replicate (((g.ow.length : Nat) : Int) : Int).toNat (gI ([-1] : List Int) 0)).length) aO) (by kernel_rfl) eJ (by kernel_rfl) (fun pE eW dI eD iS => ?_)
 clear iR
 replace eD : Bx eW (aC.heap.size) [.slice aK ((List.replicate (((g.ow.length : Nat) : Int) : Int).toNat (gI ([-1] : List Int) 0)).length) aO, .slice none 0 0] 29 := eD
 have := dI.size; replace e0 := e0.gr dI (fun k h => by injection h; omega); replace r8 := r8.gb dI (by omega); replace r9 := r9.gb dI (by omega); replace aD := aD.gb dI (by omega); replace aG := aG.gb dI (by omega); replace aJ := aJ.gb dI (by omega); replace aQ := aQ.gb dI (by omega); replace eK := eK.gb dI (by omega); replace aL := aL.gr dI (fun k hk e => by have := Sx_base hk; injection e; omega)
 clear eJ dI
 refine At.done rfl ?_
 refine b_n ?_
 refine t_n ?_
 clear eK
 refine At.start ?_
 refine At.rd iS 2 [[.as_ (.int .i64 (1))], []] [(27, .int .i64 (1)), (35, .int .i64 (1))] [((.int .i64 (IntKind.i64.wrap (0 + 1)) : Value) = .int .i64 (1))] (by kernel_rfl) ⟨(by kernel_rfl), trivial⟩ (fun pF iT => ?_)
 clear iS
 refine At.done rfl ?_
 refine t_n ?_
 have iU := iT.sub (r := [(27, .int .i64 (1)), (8, .pointer (some ⟨aC.heap.size, 0, none⟩)), (7, .pointer (some ⟨aA.heap.size, 0, none⟩)), (6, .pointer (some ⟨aB.heap.size, 0, none⟩)), (3, .int .i64 (0)), (2, .pointer (some ⟨w1.heap.size, 0, none⟩)), (1, .pointer (some ⟨w.heap.size, 0, none⟩))]) ⟨rfl, rfl, rfl, rfl, rfl, rfl, rfl, trivial⟩
 clear iT
 refine loop_u ?_
 refine wp_seq ?_
 refine At.start ?_
 refine At.rd iU 1 [[.as_ (.bool true)]] [(28, .bool true)] [((.bool (decide ((1 : Int) < 2)) : Value) = .bool true)] (by kernel_rfl) ⟨(by kernel_rfl), trivial⟩ (fun pG gR => ?_)
 clear iU
 refine At.done rfl ?_
 refine t_n ?_
 refine wp_seq ?_
 refine cond_T gR rfl ?_
 refine wp_skip ?_
 refine t_n ?_
 refine wp_seq ?_
 refine wp_block ?_
 refine wp_seq ?_
 refine At.start ?_
 refine At.rd gR 2 [[], []] [(9, .int .i64 (1)), (29, .int .i64 (1))] [] (by kernel_rfl) trivial (fun pH iV => ?_)
 clear gR
 refine At.done rfl ?_
 refine t_n ?_
 refine At.start ?_
 refine At.rd iV 1 [[]] [(30, .int .i64 (1))] [] (by kernel_rfl) trivial (fun pI iW => ?_)
 clear iV
 refine At.seq iW 1 [[]] [(31, .slice (some ⟨eW.heap.size, 0, none⟩) 1 1)] (eW.alloc (.cells #[.int .i64 (-1)] 3 (0, 0))) [] (by kernel_rfl) trivial (fun pJ cP gS iX => ?_)
 clear iW; have dJ := gr_alloc gS; have := dJ.size; replace e0 := e0.gn dJ; replace r8 := r8.gn dJ; replace r9 := r9.gn dJ; replace aD := aD.gn dJ; replace aG := aG.gn dJ; replace aJ := aJ.gn dJ; replace aQ := aQ.gn dJ; replace eD := eD.gn dJ; replace aL := aL.grN dJ; have eL : Bx cP (eW.heap.size) [.int .i64 (-1)] 3 := Bx.new gS; have := eL.lt; clear dJ gS
 refine At.rd iX 1 [[.ld (.int .i64 (((g.ow.length : Nat) : Int)))]] [(32, .int .i64 (((g.ow.length : Nat) : Int)))] [(cP.cell? ⟨aB.heap.size, 0, none⟩ = some (.int .i64 (((g.ow.length : Nat) : Int))))] (by kernel_rfl) ⟨(aJ.cell (i := 0) rfl), trivial⟩ (fun pK iY => ?_)
 clear iX
 refine At.call iY 36 #[.slice (some ⟨eW.heap.size, 0, none⟩) 1 1, .int .i64 (((g.ow.length : Nat) : Int))] (some 33) (by kernel_rfl) (repeat_any (la := ([-1] : List Int)) (n := ((g.ow.length : Nat) : Int)) (Bx.rdI (l := ([-1] : List Int)) eL rfl (by first | decide | exact Nat.le_of_ble_eq_true rfl)) rfl (by omega) (by omega)) ?_
 rintro e_ iZ ⟨aE, aM, rfl, he, aN⟩
 have : (List.replicate (((g.ow.length : Nat) : Int) : Int).toNat (gI ([-1] : List Int) 0)).length = (((g.ow.length : Nat) : Int) : Int).toNat := List.length_replicate
 refine ⟨_, rfl, _, rfl, fun pL jA => ?_⟩
 clear iY; have cY := gr_ext he; have jB := aL.lt; have := cY.size; replace e0 := e0.gn cY; replace r8 := r8.gn cY; replace r9 := r9.gn cY; replace aD := aD.gn cY; replace aG := aG.gn cY; replace aJ := aJ.gn cY; replace aQ := aQ.gn cY; replace eD := eD.gn cY
 replace aL : OwnR iZ (Sx (cO.heap.size) [obk (aE), some (eW.heap.size)]) aK aO 3 (List.replicate (((g.ow.length : Nat) : Int) : Int).toNat (gI ([-1] : List Int) 0) : List Int) := aL.grA cY (fun _ _ h => by cases h) (fun k hk hs => ⟨(fun e => by have := aN.ge _ e; omega), hs.1, hs.2⟩)
 replace eL := eL.gn cY
 replace aN : OwnR iZ (Sx (cP.heap.size) [obk (aK)]) aE aM 3 (List.replicate (((g.ow.length : Nat) : Int) : Int).toNat (gI ([-1] : List Int) 0) : List Int) := aN.imp (fun g _ hs => ⟨(fun e => by have := jB _ e; have := Sx_base hs; omega), hs⟩)
 clear jB; clear cY he
 refine At.rd jA 1 [[]] [(34, .pointer (some ⟨aC.heap.size, 1, none⟩))] [(0 ≤ (1 : Int)), ((1 : Int) < (2 : Nat))] (by kernel_rfl) ⟨(by decide), (by decide), trivial⟩ (fun pM jC => ?_)
 clear jA
 refine At.store jC (t := 22) (b := aC.heap.size) (off := 1) (v := .slice aE ((List.replicate (((g.ow.length : Nat) : Int) : Int).toNat (gI ([-1] : List Int) 0)).length) aM) (by kernel_rfl) eD (by kernel_rfl) (fun pN aH cZ aR jD => ?_)
 clear jC
 replace aR : Bx aH (aC.heap.size) [.slice aK ((List.replicate (((g.ow.length : Nat) : Int) : Int).toNat (gI ([-1] : List Int) 0)).length) aO, .slice aE ((List.replicate (((g.ow.length : Nat) : Int) : Int).toNat (gI ([-1] : List Int) 0)).length) aM] 29 := aR
 have := cZ.size; replace e0 := e0.gr cZ (fun k h => by injection h; omega); replace r8 := r8.gb cZ (by omega); replace r9 := r9.gb cZ (by omega); replace aD := aD.gb cZ (by omega); replace aG := aG.gb cZ (by omega); replace aJ := aJ.gb cZ (by omega); replace aQ := aQ.gb cZ (by omega); replace aL := aL.gr cZ (fun k hk e => by have := Sx_base hk; injection e; omega); replace eL := eL.gb cZ (by omega)
 replace aN := aN.gr cZ (fun k hk e => by have := Sx_base hk; injection e; omega); clear eD cZ
 refine At.done rfl ?_
 refine b_n ?_
 refine t_n ?_
 clear eL
 refine At.start ?_
 refine At.rd jD 2 [[.as_ (.int .i64 (2))], []] [(27, .int .i64 (2)), (35, .int .i64 (2))] [((.int .i64 (IntKind.i64.wrap (1 + 1)) : Value) = .int .i64 (2))] (by kernel_rfl) ⟨(by kernel_rfl), trivial⟩ (fun pO jE => ?_)
 clear jD
 refine At.done rfl ?_
 refine t_n ?_
 have jF := jE.sub (r := [(27, .int .i64 (2)), (8, .pointer (some ⟨aC.heap.size, 0, none⟩)), (7, .pointer (some ⟨aA.heap.size, 0, none⟩)), (6, .pointer (some ⟨aB.heap.size, 0, none⟩)), (3, .int .i64 (0)), (2, .pointer (some ⟨w1.heap.size, 0, none⟩)), (1, .pointer (some ⟨w.heap.size, 0, none⟩))]) ⟨rfl, rfl, rfl, rfl, rfl, rfl, rfl, trivial⟩
 clear jE
 refine loop_u ?_
 refine wp_seq ?_
 refine At.start ?_
 refine At.rd jF 1 [[.as_ (.bool false)]] [(28, .bool false)] [((.bool (decide ((2 : Int) < 2)) : Value) = .bool false)] (by kernel_rfl) ⟨(by kernel_rfl), trivial⟩ (fun pP gT => ?_)
 clear jF
 refine At.done rfl ?_
 refine t_n ?_
 refine wp_seq ?_
 refine cond_F gT rfl ?_
 refine wp_exit ?_
 refine t_e ?_
 refine t_e ?_
 refine b_e ?_
 refine t_n ?_
 refine wp_seq ?_
 refine At.start ?_
 refine At.rd gT 1 [[]] [(36, .func (.func 37) #[] #[.pointer (some ⟨aC.heap.size, 0, none⟩)])] [] (by kernel_rfl) trivial (fun pQ jG => ?_)
 clear gT
 refine At.seq jG 1 [[]] [(10, .pointer (some ⟨aH.heap.size, 0, none⟩))] (aH.alloc (.cells #[.nilFunc] 64 (0, 0))) [] (by kernel_rfl) trivial (fun pR mO gU jH => ?_)
 clear jG; have dA := gr_alloc gU; have := dA.size; replace e0 := e0.gn dA; replace r8 := r8.gn dA; replace r9 := r9.gn dA; replace aD := aD.gn dA; replace aG := aG.gn dA; replace aJ := aJ.gn dA; replace aQ := aQ.gn dA; replace aR := aR.gn dA; replace aL := aL.grN dA; replace aN := aN.grN dA; have gV : Bx mO (aH.heap.size) [.nilFunc] 64 := Bx.new gU; have := gV.lt; clear dA gU
 refine At.store jH (t := 64) (b := aH.heap.size) (off := 0) (v := .func (.func 37) #[] #[.pointer (some ⟨aC.heap.size, 0, none⟩)]) (by kernel_rfl) gV (by kernel_rfl) (fun pS aF dB aS jI => ?_)
 clear jH; replace aS : Bx aF (aH.heap.size) [.func (.func 37) #[] #[.pointer (some ⟨aC.heap.size, 0, none⟩)]] 64 := aS; have := dB.size; replace e0 := e0.gr dB (fun k h => by injection h; omega); replace r8 := r8.gb dB (by omega); replace r9 := r9.gb dB (by omega); replace aD := aD.gb dB (by omega); replace aG := aG.gb dB (by omega); replace aJ := aJ.gb dB (by omega)
 replace aQ := aQ.gb dB (by omega); replace aR := aR.gb dB (by omega); replace aL := aL.gr dB (fun k hk => hk.1); replace aN := aN.gr dB (fun k hk => hk.1); clear gV dB
 refine At.done rfl ?_
 refine t_n ?_
 refine wp_seq ?_
 refine At.start ?_
 refine At.seq jI 1 [[]] [(11, .pointer (some ⟨aF.heap.size, 0, none⟩))] (aF.alloc (.cells #[.nilFunc] 65 (0, 0))) [] (by kernel_rfl) trivial (fun pT mP gW jJ => ?_)
 clear jI; have cQ := gr_alloc gW; have := cQ.size; replace e0 := e0.gn cQ; replace r8 := r8.gn cQ; replace r9 := r9.gn cQ; replace aD := aD.gn cQ; replace aG := aG.gn cQ; replace aJ := aJ.gn cQ; replace aQ := aQ.gn cQ; replace aR := aR.gn cQ; replace aL := aL.grN cQ; replace aN := aN.grN cQ; replace aS := aS.gn cQ; have gX : Bx mP (aF.heap.size) [.nilFunc] 65 := Bx.new gW; have := gX.lt
 clear cQ gW
 refine At.done rfl ?_
 refine t_n ?_
 refine wp_seq ?_
 refine At.start ?_
 refine At.rd jJ 1 [[]] [(37, .func (.func 38) #[] #[.pointer (some ⟨aA.heap.size, 0, none⟩), .pointer (some ⟨w.heap.size, 0, none⟩), .pointer (some ⟨aF.heap.size, 0, none⟩), .pointer (some ⟨aH.heap.size, 0, none⟩), .pointer (some ⟨aC.heap.size, 0, none⟩), .pointer (some ⟨aB.heap.size, 0, none⟩)])] [] (by kernel_rfl) trivial (fun pU jK => ?_)
 clear jJ
 refine At.store jK (t := 65) (b := aF.heap.size) (off := 0) (v := .func (.func 38) #[] #[.pointer (some ⟨aA.heap.size, 0, none⟩), .pointer (some ⟨w.heap.size, 0, none⟩), .pointer (some ⟨aF.heap.size, 0, none⟩), .pointer (some ⟨aH.heap.size, 0, none⟩), .pointer (some ⟨aC.heap.size, 0, none⟩), .pointer (some ⟨aB.heap.size, 0, none⟩)]) (by kernel_rfl) gX (by kernel_rfl) (fun pV fS cR aU gY => ?_)
 clear jK
 replace aU : Bx fS (aF.heap.size) [.func (.func 38) #[] #[.pointer (some ⟨aA.heap.size, 0, none⟩), .pointer (some ⟨w.heap.size, 0, none⟩), .pointer (some ⟨aF.heap.size, 0, none⟩), .pointer (some ⟨aH.heap.size, 0, none⟩), .pointer (some ⟨aC.heap.size, 0, none⟩), .pointer (some ⟨aB.heap.size, 0, none⟩)]] 65 := aU
 have := cR.size; replace e0 := e0.gr cR (fun k h => by injection h; omega); replace r8 := r8.gb cR (by omega); replace r9 := r9.gb cR (by omega); replace aD := aD.gb cR (by omega); replace aG := aG.gb cR (by omega); replace aJ := aJ.gb cR (by omega); replace aQ := aQ.gb cR (by omega); replace aR := aR.gb cR (by omega); replace aL := aL.gr cR (fun k hk => hk.1)
 replace aN := aN.gr cR (fun k hk => hk.1); replace aS := aS.gb cR (by omega); clear gX cR
 refine At.done rfl ?_
 refine t_n ?_
 refine wp_seq (cut (fun a_ w_ => ∃ (sa : List Int) (sb : List Int) (na : List Int) (nb : List Int) (da : Int) (aT : Nat), (Frm 83 a_ [(12, .pointer (some ⟨aT, 0, none⟩)), (8, .pointer (some ⟨aC.heap.size, 0, none⟩)), (7, .pointer (some ⟨aA.heap.size, 0, none⟩)), (6, .pointer (some ⟨aB.heap.size, 0, none⟩)), (3, .int .i64 (0)), (2, .pointer (some ⟨w1.heap.size, 0, none⟩)), (1, .pointer (some ⟨w.heap.size, 0, none⟩))]) ∧ (Ext w w_) ∧ (RdG w_ 0 w.heap.size Ag0 Ag1 Ag2 cg0 cg1 cg2 g) ∧ (RdT w_ 0 w.heap.size) ∧ (Bx w_ (w.heap.size) [.slice Ag0 g.ow.length cg0, .slice Ag1 g.pr.length cg1, .slice Ag2 g.mv.length cg2] 25) ∧ (Bx w_ (w1.heap.size) [.slice none 0 0, .slice none 0 0, .slice none 0 0, .slice none 0 0] 32) ∧ (Bx w_ (aB.heap.size) [.int .i64 (((g.ow.length : Nat) : Int))] 3) ∧ (Bx w_ (aA.heap.size) [.int .i64 (da)] 3) ∧ (Bx w_ (aC.heap.size) [.slice aK ((List.replicate (((g.ow.length : Nat) : Int) : Int).toNat (gI ([-1] : List Int) 0)).length) aO, .slice aE ((List.replicate (((g.ow.length : Nat) : Int) : Int).toNat (gI ([-1] : List Int) 0)).length) aM] 29) ∧ (OwnR w_ (Sx (cO.heap.size) [some (aF.heap.size), some (aH.heap.size), obk (aE), some (aT)]) aK aO 3 (na : List Int)) ∧ (OwnR w_ (Sx (cP.heap.size) [some (aF.heap.size), some (aH.heap.size), obk (aK), some (aT)]) aE aM 3 (nb : List Int)) ∧ (Bx w_ (aH.heap.size) [.func (.func 37) #[] #[.pointer (some ⟨aC.heap.size, 0, none⟩)]] 64) ∧ (Bx w_ (aF.heap.size) [.func (.func 38) #[] #[.pointer (some ⟨aA.heap.size, 0, none⟩), .pointer (some ⟨w.heap.size, 0, none⟩), .pointer (some ⟨aF.heap.size, 0, none⟩), .pointer (some ⟨aH.heap.size, 0, none⟩), .pointer (some ⟨aC.heap.size, 0, none⟩), .pointer (some ⟨aB.heap.size, 0, none⟩)]] 65) ∧ (Bx w_ (aT) ((sa ++ sb : List Int).map wV) 67) ∧ (fS.heap.size ≤ aT) ∧ (fS.heap.size ≤ w_.heap.size) ∧ (PartS g (fullW ((g.ow.length : Nat) : Int)) 0 sa sb (List.replicate (((g.ow.length : Nat) : Int) : Int).toNat (gI ([-1] : List Int) 0)) (List.replicate (((g.ow.length : Nat) : Int) : Int).toNat (gI ([-1] : List Int) 0)) na nb) ∧ (1 ≤ da) ∧ (da ≤ max 0 (1 + lenW (fullW ((g.ow.length : Nat) : Int))))) ?_ ?_)
 ·obtain ⟨fT, dV⟩ : ∃ c : List (Addr × Value), c = [(⟨aF.heap.size, 0, none⟩, (.func (.func 38) #[] #[.pointer (some ⟨aA.heap.size, 0, none⟩), .pointer (some ⟨w.heap.size, 0, none⟩), .pointer (some ⟨aF.heap.size, 0, none⟩), .pointer (some ⟨aH.heap.size, 0, none⟩), .pointer (some ⟨aC.heap.size, 0, none⟩), .pointer (some ⟨aB.heap.size, 0, none⟩)])), (⟨aB.heap.size, 0, none⟩, (.int .i64 (((g.ow.length : Nat) : Int))))] := ⟨_, rfl⟩
  have jL : HoldsC fT fS := by rw [dV]; exact ⟨(aU.cell (i := 0) rfl), (aJ.cell (i := 0) rfl), trivial⟩
  refine AtH.start fT 6 #[false, false, false, false, false, false] (by kernel_rfl) rfl rfl (fun eM jM => ?_)
  have bS := gr_drew jM; have gZ := jL.gr bS; have := bS.size; replace e0 := e0.gn bS; replace r8 := r8.gn bS; replace r9 := r9.gn bS; replace aD := aD.gn bS; replace aG := aG.gn bS; replace aJ := aJ.gn bS; replace aQ := aQ.gn bS; replace aR := aR.gn bS; replace aL := aL.gn bS; replace aN := aN.gn bS; replace aS := aS.gn bS; replace aU := aU.gn bS; clear bS jM jL
  refine AtH.rd (by kernel_rfl) (fun d v c a w h => by cases d <;> exact h) gZ [0, 1] [[.ld (.func (.func 38) #[] #[.pointer (some ⟨aA.heap.size, 0, none⟩), .pointer (some ⟨w.heap.size, 0, none⟩), .pointer (some ⟨aF.heap.size, 0, none⟩), .pointer (some ⟨aH.heap.size, 0, none⟩), .pointer (some ⟨aC.heap.size, 0, none⟩), .pointer (some ⟨aB.heap.size, 0, none⟩)])], [.ld (.int .i64 (((g.ow.length : Nat) : Int)))]] [(39, .int .i64 (((g.ow.length : Nat) : Int))), (38, .func (.func 38) #[] #[.pointer (some ⟨aA.heap.size, 0, none⟩), .pointer (some ⟨w.heap.size, 0, none⟩), .pointer (some ⟨aF.heap.size, 0, none⟩), .pointer (some ⟨aH.heap.size, 0, none⟩), .pointer (some ⟨aC.heap.size, 0, none⟩), .pointer (some ⟨aB.heap.size, 0, none⟩)])] #[true, true, false, false, false, false] [(∃ j_ : Nat, fT[j_]? = some (⟨aF.heap.size, 0, none⟩, (.func (.func 38) #[] #[.pointer (some ⟨aA.heap.size, 0, none⟩), .pointer (some ⟨w.heap.size, 0, none⟩), .pointer (some ⟨aF.heap.size, 0, none⟩), .pointer (some ⟨aH.heap.size, 0, none⟩), .pointer (some ⟨aC.heap.size, 0, none⟩), .pointer (some ⟨aB.heap.size, 0, none⟩)]))), (∃ j_ : Nat, fT[j_]? = some (⟨aB.heap.size, 0, none⟩, (.int .i64 (((g.ow.length : Nat) : Int)))))] 4 gY (by kernel_rfl) ⟨⟨0, by rw [dV]; rfl⟩, ⟨1, by rw [dV]; rfl⟩, trivial⟩ (fun pW fU => ?_)
  clear gY
  refine AtH.all [2, 4] 3 (by kernel_rfl) (by simp) ⟨?_, ?_, trivial⟩
  ·refine OneH.call fU 44 #[.int .i64 (((g.ow.length : Nat) : Int))] (some 40) #[true, true, true, false, false, false] (by kernel_rfl) (by kernel_rfl) (full_any (n := ((g.ow.length : Nat) : Int)) (by omega)) ?_
   rintro e_ eN ⟨rfl, he⟩
   refine ⟨_, rfl, _, rfl, fun pX fV => ?_⟩
   clear fU; have bT := gr_ext he; have hA := gZ.gr bT; have := bT.size; replace e0 := e0.gn bT; replace r8 := r8.gn bT; replace r9 := r9.gn bT; replace aD := aD.gn bT; replace aG := aG.gn bT; replace aJ := aJ.gn bT; replace aQ := aQ.gn bT; replace aR := aR.gn bT; replace aL := aL.gn bT; replace aN := aN.gn bT; replace aS := aS.gn bT; replace aU := aU.gn bT; clear bT he
   refine ⟨hA, ?_⟩
   refine AtH.all [3, 4] 2 (by kernel_rfl) (by simp) ⟨?_, ?_, trivial⟩
   ·have hT_ : ∀ k, DecS.T (⟨aA.heap.size, w.heap.size, aF.heap.size, aH.heap.size, aC.heap.size, aB.heap.size, aK, aE, aO, aM, Ag0, Ag1, Ag2, cg0, cg1, cg2, w.heap.size, g⟩ : DecS) k → w.heap.size ≤ k := fun k (hk : obk (aK) = some k ∨ obk (aE) = some k ∨ k = aA.heap.size) => hk.elim (fun h_ => by have := aL.ge k h_; omega) (fun h2_ => h2_.elim (fun h_ => by have := aN.ge k h_; omega) (fun h_ => by omega))
    have hK_ : DecK (⟨aA.heap.size, w.heap.size, aF.heap.size, aH.heap.size, aC.heap.size, aB.heap.size, aK, aE, aO, aM, Ag0, Ag1, Ag2, cg0, cg1, cg2, w.heap.size, g⟩ : DecS) := ⟨hR, ⟨(show aA.heap.size ≠ w.heap.size by omega), (show aA.heap.size ≠ aF.heap.size by omega), (show aA.heap.size ≠ aH.heap.size by omega), (show aA.heap.size ≠ aC.heap.size by omega), (show aA.heap.size ≠ aB.heap.size by omega)⟩, (show w.heap.size ≤ aA.heap.size by omega), hT_⟩
    refine OneH.call fV 38 #[.agg ((fullW ((g.ow.length : Nat) : Int) : List Int).map wV).toArray, .int .i64 (1), .pointer (some ⟨aA.heap.size, 0, none⟩), .pointer (some ⟨w.heap.size, 0, none⟩), .pointer (some ⟨aF.heap.size, 0, none⟩), .pointer (some ⟨aH.heap.size, 0, none⟩), .pointer (some ⟨aC.heap.size, 0, none⟩), .pointer (some ⟨aB.heap.size, 0, none⟩)] (some 41) #[true, true, true, true, false, false] (by kernel_rfl) (by kernel_rfl) (part_any hK_ 257 (fullW ((g.ow.length : Nat) : Int)) (by have := (lenW_le (fullW ((g.ow.length : Nat) : Int))).2; omega) (List.replicate (((g.ow.length : Nat) : Int) : Int).toNat (gI ([-1] : List Int) 0)) (List.replicate (((g.ow.length : Nat) : Int) : Int).toNat (gI ([-1] : List Int) 0)) 0 1 _ ⟨aQ, aD, aU, aS, (aR.as (by first | rfl | (simp only [List.cons.injEq, Value.slice.injEq, true_and, and_true, List.length_replicate]; omega))), aJ, (aL.self.imp (fun g_ hg_ hs => ⟨hs.1.2.2.1, (fun e => by have := Sx_base hs.1; have e2 := Option.some.inj (show some (aA.heap.size) = some g_ from e); omega), (fun e => by have := Sx_base hs.1; have e2 := Option.some.inj (show some (w.heap.size) = some g_ from e); omega), hs.1.1, hs.1.2.1, (fun e => by have := Sx_base hs.1; have e2 := Option.some.inj (show some (aC.heap.size) = some g_ from e); omega), (fun e => by have := Sx_base hs.1; have e2 := Option.some.inj (show some (aB.heap.size) = some g_ from e); omega), .inl hs.2⟩)), (aN.self.imp (fun g_ hg_ hs => ⟨hs.1.2.2.1, (fun e => by have := Sx_base hs.1; have e2 := Option.some.inj (show some (aA.heap.size) = some g_ from e); omega), (fun e => by have := Sx_base hs.1; have e2 := Option.some.inj (show some (w.heap.size) = some g_ from e); omega), hs.1.1, hs.1.2.1, (fun e => by have := Sx_base hs.1; have e2 := Option.some.inj (show some (aC.heap.size) = some g_ from e); omega), (fun e => by have := Sx_base hs.1; have e2 := Option.some.inj (show some (aB.heap.size) = some g_ from e); omega), .inr (.inl hs.2)⟩)), r8, r9⟩ ⟨fullW_W _, live_full hR, (show _ = g.ow.length from hrl_), (show _ = g.ow.length from hrl_), by omega, by omega, by omega, by have := (lenW_le (fullW ((g.ow.length : Nat) : Int))).2; omega⟩) ?_
    rintro e_ dW ⟨sa, sb, na, nb, da, rfl, hex, hbd_, hr0_, hr1_, hpa, hd1_, hd2_, hd3_⟩
    replace hbd_ : Bx dW (aA.heap.size) [.int .i64 (da)] 3 := hbd_; replace hr0_ : OwnR dW (fun _ => True) aK aO 3 (na : List Int) := hr0_; replace hr1_ : OwnR dW (fun _ => True) aE aM 3 (nb : List Int) := hr1_
    change Tch (DecS.T (⟨aA.heap.size, w.heap.size, aF.heap.size, aH.heap.size, aC.heap.size, aB.heap.size, aK, aE, aO, aM, Ag0, Ag1, Ag2, cg0, cg1, cg2, w.heap.size, g⟩ : DecS)) _ _ at hex
    have hpa : PartS g (fullW ((g.ow.length : Nat) : Int)) 0 sa sb (List.replicate (((g.ow.length : Nat) : Int) : Int).toNat (gI ([-1] : List Int) 0)) (List.replicate (((g.ow.length : Nat) : Int) : Int).toNat (gI ([-1] : List Int) 0)) na nb := hpa
    have hd3_ : da ≤ max 0 (1 + lenW (fullW ((g.ow.length : Nat) : Int))) := hd3_; have hlaa_ := hpa.lp; have hlbb_ := hpa.lq; have hok_sa := hpa.okp; have hok_sb := hpa.okq; have hl4_sa := okLen hok_sa; have hl4_sb := okLen hok_sb
    refine ⟨_, rfl, _, rfl, fun pY jN => ?_⟩
    clear fV
    have jO := hA.tch hex (by rw [dV]; exact ⟨(show ¬ _ from by simp only [add_block]; exact (DecS.not (x := (⟨aA.heap.size, w.heap.size, aF.heap.size, aH.heap.size, aC.heap.size, aB.heap.size, aK, aE, aO, aM, Ag0, Ag1, Ag2, cg0, cg1, cg2, w.heap.size, g⟩ : DecS)) (aL.neb (fun g hs => hs.1)) (aN.neb (fun g hs => hs.1)) (show aA.heap.size ≠ aF.heap.size by omega))), (show ¬ _ from by simp only [add_block]; exact (DecS.not (x := (⟨aA.heap.size, w.heap.size, aF.heap.size, aH.heap.size, aC.heap.size, aB.heap.size, aK, aE, aO, aM, Ag0, Ag1, Ag2, cg0, cg1, cg2, w.heap.size, g⟩ : DecS)) (fun e => by have := aL.ge _ e; omega) (fun e => by have := aN.ge _ e; omega) (show aA.heap.size ≠ aB.heap.size by omega))), trivial⟩)
    have := hex.size; replace e0 := e0.tch hex hT_; replace r8 := r8.tch hex (fun k hk => .inr (by have := hT_ k hk; omega)); replace r9 := r9.tch hex (fun k hk => .inr (by have := hT_ k hk; omega))
    replace aD := aD.tch hex (DecS.not (x := (⟨aA.heap.size, w.heap.size, aF.heap.size, aH.heap.size, aC.heap.size, aB.heap.size, aK, aE, aO, aM, Ag0, Ag1, Ag2, cg0, cg1, cg2, w.heap.size, g⟩ : DecS)) (fun e => by have := aL.ge _ e; omega) (fun e => by have := aN.ge _ e; omega) (show aA.heap.size ≠ w.heap.size by omega))
    replace aG := aG.tch hex (DecS.not (x := (⟨aA.heap.size, w.heap.size, aF.heap.size, aH.heap.size, aC.heap.size, aB.heap.size, aK, aE, aO, aM, Ag0, Ag1, Ag2, cg0, cg1, cg2, w.heap.size, g⟩ : DecS)) (fun e => by have := aL.ge _ e; omega) (fun e => by have := aN.ge _ e; omega) (show aA.heap.size ≠ w1.heap.size by omega))
    replace aJ := aJ.tch hex (DecS.not (x := (⟨aA.heap.size, w.heap.size, aF.heap.size, aH.heap.size, aC.heap.size, aB.heap.size, aK, aE, aO, aM, Ag0, Ag1, Ag2, cg0, cg1, cg2, w.heap.size, g⟩ : DecS)) (fun e => by have := aL.ge _ e; omega) (fun e => by have := aN.ge _ e; omega) (show aA.heap.size ≠ aB.heap.size by omega))
    clear aQ
    replace aR := aR.tch hex (DecS.not (x := (⟨aA.heap.size, w.heap.size, aF.heap.size, aH.heap.size, aC.heap.size, aB.heap.size, aK, aE, aO, aM, Ag0, Ag1, Ag2, cg0, cg1, cg2, w.heap.size, g⟩ : DecS)) (fun e => by have := aL.ge _ e; omega) (fun e => by have := aN.ge _ e; omega) (show aA.heap.size ≠ aC.heap.size by omega))
    have eO := OwnR.reS aL hr0_; clear aL hr0_; have eP := OwnR.reS aN hr1_; clear aN hr1_
    replace aS := aS.tch hex (DecS.not (x := (⟨aA.heap.size, w.heap.size, aF.heap.size, aH.heap.size, aC.heap.size, aB.heap.size, aK, aE, aO, aM, Ag0, Ag1, Ag2, cg0, cg1, cg2, w.heap.size, g⟩ : DecS)) (eO.neb (fun g hs => hs.2.1)) (eP.neb (fun g hs => hs.2.1)) (show aA.heap.size ≠ aH.heap.size by omega))
    replace aU := aU.tch hex (DecS.not (x := (⟨aA.heap.size, w.heap.size, aF.heap.size, aH.heap.size, aC.heap.size, aB.heap.size, aK, aE, aO, aM, Ag0, Ag1, Ag2, cg0, cg1, cg2, w.heap.size, g⟩ : DecS)) (eO.neb (fun g hs => hs.1)) (eP.neb (fun g hs => hs.1)) (show aA.heap.size ≠ aF.heap.size by omega))
    clear hex
    refine ⟨jO, ?_⟩
    refine AtH.all [4] 1 (by kernel_rfl) (by simp) ⟨?_, trivial⟩
    refine OneH.seq jN [[]] [(12, .pointer (some ⟨dW.heap.size, 0, none⟩))] (dW.alloc (.cells ((([0, 0, 0, 0]) ++ ([0, 0, 0, 0]) : List Int).map wV).toArray 67 (0, 0))) [] #[true, true, true, true, true, false] (by kernel_rfl) (by kernel_rfl) (by kernel_rfl) trivial (fun pZ mQ hB jP => ?_)
    clear jN; have bU := gr_alloc hB; have jQ := jO.gr bU; have := bU.size; replace e0 := e0.gn bU; replace r8 := r8.gn bU; replace r9 := r9.gn bU; replace aD := aD.gn bU; replace aG := aG.gn bU; replace aJ := aJ.gn bU; have hC := hbd_.gn bU; clear hbd_; replace aR := aR.gn bU; replace eO := eO.grN bU; replace eP := eP.grN bU; replace aS := aS.gn bU; replace aU := aU.gn bU
    have hD : Bx mQ (dW.heap.size) ((([0, 0, 0, 0]) ++ ([0, 0, 0, 0]) : List Int).map wV) 67 := Bx.new hB; have := hD.lt; clear bU hB
    refine ⟨jQ, ?_⟩
    refine AtH.all [5] 0 (by kernel_rfl) (by simp) ⟨?_, trivial⟩
    refine OneH.act jP #[true, true, true, true, true, true] (by kernel_rfl) (storeBlk (t := 67) (b := dW.heap.size) (n := 8) (cs' := ((sa ++ sb : List Int).map wV)) (by kernel_rfl) (by kernel_rfl) (len8 (by assumption) (by assumption)) oneW_ ((show ((sa ++ sb : List Int).map wV).length = 8 from (len8 (by assumption) (by assumption))).trans (show ((([0, 0, 0, 0]) ++ ([0, 0, 0, 0]) : List Int).map wV).length = 8 from (len8 (okLen okW_00) (okLen okW_00))).symm) hD) ?_
    rintro d_ v_ qA ⟨rfl, bV, mR⟩
    have jR := jQ.gr' bV (by rw [dV]; exact ⟨(by simp only [add_block]; omega), (by simp only [add_block]; omega), trivial⟩)
    refine ⟨_, rfl, fun qB mS => ⟨jR, ?_⟩⟩
    clear jP; have := bV.size; replace e0 := e0.gr bV (fun k h => by injection h; omega); replace r8 := r8.gb bV (by omega); replace r9 := r9.gb bV (by omega); replace aD := aD.gb bV (by omega); replace aG := aG.gb bV (by omega); replace aJ := aJ.gb bV (by omega); replace hC := hC.gb bV (by omega); replace aR := aR.gb bV (by omega); replace eO := eO.gr bV (fun k hk => hk.1)
    replace eP := eP.gr bV (fun k hk => hk.1); replace aS := aS.gb bV (by omega); replace aU := aU.gb bV (by omega); clear hD bV
    refine AtH.done (by kernel_rfl) ?_
    clear jR
    refine t_n ?_
    have mT := mS.sub (r := [(12, .pointer (some ⟨dW.heap.size, 0, none⟩)), (8, .pointer (some ⟨aC.heap.size, 0, none⟩)), (7, .pointer (some ⟨aA.heap.size, 0, none⟩)), (6, .pointer (some ⟨aB.heap.size, 0, none⟩)), (3, .int .i64 (0)), (2, .pointer (some ⟨w1.heap.size, 0, none⟩)), (1, .pointer (some ⟨w.heap.size, 0, none⟩))]) ⟨rfl, rfl, rfl, rfl, rfl, rfl, rfl, trivial⟩
    exact ⟨sa, sb, na, nb, da, dW.heap.size, mT, e0, r8, r9, aD, aG, aJ, hC, aR, (eO.imp (fun g _ hs => ⟨hs.2.1, hs.2.2.1, hs.2.2.2.1, hs.1, (by have := Sx_base hs; show cO.heap.size ≤ g; omega)⟩)), (eP.imp (fun g _ hs => ⟨hs.2.1, hs.2.2.1, hs.2.2.2.1, hs.1, (by have := Sx_base hs; show cP.heap.size ≤ g; omega)⟩)), aS, aU, mR, (by omega), (by omega), hpa, hd2_, hd3_⟩
   refine OneH.seq fV [[]] [(12, .pointer (some ⟨eN.heap.size, 0, none⟩))] (eN.alloc (.cells ((([0, 0, 0, 0]) ++ ([0, 0, 0, 0]) : List Int).map wV).toArray 67 (0, 0))) [] #[true, true, true, false, true, false] (by kernel_rfl) (by kernel_rfl) (by kernel_rfl) trivial (fun qC mU hE jS => ?_)
   clear fV; have bW := gr_alloc hE; have jT := hA.gr bW; have := bW.size; replace e0 := e0.gn bW; replace r8 := r8.gn bW; replace r9 := r9.gn bW; replace aD := aD.gn bW; replace aG := aG.gn bW; replace aJ := aJ.gn bW; replace aQ := aQ.gn bW; replace aR := aR.gn bW; replace aL := aL.grN bW; replace aN := aN.grN bW; replace aS := aS.gn bW; replace aU := aU.gn bW
   have fK : Bx mU (eN.heap.size) ((([0, 0, 0, 0]) ++ ([0, 0, 0, 0]) : List Int).map wV) 67 := Bx.new hE; have := fK.lt; clear bW hE
   refine ⟨jT, ?_⟩
   refine AtH.all [3] 1 (by kernel_rfl) (by simp) ⟨?_, trivial⟩
   have hT_ : ∀ k, DecS.T (⟨aA.heap.size, w.heap.size, aF.heap.size, aH.heap.size, aC.heap.size, aB.heap.size, aK, aE, aO, aM, Ag0, Ag1, Ag2, cg0, cg1, cg2, w.heap.size, g⟩ : DecS) k → w.heap.size ≤ k := fun k (hk : obk (aK) = some k ∨ obk (aE) = some k ∨ k = aA.heap.size) => hk.elim (fun h_ => by have := aL.ge k h_; omega) (fun h2_ => h2_.elim (fun h_ => by have := aN.ge k h_; omega) (fun h_ => by omega))
   have hK_ : DecK (⟨aA.heap.size, w.heap.size, aF.heap.size, aH.heap.size, aC.heap.size, aB.heap.size, aK, aE, aO, aM, Ag0, Ag1, Ag2, cg0, cg1, cg2, w.heap.size, g⟩ : DecS) := ⟨hR, ⟨(show aA.heap.size ≠ w.heap.size by omega), (show aA.heap.size ≠ aF.heap.size by omega), (show aA.heap.size ≠ aH.heap.size by omega), (show aA.heap.size ≠ aC.heap.size by omega), (show aA.heap.size ≠ aB.heap.size by omega)⟩, (show w.heap.size ≤ aA.heap.size by omega), hT_⟩
   refine OneH.call jS 38 #[.agg ((fullW ((g.ow.length : Nat) : Int) : List Int).map wV).toArray, .int .i64 (1), .pointer (some ⟨aA.heap.size, 0, none⟩), .pointer (some ⟨w.heap.size, 0, none⟩), .pointer (some ⟨aF.heap.size, 0, none⟩), .pointer (some ⟨aH.heap.size, 0, none⟩), .pointer (some ⟨aC.heap.size, 0, none⟩), .pointer (some ⟨aB.heap.size, 0, none⟩)] (some 41) #[true, true, true, true, true, false] (by kernel_rfl) (by kernel_rfl) (part_any hK_ 257 (fullW ((g.ow.length : Nat) : Int)) (by have := (lenW_le (fullW ((g.ow.length : Nat) : Int))).2; omega) (List.replicate (((g.ow.length : Nat) : Int) : Int).toNat (gI ([-1] : List Int) 0)) (List.replicate (((g.ow.length : Nat) : Int) : Int).toNat (gI ([-1] : List Int) 0)) 0 1 _ ⟨aQ, aD, aU, aS, (aR.as (by first | rfl | (simp only [List.cons.injEq, Value.slice.injEq, true_and, and_true, List.length_replicate]; omega))), aJ, (aL.self.imp (fun g_ hg_ hs => ⟨hs.1.2.2.2.1, (fun e => by have := Sx_base hs.1; have e2 := Option.some.inj (show some (aA.heap.size) = some g_ from e); omega), (fun e => by have := Sx_base hs.1; have e2 := Option.some.inj (show some (w.heap.size) = some g_ from e); omega), hs.1.2.1, hs.1.2.2.1, (fun e => by have := Sx_base hs.1; have e2 := Option.some.inj (show some (aC.heap.size) = some g_ from e); omega), (fun e => by have := Sx_base hs.1; have e2 := Option.some.inj (show some (aB.heap.size) = some g_ from e); omega), .inl hs.2⟩)), (aN.self.imp (fun g_ hg_ hs => ⟨hs.1.2.2.2.1, (fun e => by have := Sx_base hs.1; have e2 := Option.some.inj (show some (aA.heap.size) = some g_ from e); omega), (fun e => by have := Sx_base hs.1; have e2 := Option.some.inj (show some (w.heap.size) = some g_ from e); omega), hs.1.2.1, hs.1.2.2.1, (fun e => by have := Sx_base hs.1; have e2 := Option.some.inj (show some (aC.heap.size) = some g_ from e); omega), (fun e => by have := Sx_base hs.1; have e2 := Option.some.inj (show some (aB.heap.size) = some g_ from e); omega), .inr (.inl hs.2)⟩)), r8, r9⟩ ⟨fullW_W _, live_full hR, (show _ = g.ow.length from hrl_), (show _ = g.ow.length from hrl_), by omega, by omega, by omega, by have := (lenW_le (fullW ((g.ow.length : Nat) : Int))).2; omega⟩) ?_
   rintro e_ hF ⟨sa, sb, na, nb, da, rfl, hex, hbd_, hr0_, hr1_, hpa, hd1_, hd2_, hd3_⟩
   replace hbd_ : Bx hF (aA.heap.size) [.int .i64 (da)] 3 := hbd_; replace hr0_ : OwnR hF (fun _ => True) aK aO 3 (na : List Int) := hr0_; replace hr1_ : OwnR hF (fun _ => True) aE aM 3 (nb : List Int) := hr1_
   change Tch (DecS.T (⟨aA.heap.size, w.heap.size, aF.heap.size, aH.heap.size, aC.heap.size, aB.heap.size, aK, aE, aO, aM, Ag0, Ag1, Ag2, cg0, cg1, cg2, w.heap.size, g⟩ : DecS)) _ _ at hex
   have hpa : PartS g (fullW ((g.ow.length : Nat) : Int)) 0 sa sb (List.replicate (((g.ow.length : Nat) : Int) : Int).toNat (gI ([-1] : List Int) 0)) (List.replicate (((g.ow.length : Nat) : Int) : Int).toNat (gI ([-1] : List Int) 0)) na nb := hpa
   have hd3_ : da ≤ max 0 (1 + lenW (fullW ((g.ow.length : Nat) : Int))) := hd3_; have hlaa_ := hpa.lp; have hlbb_ := hpa.lq; have hok_sa := hpa.okp; have hok_sb := hpa.okq; have hl4_sa := okLen hok_sa; have hl4_sb := okLen hok_sb
   refine ⟨_, rfl, _, rfl, fun qD jU => ?_⟩
   clear jS
   have jV := jT.tch hex (by rw [dV]; exact ⟨(show ¬ _ from by simp only [add_block]; exact (DecS.not (x := (⟨aA.heap.size, w.heap.size, aF.heap.size, aH.heap.size, aC.heap.size, aB.heap.size, aK, aE, aO, aM, Ag0, Ag1, Ag2, cg0, cg1, cg2, w.heap.size, g⟩ : DecS)) (aL.neb (fun g hs => hs.2.1)) (aN.neb (fun g hs => hs.2.1)) (show aA.heap.size ≠ aF.heap.size by omega))), (show ¬ _ from by simp only [add_block]; exact (DecS.not (x := (⟨aA.heap.size, w.heap.size, aF.heap.size, aH.heap.size, aC.heap.size, aB.heap.size, aK, aE, aO, aM, Ag0, Ag1, Ag2, cg0, cg1, cg2, w.heap.size, g⟩ : DecS)) (fun e => by have := aL.ge _ e; omega) (fun e => by have := aN.ge _ e; omega) (show aA.heap.size ≠ aB.heap.size by omega))), trivial⟩)
   have := hex.size; replace e0 := e0.tch hex hT_; replace r8 := r8.tch hex (fun k hk => .inr (by have := hT_ k hk; omega)); replace r9 := r9.tch hex (fun k hk => .inr (by have := hT_ k hk; omega))
   replace aD := aD.tch hex (DecS.not (x := (⟨aA.heap.size, w.heap.size, aF.heap.size, aH.heap.size, aC.heap.size, aB.heap.size, aK, aE, aO, aM, Ag0, Ag1, Ag2, cg0, cg1, cg2, w.heap.size, g⟩ : DecS)) (fun e => by have := aL.ge _ e; omega) (fun e => by have := aN.ge _ e; omega) (show aA.heap.size ≠ w.heap.size by omega))
   replace aG := aG.tch hex (DecS.not (x := (⟨aA.heap.size, w.heap.size, aF.heap.size, aH.heap.size, aC.heap.size, aB.heap.size, aK, aE, aO, aM, Ag0, Ag1, Ag2, cg0, cg1, cg2, w.heap.size, g⟩ : DecS)) (fun e => by have := aL.ge _ e; omega) (fun e => by have := aN.ge _ e; omega) (show aA.heap.size ≠ w1.heap.size by omega))
   replace aJ := aJ.tch hex (DecS.not (x := (⟨aA.heap.size, w.heap.size, aF.heap.size, aH.heap.size, aC.heap.size, aB.heap.size, aK, aE, aO, aM, Ag0, Ag1, Ag2, cg0, cg1, cg2, w.heap.size, g⟩ : DecS)) (fun e => by have := aL.ge _ e; omega) (fun e => by have := aN.ge _ e; omega) (show aA.heap.size ≠ aB.heap.size by omega))
   clear aQ
   replace aR := aR.tch hex (DecS.not (x := (⟨aA.heap.size, w.heap.size, aF.heap.size, aH.heap.size, aC.heap.size, aB.heap.size, aK, aE, aO, aM, Ag0, Ag1, Ag2, cg0, cg1, cg2, w.heap.size, g⟩ : DecS)) (fun e => by have := aL.ge _ e; omega) (fun e => by have := aN.ge _ e; omega) (show aA.heap.size ≠ aC.heap.size by omega))
   have eX := OwnR.reS aL hr0_; clear aL hr0_; have eY := OwnR.reS aN hr1_; clear aN hr1_
   replace aS := aS.tch hex (DecS.not (x := (⟨aA.heap.size, w.heap.size, aF.heap.size, aH.heap.size, aC.heap.size, aB.heap.size, aK, aE, aO, aM, Ag0, Ag1, Ag2, cg0, cg1, cg2, w.heap.size, g⟩ : DecS)) (eX.neb (fun g hs => hs.2.2.1)) (eY.neb (fun g hs => hs.2.2.1)) (show aA.heap.size ≠ aH.heap.size by omega))
   replace aU := aU.tch hex (DecS.not (x := (⟨aA.heap.size, w.heap.size, aF.heap.size, aH.heap.size, aC.heap.size, aB.heap.size, aK, aE, aO, aM, Ag0, Ag1, Ag2, cg0, cg1, cg2, w.heap.size, g⟩ : DecS)) (eX.neb (fun g hs => hs.2.1)) (eY.neb (fun g hs => hs.2.1)) (show aA.heap.size ≠ aF.heap.size by omega))
   replace fK := fK.tch hex (DecS.not (x := (⟨aA.heap.size, w.heap.size, aF.heap.size, aH.heap.size, aC.heap.size, aB.heap.size, aK, aE, aO, aM, Ag0, Ag1, Ag2, cg0, cg1, cg2, w.heap.size, g⟩ : DecS)) (eX.neb (fun g hs => hs.1)) (eY.neb (fun g hs => hs.1)) (show aA.heap.size ≠ eN.heap.size by omega))
   clear hex
   refine ⟨jV, ?_⟩
   refine AtH.all [5] 0 (by kernel_rfl) (by simp) ⟨?_, trivial⟩
   refine OneH.act jU #[true, true, true, true, true, true] (by kernel_rfl) (storeBlk (t := 67) (b := eN.heap.size) (n := 8) (cs' := ((sa ++ sb : List Int).map wV)) (by kernel_rfl) (by kernel_rfl) (len8 (by assumption) (by assumption)) oneW_ ((show ((sa ++ sb : List Int).map wV).length = 8 from (len8 (by assumption) (by assumption))).trans (show ((([0, 0, 0, 0]) ++ ([0, 0, 0, 0]) : List Int).map wV).length = 8 from (len8 (okLen okW_00) (okLen okW_00))).symm) fK) ?_
   rintro d_ v_ qE ⟨rfl, bX, mV⟩
   have jW := jV.gr' bX (by rw [dV]; exact ⟨(by simp only [add_block]; omega), (by simp only [add_block]; omega), trivial⟩)
   refine ⟨_, rfl, fun qF mW => ⟨jW, ?_⟩⟩
   clear jU; have := bX.size; replace e0 := e0.gr bX (fun k h => by injection h; omega); replace r8 := r8.gb bX (by omega); replace r9 := r9.gb bX (by omega); replace aD := aD.gb bX (by omega); replace aG := aG.gb bX (by omega); replace aJ := aJ.gb bX (by omega); have mX := hbd_.gb bX (by omega); clear hbd_; replace aR := aR.gb bX (by omega); replace eX := eX.gr bX (fun k hk => hk.1)
   replace eY := eY.gr bX (fun k hk => hk.1); replace aS := aS.gb bX (by omega); replace aU := aU.gb bX (by omega); clear fK bX
   refine AtH.done (by kernel_rfl) ?_
   clear jW
   refine t_n ?_
   have mY := mW.sub (r := [(12, .pointer (some ⟨eN.heap.size, 0, none⟩)), (8, .pointer (some ⟨aC.heap.size, 0, none⟩)), (7, .pointer (some ⟨aA.heap.size, 0, none⟩)), (6, .pointer (some ⟨aB.heap.size, 0, none⟩)), (3, .int .i64 (0)), (2, .pointer (some ⟨w1.heap.size, 0, none⟩)), (1, .pointer (some ⟨w.heap.size, 0, none⟩))]) ⟨rfl, rfl, rfl, rfl, rfl, rfl, rfl, trivial⟩
   exact ⟨sa, sb, na, nb, da, eN.heap.size, mY, e0, r8, r9, aD, aG, aJ, mX, aR, (eX.imp (fun g _ hs => ⟨hs.2.1, hs.2.2.1, hs.2.2.2.1, hs.1, (by have := Sx_base hs; show cO.heap.size ≤ g; omega)⟩)), (eY.imp (fun g _ hs => ⟨hs.2.1, hs.2.2.1, hs.2.2.2.1, hs.1, (by have := Sx_base hs; show cP.heap.size ≤ g; omega)⟩)), aS, aU, mV, (by omega), (by omega), hpa, hd2_, hd3_⟩
  refine OneH.seq fU [[]] [(12, .pointer (some ⟨eM.heap.size, 0, none⟩))] (eM.alloc (.cells ((([0, 0, 0, 0]) ++ ([0, 0, 0, 0]) : List Int).map wV).toArray 67 (0, 0))) [] #[true, true, false, false, true, false] (by kernel_rfl) (by kernel_rfl) (by kernel_rfl) trivial (fun qG mZ hH jX => ?_)
  clear fU; have bY := gr_alloc hH; have jY := gZ.gr bY; have := bY.size; replace e0 := e0.gn bY; replace r8 := r8.gn bY; replace r9 := r9.gn bY; replace aD := aD.gn bY; replace aG := aG.gn bY; replace aJ := aJ.gn bY; replace aQ := aQ.gn bY; replace aR := aR.gn bY; replace aL := aL.grN bY; replace aN := aN.grN bY; replace aS := aS.gn bY; replace aU := aU.gn bY
  have eQ : Bx mZ (eM.heap.size) ((([0, 0, 0, 0]) ++ ([0, 0, 0, 0]) : List Int).map wV) 67 := Bx.new hH; have := eQ.lt; clear bY hH
  refine ⟨jY, ?_⟩
  refine AtH.all [2] 2 (by kernel_rfl) (by simp) ⟨?_, trivial⟩
  refine OneH.call jX 44 #[.int .i64 (((g.ow.length : Nat) : Int))] (some 40) #[true, true, true, false, true, false] (by kernel_rfl) (by kernel_rfl) (full_any (n := ((g.ow.length : Nat) : Int)) (by omega)) ?_
  rintro e_ qH ⟨rfl, he⟩
  refine ⟨_, rfl, _, rfl, fun qI jZ => ?_⟩
  clear jX; have bJ := gr_ext he; have kA := jY.gr bJ; have := bJ.size; replace e0 := e0.gn bJ; replace r8 := r8.gn bJ; replace r9 := r9.gn bJ; replace aD := aD.gn bJ; replace aG := aG.gn bJ; replace aJ := aJ.gn bJ; replace aQ := aQ.gn bJ; replace aR := aR.gn bJ; replace aL := aL.gn bJ; replace aN := aN.gn bJ; replace aS := aS.gn bJ; replace aU := aU.gn bJ; replace eQ := eQ.gn bJ; clear bJ he
  refine ⟨kA, ?_⟩
  refine AtH.all [3] 1 (by kernel_rfl) (by simp) ⟨?_, trivial⟩
  have hT_ : ∀ k, DecS.T (⟨aA.heap.size, w.heap.size, aF.heap.size, aH.heap.size, aC.heap.size, aB.heap.size, aK, aE, aO, aM, Ag0, Ag1, Ag2, cg0, cg1, cg2, w.heap.size, g⟩ : DecS) k → w.heap.size ≤ k := fun k (hk : obk (aK) = some k ∨ obk (aE) = some k ∨ k = aA.heap.size) => hk.elim (fun h_ => by have := aL.ge k h_; omega) (fun h2_ => h2_.elim (fun h_ => by have := aN.ge k h_; omega) (fun h_ => by omega))
  have hK_ : DecK (⟨aA.heap.size, w.heap.size, aF.heap.size, aH.heap.size, aC.heap.size, aB.heap.size, aK, aE, aO, aM, Ag0, Ag1, Ag2, cg0, cg1, cg2, w.heap.size, g⟩ : DecS) := ⟨hR, ⟨(show aA.heap.size ≠ w.heap.size by omega), (show aA.heap.size ≠ aF.heap.size by omega), (show aA.heap.size ≠ aH.heap.size by omega), (show aA.heap.size ≠ aC.heap.size by omega), (show aA.heap.size ≠ aB.heap.size by omega)⟩, (show w.heap.size ≤ aA.heap.size by omega), hT_⟩
  refine OneH.call jZ 38 #[.agg ((fullW ((g.ow.length : Nat) : Int) : List Int).map wV).toArray, .int .i64 (1), .pointer (some ⟨aA.heap.size, 0, none⟩), .pointer (some ⟨w.heap.size, 0, none⟩), .pointer (some ⟨aF.heap.size, 0, none⟩), .pointer (some ⟨aH.heap.size, 0, none⟩), .pointer (some ⟨aC.heap.size, 0, none⟩), .pointer (some ⟨aB.heap.size, 0, none⟩)] (some 41) #[true, true, true, true, true, false] (by kernel_rfl) (by kernel_rfl) (part_any hK_ 257 (fullW ((g.ow.length : Nat) : Int)) (by have := (lenW_le (fullW ((g.ow.length : Nat) : Int))).2; omega) (List.replicate (((g.ow.length : Nat) : Int) : Int).toNat (gI ([-1] : List Int) 0)) (List.replicate (((g.ow.length : Nat) : Int) : Int).toNat (gI ([-1] : List Int) 0)) 0 1 _ ⟨aQ, aD, aU, aS, (aR.as (by first | rfl | (simp only [List.cons.injEq, Value.slice.injEq, true_and, and_true, List.length_replicate]; omega))), aJ, (aL.self.imp (fun g_ hg_ hs => ⟨hs.1.2.2.2.1, (fun e => by have := Sx_base hs.1; have e2 := Option.some.inj (show some (aA.heap.size) = some g_ from e); omega), (fun e => by have := Sx_base hs.1; have e2 := Option.some.inj (show some (w.heap.size) = some g_ from e); omega), hs.1.2.1, hs.1.2.2.1, (fun e => by have := Sx_base hs.1; have e2 := Option.some.inj (show some (aC.heap.size) = some g_ from e); omega), (fun e => by have := Sx_base hs.1; have e2 := Option.some.inj (show some (aB.heap.size) = some g_ from e); omega), .inl hs.2⟩)), (aN.self.imp (fun g_ hg_ hs => ⟨hs.1.2.2.2.1, (fun e => by have := Sx_base hs.1; have e2 := Option.some.inj (show some (aA.heap.size) = some g_ from e); omega), (fun e => by have := Sx_base hs.1; have e2 := Option.some.inj (show some (w.heap.size) = some g_ from e); omega), hs.1.2.1, hs.1.2.2.1, (fun e => by have := Sx_base hs.1; have e2 := Option.some.inj (show some (aC.heap.size) = some g_ from e); omega), (fun e => by have := Sx_base hs.1; have e2 := Option.some.inj (show some (aB.heap.size) = some g_ from e); omega), .inr (.inl hs.2)⟩)), r8, r9⟩ ⟨fullW_W _, live_full hR, (show _ = g.ow.length from hrl_), (show _ = g.ow.length from hrl_), by omega, by omega, by omega, by have := (lenW_le (fullW ((g.ow.length : Nat) : Int))).2; omega⟩) ?_
  rintro e_ hI ⟨sa, sb, na, nb, da, rfl, hex, hbd_, hr0_, hr1_, hpa, hd1_, hd2_, hd3_⟩
  replace hbd_ : Bx hI (aA.heap.size) [.int .i64 (da)] 3 := hbd_; replace hr0_ : OwnR hI (fun _ => True) aK aO 3 (na : List Int) := hr0_; replace hr1_ : OwnR hI (fun _ => True) aE aM 3 (nb : List Int) := hr1_
  change Tch (DecS.T (⟨aA.heap.size, w.heap.size, aF.heap.size, aH.heap.size, aC.heap.size, aB.heap.size, aK, aE, aO, aM, Ag0, Ag1, Ag2, cg0, cg1, cg2, w.heap.size, g⟩ : DecS)) _ _ at hex
  have hpa : PartS g (fullW ((g.ow.length : Nat) : Int)) 0 sa sb (List.replicate (((g.ow.length : Nat) : Int) : Int).toNat (gI ([-1] : List Int) 0)) (List.replicate (((g.ow.length : Nat) : Int) : Int).toNat (gI ([-1] : List Int) 0)) na nb := hpa
  have hd3_ : da ≤ max 0 (1 + lenW (fullW ((g.ow.length : Nat) : Int))) := hd3_; have hlaa_ := hpa.lp; have hlbb_ := hpa.lq; have hok_sa := hpa.okp; have hok_sb := hpa.okq; have hl4_sa := okLen hok_sa; have hl4_sb := okLen hok_sb
  refine ⟨_, rfl, _, rfl, fun qJ kB => ?_⟩
  clear jZ
  have kC := kA.tch hex (by rw [dV]; exact ⟨(show ¬ _ from by simp only [add_block]; exact (DecS.not (x := (⟨aA.heap.size, w.heap.size, aF.heap.size, aH.heap.size, aC.heap.size, aB.heap.size, aK, aE, aO, aM, Ag0, Ag1, Ag2, cg0, cg1, cg2, w.heap.size, g⟩ : DecS)) (aL.neb (fun g hs => hs.2.1)) (aN.neb (fun g hs => hs.2.1)) (show aA.heap.size ≠ aF.heap.size by omega))), (show ¬ _ from by simp only [add_block]; exact (DecS.not (x := (⟨aA.heap.size, w.heap.size, aF.heap.size, aH.heap.size, aC.heap.size, aB.heap.size, aK, aE, aO, aM, Ag0, Ag1, Ag2, cg0, cg1, cg2, w.heap.size, g⟩ : DecS)) (fun e => by have := aL.ge _ e; omega) (fun e => by have := aN.ge _ e; omega) (show aA.heap.size ≠ aB.heap.size by omega))), trivial⟩)
  have := hex.size; replace e0 := e0.tch hex hT_; replace r8 := r8.tch hex (fun k hk => .inr (by have := hT_ k hk; omega)); replace r9 := r9.tch hex (fun k hk => .inr (by have := hT_ k hk; omega))
  replace aD := aD.tch hex (DecS.not (x := (⟨aA.heap.size, w.heap.size, aF.heap.size, aH.heap.size, aC.heap.size, aB.heap.size, aK, aE, aO, aM, Ag0, Ag1, Ag2, cg0, cg1, cg2, w.heap.size, g⟩ : DecS)) (fun e => by have := aL.ge _ e; omega) (fun e => by have := aN.ge _ e; omega) (show aA.heap.size ≠ w.heap.size by omega))
  replace aG := aG.tch hex (DecS.not (x := (⟨aA.heap.size, w.heap.size, aF.heap.size, aH.heap.size, aC.heap.size, aB.heap.size, aK, aE, aO, aM, Ag0, Ag1, Ag2, cg0, cg1, cg2, w.heap.size, g⟩ : DecS)) (fun e => by have := aL.ge _ e; omega) (fun e => by have := aN.ge _ e; omega) (show aA.heap.size ≠ w1.heap.size by omega))
  replace aJ := aJ.tch hex (DecS.not (x := (⟨aA.heap.size, w.heap.size, aF.heap.size, aH.heap.size, aC.heap.size, aB.heap.size, aK, aE, aO, aM, Ag0, Ag1, Ag2, cg0, cg1, cg2, w.heap.size, g⟩ : DecS)) (fun e => by have := aL.ge _ e; omega) (fun e => by have := aN.ge _ e; omega) (show aA.heap.size ≠ aB.heap.size by omega))
  clear aQ
  replace aR := aR.tch hex (DecS.not (x := (⟨aA.heap.size, w.heap.size, aF.heap.size, aH.heap.size, aC.heap.size, aB.heap.size, aK, aE, aO, aM, Ag0, Ag1, Ag2, cg0, cg1, cg2, w.heap.size, g⟩ : DecS)) (fun e => by have := aL.ge _ e; omega) (fun e => by have := aN.ge _ e; omega) (show aA.heap.size ≠ aC.heap.size by omega))
  have eZ := OwnR.reS aL hr0_; clear aL hr0_; have fA := OwnR.reS aN hr1_; clear aN hr1_
  replace aS := aS.tch hex (DecS.not (x := (⟨aA.heap.size, w.heap.size, aF.heap.size, aH.heap.size, aC.heap.size, aB.heap.size, aK, aE, aO, aM, Ag0, Ag1, Ag2, cg0, cg1, cg2, w.heap.size, g⟩ : DecS)) (eZ.neb (fun g hs => hs.2.2.1)) (fA.neb (fun g hs => hs.2.2.1)) (show aA.heap.size ≠ aH.heap.size by omega))
  replace aU := aU.tch hex (DecS.not (x := (⟨aA.heap.size, w.heap.size, aF.heap.size, aH.heap.size, aC.heap.size, aB.heap.size, aK, aE, aO, aM, Ag0, Ag1, Ag2, cg0, cg1, cg2, w.heap.size, g⟩ : DecS)) (eZ.neb (fun g hs => hs.2.1)) (fA.neb (fun g hs => hs.2.1)) (show aA.heap.size ≠ aF.heap.size by omega))
  replace eQ := eQ.tch hex (DecS.not (x := (⟨aA.heap.size, w.heap.size, aF.heap.size, aH.heap.size, aC.heap.size, aB.heap.size, aK, aE, aO, aM, Ag0, Ag1, Ag2, cg0, cg1, cg2, w.heap.size, g⟩ : DecS)) (eZ.neb (fun g hs => hs.1)) (fA.neb (fun g hs => hs.1)) (show aA.heap.size ≠ eM.heap.size by omega))
  clear hex
  refine ⟨kC, ?_⟩
  refine AtH.all [5] 0 (by kernel_rfl) (by simp) ⟨?_, trivial⟩
  refine OneH.act kB #[true, true, true, true, true, true] (by kernel_rfl) (storeBlk (t := 67) (b := eM.heap.size) (n := 8) (cs' := ((sa ++ sb : List Int).map wV)) (by kernel_rfl) (by kernel_rfl) (len8 (by assumption) (by assumption)) oneW_ ((show ((sa ++ sb : List Int).map wV).length = 8 from (len8 (by assumption) (by assumption))).trans (show ((([0, 0, 0, 0]) ++ ([0, 0, 0, 0]) : List Int).map wV).length = 8 from (len8 (okLen okW_00) (okLen okW_00))).symm) eQ) ?_
  rintro d_ v_ qK ⟨rfl, bZ, nA⟩
  have kD := kC.gr' bZ (by rw [dV]; exact ⟨(by simp only [add_block]; omega), (by simp only [add_block]; omega), trivial⟩)
  refine ⟨_, rfl, fun qL nB => ⟨kD, ?_⟩⟩
  clear kB; have := bZ.size; replace e0 := e0.gr bZ (fun k h => by injection h; omega); replace r8 := r8.gb bZ (by omega); replace r9 := r9.gb bZ (by omega); replace aD := aD.gb bZ (by omega); replace aG := aG.gb bZ (by omega); replace aJ := aJ.gb bZ (by omega); have nC := hbd_.gb bZ (by omega); clear hbd_; replace aR := aR.gb bZ (by omega); replace eZ := eZ.gr bZ (fun k hk => hk.1)
  replace fA := fA.gr bZ (fun k hk => hk.1); replace aS := aS.gb bZ (by omega); replace aU := aU.gb bZ (by omega); clear eQ bZ
  refine AtH.done (by kernel_rfl) ?_
  clear kD
  refine t_n ?_
  have nD := nB.sub (r := [(12, .pointer (some ⟨eM.heap.size, 0, none⟩)), (8, .pointer (some ⟨aC.heap.size, 0, none⟩)), (7, .pointer (some ⟨aA.heap.size, 0, none⟩)), (6, .pointer (some ⟨aB.heap.size, 0, none⟩)), (3, .int .i64 (0)), (2, .pointer (some ⟨w1.heap.size, 0, none⟩)), (1, .pointer (some ⟨w.heap.size, 0, none⟩))]) ⟨rfl, rfl, rfl, rfl, rfl, rfl, rfl, trivial⟩
  exact ⟨sa, sb, na, nb, da, eM.heap.size, nD, e0, r8, r9, aD, aG, aJ, nC, aR, (eZ.imp (fun g _ hs => ⟨hs.2.1, hs.2.2.1, hs.2.2.2.1, hs.1, (by have := Sx_base hs; show cO.heap.size ≤ g; omega)⟩)), (fA.imp (fun g _ hs => ⟨hs.2.1, hs.2.2.1, hs.2.2.2.1, hs.1, (by have := Sx_base hs; show cP.heap.size ≤ g; omega)⟩)), aS, aU, nA, (by omega), (by omega), hpa, hd2_, hd3_⟩
 clear r8; clear r9; clear aD; clear aG; clear aJ; clear aQ; clear aR; clear aL; clear aN; clear aS; clear aU; clear gY e0
 intro qM aI ⟨sa, sb, na, nb, da, aT, kE, dK, dT, dL, dM, dN, dC, dO, eE, dP, dQ, fB, fC, dD, qN, qO, hpa, hd2_, hd3_⟩
 have := dK.size; have hlaa_ := hpa.lp; have hlbb_ := hpa.lq; have hok_sa := hpa.okp; have hok_sb := hpa.okq; have hl4_sa := okLen hok_sa; have hl4_sb := okLen hok_sb; have := dM.lt; have := dN.lt; have := dC.lt; have := dO.lt; have := eE.lt; have := fB.lt; have := fC.lt; have := dD.lt
 refine wp_seq ?_
 refine At.start ?_
 refine At.rd kE 2 [[.ld (.slice aK ((List.replicate (((g.ow.length : Nat) : Int) : Int).toNat (gI ([-1] : List Int) 0)).length) aO), .ld (.slice aE ((List.replicate (((g.ow.length : Nat) : Int) : Int).toNat (gI ([-1] : List Int) 0)).length) aM)], []] [(43, .agg #[.slice none 0 0, .slice none 0 0, .slice aK ((List.replicate (((g.ow.length : Nat) : Int) : Int).toNat (gI ([-1] : List Int) 0)).length) aO, .slice aE ((List.replicate (((g.ow.length : Nat) : Int) : Int).toNat (gI ([-1] : List Int) 0)).length) aM]), (42, .agg #[.slice aK ((List.replicate (((g.ow.length : Nat) : Int) : Int).toNat (gI ([-1] : List Int) 0)).length) aO, .slice aE ((List.replicate (((g.ow.length : Nat) : Int) : Int).toNat (gI ([-1] : List Int) 0)).length) aM])] [(aI.cell? ⟨aC.heap.size, 0, none⟩ = some (.slice aK ((List.replicate (((g.ow.length : Nat) : Int) : Int).toNat (gI ([-1] : List Int) 0)).length) aO)), (aI.cell? ⟨aC.heap.size, 1, none⟩ = some (.slice aE ((List.replicate (((g.ow.length : Nat) : Int) : Int).toNat (gI ([-1] : List Int) 0)).length) aM))] (by kernel_rfl) ⟨(eE.cell (i := 0) rfl), (eE.cell (i := 1) rfl), trivial⟩ (fun qP kF => ?_)
 clear kE
 refine At.seq kF 1 [[]] [(13, .pointer (some ⟨aI.heap.size, 0, none⟩))] (aI.alloc (.cells #[.slice none 0 0, .slice none 0 0, .slice none 0 0, .slice none 0 0] 32 (0, 0))) [] (by kernel_rfl) trivial (fun qQ nE hJ kG => ?_)
 clear kF; have cA := gr_alloc hJ; have := cA.size; replace dK := dK.gn cA; replace dT := dT.gn cA; replace dL := dL.gn cA; replace dM := dM.gn cA; replace dN := dN.gn cA; replace dC := dC.gn cA; replace dO := dO.gn cA; replace eE := eE.gn cA; replace dP := dP.grN cA; replace dQ := dQ.grN cA; replace fB := fB.gn cA; replace fC := fC.gn cA; replace dD := dD.gn cA
 have hK : Bx nE (aI.heap.size) [.slice none 0 0, .slice none 0 0, .slice none 0 0, .slice none 0 0] 32 := Bx.new hJ; have := hK.lt; clear cA hJ
 refine At.store kG (t := 32) (b := aI.heap.size) (off := 0) (v := .agg #[.slice none 0 0, .slice none 0 0, .slice aK ((List.replicate (((g.ow.length : Nat) : Int) : Int).toNat (gI ([-1] : List Int) 0)).length) aO, .slice aE ((List.replicate (((g.ow.length : Nat) : Int) : Int).toNat (gI ([-1] : List Int) 0)).length) aM]) (by kernel_rfl) hK (by kernel_rfl) (fun qR eF cB fD kH => ?_)
 clear kG
 replace fD : Bx eF (aI.heap.size) [.slice none 0 0, .slice none 0 0, .slice aK ((List.replicate (((g.ow.length : Nat) : Int) : Int).toNat (gI ([-1] : List Int) 0)).length) aO, .slice aE ((List.replicate (((g.ow.length : Nat) : Int) : Int).toNat (gI ([-1] : List Int) 0)).length) aM] 32 := fD
 have := cB.size; replace dK := dK.gr cB (fun k h => by injection h; omega); replace dT := dT.gb cB (by omega); replace dL := dL.gb cB (by omega); replace dM := dM.gb cB (by omega); replace dN := dN.gb cB (by omega); replace dC := dC.gb cB (by omega); replace dO := dO.gb cB (by omega); replace eE := eE.gb cB (by omega); replace dP := dP.gr cB (fun k hk => hk.1)
 replace dQ := dQ.gr cB (fun k hk => hk.1); replace fB := fB.gb cB (by omega); replace fC := fC.gb cB (by omega); replace dD := dD.gb cB (by omega); clear hK cB
 refine At.done rfl ?_
 refine t_n ?_
 clear eE; clear fB; clear fC
 refine wp_seq ?_
 refine wp_seq ?_
 refine At.start ?_
 refine At.rd kH 1 [[]] [(44, .int .i64 (0))] [] (by kernel_rfl) trivial (fun qS kI => ?_)
 clear kH
 refine At.done rfl ?_
 refine t_n ?_
 refine wp_block ?_
 have kJ := kI.sub (r := [(44, .int .i64 (0)), (13, .pointer (some ⟨aI.heap.size, 0, none⟩)), (12, .pointer (some ⟨aT, 0, none⟩)), (7, .pointer (some ⟨aA.heap.size, 0, none⟩)), (6, .pointer (some ⟨aB.heap.size, 0, none⟩)), (3, .int .i64 (0)), (2, .pointer (some ⟨w1.heap.size, 0, none⟩)), (1, .pointer (some ⟨w.heap.size, 0, none⟩))]) ⟨rfl, rfl, rfl, rfl, rfl, rfl, rfl, rfl, trivial⟩
 clear kI
 refine loop_u0 ?_
 refine loop_u ?_
 refine wp_seq ?_
 refine At.start ?_
 refine At.rd kJ 1 [[.as_ (.bool true)]] [(45, .bool true)] [((.bool (decide ((0 : Int) < 2)) : Value) = .bool true)] (by kernel_rfl) ⟨(by kernel_rfl), trivial⟩ (fun qT hL => ?_)
 clear kJ
 refine At.done rfl ?_
 refine t_n ?_
 refine wp_seq ?_
 refine cond_T hL rfl ?_
 refine wp_skip ?_
 refine t_n ?_
 refine wp_seq ?_
 refine wp_block ?_
 refine wp_seq ?_
 refine At.start ?_
 refine At.rd hL 2 [[], []] [(14, .int .i64 (0)), (46, .int .i64 (0))] [] (by kernel_rfl) trivial (fun qU kK => ?_)
 clear hL
 refine At.done rfl ?_
 refine t_n ?_
 refine wp_seq ?_
 refine At.start ?_
 refine At.rd kK 4 [[], [], [], [.cs ((sa : List Int).map wV)]] [(50, .agg ((sa : List Int).map wV).toArray), (49, .pointer (some ⟨aT, 0, none⟩)), (48, .int .i64 (0)), (47, .int .i64 (0))] [(0 ≤ (0 : Int)), ((0 : Int) < (2 : Nat)), (((sa : List Int).map wV).length = 4), (∀ (j : Nat) (v : Value), ((sa : List Int).map wV)[j]? = some v → eF.cell? ((⟨aT, 0, none⟩ : Addr).add j) = some v)] (by kernel_rfl) ⟨(by decide), (by decide), ((List.length_map _).trans (by assumption)), (Bx.wholeL dD), trivial⟩ (fun qV kL => ?_)
 clear kK
 refine At.call kL 43 #[.agg ((sa : List Int).map wV).toArray] (some 51) (by kernel_rfl) (list_any (s := sa) (by assumption) (dL.wide (Nat.zero_le _) (by omega))) ?_
 rintro e_ hM ⟨aX, bC, rfl, he, eG⟩
 have := ls_len (fromW sa) 256
 refine ⟨_, rfl, _, rfl, fun qW kM => ?_⟩
 clear kL; have cS := gr_ext he; have kN := dP.lt; have kO := dQ.lt; have := cS.size; replace dK := dK.gn cS; replace dT := dT.gn cS; replace dL := dL.gn cS; replace dM := dM.gn cS; replace dN := dN.gn cS; replace dC := dC.gn cS; replace dO := dO.gn cS
 replace dP : OwnR hM (Sx (cO.heap.size) [obk (aX), some (aI.heap.size), some (aF.heap.size), some (aH.heap.size), obk (aE), some (aT)]) aK aO 3 (na : List Int) := dP.grA cS (fun _ _ h => by cases h) (fun k hk hs => ⟨(fun e => by have := eG.ge _ e; omega), hs.1, hs.2.1, hs.2.2.1, hs.2.2.2.1, hs.2.2.2.2.1, hs.2.2.2.2.2⟩)
 replace dQ : OwnR hM (Sx (cP.heap.size) [obk (aX), some (aI.heap.size), some (aF.heap.size), some (aH.heap.size), obk (aK), some (aT)]) aE aM 3 (nb : List Int) := dQ.grA cS (fun _ _ h => by cases h) (fun k hk hs => ⟨(fun e => by have := eG.ge _ e; omega), hs.1, hs.2.1, hs.2.2.1, hs.2.2.2.1, hs.2.2.2.2.1, hs.2.2.2.2.2⟩)
 replace dD := dD.gn cS; replace fD := fD.gn cS
 replace eG : OwnR hM (Sx (eF.heap.size) [obk (aK), obk (aE)]) aX bC 3 ((lsD (fromW sa) 256) : List Int) := eG.imp (fun g _ hs => ⟨(fun e => by have := kN _ e; have := Sx_base hs; omega), (fun e => by have := kO _ e; have := Sx_base hs; omega), hs⟩)
 clear kN kO; clear cS he
 refine At.rd kM 2 [[], []] [(53, .pointer (some ⟨aI.heap.size, 0, none⟩)), (52, .pointer (some ⟨aI.heap.size, 0, none⟩))] [(0 ≤ (0 : Int)), ((0 : Int) < (2 : Nat))] (by kernel_rfl) ⟨(by decide), (by decide), trivial⟩ (fun qX kP => ?_)
 clear kM
 refine At.store kP (t := 22) (b := aI.heap.size) (off := 0) (v := .slice aX ((lsD (fromW sa) 256).length) bC) (by kernel_rfl) fD (by kernel_rfl) (fun qY kQ cT fW kR => ?_)
 clear kP
 replace fW : Bx kQ (aI.heap.size) [.slice aX ((lsD (fromW sa) 256).length) bC, .slice none 0 0, .slice aK ((List.replicate (((g.ow.length : Nat) : Int) : Int).toNat (gI ([-1] : List Int) 0)).length) aO, .slice aE ((List.replicate (((g.ow.length : Nat) : Int) : Int).toNat (gI ([-1] : List Int) 0)).length) aM] 32 := fW
 have := cT.size; replace dK := dK.gr cT (fun k h => by injection h; omega); replace dT := dT.gb cT (by omega); replace dL := dL.gb cT (by omega); replace dM := dM.gb cT (by omega); replace dN := dN.gb cT (by omega); replace dC := dC.gb cT (by omega); replace dO := dO.gb cT (by omega); replace dP := dP.gr cT (fun k hk => hk.2.1); replace dQ := dQ.gr cT (fun k hk => hk.2.1)
 replace dD := dD.gb cT (by omega); replace eG := eG.gr cT (fun k hk e => by have := Sx_base hk; injection e; omega); clear fD cT
 refine At.done rfl ?_
 refine t_n ?_
 refine wp_seq ?_
 refine At.start ?_
 refine At.rd kR 2 [[.ld (.int .i64 (((g.ow.length : Nat) : Int)))], []] [(55, .int .i64 (0)), (54, .int .i64 (((g.ow.length : Nat) : Int)))] [(kQ.cell? ⟨aB.heap.size, 0, none⟩ = some (.int .i64 (((g.ow.length : Nat) : Int))))] (by kernel_rfl) ⟨(dC.cell (i := 0) rfl), trivial⟩ (fun qZ kS => ?_)
 clear kR
 refine At.done rfl ?_
 refine t_n ?_
 refine wp_block ?_
 have kT := kS.sub (r := [(55, .int .i64 (0)), (54, .int .i64 (((g.ow.length : Nat) : Int))), (14, .int .i64 (0)), (44, .int .i64 (0)), (13, .pointer (some ⟨aI.heap.size, 0, none⟩)), (12, .pointer (some ⟨aT, 0, none⟩)), (7, .pointer (some ⟨aA.heap.size, 0, none⟩)), (6, .pointer (some ⟨aB.heap.size, 0, none⟩)), (3, .int .i64 (0)), (2, .pointer (some ⟨w1.heap.size, 0, none⟩)), (1, .pointer (some ⟨w.heap.size, 0, none⟩))]) ⟨rfl, rfl, rfl, rfl, rfl, rfl, rfl, rfl, rfl, rfl, rfl, trivial⟩
 refine loop_g (fun (m_ : Nat) a_ w_ => ∃ (k0 : Int) (x0 : List Int) (aP : Option Addr) (aV : Nat), m_ = ((g.ow.length : Int) - k0).toNat ∧ (Frm 83 a_ [(55, .int .i64 (k0)), (54, .int .i64 (((g.ow.length : Nat) : Int))), (14, .int .i64 (0)), (44, .int .i64 (0)), (13, .pointer (some ⟨aI.heap.size, 0, none⟩)), (12, .pointer (some ⟨aT, 0, none⟩)), (7, .pointer (some ⟨aA.heap.size, 0, none⟩)), (6, .pointer (some ⟨aB.heap.size, 0, none⟩)), (3, .int .i64 (0)), (2, .pointer (some ⟨w1.heap.size, 0, none⟩)), (1, .pointer (some ⟨w.heap.size, 0, none⟩))]) ∧ (Ext w w_) ∧ (RdG w_ 0 w.heap.size Ag0 Ag1 Ag2 cg0 cg1 cg2 g) ∧ (RdT w_ 0 w.heap.size) ∧ (Bx w_ (w.heap.size) [.slice Ag0 g.ow.length cg0, .slice Ag1 g.pr.length cg1, .slice Ag2 g.mv.length cg2] 25) ∧ (Bx w_ (w1.heap.size) [.slice none 0 0, .slice none 0 0, .slice none 0 0, .slice none 0 0] 32) ∧ (Bx w_ (aB.heap.size) [.int .i64 (((g.ow.length : Nat) : Int))] 3) ∧ (Bx w_ (aA.heap.size) [.int .i64 (da)] 3) ∧ (OwnR w_ (Sx (cO.heap.size) [obk (aX), some (aI.heap.size), obk (aE), some (aT)]) aP aV 3 (x0 : List Int)) ∧ (OwnR w_ (Sx (cP.heap.size) [obk (aX), some (aI.heap.size), obk (aP), some (aT)]) aE aM 3 (nb : List Int)) ∧ (Bx w_ (aT) ((sa ++ sb : List Int).map wV) 67) ∧ (Bx w_ (aI.heap.size) [.slice aX ((lsD (fromW sa) 256).length) bC, .slice none 0 0, .slice aP x0.length aV, .slice aE ((List.replicate (((g.ow.length : Nat) : Int) : Int).toNat (gI ([-1] : List Int) 0)).length) aM] 32) ∧ (OwnR w_ (Sx (eF.heap.size) [obk (aP), obk (aE)]) aX bC 3 ((lsD (fromW sa) 256) : List Int)) ∧ (0 ≤ k0) ∧ (k0 ≤ (g.ow.length : Int)) ∧ (CutK g sa 0 na x0 k0) ∧ (x0.length = g.ow.length) ∧ (cO.heap.size ≤ w_.heap.size) ∧ (cP.heap.size ≤ w_.heap.size) ∧ (eF.heap.size ≤ w_.heap.size)) _ ⟨0, (na : List Int), aK, aO, rfl, kT, dK, dT, dL, dM, dN, dC, dO, (dP.imp (fun g _ hs => ⟨hs.1, hs.2.1, hs.2.2.2.2.1, hs.2.2.2.2.2.1, hs.2.2.2.2.2.2⟩)), (dQ.imp (fun g _ hs => ⟨hs.1, hs.2.1, hs.2.2.2.2.1, hs.2.2.2.2.2.1, hs.2.2.2.2.2.2⟩)), dD, (fW.as (by first | rfl | (simp only [List.cons.injEq, Value.slice.injEq, true_and, and_true]; omega))), eG, (by omega), (by omega), cutK_0, (by omega), (by omega), (by omega), (by omega)⟩ ?_
 clear kT kS; clear dT; clear dL; clear dM; clear dN; clear dC; clear dO; clear dP; clear dQ; clear dD; clear fW; clear eG; clear dK
 intro m_ rA fL ⟨k0, x0, aP, aV, hm659, kU, bK, bL, bM, bG, bN, bH, bO, aW, bP, bF, bE, bQ, i672, i673, hck0, i674, i675, i676, i677⟩
 have := bK.size; have := bG.lt; have := bN.lt; have := bH.lt; have := bO.lt; have := bF.lt; have := bE.lt
 refine wp_seq ?_
 refine At.start ?_
 refine At.rd kU 1 [[]] [(56, .bool (decide ((k0 : Int) < ((g.ow.length : Nat) : Int))))] [] (by kernel_rfl) trivial (fun rB fM => ?_)
 clear kU
 refine At.done rfl ?_
 refine t_n ?_
 refine wp_seq ?_
 refine cond_S fM (t := decide ((k0 : Int) < ((g.ow.length : Nat) : Int))) rfl (fun hN => ?_) (fun hN => ?_)
 ·have rC := of_decide_eq_true hN
  refine wp_skip ?_
  refine t_n ?_
  refine wp_seq ?_
  refine wp_block ?_
  refine wp_seq ?_
  refine At.start ?_
  refine At.rd fM 2 [[], []] [(15, .int .i64 (k0)), (57, .int .i64 (k0))] [] (by kernel_rfl) trivial (fun rD kV => ?_)
  clear fM
  refine At.done rfl ?_
  refine t_n ?_
  refine wp_seq ?_
  refine At.start ?_
  refine At.rd kV 4 [[], [], [.cs ((sa : List Int).map wV)], []] [(61, .int .i64 (k0)), (60, .agg ((sa : List Int).map wV).toArray), (59, .pointer (some ⟨aT, 0, none⟩)), (58, .int .i64 (0))] [(0 ≤ (0 : Int)), ((0 : Int) < (2 : Nat)), (((sa : List Int).map wV).length = 4), (∀ (j : Nat) (v : Value), ((sa : List Int).map wV)[j]? = some v → fL.cell? ((⟨aT, 0, none⟩ : Addr).add j) = some v)] (by kernel_rfl) ⟨(by decide), (by decide), ((List.length_map _).trans (by assumption)), (Bx.wholeL bF), trivial⟩ (fun rE kW => ?_)
  clear kV
  refine At.call kW 23 #[.agg ((sa : List Int).map wV).toArray, .int .i64 (k0)] (some 62) (by kernel_rfl) (has_any (s := sa) (n := k0) (by assumption)) ?_
  rintro e_ fX ⟨rfl, he⟩
  refine ⟨_, rfl, _, rfl, fun rF fY => ?_⟩
  clear kW; have cE := gr_ext he; have := cE.size; replace bK := bK.gn cE; replace bL := bL.gn cE; replace bM := bM.gn cE; replace bG := bG.gn cE; replace bN := bN.gn cE; replace bH := bH.gn cE; replace bO := bO.gn cE; replace aW := aW.gn cE; replace bP := bP.gn cE; replace bF := bF.gn cE; replace bE := bE.gn cE; replace bQ := bQ.gn cE; clear cE he
  rcases Bool.eq_false_or_eq_true (!(hasW sa k0)) with dX | dX
  ·have rG : (hasW sa k0) = false := by first | exact Eq.mp (Bool.not_eq_true' _) dX | exact Eq.mp (Bool.not_eq_false' _) dX | simpa using dX
   refine At.rd fY 10 [[], [.as_ (.bool true)], [], [], [], [], [], [], [], []] [(72, .bool true), (71, undef), (70, undef), (69, undef), (68, undef), (67, undef), (66, undef), (65, undef), (64, .bool true), (63, .bool (!(hasW sa k0)))] [((.bool (!(hasW sa k0)) : Value) = .bool true)] (by kernel_rfl) ⟨(congrArg Value.bool dX), trivial⟩ (fun rH hO => ?_)
   clear fY
   refine At.done rfl ?_
   refine t_n ?_
   refine cond_T hO rfl ?_
   refine At.start ?_
   obtain ⟨fZ, kX, rI, rJ, rK⟩ := aW.get (k0) (by omega) (by omega) (sz := 1) rfl
   refine At.rd hO 6 [[], [], [], [.ld (.slice aP x0.length aV)], [], [.ad fZ]] [(78, .pointer (some (fZ.add ((k0 : Int).toNat * 1)))), (77, .int .i64 (k0)), (76, .slice aP x0.length aV), (75, .pointer (some ⟨aI.heap.size, 2, none⟩)), (74, .pointer (some ⟨aI.heap.size, 2, none⟩)), (73, .int .i64 (0))] [(0 ≤ (0 : Int)), ((0 : Int) < (2 : Nat)), (fX.cell? ⟨aI.heap.size, 2, none⟩ = some (.slice aP x0.length aV)), (aP = some fZ), (0 ≤ (k0 : Int)), ((k0 : Int) < (x0.length : Nat))] (by kernel_rfl) ⟨(by decide), (by decide), (bE.cell (i := 2) rfl), kX, (by omega), (by omega), trivial⟩ (fun rL kY => ?_)
   clear hO
   refine At.act kY (storeR (α := Int) (t := 3) (i := k0) (ad := fZ) (v := .int .i64 (-1)) (-1) (by kernel_rfl) rfl rfl (by kernel_rfl) kX aW (by omega) (by omega)) ?_
   rintro d_ v_ nF ⟨rfl, cU, nG⟩
   refine ⟨_, rfl, fun rM kZ => ?_⟩
   clear kY; have rN : ((x0).set (k0 : Int).toNat (-1)).length = (x0).length := List.length_set; have := cU.size; replace bK := bK.gr cU (fun k hk => by have := aW.ge k hk; omega); replace bL := bL.gr cU (fun k hk => by have := aW.ge k hk; omega); replace bM := bM.gr cU (fun k hk => by have := aW.ge k hk; omega); replace bG := bG.gr cU (fun e => by have := aW.ge _ e; omega)
   replace bN := bN.gr cU (fun e => by have := aW.ge _ e; omega); replace bH := bH.gr cU (fun e => by have := aW.ge _ e; omega); replace bO := bO.gr cU (fun e => by have := aW.ge _ e; omega); replace bP := bP.gr cU (fun k hk => hk.2.2.1); replace bF := bF.gr cU (aW.neb (fun g hs => hs.2.2.2.1)); replace bE := bE.gr cU (aW.neb (fun g hs => hs.2.1)); replace bQ := bQ.gr cU (fun k hk => hk.1)
   clear aW cU
   have lA := kZ.as 76 (.slice aP x0.length aV) (.slice aP (((x0).set (k0 : Int).toNat (-1) : List Int).length) aV) rfl (slice_len (by first | rfl | omega | (simp; done) | (simp; omega)))
   clear kZ
   replace bE : Bx nF (aI.heap.size) [.slice aX ((lsD (fromW sa) 256).length) bC, .slice none 0 0, .slice aP (((x0).set (k0 : Int).toNat (-1)).length) aV, .slice aE ((List.replicate (((g.ow.length : Nat) : Int) : Int).toNat (gI ([-1] : List Int) 0)).length) aM] 32 := bE.as (by first | rfl | (simp only [List.length_set]; done))
   refine At.done rfl ?_
   refine b_n ?_
   refine t_n ?_
   refine At.start ?_
   refine At.rd lA 2 [[.as_ (.int .i64 (k0 + 1))], []] [(55, .int .i64 (k0 + 1)), (79, .int .i64 (k0 + 1))] [((.int .i64 (IntKind.i64.wrap (k0 + 1)) : Value) = .int .i64 (k0 + 1))] (by kernel_rfl) ⟨(w64 (by omega) (by omega)), trivial⟩ (fun rO nH => ?_)
   clear lA
   refine At.done rfl ?_
   refine t_n ?_
   have nI := nH.sub (r := [(55, .int .i64 (k0 + 1)), (54, .int .i64 (((g.ow.length : Nat) : Int))), (14, .int .i64 (0)), (44, .int .i64 (0)), (13, .pointer (some ⟨aI.heap.size, 0, none⟩)), (12, .pointer (some ⟨aT, 0, none⟩)), (7, .pointer (some ⟨aA.heap.size, 0, none⟩)), (6, .pointer (some ⟨aB.heap.size, 0, none⟩)), (3, .int .i64 (0)), (2, .pointer (some ⟨w1.heap.size, 0, none⟩)), (1, .pointer (some ⟨w.heap.size, 0, none⟩))]) ⟨rfl, rfl, rfl, rfl, rfl, rfl, rfl, rfl, rfl, rfl, rfl, trivial⟩
   exact ⟨_, (by omega), (k0 + 1), ((x0).set (k0 : Int).toNat (-1) : List Int), aP, aV, rfl, nI, bK, bL, bM, bG, bN, bH, bO, nG, bP, bF, bE, bQ, (by omega), (by omega), (cutK_yes hck0 (by omega) (by omega) (by first | exact (fun h_ => has_nP (by assumption) h_.1) | exact (fun h_ => absurd h_.2 (by omega)))), (by rw [List.length_set]; omega), (by omega), (by omega), (by omega)⟩
  have rP : (hasW sa k0) = true := by first | exact Eq.mp (Bool.not_eq_true' _) dX | exact Eq.mp (Bool.not_eq_false' _) dX | simpa using dX
  obtain ⟨gA, nJ, _, _, nK⟩ := RdI.get bL.ow (k0) (by omega) (by omega)
  refine At.rd fY 10 [[], [.as_ (.bool false)], [], [.ld (.slice Ag0 g.ow.length cg0)], [], [.ad gA], [.ld (.int .i64 (gI g.ow (k0)))], [], [], []] [(72, .bool ((gI g.ow (k0) : Int) != 0)), (71, .bool ((gI g.ow (k0) : Int) != 0)), (70, .int .i64 (0)), (69, .int .i64 (gI g.ow (k0))), (68, .pointer (some (gA.add ((k0 : Int).toNat * 1)))), (67, .int .i64 (k0)), (66, .slice Ag0 g.ow.length cg0), (65, .pointer (some ⟨w.heap.size, 0, none⟩)), (64, .bool false), (63, .bool (!(hasW sa k0)))] [((.bool (!(hasW sa k0)) : Value) = .bool false), (fX.cell? ⟨w.heap.size, 0, none⟩ = some (.slice Ag0 g.ow.length cg0)), (Ag0 = some gA), (0 ≤ (k0 : Int)), ((k0 : Int) < (g.ow.length : Nat)), (fX.cell? (gA.add ((k0 : Int).toNat * 1)) = some (.int .i64 (gI g.ow (k0))))] (by kernel_rfl) ⟨(congrArg Value.bool dX), (bG.cell (i := 0) rfl), nJ, (by omega), (by omega), nK, trivial⟩ (fun rQ fN => ?_)
  clear fY
  refine At.done rfl ?_
  refine t_n ?_
  refine cond_S fN (t := (gI g.ow (k0) : Int) != 0) rfl (fun hP => ?_) (fun hP => ?_)
  ·have rR := bne_iff_ne.1 hP
   refine At.start ?_
   obtain ⟨gB, lB, rS, rU, rV⟩ := aW.get (k0) (by omega) (by omega) (sz := 1) rfl
   refine At.rd fN 6 [[], [], [], [.ld (.slice aP x0.length aV)], [], [.ad gB]] [(78, .pointer (some (gB.add ((k0 : Int).toNat * 1)))), (77, .int .i64 (k0)), (76, .slice aP x0.length aV), (75, .pointer (some ⟨aI.heap.size, 2, none⟩)), (74, .pointer (some ⟨aI.heap.size, 2, none⟩)), (73, .int .i64 (0))] [(0 ≤ (0 : Int)), ((0 : Int) < (2 : Nat)), (fX.cell? ⟨aI.heap.size, 2, none⟩ = some (.slice aP x0.length aV)), (aP = some gB), (0 ≤ (k0 : Int)), ((k0 : Int) < (x0.length : Nat))] (by kernel_rfl) ⟨(by decide), (by decide), (bE.cell (i := 2) rfl), lB, (by omega), (by omega), trivial⟩ (fun rW lC => ?_)
   clear fN
   refine At.act lC (storeR (α := Int) (t := 3) (i := k0) (ad := gB) (v := .int .i64 (-1)) (-1) (by kernel_rfl) rfl rfl (by kernel_rfl) lB aW (by omega) (by omega)) ?_
   rintro d_ v_ nL ⟨rfl, cV, nM⟩
   refine ⟨_, rfl, fun rX lD => ?_⟩
   clear lC; have rY : ((x0).set (k0 : Int).toNat (-1)).length = (x0).length := List.length_set; have := cV.size; replace bK := bK.gr cV (fun k hk => by have := aW.ge k hk; omega); replace bL := bL.gr cV (fun k hk => by have := aW.ge k hk; omega); replace bM := bM.gr cV (fun k hk => by have := aW.ge k hk; omega); replace bG := bG.gr cV (fun e => by have := aW.ge _ e; omega)
   replace bN := bN.gr cV (fun e => by have := aW.ge _ e; omega); replace bH := bH.gr cV (fun e => by have := aW.ge _ e; omega); replace bO := bO.gr cV (fun e => by have := aW.ge _ e; omega); replace bP := bP.gr cV (fun k hk => hk.2.2.1); replace bF := bF.gr cV (aW.neb (fun g hs => hs.2.2.2.1)); replace bE := bE.gr cV (aW.neb (fun g hs => hs.2.1)); replace bQ := bQ.gr cV (fun k hk => hk.1)
   clear aW cV
   have lE := lD.as 76 (.slice aP x0.length aV) (.slice aP (((x0).set (k0 : Int).toNat (-1) : List Int).length) aV) rfl (slice_len (by first | rfl | omega | (simp; done) | (simp; omega)))
   clear lD
   replace bE : Bx nL (aI.heap.size) [.slice aX ((lsD (fromW sa) 256).length) bC, .slice none 0 0, .slice aP (((x0).set (k0 : Int).toNat (-1)).length) aV, .slice aE ((List.replicate (((g.ow.length : Nat) : Int) : Int).toNat (gI ([-1] : List Int) 0)).length) aM] 32 := bE.as (by first | rfl | (simp only [List.length_set]; done))
   refine At.done rfl ?_
   refine b_n ?_
   refine t_n ?_
   refine At.start ?_
   refine At.rd lE 2 [[.as_ (.int .i64 (k0 + 1))], []] [(55, .int .i64 (k0 + 1)), (79, .int .i64 (k0 + 1))] [((.int .i64 (IntKind.i64.wrap (k0 + 1)) : Value) = .int .i64 (k0 + 1))] (by kernel_rfl) ⟨(w64 (by omega) (by omega)), trivial⟩ (fun rZ nN => ?_)
   clear lE
   refine At.done rfl ?_
   refine t_n ?_
   have nO := nN.sub (r := [(55, .int .i64 (k0 + 1)), (54, .int .i64 (((g.ow.length : Nat) : Int))), (14, .int .i64 (0)), (44, .int .i64 (0)), (13, .pointer (some ⟨aI.heap.size, 0, none⟩)), (12, .pointer (some ⟨aT, 0, none⟩)), (7, .pointer (some ⟨aA.heap.size, 0, none⟩)), (6, .pointer (some ⟨aB.heap.size, 0, none⟩)), (3, .int .i64 (0)), (2, .pointer (some ⟨w1.heap.size, 0, none⟩)), (1, .pointer (some ⟨w.heap.size, 0, none⟩))]) ⟨rfl, rfl, rfl, rfl, rfl, rfl, rfl, rfl, rfl, rfl, rfl, trivial⟩
   exact ⟨_, (by omega), (k0 + 1), ((x0).set (k0 : Int).toNat (-1) : List Int), aP, aV, rfl, nO, bK, bL, bM, bG, bN, bH, bO, nM, bP, bF, bE, bQ, (by omega), (by omega), (cutK_yes hck0 (by omega) (by omega) (by first | exact (fun h_ => has_nP (by assumption) h_.1) | exact (fun h_ => absurd h_.2 (by omega)))), (by rw [List.length_set]; omega), (by omega), (by omega), (by omega)⟩
  have sA := bne_eq_false_iff_eq.1 hP
  refine wp_skip ?_
  refine b_n ?_
  refine t_n ?_
  refine At.start ?_
  refine At.rd fN 2 [[.as_ (.int .i64 (k0 + 1))], []] [(55, .int .i64 (k0 + 1)), (79, .int .i64 (k0 + 1))] [((.int .i64 (IntKind.i64.wrap (k0 + 1)) : Value) = .int .i64 (k0 + 1))] (by kernel_rfl) ⟨(w64 (by omega) (by omega)), trivial⟩ (fun sB nP => ?_)
  clear fN
  refine At.done rfl ?_
  refine t_n ?_
  have nQ := nP.sub (r := [(55, .int .i64 (k0 + 1)), (54, .int .i64 (((g.ow.length : Nat) : Int))), (14, .int .i64 (0)), (44, .int .i64 (0)), (13, .pointer (some ⟨aI.heap.size, 0, none⟩)), (12, .pointer (some ⟨aT, 0, none⟩)), (7, .pointer (some ⟨aA.heap.size, 0, none⟩)), (6, .pointer (some ⟨aB.heap.size, 0, none⟩)), (3, .int .i64 (0)), (2, .pointer (some ⟨w1.heap.size, 0, none⟩)), (1, .pointer (some ⟨w.heap.size, 0, none⟩))]) ⟨rfl, rfl, rfl, rfl, rfl, rfl, rfl, rfl, rfl, rfl, rfl, trivial⟩
  exact ⟨_, (by omega), (k0 + 1), (x0 : List Int), aP, aV, rfl, nQ, bK, bL, bM, bG, bN, bH, bO, aW, bP, bF, bE, bQ, (by omega), (by omega), (cutK_no hck0 ⟨inP_has.1 (by assumption), by omega⟩), (by omega), (by omega), (by omega), (by omega)⟩
 have sC := of_decide_eq_false hN
 refine wp_exit ?_
 refine t_e ?_
 refine t_e ?_
 refine b_e ?_
 refine b_n ?_
 refine t_n ?_
 refine At.start ?_
 refine At.rd fM 2 [[.as_ (.int .i64 (1))], []] [(44, .int .i64 (1)), (80, .int .i64 (1))] [((.int .i64 (IntKind.i64.wrap (0 + 1)) : Value) = .int .i64 (1))] (by kernel_rfl) ⟨(by kernel_rfl), trivial⟩ (fun sD lF => ?_)
 clear fM
 refine At.done rfl ?_
 refine t_n ?_
 have lG := lF.sub (r := [(44, .int .i64 (1)), (13, .pointer (some ⟨aI.heap.size, 0, none⟩)), (12, .pointer (some ⟨aT, 0, none⟩)), (7, .pointer (some ⟨aA.heap.size, 0, none⟩)), (6, .pointer (some ⟨aB.heap.size, 0, none⟩)), (3, .int .i64 (0)), (2, .pointer (some ⟨w1.heap.size, 0, none⟩)), (1, .pointer (some ⟨w.heap.size, 0, none⟩))]) ⟨rfl, rfl, rfl, rfl, rfl, rfl, rfl, rfl, trivial⟩
 clear lF
 refine loop_u ?_
 refine wp_seq ?_
 refine At.start ?_
 refine At.rd lG 1 [[.as_ (.bool true)]] [(45, .bool true)] [((.bool (decide ((1 : Int) < 2)) : Value) = .bool true)] (by kernel_rfl) ⟨(by kernel_rfl), trivial⟩ (fun sE hQ => ?_)
 clear lG
 refine At.done rfl ?_
 refine t_n ?_
 refine wp_seq ?_
 refine cond_T hQ rfl ?_
 refine wp_skip ?_
 refine t_n ?_
 refine wp_seq ?_
 refine wp_block ?_
 refine wp_seq ?_
 refine At.start ?_
 refine At.rd hQ 2 [[], []] [(14, .int .i64 (1)), (46, .int .i64 (1))] [] (by kernel_rfl) trivial (fun sF lH => ?_)
 clear hQ
 refine At.done rfl ?_
 refine t_n ?_
 refine wp_seq ?_
 refine At.start ?_
 refine At.rd lH 4 [[], [], [], [.cs ((sb : List Int).map wV)]] [(50, .agg ((sb : List Int).map wV).toArray), (49, .pointer (some ⟨aT, 4, none⟩)), (48, .int .i64 (1)), (47, .int .i64 (1))] [(0 ≤ (1 : Int)), ((1 : Int) < (2 : Nat)), (((sb : List Int).map wV).length = 4), (∀ (j : Nat) (v : Value), ((sb : List Int).map wV)[j]? = some v → fL.cell? ((⟨aT, 4, none⟩ : Addr).add j) = some v)] (by kernel_rfl) ⟨(by decide), (by decide), ((List.length_map _).trans (by assumption)), (Bx.wholeR (by assumption) bF), trivial⟩ (fun sG lI => ?_)
 clear lH
 refine At.call lI 43 #[.agg ((sb : List Int).map wV).toArray] (some 51) (by kernel_rfl) (list_any (s := sb) (by assumption) (bM.wide (Nat.zero_le _) (by omega))) ?_
 rintro e_ gC ⟨bD, bI, rfl, he, dY⟩
 have := ls_len (fromW sb) 256
 refine ⟨_, rfl, _, rfl, fun sH lJ => ?_⟩
 clear lI; have cF := gr_ext he; have lK := aW.lt; have lL := bP.lt; have lM := bQ.lt; have := cF.size; replace bK := bK.gn cF; replace bL := bL.gn cF; replace bM := bM.gn cF; replace bG := bG.gn cF; replace bN := bN.gn cF; replace bH := bH.gn cF; replace bO := bO.gn cF
 replace aW : OwnR gC (Sx (cO.heap.size) [obk (bD), obk (aX), some (aI.heap.size), obk (aE), some (aT)]) aP aV 3 (x0 : List Int) := aW.grA cF (fun _ _ h => by cases h) (fun k hk hs => ⟨(fun e => by have := dY.ge _ e; omega), hs.1, hs.2.1, hs.2.2.1, hs.2.2.2.1, hs.2.2.2.2⟩)
 replace bP : OwnR gC (Sx (cP.heap.size) [obk (bD), obk (aX), some (aI.heap.size), obk (aP), some (aT)]) aE aM 3 (nb : List Int) := bP.grA cF (fun _ _ h => by cases h) (fun k hk hs => ⟨(fun e => by have := dY.ge _ e; omega), hs.1, hs.2.1, hs.2.2.1, hs.2.2.2.1, hs.2.2.2.2⟩)
 replace bF := bF.gn cF; replace bE := bE.gn cF
 replace bQ : OwnR gC (Sx (eF.heap.size) [obk (bD), obk (aP), obk (aE)]) aX bC 3 ((lsD (fromW sa) 256) : List Int) := bQ.grA cF (fun _ _ h => by cases h) (fun k hk hs => ⟨(fun e => by have := dY.ge _ e; omega), hs.1, hs.2.1, hs.2.2⟩)
 replace dY : OwnR gC (Sx (fL.heap.size) [obk (aP), obk (aE), obk (aX)]) bD bI 3 ((lsD (fromW sb) 256) : List Int) := dY.imp (fun g _ hs => ⟨(fun e => by have := lK _ e; have := Sx_base hs; omega), (fun e => by have := lL _ e; have := Sx_base hs; omega), (fun e => by have := lM _ e; have := Sx_base hs; omega), hs⟩)
 clear lK lL lM; clear cF he
 refine At.rd lJ 2 [[], []] [(53, .pointer (some ⟨aI.heap.size, 1, none⟩)), (52, .pointer (some ⟨aI.heap.size, 0, none⟩))] [(0 ≤ (1 : Int)), ((1 : Int) < (2 : Nat))] (by kernel_rfl) ⟨(by decide), (by decide), trivial⟩ (fun sI lN => ?_)
 clear lJ
 refine At.store lN (t := 22) (b := aI.heap.size) (off := 1) (v := .slice bD ((lsD (fromW sb) 256).length) bI) (by kernel_rfl) bE (by kernel_rfl) (fun sJ lO cG gD lP => ?_)
 clear lN
 replace gD : Bx lO (aI.heap.size) [.slice aX ((lsD (fromW sa) 256).length) bC, .slice bD ((lsD (fromW sb) 256).length) bI, .slice aP x0.length aV, .slice aE ((List.replicate (((g.ow.length : Nat) : Int) : Int).toNat (gI ([-1] : List Int) 0)).length) aM] 32 := gD
 have := cG.size; replace bK := bK.gr cG (fun k h => by injection h; omega); replace bL := bL.gb cG (by omega); replace bM := bM.gb cG (by omega); replace bG := bG.gb cG (by omega); replace bN := bN.gb cG (by omega); replace bH := bH.gb cG (by omega); replace bO := bO.gb cG (by omega); replace aW := aW.gr cG (fun k hk => hk.2.2.1); replace bP := bP.gr cG (fun k hk => hk.2.2.1)
 replace bF := bF.gb cG (by omega); replace bQ := bQ.gr cG (fun k hk e => by have := Sx_base hk; injection e; omega); replace dY := dY.gr cG (fun k hk e => by have := Sx_base hk; injection e; omega); clear bE cG
 refine At.done rfl ?_
 refine t_n ?_
 refine wp_seq ?_
 refine At.start ?_
 refine At.rd lP 2 [[.ld (.int .i64 (((g.ow.length : Nat) : Int)))], []] [(55, .int .i64 (0)), (54, .int .i64 (((g.ow.length : Nat) : Int)))] [(lO.cell? ⟨aB.heap.size, 0, none⟩ = some (.int .i64 (((g.ow.length : Nat) : Int))))] (by kernel_rfl) ⟨(bH.cell (i := 0) rfl), trivial⟩ (fun sK lQ => ?_)
 clear lP
 refine At.done rfl ?_
 refine t_n ?_
 refine wp_block ?_
 have lR := lQ.sub (r := [(55, .int .i64 (0)), (54, .int .i64 (((g.ow.length : Nat) : Int))), (14, .int .i64 (1)), (44, .int .i64 (1)), (13, .pointer (some ⟨aI.heap.size, 0, none⟩)), (12, .pointer (some ⟨aT, 0, none⟩)), (7, .pointer (some ⟨aA.heap.size, 0, none⟩)), (6, .pointer (some ⟨aB.heap.size, 0, none⟩)), (3, .int .i64 (0)), (2, .pointer (some ⟨w1.heap.size, 0, none⟩)), (1, .pointer (some ⟨w.heap.size, 0, none⟩))]) ⟨rfl, rfl, rfl, rfl, rfl, rfl, rfl, rfl, rfl, rfl, rfl, trivial⟩
 refine loop_g (fun (m_ : Nat) a_ w_ => ∃ (k1 : Int) (x1 : List Int) (aY : Option Addr) (bA : Nat), m_ = ((g.ow.length : Int) - k1).toNat ∧ (Frm 83 a_ [(55, .int .i64 (k1)), (54, .int .i64 (((g.ow.length : Nat) : Int))), (14, .int .i64 (1)), (44, .int .i64 (1)), (13, .pointer (some ⟨aI.heap.size, 0, none⟩)), (12, .pointer (some ⟨aT, 0, none⟩)), (7, .pointer (some ⟨aA.heap.size, 0, none⟩)), (6, .pointer (some ⟨aB.heap.size, 0, none⟩)), (3, .int .i64 (0)), (2, .pointer (some ⟨w1.heap.size, 0, none⟩)), (1, .pointer (some ⟨w.heap.size, 0, none⟩))]) ∧ (Ext w w_) ∧ (RdG w_ 0 w.heap.size Ag0 Ag1 Ag2 cg0 cg1 cg2 g) ∧ (RdT w_ 0 w.heap.size) ∧ (Bx w_ (w.heap.size) [.slice Ag0 g.ow.length cg0, .slice Ag1 g.pr.length cg1, .slice Ag2 g.mv.length cg2] 25) ∧ (Bx w_ (w1.heap.size) [.slice none 0 0, .slice none 0 0, .slice none 0 0, .slice none 0 0] 32) ∧ (Bx w_ (aB.heap.size) [.int .i64 (((g.ow.length : Nat) : Int))] 3) ∧ (Bx w_ (aA.heap.size) [.int .i64 (da)] 3) ∧ (OwnR w_ (Sx (cO.heap.size) [obk (bD), obk (aX), some (aI.heap.size), obk (aY), some (aT)]) aP aV 3 (x0 : List Int)) ∧ (OwnR w_ (Sx (cP.heap.size) [obk (bD), obk (aX), some (aI.heap.size), obk (aP), some (aT)]) aY bA 3 (x1 : List Int)) ∧ (Bx w_ (aT) ((sa ++ sb : List Int).map wV) 67) ∧ (Bx w_ (aI.heap.size) [.slice aX ((lsD (fromW sa) 256).length) bC, .slice bD ((lsD (fromW sb) 256).length) bI, .slice aP x0.length aV, .slice aY x1.length bA] 32) ∧ (OwnR w_ (Sx (eF.heap.size) [obk (bD), obk (aP), obk (aY)]) aX bC 3 ((lsD (fromW sa) 256) : List Int)) ∧ (OwnR w_ (Sx (fL.heap.size) [obk (aP), obk (aY), obk (aX)]) bD bI 3 ((lsD (fromW sb) 256) : List Int)) ∧ (0 ≤ k1) ∧ (k1 ≤ (g.ow.length : Int)) ∧ (CutK g sb 1 nb x1 k1) ∧ (x1.length = g.ow.length) ∧ (cO.heap.size ≤ w_.heap.size) ∧ (cP.heap.size ≤ w_.heap.size) ∧ (eF.heap.size ≤ w_.heap.size) ∧ (fL.heap.size ≤ w_.heap.size)) _ ⟨0, (nb : List Int), aE, aM, rfl, lR, bK, bL, bM, bG, bN, bH, bO, aW, bP, bF, (gD.as (by first | rfl | (simp only [List.cons.injEq, Value.slice.injEq, true_and, and_true]; omega))), bQ, dY, (by omega), (by omega), cutK_0, (by omega), (by omega), (by omega), (by omega), (by omega)⟩ ?_
 clear lR lQ; clear bL; clear bM; clear bG; clear bN; clear bH; clear bO; clear aW; clear bP; clear bF; clear gD; clear bQ; clear dY; clear bK
 intro m_ sL lS ⟨k1, x1, aY, bA, hm837, lT, cC, cH, cW, dE, cI, dR, bR, cJ, aZ, dF, bB, cK, cL, i851, i852, hck1, i853, i854, i855, i856, i857⟩
 have := cC.size; have := dE.lt; have := cI.lt; have := dR.lt; have := bR.lt; have := dF.lt; have := bB.lt
 refine wp_seq ?_
 refine At.start ?_
 refine At.rd lT 1 [[]] [(56, .bool (decide ((k1 : Int) < ((g.ow.length : Nat) : Int))))] [] (by kernel_rfl) trivial (fun sM fO => ?_)
 clear lT
 refine At.done rfl ?_
 refine t_n ?_
 refine wp_seq ?_
 refine cond_S fO (t := decide ((k1 : Int) < ((g.ow.length : Nat) : Int))) rfl (fun hS => ?_) (fun hS => ?_)
 ·have sN := of_decide_eq_true hS
  refine wp_skip ?_
  refine t_n ?_
  refine wp_seq ?_
  refine wp_block ?_
  refine wp_seq ?_
  refine At.start ?_
  refine At.rd fO 2 [[], []] [(15, .int .i64 (k1)), (57, .int .i64 (k1))] [] (by kernel_rfl) trivial (fun sO lU => ?_)
  clear fO
  refine At.done rfl ?_
  refine t_n ?_
  refine wp_seq ?_
  refine At.start ?_
  refine At.rd lU 4 [[], [], [.cs ((sb : List Int).map wV)], []] [(61, .int .i64 (k1)), (60, .agg ((sb : List Int).map wV).toArray), (59, .pointer (some ⟨aT, 4, none⟩)), (58, .int .i64 (1))] [(0 ≤ (1 : Int)), ((1 : Int) < (2 : Nat)), (((sb : List Int).map wV).length = 4), (∀ (j : Nat) (v : Value), ((sb : List Int).map wV)[j]? = some v → lS.cell? ((⟨aT, 4, none⟩ : Addr).add j) = some v)] (by kernel_rfl) ⟨(by decide), (by decide), ((List.length_map _).trans (by assumption)), (Bx.wholeR (by assumption) dF), trivial⟩ (fun sP lV => ?_)
  clear lU
  refine At.call lV 23 #[.agg ((sb : List Int).map wV).toArray, .int .i64 (k1)] (some 62) (by kernel_rfl) (has_any (s := sb) (n := k1) (by assumption)) ?_
  rintro e_ gE ⟨rfl, he⟩
  refine ⟨_, rfl, _, rfl, fun sQ gF => ?_⟩
  clear lV; have cD := gr_ext he; have := cD.size; replace cC := cC.gn cD; replace cH := cH.gn cD; replace cW := cW.gn cD; replace dE := dE.gn cD; replace cI := cI.gn cD; replace dR := dR.gn cD; replace bR := bR.gn cD; replace cJ := cJ.gn cD; replace aZ := aZ.gn cD; replace dF := dF.gn cD; replace bB := bB.gn cD; replace cK := cK.gn cD; replace cL := cL.gn cD; clear cD he
  rcases Bool.eq_false_or_eq_true (!(hasW sb k1)) with dZ | dZ
  ·have sR : (hasW sb k1) = false := by first | exact Eq.mp (Bool.not_eq_true' _) dZ | exact Eq.mp (Bool.not_eq_false' _) dZ | simpa using dZ
   refine At.rd gF 10 [[], [.as_ (.bool true)], [], [], [], [], [], [], [], []] [(72, .bool true), (71, undef), (70, undef), (69, undef), (68, undef), (67, undef), (66, undef), (65, undef), (64, .bool true), (63, .bool (!(hasW sb k1)))] [((.bool (!(hasW sb k1)) : Value) = .bool true)] (by kernel_rfl) ⟨(congrArg Value.bool dZ), trivial⟩ (fun sS hT => ?_)
   clear gF
   refine At.done rfl ?_
   refine t_n ?_
   refine cond_T hT rfl ?_
   refine At.start ?_
   obtain ⟨gG, lW, sT, sU, sV⟩ := aZ.get (k1) (by omega) (by omega) (sz := 1) rfl
   refine At.rd hT 6 [[], [], [], [.ld (.slice aY x1.length bA)], [], [.ad gG]] [(78, .pointer (some (gG.add ((k1 : Int).toNat * 1)))), (77, .int .i64 (k1)), (76, .slice aY x1.length bA), (75, .pointer (some ⟨aI.heap.size, 3, none⟩)), (74, .pointer (some ⟨aI.heap.size, 2, none⟩)), (73, .int .i64 (1))] [(0 ≤ (1 : Int)), ((1 : Int) < (2 : Nat)), (gE.cell? ⟨aI.heap.size, 3, none⟩ = some (.slice aY x1.length bA)), (aY = some gG), (0 ≤ (k1 : Int)), ((k1 : Int) < (x1.length : Nat))] (by kernel_rfl) ⟨(by decide), (by decide), (bB.cell (i := 3) rfl), lW, (by omega), (by omega), trivial⟩ (fun sW lX => ?_)
   clear hT
   refine At.act lX (storeR (α := Int) (t := 3) (i := k1) (ad := gG) (v := .int .i64 (-1)) (-1) (by kernel_rfl) rfl rfl (by kernel_rfl) lW aZ (by omega) (by omega)) ?_
   rintro d_ v_ nR ⟨rfl, cM, nS⟩
   refine ⟨_, rfl, fun sX lY => ?_⟩
   clear lX; have sY : ((x1).set (k1 : Int).toNat (-1)).length = (x1).length := List.length_set; have := cM.size; replace cC := cC.gr cM (fun k hk => by have := aZ.ge k hk; omega); replace cH := cH.gr cM (fun k hk => by have := aZ.ge k hk; omega); replace cW := cW.gr cM (fun k hk => by have := aZ.ge k hk; omega); replace dE := dE.gr cM (fun e => by have := aZ.ge _ e; omega)
   replace cI := cI.gr cM (fun e => by have := aZ.ge _ e; omega); replace dR := dR.gr cM (fun e => by have := aZ.ge _ e; omega); replace bR := bR.gr cM (fun e => by have := aZ.ge _ e; omega); replace cJ := cJ.gr cM (fun k hk => hk.2.2.2.1); replace dF := dF.gr cM (aZ.neb (fun g hs => hs.2.2.2.2.1)); replace bB := bB.gr cM (aZ.neb (fun g hs => hs.2.2.1)); replace cK := cK.gr cM (fun k hk => hk.2.2.1)
   replace cL := cL.gr cM (fun k hk => hk.2.1); clear aZ cM
   have lZ := lY.as 76 (.slice aY x1.length bA) (.slice aY (((x1).set (k1 : Int).toNat (-1) : List Int).length) bA) rfl (slice_len (by first | rfl | omega | (simp; done) | (simp; omega)))
   clear lY
   replace bB : Bx nR (aI.heap.size) [.slice aX ((lsD (fromW sa) 256).length) bC, .slice bD ((lsD (fromW sb) 256).length) bI, .slice aP x0.length aV, .slice aY (((x1).set (k1 : Int).toNat (-1)).length) bA] 32 := bB.as (by first | rfl | (simp only [List.length_set]; done))
   refine At.done rfl ?_
   refine b_n ?_
   refine t_n ?_
   refine At.start ?_
   refine At.rd lZ 2 [[.as_ (.int .i64 (k1 + 1))], []] [(55, .int .i64 (k1 + 1)), (79, .int .i64 (k1 + 1))] [((.int .i64 (IntKind.i64.wrap (k1 + 1)) : Value) = .int .i64 (k1 + 1))] (by kernel_rfl) ⟨(w64 (by omega) (by omega)), trivial⟩ (fun sZ nT => ?_)
   clear lZ
   refine At.done rfl ?_
   refine t_n ?_
   have nU := nT.sub (r := [(55, .int .i64 (k1 + 1)), (54, .int .i64 (((g.ow.length : Nat) : Int))), (14, .int .i64 (1)), (44, .int .i64 (1)), (13, .pointer (some ⟨aI.heap.size, 0, none⟩)), (12, .pointer (some ⟨aT, 0, none⟩)), (7, .pointer (some ⟨aA.heap.size, 0, none⟩)), (6, .pointer (some ⟨aB.heap.size, 0, none⟩)), (3, .int .i64 (0)), (2, .pointer (some ⟨w1.heap.size, 0, none⟩)), (1, .pointer (some ⟨w.heap.size, 0, none⟩))]) ⟨rfl, rfl, rfl, rfl, rfl, rfl, rfl, rfl, rfl, rfl, rfl, trivial⟩
   exact ⟨_, (by omega), (k1 + 1), ((x1).set (k1 : Int).toNat (-1) : List Int), aY, bA, rfl, nU, cC, cH, cW, dE, cI, dR, bR, cJ, nS, dF, bB, cK, cL, (by omega), (by omega), (cutK_yes hck1 (by omega) (by omega) (by first | exact (fun h_ => has_nP (by assumption) h_.1) | exact (fun h_ => absurd h_.2 (by omega)))), (by rw [List.length_set]; omega), (by omega), (by omega), (by omega), (by omega)⟩
  have tA : (hasW sb k1) = true := by first | exact Eq.mp (Bool.not_eq_true' _) dZ | exact Eq.mp (Bool.not_eq_false' _) dZ | simpa using dZ
  obtain ⟨gH, nV, _, _, nW⟩ := RdI.get cH.ow (k1) (by omega) (by omega)
  refine At.rd gF 10 [[], [.as_ (.bool false)], [], [.ld (.slice Ag0 g.ow.length cg0)], [], [.ad gH], [.ld (.int .i64 (gI g.ow (k1)))], [], [], []] [(72, .bool ((gI g.ow (k1) : Int) != 1)), (71, .bool ((gI g.ow (k1) : Int) != 1)), (70, .int .i64 (1)), (69, .int .i64 (gI g.ow (k1))), (68, .pointer (some (gH.add ((k1 : Int).toNat * 1)))), (67, .int .i64 (k1)), (66, .slice Ag0 g.ow.length cg0), (65, .pointer (some ⟨w.heap.size, 0, none⟩)), (64, .bool false), (63, .bool (!(hasW sb k1)))] [((.bool (!(hasW sb k1)) : Value) = .bool false), (gE.cell? ⟨w.heap.size, 0, none⟩ = some (.slice Ag0 g.ow.length cg0)), (Ag0 = some gH), (0 ≤ (k1 : Int)), ((k1 : Int) < (g.ow.length : Nat)), (gE.cell? (gH.add ((k1 : Int).toNat * 1)) = some (.int .i64 (gI g.ow (k1))))] (by kernel_rfl) ⟨(congrArg Value.bool dZ), (dE.cell (i := 0) rfl), nV, (by omega), (by omega), nW, trivial⟩ (fun tB fP => ?_)
  clear gF
  refine At.done rfl ?_
  refine t_n ?_
  refine cond_S fP (t := (gI g.ow (k1) : Int) != 1) rfl (fun hU => ?_) (fun hU => ?_)
  ·have tC := bne_iff_ne.1 hU
   refine At.start ?_
   obtain ⟨gJ, mA, tD, tE, tF⟩ := aZ.get (k1) (by omega) (by omega) (sz := 1) rfl
   refine At.rd fP 6 [[], [], [], [.ld (.slice aY x1.length bA)], [], [.ad gJ]] [(78, .pointer (some (gJ.add ((k1 : Int).toNat * 1)))), (77, .int .i64 (k1)), (76, .slice aY x1.length bA), (75, .pointer (some ⟨aI.heap.size, 3, none⟩)), (74, .pointer (some ⟨aI.heap.size, 2, none⟩)), (73, .int .i64 (1))] [(0 ≤ (1 : Int)), ((1 : Int) < (2 : Nat)), (gE.cell? ⟨aI.heap.size, 3, none⟩ = some (.slice aY x1.length bA)), (aY = some gJ), (0 ≤ (k1 : Int)), ((k1 : Int) < (x1.length : Nat))] (by kernel_rfl) ⟨(by decide), (by decide), (bB.cell (i := 3) rfl), mA, (by omega), (by omega), trivial⟩ (fun tG mB => ?_)
   clear fP
   refine At.act mB (storeR (α := Int) (t := 3) (i := k1) (ad := gJ) (v := .int .i64 (-1)) (-1) (by kernel_rfl) rfl rfl (by kernel_rfl) mA aZ (by omega) (by omega)) ?_
   rintro d_ v_ nX ⟨rfl, cN, nY⟩
   refine ⟨_, rfl, fun tH mC => ?_⟩
   clear mB; have tI : ((x1).set (k1 : Int).toNat (-1)).length = (x1).length := List.length_set; have := cN.size; replace cC := cC.gr cN (fun k hk => by have := aZ.ge k hk; omega); replace cH := cH.gr cN (fun k hk => by have := aZ.ge k hk; omega); replace cW := cW.gr cN (fun k hk => by have := aZ.ge k hk; omega); replace dE := dE.gr cN (fun e => by have := aZ.ge _ e; omega)
   replace cI := cI.gr cN (fun e => by have := aZ.ge _ e; omega); replace dR := dR.gr cN (fun e => by have := aZ.ge _ e; omega); replace bR := bR.gr cN (fun e => by have := aZ.ge _ e; omega); replace cJ := cJ.gr cN (fun k hk => hk.2.2.2.1); replace dF := dF.gr cN (aZ.neb (fun g hs => hs.2.2.2.2.1)); replace bB := bB.gr cN (aZ.neb (fun g hs => hs.2.2.1)); replace cK := cK.gr cN (fun k hk => hk.2.2.1)
   replace cL := cL.gr cN (fun k hk => hk.2.1); clear aZ cN
   have mD := mC.as 76 (.slice aY x1.length bA) (.slice aY (((x1).set (k1 : Int).toNat (-1) : List Int).length) bA) rfl (slice_len (by first | rfl | omega | (simp; done) | (simp; omega)))
   clear mC
   replace bB : Bx nX (aI.heap.size) [.slice aX ((lsD (fromW sa) 256).length) bC, .slice bD ((lsD (fromW sb) 256).length) bI, .slice aP x0.length aV, .slice aY (((x1).set (k1 : Int).toNat (-1)).length) bA] 32 := bB.as (by first | rfl | (simp only [List.length_set]; done))
   refine At.done rfl ?_
   refine b_n ?_
   refine t_n ?_
   refine At.start ?_
   refine At.rd mD 2 [[.as_ (.int .i64 (k1 + 1))], []] [(55, .int .i64 (k1 + 1)), (79, .int .i64 (k1 + 1))] [((.int .i64 (IntKind.i64.wrap (k1 + 1)) : Value) = .int .i64 (k1 + 1))] (by kernel_rfl) ⟨(w64 (by omega) (by omega)), trivial⟩ (fun tJ nZ => ?_)
   clear mD
   refine At.done rfl ?_
   refine t_n ?_
   have oA := nZ.sub (r := [(55, .int .i64 (k1 + 1)), (54, .int .i64 (((g.ow.length : Nat) : Int))), (14, .int .i64 (1)), (44, .int .i64 (1)), (13, .pointer (some ⟨aI.heap.size, 0, none⟩)), (12, .pointer (some ⟨aT, 0, none⟩)), (7, .pointer (some ⟨aA.heap.size, 0, none⟩)), (6, .pointer (some ⟨aB.heap.size, 0, none⟩)), (3, .int .i64 (0)), (2, .pointer (some ⟨w1.heap.size, 0, none⟩)), (1, .pointer (some ⟨w.heap.size, 0, none⟩))]) ⟨rfl, rfl, rfl, rfl, rfl, rfl, rfl, rfl, rfl, rfl, rfl, trivial⟩
   exact ⟨_, (by omega), (k1 + 1), ((x1).set (k1 : Int).toNat (-1) : List Int), aY, bA, rfl, oA, cC, cH, cW, dE, cI, dR, bR, cJ, nY, dF, bB, cK, cL, (by omega), (by omega), (cutK_yes hck1 (by omega) (by omega) (by first | exact (fun h_ => has_nP (by assumption) h_.1) | exact (fun h_ => absurd h_.2 (by omega)))), (by rw [List.length_set]; omega), (by omega), (by omega), (by omega), (by omega)⟩
  have tK := bne_eq_false_iff_eq.1 hU
  refine wp_skip ?_
  refine b_n ?_
  refine t_n ?_
  refine At.start ?_
  refine At.rd fP 2 [[.as_ (.int .i64 (k1 + 1))], []] [(55, .int .i64 (k1 + 1)), (79, .int .i64 (k1 + 1))] [((.int .i64 (IntKind.i64.wrap (k1 + 1)) : Value) = .int .i64 (k1 + 1))] (by kernel_rfl) ⟨(w64 (by omega) (by omega)), trivial⟩ (fun tL oB => ?_)
  clear fP
  refine At.done rfl ?_
  refine t_n ?_
  have oC := oB.sub (r := [(55, .int .i64 (k1 + 1)), (54, .int .i64 (((g.ow.length : Nat) : Int))), (14, .int .i64 (1)), (44, .int .i64 (1)), (13, .pointer (some ⟨aI.heap.size, 0, none⟩)), (12, .pointer (some ⟨aT, 0, none⟩)), (7, .pointer (some ⟨aA.heap.size, 0, none⟩)), (6, .pointer (some ⟨aB.heap.size, 0, none⟩)), (3, .int .i64 (0)), (2, .pointer (some ⟨w1.heap.size, 0, none⟩)), (1, .pointer (some ⟨w.heap.size, 0, none⟩))]) ⟨rfl, rfl, rfl, rfl, rfl, rfl, rfl, rfl, rfl, rfl, rfl, trivial⟩
  exact ⟨_, (by omega), (k1 + 1), (x1 : List Int), aY, bA, rfl, oC, cC, cH, cW, dE, cI, dR, bR, cJ, aZ, dF, bB, cK, cL, (by omega), (by omega), (cutK_no hck1 ⟨inP_has.1 (by assumption), by omega⟩), (by omega), (by omega), (by omega), (by omega), (by omega)⟩
 have tM := of_decide_eq_false hS
 refine wp_exit ?_
 refine t_e ?_
 refine t_e ?_
 refine b_e ?_
 refine b_n ?_
 refine t_n ?_
 refine At.start ?_
 refine At.rd fO 2 [[.as_ (.int .i64 (2))], []] [(44, .int .i64 (2)), (80, .int .i64 (2))] [((.int .i64 (IntKind.i64.wrap (1 + 1)) : Value) = .int .i64 (2))] (by kernel_rfl) ⟨(by kernel_rfl), trivial⟩ (fun tN mE => ?_)
 clear fO
 refine At.done rfl ?_
 refine t_n ?_
 have mF := mE.sub (r := [(44, .int .i64 (2)), (13, .pointer (some ⟨aI.heap.size, 0, none⟩)), (12, .pointer (some ⟨aT, 0, none⟩)), (7, .pointer (some ⟨aA.heap.size, 0, none⟩)), (6, .pointer (some ⟨aB.heap.size, 0, none⟩)), (3, .int .i64 (0)), (2, .pointer (some ⟨w1.heap.size, 0, none⟩)), (1, .pointer (some ⟨w.heap.size, 0, none⟩))]) ⟨rfl, rfl, rfl, rfl, rfl, rfl, rfl, rfl, trivial⟩
 clear mE
 refine loop_u ?_
 refine wp_seq ?_
 refine At.start ?_
 refine At.rd mF 1 [[.as_ (.bool false)]] [(45, .bool false)] [((.bool (decide ((2 : Int) < 2)) : Value) = .bool false)] (by kernel_rfl) ⟨(by kernel_rfl), trivial⟩ (fun tO hV => ?_)
 clear mF
 refine At.done rfl ?_
 refine t_n ?_
 refine wp_seq ?_
 refine cond_F hV rfl ?_
 refine wp_exit ?_
 refine t_e ?_
 refine t_e ?_
 refine b_e ?_
 refine t_n ?_
 clear dE; clear dR; clear dF; have hcutA := hck0; have hcutB := hck1
 refine wp_seq ?_
 obtain ⟨eR, eS⟩ : ∃ c : List (Addr × Value), c = [(⟨aI.heap.size, 0, none⟩, (.slice aX ((lsD (fromW sa) 256).length) bC)), (⟨aI.heap.size, 1, none⟩, (.slice bD ((lsD (fromW sb) 256).length) bI)), (⟨aI.heap.size, 2, none⟩, (.slice aP x0.length aV)), (⟨aI.heap.size, 3, none⟩, (.slice aY x1.length bA)), (⟨aA.heap.size, 0, none⟩, (.int .i64 (da)))] := ⟨_, rfl⟩
 have mG : HoldsC eR lS := by rw [eS]; exact ⟨(bB.cell (i := 0) rfl), (bB.cell (i := 1) rfl), (bB.cell (i := 2) rfl), (bB.cell (i := 3) rfl), (bR.cell (i := 0) rfl), trivial⟩
 refine AtH.start eR 4 #[false, false, false, false] (by kernel_rfl) rfl rfl (fun tP mH => ?_)
 have cX := gr_drew mH; have mI := mG.gr cX; have := cX.size; replace cC := cC.gn cX; replace cH := cH.gn cX; replace cW := cW.gn cX; replace cI := cI.gn cX; replace bR := bR.gn cX; replace cJ := cJ.gn cX; replace aZ := aZ.gn cX; replace bB := bB.gn cX; replace cK := cK.gn cX; replace cL := cL.gn cX; clear cX mH mG
 refine AtH.rd (by kernel_rfl) (fun d v c a w h => by cases d <;> exact h) mI [0, 1] [[.ld (.slice aX ((lsD (fromW sa) 256).length) bC), .ld (.slice bD ((lsD (fromW sb) 256).length) bI), .ld (.slice aP x0.length aV), .ld (.slice aY x1.length bA)], [.ld (.int .i64 (da))]] [(82, .int .i64 (da)), (81, .agg #[.slice aX ((lsD (fromW sa) 256).length) bC, .slice bD ((lsD (fromW sb) 256).length) bI, .slice aP x0.length aV, .slice aY x1.length bA])] #[true, true, false, false] [(∃ j_ : Nat, eR[j_]? = some (⟨aI.heap.size, 0, none⟩, (.slice aX ((lsD (fromW sa) 256).length) bC))), (∃ j_ : Nat, eR[j_]? = some (⟨aI.heap.size, 1, none⟩, (.slice bD ((lsD (fromW sb) 256).length) bI))), (∃ j_ : Nat, eR[j_]? = some (⟨aI.heap.size, 2, none⟩, (.slice aP x0.length aV))), (∃ j_ : Nat, eR[j_]? = some (⟨aI.heap.size, 3, none⟩, (.slice aY x1.length bA))), (∃ j_ : Nat, eR[j_]? = some (⟨aA.heap.size, 0, none⟩, (.int .i64 (da))))] 2 hV (by kernel_rfl) ⟨⟨0, by rw [eS]; rfl⟩, ⟨1, by rw [eS]; rfl⟩, ⟨2, by rw [eS]; rfl⟩, ⟨3, by rw [eS]; rfl⟩, ⟨4, by rw [eS]; rfl⟩, trivial⟩ (fun tQ mJ => ?_)
 clear hV
 refine AtH.all [2] 1 (by kernel_rfl) (by simp) ⟨?_, trivial⟩
 refine OneH.store mJ (t := 32) (b := w1.heap.size) (off := 0) (v := .agg #[.slice aX ((lsD (fromW sa) 256).length) bC, .slice bD ((lsD (fromW sb) 256).length) bI, .slice aP x0.length aV, .slice aY x1.length bA]) #[true, true, true, false] (by kernel_rfl) (by kernel_rfl) cI (by kernel_rfl) (fun tR fQ dG fE mK => ?_)
 clear mJ
 replace fE : Bx fQ (w1.heap.size) [.slice aX ((lsD (fromW sa) 256).length) bC, .slice bD ((lsD (fromW sb) 256).length) bI, .slice aP x0.length aV, .slice aY x1.length bA] 32 := fE
 have hW := mI.gr' dG (by rw [eS]; exact ⟨(by simp only [add_block]; omega), (by simp only [add_block]; omega), (by simp only [add_block]; omega), (by simp only [add_block]; omega), (by simp only [add_block]; omega), trivial⟩)
 have := dG.size; replace cC := cC.gr dG (fun k h => by injection h; omega); replace cH := cH.gb dG (by omega); replace cW := cW.gb dG (by omega); replace bR := bR.gb dG (by omega); replace cJ := cJ.gr dG (fun k hk e => by have := Sx_base hk; injection e; omega); replace aZ := aZ.gr dG (fun k hk e => by have := Sx_base hk; injection e; omega); replace bB := bB.gb dG (by omega)
 replace cK := cK.gr dG (fun k hk e => by have := Sx_base hk; injection e; omega); replace cL := cL.gr dG (fun k hk e => by have := Sx_base hk; injection e; omega); clear cI dG
 refine ⟨hW, ?_⟩
 refine AtH.rd (by kernel_rfl) (fun d v c a w h => by cases d <;> exact h) hW [3] [[]] [(3, .int .i64 (da))] #[true, true, true, true] [] 0 mK (by kernel_rfl) trivial (fun tS oD => ?_)
 clear mK
 refine AtH.done (by kernel_rfl) ?_
 clear hW
 refine t_n ?_
 clear bR; clear bB
 refine wp_ret ?_
 refine ret_ oD [[.slice aX ((lsD (fromW sa) 256).length) bC, .slice bD ((lsD (fromW sb) 256).length) bI, .slice aP x0.length aV, .slice aY x1.length bA]] [.agg #[.slice aX ((lsD (fromW sa) 256).length) bC, .slice bD ((lsD (fromW sb) 256).length) bI, .slice aP x0.length aV, .slice aY x1.length bA], .int .i64 (da)] [(fQ.cell? ⟨w1.heap.size, 0, none⟩ = some (.slice aX ((lsD (fromW sa) 256).length) bC)), (fQ.cell? ⟨w1.heap.size, 1, none⟩ = some (.slice bD ((lsD (fromW sb) 256).length) bI)), (fQ.cell? ⟨w1.heap.size, 2, none⟩ = some (.slice aP x0.length aV)), (fQ.cell? ⟨w1.heap.size, 3, none⟩ = some (.slice aY x1.length bA))] (by kernel_rfl) ⟨(fE.cell (i := 0) rfl), (fE.cell (i := 1) rfl), (fE.cell (i := 2) rfl), (fE.cell (i := 3) rfl), trivial⟩ ?_
 exact ⟨aX, bC, bD, bI, aP, aV, aY, bA, _, _, _, _, _, rfl, cC, ((cK.imp (fun g _ hs => ⟨hs.1, hs.2.1, hs.2.2.1, (by have := Sx_base hs; show w.heap.size ≤ g; omega)⟩))), ((cL.imp (fun g _ hs => ⟨hs.2.2.1, hs.1, hs.2.1, (by have := Sx_base hs; show w.heap.size ≤ g; omega)⟩))), ((cJ.imp (fun g _ hs => ⟨hs.2.1, hs.1, hs.2.2.2.1, (by have := Sx_base hs; show w.heap.size ≤ g; omega)⟩))), ((aZ.imp (fun g _ hs => ⟨hs.2.1, hs.1, hs.2.2.2.1, (by have := Sx_base hs; show w.heap.size ≤ g; omega)⟩))), .inr ⟨hR, sa, sb, rfl, rfl, sol_end hR hpa hrl_ hrl_ hcutA hcutB (by omega) (by omega) (by omega) (by omega)⟩⟩

end Go.Proofs.YtplpgfcjjnaigaaDoor
