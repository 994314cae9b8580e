/-
  Texts of this repo, laid together: the frame of the walks, plain lemmas, walks of Go functions. Conditions: what the theorems name.
-/
import Derived.Test.YtkkophhnliplhaaDoorZ2
set_option linter.unusedVariables false
set_option linter.unusedSimpArgs false
namespace Go.Proofs.YtkkophhnliplhaaDoor
open Go Go.RowKit
set_option maxHeartbeats 4000000 in
theorem dualM_any {Ag0 Ag1 Ag2 : Option Addr} {cg0 cg1 cg2 : Nat} {g : GameL} {w : World} (rg : RdG w 0 w.heap.size Ag0 Ag1 Ag2 cg0 cg1 cg2 g) :
    Calls Tryd.prog 18 #[.agg #[.slice Ag0 g.ow.length cg0, .slice Ag1 g.pr.length cg1, .slice Ag2 g.mv.length cg2]] w fun e w' => ∃ A0 c0 A1 c1 A2 c2, e = .returned (.agg #[.slice A0 (dualG g).ow.length c0, .slice A1 (dualG g).pr.length c1, .slice A2 (dualG g).mv.length c2]) ∧ Ext w w' ∧ OwnR w' (Sx w.heap.size [obk A1, obk A2]) A0 c0 3 (dualG g).ow ∧ OwnR w' (Sx w.heap.size [obk A0, obk A2]) A1 c1 3 (dualG g).pr ∧ OwnLL w' w.heap.size [obk A0, obk A1] A2 c2 22 3 (dualG g).mv := by
 have hlg0 := rg.ow.len; have hlg1 := rg.pr.len; have hlg2 := rg.mv.len; have hkg0 := rg.k0; have hkg1 := rg.k1; have hkg2 := rg.k2
 refine enter_ (args := [.agg #[.slice Ag0 g.ow.length cg0, .slice Ag1 g.pr.length cg1, .slice Ag2 g.mv.length cg2]]) Tryd.func18 rfl Tryd.ntmps18 (Nat.le_of_ble_eq_true rfl) (fun act0 f0 => ?_)
 have e0 : Ext w w := Ext.refl w
 refine sqs ?_
 refine At.bx f0 1 [.slice Ag0 g.ow.length cg0, .slice Ag1 g.pr.length cg1, .slice Ag2 g.mv.length cg2] 25 (fun w1 g5 bx6 act4 f3 => ?_)
 clear f0; have := g5.size; replace e0 := e0.gn g5; have r9 := rg.gn g5; clear rg; have := bx6.lt; clear g5
 refine At.bx f3 2 [.slice none 0 0, .slice none 0 0, .slice none 0 0] 25 (fun eS bK aC eT cK => ?_)
 clear f3; have := bK.size; replace e0 := e0.gn bK; replace r9 := r9.gn bK; replace bx6 := bx6.gn bK; have := aC.lt; clear bK
 refine At.dn ?_
 have cL := cK.sb (r := [(2, pt w1.heap.size 0), (1, pt w.heap.size 0)]); clear cK
 refine sqs ?_
 refine At.rk cL 2 [(7, .slice Ag1 g.pr.length cg1)] (.l (bx6.cell (i := 1) rfl) <| .n) (fun eU cM => ?_)
 clear cL
 refine At.cl cM (some 8) (args := #[.slice Ag1 g.pr.length cg1, .int .i64 (7)]) (contains_any (v := 7) (r9.pr.wide (Nat.zero_le _) ω)) ?_
 rintro e_ eC ⟨rfl, he⟩
 refine ⟨_, rfl, _, rfl, fun eV cN => ?_⟩
 clear cM; have bA := gr_ext he; have := bA.size; replace e0 := e0.gn bA; replace r9 := r9.gn bA; replace bx6 := bx6.gn bA; replace aC := aC.gn bA; clear bA he
 refine At.rk cN 1 [(3, .bool (decide (7 ∈ g.pr)))] .n (fun eW cO => ?_)
 clear cN
 refine At.dn ?_
 have cA := cO.sb (r := [(3, .bool (decide (7 ∈ g.pr))), (2, pt w1.heap.size 0), (1, pt w.heap.size 0)]); clear cO
 refine wp_seq (cut (fun a_ w_ => (Frm 53 a_ [(3, .bool (decide (7 ∈ g.pr))), (2, pt w1.heap.size 0), (1, pt w.heap.size 0)]) ∧ (Ext w w_) ∧ (RdG w_ 0 w.heap.size Ag0 Ag1 Ag2 cg0 cg1 cg2 g) ∧ (Bx w_ (w.heap.size) [.slice Ag0 g.ow.length cg0, .slice Ag1 g.pr.length cg1, .slice Ag2 g.mv.length cg2] 25) ∧ (Bx w_ (w1.heap.size) [.slice none 0 0, .slice none 0 0, .slice none 0 0] 25) ∧ (isR g = true) ∧ (¬ (7 ∈ g.pr ∧ 0 ∈ g.pr)) ∧ (eC.heap.size ≤ w_.heap.size)) ?_ ?_)
 ·refine sqs ?_
  refine At.rk cA 1 [(9, .agg #[.slice Ag0 g.ow.length cg0, .slice Ag1 g.pr.length cg1, .slice Ag2 g.mv.length cg2])] (.l (bx6.cell (i := 0) rfl) <| .l (bx6.cell (i := 1) rfl) <| .l (bx6.cell (i := 2) rfl) <| .n) (fun eX cP => ?_)
  clear cA
  refine At.cl cP (some 10) (args := #[.agg #[.slice Ag0 g.ow.length cg0, .slice Ag1 g.pr.length cg1, .slice Ag2 g.mv.length cg2]]) (isM_any (r9.wide (Nat.zero_le _) ω)) ?_
  rintro e_ eY ⟨rfl, he⟩
  refine ⟨_, rfl, _, rfl, fun eZ bB => ?_⟩
  clear cP; have bC := gr_ext he; have := bC.size; replace e0 := e0.gn bC; replace r9 := r9.gn bC; replace bx6 := bx6.gn bC; replace aC := aC.gn bC; clear bC he
  rcases Bool.eq_false_or_eq_true (!(isR g)) with aP | aP
  ·have fA : (isR g) = false := by first | exact Eq.mp (Bool.not_eq_true' _) aP | exact Eq.mp (Bool.not_eq_false' _) aP | simpa using aP
   refine At.rk bB 9 [(19, .bool true)] (.e 12 aP <| .n) (fun fB cQ => ?_)
   clear bB
   refine At.dn ?_
   have cB := cQ.sb (r := [(19, .bool true), (3, .bool (decide (7 ∈ g.pr))), (2, pt w1.heap.size 0), (1, pt w.heap.size 0)]); clear cQ
   refine cond_T cB rfl ?_
   refine sqs ?_
   refine At.rk cB 1 [(20, .agg #[.slice none 0 0, .slice none 0 0, .slice none 0 0])] .n (fun fC cR => ?_)
   clear cB
   refine At.store cR (t := 25) (b := w1.heap.size) (off := 0) (v := .agg #[.slice none 0 0, .slice none 0 0, .slice none 0 0]) κ aC κ (fun fD bU bL bM cS => ?_)
   clear cR; replace bM : Bx bU (w1.heap.size) [.slice none 0 0, .slice none 0 0, .slice none 0 0] 25 := bM; have := bL.size; replace e0 := e0.gr bL (fun k h => by injection h; omega); replace r9 := r9.gb bL ω; replace bx6 := bx6.gb bL ω; clear aC bL
   refine At.dn ?_
   have eD := cS.sb (r := [(2, pt w1.heap.size 0)]); clear cS
   refine wp_ret ?_
   refine t_r ?_
   refine ret_ eD [[.slice none 0 0, .slice none 0 0, .slice none 0 0]] [.agg #[.slice none 0 0, .slice none 0 0, .slice none 0 0]] [(bU.cell? ⟨w1.heap.size, 0, none⟩ = some (.slice none 0 0)), (bU.cell? ⟨w1.heap.size, 1, none⟩ = some (.slice none 0 0)), (bU.cell? ⟨w1.heap.size, 2, none⟩ = some (.slice none 0 0))] κ ⟨(bM.cell (i := 0) rfl), (bM.cell (i := 1) rfl), (bM.cell (i := 2) rfl), trivial⟩ ?_
   rw [dual_no (by first | exact .inl σ | exact .inr ⟨of_decide_eq_true σ, of_decide_eq_true σ⟩)]
   exact ⟨none, 0, none, 0, none, 0, rfl, e0, OwnR.nil, OwnR.nil, OwnLL.nil⟩
  have fE : (isR g) = true := by first | exact Eq.mp (Bool.not_eq_true' _) aP | exact Eq.mp (Bool.not_eq_false' _) aP | simpa using aP
  rcases Bool.eq_false_or_eq_true (decide (7 ∈ g.pr)) with bN | bN
  ·have fF := of_decide_eq_true bN
   refine At.rk bB 6 [(16, .slice Ag1 g.pr.length cg1), (14, .bool true), (12, .bool false)] (.e 12 aP <| .e 14 bN <| .l (bx6.cell (i := 1) rfl) <| .n) (fun fG cT => ?_)
   clear bB
   refine At.cl cT (some 17) (args := #[.slice Ag1 g.pr.length cg1, .int .i64 (0)]) (contains_any (v := 0) (r9.pr.wide (Nat.zero_le _) ω)) ?_
   rintro e_ fH ⟨rfl, he⟩
   refine ⟨_, rfl, _, rfl, fun fI cU => ?_⟩
   clear cT; have bD := gr_ext he; have := bD.size; replace e0 := e0.gn bD; replace r9 := r9.gn bD; replace bx6 := bx6.gn bD; replace aC := aC.gn bD; clear bD he
   refine At.rk cU 2 [(19, .bool (decide (0 ∈ g.pr)))] .n (fun fJ cV => ?_)
   clear cU
   refine At.dn ?_
   have bV := cV.sb (r := [(19, .bool (decide (0 ∈ g.pr))), (3, .bool (decide (7 ∈ g.pr))), (2, pt w1.heap.size 0), (1, pt w.heap.size 0)]); clear cV
   refine cond_S bV (t := decide (0 ∈ g.pr)) rfl (fun cC => ?_) (fun cC => ?_)
   ·have fK := of_decide_eq_true cC
    refine sqs ?_
    refine At.rk bV 1 [(20, .agg #[.slice none 0 0, .slice none 0 0, .slice none 0 0])] .n (fun fL cW => ?_)
    clear bV
    refine At.store cW (t := 25) (b := w1.heap.size) (off := 0) (v := .agg #[.slice none 0 0, .slice none 0 0, .slice none 0 0]) κ aC κ (fun fM bW bO bP cX => ?_)
    clear cW; replace bP : Bx bW (w1.heap.size) [.slice none 0 0, .slice none 0 0, .slice none 0 0] 25 := bP; have := bO.size; replace e0 := e0.gr bO (fun k h => by injection h; omega); replace r9 := r9.gb bO ω; replace bx6 := bx6.gb bO ω; clear aC bO
    refine At.dn ?_
    have eE := cX.sb (r := [(2, pt w1.heap.size 0)]); clear cX
    refine wp_ret ?_
    refine t_r ?_
    refine ret_ eE [[.slice none 0 0, .slice none 0 0, .slice none 0 0]] [.agg #[.slice none 0 0, .slice none 0 0, .slice none 0 0]] [(bW.cell? ⟨w1.heap.size, 0, none⟩ = some (.slice none 0 0)), (bW.cell? ⟨w1.heap.size, 1, none⟩ = some (.slice none 0 0)), (bW.cell? ⟨w1.heap.size, 2, none⟩ = some (.slice none 0 0))] κ ⟨(bP.cell (i := 0) rfl), (bP.cell (i := 1) rfl), (bP.cell (i := 2) rfl), trivial⟩ ?_
    rw [dual_no (by first | exact .inl σ | exact .inr ⟨of_decide_eq_true σ, of_decide_eq_true σ⟩)]
    exact ⟨none, 0, none, 0, none, 0, rfl, e0, OwnR.nil, OwnR.nil, OwnLL.nil⟩
   have fN := of_decide_eq_false cC
   refine wp_skip ?_
   refine t_n ?_
   exact ⟨bV.sb, e0, r9, bx6, aC, σ, (by first | exact fun h_ => absurd h_.1 (of_decide_eq_false σ) | exact fun h_ => absurd h_.2 (of_decide_eq_false σ)), ω⟩
  have fO := of_decide_eq_false bN
  refine At.rk bB 9 [(19, .bool false)] (.e 12 aP <| .e 14 bN <| .n) (fun fP cY => ?_)
  clear bB
  refine At.dn ?_
  have cZ := cY.sb (r := [(19, .bool false), (3, .bool (decide (7 ∈ g.pr))), (2, pt w1.heap.size 0), (1, pt w.heap.size 0)]); clear cY
  refine cond_F cZ rfl ?_
  refine wp_skip ?_
  refine t_n ?_
  exact ⟨cZ.sb, e0, r9, bx6, aC, σ, (by first | exact fun h_ => absurd h_.1 (of_decide_eq_false σ) | exact fun h_ => absurd h_.2 (of_decide_eq_false σ)), ω⟩
 clear r9; clear bx6; clear aC; clear cA e0
 intro fQ bX ⟨dA, aS, aQ, aH, aT, hR, hno, i103⟩
 have := aS.size; have := aH.lt; have := aT.lt
 refine wp_seq ?_
 have hG := isR_ok hR; have hn1 := hG.n1; have hpl := hG.pl; have hml := hG.ml
 refine At.start ?_
 refine At.rk dA 1 [(21, .agg #[.slice Ag0 g.ow.length cg0, .slice Ag1 g.pr.length cg1, .slice Ag2 g.mv.length cg2])] (.l (aH.cell (i := 0) rfl) <| .l (aH.cell (i := 1) rfl) <| .l (aH.cell (i := 2) rfl) <| .n) (fun fR dB => ?_)
 clear dA
 refine At.cl dB (some 22) (args := #[.agg #[.slice Ag0 g.ow.length cg0, .slice Ag1 g.pr.length cg1, .slice Ag2 g.mv.length cg2]]) (copyM_any (g := g) (aQ.wide (Nat.zero_le _) ω)) ?_
 rintro e_ aF ⟨cD, cE, cF, cG, aG, aM, rfl, he, bE, bF, bG⟩
 have hip118 := inner_len (RdG.mv (aQ.wide (Nat.zero_le _) ω))
 refine ⟨_, rfl, _, rfl, fun fS dC => ?_⟩
 clear dB; have bH := gr_ext he; have := bH.size; replace aS := aS.gn bH; replace aQ := aQ.gn bH; replace aH := aH.gn bH; replace aT := aT.gn bH; clear bH he
 refine At.bx dC 4 [.slice none 0 0, .slice none 0 0, .slice none 0 0] 25 (fun fT aU cH fU dD => ?_)
 clear dC; have := aU.size; replace aS := aS.gn aU; replace aQ := aQ.gn aU; replace aH := aH.gn aU; replace aT := aT.gn aU; replace bE := bE.grN aU; replace bF := bF.grN aU; replace bG := bG.grN aU; have := cH.lt; clear aU
 refine At.store dD (t := 25) (b := aF.heap.size) (off := 0) (v := .agg #[.slice cD g.ow.length cE, .slice cF g.pr.length cG, .slice aG g.mv.length aM]) κ cH κ (fun fV eF aV bQ dE => ?_)
 clear dD; replace bQ : Bx eF (aF.heap.size) [.slice cD g.ow.length cE, .slice cF g.pr.length cG, .slice aG g.mv.length aM] 25 := bQ; have := aV.size; replace aS := aS.gr aV (fun k h => by injection h; omega); replace aQ := aQ.gb aV ω; replace aH := aH.gb aV ω; replace aT := aT.gb aV ω; replace bE := bE.gr aV (fun k hk => hk.1); replace bF := bF.gr aV (fun k hk => hk.1)
 replace bG := bG.gr aV (fun k hk => hk.1); clear cH aV
 refine At.dn ?_
 have dF := dE.sb (r := [(4, pt aF.heap.size 0), (3, .bool (decide (7 ∈ g.pr))), (2, pt w1.heap.size 0)]); clear dE
 refine wp_seq ?_
 refine sqs ?_
 refine At.rk dF 4 [(26, .int .i64 (0)), (25, .int .i64 (((g.ow.length : Nat) : Int)))] (.l (bQ.cell (i := 0) rfl) <| .n) (fun fW dG => ?_)
 clear dF
 refine At.dn ?_
 refine wp_block ?_
 refine loop_g (fun (m_ : Nat) a_ w_ => ∃ (k : Int) (xa : List Int) (aD : Option Addr) (aI : Nat) (xp : List Int) (aE : Option Addr) (aJ : Nat), m_ = ((g.ow.length : Int) - k).toNat ∧ (Frm 53 a_ [(26, .int .i64 (k)), (25, .int .i64 (((g.ow.length : Nat) : Int))), (4, pt aF.heap.size 0), (3, .bool (decide (7 ∈ g.pr))), (2, pt w1.heap.size 0)]) ∧ (Ext w w_) ∧ (RdG w_ 0 w.heap.size Ag0 Ag1 Ag2 cg0 cg1 cg2 g) ∧ (Bx w_ (w.heap.size) [.slice Ag0 g.ow.length cg0, .slice Ag1 g.pr.length cg1, .slice Ag2 g.mv.length cg2] 25) ∧ (Bx w_ (w1.heap.size) [.slice none 0 0, .slice none 0 0, .slice none 0 0] 25) ∧ (OwnR w_ (Sx (bX.heap.size) [some (aF.heap.size), obk (aE), obk (aG)]) aD aI 3 (xa : List Int)) ∧ (OwnR w_ (Sx (bX.heap.size) [some (aF.heap.size), obk (aD), obk (aG)]) aE aJ 3 (xp : List Int)) ∧ (OwnLL w_ (bX.heap.size) [some (aF.heap.size), obk (aD), obk (aE)] aG aM 22 3 (g.mv : List (List Int))) ∧ (Bx w_ (aF.heap.size) [.slice aD xa.length aI, .slice aE xp.length aJ, .slice aG g.mv.length aM] 25) ∧ (0 ≤ k) ∧ (k ≤ (g.ow.length : Int)) ∧ (MapT g.ow xa (fun z => 1 - z) k) ∧ (MapT g.pr xp (fun z => z + dualBy g) k) ∧ (xa.length = g.ow.length) ∧ (xp.length = g.pr.length) ∧ (bX.heap.size ≤ w_.heap.size)) _ ⟨0, (g.ow : List Int), cD, cE, (g.pr : List Int), cF, cG, rfl, dG.sb, aS, aQ, aH, aT, bE, bF, bG, (bQ.as (by first | rfl | (simp only [List.cons.injEq, Value.slice.injEq, true_and, and_true]; omega))), ω, ω, map_0, map_0, rfl, rfl, ω⟩ ?_
 clear dG; clear aQ; clear aH; clear aT; clear bE; clear bF; clear bG; clear bQ; clear aS
 intro m_ fX fY ⟨k, xa, aD, aI, xp, aE, aJ, hm164, dH, aK, aR, aN, aO, aL, aA, bY, aB, i173, i174, hxa, hxp, i175, i176, i177⟩
 have := aK.size; have := aN.lt; have := aO.lt; have := aB.lt
 refine sqs ?_
 refine At.rk dH 1 [(27, .bool (decide ((k : Int) < ((g.ow.length : Nat) : Int))))] .n (fun fZ bR => ?_)
 clear dH
 refine At.dn ?_
 refine wp_seq ?_
 refine cond_S bR (t := decide ((k : Int) < ((g.ow.length : Nat) : Int))) rfl (fun cI => ?_) (fun cI => ?_)
 ·have gA := of_decide_eq_true cI
  refine wp_skip ?_
  refine t_n ?_
  have dI := bR.sb (r := [(26, .int .i64 (k)), (25, .int .i64 (((g.ow.length : Nat) : Int))), (4, pt aF.heap.size 0), (3, .bool (decide (7 ∈ g.pr))), (2, pt w1.heap.size 0)])
  clear bR
  refine wp_seq ?_
  refine wp_block ?_
  refine sqs ?_
  refine At.rk dI 2 [(5, .int .i64 (k))] .n (fun gB dJ => ?_)
  clear dI
  refine At.dn ?_
  refine wp_seq ?_
  have hgo := hG.ow k ω ω; have hak := map_at hxa ω ω
  refine At.start ?_
  obtain ⟨gC, eG, gD, eH, gE⟩ := aL.get (k) ω ω (sz := 1) rfl
  obtain ⟨dK, dL, gF, gG, gH⟩ := aL.get (k) ω ω (sz := 1) rfl
  refine At.rk dJ 7 [(35, .pointer (some (dK.add ((k : Int).toNat * 1)))), (34, .int .i64 (1 - gI xa k))] (.l (aB.cell (i := 0) rfl) <| .a k xa.length eG <| .l eH <| .v 34 (show (.int .i64 (IntKind.i64.wrap ((BitVec.ofInt 64 (gI xa k) ^^^ BitVec.ofInt 64 1).toNat : Int)) : Value) = .int .i64 (1 - gI xa k) from (congrArg (Value.int .i64) (xor1 ω))) <| .a k xa.length dL <| .n) (fun gJ dM => ?_)
  clear dJ
  refine At.act dM (storeR (α := Int) (t := 3) (i := k) (ad := dK) (v := .int .i64 (1 - gI xa k)) (1 - gI xa k) κ rfl rfl κ dL aL ω ω) ?_
  rintro d_ v_ gK ⟨rfl, aW, bI⟩
  refine ⟨_, rfl, fun gL dN => ?_⟩
  clear dM; have gM : ((xa).set (k : Int).toNat (1 - gI xa k)).length = (xa).length := List.length_set; have := aW.size; replace aK := aK.gr aW (fun k hk => by have := aL.ge k hk; omega); replace aR := aR.gr aW (fun k hk => by have := aL.ge k hk; omega); replace aN := aN.gr aW (fun e => by have := aL.ge _ e; omega); replace aO := aO.gr aW (fun e => by have := aL.ge _ e; omega)
  replace aA := aA.gr aW (fun k hk => hk.2.1); have bJ := bY.gr aW (fun k hk => hk.2.1); clear bY; replace aB := aB.gr aW (aL.neb (fun g hs => hs.1)); clear aL aW
  refine At.dn ?_
  have dO := dN.sb (r := [(5, .int .i64 (k)), (26, .int .i64 (k)), (25, .int .i64 (((g.ow.length : Nat) : Int))), (4, pt aF.heap.size 0), (3, .bool (decide (7 ∈ g.pr))), (2, pt w1.heap.size 0)])
  clear dN
  refine wp_seq ?_
  have hgp := hG.pr k ω ω; have hpk := map_at hxp ω ω
  refine At.start ?_
  refine At.rk dO 1 [(36, .bool (decide (7 ∈ g.pr)))] .n (fun gN bS => ?_)
  clear dO
  refine At.dn ?_
  refine cond_S bS (t := decide (7 ∈ g.pr)) rfl (fun cJ => ?_) (fun cJ => ?_)
  ·have gO := of_decide_eq_true cJ
   refine At.start ?_
   obtain ⟨gP, eI, gQ, eJ, gR⟩ := aA.get (k) ω ω (sz := 1) rfl
   obtain ⟨dP, dQ, gS, gT, gU⟩ := aA.get (k) ω ω (sz := 1) rfl
   refine At.rk bS 7 [(43, .pointer (some (dP.add ((k : Int).toNat * 1)))), (42, .int .i64 ((gI xp k) - 1))] (.l (aB.cell (i := 1) rfl) <| .a k xp.length eI <| .l eJ <| .w 42 ((gI xp k) - 1) <| .a k xp.length dQ <| .n) (fun gV dR => ?_)
   clear bS
   refine At.act dR (storeR (α := Int) (t := 3) (i := k) (ad := dP) (v := .int .i64 ((gI xp k) - 1)) ((gI xp k) - 1) κ rfl rfl κ dQ aA ω ω) ?_
   rintro d_ v_ gW ⟨rfl, aX, eK⟩
   refine ⟨_, rfl, fun gX dS => ?_⟩
   clear dR; have gY : ((xp).set (k : Int).toNat ((gI xp k) - 1)).length = (xp).length := List.length_set; have := aX.size; replace aK := aK.gr aX (fun k hk => by have := aA.ge k hk; omega); replace aR := aR.gr aX (fun k hk => by have := aA.ge k hk; omega); replace aN := aN.gr aX (fun e => by have := aA.ge _ e; omega); replace aO := aO.gr aX (fun e => by have := aA.ge _ e; omega)
   replace bI := bI.gr aX (fun k hk => hk.2.1); replace bJ := bJ.gr aX (fun k hk => hk.2.2.1); replace aB := aB.gr aX (aA.neb (fun g hs => hs.1)); clear aA aX
   refine At.done rfl ?_
   refine b_n ?_
   refine t_n ?_
   have dT := dS.sb (r := [(26, .int .i64 (k)), (25, .int .i64 (((g.ow.length : Nat) : Int))), (4, pt aF.heap.size 0), (3, .bool (decide (7 ∈ g.pr))), (2, pt w1.heap.size 0)])
   clear dS
   refine At.start ?_
   refine At.rk dT 2 [(26, .int .i64 (k + 1))] (.w 51 (k + 1) <| .n) (fun gZ eL => ?_)
   clear dT
   refine At.dn ?_
   exact ⟨_, ω, (k + 1), ((xa).set (k : Int).toNat (1 - gI xa k) : List Int), aD, aI, ((xp).set (k : Int).toNat ((gI xp k) - 1) : List Int), aE, aJ, rfl, eL.sb, aK, aR, aN, aO, bI, eK, bJ, (aB.as (by first | rfl | (simp only [List.length_set]; done) | (simp; done) | (simp only [List.cons.injEq, Value.slice.injEq, true_and, and_true]; omega))), ω, ω, (map_next hxa ω ω (by rw [hak])), (map_next hxp ω ω (by rw [hpk]; first | (rw [by_hi σ]; omega) | (rw [by_lo σ]))), (by rw [List.length_set]; assumption), (by rw [List.length_set]; assumption), ω⟩
  have hA := of_decide_eq_false cJ
  refine At.start ?_
  obtain ⟨hB, eM, hC, eN, hD⟩ := aA.get (k) ω ω (sz := 1) rfl
  obtain ⟨dU, dV, hE, hF, hH⟩ := aA.get (k) ω ω (sz := 1) rfl
  refine At.rk bS 7 [(50, .pointer (some (dU.add ((k : Int).toNat * 1)))), (49, .int .i64 ((gI xp k) + 1))] (.l (aB.cell (i := 1) rfl) <| .a k xp.length eM <| .l eN <| .w 49 ((gI xp k) + 1) <| .a k xp.length dV <| .n) (fun hI dW => ?_)
  clear bS
  refine At.act dW (storeR (α := Int) (t := 3) (i := k) (ad := dU) (v := .int .i64 ((gI xp k) + 1)) ((gI xp k) + 1) κ rfl rfl κ dV aA ω ω) ?_
  rintro d_ v_ hJ ⟨rfl, aY, eO⟩
  refine ⟨_, rfl, fun hK dX => ?_⟩
  clear dW; have hL : ((xp).set (k : Int).toNat ((gI xp k) + 1)).length = (xp).length := List.length_set; have := aY.size; replace aK := aK.gr aY (fun k hk => by have := aA.ge k hk; omega); replace aR := aR.gr aY (fun k hk => by have := aA.ge k hk; omega); replace aN := aN.gr aY (fun e => by have := aA.ge _ e; omega); replace aO := aO.gr aY (fun e => by have := aA.ge _ e; omega)
  replace bI := bI.gr aY (fun k hk => hk.2.1); replace bJ := bJ.gr aY (fun k hk => hk.2.2.1); replace aB := aB.gr aY (aA.neb (fun g hs => hs.1)); clear aA aY
  refine At.done rfl ?_
  refine b_n ?_
  refine t_n ?_
  have dY := dX.sb (r := [(26, .int .i64 (k)), (25, .int .i64 (((g.ow.length : Nat) : Int))), (4, pt aF.heap.size 0), (3, .bool (decide (7 ∈ g.pr))), (2, pt w1.heap.size 0)])
  clear dX
  refine At.start ?_
  refine At.rk dY 2 [(26, .int .i64 (k + 1))] (.w 51 (k + 1) <| .n) (fun hM eP => ?_)
  clear dY
  refine At.dn ?_
  exact ⟨_, ω, (k + 1), ((xa).set (k : Int).toNat (1 - gI xa k) : List Int), aD, aI, ((xp).set (k : Int).toNat ((gI xp k) + 1) : List Int), aE, aJ, rfl, eP.sb, aK, aR, aN, aO, bI, eO, bJ, (aB.as (by first | rfl | (simp only [List.length_set]; done) | (simp; done) | (simp only [List.cons.injEq, Value.slice.injEq, true_and, and_true]; omega))), ω, ω, (map_next hxa ω ω (by rw [hak])), (map_next hxp ω ω (by rw [hpk]; first | (rw [by_hi σ]; omega) | (rw [by_lo σ]))), (by rw [List.length_set]; assumption), (by rw [List.length_set]; assumption), ω⟩
 have hN := of_decide_eq_false cI
 refine wp_exit ?_
 refine t_e ?_
 clear hm164
 refine t_e ?_
 refine b_e ?_
 refine t_n ?_
 have dZ := bR.sb (r := [(4, pt aF.heap.size 0), (2, pt w1.heap.size 0)]); clear bR
 refine sqs ?_
 refine At.rk dZ 1 [(52, .agg #[.slice aD xa.length aI, .slice aE xp.length aJ, .slice aG g.mv.length aM])] (.l (aB.cell (i := 0) rfl) <| .l (aB.cell (i := 1) rfl) <| .l (aB.cell (i := 2) rfl) <| .n) (fun hO eA => ?_)
 clear dZ
 refine At.store eA (t := 25) (b := w1.heap.size) (off := 0) (v := .agg #[.slice aD xa.length aI, .slice aE xp.length aJ, .slice aG g.mv.length aM]) κ aO κ (fun hP bZ aZ bT eB => ?_)
 clear eA; replace bT : Bx bZ (w1.heap.size) [.slice aD xa.length aI, .slice aE xp.length aJ, .slice aG g.mv.length aM] 25 := bT; have := aZ.size; replace aK := aK.gr aZ (fun k h => by injection h; omega); replace aR := aR.gb aZ ω; replace aN := aN.gb aZ ω; replace aL := aL.gr aZ (fun k hk e => by have := Sx_base hk; injection e; omega)
 replace aA := aA.gr aZ (fun k hk e => by have := Sx_base hk; injection e; omega); have eQ := bY.gr aZ (fun k hk e => by have := Sx_base hk; injection e; omega); clear bY; replace aB := aB.gb aZ ω; clear aO aZ
 refine At.dn ?_
 have eR := eB.sb (r := [(2, pt w1.heap.size 0)]); clear eB
 refine wp_ret ?_
 refine ret_ eR [[.slice aD xa.length aI, .slice aE xp.length aJ, .slice aG g.mv.length aM]] [.agg #[.slice aD xa.length aI, .slice aE xp.length aJ, .slice aG g.mv.length aM]] [(bZ.cell? ⟨w1.heap.size, 0, none⟩ = some (.slice aD xa.length aI)), (bZ.cell? ⟨w1.heap.size, 1, none⟩ = some (.slice aE xp.length aJ)), (bZ.cell? ⟨w1.heap.size, 2, none⟩ = some (.slice aG g.mv.length aM))] κ ⟨(bT.cell (i := 0) rfl), (bT.cell (i := 1) rfl), (bT.cell (i := 2) rfl), trivial⟩ ?_
 rw [dual_yes hR hno, ← map_end hxa ω, ← map_end hxp ω]
 exact ⟨aD, aI, aE, aJ, aG, aM, rfl, aK, (aL.imp (fun g _ hs => ⟨hs.2.1, hs.2.2.1, (by have := Sx_base hs; show w.heap.size ≤ g; omega)⟩)), (aA.imp (fun g _ hs => ⟨hs.2.1, hs.2.2.1, (by have := Sx_base hs; show w.heap.size ≤ g; omega)⟩)), (eQ.imp (fun g _ hs => ⟨hs.2.1, hs.2.2.1, (by have := Sx_base hs; show w.heap.size ≤ g; omega)⟩))⟩
end Go.Proofs.YtkkophhnliplhaaDoor
namespace Go.Proofs.YtkkophhnliplhaaDoor
open Go Go.RowKit
attribute [local irreducible] ofZ fromW wordsD ofD ofW lsD lenW lenN fullW withW lessW hasW hasD inW inD leastD putD onI tzI orS andS minusS orD andD minusD fullD emptyD
set_option maxHeartbeats 4000000 in
theorem example_any {w : World} :
    Calls Tryd.prog 36 #[] w fun e w' => ∃ A0 A1 A2 c0 c1 c2, e = .returned (.agg #[.slice A0 exG9.ow.length c0, .slice A1 exG9.pr.length c1, .slice A2 exG9.mv.length c2]) ∧ Ext w w' ∧ RdG w' 0 w'.heap.size A0 A1 A2 c0 c1 c2 exG9 := by
 refine enter_ (args := []) Tryd.func36 rfl Tryd.ntmps36 (Nat.le_of_ble_eq_true rfl) (fun act0 f0 => ?_)
 have e0 : Ext w w := Ext.refl w
 refine sqs ?_
 refine At.bx f0 0 [.slice none 0 0, .slice none 0 0, .slice none 0 0] 25 (fun w1 g5 bx6 act4 f3 => ?_)
 clear f0; have := g5.size; replace e0 := e0.gn g5; have := bx6.lt; clear g5
 refine At.dn ?_
 refine sqs ?_
 refine At.seq f3 1 [[]] [(1, .slice (some ⟨w1.heap.size, 0, none⟩) 3 3)] (w1.alloc (.cells #[.int .i64 (0), .int .i64 (1), .int .i64 (1)] 3 (0, 0))) [] κ trivial (fun bJ w9 aT aZ => ?_)
 clear f3; have aQ := gr_alloc aT; have := aQ.size; replace e0 := e0.gn aQ; replace bx6 := bx6.gn aQ; have aA : Bx w9 (w1.heap.size) [.int .i64 (0), .int .i64 (1), .int .i64 (1)] 3 := Bx.new aT; have := aA.lt; clear aQ aT
 refine At.seq aZ 1 [[]] [(2, .slice (some ⟨w9.heap.size, 0, none⟩) 3 3)] (w9.alloc (.cells #[.int .i64 (1), .int .i64 (4), .int .i64 (7)] 3 (0, 0))) [] κ trivial (fun bK aJ aU bA => ?_)
 clear aZ; have aO := gr_alloc aU; have := aO.size; replace e0 := e0.gn aO; replace bx6 := bx6.gn aO; replace aA := aA.gn aO; have aB : Bx aJ (w9.heap.size) [.int .i64 (1), .int .i64 (4), .int .i64 (7)] 3 := Bx.new aU; have := aB.lt; clear aO aU
 refine At.seq bA 1 [[]] [(3, .slice (some ⟨aJ.heap.size, 0, none⟩) 2 2)] (aJ.alloc (.cells #[.int .i64 (1), .int .i64 (2)] 3 (0, 0))) [] κ trivial (fun bL aK aV bB => ?_)
 clear bA; have aL := gr_alloc aV; have := aL.size; replace e0 := e0.gn aL; replace bx6 := bx6.gn aL; replace aA := aA.gn aL; replace aB := aB.gn aL; have aC : Bx aK (aJ.heap.size) [.int .i64 (1), .int .i64 (2)] 3 := Bx.new aV; have := aC.lt; clear aL aV
 refine At.seq bB 1 [[]] [(4, .slice (some ⟨aK.heap.size, 0, none⟩) 1 1)] (aK.alloc (.cells #[.int .i64 (0)] 3 (0, 0))) [] κ trivial (fun bM aM aW bC => ?_)
 clear bB; have aI := gr_alloc aW; have := aI.size; replace e0 := e0.gn aI; replace bx6 := bx6.gn aI; replace aA := aA.gn aI; replace aB := aB.gn aI; replace aC := aC.gn aI; have aG : Bx aM (aK.heap.size) [.int .i64 (0)] 3 := Bx.new aW; have := aG.lt; clear aI aW
 refine At.seq bC 1 [[]] [(5, .slice (some ⟨aM.heap.size, 0, none⟩) 2 2)] (aM.alloc (.cells #[.int .i64 (0), .int .i64 (2)] 3 (0, 0))) [] κ trivial (fun bN aD aX bD => ?_)
 clear bC; have aH := gr_alloc aX; have := aH.size; replace e0 := e0.gn aH; replace bx6 := bx6.gn aH; replace aA := aA.gn aH; replace aB := aB.gn aH; replace aC := aC.gn aH; replace aG := aG.gn aH; have aN : Bx aD (aM.heap.size) [.int .i64 (0), .int .i64 (2)] 3 := Bx.new aX; have := aN.lt; clear aH aX
 refine At.seq bD 1 [[]] [(6, .slice (some ⟨aD.heap.size, 0, none⟩) 3 3)] (aD.alloc (.cells #[.slice (some ⟨aJ.heap.size, 0, none⟩) 2 2, .slice (some ⟨aK.heap.size, 0, none⟩) 1 1, .slice (some ⟨aM.heap.size, 0, none⟩) 2 2] 22 (0, 0))) [] κ trivial (fun bO bH aY bE => ?_)
 clear bD; have aE := gr_alloc aY; have := aE.size; replace e0 := e0.gn aE; replace bx6 := bx6.gn aE; replace aA := aA.gn aE; replace aB := aB.gn aE; replace aC := aC.gn aE; replace aG := aG.gn aE; replace aN := aN.gn aE
 have aR : Bx bH (aD.heap.size) [.slice (some ⟨aJ.heap.size, 0, none⟩) 2 2, .slice (some ⟨aK.heap.size, 0, none⟩) 1 1, .slice (some ⟨aM.heap.size, 0, none⟩) 2 2] 22 := Bx.new aY
 have := aR.lt; clear aE aY
 refine At.rk bE 1 [(7, .agg #[.slice (some ⟨w1.heap.size, 0, none⟩) 3 3, .slice (some ⟨w9.heap.size, 0, none⟩) 3 3, .slice (some ⟨aD.heap.size, 0, none⟩) 3 3])] .n (fun bP bF => ?_)
 clear bE
 refine At.store bF (t := 25) (b := w.heap.size) (off := 0) (v := .agg #[.slice (some ⟨w1.heap.size, 0, none⟩) 3 3, .slice (some ⟨w9.heap.size, 0, none⟩) 3 3, .slice (some ⟨aD.heap.size, 0, none⟩) 3 3]) κ bx6 κ (fun bQ aS aF aP bG => ?_)
 clear bF
 replace aP : Bx aS (w.heap.size) [.slice (some ⟨w1.heap.size, 0, none⟩) 3 3, .slice (some ⟨w9.heap.size, 0, none⟩) 3 3, .slice (some ⟨aD.heap.size, 0, none⟩) 3 3] 25 := aP
 have := aF.size; replace e0 := e0.gr aF (fun k h => by injection h; omega); replace aA := aA.gb aF ω; replace aB := aB.gb aF ω; replace aC := aC.gb aF ω; replace aG := aG.gb aF ω; replace aN := aN.gb aF ω; replace aR := aR.gb aF ω; clear bx6 aF
 refine At.dn ?_
 have bI := bG.sb (r := [(0, pt w.heap.size 0)]); clear bG
 refine wp_ret ?_
 refine ret_ bI [[.slice (some ⟨w1.heap.size, 0, none⟩) 3 3, .slice (some ⟨w9.heap.size, 0, none⟩) 3 3, .slice (some ⟨aD.heap.size, 0, none⟩) 3 3]] [.agg #[.slice (some ⟨w1.heap.size, 0, none⟩) 3 3, .slice (some ⟨w9.heap.size, 0, none⟩) 3 3, .slice (some ⟨aD.heap.size, 0, none⟩) 3 3]] [(aS.cell? ⟨w.heap.size, 0, none⟩ = some (.slice (some ⟨w1.heap.size, 0, none⟩) 3 3)), (aS.cell? ⟨w.heap.size, 1, none⟩ = some (.slice (some ⟨w9.heap.size, 0, none⟩) 3 3)), (aS.cell? ⟨w.heap.size, 2, none⟩ = some (.slice (some ⟨aD.heap.size, 0, none⟩) 3 3))] κ ⟨(aP.cell (i := 0) rfl), (aP.cell (i := 1) rfl), (aP.cell (i := 2) rfl), trivial⟩ ?_
 exact ⟨_, _, _, _, _, _, rfl, e0, ((RdG.mk (G := exG9) (Bx.rdI (l := ([0, 1, 1] : List Int)) aA rfl (by first | decide | exact Nat.le_of_ble_eq_true rfl)) (Bx.rdI (l := ([1, 4, 7] : List Int)) aB rfl (by first | decide | exact Nat.le_of_ble_eq_true rfl)) (Bx.rdII (ls := ([([1, 2] : List Int), ([0] : List Int), ([0, 2] : List Int)] : List (List Int))) aR ⟨⟨_, _, rfl, (by decide), (Bx.rdI (l := ([1, 2] : List Int)) aC rfl (by first | decide | exact Nat.le_of_ble_eq_true rfl))⟩, ⟨_, _, rfl, (by decide), (Bx.rdI (l := ([0] : List Int)) aG rfl (by first | decide | exact Nat.le_of_ble_eq_true rfl))⟩, ⟨_, _, rfl, (by decide), (Bx.rdI (l := ([0, 2] : List Int)) aN rfl (by first | decide | exact Nat.le_of_ble_eq_true rfl))⟩, trivial⟩ (by decide)) (by decide) (by decide) (by decide)) : RdG _ 0 _ _ _ _ _ _ _ exG9)⟩
set_option maxHeartbeats 4000000 in
theorem shown09_any {w : World} (rT : RdT w 0 w.heap.size) :
    Calls Tryd.prog 12 #[] w fun e w' => e = .returned (.bool true) ∧ Ext w w' := by
 refine enter_ (args := []) Tryd.func12 rfl Tryd.ntmps12 (Nat.le_of_ble_eq_true rfl) (fun act0 f0 => ?_)
 have e0 : Ext w w := Ext.refl w
 refine sqs ?_
 refine At.rk f0 1 [] .n (fun act2 f1 => ?_)
 clear f0
 refine At.dn ?_
 refine sqs ?_
 refine At.cl f1 (some 12) (example_any) ?_
 rintro e_ dK ⟨A3, A4, A5, c6, c7, c8, rfl, he, r9⟩
 have hex0 : exG9.ow.length = 3 := rfl; have hex1 : exG9.pr.length = 3 := rfl; have hex2 : exG9.mv.length = 3 := rfl; have hek0 := r9.k0; have hek1 := r9.k1; have hek2 := r9.k2
 refine ⟨_, rfl, _, rfl, fun lW iA => ?_⟩
 clear f1; have gQ := gr_ext he; have := gQ.size; replace e0 := e0.gn gQ; have aB := rT.gn gQ; clear rT; clear gQ he
 refine At.bx iA 1 [.slice none 0 0, .slice none 0 0, .slice none 0 0] 25 (fun lX fO hE lY iB => ?_)
 clear iA; have := fO.size; replace e0 := e0.gn fO; replace aB := aB.gn fO; replace r9 := r9.gn fO; have := hE.lt; clear fO
 refine At.store iB (t := 25) (b := dK.heap.size) (off := 0) (v := .agg #[.slice A3 exG9.ow.length c6, .slice A4 exG9.pr.length c7, .slice A5 exG9.mv.length c8]) κ hE κ (fun lZ lB fP aA iC => ?_)
 clear iB; replace aA : Bx lB (dK.heap.size) [.slice A3 exG9.ow.length c6, .slice A4 exG9.pr.length c7, .slice A5 exG9.mv.length c8] 25 := aA; have := fP.size; replace e0 := e0.gr fP (fun k h => by injection h; omega); replace aB := aB.gb fP ω; replace r9 := r9.gb fP ω; clear hE fP
 refine At.dn ?_
 refine sqs ?_
 refine At.rk iC 1 [(14, .agg #[.slice A3 exG9.ow.length c6, .slice A4 exG9.pr.length c7, .slice A5 exG9.mv.length c8])] (.l (aA.cell (i := 0) rfl) <| .l (aA.cell (i := 1) rfl) <| .l (aA.cell (i := 2) rfl) <| .n) (fun mA iD => ?_)
 clear iC
 refine At.cl iD (some 15) (args := #[.agg #[.slice A3 exG9.ow.length c6, .slice A4 exG9.pr.length c7, .slice A5 exG9.mv.length c8]]) (right_any (r9.wide (Nat.zero_le _) ω)) ?_
 rintro e_ aO ⟨rfl, he⟩
 refine ⟨_, rfl, _, rfl, fun mB iE => ?_⟩
 clear iD; have eR := gr_ext he; have := eR.size; replace e0 := e0.gn eR; replace aB := aB.gn eR; replace r9 := r9.gn eR; replace aA := aA.gn eR; clear eR he
 refine At.rk iE 5 [(3, .int .i64 ((rightP exG9).2)), (2, .int .i64 ((rightP exG9).1))] .n (fun mC iF => ?_)
 clear iE
 refine At.dn ?_
 refine sqs ?_
 refine At.rk iF 1 [(18, .agg #[.slice A3 exG9.ow.length c6, .slice A4 exG9.pr.length c7, .slice A5 exG9.mv.length c8])] (.l (aA.cell (i := 0) rfl) <| .l (aA.cell (i := 1) rfl) <| .l (aA.cell (i := 2) rfl) <| .n) (fun mD iG => ?_)
 clear iF
 refine At.cl iG (some 19) (args := #[.agg #[.slice A3 exG9.ow.length c6, .slice A4 exG9.pr.length c7, .slice A5 exG9.mv.length c8]]) (dualM_any (g := exG9) (r9.wide (Nat.zero_le _) ω)) ?_
 rintro e_ aW ⟨aH, cZ, aI, dA, aJ, dB, rfl, he, aC, aD, aE⟩
 have hip61 := dual_inner (inner_len (RdG.mv (r9.wide (Nat.zero_le _) ω))); have := dual_lens exG9
 refine ⟨_, rfl, _, rfl, fun mE iH => ?_⟩
 clear iG; have eS := gr_ext he; have := eS.size; replace e0 := e0.gn eS; replace aB := aB.gn eS; replace r9 := r9.gn eS; replace aA := aA.gn eS; clear eS he
 refine At.bx iH 4 [.slice none 0 0, .slice none 0 0, .slice none 0 0] 25 (fun mF dL hF mG iI => ?_)
 clear iH; have := dL.size; replace e0 := e0.gn dL; replace aB := aB.gn dL; replace r9 := r9.gn dL; replace aA := aA.gn dL; replace aC := aC.grN dL; replace aD := aD.grN dL; replace aE := aE.grN dL; have := hF.lt; clear dL
 refine At.store iI (t := 25) (b := aW.heap.size) (off := 0) (v := .agg #[.slice aH ((dualG exG9).ow.length) cZ, .slice aI ((dualG exG9).pr.length) dA, .slice aJ ((dualG exG9).mv.length) dB]) κ hF κ (fun mH aR dM aF hG => ?_)
 clear iI
 replace aF : Bx aR (aW.heap.size) [.slice aH ((dualG exG9).ow.length) cZ, .slice aI ((dualG exG9).pr.length) dA, .slice aJ ((dualG exG9).mv.length) dB] 25 := aF
 have := dM.size; replace e0 := e0.gr dM (fun k h => by injection h; omega); replace aB := aB.gb dM ω; replace r9 := r9.gb dM ω; replace aA := aA.gb dM ω; replace aC := aC.gr dM (fun k hk => hk.1); replace aD := aD.gr dM (fun k hk => hk.1); replace aE := aE.gr dM (fun k hk => hk.1); clear hF dM
 refine At.dn ?_
 refine wp_seq (cut (fun a_ w_ => ∃ (cH : Nat) (dC : Option Addr) (cI : Option Addr) (cJ : Option Addr) (cK : Option Addr) (gR : Nat) (fQ : Nat) (fR : Nat) (fS : Nat), (Frm 92 a_ [(7, .bool (subB exG9 (inT exG9 (ofW ([0, 2, 9] : List Int))))), (6, .slice (dC) ((subO exG9 (inT exG9 (ofW ([0, 2, 9] : List Int)))).length) (gR)), (5, pt cH 0), (4, pt aW.heap.size 0), (3, .int .i64 ((rightP exG9).2)), (2, .int .i64 ((rightP exG9).1)), (1, pt dK.heap.size 0)]) ∧ (Ext w w_) ∧ (RdT w_ 0 w.heap.size) ∧ (RdG w_ 0 dK.heap.size A3 A4 A5 c6 c7 c8 exG9) ∧ (Bx w_ (dK.heap.size) [.slice A3 exG9.ow.length c6, .slice A4 exG9.pr.length c7, .slice A5 exG9.mv.length c8] 25) ∧ (OwnR w_ (Sx (aO.heap.size) [some (aW.heap.size), obk (aI), obk (aJ), obk (dC), obk (cI), obk (cJ), obk (cK), some (cH)]) aH cZ 3 ((dualG exG9).ow : List Int)) ∧ (OwnR w_ (Sx (aO.heap.size) [some (aW.heap.size), obk (aH), obk (aJ), obk (dC), obk (cI), obk (cJ), obk (cK), some (cH)]) aI dA 3 ((dualG exG9).pr : List Int)) ∧ (OwnLL w_ (aO.heap.size) [some (aW.heap.size), obk (aH), obk (aI), obk (dC), obk (cI), obk (cJ), obk (cK), some (cH)] aJ dB 22 3 ((dualG exG9).mv : List (List Int))) ∧ (Bx w_ (aW.heap.size) [.slice aH ((dualG exG9).ow.length) cZ, .slice aI ((dualG exG9).pr.length) dA, .slice aJ ((dualG exG9).mv.length) dB] 25) ∧ (OwnR w_ (Sx (aR.heap.size) [obk (aH), obk (aI), obk (aJ), obk (cI), obk (cJ), obk (cK), some (cH)]) (dC) (gR) 3 ((subO exG9 (inT exG9 (ofW ([0, 2, 9] : List Int)))) : List Int)) ∧ (OwnR w_ (Sx (aR.heap.size) [obk (aH), obk (aI), obk (aJ), obk (dC), obk (cJ), obk (cK), some (cH)]) (cI) (fQ) 3 ((subG exG9 (inT exG9 (ofW ([0, 2, 9] : List Int)))).ow : List Int)) ∧ (OwnR w_ (Sx (aR.heap.size) [obk (aH), obk (aI), obk (aJ), obk (dC), obk (cI), obk (cK), some (cH)]) (cJ) (fR) 3 ((subG exG9 (inT exG9 (ofW ([0, 2, 9] : List Int)))).pr : List Int)) ∧ (OwnLL w_ (aR.heap.size) [obk (aH), obk (aI), obk (aJ), obk (dC), obk (cI), obk (cJ), some (cH)] (cK) (fS) 22 3 ((subG exG9 (inT exG9 (ofW ([0, 2, 9] : List Int)))).mv : List (List Int))) ∧ (Bx w_ (cH) [.slice (cI) ((subG exG9 (inT exG9 (ofW ([0, 2, 9] : List Int)))).ow.length) (fQ), .slice (cJ) ((subG exG9 (inT exG9 (ofW ([0, 2, 9] : List Int)))).pr.length) (fR), .slice (cK) ((subG exG9 (inT exG9 (ofW ([0, 2, 9] : List Int)))).mv.length) (fS)] 25) ∧ (aR.heap.size ≤ cH) ∧ (aR.heap.size ≤ w_.heap.size)) ?_ ?_)
 ·obtain ⟨iJ, dQ⟩ : ∃ c : List (Addr × Value), c = [(⟨dK.heap.size, 0, none⟩, (.slice A3 exG9.ow.length c6)), (⟨dK.heap.size, 1, none⟩, (.slice A4 exG9.pr.length c7)), (⟨dK.heap.size, 2, none⟩, (.slice A5 exG9.mv.length c8))] := ⟨_, rfl⟩
  have iK : HoldsC iJ aR := by rw [dQ]; exact ⟨(aA.cell (i := 0) rfl), (aA.cell (i := 1) rfl), (aA.cell (i := 2) rfl), trivial⟩
  refine AtH.start iJ 12 _ κ rfl rfl (fun aV iL => ?_)
  have cL := gr_drew iL; have hH := iK.gr cL; have := cL.size; replace e0 := e0.gn cL; replace aB := aB.gn cL; replace r9 := r9.gn cL; replace aA := aA.gn cL; replace aC := aC.gn cL; replace aD := aD.gn cL; replace aE := aE.gn cL; replace aF := aF.gn cL; clear cL iL iK
  refine AtH.rk hH hG [0] 11 [(21, .agg #[.slice A3 exG9.ow.length c6, .slice A4 exG9.pr.length c7, .slice A5 exG9.mv.length c8])] (.l (CsC_at dQ 0 rfl) <| .l (CsC_at dQ 1 rfl) <| .l (CsC_at dQ 2 rfl) <| .n) (fun mI gS => ?_)
  clear hG
  refine AtH.all [1, 8] 10 κ (by simp) ⟨?_, ?_, trivial⟩
  ·refine OneH.seq gS [] [(22, .slice (some ⟨aV.heap.size, 0, none⟩) 3 3)] (aV.alloc (.cells #[.int .i64 (0), .int .i64 (2), .int .i64 (9)] 3 (0, 0))) [] _ rfl κ κ trivial (fun mJ eH hI gT => ?_)
   clear gS; have cM := gr_alloc hI; have hJ := hH.gr cM
   refine ⟨hJ, ?_⟩
   have := cM.size; replace e0 := e0.gn cM; replace aB := aB.gn cM; replace r9 := r9.gn cM; replace aA := aA.gn cM; replace aC := aC.grN cM; replace aD := aD.grN cM; replace aE := aE.grN cM; replace aF := aF.gn cM; have aP : Bx eH (aV.heap.size) [.int .i64 (0), .int .i64 (2), .int .i64 (9)] 3 := Bx.new hI; have := aP.lt; clear cM hI
   refine AtH.all [2, 8] 9 κ (by simp) ⟨?_, ?_, trivial⟩
   ·refine OneH.cl gT (some 23) (args := #[.slice (some ⟨aV.heap.size, 0, none⟩) 3 3]) (of_any (la := ([0, 2, 9] : List Int)) (Bx.rdI (l := ([0, 2, 9] : List Int)) aP rfl (by first | decide | exact Nat.le_of_ble_eq_true rfl))) ?_
    rintro e_ dD ⟨rfl, he⟩
    refine ⟨_, rfl, _, rfl, fun mK gU => ?_⟩
    clear gT; have bR := gr_ext he; have hK := hJ.gr bR; have := bR.size; replace e0 := e0.gn bR; replace aB := aB.gn bR; replace r9 := r9.gn bR; replace aA := aA.gn bR; replace aC := aC.gn bR; replace aD := aD.gn bR; replace aE := aE.gn bR; replace aF := aF.gn bR; replace aP := aP.gn bR; clear bR he
    refine ⟨hK, ?_⟩
    refine AtH.all [3, 8] 8 κ (by simp) ⟨?_, ?_, trivial⟩
    ·refine OneH.cl gU (some 24) (args := #[.agg #[.slice A3 exG9.ow.length c6, .slice A4 exG9.pr.length c7, .slice A5 exG9.mv.length c8], .agg ((ofW ([0, 2, 9] : List Int) : List Int).map wV).toArray]) (subM_any (g := exG9) (s := ofW ([0, 2, 9] : List Int)) (r9.wide (Nat.zero_le _) ω) (ofW_ok _) (aB.wide (Nat.zero_le _) ω)) ?_
     rintro e_ dE ⟨bS, eT, bT, eU, bU, eV, cN, fT, rfl, he, dF, dG, dH, dI⟩
     have hip170 := sub_inner exG9 (ofW ([0, 2, 9] : List Int)); have := sub_lens exG9 (inT exG9 (ofW ([0, 2, 9] : List Int)))
     refine ⟨_, rfl, _, rfl, fun mL iM => ?_⟩
     clear gU; have bV := gr_ext he; have eW := hK.gr bV; have fU := aC.lt; have fV := aD.lt; have fW := aE.lt; have := bV.size; replace e0 := e0.gn bV; replace aB := aB.gn bV; replace r9 := r9.gn bV; replace aA := aA.gn bV
     replace aC : OwnR dE (Sx (aO.heap.size) [obk (bS), obk (bT), obk (bU), obk (cN), some (aV.heap.size), some (aW.heap.size), obk (aI), obk (aJ)]) aH cZ 3 ((dualG exG9).ow : List Int) := aC.grA bV (fun _ _ h => by cases h) (fun k hk hs => ⟨(fun e => by have := dF.ge _ e; omega), (fun e => by have := dG.ge _ e; omega), (fun e => by have := dH.ge _ e; omega), (fun e => by have := dI.ge _ e; omega), hs.1, hs.2.1, hs.2.2.1, hs.2.2.2.1, hs.2.2.2.2⟩)
     replace aD : OwnR dE (Sx (aO.heap.size) [obk (bS), obk (bT), obk (bU), obk (cN), some (aV.heap.size), some (aW.heap.size), obk (aH), obk (aJ)]) aI dA 3 ((dualG exG9).pr : List Int) := aD.grA bV (fun _ _ h => by cases h) (fun k hk hs => ⟨(fun e => by have := dF.ge _ e; omega), (fun e => by have := dG.ge _ e; omega), (fun e => by have := dH.ge _ e; omega), (fun e => by have := dI.ge _ e; omega), hs.1, hs.2.1, hs.2.2.1, hs.2.2.2.1, hs.2.2.2.2⟩)
     replace aE : OwnLL dE (aO.heap.size) [obk (bS), obk (bT), obk (bU), obk (cN), some (aV.heap.size), some (aW.heap.size), obk (aH), obk (aI)] aJ dB 22 3 ((dualG exG9).mv : List (List Int)) := aE.grA bV (fun _ _ h => by cases h) (fun k hk hs => ⟨(fun e => by have := dF.ge _ e; omega), (fun e => by have := dG.ge _ e; omega), (fun e => by have := dH.ge _ e; omega), (fun e => by have := dI.ge _ e; omega), hs.1, hs.2.1, hs.2.2.1, hs.2.2.2.1, hs.2.2.2.2⟩)
     replace aF := aF.gn bV; replace aP := aP.gn bV
     replace dF : OwnR dE (Sx (dD.heap.size) [obk (aH), obk (aI), obk (aJ), obk (bT), obk (bU), obk (cN)]) bS eT 3 ((subG exG9 (inT exG9 (ofW ([0, 2, 9] : List Int)))).ow : List Int) := dF.imp (fun g _ hs => ⟨(fun e => by have := fU _ e; have := Sx_base hs; omega), (fun e => by have := fV _ e; have := Sx_base hs; omega), (fun e => by have := fW _ e; have := Sx_base hs; omega), hs⟩)
     replace dG : OwnR dE (Sx (dD.heap.size) [obk (aH), obk (aI), obk (aJ), obk (bS), obk (bU), obk (cN)]) bT eU 3 ((subG exG9 (inT exG9 (ofW ([0, 2, 9] : List Int)))).pr : List Int) := dG.imp (fun g _ hs => ⟨(fun e => by have := fU _ e; have := Sx_base hs; omega), (fun e => by have := fV _ e; have := Sx_base hs; omega), (fun e => by have := fW _ e; have := Sx_base hs; omega), hs⟩)
     replace dH : OwnLL dE (dD.heap.size) [obk (aH), obk (aI), obk (aJ), obk (bS), obk (bT), obk (cN)] bU eV 22 3 ((subG exG9 (inT exG9 (ofW ([0, 2, 9] : List Int)))).mv : List (List Int)) := dH.imp (fun g _ hs => ⟨(fun e => by have := fU _ e; have := Sx_base hs; omega), (fun e => by have := fV _ e; have := Sx_base hs; omega), (fun e => by have := fW _ e; have := Sx_base hs; omega), hs⟩)
     replace dI : OwnR dE (Sx (dD.heap.size) [obk (aH), obk (aI), obk (aJ), obk (bS), obk (bT), obk (bU)]) cN fT 3 ((subO exG9 (inT exG9 (ofW ([0, 2, 9] : List Int)))) : List Int) := dI.imp (fun g _ hs => ⟨(fun e => by have := fU _ e; have := Sx_base hs; omega), (fun e => by have := fV _ e; have := Sx_base hs; omega), (fun e => by have := fW _ e; have := Sx_base hs; omega), hs⟩)
     clear fU fV fW; clear bV he
     refine ⟨eW, ?_⟩
     refine AtH.rk eW iM [4] 7 [(20, .tuple #[.agg #[.slice bS ((subG exG9 (inT exG9 (ofW ([0, 2, 9] : List Int)))).ow.length) eT, .slice bT ((subG exG9 (inT exG9 (ofW ([0, 2, 9] : List Int)))).pr.length) eU, .slice bU ((subG exG9 (inT exG9 (ofW ([0, 2, 9] : List Int)))).mv.length) eV], .slice cN ((subO exG9 (inT exG9 (ofW ([0, 2, 9] : List Int)))).length) fT, .bool (subB exG9 (inT exG9 (ofW ([0, 2, 9] : List Int))))])] .n (fun mM iN => ?_)
     clear iM
     refine AtH.rk eW iN [5] 6 [(25, .agg #[.slice bS ((subG exG9 (inT exG9 (ofW ([0, 2, 9] : List Int)))).ow.length) eT, .slice bT ((subG exG9 (inT exG9 (ofW ([0, 2, 9] : List Int)))).pr.length) eU, .slice bU ((subG exG9 (inT exG9 (ofW ([0, 2, 9] : List Int)))).mv.length) eV])] .n (fun mN iO => ?_)
     clear iN
     refine AtH.rk eW iO [6] 5 [(26, .slice cN ((subO exG9 (inT exG9 (ofW ([0, 2, 9] : List Int)))).length) fT)] .n (fun mO iP => ?_)
     clear iO
     refine AtH.rk eW iP [7] 4 [(27, .bool (subB exG9 (inT exG9 (ofW ([0, 2, 9] : List Int)))))] .n (fun mP iQ => ?_)
     clear iP
     refine AtH.all [8] 3 κ (by simp) ⟨?_, trivial⟩
     refine OneH.bx iQ eW 5 [.slice none 0 0, .slice none 0 0, .slice none 0 0] 25 (fun mQ bE hL lC mR iR => ?_)
     clear iQ; have := bE.size; replace e0 := e0.gn bE; replace aB := aB.gn bE; replace r9 := r9.gn bE; replace aA := aA.gn bE; replace aC := aC.grN bE; replace aD := aD.grN bE; replace aE := aE.grN bE; replace aF := aF.gn bE; replace aP := aP.gn bE; replace dF := dF.grN bE; replace dG := dG.grN bE; replace dH := dH.grN bE; replace dI := dI.grN bE; have := hL.lt; clear bE
     refine AtH.all [9] 2 κ (by simp) ⟨?_, trivial⟩
     refine OneH.store iR (t := 25) (b := dE.heap.size) (off := 0) (v := .agg #[.slice bS ((subG exG9 (inT exG9 (ofW ([0, 2, 9] : List Int)))).ow.length) eT, .slice bT ((subG exG9 (inT exG9 (ofW ([0, 2, 9] : List Int)))).pr.length) eU, .slice bU ((subG exG9 (inT exG9 (ofW ([0, 2, 9] : List Int)))).mv.length) eV]) _ rfl κ hL κ (fun mS lD aY hM iS => ?_)
     clear iR
     replace hM : Bx lD (dE.heap.size) [.slice bS ((subG exG9 (inT exG9 (ofW ([0, 2, 9] : List Int)))).ow.length) eT, .slice bT ((subG exG9 (inT exG9 (ofW ([0, 2, 9] : List Int)))).pr.length) eU, .slice bU ((subG exG9 (inT exG9 (ofW ([0, 2, 9] : List Int)))).mv.length) eV] 25 := hM
     have gV := lC.gr' aY (by rw [dQ]; exact ⟨(by simp only [add_block]; omega), (by simp only [add_block]; omega), (by simp only [add_block]; omega), trivial⟩)
     have := aY.size; replace e0 := e0.gr aY (fun k h => by injection h; omega); replace aB := aB.gb aY ω; replace r9 := r9.gb aY ω; replace aA := aA.gb aY ω; replace aC := aC.gr aY (fun k hk => hk.1); replace aD := aD.gr aY (fun k hk => hk.1); replace aE := aE.gr aY (fun k hk => hk.1); replace aF := aF.gb aY ω; replace aP := aP.gb aY ω; replace dF := dF.gr aY (fun k hk => hk.1)
     replace dG := dG.gr aY (fun k hk => hk.1); replace dH := dH.gr aY (fun k hk => hk.1); replace dI := dI.gr aY (fun k hk => hk.1); clear hL aY
     refine ⟨gV, ?_⟩
     refine AtH.rk gV iS [10] 1 [(6, .slice cN ((subO exG9 (inT exG9 (ofW ([0, 2, 9] : List Int)))).length) fT)] .n (fun mT iT => ?_)
     clear iS
     refine AtH.rk gV iT [11] 0 [(7, .bool (subB exG9 (inT exG9 (ofW ([0, 2, 9] : List Int)))))] .n (fun mU lE => ?_)
     clear iT
     refine AtH.done κ ?_
     clear gV
     refine t_n ?_
     exact ⟨dE.heap.size, cN, bS, bT, bU, fT, eT, eU, eV, lE.sb, e0, aB, r9, aA, (aC.imp (fun g _ hs => ⟨hs.2.2.2.2.2.2.1, hs.2.2.2.2.2.2.2.1, hs.2.2.2.2.2.2.2.2.1, hs.2.2.2.2.1, hs.2.1, hs.2.2.1, hs.2.2.2.1, hs.1, (by have := Sx_base hs; show aO.heap.size ≤ g; omega)⟩)), (aD.imp (fun g _ hs => ⟨hs.2.2.2.2.2.2.1, hs.2.2.2.2.2.2.2.1, hs.2.2.2.2.2.2.2.2.1, hs.2.2.2.2.1, hs.2.1, hs.2.2.1, hs.2.2.2.1, hs.1, (by have := Sx_base hs; show aO.heap.size ≤ g; omega)⟩)), (aE.imp (fun g _ hs => ⟨hs.2.2.2.2.2.2.1, hs.2.2.2.2.2.2.2.1, hs.2.2.2.2.2.2.2.2.1, hs.2.2.2.2.1, hs.2.1, hs.2.2.1, hs.2.2.2.1, hs.1, (by have := Sx_base hs; show aO.heap.size ≤ g; omega)⟩)), aF, (dI.imp (fun g _ hs => ⟨hs.2.1, hs.2.2.1, hs.2.2.2.1, hs.2.2.2.2.1, hs.2.2.2.2.2.1, hs.2.2.2.2.2.2.1, hs.1, (by have := Sx_base hs; show aR.heap.size ≤ g; omega)⟩)), (dF.imp (fun g _ hs => ⟨hs.2.1, hs.2.2.1, hs.2.2.2.1, hs.2.2.2.2.2.2.1, hs.2.2.2.2.1, hs.2.2.2.2.2.1, hs.1, (by have := Sx_base hs; show aR.heap.size ≤ g; omega)⟩)), (dG.imp (fun g _ hs => ⟨hs.2.1, hs.2.2.1, hs.2.2.2.1, hs.2.2.2.2.2.2.1, hs.2.2.2.2.1, hs.2.2.2.2.2.1, hs.1, (by have := Sx_base hs; show aR.heap.size ≤ g; omega)⟩)), (dH.imp (fun g _ hs => ⟨hs.2.1, hs.2.2.1, hs.2.2.2.1, hs.2.2.2.2.2.2.1, hs.2.2.2.2.1, hs.2.2.2.2.2.1, hs.1, (by have := Sx_base hs; show aR.heap.size ≤ g; omega)⟩)), hM, ω, ω⟩
    refine OneH.bx gU hK 5 [.slice none 0 0, .slice none 0 0, .slice none 0 0] 25 (fun gW cO fX lF mV iU => ?_)
    clear gU; have := cO.size; replace e0 := e0.gn cO; replace aB := aB.gn cO; replace r9 := r9.gn cO; replace aA := aA.gn cO; replace aC := aC.grN cO; replace aD := aD.grN cO; replace aE := aE.grN cO; replace aF := aF.gn cO; replace aP := aP.gn cO; have := fX.lt; clear cO
    refine AtH.all [3] 7 κ (by simp) ⟨?_, trivial⟩
    refine OneH.cl iU (some 24) (args := #[.agg #[.slice A3 exG9.ow.length c6, .slice A4 exG9.pr.length c7, .slice A5 exG9.mv.length c8], .agg ((ofW ([0, 2, 9] : List Int) : List Int).map wV).toArray]) (subM_any (g := exG9) (s := ofW ([0, 2, 9] : List Int)) (r9.wide (Nat.zero_le _) ω) (ofW_ok _) (aB.wide (Nat.zero_le _) ω)) ?_
    rintro e_ eI ⟨bW, eX, bX, eY, bY, eZ, cP, fY, rfl, he, dR, dS, dT, dU⟩
    have hip277 := sub_inner exG9 (ofW ([0, 2, 9] : List Int)); have := sub_lens exG9 (inT exG9 (ofW ([0, 2, 9] : List Int)))
    refine ⟨_, rfl, _, rfl, fun mW iV => ?_⟩
    clear iU; have bJ := gr_ext he; have fA := lF.gr bJ; have fZ := aC.lt; have gA := aD.lt; have gB := aE.lt; have := bJ.size; replace e0 := e0.gn bJ; replace aB := aB.gn bJ; replace r9 := r9.gn bJ; replace aA := aA.gn bJ
    replace aC : OwnR eI (Sx (aO.heap.size) [obk (bW), obk (bX), obk (bY), obk (cP), some (dD.heap.size), some (aV.heap.size), some (aW.heap.size), obk (aI), obk (aJ)]) aH cZ 3 ((dualG exG9).ow : List Int) := aC.grA bJ (fun _ _ h => by cases h) (fun k hk hs => ⟨(fun e => by have := dR.ge _ e; omega), (fun e => by have := dS.ge _ e; omega), (fun e => by have := dT.ge _ e; omega), (fun e => by have := dU.ge _ e; omega), hs.1, hs.2.1, hs.2.2.1, hs.2.2.2.1, hs.2.2.2.2.1, hs.2.2.2.2.2⟩)
    replace aD : OwnR eI (Sx (aO.heap.size) [obk (bW), obk (bX), obk (bY), obk (cP), some (dD.heap.size), some (aV.heap.size), some (aW.heap.size), obk (aH), obk (aJ)]) aI dA 3 ((dualG exG9).pr : List Int) := aD.grA bJ (fun _ _ h => by cases h) (fun k hk hs => ⟨(fun e => by have := dR.ge _ e; omega), (fun e => by have := dS.ge _ e; omega), (fun e => by have := dT.ge _ e; omega), (fun e => by have := dU.ge _ e; omega), hs.1, hs.2.1, hs.2.2.1, hs.2.2.2.1, hs.2.2.2.2.1, hs.2.2.2.2.2⟩)
    replace aE : OwnLL eI (aO.heap.size) [obk (bW), obk (bX), obk (bY), obk (cP), some (dD.heap.size), some (aV.heap.size), some (aW.heap.size), obk (aH), obk (aI)] aJ dB 22 3 ((dualG exG9).mv : List (List Int)) := aE.grA bJ (fun _ _ h => by cases h) (fun k hk hs => ⟨(fun e => by have := dR.ge _ e; omega), (fun e => by have := dS.ge _ e; omega), (fun e => by have := dT.ge _ e; omega), (fun e => by have := dU.ge _ e; omega), hs.1, hs.2.1, hs.2.2.1, hs.2.2.2.1, hs.2.2.2.2.1, hs.2.2.2.2.2⟩)
    replace aF := aF.gn bJ; replace aP := aP.gn bJ; replace fX := fX.gn bJ
    replace dR : OwnR eI (Sx (gW.heap.size) [obk (aH), obk (aI), obk (aJ), obk (bX), obk (bY), obk (cP)]) bW eX 3 ((subG exG9 (inT exG9 (ofW ([0, 2, 9] : List Int)))).ow : List Int) := dR.imp (fun g _ hs => ⟨(fun e => by have := fZ _ e; have := Sx_base hs; omega), (fun e => by have := gA _ e; have := Sx_base hs; omega), (fun e => by have := gB _ e; have := Sx_base hs; omega), hs⟩)
    replace dS : OwnR eI (Sx (gW.heap.size) [obk (aH), obk (aI), obk (aJ), obk (bW), obk (bY), obk (cP)]) bX eY 3 ((subG exG9 (inT exG9 (ofW ([0, 2, 9] : List Int)))).pr : List Int) := dS.imp (fun g _ hs => ⟨(fun e => by have := fZ _ e; have := Sx_base hs; omega), (fun e => by have := gA _ e; have := Sx_base hs; omega), (fun e => by have := gB _ e; have := Sx_base hs; omega), hs⟩)
    replace dT : OwnLL eI (gW.heap.size) [obk (aH), obk (aI), obk (aJ), obk (bW), obk (bX), obk (cP)] bY eZ 22 3 ((subG exG9 (inT exG9 (ofW ([0, 2, 9] : List Int)))).mv : List (List Int)) := dT.imp (fun g _ hs => ⟨(fun e => by have := fZ _ e; have := Sx_base hs; omega), (fun e => by have := gA _ e; have := Sx_base hs; omega), (fun e => by have := gB _ e; have := Sx_base hs; omega), hs⟩)
    replace dU : OwnR eI (Sx (gW.heap.size) [obk (aH), obk (aI), obk (aJ), obk (bW), obk (bX), obk (bY)]) cP fY 3 ((subO exG9 (inT exG9 (ofW ([0, 2, 9] : List Int)))) : List Int) := dU.imp (fun g _ hs => ⟨(fun e => by have := fZ _ e; have := Sx_base hs; omega), (fun e => by have := gA _ e; have := Sx_base hs; omega), (fun e => by have := gB _ e; have := Sx_base hs; omega), hs⟩)
    clear fZ gA gB; clear bJ he
    refine ⟨fA, ?_⟩
    refine AtH.rk fA iV [4] 6 [(20, .tuple #[.agg #[.slice bW ((subG exG9 (inT exG9 (ofW ([0, 2, 9] : List Int)))).ow.length) eX, .slice bX ((subG exG9 (inT exG9 (ofW ([0, 2, 9] : List Int)))).pr.length) eY, .slice bY ((subG exG9 (inT exG9 (ofW ([0, 2, 9] : List Int)))).mv.length) eZ], .slice cP ((subO exG9 (inT exG9 (ofW ([0, 2, 9] : List Int)))).length) fY, .bool (subB exG9 (inT exG9 (ofW ([0, 2, 9] : List Int))))])] .n (fun mX iW => ?_)
    clear iV
    refine AtH.rk fA iW [5] 5 [(25, .agg #[.slice bW ((subG exG9 (inT exG9 (ofW ([0, 2, 9] : List Int)))).ow.length) eX, .slice bX ((subG exG9 (inT exG9 (ofW ([0, 2, 9] : List Int)))).pr.length) eY, .slice bY ((subG exG9 (inT exG9 (ofW ([0, 2, 9] : List Int)))).mv.length) eZ])] .n (fun mY iX => ?_)
    clear iW
    refine AtH.rk fA iX [6] 4 [(26, .slice cP ((subO exG9 (inT exG9 (ofW ([0, 2, 9] : List Int)))).length) fY)] .n (fun mZ iY => ?_)
    clear iX
    refine AtH.rk fA iY [7] 3 [(27, .bool (subB exG9 (inT exG9 (ofW ([0, 2, 9] : List Int)))))] .n (fun nA iZ => ?_)
    clear iY
    refine AtH.all [9] 2 κ (by simp) ⟨?_, trivial⟩
    refine OneH.store iZ (t := 25) (b := dD.heap.size) (off := 0) (v := .agg #[.slice bW ((subG exG9 (inT exG9 (ofW ([0, 2, 9] : List Int)))).ow.length) eX, .slice bX ((subG exG9 (inT exG9 (ofW ([0, 2, 9] : List Int)))).pr.length) eY, .slice bY ((subG exG9 (inT exG9 (ofW ([0, 2, 9] : List Int)))).mv.length) eZ]) _ rfl κ fX κ (fun nB lG aZ hN jA => ?_)
    clear iZ
    replace hN : Bx lG (dD.heap.size) [.slice bW ((subG exG9 (inT exG9 (ofW ([0, 2, 9] : List Int)))).ow.length) eX, .slice bX ((subG exG9 (inT exG9 (ofW ([0, 2, 9] : List Int)))).pr.length) eY, .slice bY ((subG exG9 (inT exG9 (ofW ([0, 2, 9] : List Int)))).mv.length) eZ] 25 := hN
    have gX := fA.gr' aZ (by rw [dQ]; exact ⟨(by simp only [add_block]; omega), (by simp only [add_block]; omega), (by simp only [add_block]; omega), trivial⟩); have := aZ.size; replace e0 := e0.gr aZ (fun k h => by injection h; omega); replace aB := aB.gb aZ ω; replace r9 := r9.gb aZ ω; replace aA := aA.gb aZ ω; replace aC := aC.gr aZ (fun k hk => hk.2.2.2.2.1)
    replace aD := aD.gr aZ (fun k hk => hk.2.2.2.2.1); replace aE := aE.gr aZ (fun k hk => hk.2.2.2.2.1); replace aF := aF.gb aZ ω; replace aP := aP.gb aZ ω; replace dR := dR.gr aZ (fun k hk e => by have := Sx_base hk; injection e; omega); replace dS := dS.gr aZ (fun k hk e => by have := Sx_base hk; injection e; omega); replace dT := dT.gr aZ (fun k hk e => by have := Sx_base hk; injection e; omega)
    replace dU := dU.gr aZ (fun k hk e => by have := Sx_base hk; injection e; omega); clear fX aZ
    refine ⟨gX, ?_⟩
    refine AtH.rk gX jA [10] 1 [(6, .slice cP ((subO exG9 (inT exG9 (ofW ([0, 2, 9] : List Int)))).length) fY)] .n (fun nC jB => ?_)
    clear jA
    refine AtH.rk gX jB [11] 0 [(7, .bool (subB exG9 (inT exG9 (ofW ([0, 2, 9] : List Int)))))] .n (fun nD lH => ?_)
    clear jB
    refine AtH.done κ ?_
    clear gX
    refine t_n ?_
    exact ⟨dD.heap.size, cP, bW, bX, bY, fY, eX, eY, eZ, lH.sb, e0, aB, r9, aA, (aC.imp (fun g _ hs => ⟨hs.2.2.2.2.2.2.1, hs.2.2.2.2.2.2.2.1, hs.2.2.2.2.2.2.2.2.1, hs.2.2.2.1, hs.1, hs.2.1, hs.2.2.1, hs.2.2.2.2.1, (by have := Sx_base hs; show aO.heap.size ≤ g; omega)⟩)), (aD.imp (fun g _ hs => ⟨hs.2.2.2.2.2.2.1, hs.2.2.2.2.2.2.2.1, hs.2.2.2.2.2.2.2.2.1, hs.2.2.2.1, hs.1, hs.2.1, hs.2.2.1, hs.2.2.2.2.1, (by have := Sx_base hs; show aO.heap.size ≤ g; omega)⟩)), (aE.imp (fun g _ hs => ⟨hs.2.2.2.2.2.2.1, hs.2.2.2.2.2.2.2.1, hs.2.2.2.2.2.2.2.2.1, hs.2.2.2.1, hs.1, hs.2.1, hs.2.2.1, hs.2.2.2.2.1, (by have := Sx_base hs; show aO.heap.size ≤ g; omega)⟩)), aF, (dU.imp (fun g _ hs => ⟨hs.1, hs.2.1, hs.2.2.1, hs.2.2.2.1, hs.2.2.2.2.1, hs.2.2.2.2.2.1, (fun e => by have := Sx_base hs; injection e; omega), (by have := Sx_base hs; show aR.heap.size ≤ g; omega)⟩)), (dR.imp (fun g _ hs => ⟨hs.1, hs.2.1, hs.2.2.1, hs.2.2.2.2.2.1, hs.2.2.2.1, hs.2.2.2.2.1, (fun e => by have := Sx_base hs; injection e; omega), (by have := Sx_base hs; show aR.heap.size ≤ g; omega)⟩)), (dS.imp (fun g _ hs => ⟨hs.1, hs.2.1, hs.2.2.1, hs.2.2.2.2.2.1, hs.2.2.2.1, hs.2.2.2.2.1, (fun e => by have := Sx_base hs; injection e; omega), (by have := Sx_base hs; show aR.heap.size ≤ g; omega)⟩)), (dT.imp (fun g _ hs => ⟨hs.1, hs.2.1, hs.2.2.1, hs.2.2.2.2.2.1, hs.2.2.2.1, hs.2.2.2.2.1, (fun e => by have := Sx_base hs; injection e; omega), (by have := Sx_base hs; show aR.heap.size ≤ g; omega)⟩)), hN, ω, ω⟩
   refine OneH.bx gT hJ 5 [.slice none 0 0, .slice none 0 0, .slice none 0 0] 25 (fun nE cQ eJ lI nF jC => ?_)
   clear gT; have := cQ.size; replace e0 := e0.gn cQ; replace aB := aB.gn cQ; replace r9 := r9.gn cQ; replace aA := aA.gn cQ; replace aC := aC.grN cQ; replace aD := aD.grN cQ; replace aE := aE.grN cQ; replace aF := aF.gn cQ; replace aP := aP.gn cQ; have := eJ.lt; clear cQ
   refine AtH.all [2] 8 κ (by simp) ⟨?_, trivial⟩
   refine OneH.cl jC (some 23) (args := #[.slice (some ⟨aV.heap.size, 0, none⟩) 3 3]) (of_any (la := ([0, 2, 9] : List Int)) (Bx.rdI (l := ([0, 2, 9] : List Int)) aP rfl (by first | decide | exact Nat.le_of_ble_eq_true rfl))) ?_
   rintro e_ gY ⟨rfl, he⟩
   refine ⟨_, rfl, _, rfl, fun nG jD => ?_⟩
   clear jC; have bK := gr_ext he; have jE := lI.gr bK; have := bK.size; replace e0 := e0.gn bK; replace aB := aB.gn bK; replace r9 := r9.gn bK; replace aA := aA.gn bK; replace aC := aC.gn bK; replace aD := aD.gn bK; replace aE := aE.gn bK; replace aF := aF.gn bK; replace aP := aP.gn bK; replace eJ := eJ.gn bK; clear bK he
   refine ⟨jE, ?_⟩
   refine AtH.all [3] 7 κ (by simp) ⟨?_, trivial⟩
   refine OneH.cl jD (some 24) (args := #[.agg #[.slice A3 exG9.ow.length c6, .slice A4 exG9.pr.length c7, .slice A5 exG9.mv.length c8], .agg ((ofW ([0, 2, 9] : List Int) : List Int).map wV).toArray]) (subM_any (g := exG9) (s := ofW ([0, 2, 9] : List Int)) (r9.wide (Nat.zero_le _) ω) (ofW_ok _) (aB.wide (Nat.zero_le _) ω)) ?_
   rintro e_ eK ⟨bZ, fB, cA, fC, cB, fD, cR, gC, rfl, he, dV, dW, dX, dY⟩
   have hip379 := sub_inner exG9 (ofW ([0, 2, 9] : List Int)); have := sub_lens exG9 (inT exG9 (ofW ([0, 2, 9] : List Int)))
   refine ⟨_, rfl, _, rfl, fun nH jF => ?_⟩
   clear jD; have bL := gr_ext he; have fE := jE.gr bL; have gD := aC.lt; have gE := aD.lt; have gF := aE.lt; have := bL.size; replace e0 := e0.gn bL; replace aB := aB.gn bL; replace r9 := r9.gn bL; replace aA := aA.gn bL
   replace aC : OwnR eK (Sx (aO.heap.size) [obk (bZ), obk (cA), obk (cB), obk (cR), some (eH.heap.size), some (aV.heap.size), some (aW.heap.size), obk (aI), obk (aJ)]) aH cZ 3 ((dualG exG9).ow : List Int) := aC.grA bL (fun _ _ h => by cases h) (fun k hk hs => ⟨(fun e => by have := dV.ge _ e; omega), (fun e => by have := dW.ge _ e; omega), (fun e => by have := dX.ge _ e; omega), (fun e => by have := dY.ge _ e; omega), hs.1, hs.2.1, hs.2.2.1, hs.2.2.2.1, hs.2.2.2.2.1, hs.2.2.2.2.2⟩)
   replace aD : OwnR eK (Sx (aO.heap.size) [obk (bZ), obk (cA), obk (cB), obk (cR), some (eH.heap.size), some (aV.heap.size), some (aW.heap.size), obk (aH), obk (aJ)]) aI dA 3 ((dualG exG9).pr : List Int) := aD.grA bL (fun _ _ h => by cases h) (fun k hk hs => ⟨(fun e => by have := dV.ge _ e; omega), (fun e => by have := dW.ge _ e; omega), (fun e => by have := dX.ge _ e; omega), (fun e => by have := dY.ge _ e; omega), hs.1, hs.2.1, hs.2.2.1, hs.2.2.2.1, hs.2.2.2.2.1, hs.2.2.2.2.2⟩)
   replace aE : OwnLL eK (aO.heap.size) [obk (bZ), obk (cA), obk (cB), obk (cR), some (eH.heap.size), some (aV.heap.size), some (aW.heap.size), obk (aH), obk (aI)] aJ dB 22 3 ((dualG exG9).mv : List (List Int)) := aE.grA bL (fun _ _ h => by cases h) (fun k hk hs => ⟨(fun e => by have := dV.ge _ e; omega), (fun e => by have := dW.ge _ e; omega), (fun e => by have := dX.ge _ e; omega), (fun e => by have := dY.ge _ e; omega), hs.1, hs.2.1, hs.2.2.1, hs.2.2.2.1, hs.2.2.2.2.1, hs.2.2.2.2.2⟩)
   replace aF := aF.gn bL; replace aP := aP.gn bL; replace eJ := eJ.gn bL
   replace dV : OwnR eK (Sx (gY.heap.size) [obk (aH), obk (aI), obk (aJ), obk (cA), obk (cB), obk (cR)]) bZ fB 3 ((subG exG9 (inT exG9 (ofW ([0, 2, 9] : List Int)))).ow : List Int) := dV.imp (fun g _ hs => ⟨(fun e => by have := gD _ e; have := Sx_base hs; omega), (fun e => by have := gE _ e; have := Sx_base hs; omega), (fun e => by have := gF _ e; have := Sx_base hs; omega), hs⟩)
   replace dW : OwnR eK (Sx (gY.heap.size) [obk (aH), obk (aI), obk (aJ), obk (bZ), obk (cB), obk (cR)]) cA fC 3 ((subG exG9 (inT exG9 (ofW ([0, 2, 9] : List Int)))).pr : List Int) := dW.imp (fun g _ hs => ⟨(fun e => by have := gD _ e; have := Sx_base hs; omega), (fun e => by have := gE _ e; have := Sx_base hs; omega), (fun e => by have := gF _ e; have := Sx_base hs; omega), hs⟩)
   replace dX : OwnLL eK (gY.heap.size) [obk (aH), obk (aI), obk (aJ), obk (bZ), obk (cA), obk (cR)] cB fD 22 3 ((subG exG9 (inT exG9 (ofW ([0, 2, 9] : List Int)))).mv : List (List Int)) := dX.imp (fun g _ hs => ⟨(fun e => by have := gD _ e; have := Sx_base hs; omega), (fun e => by have := gE _ e; have := Sx_base hs; omega), (fun e => by have := gF _ e; have := Sx_base hs; omega), hs⟩)
   replace dY : OwnR eK (Sx (gY.heap.size) [obk (aH), obk (aI), obk (aJ), obk (bZ), obk (cA), obk (cB)]) cR gC 3 ((subO exG9 (inT exG9 (ofW ([0, 2, 9] : List Int)))) : List Int) := dY.imp (fun g _ hs => ⟨(fun e => by have := gD _ e; have := Sx_base hs; omega), (fun e => by have := gE _ e; have := Sx_base hs; omega), (fun e => by have := gF _ e; have := Sx_base hs; omega), hs⟩)
   clear gD gE gF; clear bL he
   refine ⟨fE, ?_⟩
   refine AtH.rk fE jF [4] 6 [(20, .tuple #[.agg #[.slice bZ ((subG exG9 (inT exG9 (ofW ([0, 2, 9] : List Int)))).ow.length) fB, .slice cA ((subG exG9 (inT exG9 (ofW ([0, 2, 9] : List Int)))).pr.length) fC, .slice cB ((subG exG9 (inT exG9 (ofW ([0, 2, 9] : List Int)))).mv.length) fD], .slice cR ((subO exG9 (inT exG9 (ofW ([0, 2, 9] : List Int)))).length) gC, .bool (subB exG9 (inT exG9 (ofW ([0, 2, 9] : List Int))))])] .n (fun nI jG => ?_)
   clear jF
   refine AtH.rk fE jG [5] 5 [(25, .agg #[.slice bZ ((subG exG9 (inT exG9 (ofW ([0, 2, 9] : List Int)))).ow.length) fB, .slice cA ((subG exG9 (inT exG9 (ofW ([0, 2, 9] : List Int)))).pr.length) fC, .slice cB ((subG exG9 (inT exG9 (ofW ([0, 2, 9] : List Int)))).mv.length) fD])] .n (fun nJ jH => ?_)
   clear jG
   refine AtH.rk fE jH [6] 4 [(26, .slice cR ((subO exG9 (inT exG9 (ofW ([0, 2, 9] : List Int)))).length) gC)] .n (fun nK jI => ?_)
   clear jH
   refine AtH.rk fE jI [7] 3 [(27, .bool (subB exG9 (inT exG9 (ofW ([0, 2, 9] : List Int)))))] .n (fun nL jJ => ?_)
   clear jI
   refine AtH.all [9] 2 κ (by simp) ⟨?_, trivial⟩
   refine OneH.store jJ (t := 25) (b := eH.heap.size) (off := 0) (v := .agg #[.slice bZ ((subG exG9 (inT exG9 (ofW ([0, 2, 9] : List Int)))).ow.length) fB, .slice cA ((subG exG9 (inT exG9 (ofW ([0, 2, 9] : List Int)))).pr.length) fC, .slice cB ((subG exG9 (inT exG9 (ofW ([0, 2, 9] : List Int)))).mv.length) fD]) _ rfl κ eJ κ (fun nM lJ bA hO jK => ?_)
   clear jJ
   replace hO : Bx lJ (eH.heap.size) [.slice bZ ((subG exG9 (inT exG9 (ofW ([0, 2, 9] : List Int)))).ow.length) fB, .slice cA ((subG exG9 (inT exG9 (ofW ([0, 2, 9] : List Int)))).pr.length) fC, .slice cB ((subG exG9 (inT exG9 (ofW ([0, 2, 9] : List Int)))).mv.length) fD] 25 := hO
   have gZ := fE.gr' bA (by rw [dQ]; exact ⟨(by simp only [add_block]; omega), (by simp only [add_block]; omega), (by simp only [add_block]; omega), trivial⟩); have := bA.size; replace e0 := e0.gr bA (fun k h => by injection h; omega); replace aB := aB.gb bA ω; replace r9 := r9.gb bA ω; replace aA := aA.gb bA ω; replace aC := aC.gr bA (fun k hk => hk.2.2.2.2.1)
   replace aD := aD.gr bA (fun k hk => hk.2.2.2.2.1); replace aE := aE.gr bA (fun k hk => hk.2.2.2.2.1); replace aF := aF.gb bA ω; replace aP := aP.gb bA ω; replace dV := dV.gr bA (fun k hk e => by have := Sx_base hk; injection e; omega); replace dW := dW.gr bA (fun k hk e => by have := Sx_base hk; injection e; omega); replace dX := dX.gr bA (fun k hk e => by have := Sx_base hk; injection e; omega)
   replace dY := dY.gr bA (fun k hk e => by have := Sx_base hk; injection e; omega); clear eJ bA
   refine ⟨gZ, ?_⟩
   refine AtH.rk gZ jK [10] 1 [(6, .slice cR ((subO exG9 (inT exG9 (ofW ([0, 2, 9] : List Int)))).length) gC)] .n (fun nN jL => ?_)
   clear jK
   refine AtH.rk gZ jL [11] 0 [(7, .bool (subB exG9 (inT exG9 (ofW ([0, 2, 9] : List Int)))))] .n (fun nO lK => ?_)
   clear jL
   refine AtH.done κ ?_
   clear gZ
   refine t_n ?_
   exact ⟨eH.heap.size, cR, bZ, cA, cB, gC, fB, fC, fD, lK.sb, e0, aB, r9, aA, (aC.imp (fun g _ hs => ⟨hs.2.2.2.2.2.2.1, hs.2.2.2.2.2.2.2.1, hs.2.2.2.2.2.2.2.2.1, hs.2.2.2.1, hs.1, hs.2.1, hs.2.2.1, hs.2.2.2.2.1, (by have := Sx_base hs; show aO.heap.size ≤ g; omega)⟩)), (aD.imp (fun g _ hs => ⟨hs.2.2.2.2.2.2.1, hs.2.2.2.2.2.2.2.1, hs.2.2.2.2.2.2.2.2.1, hs.2.2.2.1, hs.1, hs.2.1, hs.2.2.1, hs.2.2.2.2.1, (by have := Sx_base hs; show aO.heap.size ≤ g; omega)⟩)), (aE.imp (fun g _ hs => ⟨hs.2.2.2.2.2.2.1, hs.2.2.2.2.2.2.2.1, hs.2.2.2.2.2.2.2.2.1, hs.2.2.2.1, hs.1, hs.2.1, hs.2.2.1, hs.2.2.2.2.1, (by have := Sx_base hs; show aO.heap.size ≤ g; omega)⟩)), aF, (dY.imp (fun g _ hs => ⟨hs.1, hs.2.1, hs.2.2.1, hs.2.2.2.1, hs.2.2.2.2.1, hs.2.2.2.2.2.1, (fun e => by have := Sx_base hs; injection e; omega), (by have := Sx_base hs; show aR.heap.size ≤ g; omega)⟩)), (dV.imp (fun g _ hs => ⟨hs.1, hs.2.1, hs.2.2.1, hs.2.2.2.2.2.1, hs.2.2.2.1, hs.2.2.2.2.1, (fun e => by have := Sx_base hs; injection e; omega), (by have := Sx_base hs; show aR.heap.size ≤ g; omega)⟩)), (dW.imp (fun g _ hs => ⟨hs.1, hs.2.1, hs.2.2.1, hs.2.2.2.2.2.1, hs.2.2.2.1, hs.2.2.2.2.1, (fun e => by have := Sx_base hs; injection e; omega), (by have := Sx_base hs; show aR.heap.size ≤ g; omega)⟩)), (dX.imp (fun g _ hs => ⟨hs.1, hs.2.1, hs.2.2.1, hs.2.2.2.2.2.1, hs.2.2.2.1, hs.2.2.2.2.1, (fun e => by have := Sx_base hs; injection e; omega), (by have := Sx_base hs; show aR.heap.size ≤ g; omega)⟩)), hO, ω, ω⟩
  refine OneH.bx gS hH 5 [.slice none 0 0, .slice none 0 0, .slice none 0 0] 25 (fun eL dJ dN lL nP jM => ?_)
  clear gS; have := dJ.size; replace e0 := e0.gn dJ; replace aB := aB.gn dJ; replace r9 := r9.gn dJ; replace aA := aA.gn dJ; replace aC := aC.grN dJ; replace aD := aD.grN dJ; replace aE := aE.grN dJ; replace aF := aF.gn dJ; have := dN.lt; clear dJ
  refine AtH.all [1] 9 κ (by simp) ⟨?_, trivial⟩
  refine OneH.seq jM [] [(22, .slice (some ⟨eL.heap.size, 0, none⟩) 3 3)] (eL.alloc (.cells #[.int .i64 (0), .int .i64 (2), .int .i64 (9)] 3 (0, 0))) [] _ rfl κ κ trivial (fun nQ lM hP jN => ?_)
  clear jM; have cC := gr_alloc hP; have jO := lL.gr cC
  refine ⟨jO, ?_⟩
  have := cC.size; replace e0 := e0.gn cC; replace aB := aB.gn cC; replace r9 := r9.gn cC; replace aA := aA.gn cC; replace aC := aC.grN cC; replace aD := aD.grN cC; replace aE := aE.grN cC; replace aF := aF.gn cC; replace dN := dN.gn cC; have dZ : Bx lM (eL.heap.size) [.int .i64 (0), .int .i64 (2), .int .i64 (9)] 3 := Bx.new hP; have := dZ.lt; clear cC hP
  refine AtH.all [2] 8 κ (by simp) ⟨?_, trivial⟩
  refine OneH.cl jN (some 23) (args := #[.slice (some ⟨eL.heap.size, 0, none⟩) 3 3]) (of_any (la := ([0, 2, 9] : List Int)) (Bx.rdI (l := ([0, 2, 9] : List Int)) dZ rfl (by first | decide | exact Nat.le_of_ble_eq_true rfl))) ?_
  rintro e_ hA ⟨rfl, he⟩
  refine ⟨_, rfl, _, rfl, fun nR jP => ?_⟩
  clear jN; have bM := gr_ext he; have jQ := jO.gr bM; have := bM.size; replace e0 := e0.gn bM; replace aB := aB.gn bM; replace r9 := r9.gn bM; replace aA := aA.gn bM; replace aC := aC.gn bM; replace aD := aD.gn bM; replace aE := aE.gn bM; replace aF := aF.gn bM; replace dN := dN.gn bM; replace dZ := dZ.gn bM; clear bM he
  refine ⟨jQ, ?_⟩
  refine AtH.all [3] 7 κ (by simp) ⟨?_, trivial⟩
  refine OneH.cl jP (some 24) (args := #[.agg #[.slice A3 exG9.ow.length c6, .slice A4 exG9.pr.length c7, .slice A5 exG9.mv.length c8], .agg ((ofW ([0, 2, 9] : List Int) : List Int).map wV).toArray]) (subM_any (g := exG9) (s := ofW ([0, 2, 9] : List Int)) (r9.wide (Nat.zero_le _) ω) (ofW_ok _) (aB.wide (Nat.zero_le _) ω)) ?_
  rintro e_ eM ⟨cD, fF, cE, fG, cF, fH, cS, gG, rfl, he, eA, eB, eC, eD⟩
  have hip498 := sub_inner exG9 (ofW ([0, 2, 9] : List Int)); have := sub_lens exG9 (inT exG9 (ofW ([0, 2, 9] : List Int)))
  refine ⟨_, rfl, _, rfl, fun nS jR => ?_⟩
  clear jP; have bN := gr_ext he; have fI := jQ.gr bN; have gH := aC.lt; have gJ := aD.lt; have gK := aE.lt; have := bN.size; replace e0 := e0.gn bN; replace aB := aB.gn bN; replace r9 := r9.gn bN; replace aA := aA.gn bN
  replace aC : OwnR eM (Sx (aO.heap.size) [obk (cD), obk (cE), obk (cF), obk (cS), some (eL.heap.size), some (aV.heap.size), some (aW.heap.size), obk (aI), obk (aJ)]) aH cZ 3 ((dualG exG9).ow : List Int) := aC.grA bN (fun _ _ h => by cases h) (fun k hk hs => ⟨(fun e => by have := eA.ge _ e; omega), (fun e => by have := eB.ge _ e; omega), (fun e => by have := eC.ge _ e; omega), (fun e => by have := eD.ge _ e; omega), hs.1, hs.2.1, hs.2.2.1, hs.2.2.2.1, hs.2.2.2.2.1, hs.2.2.2.2.2⟩)
  replace aD : OwnR eM (Sx (aO.heap.size) [obk (cD), obk (cE), obk (cF), obk (cS), some (eL.heap.size), some (aV.heap.size), some (aW.heap.size), obk (aH), obk (aJ)]) aI dA 3 ((dualG exG9).pr : List Int) := aD.grA bN (fun _ _ h => by cases h) (fun k hk hs => ⟨(fun e => by have := eA.ge _ e; omega), (fun e => by have := eB.ge _ e; omega), (fun e => by have := eC.ge _ e; omega), (fun e => by have := eD.ge _ e; omega), hs.1, hs.2.1, hs.2.2.1, hs.2.2.2.1, hs.2.2.2.2.1, hs.2.2.2.2.2⟩)
  replace aE : OwnLL eM (aO.heap.size) [obk (cD), obk (cE), obk (cF), obk (cS), some (eL.heap.size), some (aV.heap.size), some (aW.heap.size), obk (aH), obk (aI)] aJ dB 22 3 ((dualG exG9).mv : List (List Int)) := aE.grA bN (fun _ _ h => by cases h) (fun k hk hs => ⟨(fun e => by have := eA.ge _ e; omega), (fun e => by have := eB.ge _ e; omega), (fun e => by have := eC.ge _ e; omega), (fun e => by have := eD.ge _ e; omega), hs.1, hs.2.1, hs.2.2.1, hs.2.2.2.1, hs.2.2.2.2.1, hs.2.2.2.2.2⟩)
  replace aF := aF.gn bN; replace dN := dN.gn bN; replace dZ := dZ.gn bN
  replace eA : OwnR eM (Sx (hA.heap.size) [obk (aH), obk (aI), obk (aJ), obk (cE), obk (cF), obk (cS)]) cD fF 3 ((subG exG9 (inT exG9 (ofW ([0, 2, 9] : List Int)))).ow : List Int) := eA.imp (fun g _ hs => ⟨(fun e => by have := gH _ e; have := Sx_base hs; omega), (fun e => by have := gJ _ e; have := Sx_base hs; omega), (fun e => by have := gK _ e; have := Sx_base hs; omega), hs⟩)
  replace eB : OwnR eM (Sx (hA.heap.size) [obk (aH), obk (aI), obk (aJ), obk (cD), obk (cF), obk (cS)]) cE fG 3 ((subG exG9 (inT exG9 (ofW ([0, 2, 9] : List Int)))).pr : List Int) := eB.imp (fun g _ hs => ⟨(fun e => by have := gH _ e; have := Sx_base hs; omega), (fun e => by have := gJ _ e; have := Sx_base hs; omega), (fun e => by have := gK _ e; have := Sx_base hs; omega), hs⟩)
  replace eC : OwnLL eM (hA.heap.size) [obk (aH), obk (aI), obk (aJ), obk (cD), obk (cE), obk (cS)] cF fH 22 3 ((subG exG9 (inT exG9 (ofW ([0, 2, 9] : List Int)))).mv : List (List Int)) := eC.imp (fun g _ hs => ⟨(fun e => by have := gH _ e; have := Sx_base hs; omega), (fun e => by have := gJ _ e; have := Sx_base hs; omega), (fun e => by have := gK _ e; have := Sx_base hs; omega), hs⟩)
  replace eD : OwnR eM (Sx (hA.heap.size) [obk (aH), obk (aI), obk (aJ), obk (cD), obk (cE), obk (cF)]) cS gG 3 ((subO exG9 (inT exG9 (ofW ([0, 2, 9] : List Int)))) : List Int) := eD.imp (fun g _ hs => ⟨(fun e => by have := gH _ e; have := Sx_base hs; omega), (fun e => by have := gJ _ e; have := Sx_base hs; omega), (fun e => by have := gK _ e; have := Sx_base hs; omega), hs⟩)
  clear gH gJ gK; clear bN he
  refine ⟨fI, ?_⟩
  refine AtH.rk fI jR [4] 6 [(20, .tuple #[.agg #[.slice cD ((subG exG9 (inT exG9 (ofW ([0, 2, 9] : List Int)))).ow.length) fF, .slice cE ((subG exG9 (inT exG9 (ofW ([0, 2, 9] : List Int)))).pr.length) fG, .slice cF ((subG exG9 (inT exG9 (ofW ([0, 2, 9] : List Int)))).mv.length) fH], .slice cS ((subO exG9 (inT exG9 (ofW ([0, 2, 9] : List Int)))).length) gG, .bool (subB exG9 (inT exG9 (ofW ([0, 2, 9] : List Int))))])] .n (fun nT jS => ?_)
  clear jR
  refine AtH.rk fI jS [5] 5 [(25, .agg #[.slice cD ((subG exG9 (inT exG9 (ofW ([0, 2, 9] : List Int)))).ow.length) fF, .slice cE ((subG exG9 (inT exG9 (ofW ([0, 2, 9] : List Int)))).pr.length) fG, .slice cF ((subG exG9 (inT exG9 (ofW ([0, 2, 9] : List Int)))).mv.length) fH])] .n (fun nU jT => ?_)
  clear jS
  refine AtH.rk fI jT [6] 4 [(26, .slice cS ((subO exG9 (inT exG9 (ofW ([0, 2, 9] : List Int)))).length) gG)] .n (fun nV jU => ?_)
  clear jT
  refine AtH.rk fI jU [7] 3 [(27, .bool (subB exG9 (inT exG9 (ofW ([0, 2, 9] : List Int)))))] .n (fun nW jV => ?_)
  clear jU
  refine AtH.all [9] 2 κ (by simp) ⟨?_, trivial⟩
  refine OneH.store jV (t := 25) (b := aV.heap.size) (off := 0) (v := .agg #[.slice cD ((subG exG9 (inT exG9 (ofW ([0, 2, 9] : List Int)))).ow.length) fF, .slice cE ((subG exG9 (inT exG9 (ofW ([0, 2, 9] : List Int)))).pr.length) fG, .slice cF ((subG exG9 (inT exG9 (ofW ([0, 2, 9] : List Int)))).mv.length) fH]) _ rfl κ dN κ (fun nX lN bB hQ jW => ?_)
  clear jV
  replace hQ : Bx lN (aV.heap.size) [.slice cD ((subG exG9 (inT exG9 (ofW ([0, 2, 9] : List Int)))).ow.length) fF, .slice cE ((subG exG9 (inT exG9 (ofW ([0, 2, 9] : List Int)))).pr.length) fG, .slice cF ((subG exG9 (inT exG9 (ofW ([0, 2, 9] : List Int)))).mv.length) fH] 25 := hQ
  have hB := fI.gr' bB (by rw [dQ]; exact ⟨(by simp only [add_block]; omega), (by simp only [add_block]; omega), (by simp only [add_block]; omega), trivial⟩); have := bB.size; replace e0 := e0.gr bB (fun k h => by injection h; omega); replace aB := aB.gb bB ω; replace r9 := r9.gb bB ω; replace aA := aA.gb bB ω; replace aC := aC.gr bB (fun k hk => hk.2.2.2.2.2.1)
  replace aD := aD.gr bB (fun k hk => hk.2.2.2.2.2.1); replace aE := aE.gr bB (fun k hk => hk.2.2.2.2.2.1); replace aF := aF.gb bB ω; replace dZ := dZ.gb bB ω; replace eA := eA.gr bB (fun k hk e => by have := Sx_base hk; injection e; omega); replace eB := eB.gr bB (fun k hk e => by have := Sx_base hk; injection e; omega)
  replace eC := eC.gr bB (fun k hk e => by have := Sx_base hk; injection e; omega); replace eD := eD.gr bB (fun k hk e => by have := Sx_base hk; injection e; omega); clear dN bB
  refine ⟨hB, ?_⟩
  refine AtH.rk hB jW [10] 1 [(6, .slice cS ((subO exG9 (inT exG9 (ofW ([0, 2, 9] : List Int)))).length) gG)] .n (fun nY jX => ?_)
  clear jW
  refine AtH.rk hB jX [11] 0 [(7, .bool (subB exG9 (inT exG9 (ofW ([0, 2, 9] : List Int)))))] .n (fun nZ lO => ?_)
  clear jX
  refine AtH.done κ ?_
  clear hB
  refine t_n ?_
  exact ⟨aV.heap.size, cS, cD, cE, cF, gG, fF, fG, fH, lO.sb, e0, aB, r9, aA, (aC.imp (fun g _ hs => ⟨hs.2.2.2.2.2.2.1, hs.2.2.2.2.2.2.2.1, hs.2.2.2.2.2.2.2.2.1, hs.2.2.2.1, hs.1, hs.2.1, hs.2.2.1, hs.2.2.2.2.2.1, (by have := Sx_base hs; show aO.heap.size ≤ g; omega)⟩)), (aD.imp (fun g _ hs => ⟨hs.2.2.2.2.2.2.1, hs.2.2.2.2.2.2.2.1, hs.2.2.2.2.2.2.2.2.1, hs.2.2.2.1, hs.1, hs.2.1, hs.2.2.1, hs.2.2.2.2.2.1, (by have := Sx_base hs; show aO.heap.size ≤ g; omega)⟩)), (aE.imp (fun g _ hs => ⟨hs.2.2.2.2.2.2.1, hs.2.2.2.2.2.2.2.1, hs.2.2.2.2.2.2.2.2.1, hs.2.2.2.1, hs.1, hs.2.1, hs.2.2.1, hs.2.2.2.2.2.1, (by have := Sx_base hs; show aO.heap.size ≤ g; omega)⟩)), aF, (eD.imp (fun g _ hs => ⟨hs.1, hs.2.1, hs.2.2.1, hs.2.2.2.1, hs.2.2.2.2.1, hs.2.2.2.2.2.1, (fun e => by have := Sx_base hs; injection e; omega), (by have := Sx_base hs; show aR.heap.size ≤ g; omega)⟩)), (eA.imp (fun g _ hs => ⟨hs.1, hs.2.1, hs.2.2.1, hs.2.2.2.2.2.1, hs.2.2.2.1, hs.2.2.2.2.1, (fun e => by have := Sx_base hs; injection e; omega), (by have := Sx_base hs; show aR.heap.size ≤ g; omega)⟩)), (eB.imp (fun g _ hs => ⟨hs.1, hs.2.1, hs.2.2.1, hs.2.2.2.2.2.1, hs.2.2.2.1, hs.2.2.2.2.1, (fun e => by have := Sx_base hs; injection e; omega), (by have := Sx_base hs; show aR.heap.size ≤ g; omega)⟩)), (eC.imp (fun g _ hs => ⟨hs.1, hs.2.1, hs.2.2.1, hs.2.2.2.2.2.1, hs.2.2.2.1, hs.2.2.2.2.1, (fun e => by have := Sx_base hs; injection e; omega), (by have := Sx_base hs; show aR.heap.size ≤ g; omega)⟩)), hQ, ω, ω⟩
 clear aB; clear r9; clear aA; clear aC; clear aD; clear aE; clear aF; clear hG e0
 intro oA oB ⟨cH, dC, cI, cJ, cK, gR, fQ, fR, fS, jY, aL, aN, aK, aG, cT, cU, cV, bO, aM, aS, aT, aU, aQ, oC, oD⟩
 have := aL.size; have hip161 := sub_inner exG9 (ofW ([0, 2, 9] : List Int)); have := sub_lens exG9 (inT exG9 (ofW ([0, 2, 9] : List Int))); have := aG.lt; have := bO.lt; have := aQ.lt
 refine sqs ?_
 refine At.rk jY 1 [(29, .agg #[.slice none 0 0, .slice none 0 0, .slice none 0 0])] .n (fun oE jZ => ?_)
 clear jY
 refine At.cl jZ (some 30) (args := #[.agg #[.slice none 0 0, .slice none 0 0, .slice none 0 0]]) (right_nil) ?_
 rintro e_ gL ⟨rfl, he⟩
 refine ⟨_, rfl, _, rfl, fun oF kA => ?_⟩
 clear jZ; have bF := gr_ext he; have := bF.size; replace aL := aL.gn bF; replace aN := aN.gn bF; replace aK := aK.gn bF; replace aG := aG.gn bF; replace cT := cT.gn bF; replace cU := cU.gn bF; replace cV := cV.gn bF; replace bO := bO.gn bF; replace aM := aM.gn bF; replace aS := aS.gn bF; replace aT := aT.gn bF; replace aU := aU.gn bF; replace aQ := aQ.gn bF; clear bF he
 refine At.rk kA 5 [(9, .int .i64 (10))] .n (fun oG kB => ?_)
 clear kA
 refine At.dn ?_
 refine sqs ?_
 refine At.rk kB 1 [(33, .agg #[.slice aH ((dualG exG9).ow.length) cZ, .slice aI ((dualG exG9).pr.length) dA, .slice aJ ((dualG exG9).mv.length) dB])] (.l (bO.cell (i := 0) rfl) <| .l (bO.cell (i := 1) rfl) <| .l (bO.cell (i := 2) rfl) <| .n) (fun oH kC => ?_)
 clear kB
 refine At.seq kC 1 [[]] [(34, .slice (some ⟨gL.heap.size, 0, none⟩) 3 3)] (gL.alloc (.cells #[.int .i64 (1), .int .i64 (0), .int .i64 (0)] 3 (0, 0))) [] κ trivial (fun oI fJ hR kD => ?_)
 clear kC; have bG := gr_alloc hR; have := bG.size; replace aL := aL.gn bG; replace aN := aN.gn bG; replace aK := aK.gn bG; replace aG := aG.gn bG; replace cT := cT.grN bG; replace cU := cU.grN bG; replace cV := cV.grN bG; replace bO := bO.gn bG; replace aM := aM.grN bG; replace aS := aS.grN bG; replace aT := aT.grN bG; replace aU := aU.grN bG; replace aQ := aQ.gn bG
 have eN : Bx fJ (gL.heap.size) [.int .i64 (1), .int .i64 (0), .int .i64 (0)] 3 := Bx.new hR; have := eN.lt; clear bG hR
 refine At.seq kD 1 [[]] [(35, .slice (some ⟨fJ.heap.size, 0, none⟩) 3 3)] (fJ.alloc (.cells #[.int .i64 (0), .int .i64 (3), .int .i64 (6)] 3 (0, 0))) [] κ trivial (fun oJ lP hS kE => ?_)
 clear kD; have bC := gr_alloc hS; have := bC.size; replace aL := aL.gn bC; replace aN := aN.gn bC; replace aK := aK.gn bC; replace aG := aG.gn bC; replace cT := cT.grN bC; replace cU := cU.grN bC; replace cV := cV.grN bC; replace bO := bO.gn bC; replace aM := aM.grN bC; replace aS := aS.grN bC; replace aT := aT.grN bC; replace aU := aU.grN bC; replace aQ := aQ.gn bC; replace eN := eN.gn bC
 have gM : Bx lP (fJ.heap.size) [.int .i64 (0), .int .i64 (3), .int .i64 (6)] 3 := Bx.new hS; have := gM.lt; clear bC hS
 refine At.rk kE 3 [(38, .agg #[.slice (some ⟨gL.heap.size, 0, none⟩) 3 3, .slice (some ⟨fJ.heap.size, 0, none⟩) 3 3, .slice A5 exG9.mv.length c8])] (.l (aG.cell (i := 2) rfl) <| .n) (fun oK kF => ?_)
 clear kE
 refine At.cl kF (some 39) (args := #[.agg #[.slice aH ((dualG exG9).ow.length) cZ, .slice aI ((dualG exG9).pr.length) dA, .slice aJ ((dualG exG9).mv.length) dB], .agg #[.slice (some ⟨gL.heap.size, 0, none⟩) 3 3, .slice (some ⟨fJ.heap.size, 0, none⟩) 3 3, .slice A5 exG9.mv.length c8]]) ((same_any (a := (dualG exG9)) (b := (⟨([1, 0, 0] : List Int), ([0, 3, 6] : List Int), exG9.mv⟩ : GameL)) (RdG.mk (G := (dualG exG9)) (cT.rdI0 (by first | omega | (simp only [List.length_cons, List.length_nil]; omega) | (simp; done) | (simp; omega))) (cU.rdI0 (by first | omega | (simp only [List.length_cons, List.length_nil]; omega) | (simp; done) | (simp; omega))) (cV.rdII0 (by first | omega | (simp only [List.length_cons, List.length_nil]; omega) | (simp; done) | (simp; omega)) hip61) cT.cap cU.cap cV.cap) (RdG.mk (G := (⟨([1, 0, 0] : List Int), ([0, 3, 6] : List Int), exG9.mv⟩ : GameL)) (Bx.rdI (l := ([1, 0, 0] : List Int)) eN rfl (by first | decide | exact Nat.le_of_ble_eq_true rfl)) (Bx.rdI (l := ([0, 3, 6] : List Int)) gM rfl (by first | decide | exact Nat.le_of_ble_eq_true rfl)) (aK.mv.wide (Nat.zero_le _) ω) (by decide) (by decide) aK.k2)).mono (R' := fun e w' => e = .returned (.bool true) ∧ Ext _ w') (fun e_ w_ h_ => by rw [show (decide ((dualG exG9) = (⟨([1, 0, 0] : List Int), ([0, 3, 6] : List Int), exG9.mv⟩ : GameL)) : Bool) = true from by decide +kernel] at h_; exact h_)) ?_
 rintro e_ gN ⟨rfl, he⟩
 refine ⟨_, rfl, _, rfl, fun oL kG => ?_⟩
 clear kF; have aX := gr_ext he; have := aX.size; replace aL := aL.gn aX; replace aN := aN.gn aX; replace aK := aK.gn aX; replace aG := aG.gn aX; replace cT := cT.gn aX; replace cU := cU.gn aX; replace cV := cV.gn aX; replace bO := bO.gn aX; replace aM := aM.gn aX; replace aS := aS.gn aX; replace aT := aT.gn aX; replace aU := aU.gn aX; replace aQ := aQ.gn aX; replace eN := eN.gn aX
 replace gM := gM.gn aX; clear aX he
 refine At.rk kG 1 [(10, .bool true)] .n (fun oM kH => ?_)
 clear kG
 refine At.dn ?_
 clear cT; clear cU; clear cV; clear bO; clear eN; clear gM
 refine sqs ?_
 refine At.rk kH 1 [(40, .agg #[.slice cI ((subG exG9 (inT exG9 (ofW ([0, 2, 9] : List Int)))).ow.length) fQ, .slice cJ ((subG exG9 (inT exG9 (ofW ([0, 2, 9] : List Int)))).pr.length) fR, .slice cK ((subG exG9 (inT exG9 (ofW ([0, 2, 9] : List Int)))).mv.length) fS])] (.l (aQ.cell (i := 0) rfl) <| .l (aQ.cell (i := 1) rfl) <| .l (aQ.cell (i := 2) rfl) <| .n) (fun oN kI => ?_)
 clear kH
 refine At.seq kI 1 [[]] [(41, .slice (some ⟨gN.heap.size, 0, none⟩) 2 2)] (gN.alloc (.cells #[.int .i64 (0), .int .i64 (1)] 3 (0, 0))) [] κ trivial (fun oO fK hT kJ => ?_)
 clear kI; have cW := gr_alloc hT; have := cW.size; replace aL := aL.gn cW; replace aN := aN.gn cW; replace aK := aK.gn cW; replace aG := aG.gn cW; replace aM := aM.grN cW; replace aS := aS.grN cW; replace aT := aT.grN cW; replace aU := aU.grN cW; replace aQ := aQ.gn cW; have bP : Bx fK (gN.heap.size) [.int .i64 (0), .int .i64 (1)] 3 := Bx.new hT; have := bP.lt; clear cW hT
 refine At.seq kJ 1 [[]] [(42, .slice (some ⟨fK.heap.size, 0, none⟩) 2 2)] (fK.alloc (.cells #[.int .i64 (1), .int .i64 (7)] 3 (0, 0))) [] κ trivial (fun oP fL hU kK => ?_)
 clear kJ; have cG := gr_alloc hU; have := cG.size; replace aL := aL.gn cG; replace aN := aN.gn cG; replace aK := aK.gn cG; replace aG := aG.gn cG; replace aM := aM.grN cG; replace aS := aS.grN cG; replace aT := aT.grN cG; replace aU := aU.grN cG; replace aQ := aQ.gn cG; replace bP := bP.gn cG; have cX : Bx fL (fK.heap.size) [.int .i64 (1), .int .i64 (7)] 3 := Bx.new hU; have := cX.lt; clear cG hU
 refine At.seq kK 1 [[]] [(43, .slice (some ⟨fL.heap.size, 0, none⟩) 1 1)] (fL.alloc (.cells #[.int .i64 (1)] 3 (0, 0))) [] κ trivial (fun oQ fM hV kL => ?_)
 clear kK; have bQ := gr_alloc hV; have := bQ.size; replace aL := aL.gn bQ; replace aN := aN.gn bQ; replace aK := aK.gn bQ; replace aG := aG.gn bQ; replace aM := aM.grN bQ; replace aS := aS.grN bQ; replace aT := aT.grN bQ; replace aU := aU.grN bQ; replace aQ := aQ.gn bQ; replace bP := bP.gn bQ; replace cX := cX.gn bQ; have dO : Bx fM (fL.heap.size) [.int .i64 (1)] 3 := Bx.new hV; have := dO.lt
 clear bQ hV
 refine At.seq kL 1 [[]] [(44, .slice (some ⟨fM.heap.size, 0, none⟩) 2 2)] (fM.alloc (.cells #[.int .i64 (0), .int .i64 (1)] 3 (0, 0))) [] κ trivial (fun oR fN hW kM => ?_)
 clear kL; have bI := gr_alloc hW; have := bI.size; replace aL := aL.gn bI; replace aN := aN.gn bI; replace aK := aK.gn bI; replace aG := aG.gn bI; replace aM := aM.grN bI; replace aS := aS.grN bI; replace aT := aT.grN bI; replace aU := aU.grN bI; replace aQ := aQ.gn bI; replace bP := bP.gn bI; replace cX := cX.gn bI; replace dO := dO.gn bI
 have eO : Bx fN (fM.heap.size) [.int .i64 (0), .int .i64 (1)] 3 := Bx.new hW; have := eO.lt; clear bI hW
 refine At.seq kM 1 [[]] [(45, .slice (some ⟨fN.heap.size, 0, none⟩) 2 2)] (fN.alloc (.cells #[.slice (some ⟨fL.heap.size, 0, none⟩) 1 1, .slice (some ⟨fM.heap.size, 0, none⟩) 2 2] 22 (0, 0))) [] κ trivial (fun oS lQ hX kN => ?_)
 clear kM; have bH := gr_alloc hX; have := bH.size; replace aL := aL.gn bH; replace aN := aN.gn bH; replace aK := aK.gn bH; replace aG := aG.gn bH; replace aM := aM.grN bH; replace aS := aS.grN bH; replace aT := aT.grN bH; replace aU := aU.grN bH; replace aQ := aQ.gn bH; replace bP := bP.gn bH; replace cX := cX.gn bH; replace dO := dO.gn bH; replace eO := eO.gn bH
 have gO : Bx lQ (fN.heap.size) [.slice (some ⟨fL.heap.size, 0, none⟩) 1 1, .slice (some ⟨fM.heap.size, 0, none⟩) 2 2] 22 := Bx.new hX; have := gO.lt; clear bH hX
 refine At.rk kN 1 [(46, .agg #[.slice (some ⟨gN.heap.size, 0, none⟩) 2 2, .slice (some ⟨fK.heap.size, 0, none⟩) 2 2, .slice (some ⟨fN.heap.size, 0, none⟩) 2 2])] .n (fun oT kO => ?_)
 clear kN
 refine At.cl kO (some 47) (args := #[.agg #[.slice cI ((subG exG9 (inT exG9 (ofW ([0, 2, 9] : List Int)))).ow.length) fQ, .slice cJ ((subG exG9 (inT exG9 (ofW ([0, 2, 9] : List Int)))).pr.length) fR, .slice cK ((subG exG9 (inT exG9 (ofW ([0, 2, 9] : List Int)))).mv.length) fS], .agg #[.slice (some ⟨gN.heap.size, 0, none⟩) 2 2, .slice (some ⟨fK.heap.size, 0, none⟩) 2 2, .slice (some ⟨fN.heap.size, 0, none⟩) 2 2]]) ((same_any (a := (subG exG9 (inT exG9 (ofW ([0, 2, 9] : List Int))))) (b := (⟨([0, 1] : List Int), ([1, 7] : List Int), ([([1] : List Int), ([0, 1] : List Int)] : List (List Int))⟩ : GameL)) (RdG.mk (G := (subG exG9 (inT exG9 (ofW ([0, 2, 9] : List Int))))) (aS.rdI0 (by first | omega | (simp only [List.length_cons, List.length_nil]; omega) | (simp; done) | (simp; omega))) (aT.rdI0 (by first | omega | (simp only [List.length_cons, List.length_nil]; omega) | (simp; done) | (simp; omega))) (aU.rdII0 (by first | omega | (simp only [List.length_cons, List.length_nil]; omega) | (simp; done) | (simp; omega)) hip161) aS.cap aT.cap aU.cap) (RdG.mk (G := (⟨([0, 1] : List Int), ([1, 7] : List Int), ([([1] : List Int), ([0, 1] : List Int)] : List (List Int))⟩ : GameL)) (Bx.rdI (l := ([0, 1] : List Int)) bP rfl (by first | decide | exact Nat.le_of_ble_eq_true rfl)) (Bx.rdI (l := ([1, 7] : List Int)) cX rfl (by first | decide | exact Nat.le_of_ble_eq_true rfl)) (Bx.rdII (ls := ([([1] : List Int), ([0, 1] : List Int)] : List (List Int))) gO ⟨⟨_, _, rfl, (by decide), (Bx.rdI (l := ([1] : List Int)) dO rfl (by first | decide | exact Nat.le_of_ble_eq_true rfl))⟩, ⟨_, _, rfl, (by decide), (Bx.rdI (l := ([0, 1] : List Int)) eO rfl (by first | decide | exact Nat.le_of_ble_eq_true rfl))⟩, trivial⟩ (by decide)) (by decide) (by decide) (by decide))).mono (R' := fun e w' => e = .returned (.bool true) ∧ Ext _ w') (fun e_ w_ h_ => by rw [show (decide ((subG exG9 (inT exG9 (ofW ([0, 2, 9] : List Int)))) = (⟨([0, 1] : List Int), ([1, 7] : List Int), ([([1] : List Int), ([0, 1] : List Int)] : List (List Int))⟩ : GameL)) : Bool) = true from by decide +kernel] at h_; exact h_)) ?_
 rintro e_ oU ⟨rfl, he⟩
 refine ⟨_, rfl, _, rfl, fun oV kP => ?_⟩
 clear kO; have bD := gr_ext he; have := bD.size; replace aL := aL.gn bD; replace aN := aN.gn bD; replace aK := aK.gn bD; replace aG := aG.gn bD; replace aM := aM.gn bD; replace aS := aS.gn bD; replace aT := aT.gn bD; replace aU := aU.gn bD; replace aQ := aQ.gn bD; replace bP := bP.gn bD; replace cX := cX.gn bD; replace dO := dO.gn bD; replace eO := eO.gn bD; replace gO := gO.gn bD; clear bD he
 refine At.rk kP 1 [(11, .bool true)] .n (fun oW kQ => ?_)
 clear kP
 refine At.dn ?_
 clear aS; clear aT; clear aU; clear aQ; clear bP; clear cX; clear dO; clear eO; clear gO
 have kR := kQ.sb (r := [(11, .bool true), (10, .bool true), (9, .int .i64 (10)), (7, .bool (subB exG9 (inT exG9 (ofW ([0, 2, 9] : List Int))))), (6, .slice dC ((subO exG9 (inT exG9 (ofW ([0, 2, 9] : List Int)))).length) gR), (3, .int .i64 ((rightP exG9).2)), (2, .int .i64 ((rightP exG9).1)), (1, pt dK.heap.size 0)])
 clear kQ
 refine wp_seq ?_
 have hso : (subO exG9 (inT exG9 (ofW [0, 2, 9]))).length = 2 := by rw [exG9_sub.2.1]; rfl
 refine At.start ?_
 obtain ⟨oX, lR, oY, lS, oZ⟩ := aM.get (1) ω ω (sz := 1) rfl
 refine At.rk kR 32 [(79, .agg #[.slice A3 exG9.ow.length c6, .slice A4 exG9.pr.length c7, .slice A5 exG9.mv.length c8]), (78, .bool true)] (.v 49 (show (.bool (((rightP exG9).1 : Int) == 0) : Value) = .bool true from (congrArg Value.bool (by decide +kernel))) <| .v 52 (show (.bool (((rightP exG9).2 : Int) == 0) : Value) = .bool true from (congrArg Value.bool (by decide +kernel))) <| .v 56 (show (.bool ((10 : Int) == 10) : Value) = .bool true from κ) <| .v 62 (show (.bool (subB exG9 (inT exG9 (ofW ([0, 2, 9] : List Int)))) : Value) = .bool true from (congrArg Value.bool (by decide +kernel))) <| .v 70 (show (.bool (((((subO exG9 (inT exG9 (ofW ([0, 2, 9] : List Int)))).length : Nat) : Int) : Int) == 2) : Value) = .bool true from (congrArg Value.bool (by decide +kernel))) <| .a 1 ((subO exG9 (inT exG9 (ofW ([0, 2, 9] : List Int)))).length) lR <| .l lS <| .v 76 (show (.bool ((gI (subO exG9 (inT exG9 (ofW ([0, 2, 9] : List Int)))) 1 : Int) == 2) : Value) = .bool true from (congrArg Value.bool (by decide +kernel))) <| .l (aG.cell (i := 0) rfl) <| .l (aG.cell (i := 1) rfl) <| .l (aG.cell (i := 2) rfl) <| .n) (fun pA kS => ?_)
 clear kR
 refine At.cl kS (some 80) (args := #[.agg #[.slice A3 exG9.ow.length c6, .slice A4 exG9.pr.length c7, .slice A5 exG9.mv.length c8], .int .i64 (1)]) ((ownG_any (g := exG9) (p := 1) (aK.wide (Nat.zero_le _) ω)).mono (R' := fun e w' => e = .returned (.agg ((([6, 0, 0, 0] : List Int) : List Int).map wV).toArray) ∧ Ext _ w') (fun e_ w_ h_ => by rw [show (wordsD (amoD exG9.ow 1) : List Int) = ([6, 0, 0, 0] : List Int) from by decide +kernel] at h_; exact h_)) ?_
 rintro e_ hC ⟨rfl, he⟩
 refine ⟨_, rfl, _, rfl, fun pB kT => ?_⟩
 clear kS; have eP := gr_ext he; have := eP.size; replace aL := aL.gn eP; replace aN := aN.gn eP; replace aK := aK.gn eP; replace aG := aG.gn eP; replace aM := aM.gn eP; clear eP he
 refine At.seq kT 1 [[]] [(81, .slice (some ⟨hC.heap.size, 0, none⟩) 2 2)] (hC.alloc (.cells #[.int .i64 (1), .int .i64 (2)] 3 (0, 0))) [] κ trivial (fun pC lT hY kU => ?_)
 clear kT; have eQ := gr_alloc hY; have := eQ.size; replace aL := aL.gn eQ; replace aN := aN.gn eQ; replace aK := aK.gn eQ; replace aG := aG.gn eQ; replace aM := aM.grN eQ; have cY : Bx lT (hC.heap.size) [.int .i64 (1), .int .i64 (2)] 3 := Bx.new hY; have := cY.lt; clear eQ hY
 refine At.cl kU (some 82) (args := #[.slice (some ⟨hC.heap.size, 0, none⟩) 2 2]) ((of_any (la := ([1, 2] : List Int)) (Bx.rdI (l := ([1, 2] : List Int)) cY rfl (by first | decide | exact Nat.le_of_ble_eq_true rfl))).mono (R' := fun e w' => e = .returned (.agg ((([6, 0, 0, 0] : List Int) : List Int).map wV).toArray) ∧ Ext _ w') (fun e_ w_ h_ => by rw [show (ofW ([1, 2] : List Int) : List Int) = ([6, 0, 0, 0] : List Int) from by decide +kernel] at h_; exact h_)) ?_
 rintro e_ pD ⟨rfl, he⟩
 refine ⟨_, rfl, _, rfl, fun pE kV => ?_⟩
 clear kU; have eE := gr_ext he; have := eE.size; replace aL := aL.gn eE; replace aN := aN.gn eE; replace aK := aK.gn eE; replace aG := aG.gn eE; replace aM := aM.gn eE; replace cY := cY.gn eE; clear eE he
 refine At.rk kV 4 [(86, .agg #[.slice A3 exG9.ow.length c6, .slice A4 exG9.pr.length c7, .slice A5 exG9.mv.length c8]), (85, .bool true)] (.p (show ((([6, 0, 0, 0] : List Int) : List Int).map wV).toArray = ([wV (gI ([6, 0, 0, 0] : List Int) 0), wV (gI ([6, 0, 0, 0] : List Int) 1), wV (gI ([6, 0, 0, 0] : List Int) 2), wV (gI ([6, 0, 0, 0] : List Int) 3)] : List Value).toArray from (map4 (okLen (okW_lit ⟨by omega, by omega⟩ ⟨by omega, by omega⟩ ⟨by omega, by omega⟩ ⟨by omega, by omega⟩)))) <| .p (show ((([6, 0, 0, 0] : List Int) : List Int).map wV).toArray = ([wV (gI ([6, 0, 0, 0] : List Int) 0), wV (gI ([6, 0, 0, 0] : List Int) 1), wV (gI ([6, 0, 0, 0] : List Int) 2), wV (gI ([6, 0, 0, 0] : List Int) 3)] : List Value).toArray from (map4 (okLen (okW_lit ⟨by omega, by omega⟩ ⟨by omega, by omega⟩ ⟨by omega, by omega⟩ ⟨by omega, by omega⟩)))) <| .p (show (.bool ((((gI ([6, 0, 0, 0] : List Int) 0 : Int) == gI ([6, 0, 0, 0] : List Int) 0) && (((gI ([6, 0, 0, 0] : List Int) 1 : Int) == gI ([6, 0, 0, 0] : List Int) 1) && (((gI ([6, 0, 0, 0] : List Int) 2 : Int) == gI ([6, 0, 0, 0] : List Int) 2) && (((gI ([6, 0, 0, 0] : List Int) 3 : Int) == gI ([6, 0, 0, 0] : List Int) 3) && true))))) : Value) = .bool true from (Eq.trans (b := (.bool (decide ((([6, 0, 0, 0] : List Int) : List Int) = ([6, 0, 0, 0] : List Int))) : Value)) (congrArg (fun b => Value.bool b) (w4_eq (okLen (okW_lit ⟨by omega, by omega⟩ ⟨by omega, by omega⟩ ⟨by omega, by omega⟩ ⟨by omega, by omega⟩)) (okLen (okW_lit ⟨by omega, by omega⟩ ⟨by omega, by omega⟩ ⟨by omega, by omega⟩ ⟨by omega, by omega⟩)))) (congrArg Value.bool (by decide +kernel)))) <| .o (.cs [wV (gI ([6, 0, 0, 0] : List Int) 0), wV (gI ([6, 0, 0, 0] : List Int) 1), wV (gI ([6, 0, 0, 0] : List Int) 2), wV (gI ([6, 0, 0, 0] : List Int) 3)]) <| .o (.cs [wV (gI ([6, 0, 0, 0] : List Int) 0), wV (gI ([6, 0, 0, 0] : List Int) 1), wV (gI ([6, 0, 0, 0] : List Int) 2), wV (gI ([6, 0, 0, 0] : List Int) 3)]) <| .o (.av 83 (.bool true)) <| .l (aG.cell (i := 0) rfl) <| .l (aG.cell (i := 1) rfl) <| .l (aG.cell (i := 2) rfl) <| .n) (fun pF kW => ?_)
 clear kV
 refine At.cl kW (some 87) (args := #[.agg #[.slice A3 exG9.ow.length c6, .slice A4 exG9.pr.length c7, .slice A5 exG9.mv.length c8], .int .i64 (7)]) ((atG_any (g := exG9) (p := 7) (aK.wide (Nat.zero_le _) ω)).mono (R' := fun e w' => e = .returned (.agg ((([4, 0, 0, 0] : List Int) : List Int).map wV).toArray) ∧ Ext _ w') (fun e_ w_ h_ => by rw [show (wordsD (amoD exG9.pr 7) : List Int) = ([4, 0, 0, 0] : List Int) from by decide +kernel] at h_; exact h_)) ?_
 rintro e_ hD ⟨rfl, he⟩
 refine ⟨_, rfl, _, rfl, fun pG kX => ?_⟩
 clear kW; have eF := gr_ext he; have := eF.size; replace aL := aL.gn eF; replace aN := aN.gn eF; replace aK := aK.gn eF; replace aG := aG.gn eF; replace aM := aM.gn eF; replace cY := cY.gn eF; clear eF he
 refine At.seq kX 1 [[]] [(88, .slice (some ⟨hD.heap.size, 0, none⟩) 1 1)] (hD.alloc (.cells #[.int .i64 (2)] 3 (0, 0))) [] κ trivial (fun pH lU hZ kY => ?_)
 clear kX; have eG := gr_alloc hZ; have := eG.size; replace aL := aL.gn eG; replace aN := aN.gn eG; replace aK := aK.gn eG; replace aG := aG.gn eG; replace aM := aM.grN eG; replace cY := cY.gn eG; have gP : Bx lU (hD.heap.size) [.int .i64 (2)] 3 := Bx.new hZ; have := gP.lt; clear eG hZ
 refine At.cl kY (some 89) (args := #[.slice (some ⟨hD.heap.size, 0, none⟩) 1 1]) ((of_any (la := ([2] : List Int)) (Bx.rdI (l := ([2] : List Int)) gP rfl (by first | decide | exact Nat.le_of_ble_eq_true rfl))).mono (R' := fun e w' => e = .returned (.agg ((([4, 0, 0, 0] : List Int) : List Int).map wV).toArray) ∧ Ext _ w') (fun e_ w_ h_ => by rw [show (ofW ([2] : List Int) : List Int) = ([4, 0, 0, 0] : List Int) from by decide +kernel] at h_; exact h_)) ?_
 rintro e_ pI ⟨rfl, he⟩
 refine ⟨_, rfl, _, rfl, fun pJ kZ => ?_⟩
 clear kY; have dP := gr_ext he; have := dP.size; replace aL := aL.gn dP; replace aN := aN.gn dP; replace aK := aK.gn dP; replace aG := aG.gn dP; replace aM := aM.gn dP; replace cY := cY.gn dP; replace gP := gP.gn dP; clear dP he
 refine At.rk kZ 3 [(0, .bool true)] (.p (show ((([4, 0, 0, 0] : List Int) : List Int).map wV).toArray = ([wV (gI ([4, 0, 0, 0] : List Int) 0), wV (gI ([4, 0, 0, 0] : List Int) 1), wV (gI ([4, 0, 0, 0] : List Int) 2), wV (gI ([4, 0, 0, 0] : List Int) 3)] : List Value).toArray from (map4 (okLen (okW_lit ⟨by omega, by omega⟩ ⟨by omega, by omega⟩ ⟨by omega, by omega⟩ ⟨by omega, by omega⟩)))) <| .p (show ((([4, 0, 0, 0] : List Int) : List Int).map wV).toArray = ([wV (gI ([4, 0, 0, 0] : List Int) 0), wV (gI ([4, 0, 0, 0] : List Int) 1), wV (gI ([4, 0, 0, 0] : List Int) 2), wV (gI ([4, 0, 0, 0] : List Int) 3)] : List Value).toArray from (map4 (okLen (okW_lit ⟨by omega, by omega⟩ ⟨by omega, by omega⟩ ⟨by omega, by omega⟩ ⟨by omega, by omega⟩)))) <| .p (show (.bool ((((gI ([4, 0, 0, 0] : List Int) 0 : Int) == gI ([4, 0, 0, 0] : List Int) 0) && (((gI ([4, 0, 0, 0] : List Int) 1 : Int) == gI ([4, 0, 0, 0] : List Int) 1) && (((gI ([4, 0, 0, 0] : List Int) 2 : Int) == gI ([4, 0, 0, 0] : List Int) 2) && (((gI ([4, 0, 0, 0] : List Int) 3 : Int) == gI ([4, 0, 0, 0] : List Int) 3) && true))))) : Value) = .bool true from (Eq.trans (b := (.bool (decide ((([4, 0, 0, 0] : List Int) : List Int) = ([4, 0, 0, 0] : List Int))) : Value)) (congrArg (fun b => Value.bool b) (w4_eq (okLen (okW_lit ⟨by omega, by omega⟩ ⟨by omega, by omega⟩ ⟨by omega, by omega⟩ ⟨by omega, by omega⟩)) (okLen (okW_lit ⟨by omega, by omega⟩ ⟨by omega, by omega⟩ ⟨by omega, by omega⟩ ⟨by omega, by omega⟩)))) (congrArg Value.bool (by decide +kernel)))) <| .o (.cs [wV (gI ([4, 0, 0, 0] : List Int) 0), wV (gI ([4, 0, 0, 0] : List Int) 1), wV (gI ([4, 0, 0, 0] : List Int) 2), wV (gI ([4, 0, 0, 0] : List Int) 3)]) <| .o (.cs [wV (gI ([4, 0, 0, 0] : List Int) 0), wV (gI ([4, 0, 0, 0] : List Int) 1), wV (gI ([4, 0, 0, 0] : List Int) 2), wV (gI ([4, 0, 0, 0] : List Int) 3)]) <| .o (.av 90 (.bool true)) <| .n) (fun pK lA => ?_)
 clear kZ
 refine At.dn ?_
 clear aG; clear aM; clear cY; clear gP; have lV := lA.sb (r := [(0, .bool true)]); clear lA
 refine wp_ret ?_
 refine ret_ lV [] [.bool true] [] κ trivial ?_
 exact ⟨rfl, aL⟩
end Go.Proofs.YtkkophhnliplhaaDoor
namespace Go.Proofs.YtkkophhnliplhaaDoor
open Go Go.RowKit
theorem ls_stop {l : List Bool} {n : Nat} (h : ∀ j : Int, (n : Int) ≤ j → j < 256 → gB l j = false) : ∀ m : Nat, n + m ≤ 256 → lsD l (n + m) = lsD l n
  | 0, _ => rfl
  | m + 1, hm => by
    rw [show n + (m + 1) = (n + m) + 1 by omega, lsD, if_neg (by rw [h ((n + m : Nat) : Int) (by omega) (by omega)]; decide)]
    exact ls_stop h m (by omega)
section
variable {g : GameL} {s : List Int} {I : List Bool} {nw od : List Int} {i : Int}
theorem inT_at {v : Bool} (hn : g.ow.length ≤ 200) (a : 0 ≤ i) (b : i < (g.ow.length : Int)) (h : gB (fromW s) i = v) : gB (inT g s) i = v := by
  rw [gB_inT a (by omega), h, decide_eq_true b, Bool.and_true]
theorem od_all (hn : g.ow.length ≤ 200) (h : od = lsD (inT g s) i.toNat) (hi : i = (g.ow.length : Int)) : od = lsD (inT g s) 256 := by
  have h1 := ls_stop (l := inT g s) (n := g.ow.length) (fun j a b => by
    rw [gB_inT (by omega) b, decide_eq_false (by omega), Bool.and_false]) (256 - g.ow.length) (by omega)
  rw [show g.ow.length + (256 - g.ow.length) = 256 by omega] at h1
  rw [h1, h, hi, Int.toNat_natCast]
theorem od_rng {k : Int} (h : od = lsD I 256) (a : 0 ≤ k) (b : k < (od.length : Int)) : 0 ≤ gI od k ∧ gI od k < 256 ∧ gB I (gI od k) = true := by
  subst h
  exact ls_rng a b
def NowR (I : List Bool) (nw : List Int) (i : Int) : Prop := ∀ j : Int, 0 ≤ j → j < i → gI nw j = if gB I j = true then posI I j else -1
theorem ls_00 : ([] : List Int) = lsD I (0 : Int).toNat := rfl
theorem nowr_0 : NowR I nw 0 := fun j a b => by omega
theorem gI_set9 {l : List Int} {i j v : Int} (h0 : 0 ≤ i) (h1 : i < (l.length : Int)) (h2 : 0 ≤ j) : gI (l.set i.toNat v) j = if i = j then v else gI l j := by
  simp only [gI, List.getD_eq_getElem?_getD, List.getElem?_set]
  by_cases h : i = j
  · subst h
    rw [if_pos rfl, if_pos rfl, if_pos (by omega)]
    rfl
  · rw [if_neg h, if_neg (by omega)]
theorem nowr_no (h : NowR I nw i) (a : 0 ≤ i) (b : i < (nw.length : Int)) (hb : gB I i = false) : NowR I (nw.set i.toNat (-1)) (i + 1) := fun j c d => by
  rw [gI_set9 a b c]
  by_cases e : i = j
  · subst e
    rw [if_pos rfl, if_neg (by rw [hb]; decide)]
  · rw [if_neg e, h j c (by omega)]
theorem nowr_yes (h : NowR I nw i) (ho : od = lsD I i.toNat) (a : 0 ≤ i) (b : i < (nw.length : Int)) (hb : gB I i = true) : NowR I ((nw.set i.toNat (-1)).set i.toNat ((od.length : Nat) : Int)) (i + 1) := fun j c d => by
  rw [gI_set9 a (by rw [List.length_set]; exact b) c]
  by_cases e : i = j
  · subst e
    rw [if_pos rfl, if_pos hb, ho]
    rfl
  · rw [if_neg e, gI_set9 a b c, if_neg e, h j c (by omega)]
theorem nowr_in {n m : Int} (h : NowR I nw n) (a : 0 ≤ m) (b : m < n) (hm : 0 ≤ gI nw m) : gB I m = true := by
  cases e : gB I m
  · rw [h m a b, if_neg (by rw [e]; decide)] at hm
    omega
  · rfl
theorem nowr_out {n m : Int} (h : NowR I nw n) (a : 0 ≤ m) (b : m < n) (hm : ¬ 0 ≤ gI nw m) : gB I m = false := by
  cases e : gB I m
  · rfl
  · rw [h m a b, if_pos e] at hm
    exact absurd (show 0 ≤ posI I m by unfold posI; omega) hm
theorem nowr_at {n m : Int} (h : NowR I nw n) (a : 0 ≤ m) (b : m < n) (hm : 0 ≤ gI nw m) : gI nw m = posI I m := by
  rw [h m a b, if_pos (nowr_in h a b hm)]
theorem gone_od {k : Int} (h : od = lsD (inT g s) 256) (a : 0 ≤ k) (b : k < (od.length : Int)) (hk : subR g (inT g s) (gI od k) = []) : subAll g (inT g s) = false := by
  subst h
  exact gone_bad a b hk
theorem gone_od1 {k : Int} (h : od = lsD (inT g s) 256) (hg : GoneT g (inT g s) k) (hk : subR g (inT g s) (gI od k) ≠ []) : GoneT g (inT g s) (k + 1) := by
  subst h
  exact gone_next hg hk
theorem sub_yesR (hR : isR g = true) (ho : od = lsD (inT g s) 256) {k : Int} (hg : GoneT g (inT g s) k) (hk : (od.length : Int) ≤ k) (hne : ((od.length : Nat) : Int) ≠ 0) : subG g (inT g s) = ⟨od.map (gI g.ow), od.map (gI g.pr), od.map (subR g (inT g s))⟩ ∧ subO g (inT g s) = od ∧ subB g (inT g s) = true := by
  subst ho
  obtain ⟨h1, h2, h3⟩ := sub_yes hR (gone_all hg hk)
  exact ⟨h1, h2, by rw [h3]; exact decide_eq_true (by omega)⟩
theorem sub_empR (hR : isR g = true) (ho : od = lsD (inT g s) 256) {k : Int} (hg : GoneT g (inT g s) k) (hk : (od.length : Int) ≤ k) (hne : ((od.length : Nat) : Int) = 0) : subG g (inT g s) = ⟨[], [], []⟩ ∧ subO g (inT g s) = [] ∧ subB g (inT g s) = false := by
  subst ho
  obtain ⟨h1, h2, h3⟩ := sub_yes hR (gone_all hg hk)
  have h4 : lsD (inT g s) 256 = [] := List.length_eq_zero_iff.1 (by omega)
  rw [h4] at h1 h2 h3
  exact ⟨h1, h2, h3⟩
end
end Go.Proofs.YtkkophhnliplhaaDoor
namespace Go.Proofs.YtkkophhnliplhaaDoor
open Go Go.RowKit
set_option maxHeartbeats 4000000 in
theorem rightR_any {Ag0 Ag1 Ag2 : Option Addr} {cg0 cg1 cg2 : Nat} {g : GameL} {w : World} (rg : RdG w 0 w.heap.size Ag0 Ag1 Ag2 cg0 cg1 cg2 g) :
    Calls Tryd.prog 15 #[.agg #[.slice Ag0 g.ow.length cg0, .slice Ag1 g.pr.length cg1, .slice Ag2 g.mv.length cg2]] w fun e w' => e = .returned (.tuple #[.int .i64 (rightP g).1, .int .i64 (rightP g).2]) ∧ Ext w w' := by
 have hlg0 := rg.ow.len; have hlg1 := rg.pr.len; have hlg2 := rg.mv.len; have hkg0 := rg.k0; have hkg1 := rg.k1; have hkg2 := rg.k2
 refine enter_ (args := [.agg #[.slice Ag0 g.ow.length cg0, .slice Ag1 g.pr.length cg1, .slice Ag2 g.mv.length cg2]]) Tryd.func15 rfl Tryd.ntmps15 (Nat.le_of_ble_eq_true rfl) (fun act0 f0 => ?_)
 have e0 : Ext w w := Ext.refl w
 refine sqs ?_
 refine At.bx f0 1 [.slice Ag0 g.ow.length cg0, .slice Ag1 g.pr.length cg1, .slice Ag2 g.mv.length cg2] 25 (fun w1 g5 bx6 act4 f3 => ?_)
 clear f0; have := g5.size; replace e0 := e0.gn g5; have r9 := rg.gn g5; clear rg; have := bx6.lt; clear g5
 refine At.rk f3 2 [(3, .int .i64 (0)), (2, .int .i64 (0))] .n (fun dF bL => ?_)
 clear f3
 refine At.dn ?_
 refine sqs ?_
 refine At.rk bL 4 [(4, .int .i64 (((g.ow.length : Nat) : Int)))] (.l (bx6.cell (i := 0) rfl) <| .n) (fun dG aU => ?_)
 clear bL
 refine At.dn ?_
 refine wp_seq ?_
 refine sqs ?_
 rcases Bool.eq_false_or_eq_true ((((g.pr.length : Nat) : Int) : Int) != ((g.ow.length : Nat) : Int)) with aG | aG
 ·have dH := bne_iff_ne.1 aG
  refine At.rk aU 12 [(23, .bool true)] (.l (bx6.cell (i := 1) rfl) <| .e 17 aG <| .n) (fun dI aZ => ?_)
  clear aU
  refine At.dn ?_
  refine cond_T aZ rfl ?_
  refine sqs ?_
  refine At.rk aZ 2 [(3, .int .i64 (1)), (2, .int .i64 (0))] .n (fun dJ cC => ?_)
  clear aZ
  refine At.dn ?_
  refine wp_ret ?_
  refine t_r ?_
  refine ret_ cC [] [.int .i64 (0), .int .i64 (1)] [] κ trivial ?_
  exact ⟨ret2_ii (right_lens ω) rfl rfl, e0⟩
 have dK := bne_eq_false_iff_eq.1 aG
 refine At.rk aU 12 [(23, .bool ((((g.mv.length : Nat) : Int) : Int) != ((g.ow.length : Nat) : Int)))] (.l (bx6.cell (i := 1) rfl) <| .e 17 aG <| .l (bx6.cell (i := 2) rfl) <| .n) (fun dL aB => ?_)
 clear aU
 refine At.dn ?_
 refine cond_S aB (t := (((g.mv.length : Nat) : Int) : Int) != ((g.ow.length : Nat) : Int)) rfl (fun bA => ?_) (fun bA => ?_)
 ·have dM := bne_iff_ne.1 bA
  refine sqs ?_
  refine At.rk aB 2 [(3, .int .i64 (1)), (2, .int .i64 (0))] .n (fun dN cD => ?_)
  clear aB
  refine At.dn ?_
  refine wp_ret ?_
  refine t_r ?_
  refine ret_ cD [] [.int .i64 (0), .int .i64 (1)] [] κ trivial ?_
  exact ⟨ret2_ii (right_lens ω) rfl rfl, e0⟩
 have dO := bne_eq_false_iff_eq.1 bA
 refine wp_skip ?_
 refine t_n ?_
 refine wp_seq ?_
 refine sqs ?_
 rcases Bool.eq_false_or_eq_true ((((g.ow.length : Nat) : Int) : Int) == 0) with aH | aH
 ·have dP := eq_of_beq aH
  refine At.rk aB 6 [(29, .bool true)] (.e 26 aH <| .n) (fun dQ bB => ?_)
  clear aB
  refine At.dn ?_
  refine cond_T bB rfl ?_
  refine sqs ?_
  refine At.rk bB 2 [(3, .int .i64 (10)), (2, .int .i64 (0))] .n (fun dR cE => ?_)
  clear bB
  refine At.dn ?_
  refine wp_ret ?_
  refine t_r ?_
  refine ret_ cE [] [.int .i64 (0), .int .i64 (10)] [] κ trivial ?_
  exact ⟨ret2_ii (right_many ω ω) rfl rfl, e0⟩
 have dS := ne_of_beq_false aH
 refine At.rk aB 6 [(29, .bool (decide ((((g.ow.length : Nat) : Int) : Int) > 200)))] (.e 26 aH <| .n) (fun dT aI => ?_)
 clear aB
 refine At.dn ?_
 refine cond_S aI (t := decide ((((g.ow.length : Nat) : Int) : Int) > 200)) rfl (fun bC => ?_) (fun bC => ?_)
 ·have dU := of_decide_eq_true bC
  refine sqs ?_
  refine At.rk aI 2 [(3, .int .i64 (10)), (2, .int .i64 (0))] .n (fun dV cF => ?_)
  clear aI
  refine At.dn ?_
  refine wp_ret ?_
  refine t_r ?_
  refine ret_ cF [] [.int .i64 (0), .int .i64 (10)] [] κ trivial ?_
  exact ⟨ret2_ii (right_many ω ω) rfl rfl, e0⟩
 have dW := of_decide_eq_false bC
 refine wp_skip ?_
 refine t_n ?_
 refine wp_seq ?_
 refine sqs ?_
 refine At.rk aI 1 [(5, .int .i64 (0))] .n (fun dX bM => ?_)
 clear aI
 refine At.dn ?_
 refine wp_block ?_
 refine loop_g (fun (m_ : Nat) a_ w_ => ∃ (k : Int), m_ = ((g.ow.length : Int) - k).toNat ∧ (Frm 101 a_ [(5, .int .i64 (k)), (4, .int .i64 (((g.ow.length : Nat) : Int))), (1, pt w.heap.size 0)]) ∧ (Ext w w_) ∧ (RdG w_ 0 w.heap.size Ag0 Ag1 Ag2 cg0 cg1 cg2 g) ∧ (Bx w_ (w.heap.size) [.slice Ag0 g.ow.length cg0, .slice Ag1 g.pr.length cg1, .slice Ag2 g.mv.length cg2] 25) ∧ (0 ≤ k) ∧ (k ≤ (g.ow.length : Int)) ∧ (∀ j : Nat, (j : Int) < k → g.err j = 0)) _ ⟨0, rfl, bM.sb, e0, r9, bx6, ω, ω, (fun j hj => by omega)⟩ ?_
 clear bM; clear r9; clear bx6; clear e0
 intro m_ dY cG ⟨k, hm48, bN, aE, aJ, aC, i52, i53, hp⟩
 have := aE.size; have := aC.lt
 refine wp_seq ?_
 refine sqs ?_
 refine At.rk bN 3 [(32, .bool (decide ((k : Int) < ((g.ow.length : Nat) : Int))))] .n (fun dZ aA => ?_)
 clear bN
 refine At.dn ?_
 refine cond_S aA (t := decide ((k : Int) < ((g.ow.length : Nat) : Int))) rfl (fun bD => ?_) (fun bD => ?_)
 ·have eA := of_decide_eq_true bD
  refine wp_skip ?_
  refine t_n ?_
  refine wp_seq ?_
  refine wp_block ?_
  refine wp_seq (cut (fun a_ w_ => (Frm 101 a_ [(5, .int .i64 (k)), (4, .int .i64 (((g.ow.length : Nat) : Int))), (1, pt w.heap.size 0)]) ∧ (Ext w w_) ∧ (RdG w_ 0 w.heap.size Ag0 Ag1 Ag2 cg0 cg1 cg2 g) ∧ (Bx w_ (w.heap.size) [.slice Ag0 g.ow.length cg0, .slice Ag1 g.pr.length cg1, .slice Ag2 g.mv.length cg2] 25) ∧ (gI g.ow k = 0 ∨ gI g.ow k = 1) ∧ (cG.heap.size ≤ w_.heap.size)) ?_ ?_)
  ·refine sqs ?_
   obtain ⟨eB, bO, _, _, bP⟩ := RdI.get aJ.ow (k) ω ω
   rcases Bool.eq_false_or_eq_true ((gI g.ow (k) : Int) != 0) with aK | aK
   ·have eC := bne_iff_ne.1 aK
    obtain ⟨cH, cI, _, _, cJ⟩ := RdI.get aJ.ow (k) ω ω
    refine At.rk aA 14 [(48, .bool ((gI g.ow (k) : Int) != 1)), (47, .bool ((gI g.ow (k) : Int) != 1)), (46, .int .i64 (gI g.ow (k))), (45, .pointer (some (cH.add ((k : Int).toNat * 1)))), (44, .int .i64 (k)), (43, .slice Ag0 g.ow.length cg0), (42, pt w.heap.size 0)] (.l (aC.cell (i := 0) rfl) <| .a k g.ow.length bO <| .l bP <| .e 41 aK <| .l (aC.cell (i := 0) rfl) <| .a k g.ow.length cI <| .l cJ <| .n) (fun eD aV => ?_)
    clear aA
    refine At.dn ?_
    refine cond_S aV (t := (gI g.ow (k) : Int) != 1) rfl (fun bE => ?_) (fun bE => ?_)
    ·have eE := bne_iff_ne.1 bE
     refine sqs ?_
     refine At.rk aV 3 [(3, .int .i64 (14)), (2, .int .i64 (k))] .n (fun eF cK => ?_)
     clear aV
     refine At.dn ?_
     refine wp_ret ?_
     refine t_r ?_
     refine b_r ?_
     refine t_r ?_
     refine t_r ?_
     refine b_r ?_
     refine t_r ?_
     refine ret_ cK [] [.int .i64 (k), .int .i64 (14)] [] κ trivial ?_
     exact ⟨ret2_ii (right_at' ω ω ω ω σ (err_14 ω ω) (by decide)) rfl rfl, aE⟩
    have eG := bne_eq_false_iff_eq.1 bE
    refine wp_skip ?_
    refine t_n ?_
    exact ⟨aV.sb, aE, aJ, aC, ω, ω⟩
   have eH := bne_eq_false_iff_eq.1 aK
   refine At.rk aA 14 [(48, .bool false)] (.l (aC.cell (i := 0) rfl) <| .a k g.ow.length bO <| .l bP <| .e 41 aK <| .n) (fun eI bQ => ?_)
   clear aA
   refine At.dn ?_
   refine cond_F bQ rfl ?_
   refine wp_skip ?_
   refine t_n ?_
   exact ⟨bQ.sb, aE, aJ, aC, ω, ω⟩
  clear aJ; clear aC; clear aA aE
  intro eJ eK ⟨aW, aF, aL, aD, i82, i83⟩
  have := aF.size; have := aD.lt
  refine wp_seq ?_
  refine sqs ?_
  obtain ⟨eL, bR, _, _, bS⟩ := RdI.get aL.pr (k) ω ω
  rcases Bool.eq_false_or_eq_true (decide ((gI g.pr (k) : Int) < 0)) with aM | aM
  ·have eM := of_decide_eq_true aM
   refine At.rk aW 14 [(63, .bool true)] (.l (aD.cell (i := 1) rfl) <| .a k g.pr.length bR <| .l bS <| .e 56 aM <| .n) (fun eN bF => ?_)
   clear aW
   refine At.dn ?_
   refine cond_T bF rfl ?_
   refine sqs ?_
   refine At.rk bF 3 [(3, .int .i64 (15)), (2, .int .i64 (k))] .n (fun eO cL => ?_)
   clear bF
   refine At.dn ?_
   refine wp_ret ?_
   refine t_r ?_
   refine b_r ?_
   refine t_r ?_
   refine t_r ?_
   refine b_r ?_
   refine t_r ?_
   refine ret_ cL [] [.int .i64 (k), .int .i64 (15)] [] κ trivial ?_
   exact ⟨ret2_ii (right_at' ω ω ω ω σ (err_15 ω ω) (by decide)) rfl rfl, aF⟩
  have eP := of_decide_eq_false aM
  obtain ⟨bT, cM, _, _, cN⟩ := RdI.get aL.pr (k) ω ω
  refine At.rk aW 14 [(63, .bool (decide ((gI g.pr (k) : Int) > 7))), (62, .bool (decide ((gI g.pr (k) : Int) > 7))), (61, .int .i64 (gI g.pr (k))), (60, .pointer (some (bT.add ((k : Int).toNat * 1)))), (59, .int .i64 (k)), (58, .slice Ag1 g.pr.length cg1), (57, pt w.heap.size 1)] (.l (aD.cell (i := 1) rfl) <| .a k g.pr.length bR <| .l bS <| .e 56 aM <| .l (aD.cell (i := 1) rfl) <| .a k g.pr.length cM <| .l cN <| .n) (fun eQ aN => ?_)
  clear aW
  refine At.dn ?_
  refine cond_S aN (t := decide ((gI g.pr (k) : Int) > 7)) rfl (fun bG => ?_) (fun bG => ?_)
  ·have eR := of_decide_eq_true bG
   refine sqs ?_
   refine At.rk aN 3 [(3, .int .i64 (15)), (2, .int .i64 (k))] .n (fun eS cO => ?_)
   clear aN
   refine At.dn ?_
   refine wp_ret ?_
   refine t_r ?_
   refine b_r ?_
   refine t_r ?_
   refine t_r ?_
   refine b_r ?_
   refine t_r ?_
   refine ret_ cO [] [.int .i64 (k), .int .i64 (15)] [] κ trivial ?_
   exact ⟨ret2_ii (right_at' ω ω ω ω σ (err_15 ω ω) (by decide)) rfl rfl, aF⟩
  have eT := of_decide_eq_false bG
  refine wp_skip ?_
  refine t_n ?_
  refine wp_seq ?_
  refine sqs ?_
  obtain ⟨eU, eV, eW, cP, _, _, cQ, eX, cR⟩ := RdII.get aL.mv (k) ω ω
  have eY := cR.len
  refine At.rk aN 7 [(71, .bool (((((gL g.mv (k)).length : Nat) : Int) : Int) == 0))] (.l (aD.cell (i := 2) rfl) <| .a k g.mv.length cP <| .l cQ <| .n) (fun eZ aO => ?_)
  clear aN
  refine At.dn ?_
  refine cond_S aO (t := ((((gL g.mv (k)).length : Nat) : Int) : Int) == 0) rfl (fun bH => ?_) (fun bH => ?_)
  ·have fA := eq_of_beq bH
   refine sqs ?_
   refine At.rk aO 3 [(3, .int .i64 (17)), (2, .int .i64 (k))] .n (fun fB cS => ?_)
   clear aO
   refine At.dn ?_
   refine wp_ret ?_
   refine t_r ?_
   refine b_r ?_
   refine t_r ?_
   refine t_r ?_
   refine b_r ?_
   refine t_r ?_
   refine ret_ cS [] [.int .i64 (k), .int .i64 (17)] [] κ trivial ?_
   exact ⟨ret2_ii (right_at' ω ω ω ω σ (err_17 ω ω ω) (by decide)) rfl rfl, aF⟩
  have fC := ne_of_beq_false bH
  refine wp_skip ?_
  refine t_n ?_
  refine sqs ?_
  refine At.rk aO 1 [(6, .int .i64 (-1))] .n (fun fD bU => ?_)
  clear aO
  refine At.dn ?_
  refine sqs ?_
  refine At.rk bU 1 [(7, .int .i64 (0))] .n (fun fE bV => ?_)
  clear bU
  refine At.dn ?_
  refine wp_block ?_
  have bW := bV.as 6 (.int .i64 (-1)) (.int .i64 (lastOf (gL g.mv k) (0 : Int).toNat)) rfl (congrArg (Value.int .i64) (last_0.symm)); clear bV
  refine loop_g (fun (m_ : Nat) a_ w_ => ∃ (q : Int), m_ = (((gL g.mv k).length : Int) - q).toNat ∧ (Frm 101 a_ [(7, .int .i64 (q)), (6, .int .i64 (lastOf (gL g.mv k) q.toNat)), (62, .bool (decide ((gI g.pr (k) : Int) > 7))), (61, .int .i64 (gI g.pr (k))), (60, .pointer (some (bT.add ((k : Int).toNat * 1)))), (59, .int .i64 (k)), (58, .slice Ag1 g.pr.length cg1), (57, pt w.heap.size 1), (5, .int .i64 (k)), (4, .int .i64 (((g.ow.length : Nat) : Int))), (1, pt w.heap.size 0)]) ∧ (Ext w w_) ∧ (RdG w_ 0 w.heap.size Ag0 Ag1 Ag2 cg0 cg1 cg2 g) ∧ (Bx w_ (w.heap.size) [.slice Ag0 g.ow.length cg0, .slice Ag1 g.pr.length cg1, .slice Ag2 g.mv.length cg2] 25) ∧ (0 ≤ q) ∧ (q ≤ ((gL g.mv k).length : Int)) ∧ (rowBad g.ow.length (-1) ((gL g.mv k).take q.toNat) = false)) _ ⟨0, rfl, bW.sb, aF, aL, aD, ω, ω, rfl⟩ ?_
  clear bW; clear aL; clear aD; clear aF
  intro m_ fF fG ⟨q, hm129, bX, aP, aX, aQ, i133, i134, i135⟩
  have := aP.size; have := aQ.lt
  refine wp_seq ?_
  refine sqs ?_
  obtain ⟨fH, fI, fJ, cT, _, _, cU, fK, cV⟩ := RdII.get aX.mv (k) ω ω
  have fL := cV.len
  refine At.rk bX 8 [(80, .bool (decide ((q : Int) < (((gL g.mv (k)).length : Nat) : Int))))] (.l (aQ.cell (i := 2) rfl) <| .a k g.mv.length cT <| .l cU <| .n) (fun fM aR => ?_)
  clear bX
  refine At.dn ?_
  refine cond_S aR (t := decide ((q : Int) < (((gL g.mv (k)).length : Nat) : Int))) rfl (fun bI => ?_) (fun bI => ?_)
  ·have fN := of_decide_eq_true bI
   refine wp_skip ?_
   refine t_n ?_
   refine wp_seq ?_
   refine wp_block ?_
   refine sqs ?_
   obtain ⟨fO, fP, fQ, cW, _, _, cX, fR, bY⟩ := RdII.get aX.mv (k) ω ω
   have fS := bY.len
   obtain ⟨fT, cY, _, _, cZ⟩ := RdI.get bY (q) ω ω
   refine At.rk aR 9 [(8, .int .i64 (gI (gL g.mv (k)) (q)))] (.l (aQ.cell (i := 2) rfl) <| .a k g.mv.length cW <| .l cX <| .a q ((gL g.mv (k)).length) cY <| .l cZ <| .n) (fun fU aY => ?_)
   clear aR
   refine At.dn ?_
   refine wp_seq ?_
   refine sqs ?_
   rcases Bool.eq_false_or_eq_true (decide ((gI (gL g.mv (k)) (q) : Int) ≤ (lastOf (gL g.mv k) q.toNat))) with aS | aS
   ·have fV := of_decide_eq_true aS
    refine At.rk aY 8 [(98, .bool true)] (.e 94 aS <| .n) (fun fW bJ => ?_)
    clear aY
    refine At.dn ?_
    refine cond_T bJ rfl ?_
    refine sqs ?_
    refine At.rk bJ 3 [(3, .int .i64 (16)), (2, .int .i64 (k))] .n (fun fX dA => ?_)
    clear bJ
    refine At.dn ?_
    refine wp_ret ?_
    refine t_r ?_
    refine b_r ?_
    refine t_r ?_
    refine t_r ?_
    refine b_r ?_
    refine b_r ?_
    refine t_r ?_
    refine t_r ?_
    refine b_r ?_
    refine t_r ?_
    refine ret_ dA [] [.int .i64 (k), .int .i64 (16)] [] κ trivial ?_
    exact ⟨ret2_ii (right_at' ω ω ω ω σ (err_16 ω ω ω (bad_at (q := q) ω ω ω)) (by decide)) rfl rfl, aP⟩
   have fY := of_decide_eq_false aS
   refine At.rk aY 8 [(98, .bool (decide ((gI (gL g.mv (k)) (q) : Int) ≥ ((g.ow.length : Nat) : Int)))), (97, .bool (decide ((gI (gL g.mv (k)) (q) : Int) ≥ ((g.ow.length : Nat) : Int)))), (96, .int .i64 (((g.ow.length : Nat) : Int))), (95, .int .i64 (gI (gL g.mv (k)) (q)))] (.e 94 aS <| .n) (fun fZ aT => ?_)
   clear aY
   refine At.dn ?_
   refine cond_S aT (t := decide ((gI (gL g.mv (k)) (q) : Int) ≥ ((g.ow.length : Nat) : Int))) rfl (fun bK => ?_) (fun bK => ?_)
   ·have gA := of_decide_eq_true bK
    refine sqs ?_
    refine At.rk aT 3 [(3, .int .i64 (16)), (2, .int .i64 (k))] .n (fun gB bZ => ?_)
    clear aT
    refine At.dn ?_
    have dB := bZ.sb (r := [(3, .int .i64 (16)), (2, .int .i64 (k))]); clear bZ
    refine wp_ret ?_
    refine t_r ?_
    refine b_r ?_
    refine t_r ?_
    refine t_r ?_
    refine b_r ?_
    refine b_r ?_
    refine t_r ?_
    refine t_r ?_
    refine b_r ?_
    refine t_r ?_
    refine ret_ dB [] [.int .i64 (k), .int .i64 (16)] [] κ trivial ?_
    exact ⟨ret2_ii (right_at' ω ω ω ω σ (err_16 ω ω ω (bad_at (q := q) ω ω ω)) (by decide)) rfl rfl, aP⟩
   have gC := of_decide_eq_false bK
   refine wp_skip ?_
   refine t_n ?_
   refine At.start ?_
   refine At.rk aT 2 [(6, .int .i64 (gI (gL g.mv (k)) (q)))] .n (fun gD cA => ?_)
   clear aT
   refine At.done rfl ?_
   refine b_n ?_
   refine t_n ?_
   refine At.start ?_
   refine At.rk cA 3 [(7, .int .i64 (q + 1))] (.w 82 (q + 1) <| .n) (fun gE cB => ?_)
   clear cA
   refine At.dn ?_
   have dC := cB.as 6 (.int .i64 (gI (gL g.mv (k)) (q))) (.int .i64 (lastOf (gL g.mv k) ((q + 1) : Int).toNat)) rfl (congrArg (Value.int .i64) (last_next ω ω)); clear cB
   exact ⟨_, ω, (q + 1), rfl, dC.sb, aP, aX, aQ, ω, ω, (bad_next ω ω σ ω ω)⟩
  have gF := of_decide_eq_false bI
  refine wp_exit ?_
  refine t_e ?_
  clear hm129
  refine t_e ?_
  refine b_e ?_
  refine b_n ?_
  refine t_n ?_
  refine At.start ?_
  refine At.rk aR 3 [(5, .int .i64 (k + 1))] (.w 34 (k + 1) <| .n) (fun gG dD => ?_)
  clear aR
  refine At.dn ?_
  exact ⟨_, ω, (k + 1), rfl, dD.sb, aP, aX, aQ, ω, ω, (err_next ω hp (err_0 ω ω ω (bad_all σ ω)))⟩
 have gH := of_decide_eq_false bD
 refine wp_exit ?_
 refine t_e ?_
 clear hm48
 refine t_e ?_
 refine b_e ?_
 refine t_n ?_
 refine sqs ?_
 refine At.rk aA 2 [(3, .int .i64 (0)), (2, .int .i64 (0))] .n (fun gJ dE => ?_)
 clear aA
 refine At.dn ?_
 refine wp_ret ?_
 refine ret_ dE [] [.int .i64 (0), .int .i64 (0)] [] κ trivial ?_
 exact ⟨ret2_ii (right_ok' (k := k) ω ω ω σ) rfl rfl, aE⟩
end Go.Proofs.YtkkophhnliplhaaDoor
namespace Go.Proofs.YtkkophhnliplhaaDoor
open Go Go.RowKit
set_option maxHeartbeats 4000000 in
theorem isR_any {Ag0 Ag1 Ag2 : Option Addr} {cg0 cg1 cg2 : Nat} {g : GameL} {w : World} (rg : RdG w 0 w.heap.size Ag0 Ag1 Ag2 cg0 cg1 cg2 g) :
    Calls Tryd.prog 40 #[.agg #[.slice Ag0 g.ow.length cg0, .slice Ag1 g.pr.length cg1, .slice Ag2 g.mv.length cg2]] w fun e w' => e = .returned (.bool (isR g)) ∧ Ext w w' := by
 have hlg0 := rg.ow.len; have hlg1 := rg.pr.len; have hlg2 := rg.mv.len; have hkg0 := rg.k0; have hkg1 := rg.k1; have hkg2 := rg.k2
 refine enter_ (args := [.agg #[.slice Ag0 g.ow.length cg0, .slice Ag1 g.pr.length cg1, .slice Ag2 g.mv.length cg2]]) Tryd.func40 rfl Tryd.ntmps40 (Nat.le_of_ble_eq_true rfl) (fun act0 f0 => ?_)
 have e0 : Ext w w := Ext.refl w
 refine sqs ?_
 refine At.bx f0 1 [.slice Ag0 g.ow.length cg0, .slice Ag1 g.pr.length cg1, .slice Ag2 g.mv.length cg2] 25 (fun w1 g5 bx6 act4 f3 => ?_)
 clear f0; have := g5.size; replace e0 := e0.gn g5; have r9 := rg.gn g5; clear rg; have := bx6.lt; clear g5
 refine At.rk f3 1 [] .n (fun aG aB => ?_)
 clear f3
 refine At.dn ?_
 refine sqs ?_
 refine At.rk aB 1 [(6, .agg #[.slice Ag0 g.ow.length cg0, .slice Ag1 g.pr.length cg1, .slice Ag2 g.mv.length cg2])] (.l (bx6.cell (i := 0) rfl) <| .l (bx6.cell (i := 1) rfl) <| .l (bx6.cell (i := 2) rfl) <| .n) (fun aH aC => ?_)
 clear aB
 refine At.cl aC (some 7) (args := #[.agg #[.slice Ag0 g.ow.length cg0, .slice Ag1 g.pr.length cg1, .slice Ag2 g.mv.length cg2]]) (rightR_any (r9.wide (Nat.zero_le _) ω)) ?_
 rintro e_ aI ⟨rfl, he⟩
 refine ⟨_, rfl, _, rfl, fun aJ aD => ?_⟩
 clear aC; have aA := gr_ext he; have := aA.size; replace e0 := e0.gn aA; replace r9 := r9.gn aA; replace bx6 := bx6.gn aA; clear aA he
 refine At.rk aD 5 [(4, .int .i64 ((rightP g).2))] .n (fun aK aE => ?_)
 clear aD
 refine At.dn ?_
 refine sqs ?_
 refine At.rk aE 3 [(2, .bool (((rightP g).2 : Int) == 0))] .n (fun aL aF => ?_)
 clear aE
 refine At.dn ?_
 refine wp_ret ?_
 refine ret_ aF [] [.bool (((rightP g).2 : Int) == 0)] [] κ trivial ?_
 exact ⟨rfl, e0⟩
end Go.Proofs.YtkkophhnliplhaaDoor
