/-
  Texts of this repo, laid together: the frame of the walks, plain lemmas, walks of Go functions. Conditions: what the theorems name.
-/
import Derived.Test.YtkkophhnliplhaaDoorZ3
set_option linter.unusedVariables false
set_option linter.unusedSimpArgs false
namespace Go.Proofs.YtkkophhnliplhaaDoor
open Go Go.RowKit
attribute [local irreducible] ofZ fromW wordsD ofD ofW lsD lenW lenN fullW withW lessW hasW hasD inW inD leastD putD onI tzI orS andS minusS orD andD minusD fullD emptyD
set_option maxHeartbeats 4000000 in
theorem subR_any {Ag0 Ag1 Ag2 : Option Addr} {cg0 cg1 cg2 : Nat} {g : GameL} {s : List Int} {Ai : Option Addr} {ci nI : Nat} {w : World} (rg : RdG w 0 w.heap.size Ag0 Ag1 Ag2 cg0 cg1 cg2 g) (hs : OkW s) (ri : RdR w 0 w.heap.size Ai (fromW s)) (hnI : nI = (fromW s).length) :
    Calls Tryd.prog 23 #[.agg #[.slice Ag0 g.ow.length cg0, .slice Ag1 g.pr.length cg1, .slice Ag2 g.mv.length cg2], .slice Ai nI ci] w fun e w' => ∃ A0 c0 A1 c1 A2 c2 A3 c3, e = .returned (.tuple #[.agg #[.slice A0 (subG g (inT g s)).ow.length c0, .slice A1 (subG g (inT g s)).pr.length c1, .slice A2 (subG g (inT g s)).mv.length c2], .slice A3 (subO g (inT g s)).length c3, .bool (subB g (inT g s))]) ∧ Ext w w' ∧ OwnR w' (Sx w.heap.size [obk A1, obk A2, obk A3]) A0 c0 3 (subG g (inT g s)).ow ∧ OwnR w' (Sx w.heap.size [obk A0, obk A2, obk A3]) A1 c1 3 (subG g (inT g s)).pr ∧ OwnLL w' w.heap.size [obk A0, obk A1, obk A3] A2 c2 22 3 (subG g (inT g s)).mv ∧ OwnR w' (Sx w.heap.size [obk A0, obk A1, obk A2]) A3 c3 3 (subO g (inT g s)) := by
 have hlg0 := rg.ow.len; have hlg1 := rg.pr.len; have hlg2 := rg.mv.len; have hkg0 := rg.k0; have hkg1 := rg.k1; have hkg2 := rg.k2; have hfl := from_len s
 refine enter_ (args := [.agg #[.slice Ag0 g.ow.length cg0, .slice Ag1 g.pr.length cg1, .slice Ag2 g.mv.length cg2], .slice Ai nI ci]) Tryd.func23 rfl Tryd.ntmps23 (Nat.le_of_ble_eq_true rfl) (fun act0 f0 => ?_)
 have e0 : Ext w w := Ext.refl w
 refine sqs ?_
 refine At.bx f0 2 [.slice Ag0 g.ow.length cg0, .slice Ag1 g.pr.length cg1, .slice Ag2 g.mv.length cg2] 25 (fun w1 g5 bx6 act4 f3 => ?_)
 clear f0; have := g5.size; replace e0 := e0.gn g5; have r9 := rg.gn g5; clear rg; have cY := ri.gn g5; clear ri; have := bx6.lt; clear g5
 refine At.bx f3 4 [.slice none 0 0, .slice none 0 0, .slice none 0 0] 25 (fun oZ eR dF pA iO => ?_)
 clear f3; have := eR.size; replace e0 := e0.gn eR; replace r9 := r9.gn eR; replace cY := cY.gn eR; replace bx6 := bx6.gn eR; have := dF.lt; clear eR
 refine At.rk iO 2 [(6, .bool false), (5, .slice none 0 0)] .n (fun pB iP => ?_)
 clear iO
 refine At.dn ?_
 refine sqs ?_
 refine At.rk iP 1 [(16, .agg #[.slice Ag0 g.ow.length cg0, .slice Ag1 g.pr.length cg1, .slice Ag2 g.mv.length cg2])] (.l (bx6.cell (i := 0) rfl) <| .l (bx6.cell (i := 1) rfl) <| .l (bx6.cell (i := 2) rfl) <| .n) (fun pC iQ => ?_)
 clear iP
 refine At.cl iQ (some 17) (args := #[.agg #[.slice Ag0 g.ow.length cg0, .slice Ag1 g.pr.length cg1, .slice Ag2 g.mv.length cg2]]) (isR_any (r9.wide (Nat.zero_le _) ω)) ?_
 rintro e_ aQ ⟨rfl, he⟩
 refine ⟨_, rfl, _, rfl, fun pD iR => ?_⟩
 clear iQ; have eJ := gr_ext he; have := eJ.size; replace e0 := e0.gn eJ; replace r9 := r9.gn eJ; replace cY := cY.gn eJ; replace bx6 := bx6.gn eJ; replace dF := dF.gn eJ; clear eJ he
 refine At.rk iR 1 [(7, .bool (isR g))] .n (fun pE iS => ?_)
 clear iR
 refine At.dn ?_
 refine wp_seq ?_
 refine sqs ?_
 refine At.rk iS 2 [(19, .bool (!(isR g)))] .n (fun pF fA => ?_)
 clear iS
 refine At.dn ?_
 refine cond_S fA (t := !(isR g)) rfl (fun eK => ?_) (fun eK => ?_)
 ·have pG : (isR g) = false := by first | exact Eq.mp (Bool.not_eq_true' _) eK | exact Eq.mp (Bool.not_eq_false' _) eK | simpa using eK
  refine sqs ?_
  refine At.rk fA 1 [(20, .agg #[.slice none 0 0, .slice none 0 0, .slice none 0 0])] .n (fun pH iT => ?_)
  clear fA
  refine At.store iT (t := 25) (b := w1.heap.size) (off := 0) (v := .agg #[.slice none 0 0, .slice none 0 0, .slice none 0 0]) κ dF κ (fun pI fZ eS fB iU => ?_)
  clear iT; replace fB : Bx fZ (w1.heap.size) [.slice none 0 0, .slice none 0 0, .slice none 0 0] 25 := fB; have := eS.size; replace e0 := e0.gr eS (fun k h => by injection h; omega); replace r9 := r9.gb eS ω; replace cY := cY.gb eS ω; replace bx6 := bx6.gb eS ω; clear dF eS
  refine At.rk iU 2 [(6, .bool false), (5, .slice none 0 0)] .n (fun pJ mN => ?_)
  clear iU
  refine At.dn ?_
  clear bx6
  refine wp_ret ?_
  refine t_r ?_
  refine ret_ mN [[.slice none 0 0, .slice none 0 0, .slice none 0 0]] [.agg #[.slice none 0 0, .slice none 0 0, .slice none 0 0], .slice none 0 0, .bool false] [(fZ.cell? ⟨w1.heap.size, 0, none⟩ = some (.slice none 0 0)), (fZ.cell? ⟨w1.heap.size, 1, none⟩ = some (.slice none 0 0)), (fZ.cell? ⟨w1.heap.size, 2, none⟩ = some (.slice none 0 0))] κ ⟨(fB.cell (i := 0) rfl), (fB.cell (i := 1) rfl), (fB.cell (i := 2) rfl), trivial⟩ ?_
  obtain ⟨e1_, e2_, e3_⟩ := (by first | exact sub_no (g := g) (I := inT g s) (.inl σ) | exact sub_no (g := g) (I := inT g s) (.inr hbad) | exact sub_empR hR hod2 hgo ω ω : subG g (inT g s) = ⟨[], [], []⟩ ∧ subO g (inT g s) = [] ∧ subB g (inT g s) = false)
  rw [e1_, e2_, e3_]
  exact ⟨none, 0, none, 0, none, 0, none, 0, rfl, e0, OwnR.nil, OwnR.nil, OwnLL.nil, OwnR.nil⟩
 have pK : (isR g) = true := by first | exact Eq.mp (Bool.not_eq_true' _) eK | exact Eq.mp (Bool.not_eq_false' _) eK | simpa using eK
 refine wp_skip ?_
 refine t_n ?_
 refine wp_seq ?_
 have hR : isR g = true := by assumption
 have hG := isR_ok hR; have hn1 := hG.n1; have hpl := hG.pl; have hml := hG.ml
 refine At.start ?_
 refine At.rk fA 1 [(8, .slice none 0 0)] .n (fun pL iV => ?_)
 clear fA
 refine At.dn ?_
 refine sqs ?_
 refine At.rk iV 3 [(23, .int .i64 (((g.ow.length : Nat) : Int)))] (.l (bx6.cell (i := 0) rfl) <| .n) (fun pM iW => ?_)
 clear iV
 refine At.act iW (makeR (k1 := .i64) (k2 := .i64) (α := Int) (e := 3) (bytes := 8) (t := 22) (d := 24) (n := ((g.ow.length : Nat) : Int)) (cap := ((g.ow.length : Nat) : Int)) (0) κ rfl κ ω ω ω ω) ?_
 rintro d_ v_ bA ⟨rfl, rfl, eL, gA⟩
 refine ⟨_, rfl, fun pN iX => ?_⟩
 clear iW; replace gA := gA (Sx (aQ.heap.size) []) (Nat.le_refl _); have := eL.size; replace e0 := e0.gn eL; replace r9 := r9.gn eL; replace cY := cY.gn eL; replace bx6 := bx6.gn eL; replace dF := dF.gn eL; clear eL; have : (List.replicate (((g.ow.length : Nat) : Int) : Int).toNat (0 : Int)).length = (((g.ow.length : Nat) : Int) : Int).toNat := List.length_replicate
 refine At.rk iX 1 [(9, .slice (some ⟨aQ.heap.size, 0, none⟩) ((List.replicate (((g.ow.length : Nat) : Int) : Int).toNat (0 : Int)).length) ((((g.ow.length : Nat) : Int) : Int).toNat))] .n (fun pO iY => ?_)
 clear iX
 refine At.dn ?_
 refine wp_seq ?_
 refine sqs ?_
 refine At.rk iY 1 [(10, .int .i64 (0))] .n (fun pP iZ => ?_)
 clear iY
 refine At.dn ?_
 refine wp_block ?_
 have jA : OwnR bA (Sx (bA.heap.size) [obk (some ⟨aQ.heap.size, 0, none⟩)]) none 0 3 ([] : List Int) := OwnR.nil
 have jB : OwnR bA (Sx (aQ.heap.size) [obk none]) (some ⟨aQ.heap.size, 0, none⟩) ((((g.ow.length : Nat) : Int) : Int).toNat) 3 (List.replicate (((g.ow.length : Nat) : Int) : Int).toNat (0 : Int) : List Int) := gA.imp (fun g _ hs => ⟨by simp [obk], hs⟩)
 clear gA; have jC := iZ.as 8 (.slice none 0 0) (.slice none (([] : List Int).length) 0) rfl (slice_len (by first | rfl | omega | (simp; done) | (simp; omega))); clear iZ
 have jD := jC.as 9 (.slice (some ⟨aQ.heap.size, 0, none⟩) ((List.replicate (((g.ow.length : Nat) : Int) : Int).toNat (0 : Int)).length) ((((g.ow.length : Nat) : Int) : Int).toNat)) (.slice (some ⟨aQ.heap.size, 0, none⟩) ((List.replicate (((g.ow.length : Nat) : Int) : Int).toNat (0 : Int) : List Int).length) ((((g.ow.length : Nat) : Int) : Int).toNat)) rfl (slice_len (by first | rfl | omega | (simp; done) | (simp; omega)))
 clear jC
 refine loop_g (fun (m_ : Nat) a_ w_ => ∃ (i : Int) (nw : List Int) (aA : Option Addr) (aY : Nat) (od : List Int) (aB : Option Addr) (aV : Nat), m_ = ((g.ow.length : Int) - i).toNat ∧ (Frm 136 a_ [(8, .slice aB od.length aV), (10, .int .i64 (i)), (9, .slice aA nw.length aY), (6, .bool false), (5, .slice none 0 0), (4, pt w1.heap.size 0), (2, pt w.heap.size 0), (1, .slice Ai nI ci)]) ∧ (Ext w w_) ∧ (RdG w_ 0 w.heap.size Ag0 Ag1 Ag2 cg0 cg1 cg2 g) ∧ (RdR w_ 0 w.heap.size Ai (fromW s)) ∧ (Bx w_ (w.heap.size) [.slice Ag0 g.ow.length cg0, .slice Ag1 g.pr.length cg1, .slice Ag2 g.mv.length cg2] 25) ∧ (Bx w_ (w1.heap.size) [.slice none 0 0, .slice none 0 0, .slice none 0 0] 25) ∧ (OwnR w_ (Sx (aQ.heap.size) [obk (aB)]) aA aY 3 (nw : List Int)) ∧ (OwnR w_ (Sx (bA.heap.size) [obk (aA)]) aB aV 3 (od : List Int)) ∧ (0 ≤ i) ∧ (i ≤ (g.ow.length : Int)) ∧ (NowR (inT g s) nw i) ∧ (od = lsD (inT g s) i.toNat) ∧ (nw.length = g.ow.length) ∧ (aQ.heap.size ≤ w_.heap.size) ∧ (bA.heap.size ≤ w_.heap.size)) _ ⟨0, (List.replicate (((g.ow.length : Nat) : Int) : Int).toNat (0 : Int) : List Int), some ⟨aQ.heap.size, 0, none⟩, (((g.ow.length : Nat) : Int) : Int).toNat, ([] : List Int), none, 0, rfl, jD.sb, e0, r9, cY, bx6, dF, jB, jA, ω, (Int.natCast_nonneg _), nowr_0, ls_00, (by rw [List.length_replicate]; omega), ω, ω⟩ ?_
 clear jD; clear r9; clear cY; clear bx6; clear dF; clear jB; clear jA; clear e0
 intro m_ pQ aF ⟨i, nw, aA, aY, od, aB, aV, hm90, jE, bU, bY, bV, bP, bW, bF, bB, i98, i99, hnw, hod, i100, i101, i102⟩
 have := bU.size; have := bP.lt; have := bW.lt
 refine wp_seq ?_
 refine sqs ?_
 refine At.rk jE 5 [(29, .bool (decide ((i : Int) < ((g.ow.length : Nat) : Int))))] (.l (bP.cell (i := 0) rfl) <| .n) (fun pR fC => ?_)
 clear jE
 refine At.dn ?_
 refine cond_S fC (t := decide ((i : Int) < ((g.ow.length : Nat) : Int))) rfl (fun gV => ?_) (fun gV => ?_)
 ·have pS := of_decide_eq_true gV
  refine wp_skip ?_
  refine t_n ?_
  refine wp_seq ?_
  refine wp_block ?_
  refine wp_seq ?_
  have hodl := congrArg List.length hod; have hodm := ls_len (inT g s) i.toNat
  refine At.start ?_
  obtain ⟨jF, jG, pT, pU, pV⟩ := bF.get (i) ω ω (sz := 1) rfl
  refine At.rk fC 3 [(34, .pointer (some (jF.add ((i : Int).toNat * 1))))] (.a i nw.length jG <| .n) (fun pW jH => ?_)
  clear fC
  refine At.act jH (storeR (α := Int) (t := 3) (i := i) (ad := jF) (v := .int .i64 (-1)) (-1) κ rfl rfl κ jG bF ω ω) ?_
  rintro d_ v_ pX ⟨rfl, dR, dG⟩
  refine ⟨_, rfl, fun pY jI => ?_⟩
  clear jH; have pZ : ((nw).set (i : Int).toNat (-1)).length = (nw).length := List.length_set; have := dR.size; replace bU := bU.gr dR (fun k hk => by have := bF.ge k hk; omega); replace bY := bY.gr dR (fun k hk => by have := bF.ge k hk; omega); replace bV := bV.gr dR (fun k hk => by have := bF.ge k hk; omega); replace bP := bP.gr dR (fun e => by have := bF.ge _ e; omega)
  replace bW := bW.gr dR (fun e => by have := bF.ge _ e; omega); replace bB := bB.gr dR (fun k hk => hk.1); clear bF dR
  have jJ := jI.as 9 (.slice aA nw.length aY) (.slice aA (((nw).set (i : Int).toNat (-1) : List Int).length) aY) rfl (slice_len (by first | (simp only [List.length_set]; done) | rfl | omega | (simp; done) | (simp; omega)))
  clear jI
  refine At.dn ?_
  refine sqs ?_
  obtain ⟨mO, mP, qA, mQ, qB⟩ := bV.get (i) ω ω (sz := 1) rfl
  refine At.rk jJ 10 [(44, .bool (gB (fromW s) i)), (43, .bool (gB (fromW s) i)), (42, .pointer (some (mO.add ((i : Int).toNat * 1)))), (41, .int .i64 (i)), (40, .slice Ai nI ci)] (.v 38 (show (.bool (decide ((i : Int) < ((nI : Nat) : Int))) : Value) = .bool true from (congrArg Value.bool (decide_eq_true ω))) <| .a i nI mP <| .l mQ <| .n) (fun qC fD => ?_)
  clear jJ
  refine At.dn ?_
  refine cond_S fD (t := gB (fromW s) i) rfl (fun mR => ?_) (fun mR => ?_)
  ·refine sqs ?_
   obtain ⟨jK, jL, qD, qE, qF⟩ := dG.get (i) ω ω (sz := 1) rfl
   refine At.rk fD 5 [(49, .pointer (some (jK.add ((i : Int).toNat * 1)))), (48, .int .i64 (((od.length : Nat) : Int)))] (.a i (((nw).set (i : Int).toNat (-1) : List Int).length) jL <| .n) (fun qG jM => ?_)
   clear fD
   refine At.act jM (storeR (α := Int) (t := 3) (i := i) (ad := jK) (v := .int .i64 (((od.length : Nat) : Int))) (((od.length : Nat) : Int)) κ rfl rfl κ jL dG ω ω) ?_
   rintro d_ v_ gC ⟨rfl, dS, eT⟩
   refine ⟨_, rfl, fun qH jN => ?_⟩
   clear jM; have qI : (((nw).set (i : Int).toNat (-1)).set (i : Int).toNat ((od.length : Nat) : Int)).length = ((nw).set (i : Int).toNat (-1)).length := List.length_set; have := dS.size; replace bU := bU.gr dS (fun k hk => by have := dG.ge k hk; omega); replace bY := bY.gr dS (fun k hk => by have := dG.ge k hk; omega); replace bV := bV.gr dS (fun k hk => by have := dG.ge k hk; omega)
   replace bP := bP.gr dS (fun e => by have := dG.ge _ e; omega); replace bW := bW.gr dS (fun e => by have := dG.ge _ e; omega); replace bB := bB.gr dS (fun k hk => hk.1); clear dG dS
   have jO := jN.as 9 (.slice aA (((nw).set (i : Int).toNat (-1) : List Int).length) aY) (.slice aA ((((nw).set (i : Int).toNat (-1)).set (i : Int).toNat ((od.length : Nat) : Int) : List Int).length) aY) rfl (slice_len (by first | (simp only [List.length_set]; done) | rfl | omega | (simp; done) | (simp; omega)))
   clear jN
   refine At.dn ?_
   refine At.start ?_
   refine At.rk jO 2 [(51, .int .i64 (i)), (50, .slice aB od.length aV)] .n (fun qJ jP => ?_)
   clear jO
   refine At.seq jP 1 [[]] [(52, .slice (some ⟨gC.heap.size, 0, none⟩) 1 1)] (gC.alloc (.cells #[.int .i64 (i)] 3 (0, 0))) [] κ trivial (fun qK jQ gW jR => ?_)
   clear jP; have dH := gr_alloc gW; have := dH.size; replace bU := bU.gn dH; replace bY := bY.gn dH; replace bV := bV.gn dH; replace bP := bP.gn dH; replace bW := bW.gn dH; replace eT := eT.grN dH; replace bB := bB.grN dH; have gX : Bx jQ (gC.heap.size) [.int .i64 (i)] 3 := Bx.new gW; have := gX.lt; clear dH gW
   have mS : (od ++ ([i])).length = (od).length + ([i] : List Int).length := List.length_append
   simp only [List.length_cons, List.length_nil] at mS
   refine At.act jR (appendR (α := Int) (t := 22) (d := 53) (n := od.length) (m := 1) (cc := 1) (xs := od) (ys := [i]) (bytes := 8) (by first | rfl | omega | (simp; done) | (simp; omega)) (by first | rfl | omega | (simp; done) | (simp; omega)) κ rfl κ bB (Bx.srcR (l := ([i] : List Int)) gX rfl) (by simp only [List.length_cons, List.length_nil]; omega) (by simp only [List.length_cons, List.length_nil]; omega)) ?_
   rintro d_ v_ mT ⟨rfl, fE, gD, fF⟩
   obtain rfl := fF.val
   have dT := fF.gr
   refine ⟨_, rfl, fun qL jS => ?_⟩
   clear jR; clear gX; have mU := fF.own (Sx (bA.heap.size) [obk (aA)]) (fun g _ hs => ⟨hs.2.1, hs.2.2⟩) ⟨eT.ne_new, (show bA.heap.size ≤ jQ.heap.size by omega)⟩; have := dT.size; replace bU := bU.gr dT (fun k hk => by have := bB.ge k hk; omega); replace bY := bY.gr dT (fun k hk => by have := bB.ge k hk; omega); replace bV := bV.gr dT (fun k hk => by have := bB.ge k hk; omega)
   replace bP := bP.gr dT (fun e => by have := bB.ge _ e; omega); replace bW := bW.gr dT (fun e => by have := bB.ge _ e; omega)
   replace eT : OwnR mT (Sx (aQ.heap.size) [some (gC.heap.size), obk (fE)]) aA aY 3 (((nw).set (i : Int).toNat (-1)).set (i : Int).toNat ((od.length : Nat) : Int) : List Int) := eT.grA dT (fun k hk => hk.2.1) (fun k hk hs => ⟨hs.1, own_repl fF.at_ hs.2.1 hk, hs.2.2⟩)
   clear bB dT fF
   refine At.rk jS 1 [(8, .slice fE ((od ++ ([i])).length) gD)] .n (fun qM jT => ?_)
   clear jS
   refine At.done rfl ?_
   refine b_n ?_
   refine t_n ?_
   refine At.start ?_
   refine At.rk jT 3 [(10, .int .i64 (i + 1))] (.w 31 (i + 1) <| .n) (fun qN jU => ?_)
   clear jT
   refine At.dn ?_
   have mV := jU.as 8 (.slice fE ((od ++ ([i])).length) gD) (.slice fE ((od ++ ([i]) : List Int).length) gD) rfl (slice_len (by first | rfl | omega | (simp; done) | (simp; omega)))
   clear jU
   exact ⟨_, ω, (i + 1), (((nw).set (i : Int).toNat (-1)).set (i : Int).toNat ((od.length : Nat) : Int) : List Int), aA, aY, (od ++ ([i]) : List Int), fE, gD, rfl, mV.sb, bU, bY, bV, bP, bW, (eT.imp (fun g _ hs => ⟨hs.2.1, hs.2.2⟩)), mU, ω, ω, (nowr_yes hnw hod ω ω (inT_at hn1 ω ω σ)), (ls_yes hod ω (inT_at hn1 ω ω σ)), (by rw [List.length_set, List.length_set]; assumption), ω, ω⟩
  refine wp_skip ?_
  refine b_n ?_
  refine t_n ?_
  refine At.start ?_
  refine At.rk fD 3 [(10, .int .i64 (i + 1))] (.w 31 (i + 1) <| .n) (fun qO jV => ?_)
  clear fD
  refine At.dn ?_
  have mW := jV.as 8 (.slice aB od.length aV) (.slice aB ((od : List Int).length) aV) rfl (slice_len (by first | rfl | omega | (simp; done) | (simp; omega))); clear jV
  exact ⟨_, ω, (i + 1), ((nw).set (i : Int).toNat (-1) : List Int), aA, aY, (od : List Int), aB, aV, rfl, mW.sb, bU, bY, bV, bP, bW, dG, bB, ω, ω, (nowr_no hnw ω ω (inT_at hn1 ω ω σ)), (ls_no hod ω (inT_at hn1 ω ω σ)), (by rw [List.length_set]; assumption), ω, ω⟩
 have qP := of_decide_eq_false gV
 refine wp_exit ?_
 refine t_e ?_
 clear hm90
 refine t_e ?_
 refine b_e ?_
 refine t_n ?_
 refine wp_seq ?_
 have hod2 := od_all (g := g) (s := s) hn1 hod ω
 have hnwE : NowR (inT g s) nw (g.ow.length : Int) := by rw [show (g.ow.length : Int) = i by omega]; exact hnw
 have hodl := congrArg List.length hod2; have hodm := ls_len (inT g s) 256
 refine At.start ?_
 refine At.rk fC 1 [(54, .agg #[.slice none 0 0, .slice none 0 0, .slice none 0 0])] .n (fun qQ jW => ?_)
 clear fC
 refine At.bx jW 11 [.slice none 0 0, .slice none 0 0, .slice none 0 0] 25 (fun qR dI gY qS jX => ?_)
 clear jW; have := dI.size; replace bU := bU.gn dI; replace bY := bY.gn dI; replace bV := bV.gn dI; replace bP := bP.gn dI; replace bW := bW.gn dI; replace bF := bF.grN dI; replace bB := bB.grN dI; have := gY.lt; clear dI
 refine At.store jX (t := 25) (b := aF.heap.size) (off := 0) (v := .agg #[.slice none 0 0, .slice none 0 0, .slice none 0 0]) κ gY κ (fun qT aD dJ gE jY => ?_)
 clear jX; replace gE : Bx aD (aF.heap.size) [.slice none 0 0, .slice none 0 0, .slice none 0 0] 25 := gE; have := dJ.size; replace bU := bU.gr dJ (fun k h => by injection h; omega); replace bY := bY.gb dJ ω; replace bV := bV.gb dJ ω; replace bP := bP.gb dJ ω; replace bW := bW.gb dJ ω; replace bF := bF.gr dJ (fun k hk => hk.1); replace bB := bB.gr dJ (fun k hk => hk.1); clear gY dJ
 refine At.dn ?_
 refine wp_seq ?_
 refine sqs ?_
 refine At.rk jY 1 [(12, .int .i64 (0))] .n (fun qU jZ => ?_)
 clear jY
 refine At.dn ?_
 refine wp_block ?_
 have eU : OwnR aD (Sx (aD.heap.size) [obk (aA), obk (aB)]) none 0 3 ([] : List Int) := OwnR.nil; replace bF : OwnR aD (Sx (aQ.heap.size) [obk none, some (aF.heap.size), obk (aB)]) aA aY 3 (nw : List Int) := bF.imp (fun g _ hs => ⟨by simp [obk], hs⟩)
 replace bB : OwnR aD (Sx (bA.heap.size) [obk none, some (aF.heap.size), obk (aA)]) aB aV 3 (od : List Int) := bB.imp (fun g _ hs => ⟨by simp [obk], hs⟩); have gF : OwnR aD (Sx (aD.heap.size) [obk (aA), obk (aB), obk (none)]) none 0 3 ([] : List Int) := OwnR.nil
 replace bF : OwnR aD (Sx (aQ.heap.size) [obk none, obk none, some (aF.heap.size), obk (aB)]) aA aY 3 (nw : List Int) := bF.imp (fun g _ hs => ⟨by simp [obk], hs⟩)
 replace bB : OwnR aD (Sx (bA.heap.size) [obk none, obk none, some (aF.heap.size), obk (aA)]) aB aV 3 (od : List Int) := bB.imp (fun g _ hs => ⟨by simp [obk], hs⟩)
 replace eU : OwnR aD (Sx (aD.heap.size) [obk none, obk (aA), obk (aB)]) none 0 3 ([] : List Int) := eU.imp (fun g _ hs => ⟨by simp [obk], hs⟩); have kA : OwnLL aD (aD.heap.size) [obk (aA), obk (aB), obk (none), obk (none)] none 0 22 3 ([] : List (List Int)) := OwnLL.nil
 replace bF : OwnR aD (Sx (aQ.heap.size) [obk none, obk none, obk none, some (aF.heap.size), obk (aB)]) aA aY 3 (nw : List Int) := bF.imp (fun g _ hs => ⟨by simp [obk], hs⟩)
 replace bB : OwnR aD (Sx (bA.heap.size) [obk none, obk none, obk none, some (aF.heap.size), obk (aA)]) aB aV 3 (od : List Int) := bB.imp (fun g _ hs => ⟨by simp [obk], hs⟩)
 replace eU : OwnR aD (Sx (aD.heap.size) [obk none, obk none, obk (aA), obk (aB)]) none 0 3 ([] : List Int) := eU.imp (fun g _ hs => ⟨by simp [obk], hs⟩); replace gF : OwnR aD (Sx (aD.heap.size) [obk none, obk (aA), obk (aB), obk (none)]) none 0 3 ([] : List Int) := gF.imp (fun g _ hs => ⟨by simp [obk], hs⟩)
 refine loop_g (fun (m_ : Nat) a_ w_ => ∃ (k : Int) (xo : List Int) (aI : Option Addr) (bG : Nat) (xp : List Int) (aE : Option Addr) (bC : Nat) (xm : List (List Int)) (aC : Option Addr) (aZ : Nat), m_ = ((od.length : Int) - k).toNat ∧ (Frm 136 a_ [(12, .int .i64 (k)), (11, pt aF.heap.size 0), (8, .slice aB od.length aV), (9, .slice aA nw.length aY), (4, pt w1.heap.size 0), (2, pt w.heap.size 0)]) ∧ (Ext w w_) ∧ (RdG w_ 0 w.heap.size Ag0 Ag1 Ag2 cg0 cg1 cg2 g) ∧ (RdR w_ 0 w.heap.size Ai (fromW s)) ∧ (Bx w_ (w.heap.size) [.slice Ag0 g.ow.length cg0, .slice Ag1 g.pr.length cg1, .slice Ag2 g.mv.length cg2] 25) ∧ (Bx w_ (w1.heap.size) [.slice none 0 0, .slice none 0 0, .slice none 0 0] 25) ∧ (OwnR w_ (Sx (aQ.heap.size) [obk (aC), obk (aE), obk (aI), some (aF.heap.size), obk (aB)]) aA aY 3 (nw : List Int)) ∧ (OwnR w_ (Sx (bA.heap.size) [obk (aC), obk (aE), obk (aI), some (aF.heap.size), obk (aA)]) aB aV 3 (od : List Int)) ∧ (Bx w_ (aF.heap.size) [.slice aI xo.length bG, .slice aE xp.length bC, .slice aC xm.length aZ] 25) ∧ (OwnR w_ (Sx (aD.heap.size) [obk (aC), obk (aE), obk (aA), obk (aB)]) aI bG 3 (xo : List Int)) ∧ (OwnR w_ (Sx (aD.heap.size) [obk (aC), obk (aA), obk (aB), obk (aI)]) aE bC 3 (xp : List Int)) ∧ (OwnLL w_ (aD.heap.size) [obk (aA), obk (aB), obk (aI), obk (aE)] aC aZ 22 3 (xm : List (List Int))) ∧ (0 ≤ k) ∧ (k ≤ (od.length : Int)) ∧ (xo = (od.take k.toNat).map (gI g.ow)) ∧ (xp = (od.take k.toNat).map (gI g.pr)) ∧ (xm = (od.take k.toNat).map (subR g (inT g s))) ∧ (GoneT g (inT g s) k) ∧ (aQ.heap.size ≤ w_.heap.size) ∧ (bA.heap.size ≤ w_.heap.size) ∧ (aD.heap.size ≤ w_.heap.size)) _ ⟨0, ([] : List Int), none, 0, ([] : List Int), none, 0, ([] : List (List Int)), none, 0, rfl, jZ.sb, bU, bY, bV, bP, bW, bF, bB, (gE.as (by first | rfl | (simp only [List.cons.injEq, Value.slice.injEq, true_and, and_true]; omega))), eU, gF, kA, ω, (Int.natCast_nonneg _), rfl, rfl, rfl, (fun j a b => by omega), ω, ω, ω⟩ ?_
 clear jZ; clear bY; clear bV; clear bP; clear bW; clear bF; clear bB; clear gE; clear eU; clear gF; clear kA; clear bU
 intro m_ qV bE ⟨k, xo, aI, bG, xp, aE, bC, xm, aC, aZ, hm252, kB, dK, eV, eW, gG, eM, fG, cZ, cU, dA, dB, eX, i264, i265, hxo, hxp, hxm, hgo, i266, i267, i268⟩
 have := dK.size; have := gG.lt; have := eM.lt; have := cU.lt
 refine wp_seq ?_
 refine sqs ?_
 refine At.rk kB 4 [(58, .bool (decide ((k : Int) < ((od.length : Nat) : Int))))] .n (fun qW fH => ?_)
 clear kB
 refine At.dn ?_
 refine cond_S fH (t := decide ((k : Int) < ((od.length : Nat) : Int))) rfl (fun gZ => ?_) (fun gZ => ?_)
 ·have qX := of_decide_eq_true gZ
  refine wp_skip ?_
  refine t_n ?_
  refine wp_seq ?_
  refine wp_block ?_
  refine wp_seq ?_
  have hir := od_rng hod2 (k := k) ω ω; have hi1 := hir.1; have hi2 := inT_lt _ hi1 hir.2.1 hir.2.2; have hrl := row_len hG hi1 hi2
  refine At.start ?_
  refine At.rk fH 1 [(13, .slice none 0 0)] .n (fun qY kC => ?_)
  clear fH
  refine At.dn ?_
  refine wp_seq ?_
  refine sqs ?_
  refine At.rk kC 1 [(14, .int .i64 (0))] .n (fun qZ kD => ?_)
  clear kC
  refine At.dn ?_
  refine wp_block ?_
  have kE : OwnR bE (Sx (bE.heap.size) [obk (aA), obk (aB), obk (aI), obk (aE), obk (aC)]) none 0 3 ([] : List Int) := OwnR.nil
  replace fG : OwnR bE (Sx (aQ.heap.size) [obk none, obk (aC), obk (aE), obk (aI), some (aF.heap.size), obk (aB)]) aA aY 3 (nw : List Int) := fG.imp (fun g _ hs => ⟨by simp [obk], hs⟩)
  replace cZ : OwnR bE (Sx (bA.heap.size) [obk none, obk (aC), obk (aE), obk (aI), some (aF.heap.size), obk (aA)]) aB aV 3 (od : List Int) := cZ.imp (fun g _ hs => ⟨by simp [obk], hs⟩)
  replace dA : OwnR bE (Sx (aD.heap.size) [obk none, obk (aC), obk (aE), obk (aA), obk (aB)]) aI bG 3 (xo : List Int) := dA.imp (fun g _ hs => ⟨by simp [obk], hs⟩)
  replace dB : OwnR bE (Sx (aD.heap.size) [obk none, obk (aC), obk (aA), obk (aB), obk (aI)]) aE bC 3 (xp : List Int) := dB.imp (fun g _ hs => ⟨by simp [obk], hs⟩)
  have kF : OwnLL bE (aD.heap.size) [obk none, obk (aA), obk (aB), obk (aI), obk (aE)] aC aZ 22 3 (xm : List (List Int)) := eX.imp (fun g _ hs => ⟨by simp [obk], hs⟩)
  clear eX; have kG := kD.as 13 (.slice none 0 0) (.slice none (([] : List Int).length) 0) rfl (slice_len (by first | rfl | omega | (simp; done) | (simp; omega))); clear kD
  refine loop_g (fun (m_ : Nat) a_ w_ => ∃ (q : Int) (xl : List Int) (aG : Option Addr) (bH : Nat), m_ = (((gL g.mv (gI od k)).length : Int) - q).toNat ∧ (Frm 136 a_ [(13, .slice aG xl.length bH), (14, .int .i64 (q)), (12, .int .i64 (k)), (11, pt aF.heap.size 0), (8, .slice aB od.length aV), (9, .slice aA nw.length aY), (4, pt w1.heap.size 0), (2, pt w.heap.size 0)]) ∧ (Ext w w_) ∧ (RdG w_ 0 w.heap.size Ag0 Ag1 Ag2 cg0 cg1 cg2 g) ∧ (RdR w_ 0 w.heap.size Ai (fromW s)) ∧ (Bx w_ (w.heap.size) [.slice Ag0 g.ow.length cg0, .slice Ag1 g.pr.length cg1, .slice Ag2 g.mv.length cg2] 25) ∧ (Bx w_ (w1.heap.size) [.slice none 0 0, .slice none 0 0, .slice none 0 0] 25) ∧ (OwnR w_ (Sx (aQ.heap.size) [obk (aG), obk (aC), obk (aE), obk (aI), some (aF.heap.size), obk (aB)]) aA aY 3 (nw : List Int)) ∧ (OwnR w_ (Sx (bA.heap.size) [obk (aG), obk (aC), obk (aE), obk (aI), some (aF.heap.size), obk (aA)]) aB aV 3 (od : List Int)) ∧ (Bx w_ (aF.heap.size) [.slice aI xo.length bG, .slice aE xp.length bC, .slice aC xm.length aZ] 25) ∧ (OwnR w_ (Sx (aD.heap.size) [obk (aG), obk (aC), obk (aE), obk (aA), obk (aB)]) aI bG 3 (xo : List Int)) ∧ (OwnR w_ (Sx (aD.heap.size) [obk (aG), obk (aC), obk (aA), obk (aB), obk (aI)]) aE bC 3 (xp : List Int)) ∧ (OwnLL w_ (aD.heap.size) [obk (aG), obk (aA), obk (aB), obk (aI), obk (aE)] aC aZ 22 3 (xm : List (List Int))) ∧ (OwnR w_ (Sx (bE.heap.size) [obk (aA), obk (aB), obk (aI), obk (aE), obk (aC)]) aG bH 3 (xl : List Int)) ∧ (0 ≤ q) ∧ (q ≤ ((gL g.mv (gI od k)).length : Int)) ∧ (xl = (((gL g.mv (gI od k)).take q.toNat).filter (fun m => gB (inT g s) m)).map (posI (inT g s))) ∧ (aQ.heap.size ≤ w_.heap.size) ∧ (bA.heap.size ≤ w_.heap.size) ∧ (aD.heap.size ≤ w_.heap.size) ∧ (bE.heap.size ≤ w_.heap.size)) _ ⟨0, ([] : List Int), none, 0, rfl, kG.sb, dK, eV, eW, gG, eM, fG, cZ, cU, dA, dB, kF, kE, ω, (Int.natCast_nonneg _), row_0, ω, ω, ω, ω⟩ ?_
  clear kG; clear eV; clear eW; clear gG; clear eM; clear fG; clear cZ; clear cU; clear dA; clear dB; clear kF; clear kE; clear dK
  intro m_ rA rB ⟨q, xl, aG, bH, hm291, kH, aR, aO, aW, aM, aS, aN, aJ, aT, aH, aP, kI, aK, i304, i305, hxl, i306, i307, i308, i309⟩
  have := aR.size; have := aM.lt; have := aS.lt; have := aT.lt
  refine wp_seq ?_
  refine wp_seq ?_
  obtain ⟨rC, mX, rD, mY, rE⟩ := aJ.get (k) ω ω (sz := 1) rfl
  obtain ⟨rF, rG, rH, mZ, _, _, nA, rI, gH⟩ := RdII.get aO.mv (gI od k) ω ω
  have rJ := gH.len
  refine drawn_rk kH [(71, .bool (decide ((q : Int) < (((gL g.mv (gI od k)).length : Nat) : Int))))] (.l (aM.cell (i := 2) rfl) <| .a k od.length mX <| .l mY <| .a (gI od k) g.mv.length mZ <| .l nA <| .n) (fun rK kJ kK fI => ?_)
  clear kH; have cA := gr_drew kK; have := cA.size; replace aR := aR.gn cA; replace aO := aO.gn cA; replace aW := aW.gn cA; replace aM := aM.gn cA; replace aS := aS.gn cA; replace aN := aN.gn cA; replace aJ := aJ.gn cA; replace aT := aT.gn cA; replace aH := aH.gn cA; replace aP := aP.gn cA; have aU := kI.gn cA; clear kI; replace aK := aK.gn cA; replace gH := gH.gn cA; clear cA kK
  refine t_n ?_
  clear gH
  refine cond_S fI (t := decide ((q : Int) < (((gL g.mv (gI od k)).length : Nat) : Int))) rfl (fun hA => ?_) (fun hA => ?_)
  ·have rL := of_decide_eq_true hA
   refine wp_skip ?_
   refine t_n ?_
   refine wp_seq ?_
   refine wp_block ?_
   refine wp_seq ?_
   have hmk := hG.mv (gI od k) hi1 hi2 q ω ω; have hxll := row_lenS hxl ω
   obtain ⟨rM, nB, rN, nC, rO⟩ := aJ.get (k) ω ω (sz := 1) rfl
   obtain ⟨rP, rQ, rR, nD, _, _, nE, rS, fJ⟩ := RdII.get aO.mv (gI od k) ω ω
   have rT := fJ.len
   obtain ⟨rU, nF, _, _, nG⟩ := RdI.get fJ (q) ω ω
   obtain ⟨rV, nH, rW, nJ, rX⟩ := aN.get (gI (gL g.mv (gI od k)) (q)) ω ω (sz := 1) rfl
   refine drawn_rk fI [(15, .int .i64 (gI nw (gI (gL g.mv (gI od k)) (q))))] (.l (aM.cell (i := 2) rfl) <| .a k od.length nB <| .l nC <| .a (gI od k) g.mv.length nD <| .l nE <| .a q ((gL g.mv (gI od k)).length) nF <| .l nG <| .a (gI (gL g.mv (gI od k)) (q)) nw.length nH <| .l nJ <| .n) (fun rY dU kL kM => ?_)
   clear fI; have cB := gr_drew kL; have := cB.size; replace aR := aR.gn cB; replace aO := aO.gn cB; replace aW := aW.gn cB; replace aM := aM.gn cB; replace aS := aS.gn cB; replace aN := aN.gn cB; replace aJ := aJ.gn cB; replace aT := aT.gn cB; replace aH := aH.gn cB; replace aP := aP.gn cB; replace aU := aU.gn cB; replace aK := aK.gn cB; replace fJ := fJ.gn cB; clear cB kL
   refine t_n ?_
   clear fJ
   refine sqs ?_
   refine At.rk kM 2 [(89, .bool (decide ((gI nw (gI (gL g.mv (gI od k)) (q)) : Int) ≥ 0)))] .n (fun rZ fK => ?_)
   clear kM
   refine At.dn ?_
   refine cond_S fK (t := decide ((gI nw (gI (gL g.mv (gI od k)) (q)) : Int) ≥ 0)) rfl (fun hB => ?_) (fun hB => ?_)
   ·have sA := of_decide_eq_true hB
    refine At.start ?_
    refine At.rk fK 2 [(91, .int .i64 (gI nw (gI (gL g.mv (gI od k)) (q)))), (90, .slice aG xl.length bH)] .n (fun sB kN => ?_)
    clear fK
    refine At.seq kN 1 [[]] [(92, .slice (some ⟨dU.heap.size, 0, none⟩) 1 1)] (dU.alloc (.cells #[.int .i64 (gI nw (gI (gL g.mv (gI od k)) (q)))] 3 (0, 0))) [] κ trivial (fun sC kO hC kP => ?_)
    clear kN; have cI := gr_alloc hC; have := cI.size; replace aR := aR.gn cI; replace aO := aO.gn cI; replace aW := aW.gn cI; replace aM := aM.gn cI; replace aS := aS.gn cI; replace aN := aN.grN cI; replace aJ := aJ.grN cI; replace aT := aT.gn cI; replace aH := aH.grN cI; replace aP := aP.grN cI; replace aU := aU.grN cI; replace aK := aK.grN cI
    have hD : Bx kO (dU.heap.size) [.int .i64 (gI nw (gI (gL g.mv (gI od k)) (q)))] 3 := Bx.new hC; have := hD.lt; clear cI hC
    have nK : (xl ++ ([gI nw (gI (gL g.mv (gI od k)) (q))])).length = (xl).length + ([gI nw (gI (gL g.mv (gI od k)) (q))] : List Int).length := List.length_append
    simp only [List.length_cons, List.length_nil] at nK
    refine At.act kP (appendR (α := Int) (t := 22) (d := 93) (n := xl.length) (m := 1) (cc := 1) (xs := xl) (ys := [gI nw (gI (gL g.mv (gI od k)) (q))]) (bytes := 8) (by first | rfl | omega | (simp; done) | (simp; omega)) (by first | rfl | omega | (simp; done) | (simp; omega)) κ rfl κ aK (Bx.srcR (l := ([gI nw (gI (gL g.mv (gI od k)) (q))] : List Int)) hD rfl) (by simp only [List.length_cons, List.length_nil]; omega) (by simp only [List.length_cons, List.length_nil]; omega)) ?_
    rintro d_ v_ fL ⟨rfl, dL, gJ, dM⟩
    obtain rfl := dM.val
    have cS := dM.gr
    refine ⟨_, rfl, fun sD kQ => ?_⟩
    clear kP; clear hD
    have nL := dM.own (Sx (bE.heap.size) [obk (aA), obk (aB), obk (aI), obk (aE), obk (aC)]) (fun g _ hs => ⟨hs.2.1, hs.2.2.1, hs.2.2.2.1, hs.2.2.2.2.1, hs.2.2.2.2.2.1, hs.2.2.2.2.2.2⟩) ⟨aN.ne_new, aJ.ne_new, aH.ne_new, aP.ne_new, aU.ne_new, (show bE.heap.size ≤ kO.heap.size by omega)⟩
    have := cS.size; replace aR := aR.gr cS (fun k hk => by have := aK.ge k hk; omega); replace aO := aO.gr cS (fun k hk => by have := aK.ge k hk; omega); replace aW := aW.gr cS (fun k hk => by have := aK.ge k hk; omega); replace aM := aM.gr cS (fun e => by have := aK.ge _ e; omega); replace aS := aS.gr cS (fun e => by have := aK.ge _ e; omega)
    replace aN : OwnR fL (Sx (aQ.heap.size) [some (dU.heap.size), obk (dL), obk (aC), obk (aE), obk (aI), some (aF.heap.size), obk (aB)]) aA aY 3 (nw : List Int) := aN.grA cS (fun k hk => hk.2.1) (fun k hk hs => ⟨hs.1, own_repl dM.at_ hs.2.1 hk, hs.2.2.1, hs.2.2.2.1, hs.2.2.2.2.1, hs.2.2.2.2.2.1, hs.2.2.2.2.2.2.1, hs.2.2.2.2.2.2.2⟩)
    replace aJ : OwnR fL (Sx (bA.heap.size) [some (dU.heap.size), obk (dL), obk (aC), obk (aE), obk (aI), some (aF.heap.size), obk (aA)]) aB aV 3 (od : List Int) := aJ.grA cS (fun k hk => hk.2.1) (fun k hk hs => ⟨hs.1, own_repl dM.at_ hs.2.1 hk, hs.2.2.1, hs.2.2.2.1, hs.2.2.2.2.1, hs.2.2.2.2.2.1, hs.2.2.2.2.2.2.1, hs.2.2.2.2.2.2.2⟩)
    replace aT := aT.gr cS (fun e => by have := aK.ge _ e; omega)
    replace aH : OwnR fL (Sx (aD.heap.size) [some (dU.heap.size), obk (dL), obk (aC), obk (aE), obk (aA), obk (aB)]) aI bG 3 (xo : List Int) := aH.grA cS (fun k hk => hk.2.1) (fun k hk hs => ⟨hs.1, own_repl dM.at_ hs.2.1 hk, hs.2.2.1, hs.2.2.2.1, hs.2.2.2.2.1, hs.2.2.2.2.2.1, hs.2.2.2.2.2.2⟩)
    replace aP : OwnR fL (Sx (aD.heap.size) [some (dU.heap.size), obk (dL), obk (aC), obk (aA), obk (aB), obk (aI)]) aE bC 3 (xp : List Int) := aP.grA cS (fun k hk => hk.2.1) (fun k hk hs => ⟨hs.1, own_repl dM.at_ hs.2.1 hk, hs.2.2.1, hs.2.2.2.1, hs.2.2.2.2.1, hs.2.2.2.2.2.1, hs.2.2.2.2.2.2⟩)
    replace aU : OwnLL fL (aD.heap.size) [some (dU.heap.size), obk (dL), obk (aA), obk (aB), obk (aI), obk (aE)] aC aZ 22 3 (xm : List (List Int)) := aU.grA cS (fun k hk => hk.2.1) (fun k hk hs => ⟨hs.1, own_repl dM.at_ hs.2.1 hk, hs.2.2.1, hs.2.2.2.1, hs.2.2.2.2.1, hs.2.2.2.2.2.1, hs.2.2.2.2.2.2⟩)
    clear aK cS dM
    refine At.rk kQ 1 [(13, .slice dL ((xl ++ ([gI nw (gI (gL g.mv (gI od k)) (q))])).length) gJ)] .n (fun sE kR => ?_)
    clear kQ
    refine At.done rfl ?_
    refine b_n ?_
    refine t_n ?_
    refine At.start ?_
    refine At.rk kR 3 [(14, .int .i64 (q + 1))] (.w 73 (q + 1) <| .n) (fun sF kS => ?_)
    clear kR
    refine At.dn ?_
    have nM := kS.as 13 (.slice dL ((xl ++ ([gI nw (gI (gL g.mv (gI od k)) (q))])).length) gJ) (.slice dL ((xl ++ ([gI nw (gI (gL g.mv (gI od k)) (q))]) : List Int).length) gJ) rfl (slice_len (by first | rfl | omega | (simp; done) | (simp; omega)))
    clear kS
    exact ⟨_, ω, (q + 1), (xl ++ ([gI nw (gI (gL g.mv (gI od k)) (q))]) : List Int), dL, gJ, rfl, nM.sb, aR, aO, aW, aM, aS, (aN.imp (fun g _ hs => ⟨hs.2.1, hs.2.2.1, hs.2.2.2.1, hs.2.2.2.2.1, hs.2.2.2.2.2.1, hs.2.2.2.2.2.2.1, hs.2.2.2.2.2.2.2⟩)), (aJ.imp (fun g _ hs => ⟨hs.2.1, hs.2.2.1, hs.2.2.2.1, hs.2.2.2.2.1, hs.2.2.2.2.2.1, hs.2.2.2.2.2.2.1, hs.2.2.2.2.2.2.2⟩)), aT, (aH.imp (fun g _ hs => ⟨hs.2.1, hs.2.2.1, hs.2.2.2.1, hs.2.2.2.2.1, hs.2.2.2.2.2.1, hs.2.2.2.2.2.2⟩)), (aP.imp (fun g _ hs => ⟨hs.2.1, hs.2.2.1, hs.2.2.2.1, hs.2.2.2.2.1, hs.2.2.2.2.2.1, hs.2.2.2.2.2.2⟩)), (aU.imp (fun g _ hs => ⟨hs.2.1, hs.2.2.1, hs.2.2.2.1, hs.2.2.2.2.1, hs.2.2.2.2.2.1, hs.2.2.2.2.2.2⟩)), nL, ω, ω, (row_push hxl ω ω (nowr_in hnwE ω ω ω) (nowr_at hnwE ω ω ω)), ω, ω, ω, ω⟩
   have sG := of_decide_eq_false hB
   refine wp_skip ?_
   refine b_n ?_
   refine t_n ?_
   refine At.start ?_
   refine At.rk fK 3 [(14, .int .i64 (q + 1))] (.w 73 (q + 1) <| .n) (fun sH kT => ?_)
   clear fK
   refine At.dn ?_
   have nN := kT.as 13 (.slice aG xl.length bH) (.slice aG ((xl : List Int).length) bH) rfl (slice_len (by first | rfl | omega | (simp; done) | (simp; omega))); clear kT
   exact ⟨_, ω, (q + 1), (xl : List Int), aG, bH, rfl, nN.sb, aR, aO, aW, aM, aS, aN, aJ, aT, aH, aP, aU, aK, ω, ω, (row_skip hxl ω ω (nowr_out hnwE ω ω ω)), ω, ω, ω, ω⟩
  have sI := of_decide_eq_false hA
  refine wp_exit ?_
  refine t_e ?_
  clear hm291
  refine t_e ?_
  refine b_e ?_
  refine t_n ?_
  refine wp_seq ?_
  refine wp_seq ?_
  have hxe := row_end hxl ω; have hxll := row_lenS hxl ω
  refine At.start ?_
  refine At.rk fI 3 [(96, .bool ((((xl.length : Nat) : Int) : Int) == 0))] .n (fun sJ eY => ?_)
  clear fI
  refine At.dn ?_
  refine cond_S eY (t := (((xl.length : Nat) : Int) : Int) == 0) rfl (fun hE => ?_) (fun hE => ?_)
  ·have sK := eq_of_beq hE
   refine wp_seq ?_
   have hbad : subAll g (inT g s) = false := gone_od hod2 (k := k) ω ω (by rw [← hxe]; exact List.length_eq_zero_iff.1 ω)
   refine At.start ?_
   refine At.rk eY 1 [(97, .agg #[.slice none 0 0, .slice none 0 0, .slice none 0 0])] .n (fun sL kU => ?_)
   clear eY
   refine At.store kU (t := 25) (b := w1.heap.size) (off := 0) (v := .agg #[.slice none 0 0, .slice none 0 0, .slice none 0 0]) κ aS κ (fun sM gK cT fM kV => ?_)
   clear kU; replace fM : Bx gK (w1.heap.size) [.slice none 0 0, .slice none 0 0, .slice none 0 0] 25 := fM; have := cT.size; replace aR := aR.gr cT (fun k h => by injection h; omega); replace aO := aO.gb cT ω; replace aW := aW.gb cT ω; replace aM := aM.gb cT ω; replace aN := aN.gr cT (fun k hk e => by have := Sx_base hk; injection e; omega)
   replace aJ := aJ.gr cT (fun k hk e => by have := Sx_base hk; injection e; omega); replace aT := aT.gb cT ω; replace aH := aH.gr cT (fun k hk e => by have := Sx_base hk; injection e; omega); replace aP := aP.gr cT (fun k hk e => by have := Sx_base hk; injection e; omega); replace aU := aU.gr cT (fun k hk e => by have := Sx_base hk; injection e; omega)
   replace aK := aK.gr cT (fun k hk e => by have := Sx_base hk; injection e; omega); clear aS cT
   refine At.rk kV 2 [(6, .bool false), (5, .slice none 0 0)] .n (fun sN nO => ?_)
   clear kV
   refine At.dn ?_
   clear aK
   refine wp_ret ?_
   refine t_r ?_
   refine b_r ?_
   refine t_r ?_
   refine t_r ?_
   refine b_r ?_
   refine t_r ?_
   refine ret_ nO [[.slice none 0 0, .slice none 0 0, .slice none 0 0]] [.agg #[.slice none 0 0, .slice none 0 0, .slice none 0 0], .slice none 0 0, .bool false] [(gK.cell? ⟨w1.heap.size, 0, none⟩ = some (.slice none 0 0)), (gK.cell? ⟨w1.heap.size, 1, none⟩ = some (.slice none 0 0)), (gK.cell? ⟨w1.heap.size, 2, none⟩ = some (.slice none 0 0))] κ ⟨(fM.cell (i := 0) rfl), (fM.cell (i := 1) rfl), (fM.cell (i := 2) rfl), trivial⟩ ?_
   obtain ⟨e1_, e2_, e3_⟩ := (by first | exact sub_no (g := g) (I := inT g s) (.inl σ) | exact sub_no (g := g) (I := inT g s) (.inr hbad) | exact sub_empR hR hod2 hgo ω ω : subG g (inT g s) = ⟨[], [], []⟩ ∧ subO g (inT g s) = [] ∧ subB g (inT g s) = false)
   rw [e1_, e2_, e3_]
   exact ⟨none, 0, none, 0, none, 0, none, 0, rfl, aR, OwnR.nil, OwnR.nil, OwnLL.nil, OwnR.nil⟩
  have sO := ne_of_beq_false hE
  refine wp_skip ?_
  refine t_n ?_
  have hxol := congrArg List.length hxo; have hxpl := congrArg List.length hxp; have hxml := congrArg List.length hxm
  rw [List.length_map, List.length_take] at hxol hxpl hxml
  have hne : xl ≠ [] := fun h_ => absurd (show ((xl.length : Nat) : Int) = 0 by rw [h_]; rfl) ω
  refine wp_seq (cut (fun a_ w_ => ∃ (aL : Option Addr) (cV : Nat), (Frm 136 a_ [(13, .slice aG xl.length bH), (12, .int .i64 (k)), (11, pt aF.heap.size 0), (8, .slice aB od.length aV), (9, .slice aA nw.length aY), (4, pt w1.heap.size 0), (2, pt w.heap.size 0)]) ∧ (Ext w w_) ∧ (RdG w_ 0 w.heap.size Ag0 Ag1 Ag2 cg0 cg1 cg2 g) ∧ (RdR w_ 0 w.heap.size Ai (fromW s)) ∧ (Bx w_ (w.heap.size) [.slice Ag0 g.ow.length cg0, .slice Ag1 g.pr.length cg1, .slice Ag2 g.mv.length cg2] 25) ∧ (Bx w_ (w1.heap.size) [.slice none 0 0, .slice none 0 0, .slice none 0 0] 25) ∧ (OwnR w_ (Sx (aQ.heap.size) [obk (aG), obk (aC), obk (aE), obk (aL), some (aF.heap.size), obk (aB)]) aA aY 3 (nw : List Int)) ∧ (OwnR w_ (Sx (bA.heap.size) [obk (aG), obk (aC), obk (aE), obk (aL), some (aF.heap.size), obk (aA)]) aB aV 3 (od : List Int)) ∧ (Bx w_ (aF.heap.size) [.slice (aL) ((xo ++ ([gI g.ow (gI od k)])).length) (cV), .slice aE xp.length bC, .slice aC xm.length aZ] 25) ∧ (OwnR w_ (Sx (aD.heap.size) [obk (aG), obk (aC), obk (aE), obk (aA), obk (aB)]) (aL) (cV) 3 (xo ++ ([gI g.ow (gI od k)]) : List Int)) ∧ (OwnR w_ (Sx (aD.heap.size) [obk (aG), obk (aC), obk (aA), obk (aB), obk (aL)]) aE bC 3 (xp : List Int)) ∧ (OwnLL w_ (aD.heap.size) [obk (aG), obk (aA), obk (aB), obk (aL), obk (aE)] aC aZ 22 3 (xm : List (List Int))) ∧ (OwnR w_ (Sx (bE.heap.size) [obk (aA), obk (aB), obk (aL), obk (aE), obk (aC)]) aG bH 3 (xl : List Int)) ∧ (kJ.heap.size ≤ w_.heap.size)) ?_ ?_)
  ·obtain ⟨nP, fN, sP, nQ, sQ⟩ := aJ.get (k) ω ω (sz := 1) rfl
   obtain ⟨nR, nS, _, _, nT⟩ := RdI.get aO.ow (gI od k) ω ω
   obtain ⟨kW, dV⟩ : ∃ c : List (Addr × Value), c = [(⟨w.heap.size, 0, none⟩, (.slice Ag0 g.ow.length cg0)), ((nP.add ((k : Int).toNat * 1)), (.int .i64 (gI od k))), ((nR.add ((gI od k : Int).toNat * 1)), (.int .i64 (gI g.ow (gI od k))))] := ⟨_, rfl⟩
   have kX : HoldsC kW kJ := by rw [dV]; exact ⟨(aM.cell (i := 0) rfl), nQ, nT, trivial⟩
   refine AtH.start kW 14 _ κ rfl rfl (fun bI kY => ?_)
   have cC := gr_drew kY; have gM := kX.gr cC; have := cC.size; replace aR := aR.gn cC; replace aO := aO.gn cC; replace aW := aW.gn cC; replace aM := aM.gn cC; replace aS := aS.gn cC; replace aN := aN.gn cC; replace aJ := aJ.gn cC; replace aT := aT.gn cC; replace aH := aH.gn cC; replace aP := aP.gn cC; replace aU := aU.gn cC; replace aK := aK.gn cC; clear cC kY kX
   refine AtH.rk gM eY [0, 2, 3, 4, 5, 6, 7, 8, 9] 5 [(107, .int .i64 (gI g.ow (gI od k))), (98, pt aF.heap.size 0)] (.l (CsC_at dV 0 rfl) <| .a k od.length fN <| .l (CsC_at dV 1 rfl) <| .a (gI od k) g.ow.length nS <| .l (CsC_at dV 2 rfl) <| .n) (fun sR gN => ?_)
   clear eY
   refine AtH.all [1, 10] 4 κ (by simp) ⟨?_, ?_, trivial⟩
   ·refine OneH.seq gN [[.ld (.slice aI xo.length bG)]] [(99, .slice aI xo.length bG)] bI [(bI.cell? ⟨aF.heap.size, 0, none⟩ = some (.slice aI xo.length bG))] _ rfl κ κ ⟨(aT.cell (i := 0) rfl), trivial⟩ (fun sS nU nV kZ => ?_)
    obtain rfl : bI = nU := nV.symm
    clear gN
    refine ⟨gM, ?_⟩
    refine AtH.all [10] 3 κ (by simp) ⟨?_, trivial⟩
    refine OneH.seq kZ [] [(108, .slice (some ⟨bI.heap.size, 0, none⟩) 1 1)] (bI.alloc (.cells #[.int .i64 (gI g.ow (gI od k))] 3 (0, 0))) [] _ rfl κ κ trivial (fun sT lA hF lB => ?_)
    clear kZ; have cD := gr_alloc hF; have lC := gM.gr cD
    refine ⟨lC, ?_⟩
    have := cD.size; replace aR := aR.gn cD; replace aO := aO.gn cD; replace aW := aW.gn cD; replace aM := aM.gn cD; replace aS := aS.gn cD; replace aN := aN.grN cD; replace aJ := aJ.grN cD; replace aT := aT.gn cD; replace aH := aH.grN cD; replace aP := aP.grN cD; replace aU := aU.grN cD; replace aK := aK.grN cD; have hH : Bx lA (bI.heap.size) [.int .i64 (gI g.ow (gI od k))] 3 := Bx.new hF
    have := hH.lt; clear cD hF
    refine AtH.all [11] 2 κ (by simp) ⟨?_, trivial⟩
    have nW : (xo ++ ([gI g.ow (gI od k)])).length = (xo).length + ([gI g.ow (gI od k)] : List Int).length := List.length_append
    simp only [List.length_cons, List.length_nil] at nW
    refine OneH.act lB _ rfl (appendR (α := Int) (t := 22) (d := 109) (n := xo.length) (m := 1) (cc := 1) (xs := xo) (ys := [gI g.ow (gI od k)]) (bytes := 8) (by first | rfl | omega | (simp; done) | (simp; omega)) (by first | rfl | omega | (simp; done) | (simp; omega)) κ rfl κ aH (Bx.srcR (l := ([gI g.ow (gI od k)] : List Int)) hH rfl) (by simp only [List.length_cons, List.length_nil]; omega) (by simp only [List.length_cons, List.length_nil]; omega)) ?_
    rintro d_ v_ fO ⟨rfl, dW, hI, dN⟩
    obtain rfl := dN.val
    have cJ := dN.gr
    have hJ := lC.grO cJ (by rw [dV]; exact ⟨(fun e => by have := aH.ge _ e; simp only [add_block] at this; omega), (fun e => (aH.inS _ e).2.2.2.2.2.1 (by simp only [add_block]; rw [fN]; rfl)), (fun e => by have := aH.ge _ e; simp only [add_block] at this; omega), trivial⟩)
    refine ⟨_, rfl, fun sU lD => ⟨hJ, ?_⟩⟩
    clear lB; clear hH
    have hK := dN.own (Sx (aD.heap.size) [obk (aG), obk (aC), obk (aE), obk (aA), obk (aB)]) (fun g _ hs => ⟨hs.2.1, hs.2.2.1, hs.2.2.2.1, hs.2.2.2.2.1, hs.2.2.2.2.2.1, hs.2.2.2.2.2.2⟩) ⟨aK.ne_new, aU.ne_new, aP.ne_new, aN.ne_new, aJ.ne_new, (show aD.heap.size ≤ lA.heap.size by omega)⟩
    have := cJ.size; replace aR := aR.gr cJ (fun k hk => by have := aH.ge k hk; omega); replace aO := aO.gr cJ (fun k hk => by have := aH.ge k hk; omega); replace aW := aW.gr cJ (fun k hk => by have := aH.ge k hk; omega); replace aM := aM.gr cJ (fun e => by have := aH.ge _ e; omega); replace aS := aS.gr cJ (fun e => by have := aH.ge _ e; omega)
    replace aN : OwnR fO (Sx (aQ.heap.size) [some (bI.heap.size), obk (aG), obk (aC), obk (aE), obk (dW), some (aF.heap.size), obk (aB)]) aA aY 3 (nw : List Int) := aN.grA cJ (fun k hk => hk.2.2.2.2.1) (fun k hk hs => ⟨hs.1, hs.2.1, hs.2.2.1, hs.2.2.2.1, own_repl dN.at_ hs.2.2.2.2.1 hk, hs.2.2.2.2.2.1, hs.2.2.2.2.2.2.1, hs.2.2.2.2.2.2.2⟩)
    replace aJ : OwnR fO (Sx (bA.heap.size) [some (bI.heap.size), obk (aG), obk (aC), obk (aE), obk (dW), some (aF.heap.size), obk (aA)]) aB aV 3 (od : List Int) := aJ.grA cJ (fun k hk => hk.2.2.2.2.1) (fun k hk hs => ⟨hs.1, hs.2.1, hs.2.2.1, hs.2.2.2.1, own_repl dN.at_ hs.2.2.2.2.1 hk, hs.2.2.2.2.2.1, hs.2.2.2.2.2.2.1, hs.2.2.2.2.2.2.2⟩)
    replace aT := aT.gr cJ (fun e => by have := aH.ge _ e; omega)
    replace aP : OwnR fO (Sx (aD.heap.size) [some (bI.heap.size), obk (aG), obk (aC), obk (aA), obk (aB), obk (dW)]) aE bC 3 (xp : List Int) := aP.grA cJ (fun k hk => hk.2.2.2.2.2.1) (fun k hk hs => ⟨hs.1, hs.2.1, hs.2.2.1, hs.2.2.2.1, hs.2.2.2.2.1, own_repl dN.at_ hs.2.2.2.2.2.1 hk, hs.2.2.2.2.2.2⟩)
    replace aU : OwnLL fO (aD.heap.size) [some (bI.heap.size), obk (aG), obk (aA), obk (aB), obk (dW), obk (aE)] aC aZ 22 3 (xm : List (List Int)) := aU.grA cJ (fun k hk => hk.2.2.2.2.1) (fun k hk hs => ⟨hs.1, hs.2.1, hs.2.2.1, hs.2.2.2.1, own_repl dN.at_ hs.2.2.2.2.1 hk, hs.2.2.2.2.2.1, hs.2.2.2.2.2.2⟩)
    replace aK : OwnR fO (Sx (bE.heap.size) [some (bI.heap.size), obk (aA), obk (aB), obk (dW), obk (aE), obk (aC)]) aG bH 3 (xl : List Int) := aK.grA cJ (fun k hk => hk.2.2.2.1) (fun k hk hs => ⟨hs.1, hs.2.1, hs.2.2.1, own_repl dN.at_ hs.2.2.2.1 hk, hs.2.2.2.2.1, hs.2.2.2.2.2.1, hs.2.2.2.2.2.2⟩)
    clear aH cJ dN
    refine AtH.rk hJ lD [12] 1 [(110, pt aF.heap.size 0)] .n (fun sV lE => ?_)
    clear lD
    refine AtH.all [13] 0 κ (by simp) ⟨?_, trivial⟩
    refine OneH.store lE (t := 22) (b := aF.heap.size) (off := 0) (v := .slice dW ((xo ++ ([gI g.ow (gI od k)])).length) hI) _ rfl κ aT κ (fun sW nX cK hL nY => ?_)
    clear lE; replace hL : Bx nX (aF.heap.size) [.slice dW ((xo ++ ([gI g.ow (gI od k)])).length) hI, .slice aE xp.length bC, .slice aC xm.length aZ] 25 := hL
    have lF := hJ.gr' cK (by rw [dV]; exact ⟨(by simp only [add_block]; omega), (fun e => aJ.neb (fun g hs => hs.2.2.2.2.2.1) (by simp only [add_block] at e; rw [fN, ← e]; first | done | rfl)), (by simp only [add_block]; omega), trivial⟩)
    have := cK.size; replace aR := aR.gr cK (fun k h => by injection h; omega); replace aO := aO.gb cK ω; replace aW := aW.gb cK ω; replace aM := aM.gb cK ω; replace aS := aS.gb cK ω; replace aN := aN.gr cK (fun k hk => hk.2.2.2.2.2.1); replace aJ := aJ.gr cK (fun k hk => hk.2.2.2.2.2.1); replace hK := hK.gr cK (fun k hk e => by have := Sx_base hk; injection e; omega)
    replace aP := aP.gr cK (fun k hk e => by have := Sx_base hk; injection e; omega); replace aU := aU.gr cK (fun k hk e => by have := Sx_base hk; injection e; omega); replace aK := aK.gr cK (fun k hk e => by have := Sx_base hk; injection e; omega); clear aT cK
    refine ⟨lF, ?_⟩
    refine AtH.done κ ?_
    clear lF
    refine t_n ?_
    exact ⟨dW, hI, nY.sb, aR, aO, aW, aM, aS, (aN.imp (fun g _ hs => ⟨hs.2.1, hs.2.2.1, hs.2.2.2.1, hs.2.2.2.2.1, hs.2.2.2.2.2.1, hs.2.2.2.2.2.2.1, (by have := Sx_base hs; show aQ.heap.size ≤ g; omega)⟩)), (aJ.imp (fun g _ hs => ⟨hs.2.1, hs.2.2.1, hs.2.2.2.1, hs.2.2.2.2.1, hs.2.2.2.2.2.1, hs.2.2.2.2.2.2.1, (by have := Sx_base hs; show bA.heap.size ≤ g; omega)⟩)), hL, hK, (aP.imp (fun g _ hs => ⟨hs.2.1, hs.2.2.1, hs.2.2.2.1, hs.2.2.2.2.1, hs.2.2.2.2.2.1, (by have := Sx_base hs; show aD.heap.size ≤ g; omega)⟩)), (aU.imp (fun g _ hs => ⟨hs.2.1, hs.2.2.1, hs.2.2.2.1, hs.2.2.2.2.1, hs.2.2.2.2.2.1, (by have := Sx_base hs; show aD.heap.size ≤ g; omega)⟩)), (aK.imp (fun g _ hs => ⟨hs.2.1, hs.2.2.1, hs.2.2.2.1, hs.2.2.2.2.1, hs.2.2.2.2.2.1, (by have := Sx_base hs; show bE.heap.size ≤ g; omega)⟩)), ω⟩
   refine OneH.seq gN [] [(108, .slice (some ⟨bI.heap.size, 0, none⟩) 1 1)] (bI.alloc (.cells #[.int .i64 (gI g.ow (gI od k))] 3 (0, 0))) [] _ rfl κ κ trivial (fun sX fP hM lG => ?_)
   clear gN; have cE := gr_alloc hM; have hN := gM.gr cE
   refine ⟨hN, ?_⟩
   have := cE.size; replace aR := aR.gn cE; replace aO := aO.gn cE; replace aW := aW.gn cE; replace aM := aM.gn cE; replace aS := aS.gn cE; replace aN := aN.grN cE; replace aJ := aJ.grN cE; replace aT := aT.gn cE; replace aH := aH.grN cE; replace aP := aP.grN cE; replace aU := aU.grN cE; replace aK := aK.grN cE; have hO : Bx fP (bI.heap.size) [.int .i64 (gI g.ow (gI od k))] 3 := Bx.new hM
   have := hO.lt; clear cE hM
   refine AtH.all [1] 3 κ (by simp) ⟨?_, trivial⟩
   refine OneH.seq lG [[.ld (.slice aI xo.length bG)]] [(99, .slice aI xo.length bG)] fP [(fP.cell? ⟨aF.heap.size, 0, none⟩ = some (.slice aI xo.length bG))] _ rfl κ κ ⟨(aT.cell (i := 0) rfl), trivial⟩ (fun sY nZ oA lH => ?_)
   obtain rfl : fP = nZ := oA.symm
   clear lG
   refine ⟨hN, ?_⟩
   refine AtH.all [11] 2 κ (by simp) ⟨?_, trivial⟩
   have oB : (xo ++ ([gI g.ow (gI od k)])).length = (xo).length + ([gI g.ow (gI od k)] : List Int).length := List.length_append
   simp only [List.length_cons, List.length_nil] at oB
   refine OneH.act lH _ rfl (appendR (α := Int) (t := 22) (d := 109) (n := xo.length) (m := 1) (cc := 1) (xs := xo) (ys := [gI g.ow (gI od k)]) (bytes := 8) (by first | rfl | omega | (simp; done) | (simp; omega)) (by first | rfl | omega | (simp; done) | (simp; omega)) κ rfl κ aH (Bx.srcR (l := ([gI g.ow (gI od k)] : List Int)) hO rfl) (by simp only [List.length_cons, List.length_nil]; omega) (by simp only [List.length_cons, List.length_nil]; omega)) ?_
   rintro d_ v_ fQ ⟨rfl, dX, hP, dO⟩
   obtain rfl := dO.val
   have cL := dO.gr
   have hQ := hN.grO cL (by rw [dV]; exact ⟨(fun e => by have := aH.ge _ e; simp only [add_block] at this; omega), (fun e => (aH.inS _ e).2.2.2.2.2.1 (by simp only [add_block]; rw [fN]; rfl)), (fun e => by have := aH.ge _ e; simp only [add_block] at this; omega), trivial⟩)
   refine ⟨_, rfl, fun sZ lI => ⟨hQ, ?_⟩⟩
   clear lH; clear hO
   have hS := dO.own (Sx (aD.heap.size) [obk (aG), obk (aC), obk (aE), obk (aA), obk (aB)]) (fun g _ hs => ⟨hs.2.1, hs.2.2.1, hs.2.2.2.1, hs.2.2.2.2.1, hs.2.2.2.2.2.1, hs.2.2.2.2.2.2⟩) ⟨aK.ne_new, aU.ne_new, aP.ne_new, aN.ne_new, aJ.ne_new, (show aD.heap.size ≤ fP.heap.size by omega)⟩
   have := cL.size; replace aR := aR.gr cL (fun k hk => by have := aH.ge k hk; omega); replace aO := aO.gr cL (fun k hk => by have := aH.ge k hk; omega); replace aW := aW.gr cL (fun k hk => by have := aH.ge k hk; omega); replace aM := aM.gr cL (fun e => by have := aH.ge _ e; omega); replace aS := aS.gr cL (fun e => by have := aH.ge _ e; omega)
   replace aN : OwnR fQ (Sx (aQ.heap.size) [some (bI.heap.size), obk (aG), obk (aC), obk (aE), obk (dX), some (aF.heap.size), obk (aB)]) aA aY 3 (nw : List Int) := aN.grA cL (fun k hk => hk.2.2.2.2.1) (fun k hk hs => ⟨hs.1, hs.2.1, hs.2.2.1, hs.2.2.2.1, own_repl dO.at_ hs.2.2.2.2.1 hk, hs.2.2.2.2.2.1, hs.2.2.2.2.2.2.1, hs.2.2.2.2.2.2.2⟩)
   replace aJ : OwnR fQ (Sx (bA.heap.size) [some (bI.heap.size), obk (aG), obk (aC), obk (aE), obk (dX), some (aF.heap.size), obk (aA)]) aB aV 3 (od : List Int) := aJ.grA cL (fun k hk => hk.2.2.2.2.1) (fun k hk hs => ⟨hs.1, hs.2.1, hs.2.2.1, hs.2.2.2.1, own_repl dO.at_ hs.2.2.2.2.1 hk, hs.2.2.2.2.2.1, hs.2.2.2.2.2.2.1, hs.2.2.2.2.2.2.2⟩)
   replace aT := aT.gr cL (fun e => by have := aH.ge _ e; omega)
   replace aP : OwnR fQ (Sx (aD.heap.size) [some (bI.heap.size), obk (aG), obk (aC), obk (aA), obk (aB), obk (dX)]) aE bC 3 (xp : List Int) := aP.grA cL (fun k hk => hk.2.2.2.2.2.1) (fun k hk hs => ⟨hs.1, hs.2.1, hs.2.2.1, hs.2.2.2.1, hs.2.2.2.2.1, own_repl dO.at_ hs.2.2.2.2.2.1 hk, hs.2.2.2.2.2.2⟩)
   replace aU : OwnLL fQ (aD.heap.size) [some (bI.heap.size), obk (aG), obk (aA), obk (aB), obk (dX), obk (aE)] aC aZ 22 3 (xm : List (List Int)) := aU.grA cL (fun k hk => hk.2.2.2.2.1) (fun k hk hs => ⟨hs.1, hs.2.1, hs.2.2.1, hs.2.2.2.1, own_repl dO.at_ hs.2.2.2.2.1 hk, hs.2.2.2.2.2.1, hs.2.2.2.2.2.2⟩)
   replace aK : OwnR fQ (Sx (bE.heap.size) [some (bI.heap.size), obk (aA), obk (aB), obk (dX), obk (aE), obk (aC)]) aG bH 3 (xl : List Int) := aK.grA cL (fun k hk => hk.2.2.2.1) (fun k hk hs => ⟨hs.1, hs.2.1, hs.2.2.1, own_repl dO.at_ hs.2.2.2.1 hk, hs.2.2.2.2.1, hs.2.2.2.2.2.1, hs.2.2.2.2.2.2⟩)
   clear aH cL dO
   refine AtH.rk hQ lI [12] 1 [(110, pt aF.heap.size 0)] .n (fun tA lJ => ?_)
   clear lI
   refine AtH.all [13] 0 κ (by simp) ⟨?_, trivial⟩
   refine OneH.store lJ (t := 22) (b := aF.heap.size) (off := 0) (v := .slice dX ((xo ++ ([gI g.ow (gI od k)])).length) hP) _ rfl κ aT κ (fun tB oC cM hT oD => ?_)
   clear lJ; replace hT : Bx oC (aF.heap.size) [.slice dX ((xo ++ ([gI g.ow (gI od k)])).length) hP, .slice aE xp.length bC, .slice aC xm.length aZ] 25 := hT
   have lK := hQ.gr' cM (by rw [dV]; exact ⟨(by simp only [add_block]; omega), (fun e => aJ.neb (fun g hs => hs.2.2.2.2.2.1) (by simp only [add_block] at e; rw [fN, ← e]; first | done | rfl)), (by simp only [add_block]; omega), trivial⟩)
   have := cM.size; replace aR := aR.gr cM (fun k h => by injection h; omega); replace aO := aO.gb cM ω; replace aW := aW.gb cM ω; replace aM := aM.gb cM ω; replace aS := aS.gb cM ω; replace aN := aN.gr cM (fun k hk => hk.2.2.2.2.2.1); replace aJ := aJ.gr cM (fun k hk => hk.2.2.2.2.2.1); replace hS := hS.gr cM (fun k hk e => by have := Sx_base hk; injection e; omega)
   replace aP := aP.gr cM (fun k hk e => by have := Sx_base hk; injection e; omega); replace aU := aU.gr cM (fun k hk e => by have := Sx_base hk; injection e; omega); replace aK := aK.gr cM (fun k hk e => by have := Sx_base hk; injection e; omega); clear aT cM
   refine ⟨lK, ?_⟩
   refine AtH.done κ ?_
   clear lK
   refine t_n ?_
   exact ⟨dX, hP, oD.sb, aR, aO, aW, aM, aS, (aN.imp (fun g _ hs => ⟨hs.2.1, hs.2.2.1, hs.2.2.2.1, hs.2.2.2.2.1, hs.2.2.2.2.2.1, hs.2.2.2.2.2.2.1, (by have := Sx_base hs; show aQ.heap.size ≤ g; omega)⟩)), (aJ.imp (fun g _ hs => ⟨hs.2.1, hs.2.2.1, hs.2.2.2.1, hs.2.2.2.2.1, hs.2.2.2.2.2.1, hs.2.2.2.2.2.2.1, (by have := Sx_base hs; show bA.heap.size ≤ g; omega)⟩)), hT, hS, (aP.imp (fun g _ hs => ⟨hs.2.1, hs.2.2.1, hs.2.2.2.1, hs.2.2.2.2.1, hs.2.2.2.2.2.1, (by have := Sx_base hs; show aD.heap.size ≤ g; omega)⟩)), (aU.imp (fun g _ hs => ⟨hs.2.1, hs.2.2.1, hs.2.2.2.1, hs.2.2.2.2.1, hs.2.2.2.2.2.1, (by have := Sx_base hs; show aD.heap.size ≤ g; omega)⟩)), (aK.imp (fun g _ hs => ⟨hs.2.1, hs.2.2.1, hs.2.2.2.1, hs.2.2.2.2.1, hs.2.2.2.2.2.1, (by have := Sx_base hs; show bE.heap.size ≤ g; omega)⟩)), ω⟩
  clear aO; clear aW; clear aM; clear aS; clear aN; clear aJ; clear aT; clear aH; clear aP; clear aU; clear aK; clear eY aR
  intro tC lL ⟨aL, cV, hU, bQ, bR, bX, bJ, bS, bK, bD, bT, bL, aX, bM, bN, tD⟩
  have := bQ.size; have := bJ.lt; have := bS.lt; have := bT.lt
  refine wp_seq (cut (fun a_ w_ => ∃ (bZ : Option Addr) (eZ : Nat), (Frm 136 a_ [(13, .slice aG xl.length bH), (12, .int .i64 (k)), (11, pt aF.heap.size 0), (8, .slice aB od.length aV), (9, .slice aA nw.length aY), (4, pt w1.heap.size 0), (2, pt w.heap.size 0)]) ∧ (Ext w w_) ∧ (RdG w_ 0 w.heap.size Ag0 Ag1 Ag2 cg0 cg1 cg2 g) ∧ (RdR w_ 0 w.heap.size Ai (fromW s)) ∧ (Bx w_ (w.heap.size) [.slice Ag0 g.ow.length cg0, .slice Ag1 g.pr.length cg1, .slice Ag2 g.mv.length cg2] 25) ∧ (Bx w_ (w1.heap.size) [.slice none 0 0, .slice none 0 0, .slice none 0 0] 25) ∧ (OwnR w_ (Sx (aQ.heap.size) [obk (aG), obk (aC), obk (bZ), obk (aL), some (aF.heap.size), obk (aB)]) aA aY 3 (nw : List Int)) ∧ (OwnR w_ (Sx (bA.heap.size) [obk (aG), obk (aC), obk (bZ), obk (aL), some (aF.heap.size), obk (aA)]) aB aV 3 (od : List Int)) ∧ (Bx w_ (aF.heap.size) [.slice aL ((xo ++ ([gI g.ow (gI od k)])).length) cV, .slice (bZ) ((xp ++ ([gI g.pr (gI od k)])).length) (eZ), .slice aC xm.length aZ] 25) ∧ (OwnR w_ (Sx (aD.heap.size) [obk (aG), obk (aC), obk (bZ), obk (aA), obk (aB)]) aL cV 3 (xo ++ ([gI g.ow (gI od k)]) : List Int)) ∧ (OwnR w_ (Sx (aD.heap.size) [obk (aG), obk (aC), obk (aA), obk (aB), obk (aL)]) (bZ) (eZ) 3 (xp ++ ([gI g.pr (gI od k)]) : List Int)) ∧ (OwnLL w_ (aD.heap.size) [obk (aG), obk (aA), obk (aB), obk (aL), obk (bZ)] aC aZ 22 3 (xm : List (List Int))) ∧ (OwnR w_ (Sx (bE.heap.size) [obk (aA), obk (aB), obk (aL), obk (bZ), obk (aC)]) aG bH 3 (xl : List Int)) ∧ (lL.heap.size ≤ w_.heap.size)) ?_ ?_)
  ·obtain ⟨oE, fR, tE, oF, tF⟩ := bD.get (k) ω ω (sz := 1) rfl
   obtain ⟨oG, oH, _, _, oI⟩ := RdI.get bR.pr (gI od k) ω ω
   obtain ⟨lM, dY⟩ : ∃ c : List (Addr × Value), c = [(⟨w.heap.size, 1, none⟩, (.slice Ag1 g.pr.length cg1)), ((oE.add ((k : Int).toNat * 1)), (.int .i64 (gI od k))), ((oG.add ((gI od k : Int).toNat * 1)), (.int .i64 (gI g.pr (gI od k))))] := ⟨_, rfl⟩
   have lN : HoldsC lM lL := by rw [dY]; exact ⟨(bJ.cell (i := 1) rfl), oF, oI, trivial⟩
   refine AtH.start lM 14 _ κ rfl rfl (fun bO lO => ?_)
   have cF := gr_drew lO; have gO := lN.gr cF; have := cF.size; replace bQ := bQ.gn cF; replace bR := bR.gn cF; replace bX := bX.gn cF; replace bJ := bJ.gn cF; replace bS := bS.gn cF; replace bK := bK.gn cF; replace bD := bD.gn cF; replace bT := bT.gn cF; replace bL := bL.gn cF; replace aX := aX.gn cF; replace bM := bM.gn cF; replace bN := bN.gn cF; clear cF lO lN
   refine AtH.rk gO hU [0, 2, 3, 4, 5, 6, 7, 8, 9] 5 [(120, .int .i64 (gI g.pr (gI od k))), (111, pt aF.heap.size 1)] (.l (CsC_at dY 0 rfl) <| .a k od.length fR <| .l (CsC_at dY 1 rfl) <| .a (gI od k) g.pr.length oH <| .l (CsC_at dY 2 rfl) <| .n) (fun tG gP => ?_)
   clear hU
   refine AtH.all [1, 10] 4 κ (by simp) ⟨?_, ?_, trivial⟩
   ·refine OneH.seq gP [[.ld (.slice aE xp.length bC)]] [(112, .slice aE xp.length bC)] bO [(bO.cell? ⟨aF.heap.size, 1, none⟩ = some (.slice aE xp.length bC))] _ rfl κ κ ⟨(bT.cell (i := 1) rfl), trivial⟩ (fun tH oJ oK lP => ?_)
    obtain rfl : bO = oJ := oK.symm
    clear gP
    refine ⟨gO, ?_⟩
    refine AtH.all [10] 3 κ (by simp) ⟨?_, trivial⟩
    refine OneH.seq lP [] [(121, .slice (some ⟨bO.heap.size, 0, none⟩) 1 1)] (bO.alloc (.cells #[.int .i64 (gI g.pr (gI od k))] 3 (0, 0))) [] _ rfl κ κ trivial (fun tI lQ hV lR => ?_)
    clear lP; have cG := gr_alloc hV; have lS := gO.gr cG
    refine ⟨lS, ?_⟩
    have := cG.size; replace bQ := bQ.gn cG; replace bR := bR.gn cG; replace bX := bX.gn cG; replace bJ := bJ.gn cG; replace bS := bS.gn cG; replace bK := bK.grN cG; replace bD := bD.grN cG; replace bT := bT.gn cG; replace bL := bL.grN cG; replace aX := aX.grN cG; replace bM := bM.grN cG; replace bN := bN.grN cG; have hW : Bx lQ (bO.heap.size) [.int .i64 (gI g.pr (gI od k))] 3 := Bx.new hV
    have := hW.lt; clear cG hV
    refine AtH.all [11] 2 κ (by simp) ⟨?_, trivial⟩
    have oL : (xp ++ ([gI g.pr (gI od k)])).length = (xp).length + ([gI g.pr (gI od k)] : List Int).length := List.length_append
    simp only [List.length_cons, List.length_nil] at oL
    refine OneH.act lR _ rfl (appendR (α := Int) (t := 22) (d := 122) (n := xp.length) (m := 1) (cc := 1) (xs := xp) (ys := [gI g.pr (gI od k)]) (bytes := 8) (by first | rfl | omega | (simp; done) | (simp; omega)) (by first | rfl | omega | (simp; done) | (simp; omega)) κ rfl κ aX (Bx.srcR (l := ([gI g.pr (gI od k)] : List Int)) hW rfl) (by simp only [List.length_cons, List.length_nil]; omega) (by simp only [List.length_cons, List.length_nil]; omega)) ?_
    rintro d_ v_ fS ⟨rfl, dZ, hX, dP⟩
    obtain rfl := dP.val
    have cN := dP.gr
    have hY := lS.grO cN (by rw [dY]; exact ⟨(fun e => by have := aX.ge _ e; simp only [add_block] at this; omega), (fun e => (aX.inS _ e).2.2.2.2.1 (by simp only [add_block]; rw [fR]; rfl)), (fun e => by have := aX.ge _ e; simp only [add_block] at this; omega), trivial⟩)
    refine ⟨_, rfl, fun tJ lT => ⟨hY, ?_⟩⟩
    clear lR; clear hW
    have hZ := dP.own (Sx (aD.heap.size) [obk (aG), obk (aC), obk (aA), obk (aB), obk (aL)]) (fun g _ hs => ⟨hs.2.1, hs.2.2.1, hs.2.2.2.1, hs.2.2.2.2.1, hs.2.2.2.2.2.1, hs.2.2.2.2.2.2⟩) ⟨bN.ne_new, bM.ne_new, bK.ne_new, bD.ne_new, bL.ne_new, (show aD.heap.size ≤ lQ.heap.size by omega)⟩
    have := cN.size; replace bQ := bQ.gr cN (fun k hk => by have := aX.ge k hk; omega); replace bR := bR.gr cN (fun k hk => by have := aX.ge k hk; omega); replace bX := bX.gr cN (fun k hk => by have := aX.ge k hk; omega); replace bJ := bJ.gr cN (fun e => by have := aX.ge _ e; omega); replace bS := bS.gr cN (fun e => by have := aX.ge _ e; omega)
    replace bK : OwnR fS (Sx (aQ.heap.size) [some (bO.heap.size), obk (aG), obk (aC), obk (dZ), obk (aL), some (aF.heap.size), obk (aB)]) aA aY 3 (nw : List Int) := bK.grA cN (fun k hk => hk.2.2.2.1) (fun k hk hs => ⟨hs.1, hs.2.1, hs.2.2.1, own_repl dP.at_ hs.2.2.2.1 hk, hs.2.2.2.2.1, hs.2.2.2.2.2.1, hs.2.2.2.2.2.2.1, hs.2.2.2.2.2.2.2⟩)
    replace bD : OwnR fS (Sx (bA.heap.size) [some (bO.heap.size), obk (aG), obk (aC), obk (dZ), obk (aL), some (aF.heap.size), obk (aA)]) aB aV 3 (od : List Int) := bD.grA cN (fun k hk => hk.2.2.2.1) (fun k hk hs => ⟨hs.1, hs.2.1, hs.2.2.1, own_repl dP.at_ hs.2.2.2.1 hk, hs.2.2.2.2.1, hs.2.2.2.2.2.1, hs.2.2.2.2.2.2.1, hs.2.2.2.2.2.2.2⟩)
    replace bT := bT.gr cN (fun e => by have := aX.ge _ e; omega)
    replace bL : OwnR fS (Sx (aD.heap.size) [some (bO.heap.size), obk (aG), obk (aC), obk (dZ), obk (aA), obk (aB)]) aL cV 3 (xo ++ ([gI g.ow (gI od k)]) : List Int) := bL.grA cN (fun k hk => hk.2.2.2.1) (fun k hk hs => ⟨hs.1, hs.2.1, hs.2.2.1, own_repl dP.at_ hs.2.2.2.1 hk, hs.2.2.2.2.1, hs.2.2.2.2.2.1, hs.2.2.2.2.2.2⟩)
    replace bM : OwnLL fS (aD.heap.size) [some (bO.heap.size), obk (aG), obk (aA), obk (aB), obk (aL), obk (dZ)] aC aZ 22 3 (xm : List (List Int)) := bM.grA cN (fun k hk => hk.2.2.2.2.2.1) (fun k hk hs => ⟨hs.1, hs.2.1, hs.2.2.1, hs.2.2.2.1, hs.2.2.2.2.1, own_repl dP.at_ hs.2.2.2.2.2.1 hk, hs.2.2.2.2.2.2⟩)
    replace bN : OwnR fS (Sx (bE.heap.size) [some (bO.heap.size), obk (aA), obk (aB), obk (aL), obk (dZ), obk (aC)]) aG bH 3 (xl : List Int) := bN.grA cN (fun k hk => hk.2.2.2.2.1) (fun k hk hs => ⟨hs.1, hs.2.1, hs.2.2.1, hs.2.2.2.1, own_repl dP.at_ hs.2.2.2.2.1 hk, hs.2.2.2.2.2.1, hs.2.2.2.2.2.2⟩)
    clear aX cN dP
    refine AtH.rk hY lT [12] 1 [(123, pt aF.heap.size 1)] .n (fun tK lU => ?_)
    clear lT
    refine AtH.all [13] 0 κ (by simp) ⟨?_, trivial⟩
    refine OneH.store lU (t := 22) (b := aF.heap.size) (off := 1) (v := .slice dZ ((xp ++ ([gI g.pr (gI od k)])).length) hX) _ rfl κ bT κ (fun tL oM cO iA oN => ?_)
    clear lU
    replace iA : Bx oM (aF.heap.size) [.slice aL ((xo ++ ([gI g.ow (gI od k)])).length) cV, .slice dZ ((xp ++ ([gI g.pr (gI od k)])).length) hX, .slice aC xm.length aZ] 25 := iA
    have lV := hY.gr' cO (by rw [dY]; exact ⟨(by simp only [add_block]; omega), (fun e => bD.neb (fun g hs => hs.2.2.2.2.2.1) (by simp only [add_block] at e; rw [fR, ← e]; first | done | rfl)), (by simp only [add_block]; omega), trivial⟩)
    have := cO.size; replace bQ := bQ.gr cO (fun k h => by injection h; omega); replace bR := bR.gb cO ω; replace bX := bX.gb cO ω; replace bJ := bJ.gb cO ω; replace bS := bS.gb cO ω; replace bK := bK.gr cO (fun k hk => hk.2.2.2.2.2.1); replace bD := bD.gr cO (fun k hk => hk.2.2.2.2.2.1); replace bL := bL.gr cO (fun k hk e => by have := Sx_base hk; injection e; omega)
    replace hZ := hZ.gr cO (fun k hk e => by have := Sx_base hk; injection e; omega); replace bM := bM.gr cO (fun k hk e => by have := Sx_base hk; injection e; omega); replace bN := bN.gr cO (fun k hk e => by have := Sx_base hk; injection e; omega); clear bT cO
    refine ⟨lV, ?_⟩
    refine AtH.done κ ?_
    clear lV
    refine t_n ?_
    exact ⟨dZ, hX, oN.sb, bQ, bR, bX, bJ, bS, (bK.imp (fun g _ hs => ⟨hs.2.1, hs.2.2.1, hs.2.2.2.1, hs.2.2.2.2.1, hs.2.2.2.2.2.1, hs.2.2.2.2.2.2.1, (by have := Sx_base hs; show aQ.heap.size ≤ g; omega)⟩)), (bD.imp (fun g _ hs => ⟨hs.2.1, hs.2.2.1, hs.2.2.2.1, hs.2.2.2.2.1, hs.2.2.2.2.2.1, hs.2.2.2.2.2.2.1, (by have := Sx_base hs; show bA.heap.size ≤ g; omega)⟩)), iA, (bL.imp (fun g _ hs => ⟨hs.2.1, hs.2.2.1, hs.2.2.2.1, hs.2.2.2.2.1, hs.2.2.2.2.2.1, (by have := Sx_base hs; show aD.heap.size ≤ g; omega)⟩)), hZ, (bM.imp (fun g _ hs => ⟨hs.2.1, hs.2.2.1, hs.2.2.2.1, hs.2.2.2.2.1, hs.2.2.2.2.2.1, (by have := Sx_base hs; show aD.heap.size ≤ g; omega)⟩)), (bN.imp (fun g _ hs => ⟨hs.2.1, hs.2.2.1, hs.2.2.2.1, hs.2.2.2.2.1, hs.2.2.2.2.2.1, (by have := Sx_base hs; show bE.heap.size ≤ g; omega)⟩)), ω⟩
   refine OneH.seq gP [] [(121, .slice (some ⟨bO.heap.size, 0, none⟩) 1 1)] (bO.alloc (.cells #[.int .i64 (gI g.pr (gI od k))] 3 (0, 0))) [] _ rfl κ κ trivial (fun tM fT iB lW => ?_)
   clear gP; have cH := gr_alloc iB; have iC := gO.gr cH
   refine ⟨iC, ?_⟩
   have := cH.size; replace bQ := bQ.gn cH; replace bR := bR.gn cH; replace bX := bX.gn cH; replace bJ := bJ.gn cH; replace bS := bS.gn cH; replace bK := bK.grN cH; replace bD := bD.grN cH; replace bT := bT.gn cH; replace bL := bL.grN cH; replace aX := aX.grN cH; replace bM := bM.grN cH; replace bN := bN.grN cH; have iD : Bx fT (bO.heap.size) [.int .i64 (gI g.pr (gI od k))] 3 := Bx.new iB
   have := iD.lt; clear cH iB
   refine AtH.all [1] 3 κ (by simp) ⟨?_, trivial⟩
   refine OneH.seq lW [[.ld (.slice aE xp.length bC)]] [(112, .slice aE xp.length bC)] fT [(fT.cell? ⟨aF.heap.size, 1, none⟩ = some (.slice aE xp.length bC))] _ rfl κ κ ⟨(bT.cell (i := 1) rfl), trivial⟩ (fun tN oO oP lX => ?_)
   obtain rfl : fT = oO := oP.symm
   clear lW
   refine ⟨iC, ?_⟩
   refine AtH.all [11] 2 κ (by simp) ⟨?_, trivial⟩
   have oQ : (xp ++ ([gI g.pr (gI od k)])).length = (xp).length + ([gI g.pr (gI od k)] : List Int).length := List.length_append
   simp only [List.length_cons, List.length_nil] at oQ
   refine OneH.act lX _ rfl (appendR (α := Int) (t := 22) (d := 122) (n := xp.length) (m := 1) (cc := 1) (xs := xp) (ys := [gI g.pr (gI od k)]) (bytes := 8) (by first | rfl | omega | (simp; done) | (simp; omega)) (by first | rfl | omega | (simp; done) | (simp; omega)) κ rfl κ aX (Bx.srcR (l := ([gI g.pr (gI od k)] : List Int)) iD rfl) (by simp only [List.length_cons, List.length_nil]; omega) (by simp only [List.length_cons, List.length_nil]; omega)) ?_
   rintro d_ v_ fU ⟨rfl, eA, iE, dQ⟩
   obtain rfl := dQ.val
   have cP := dQ.gr
   have iF := iC.grO cP (by rw [dY]; exact ⟨(fun e => by have := aX.ge _ e; simp only [add_block] at this; omega), (fun e => (aX.inS _ e).2.2.2.2.1 (by simp only [add_block]; rw [fR]; rfl)), (fun e => by have := aX.ge _ e; simp only [add_block] at this; omega), trivial⟩)
   refine ⟨_, rfl, fun tO lY => ⟨iF, ?_⟩⟩
   clear lX; clear iD
   have iG := dQ.own (Sx (aD.heap.size) [obk (aG), obk (aC), obk (aA), obk (aB), obk (aL)]) (fun g _ hs => ⟨hs.2.1, hs.2.2.1, hs.2.2.2.1, hs.2.2.2.2.1, hs.2.2.2.2.2.1, hs.2.2.2.2.2.2⟩) ⟨bN.ne_new, bM.ne_new, bK.ne_new, bD.ne_new, bL.ne_new, (show aD.heap.size ≤ fT.heap.size by omega)⟩
   have := cP.size; replace bQ := bQ.gr cP (fun k hk => by have := aX.ge k hk; omega); replace bR := bR.gr cP (fun k hk => by have := aX.ge k hk; omega); replace bX := bX.gr cP (fun k hk => by have := aX.ge k hk; omega); replace bJ := bJ.gr cP (fun e => by have := aX.ge _ e; omega); replace bS := bS.gr cP (fun e => by have := aX.ge _ e; omega)
   replace bK : OwnR fU (Sx (aQ.heap.size) [some (bO.heap.size), obk (aG), obk (aC), obk (eA), obk (aL), some (aF.heap.size), obk (aB)]) aA aY 3 (nw : List Int) := bK.grA cP (fun k hk => hk.2.2.2.1) (fun k hk hs => ⟨hs.1, hs.2.1, hs.2.2.1, own_repl dQ.at_ hs.2.2.2.1 hk, hs.2.2.2.2.1, hs.2.2.2.2.2.1, hs.2.2.2.2.2.2.1, hs.2.2.2.2.2.2.2⟩)
   replace bD : OwnR fU (Sx (bA.heap.size) [some (bO.heap.size), obk (aG), obk (aC), obk (eA), obk (aL), some (aF.heap.size), obk (aA)]) aB aV 3 (od : List Int) := bD.grA cP (fun k hk => hk.2.2.2.1) (fun k hk hs => ⟨hs.1, hs.2.1, hs.2.2.1, own_repl dQ.at_ hs.2.2.2.1 hk, hs.2.2.2.2.1, hs.2.2.2.2.2.1, hs.2.2.2.2.2.2.1, hs.2.2.2.2.2.2.2⟩)
   replace bT := bT.gr cP (fun e => by have := aX.ge _ e; omega)
   replace bL : OwnR fU (Sx (aD.heap.size) [some (bO.heap.size), obk (aG), obk (aC), obk (eA), obk (aA), obk (aB)]) aL cV 3 (xo ++ ([gI g.ow (gI od k)]) : List Int) := bL.grA cP (fun k hk => hk.2.2.2.1) (fun k hk hs => ⟨hs.1, hs.2.1, hs.2.2.1, own_repl dQ.at_ hs.2.2.2.1 hk, hs.2.2.2.2.1, hs.2.2.2.2.2.1, hs.2.2.2.2.2.2⟩)
   replace bM : OwnLL fU (aD.heap.size) [some (bO.heap.size), obk (aG), obk (aA), obk (aB), obk (aL), obk (eA)] aC aZ 22 3 (xm : List (List Int)) := bM.grA cP (fun k hk => hk.2.2.2.2.2.1) (fun k hk hs => ⟨hs.1, hs.2.1, hs.2.2.1, hs.2.2.2.1, hs.2.2.2.2.1, own_repl dQ.at_ hs.2.2.2.2.2.1 hk, hs.2.2.2.2.2.2⟩)
   replace bN : OwnR fU (Sx (bE.heap.size) [some (bO.heap.size), obk (aA), obk (aB), obk (aL), obk (eA), obk (aC)]) aG bH 3 (xl : List Int) := bN.grA cP (fun k hk => hk.2.2.2.2.1) (fun k hk hs => ⟨hs.1, hs.2.1, hs.2.2.1, hs.2.2.2.1, own_repl dQ.at_ hs.2.2.2.2.1 hk, hs.2.2.2.2.2.1, hs.2.2.2.2.2.2⟩)
   clear aX cP dQ
   refine AtH.rk iF lY [12] 1 [(123, pt aF.heap.size 1)] .n (fun tP lZ => ?_)
   clear lY
   refine AtH.all [13] 0 κ (by simp) ⟨?_, trivial⟩
   refine OneH.store lZ (t := 22) (b := aF.heap.size) (off := 1) (v := .slice eA ((xp ++ ([gI g.pr (gI od k)])).length) iE) _ rfl κ bT κ (fun tQ oR cQ iH oS => ?_)
   clear lZ
   replace iH : Bx oR (aF.heap.size) [.slice aL ((xo ++ ([gI g.ow (gI od k)])).length) cV, .slice eA ((xp ++ ([gI g.pr (gI od k)])).length) iE, .slice aC xm.length aZ] 25 := iH
   have mA := iF.gr' cQ (by rw [dY]; exact ⟨(by simp only [add_block]; omega), (fun e => bD.neb (fun g hs => hs.2.2.2.2.2.1) (by simp only [add_block] at e; rw [fR, ← e]; first | done | rfl)), (by simp only [add_block]; omega), trivial⟩)
   have := cQ.size; replace bQ := bQ.gr cQ (fun k h => by injection h; omega); replace bR := bR.gb cQ ω; replace bX := bX.gb cQ ω; replace bJ := bJ.gb cQ ω; replace bS := bS.gb cQ ω; replace bK := bK.gr cQ (fun k hk => hk.2.2.2.2.2.1); replace bD := bD.gr cQ (fun k hk => hk.2.2.2.2.2.1); replace bL := bL.gr cQ (fun k hk e => by have := Sx_base hk; injection e; omega)
   replace iG := iG.gr cQ (fun k hk e => by have := Sx_base hk; injection e; omega); replace bM := bM.gr cQ (fun k hk e => by have := Sx_base hk; injection e; omega); replace bN := bN.gr cQ (fun k hk e => by have := Sx_base hk; injection e; omega); clear bT cQ
   refine ⟨mA, ?_⟩
   refine AtH.done κ ?_
   clear mA
   refine t_n ?_
   exact ⟨eA, iE, oS.sb, bQ, bR, bX, bJ, bS, (bK.imp (fun g _ hs => ⟨hs.2.1, hs.2.2.1, hs.2.2.2.1, hs.2.2.2.2.1, hs.2.2.2.2.2.1, hs.2.2.2.2.2.2.1, (by have := Sx_base hs; show aQ.heap.size ≤ g; omega)⟩)), (bD.imp (fun g _ hs => ⟨hs.2.1, hs.2.2.1, hs.2.2.2.1, hs.2.2.2.2.1, hs.2.2.2.2.2.1, hs.2.2.2.2.2.2.1, (by have := Sx_base hs; show bA.heap.size ≤ g; omega)⟩)), iH, (bL.imp (fun g _ hs => ⟨hs.2.1, hs.2.2.1, hs.2.2.2.1, hs.2.2.2.2.1, hs.2.2.2.2.2.1, (by have := Sx_base hs; show aD.heap.size ≤ g; omega)⟩)), iG, (bM.imp (fun g _ hs => ⟨hs.2.1, hs.2.2.1, hs.2.2.2.1, hs.2.2.2.2.1, hs.2.2.2.2.2.1, (by have := Sx_base hs; show aD.heap.size ≤ g; omega)⟩)), (bN.imp (fun g _ hs => ⟨hs.2.1, hs.2.2.1, hs.2.2.2.1, hs.2.2.2.2.1, hs.2.2.2.2.2.1, (by have := Sx_base hs; show bE.heap.size ≤ g; omega)⟩)), ω⟩
  clear bR; clear bX; clear bJ; clear bS; clear bK; clear bD; clear bT; clear bL; clear aX; clear bM; clear bN; clear hU bQ
  intro tR eN ⟨bZ, eZ, mB, eB, eO, eP, eC, eD, eE, eF, eG, eH, eI, dC, gQ, tS⟩
  have := eB.size; have := eC.lt; have := eD.lt; have := eG.lt
  refine At.start ?_
  refine At.rk mB 3 [(126, .slice aG xl.length bH), (125, .slice aC xm.length aZ)] (.l (eG.cell (i := 2) rfl) <| .n) (fun tT mC => ?_)
  clear mB
  refine At.seq mC 1 [[]] [(127, .slice (some ⟨eN.heap.size, 0, none⟩) 1 1)] (eN.alloc (.cells #[.slice aG xl.length bH] 22 (0, 0))) [] κ trivial (fun tU gR iI mD => ?_)
  clear mC; have cR := gr_alloc iI; have := cR.size; replace eB := eB.gn cR; replace eO := eO.gn cR; replace eP := eP.gn cR; replace eC := eC.gn cR; replace eD := eD.gn cR; replace eE := eE.grN cR; replace eF := eF.grN cR; replace eG := eG.gn cR; replace eH := eH.grN cR; replace eI := eI.grN cR; replace dC := dC.grN cR; replace gQ := gQ.grN cR
  have iJ : Bx gR (eN.heap.size) [.slice aG xl.length bH] 22 := Bx.new iI; have := iJ.lt; clear cR iI
  have mE : OwnR gR (Sx (aD.heap.size) [obk (aA), obk (aB), obk (aL), obk (bZ)]) aG bH 3 (xl : List Int) := gQ.imp (fun g _ hs => ⟨hs.2.1, hs.2.2.1, hs.2.2.2.1, hs.2.2.2.2.1, (by have := Sx_base hs; show aD.heap.size ≤ g; omega)⟩)
  have mF : OwnLL gR (aD.heap.size) [obk (aG), obk (aA), obk (aB), obk (aL), obk (bZ)] aC aZ 22 3 (xm : List (List Int)) := (dC.imp (fun g _ hs => ⟨hs.2.1, hs.2.2.1, hs.2.2.2.1, hs.2.2.2.2.1, hs.2.2.2.2.2.1, hs.2.2.2.2.2.2⟩))
  have tV : (xm ++ [xl]).length = (xm).length + 1 := by simp
  refine At.act mD (appendLL (t := 23) (d := 128) (n := xm.length) (m := 1) (cc := 1) (ls := xm) (xs := xl) (bytes := 24) (by first | rfl | omega | (simp; done) | (simp; omega)) κ κ (iJ.as (by first | rfl | (simp; done))) mF mE ⟨eE.ne_new, eF.ne_new, eH.ne_new, eI.ne_new, (show aD.heap.size ≤ gR.heap.size by omega)⟩ ω ω) ?_
  rintro d_ v_ gS ⟨rfl, eQ, iK, rfl, cW, fV, iL⟩
  refine ⟨_, rfl, fun tW mG => ?_⟩
  clear mD; clear iJ gQ mE mF; have := cW.size; replace eB := eB.gr cW (fun k hk => by have := dC.ge k hk; omega); replace eO := eO.gr cW (fun k hk => by have := dC.ge k hk; omega); replace eP := eP.gr cW (fun k hk => by have := dC.ge k hk; omega); replace eC := eC.gr cW (fun e => by have := dC.ge _ e; omega); replace eD := eD.gr cW (fun e => by have := dC.ge _ e; omega)
  replace eE : OwnR gS (Sx (aQ.heap.size) [some (eN.heap.size), obk (aG), obk (eQ), obk (bZ), obk (aL), some (aF.heap.size), obk (aB)]) aA aY 3 (nw : List Int) := eE.grA cW (fun k hk => hk.2.2.1) (fun k hk hs => ⟨hs.1, hs.2.1, own_repl fV hs.2.2.1 hk, hs.2.2.2.1, hs.2.2.2.2.1, hs.2.2.2.2.2.1, hs.2.2.2.2.2.2.1, hs.2.2.2.2.2.2.2⟩)
  replace eF : OwnR gS (Sx (bA.heap.size) [some (eN.heap.size), obk (aG), obk (eQ), obk (bZ), obk (aL), some (aF.heap.size), obk (aA)]) aB aV 3 (od : List Int) := eF.grA cW (fun k hk => hk.2.2.1) (fun k hk hs => ⟨hs.1, hs.2.1, own_repl fV hs.2.2.1 hk, hs.2.2.2.1, hs.2.2.2.2.1, hs.2.2.2.2.2.1, hs.2.2.2.2.2.2.1, hs.2.2.2.2.2.2.2⟩)
  replace eG := eG.gr cW (fun e => by have := dC.ge _ e; omega)
  replace eH : OwnR gS (Sx (aD.heap.size) [some (eN.heap.size), obk (aG), obk (eQ), obk (bZ), obk (aA), obk (aB)]) aL cV 3 (xo ++ ([gI g.ow (gI od k)]) : List Int) := eH.grA cW (fun k hk => hk.2.2.1) (fun k hk hs => ⟨hs.1, hs.2.1, own_repl fV hs.2.2.1 hk, hs.2.2.2.1, hs.2.2.2.2.1, hs.2.2.2.2.2.1, hs.2.2.2.2.2.2⟩)
  replace eI : OwnR gS (Sx (aD.heap.size) [some (eN.heap.size), obk (aG), obk (eQ), obk (aA), obk (aB), obk (aL)]) bZ eZ 3 (xp ++ ([gI g.pr (gI od k)]) : List Int) := eI.grA cW (fun k hk => hk.2.2.1) (fun k hk hs => ⟨hs.1, hs.2.1, own_repl fV hs.2.2.1 hk, hs.2.2.2.1, hs.2.2.2.2.1, hs.2.2.2.2.2.1, hs.2.2.2.2.2.2⟩)
  clear dC cW fV
  refine At.rk mG 1 [(129, pt aF.heap.size 2)] .n (fun tX mH => ?_)
  clear mG
  refine At.store mH (t := 23) (b := aF.heap.size) (off := 2) (v := .slice eQ ((xm ++ [xl]).length) iK) κ eG κ (fun tY oT cX iM mI => ?_)
  clear mH
  replace iM : Bx oT (aF.heap.size) [.slice aL ((xo ++ ([gI g.ow (gI od k)])).length) cV, .slice bZ ((xp ++ ([gI g.pr (gI od k)])).length) eZ, .slice eQ ((xm ++ [xl]).length) iK] 25 := iM
  have := cX.size; replace eB := eB.gr cX (fun k h => by injection h; omega); replace eO := eO.gb cX ω; replace eP := eP.gb cX ω; replace eC := eC.gb cX ω; replace eD := eD.gb cX ω; replace eE := eE.gr cX (fun k hk => hk.2.2.2.2.2.1); replace eF := eF.gr cX (fun k hk => hk.2.2.2.2.2.1); replace eH := eH.gr cX (fun k hk e => by have := Sx_base hk; injection e; omega)
  replace eI := eI.gr cX (fun k hk e => by have := Sx_base hk; injection e; omega); replace iL := iL.gr cX (fun k hk e => by have := Sx_base hk; injection e; omega); clear eG cX
  refine At.done rfl ?_
  refine b_n ?_
  refine t_n ?_
  refine At.start ?_
  refine At.rk mI 3 [(12, .int .i64 (k + 1))] (.w 60 (k + 1) <| .n) (fun tZ oU => ?_)
  clear mI
  refine At.dn ?_
  exact ⟨_, ω, (k + 1), (xo ++ ([gI g.ow (gI od k)]) : List Int), aL, cV, (xp ++ ([gI g.pr (gI od k)]) : List Int), bZ, eZ, (xm ++ [xl] : List (List Int)), eQ, iK, rfl, oU.sb, eB, eO, eP, eC, eD, (eE.imp (fun g _ hs => ⟨hs.2.2.1, hs.2.2.2.1, hs.2.2.2.2.1, hs.2.2.2.2.2.1, hs.2.2.2.2.2.2.1, hs.2.2.2.2.2.2.2⟩)), (eF.imp (fun g _ hs => ⟨hs.2.2.1, hs.2.2.2.1, hs.2.2.2.2.1, hs.2.2.2.2.2.1, hs.2.2.2.2.2.2.1, hs.2.2.2.2.2.2.2⟩)), iM, (eH.imp (fun g _ hs => ⟨hs.2.2.1, hs.2.2.2.1, hs.2.2.2.2.1, hs.2.2.2.2.2.1, hs.2.2.2.2.2.2⟩)), (eI.imp (fun g _ hs => ⟨hs.2.2.1, hs.2.2.2.1, hs.2.2.2.2.1, hs.2.2.2.2.2.1, hs.2.2.2.2.2.2⟩)), iL, ω, ω, (map_push hxo ω ω), (map_push hxp ω ω), (by rw [hxe]; exact map_push hxm ω ω), (gone_od1 hod2 hgo (by rw [← hxe]; exact hne)), ω, ω, ω⟩
 have uA := of_decide_eq_false gZ
 refine wp_exit ?_
 refine t_e ?_
 clear hm252
 refine t_e ?_
 refine b_e ?_
 refine t_n ?_
 clear gG; clear fG
 refine wp_seq ?_
 refine sqs ?_
 refine At.rk fH 3 [(132, .bool ((((od.length : Nat) : Int) : Int) == 0))] .n (fun uB fW => ?_)
 clear fH
 refine At.dn ?_
 refine cond_S fW (t := (((od.length : Nat) : Int) : Int) == 0) rfl (fun iN => ?_) (fun iN => ?_)
 ·have uC := eq_of_beq iN
  refine sqs ?_
  refine At.rk fW 1 [(133, .agg #[.slice none 0 0, .slice none 0 0, .slice none 0 0])] .n (fun uD mJ => ?_)
  clear fW
  refine At.store mJ (t := 25) (b := w1.heap.size) (off := 0) (v := .agg #[.slice none 0 0, .slice none 0 0, .slice none 0 0]) κ eM κ (fun uE gT dD fX mK => ?_)
  clear mJ; replace fX : Bx gT (w1.heap.size) [.slice none 0 0, .slice none 0 0, .slice none 0 0] 25 := fX; have := dD.size; replace dK := dK.gr dD (fun k h => by injection h; omega); replace eV := eV.gb dD ω; replace eW := eW.gb dD ω; replace cZ := cZ.gr dD (fun k hk e => by have := Sx_base hk; injection e; omega); replace cU := cU.gb dD ω
  replace dA := dA.gr dD (fun k hk e => by have := Sx_base hk; injection e; omega); replace dB := dB.gr dD (fun k hk e => by have := Sx_base hk; injection e; omega); have oV := eX.gr dD (fun k hk e => by have := Sx_base hk; injection e; omega); clear eX; clear eM dD
  refine At.rk mK 2 [(6, .bool false), (5, .slice none 0 0)] .n (fun uF oW => ?_)
  clear mK
  refine At.dn ?_
  clear cZ; clear cU; clear dA; clear dB; clear oV
  refine wp_ret ?_
  refine t_r ?_
  refine ret_ oW [[.slice none 0 0, .slice none 0 0, .slice none 0 0]] [.agg #[.slice none 0 0, .slice none 0 0, .slice none 0 0], .slice none 0 0, .bool false] [(gT.cell? ⟨w1.heap.size, 0, none⟩ = some (.slice none 0 0)), (gT.cell? ⟨w1.heap.size, 1, none⟩ = some (.slice none 0 0)), (gT.cell? ⟨w1.heap.size, 2, none⟩ = some (.slice none 0 0))] κ ⟨(fX.cell (i := 0) rfl), (fX.cell (i := 1) rfl), (fX.cell (i := 2) rfl), trivial⟩ ?_
  obtain ⟨e1_, e2_, e3_⟩ := (by first | exact sub_no (g := g) (I := inT g s) (.inl σ) | exact sub_no (g := g) (I := inT g s) (.inr hbad) | exact sub_empR hR hod2 hgo ω ω : subG g (inT g s) = ⟨[], [], []⟩ ∧ subO g (inT g s) = [] ∧ subB g (inT g s) = false)
  rw [e1_, e2_, e3_]
  exact ⟨none, 0, none, 0, none, 0, none, 0, rfl, dK, OwnR.nil, OwnR.nil, OwnLL.nil, OwnR.nil⟩
 have uG := ne_of_beq_false iN
 refine wp_skip ?_
 refine t_n ?_
 refine sqs ?_
 refine At.rk fW 2 [(135, .slice aB od.length aV), (134, .agg #[.slice aI xo.length bG, .slice aE xp.length bC, .slice aC xm.length aZ])] (.l (cU.cell (i := 0) rfl) <| .l (cU.cell (i := 1) rfl) <| .l (cU.cell (i := 2) rfl) <| .n) (fun uH mL => ?_)
 clear fW
 refine At.store mL (t := 25) (b := w1.heap.size) (off := 0) (v := .agg #[.slice aI xo.length bG, .slice aE xp.length bC, .slice aC xm.length aZ]) κ eM κ (fun uI gU dE fY mM => ?_)
 clear mL; replace fY : Bx gU (w1.heap.size) [.slice aI xo.length bG, .slice aE xp.length bC, .slice aC xm.length aZ] 25 := fY; have := dE.size; replace dK := dK.gr dE (fun k h => by injection h; omega); replace eV := eV.gb dE ω; replace eW := eW.gb dE ω; replace cZ := cZ.gr dE (fun k hk e => by have := Sx_base hk; injection e; omega); replace cU := cU.gb dE ω
 replace dA := dA.gr dE (fun k hk e => by have := Sx_base hk; injection e; omega); replace dB := dB.gr dE (fun k hk e => by have := Sx_base hk; injection e; omega); have oX := eX.gr dE (fun k hk e => by have := Sx_base hk; injection e; omega); clear eX; clear eM dE
 refine At.rk mM 2 [(6, .bool true), (5, .slice aB od.length aV)] .n (fun uJ oY => ?_)
 clear mM
 refine At.dn ?_
 clear cU
 refine wp_ret ?_
 refine ret_ oY [[.slice aI xo.length bG, .slice aE xp.length bC, .slice aC xm.length aZ]] [.agg #[.slice aI xo.length bG, .slice aE xp.length bC, .slice aC xm.length aZ], .slice aB od.length aV, .bool true] [(gU.cell? ⟨w1.heap.size, 0, none⟩ = some (.slice aI xo.length bG)), (gU.cell? ⟨w1.heap.size, 1, none⟩ = some (.slice aE xp.length bC)), (gU.cell? ⟨w1.heap.size, 2, none⟩ = some (.slice aC xm.length aZ))] κ ⟨(fY.cell (i := 0) rfl), (fY.cell (i := 1) rfl), (fY.cell (i := 2) rfl), trivial⟩ ?_
 obtain ⟨e1_, e2_, e3_⟩ := sub_yesR hR hod2 hgo ω ω
 rw [e1_, e2_, e3_, ← map_all hxo ω, ← map_all hxp ω, ← map_all hxm ω]
 exact ⟨aI, bG, aE, bC, aC, aZ, aB, aV, rfl, dK, (dA.imp (fun g _ hs => ⟨hs.2.1, hs.1, hs.2.2.2.1, (by have := Sx_base hs; show w.heap.size ≤ g; omega)⟩)), (dB.imp (fun g _ hs => ⟨hs.2.2.2.1, hs.1, hs.2.2.1, (by have := Sx_base hs; show w.heap.size ≤ g; omega)⟩)), (oX.imp (fun g _ hs => ⟨hs.2.2.1, hs.2.2.2.1, hs.2.1, (by have := Sx_base hs; show w.heap.size ≤ g; omega)⟩)), (cZ.imp (fun g _ hs => ⟨hs.2.2.1, hs.2.1, hs.1, (by have := Sx_base hs; show w.heap.size ≤ g; omega)⟩))⟩
end Go.Proofs.YtkkophhnliplhaaDoor
namespace Go.Proofs.YtkkophhnliplhaaDoor
open Go Go.RowKit
theorem fl_set {l : List (List Int)} {i q : Int} {v : List Int} (h0 : 0 ≤ i) (h1 : i < (l.length : Int)) (h2 : 0 ≤ q) : gL (l.set i.toNat v) q = if i = q then v else gL l q := by
  simp only [gL, List.getD_eq_getElem?_getD, List.getElem?_set]
  by_cases h : i = q
  · subst h
    rw [if_pos rfl, if_pos rfl, if_pos (by omega)]
    rfl
  · rw [if_neg h, if_neg (by omega)]
section
variable {l m : List (List Int)} {k j x : Int}
theorem fl_un {v : List Int} (h : ∀ q : Int, k < q → gL m q = gL l q) (h0 : 0 ≤ k) (h1 : k < (m.length : Int)) : ∀ q : Int, k < q → gL (m.set k.toNat v) q = gL l q := fun q hq => by
  rw [fl_set h0 h1 (by omega), if_neg (by omega)]
  exact h q hq
theorem fl_at {v : List Int} (h0 : 0 ≤ k) (h1 : k < (m.length : Int)) : gL (m.set k.toNat v) k = v := by rw [fl_set h0 h1 h0, if_pos rfl]
theorem fl_len (h : (gL m k).length = (gL l k).length) (h0 : 0 ≤ k) (h1 : k < (m.length : Int)) : (gL (m.set k.toNat ((gL m k).set j.toNat x)) k).length = (gL l k).length := by
  rw [fl_at h0 h1, List.length_set]
  exact h
end
end Go.Proofs.YtkkophhnliplhaaDoor
namespace Go.Proofs.YtkkophhnliplhaaDoor
open Go Go.RowKit
set_option maxHeartbeats 4000000 in
theorem full09_any {T : Nat → Prop} {A0 A1 A2 : Option Addr} {c0 c1 c2 : Nat} {la lb : List Int} {ll : List (List Int)} {w : World} (q0 : OwnR w (SxP (orN T w.heap.size) [obk A1, obk A2]) A0 c0 3 la) (q1 : OwnR w (SxP (orN T w.heap.size) [obk A0, obk A2]) A1 c1 3 lb) (q2 : OwnLLP w (orN T w.heap.size) [obk A0, obk A1] A2 c2 22 3 ll) (hb0 : la.length ≤ 9000000000000000000) (hb1 : lb.length ≤ 9000000000000000000) (hb2 : ll.length ≤ 9000000000000000000) (hip : ∀ i, i < ll.length → (ll.getD i []).length * 8 ≤ 140737488351232) :
    Calls Tryd.prog 20 #[.agg #[.slice A0 la.length c0, .slice A1 lb.length c1, .slice A2 ll.length c2]] w fun e w' => e = .returned (.tuple #[]) ∧ Tch T w w' := by
 refine enter_ (args := [.agg #[.slice A0 la.length c0, .slice A1 lb.length c1, .slice A2 ll.length c2]]) Tryd.func20 rfl Tryd.ntmps20 (Nat.le_of_ble_eq_true rfl) (fun act0 f0 => ?_)
 have e0 : Tch (T) w w := Tch.refl w
 refine sqs ?_
 refine At.bx f0 1 [.slice A0 la.length c0, .slice A1 lb.length c1, .slice A2 ll.length c2] 25 (fun w1 g5 bx6 act4 f3 => ?_)
 clear f0; have := g5.size; replace e0 := e0.gn g5; have ow9 := q0.grN g5; clear q0; have dA := q1.grN g5; clear q1; have dB := q2.grN g5; clear q2; have := bx6.lt; clear g5
 refine At.dn ?_
 refine wp_seq ?_
 refine sqs ?_
 refine At.rk f3 1 [(2, .int .i64 (0))] .n (fun fY dC => ?_)
 clear f3
 refine At.dn ?_
 refine wp_block ?_
 refine loop_g (fun (m_ : Nat) a_ w_ => ∃ (i : Int) (xa : List Int) (aB : Option Addr) (aH : Nat), m_ = ((xa.length : Int) - i).toNat ∧ (Frm 63 a_ [(2, .int .i64 (i)), (1, pt w.heap.size 0)]) ∧ (Tch (T) w w_) ∧ (OwnR w_ (SxP (orN T w.heap.size) [some (w.heap.size), obk (A1), obk (A2)]) aB aH 3 (xa : List Int)) ∧ (OwnR w_ (SxP (orN T w.heap.size) [some (w.heap.size), obk (aB), obk (A2)]) A1 c1 3 (lb : List Int)) ∧ (OwnLLP w_ (orN T w.heap.size) [some (w.heap.size), obk (aB), obk (A1)] A2 c2 22 3 (ll : List (List Int))) ∧ (Bx w_ (w.heap.size) [.slice aB xa.length aH, .slice A1 lb.length c1, .slice A2 ll.length c2] 25) ∧ (0 ≤ i) ∧ (i ≤ (xa.length : Int)) ∧ (xa.length = la.length)) _ ⟨0, (la : List Int), A0, c0, rfl, dC.sb, e0, ow9, dA, dB, (bx6.as (by first | rfl | (simp only [List.cons.injEq, Value.slice.injEq, true_and, and_true]; omega))), ω, (Int.natCast_nonneg _), rfl⟩ ?_
 clear dC; clear ow9; clear dA; clear dB; clear bx6; clear e0
 intro m_ fZ gA ⟨i, xa, aB, aH, hm20, dD, bF, aX, bO, bW, aM, i26, i27, i28⟩
 have := bF.size; have := aM.lt
 refine wp_seq ?_
 refine sqs ?_
 refine At.rk dD 5 [(10, .bool (decide ((i : Int) < ((xa.length : Nat) : Int))))] (.l (aM.cell (i := 0) rfl) <| .n) (fun gB bP => ?_)
 clear dD
 refine At.dn ?_
 refine cond_S bP (t := decide ((i : Int) < ((xa.length : Nat) : Int))) rfl (fun cF => ?_) (fun cF => ?_)
 ·have gC := of_decide_eq_true cF
  refine wp_skip ?_
  refine t_n ?_
  refine wp_seq ?_
  refine wp_block ?_
  refine At.start ?_
  obtain ⟨dE, dF, gD, gE, gF⟩ := aX.get (i) ω ω (sz := 1) rfl
  refine At.rk bP 4 [(16, .pointer (some (dE.add ((i : Int).toNat * 1))))] (.l (aM.cell (i := 0) rfl) <| .a i xa.length dF <| .n) (fun gG dG => ?_)
  clear bP
  refine At.act dG (storeR (α := Int) (t := 3) (i := i) (ad := dE) (v := .int .i64 (77)) (77) κ rfl rfl κ dF aX ω ω) ?_
  rintro d_ v_ eU ⟨rfl, bG, eV⟩
  refine ⟨_, rfl, fun gH dH => ?_⟩
  clear dG; have gI : ((xa).set (i : Int).toNat 77).length = (xa).length := List.length_set; have := bG.size; replace bF := bF.gr bG (fun k hk => (aX.inS k hk).2.2.2); replace bO := bO.gr bG (fun k hk => hk.2.1); have eW := bW.gr bG (fun k hk => hk.2.1); clear bW; replace aM := aM.gr bG (aX.neb (fun g hs => hs.1)); clear aX bG
  replace aM : Bx eU (w.heap.size) [.slice aB (((xa).set (i : Int).toNat 77).length) aH, .slice A1 lb.length c1, .slice A2 ll.length c2] 25 := aM.as (by first | rfl | (simp only [List.length_set]; done))
  refine At.done rfl ?_
  refine b_n ?_
  refine t_n ?_
  refine At.start ?_
  refine At.rk dH 3 [(2, .int .i64 (i + 1))] (.w 12 (i + 1) <| .n) (fun gJ eX => ?_)
  clear dH
  refine At.dn ?_
  exact ⟨_, ω, (i + 1), ((xa).set (i : Int).toNat 77 : List Int), aB, aH, rfl, eX.sb, bF, eV, bO, eW, aM, ω, (by rw [List.length_set]; omega), (by rw [List.length_set]; assumption)⟩
 have gK := of_decide_eq_false cF
 refine wp_exit ?_
 refine t_e ?_
 clear hm20
 refine t_e ?_
 refine b_e ?_
 refine t_n ?_
 refine wp_seq ?_
 refine sqs ?_
 refine At.rk bP 1 [(3, .int .i64 (0))] .n (fun gM dI => ?_)
 clear bP
 refine At.dn ?_
 refine wp_block ?_
 refine loop_g (fun (m_ : Nat) a_ w_ => ∃ (i2 : Int) (xb : List Int) (aE : Option Addr) (aN : Nat), m_ = ((xb.length : Int) - i2).toNat ∧ (Frm 63 a_ [(3, .int .i64 (i2)), (1, pt w.heap.size 0)]) ∧ (Tch (T) w w_) ∧ (OwnR w_ (SxP (orN T w.heap.size) [some (w.heap.size), obk (aE), obk (A2)]) aB aH 3 (xa : List Int)) ∧ (OwnR w_ (SxP (orN T w.heap.size) [some (w.heap.size), obk (aB), obk (A2)]) aE aN 3 (xb : List Int)) ∧ (OwnLLP w_ (orN T w.heap.size) [some (w.heap.size), obk (aB), obk (aE)] A2 c2 22 3 (ll : List (List Int))) ∧ (Bx w_ (w.heap.size) [.slice aB xa.length aH, .slice aE xb.length aN, .slice A2 ll.length c2] 25) ∧ (0 ≤ i2) ∧ (i2 ≤ (xb.length : Int)) ∧ (xb.length = lb.length)) _ ⟨0, (lb : List Int), A1, c1, rfl, dI.sb, bF, aX, bO, bW, (aM.as (by first | rfl | (simp only [List.cons.injEq, Value.slice.injEq, true_and, and_true]; omega))), ω, (Int.natCast_nonneg _), rfl⟩ ?_
 clear dI; clear aX; clear bO; clear bW; clear aM; clear bF
 intro m_ gN gO ⟨i2, xb, aE, aN, hm61, dJ, bH, bQ, aY, bX, aO, i67, i68, i69⟩
 have := bH.size; have := aO.lt
 refine wp_seq ?_
 refine sqs ?_
 refine At.rk dJ 5 [(21, .bool (decide ((i2 : Int) < ((xb.length : Nat) : Int))))] (.l (aO.cell (i := 1) rfl) <| .n) (fun gP bR => ?_)
 clear dJ
 refine At.dn ?_
 refine cond_S bR (t := decide ((i2 : Int) < ((xb.length : Nat) : Int))) rfl (fun cG => ?_) (fun cG => ?_)
 ·have gQ := of_decide_eq_true cG
  refine wp_skip ?_
  refine t_n ?_
  refine wp_seq ?_
  refine wp_block ?_
  refine At.start ?_
  obtain ⟨dK, dL, gR, gS, gT⟩ := aY.get (i2) ω ω (sz := 1) rfl
  refine At.rk bR 4 [(27, .pointer (some (dK.add ((i2 : Int).toNat * 1))))] (.l (aO.cell (i := 1) rfl) <| .a i2 xb.length dL <| .n) (fun gU dM => ?_)
  clear bR
  refine At.act dM (storeR (α := Int) (t := 3) (i := i2) (ad := dK) (v := .int .i64 (78)) (78) κ rfl rfl κ dL aY ω ω) ?_
  rintro d_ v_ eY ⟨rfl, bI, eZ⟩
  refine ⟨_, rfl, fun gV dN => ?_⟩
  clear dM; have gW : ((xb).set (i2 : Int).toNat 78).length = (xb).length := List.length_set; have := bI.size; replace bH := bH.gr bI (fun k hk => (aY.inS k hk).2.2.2); replace bQ := bQ.gr bI (fun k hk => hk.2.1); have fA := bX.gr bI (fun k hk => hk.2.2.1); clear bX; replace aO := aO.gr bI (aY.neb (fun g hs => hs.1)); clear aY bI
  replace aO : Bx eY (w.heap.size) [.slice aB xa.length aH, .slice aE (((xb).set (i2 : Int).toNat 78).length) aN, .slice A2 ll.length c2] 25 := aO.as (by first | rfl | (simp only [List.length_set]; done))
  refine At.done rfl ?_
  refine b_n ?_
  refine t_n ?_
  refine At.start ?_
  refine At.rk dN 3 [(3, .int .i64 (i2 + 1))] (.w 23 (i2 + 1) <| .n) (fun gX fB => ?_)
  clear dN
  refine At.dn ?_
  exact ⟨_, ω, (i2 + 1), ((xb).set (i2 : Int).toNat 78 : List Int), aE, aN, rfl, fB.sb, bH, bQ, eZ, fA, aO, ω, (by rw [List.length_set]; omega), (by rw [List.length_set]; assumption)⟩
 have gY := of_decide_eq_false cG
 refine wp_exit ?_
 refine t_e ?_
 clear hm61
 refine t_e ?_
 refine b_e ?_
 refine t_n ?_
 refine sqs ?_
 refine At.rk bR 1 [(4, .int .i64 (0))] .n (fun gZ dO => ?_)
 clear bR
 refine At.dn ?_
 refine wp_block ?_
 refine loop_g (fun (m_ : Nat) a_ w_ => ∃ (k : Int) (xl : List (List Int)) (bJ : Option Addr) (bY : Nat), m_ = ((xl.length : Int) - k).toNat ∧ (Frm 63 a_ [(4, .int .i64 (k)), (1, pt w.heap.size 0)]) ∧ (Tch (T) w w_) ∧ (OwnR w_ (SxP (orN T w.heap.size) [some (w.heap.size), obk (aE), obk (bJ)]) aB aH 3 (xa : List Int)) ∧ (OwnR w_ (SxP (orN T w.heap.size) [some (w.heap.size), obk (aB), obk (bJ)]) aE aN 3 (xb : List Int)) ∧ (OwnLLP w_ (orN T w.heap.size) [some (w.heap.size), obk (aB), obk (aE)] bJ bY 22 3 (xl : List (List Int))) ∧ (Bx w_ (w.heap.size) [.slice aB xa.length aH, .slice aE xb.length aN, .slice bJ xl.length bY] 25) ∧ (0 ≤ k) ∧ (k ≤ (xl.length : Int)) ∧ (xl.length = ll.length) ∧ (∀ q : Int, k ≤ q → gL xl q = gL ll q)) _ ⟨0, (ll : List (List Int)), A2, c2, rfl, dO.sb, bH, bQ, aY, bX, (aO.as (by first | rfl | (simp only [List.cons.injEq, Value.slice.injEq, true_and, and_true]; omega))), ω, (Int.natCast_nonneg _), rfl, (fun _ _ => rfl)⟩ ?_
 clear dO; clear bQ; clear aY; clear bX; clear aO; clear bH
 intro m_ hA hB ⟨k, xl, bJ, bY, hm102, dP, bZ, dQ, dR, dS, cA, i108, i109, hxl, hun⟩
 have := bZ.size; have := cA.lt
 refine wp_seq ?_
 refine sqs ?_
 refine At.rk dP 5 [(32, .bool (decide ((k : Int) < ((xl.length : Nat) : Int))))] (.l (cA.cell (i := 2) rfl) <| .n) (fun hC cB => ?_)
 clear dP
 refine At.dn ?_
 refine cond_S cB (t := decide ((k : Int) < ((xl.length : Nat) : Int))) rfl (fun cH => ?_) (fun cH => ?_)
 ·have hD := of_decide_eq_true cH
  refine wp_skip ?_
  refine t_n ?_
  refine wp_seq ?_
  refine wp_block ?_
  refine wp_seq ?_
  refine wp_seq ?_
  have hkb := hip k.toNat ω
  rw [show ll.getD k.toNat [] = gL ll k from rfl] at hkb
  refine At.start ?_
  refine At.rk cB 1 [(5, .int .i64 (0))] .n (fun hE dT => ?_)
  clear cB
  refine At.dn ?_
  refine wp_block ?_
  refine loop_g (fun (m_ : Nat) a_ w_ => ∃ (j : Int) (xm : List (List Int)) (aG : Option Addr) (aI : Nat), m_ = (((gL ll k).length : Int) - j).toNat ∧ (Frm 63 a_ [(5, .int .i64 (j)), (4, .int .i64 (k)), (1, pt w.heap.size 0)]) ∧ (Tch (T) w w_) ∧ (OwnR w_ (SxP (orN T w.heap.size) [some (w.heap.size), obk (aE), obk (aG)]) aB aH 3 (xa : List Int)) ∧ (OwnR w_ (SxP (orN T w.heap.size) [some (w.heap.size), obk (aB), obk (aG)]) aE aN 3 (xb : List Int)) ∧ (OwnLLP w_ (orN T w.heap.size) [some (w.heap.size), obk (aB), obk (aE)] aG aI 22 3 (xm : List (List Int))) ∧ (Bx w_ (w.heap.size) [.slice aB xa.length aH, .slice aE xb.length aN, .slice aG xm.length aI] 25) ∧ (0 ≤ j) ∧ (j ≤ ((gL xm k).length : Int)) ∧ (xm.length = ll.length) ∧ (∀ q : Int, k < q → gL xm q = gL ll q) ∧ ((gL xm k).length = (gL ll k).length)) _ ⟨0, (xl : List (List Int)), bJ, bY, rfl, dT.sb, bZ, dQ, dR, dS, (cA.as (by first | rfl | (simp only [List.cons.injEq, Value.slice.injEq, true_and, and_true]; omega))), ω, (Int.natCast_nonneg _), hxl, (fun q hq => hun q ω), (by rw [hun k (Int.le_refl _)])⟩ ?_
  clear dT; clear dQ; clear dR; clear dS; clear cA; clear bZ
  intro m_ hF fC ⟨j, xm, aG, aI, hm122, dU, aF, aC, aD, aZ, aA, i128, i129, hxm, hum, hkl⟩
  have := aF.size; have := aA.lt
  refine wp_seq ?_
  refine sqs ?_
  obtain ⟨hG, hH, hI, fD, hJ, fE, bA, bB⟩ := aZ.get (k) ω ω
  refine At.rk dU 8 [(42, .bool (decide ((j : Int) < (((gL xm (k)).length : Nat) : Int))))] (.l (aA.cell (i := 2) rfl) <| .a k xm.length fD <| .l fE <| .n) (fun hK bS => ?_)
  clear dU
  refine At.dn ?_
  refine cond_S bS (t := decide ((j : Int) < (((gL xm (k)).length : Nat) : Int))) rfl (fun cI => ?_) (fun cI => ?_)
  ·have hL := of_decide_eq_true cI
   refine wp_skip ?_
   refine t_n ?_
   refine wp_seq ?_
   refine wp_block ?_
   refine At.start ?_
   obtain ⟨hM, hN, hO, dV, hP, cJ, bK, fF⟩ := aZ.get (k) ω ω
   obtain ⟨dW, dX, hQ, hR, hS⟩ := bK.get (j) ω ω (sz := 1) rfl
   refine At.rk bS 7 [(51, .pointer (some (dW.add ((j : Int).toNat * 1))))] (.l (aA.cell (i := 2) rfl) <| .a k xm.length dV <| .l cJ <| .a j ((gL xm (k)).length) dX <| .n) (fun hT dY => ?_)
   clear bS
   refine At.act dY (storeIn (t := 3) (i := k) (j := j) (ad := dW) (x := 79) κ κ dX aZ dV cJ ω ω ω ω) ?_
   rintro d_ v_ fG ⟨rfl, bL, fH⟩
   refine ⟨_, rfl, fun hU dZ => ?_⟩
   clear dY; have hV : ((xm).set (k : Int).toNat ((gL xm (k)).set (j : Int).toNat 79)).length = (xm).length := List.length_set; clear bB; clear bA; have := bL.size; replace aF := aF.gr bL (fun k hk => (bK.inS k hk).2.2.2.2); replace aC := aC.gr2 bL (fun k hk e => (bK.inS k e).2.2.1 hk); replace aD := aD.gr2 bL (fun k hk e => (bK.inS k e).2.2.2.1 hk)
   replace aA := aA.gr bL (bK.neb (fun g hs => hs.2.1)); clear bK fF aZ cJ bL
   replace aA : Bx fG (w.heap.size) [.slice aB xa.length aH, .slice aE xb.length aN, .slice aG (((xm).set (k : Int).toNat ((gL xm (k)).set (j : Int).toNat 79)).length) aI] 25 := aA.as (by first | rfl | (simp only [List.length_set]; done))
   refine At.done rfl ?_
   refine b_n ?_
   refine t_n ?_
   refine At.start ?_
   refine At.rk dZ 3 [(5, .int .i64 (j + 1))] (.w 44 (j + 1) <| .n) (fun hW fI => ?_)
   clear dZ
   refine At.dn ?_
   exact ⟨_, ω, (j + 1), ((xm).set (k : Int).toNat ((gL xm (k)).set (j : Int).toNat 79) : List (List Int)), aG, aI, rfl, fI.sb, aF, aC, aD, fH, aA, ω, (by rw [fl_len hkl ω ω]; omega), (by rw [List.length_set]; exact hxm), (fl_un hum ω ω), (fl_len hkl ω ω)⟩
  have hX := of_decide_eq_false cI
  refine wp_exit ?_
  refine t_e ?_
  clear hm122
  refine t_e ?_
  refine b_e ?_
  refine t_n ?_
  obtain ⟨bT, hY, hZ, cK, iA, iB, bM, bN⟩ := aZ.get (k) ω ω
  obtain ⟨eA, bC⟩ : ∃ c : List (Addr × Value), c = [(⟨w.heap.size, 2, none⟩, (.slice aG xm.length aI)), (⟨w.heap.size, 2, none⟩, (.slice aG xm.length aI))] := ⟨_, rfl⟩
  have eB : HoldsC eA fC := by rw [bC]; exact ⟨(aA.cell (i := 2) rfl), (aA.cell (i := 2) rfl), trivial⟩
  refine AtH.start eA 12 _ κ rfl rfl (fun aT eC => ?_)
  have aJ := gr_drew eC; have cC := eB.gr aJ; have := aJ.size; replace aF := aF.gn aJ; replace aC := aC.gn aJ; replace aD := aD.gn aJ; have aP := aZ.gn aJ; clear aZ; replace aA := aA.gn aJ; replace bB := bB.gn aJ; replace bA := bA.gn aJ; replace bN := bN.gn aJ; replace bM := bM.gn aJ; clear aJ eC eB
  refine AtH.rk cC bS [0, 1, 2, 3, 4, 5, 6] 5 [(58, .pointer (some (bT.add ((k : Int).toNat * 1)))), (54, .int .i64 (k)), (53, .slice aG xm.length aI)] (.l (CsC_at bC 0 rfl) <| .l (CsC_at bC 1 rfl) <| .a k xm.length cK <| .n) (fun iC cD => ?_)
  clear bS
  refine AtH.all [7, 8] 4 κ (by simp) ⟨?_, ?_, trivial⟩
  ·clear bB
   clear bA; clear bN; clear bM
   obtain ⟨cL, cM, cN, cO, iD, eD, aQ, aK⟩ := aP.get (k) ω ω
   rw [show cL = bT from Option.some.inj (cO.symm.trans cK)] at eD
   refine OneH.seq cD [[.ld (.slice cM ((gL xm (k)).length) cN)]] [(59, .slice cM ((gL xm (k)).length) cN)] aT [(aT.cell? (bT.add ((k : Int).toNat * 1)) = some (.slice cM ((gL xm (k)).length) cN))] _ rfl κ κ ⟨eD, trivial⟩ (fun iE fJ fK eE => ?_)
   obtain rfl : aT = fJ := fK.symm
   clear cD
   refine ⟨cC, ?_⟩
   refine AtH.all [8] 3 κ (by simp) ⟨?_, trivial⟩
   refine OneH.seq eE [] [(60, .slice (some ⟨aT.heap.size, 0, none⟩) 2 2)] (aT.alloc (.cells #[.int .i64 (80), .int .i64 (81)] 3 (0, 0))) [] _ rfl κ κ trivial (fun iF fL cP eF => ?_)
   clear eE; have aR := gr_alloc cP; have eG := cC.gr aR
   refine ⟨eG, ?_⟩
   have := aR.size; replace aF := aF.gn aR; replace aC := aC.grN aR; replace aD := aD.grN aR; replace aP := aP.grN aR; replace aA := aA.gn aR; replace aK := aK.grN aR; replace aQ := aQ.grN aR; have cQ : Bx fL (aT.heap.size) [.int .i64 (80), .int .i64 (81)] 3 := Bx.new cP; have := cQ.lt; clear aR cP
   refine AtH.all [9] 2 κ (by simp) ⟨?_, trivial⟩
   have fM : ((gL xm (k)) ++ ([80, 81])).length = (gL xm (k)).length + ([80, 81] : List Int).length := List.length_append
   simp only [List.length_cons, List.length_nil] at fM
   refine OneH.act eF _ rfl (appendR (α := Int) (t := 22) (d := 61) (n := (gL xm (k)).length) (m := 2) (cc := 2) (xs := gL xm (k)) (ys := [80, 81]) (bytes := 8) (by first | rfl | omega | (simp; done) | (simp; omega)) (by first | rfl | omega | (simp; done) | (simp; omega)) κ rfl κ aQ (Bx.srcR (l := ([80, 81] : List Int)) cQ rfl) (by simp only [List.length_cons, List.length_nil]; omega) (by simp only [List.length_cons, List.length_nil]; omega)) ?_
   rintro d_ v_ fN ⟨rfl, fO, iG, bU⟩
   obtain rfl := bU.val
   have aU := bU.gr; have cR := eG.grO aU (by rw [bC]; exact ⟨(aQ.neb (fun g hs => hs.2.2.1)), (aQ.neb (fun g hs => hs.2.2.1)), trivial⟩)
   refine ⟨_, rfl, fun iH eH => ⟨cR, ?_⟩⟩
   clear eF; clear cQ
   have eI := bU.own (SxP (orN T w.heap.size) [obk (aG), some (w.heap.size), obk (aB), obk (aE)]) (fun g _ hs => ⟨hs.2.1, hs.2.2.1, hs.2.2.2.1, hs.2.2.2.2.1, hs.2.2.2.2.2⟩) ⟨aP.ne_new, (fun e => by injection e; omega), aC.ne_new, aD.ne_new, (.inr ω)⟩
   have := aU.size; replace aF := aF.gr aU (fun k hk => (aQ.inS k hk).2.2.2.2.2); replace aC := aC.gr2 aU (fun k hk e => (aQ.inS k e).2.2.2.1 hk); replace aD := aD.gr2 aU (fun k hk e => (aQ.inS k e).2.2.2.2.1 hk); clear aP; replace aA := aA.gr aU (aQ.neb (fun g hs => hs.2.2.1)); replace aK := aK.moved aU bU.at_; clear aQ aU bU
   refine AtH.rk cR eH [10] 1 [(62, .pointer (some (cL.add ((k : Int).toNat * 1))))] (.a k xm.length cO <| .n) (fun iI eJ => ?_)
   clear eH
   refine AtH.all [11] 0 κ (by simp) ⟨?_, trivial⟩
   replace aK : HoleLLP fN (orN T w.heap.size) [some (w.heap.size), obk (aB), obk (aE)] aG aI 22 3 (xm : List (List Int)) (k : Int).toNat fO := aK.imp (fun g _ hs => ⟨hs.2.1, hs.2.2.1, hs.2.2.2.1, hs.2.2.2.2⟩)
   refine OneH.act eJ _ rfl (storeLL (t := 22) (i := k) (ad := cL) (xs := (gL xm (k)) ++ ([80, 81])) κ κ cO aK eI (by first | rfl | omega | (simp; done) | (simp; omega)) ω ω) ?_
   rintro d_ v_ iJ ⟨rfl, bD, fP⟩
   have eK := cR.grO bD (by rw [bC]; exact ⟨((HoleLLP.row aK).neb (fun g hs => hs.1)), ((HoleLLP.row aK).neb (fun g hs => hs.1)), trivial⟩)
   refine ⟨_, rfl, fun iK eL => ⟨eK, ?_⟩⟩
   clear eJ; have iL : ((xm).set (k : Int).toNat ((gL xm (k)) ++ ([80, 81]))).length = (xm).length := List.length_set; have := bD.size; replace aF := aF.gr bD (fun k hk => ((HoleLLP.row aK).inS k hk).2.2.2); replace aC := aC.gr bD (fun k hk => hk.2.2.2.1); replace aD := aD.gr bD (fun k hk => hk.2.2.2.1); replace aA := aA.gr bD ((HoleLLP.row aK).neb (fun g hs => hs.1)); clear aK eI bD
   refine AtH.done κ ?_
   clear eK
   refine b_n ?_
   refine t_n ?_
   refine At.start ?_
   refine At.rk eL 3 [(4, .int .i64 (k + 1))] (.w 34 (k + 1) <| .n) (fun iM fQ => ?_)
   clear eL
   refine At.dn ?_
   exact ⟨_, ω, (k + 1), ((xm).set (k : Int).toNat ((gL xm (k)) ++ ([80, 81])) : List (List Int)), aG, aI, rfl, fQ.sb, aF, (aC.imp (fun g _ hs => ⟨hs.2.1, hs.2.2.1, hs.2.2.2.1, hs.2.2.2.2⟩)), (aD.imp (fun g _ hs => ⟨hs.2.1, hs.2.2.1, hs.2.2.2.1, hs.2.2.2.2⟩)), fP, (aA.as (by first | rfl | (simp only [List.length_set]; done) | (simp; done) | (simp only [List.cons.injEq, Value.slice.injEq, true_and, and_true]; omega))), ω, (by rw [List.length_set]; omega), (by rw [List.length_set]; exact hxm), (fun q hq => fl_un hum ω ω q ω)⟩
  refine OneH.seq cD [] [(60, .slice (some ⟨aT.heap.size, 0, none⟩) 2 2)] (aT.alloc (.cells #[.int .i64 (80), .int .i64 (81)] 3 (0, 0))) [] _ rfl κ κ trivial (fun iN cE cS eM => ?_)
  clear cD; have aL := gr_alloc cS; have cT := cC.gr aL
  refine ⟨cT, ?_⟩
  have := aL.size; replace aF := aF.gn aL; replace aC := aC.grN aL; replace aD := aD.grN aL; replace aP := aP.grN aL; replace aA := aA.gn aL; replace bB := bB.grN aL; replace bA := bA.grN aL; replace bN := bN.grN aL; replace bM := bM.grN aL; have cU : Bx cE (aT.heap.size) [.int .i64 (80), .int .i64 (81)] 3 := Bx.new cS; have := cU.lt; clear aL cS
  refine AtH.all [7] 3 κ (by simp) ⟨?_, trivial⟩
  clear bB; clear bA; clear bN; clear bM
  obtain ⟨cV, cW, cX, cY, iO, eN, aV, aS⟩ := aP.get (k) ω ω
  rw [show cV = bT from Option.some.inj (cY.symm.trans cK)] at eN
  refine OneH.seq eM [[.ld (.slice cW ((gL xm (k)).length) cX)]] [(59, .slice cW ((gL xm (k)).length) cX)] cE [(cE.cell? (bT.add ((k : Int).toNat * 1)) = some (.slice cW ((gL xm (k)).length) cX))] _ rfl κ κ ⟨eN, trivial⟩ (fun iP fR fS eO => ?_)
  obtain rfl : cE = fR := fS.symm
  clear eM
  refine ⟨cT, ?_⟩
  refine AtH.all [9] 2 κ (by simp) ⟨?_, trivial⟩
  have fT : ((gL xm (k)) ++ ([80, 81])).length = (gL xm (k)).length + ([80, 81] : List Int).length := List.length_append
  simp only [List.length_cons, List.length_nil] at fT
  refine OneH.act eO _ rfl (appendR (α := Int) (t := 22) (d := 61) (n := (gL xm (k)).length) (m := 2) (cc := 2) (xs := gL xm (k)) (ys := [80, 81]) (bytes := 8) (by first | rfl | omega | (simp; done) | (simp; omega)) (by first | rfl | omega | (simp; done) | (simp; omega)) κ rfl κ aV (Bx.srcR (l := ([80, 81] : List Int)) cU rfl) (by simp only [List.length_cons, List.length_nil]; omega) (by simp only [List.length_cons, List.length_nil]; omega)) ?_
  rintro d_ v_ fU ⟨rfl, fV, iQ, bV⟩
  obtain rfl := bV.val
  have aW := bV.gr; have cZ := cT.grO aW (by rw [bC]; exact ⟨(aV.neb (fun g hs => hs.2.2.1)), (aV.neb (fun g hs => hs.2.2.1)), trivial⟩)
  refine ⟨_, rfl, fun iR eP => ⟨cZ, ?_⟩⟩
  clear eO; clear cU
  have eQ := bV.own (SxP (orN T w.heap.size) [obk (aG), some (w.heap.size), obk (aB), obk (aE)]) (fun g _ hs => ⟨hs.1, hs.2.2.1, hs.2.2.2.1, hs.2.2.2.2.1, hs.2.2.2.2.2⟩) ⟨aP.ne_new, (fun e => by injection e; omega), aC.ne_new, aD.ne_new, (.inr ω)⟩
  have := aW.size; replace aF := aF.gr aW (fun k hk => (aV.inS k hk).2.2.2.2.2); replace aC := aC.gr2 aW (fun k hk e => (aV.inS k e).2.2.2.1 hk); replace aD := aD.gr2 aW (fun k hk e => (aV.inS k e).2.2.2.2.1 hk); clear aP; replace aA := aA.gr aW (aV.neb (fun g hs => hs.2.2.1)); replace aS := aS.moved aW bV.at_; clear aV aW bV
  refine AtH.rk cZ eP [10] 1 [(62, .pointer (some (cV.add ((k : Int).toNat * 1))))] (.a k xm.length cY <| .n) (fun iS eR => ?_)
  clear eP
  refine AtH.all [11] 0 κ (by simp) ⟨?_, trivial⟩
  replace aS : HoleLLP fU (orN T w.heap.size) [some (w.heap.size), obk (aB), obk (aE)] aG aI 22 3 (xm : List (List Int)) (k : Int).toNat fV := aS.imp (fun g _ hs => ⟨hs.2.1, hs.2.2.1, hs.2.2.2.1, hs.2.2.2.2⟩)
  refine OneH.act eR _ rfl (storeLL (t := 22) (i := k) (ad := cV) (xs := (gL xm (k)) ++ ([80, 81])) κ κ cY aS eQ (by first | rfl | omega | (simp; done) | (simp; omega)) ω ω) ?_
  rintro d_ v_ iT ⟨rfl, bE, fW⟩
  have eS := cZ.grO bE (by rw [bC]; exact ⟨((HoleLLP.row aS).neb (fun g hs => hs.1)), ((HoleLLP.row aS).neb (fun g hs => hs.1)), trivial⟩)
  refine ⟨_, rfl, fun iU eT => ⟨eS, ?_⟩⟩
  clear eR; have iV : ((xm).set (k : Int).toNat ((gL xm (k)) ++ ([80, 81]))).length = (xm).length := List.length_set; have := bE.size; replace aF := aF.gr bE (fun k hk => ((HoleLLP.row aS).inS k hk).2.2.2); replace aC := aC.gr bE (fun k hk => hk.2.2.2.1); replace aD := aD.gr bE (fun k hk => hk.2.2.2.1); replace aA := aA.gr bE ((HoleLLP.row aS).neb (fun g hs => hs.1)); clear aS eQ bE
  refine AtH.done κ ?_
  clear eS
  refine b_n ?_
  refine t_n ?_
  refine At.start ?_
  refine At.rk eT 3 [(4, .int .i64 (k + 1))] (.w 34 (k + 1) <| .n) (fun iW fX => ?_)
  clear eT
  refine At.dn ?_
  exact ⟨_, ω, (k + 1), ((xm).set (k : Int).toNat ((gL xm (k)) ++ ([80, 81])) : List (List Int)), aG, aI, rfl, fX.sb, aF, (aC.imp (fun g _ hs => ⟨hs.2.1, hs.2.2.1, hs.2.2.2.1, hs.2.2.2.2⟩)), (aD.imp (fun g _ hs => ⟨hs.2.1, hs.2.2.1, hs.2.2.2.1, hs.2.2.2.2⟩)), fW, (aA.as (by first | rfl | (simp only [List.length_set]; done) | (simp; done) | (simp only [List.cons.injEq, Value.slice.injEq, true_and, and_true]; omega))), ω, (by rw [List.length_set]; omega), (by rw [List.length_set]; exact hxm), (fun q hq => fl_un hum ω ω q ω)⟩
 have iX := of_decide_eq_false cH
 refine wp_exit ?_
 refine t_e ?_
 clear hm102
 refine t_e ?_
 refine b_e ?_
 refine end_ cB [] [] [] κ trivial ?_
 exact ⟨rfl, bZ⟩
end Go.Proofs.YtkkophhnliplhaaDoor
