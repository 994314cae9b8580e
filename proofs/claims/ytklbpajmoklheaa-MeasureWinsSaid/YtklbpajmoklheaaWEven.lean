/-
  A walk of a Go function, printed by a program of this repo. Conditions: what the theorems name.
-/
import Derived.Test.YtklbpajmoklheaaPureEven
import Derived.Test.YtklbpajmoklheaaWBest
import Derived.Test.YtklbpajmoklheaaWIs
import Derived.Test.YtklbpajmoklheaaFs
set_option linter.unusedVariables false
set_option linter.unusedSimpArgs false
namespace Go.Proofs.Ytklbpajmoklheaa
open Go Go.RowKit

set_option maxHeartbeats 4000000 in
theorem evenM_any {Ag0 Ag1 Ag2 : Option Addr} {cg0 cg1 cg2 : Nat} {g : GameL} {As : Option Addr} {cs : Nat} {ls : List Tup} {w : World} (rg : RdG w 0 w.heap.size Ag0 Ag1 Ag2 cg0 cg1 cg2 g) (rs : RdR w 0 w.heap.size As ls) (hok : okL ls) :
    Calls Try.prog 30 #[.agg #[.slice Ag0 g.ow.length cg0, .slice Ag1 g.pr.length cg1, .slice Ag2 g.mv.length cg2], .slice As ls.length cs] w fun e w' => ∃ A1 c1 A2 c2 a b, e = .returned (.tuple #[.slice A1 a.length c1, .slice A2 b.length c2]) ∧ Ext w w' ∧ OwnR w' (Sx w.heap.size [obk A2]) A1 c1 3 (a : List Int) ∧ OwnR w' (Sx w.heap.size [obk A1]) A2 c2 3 (b : List Int) ∧ EvenT g ls a b := by
 have hlg0 := rg.ow.len; have hlg1 := rg.pr.len; have hlg2 := rg.mv.len; have hkg0 := rg.k0; have hkg1 := rg.k1; have hkg2 := rg.k2; have hls := rs.len
 simp only [Enc.bytes] at hls
 refine enter_ (args := [.agg #[.slice Ag0 g.ow.length cg0, .slice Ag1 g.pr.length cg1, .slice Ag2 g.mv.length cg2], .slice As ls.length cs]) Try.func30 rfl Try.ntmps30 (Nat.le_of_ble_eq_true rfl) (fun act0 f0 => ?_)
 have e0 : Ext w w := Ext.refl w
 refine wp_seq ?_
 refine At.start ?_
 refine At.seq f0 1 [[]] [(2, .pointer (some ⟨w.heap.size, 0, none⟩))] (w.alloc (.cells #[.slice Ag0 g.ow.length cg0, .slice Ag1 g.pr.length cg1, .slice Ag2 g.mv.length cg2] 25 (0, 0))) [] (by kernel_rfl) trivial (fun act4 w1 hw2 f3 => ?_)
 clear f0; have g5 := gr_alloc hw2; have := g5.size; replace e0 := e0.gn g5; have r8 := rg.gn g5; clear rg; have r9 := rs.gn g5; clear rs; have aQ : Bx w1 (w.heap.size) [.slice Ag0 g.ow.length cg0, .slice Ag1 g.pr.length cg1, .slice Ag2 g.mv.length cg2] 25 := Bx.new hw2; have := aQ.lt; clear g5 hw2
 refine At.rd f3 2 [[], []] [(5, .slice none 0 0), (4, .slice none 0 0)] [] (by kernel_rfl) trivial (fun gH cV => ?_)
 clear f3
 refine At.done rfl ?_
 refine t_n ?_
 have cW := cV.sub (r := [(5, .slice none 0 0), (4, .slice none 0 0), (2, .pointer (some ⟨w.heap.size, 0, none⟩)), (1, .slice As ls.length cs)]) ⟨rfl, rfl, rfl, rfl, trivial⟩
 clear cV
 refine wp_seq ?_
 refine wp_seq ?_
 refine At.start ?_
 refine At.rd cW 2 [[.ld (.slice Ag0 g.ow.length cg0), .ld (.slice Ag1 g.pr.length cg1), .ld (.slice Ag2 g.mv.length cg2)], []] [(13, .slice As ls.length cs), (12, .agg #[.slice Ag0 g.ow.length cg0, .slice Ag1 g.pr.length cg1, .slice Ag2 g.mv.length cg2])] [(w1.cell? ⟨w.heap.size, 0, none⟩ = some (.slice Ag0 g.ow.length cg0)), (w1.cell? ⟨w.heap.size, 1, none⟩ = some (.slice Ag1 g.pr.length cg1)), (w1.cell? ⟨w.heap.size, 2, none⟩ = some (.slice Ag2 g.mv.length cg2))] (by kernel_rfl) ⟨(aQ.cell (i := 0) rfl), (aQ.cell (i := 1) rfl), (aQ.cell (i := 2) rfl), trivial⟩ (fun gJ cX => ?_)
 clear cW
 refine At.call cX 45 #[.agg #[.slice Ag0 g.ow.length cg0, .slice Ag1 g.pr.length cg1, .slice Ag2 g.mv.length cg2], .slice As ls.length cs] (some 14) (by kernel_rfl) (rightM_any (ls := ls) (r8.wide (Nat.zero_le _) (by omega)) (r9.wide (Nat.zero_le _) (by omega))) ?_
 rintro e_ cG ⟨rfl, he⟩
 refine ⟨_, rfl, _, rfl, fun gK cY => ?_⟩
 clear cX; have bM := gr_ext he; have := bM.size; replace e0 := e0.gn bM; replace r8 := r8.gn bM; replace r9 := r9.gn bM; replace aQ := aQ.gn bM; clear bM he
 refine At.rd cY 1 [[]] [(15, .bool (!(isR g && decide ((ls).length = g.ow.length))))] [] (by kernel_rfl) trivial (fun gM cZ => ?_)
 clear cY
 refine At.done rfl ?_
 refine t_n ?_
 have bT := cZ.sub (r := [(15, .bool (!(isR g && decide ((ls).length = g.ow.length)))), (5, .slice none 0 0), (4, .slice none 0 0), (2, .pointer (some ⟨w.heap.size, 0, none⟩)), (1, .slice As ls.length cs)]) ⟨rfl, rfl, rfl, rfl, rfl, trivial⟩
 clear cZ
 refine cond_S bT (t := !(isR g && decide ((ls).length = g.ow.length))) rfl (fun bH => ?_) (fun bH => ?_)
 ·have gN : (isR g && decide ((ls).length = g.ow.length)) = false := by first | exact Eq.mp (Bool.not_eq_true' _) bH | exact Eq.mp (Bool.not_eq_false' _) bH | simpa using bH
  refine wp_seq ?_
  refine At.start ?_
  refine At.rd bT 2 [[], []] [(5, .slice none 0 0), (4, .slice none 0 0)] [] (by kernel_rfl) trivial (fun gO dA => ?_)
  clear bT
  refine At.done rfl ?_
  refine t_n ?_
  have fJ := dA.sub (r := [(5, .slice none 0 0), (4, .slice none 0 0)]) ⟨rfl, rfl, trivial⟩; clear dA
  refine wp_ret ?_
  refine t_r ?_
  refine ret_ fJ [] [.slice none 0 0, .slice none 0 0] [] (by kernel_rfl) trivial ?_
  exact ⟨none, 0, none, 0, [], [], rfl, e0, OwnR.nil, OwnR.nil, .inl ⟨by assumption, rfl, rfl⟩⟩
 have gP : (isR g && decide ((ls).length = g.ow.length)) = true := by first | exact Eq.mp (Bool.not_eq_true' _) bH | exact Eq.mp (Bool.not_eq_false' _) bH | simpa using bH
 refine wp_skip ?_
 refine t_n ?_
 have dB := bT.sub (r := [(5, .slice none 0 0), (4, .slice none 0 0), (2, .pointer (some ⟨w.heap.size, 0, none⟩)), (1, .slice As ls.length cs)]) ⟨rfl, rfl, rfl, rfl, trivial⟩
 clear bT
 refine wp_seq ?_
 have hRR : (isR g && decide (ls.length = g.ow.length)) = true := by assumption
 have hG := isR_ok (right_yes2 hRR); have hln := right_len hRR; have hn1 := hG.n1; have hpl := hG.pl; have hml := hG.ml
 refine At.start ?_
 refine At.rd dB 1 [[.ld (.slice Ag0 g.ow.length cg0), .ld (.slice Ag1 g.pr.length cg1), .ld (.slice Ag2 g.mv.length cg2)]] [(16, .agg #[.slice Ag0 g.ow.length cg0, .slice Ag1 g.pr.length cg1, .slice Ag2 g.mv.length cg2])] [(cG.cell? ⟨w.heap.size, 0, none⟩ = some (.slice Ag0 g.ow.length cg0)), (cG.cell? ⟨w.heap.size, 1, none⟩ = some (.slice Ag1 g.pr.length cg1)), (cG.cell? ⟨w.heap.size, 2, none⟩ = some (.slice Ag2 g.mv.length cg2))] (by kernel_rfl) ⟨(aQ.cell (i := 0) rfl), (aQ.cell (i := 1) rfl), (aQ.cell (i := 2) rfl), trivial⟩ (fun gQ dC => ?_)
 clear dB
 refine At.call dC 46 #[.agg #[.slice Ag0 g.ow.length cg0, .slice Ag1 g.pr.length cg1, .slice Ag2 g.mv.length cg2]] (some 17) (by kernel_rfl) (counts_any (r8.wide (Nat.zero_le _) (by omega))) ?_
 rintro e_ aD ⟨rfl, he⟩
 refine ⟨_, rfl, _, rfl, fun gR dD => ?_⟩
 clear dC; have bN := gr_ext he; have := bN.size; replace e0 := e0.gn bN; replace r8 := r8.gn bN; replace r9 := r9.gn bN; replace aQ := aQ.gn bN; clear bN he
 refine At.seq dD 1 [[]] [(6, .pointer (some ⟨aD.heap.size, 0, none⟩))] (aD.alloc (.cells #[.int .i64 (0), .int .i64 (0), .int .i64 (0), .int .i64 (0)] 38 (0, 0))) [] (by kernel_rfl) trivial (fun gS fK cH dE => ?_)
 clear dD; have bO := gr_alloc cH; have := bO.size; replace e0 := e0.gn bO; replace r8 := r8.gn bO; replace r9 := r9.gn bO; replace aQ := aQ.gn bO; have cI : Bx fK (aD.heap.size) [.int .i64 (0), .int .i64 (0), .int .i64 (0), .int .i64 (0)] 38 := Bx.new cH; have := cI.lt; clear bO cH
 refine At.store dE (t := 38) (b := aD.heap.size) (off := 0) (v := .agg #[.int .i64 (cnt g.pr 1), .int .i64 (cnt g.pr 3), .int .i64 (cnt g.pr 5), .int .i64 (cnt g.pr 7)]) (by kernel_rfl) cI (by kernel_rfl) (fun gU aI bP cB dF => ?_)
 clear dE; replace cB : Bx aI (aD.heap.size) [.int .i64 (cnt g.pr 1), .int .i64 (cnt g.pr 3), .int .i64 (cnt g.pr 5), .int .i64 (cnt g.pr 7)] 38 := cB; have := bP.size; replace e0 := e0.gr bP (fun k h => by injection h; omega); replace r8 := r8.gb bP (by omega); replace r9 := r9.gb bP (by omega); replace aQ := aQ.gb bP (by omega); clear cI bP
 refine At.done rfl ?_
 refine t_n ?_
 have dG := dF.sub (r := [(6, .pointer (some ⟨aD.heap.size, 0, none⟩)), (5, .slice none 0 0), (4, .slice none 0 0), (2, .pointer (some ⟨w.heap.size, 0, none⟩)), (1, .slice As ls.length cs)]) ⟨rfl, rfl, rfl, rfl, rfl, trivial⟩
 clear dF
 refine wp_seq ?_
 refine At.start ?_
 refine At.rd dG 2 [[], []] [(8, .slice none 0 0), (7, .slice none 0 0)] [] (by kernel_rfl) trivial (fun gV dH => ?_)
 clear dG
 refine At.done rfl ?_
 refine t_n ?_
 refine wp_seq ?_
 refine wp_seq ?_
 refine At.start ?_
 refine At.rd dH 3 [[], [], []] [(20, .int .i64 (0)), (19, .int .i64 (((ls.length : Nat) : Int))), (18, .slice As ls.length cs)] [] (by kernel_rfl) trivial (fun gW dI => ?_)
 clear dH
 refine At.done rfl ?_
 refine t_n ?_
 refine wp_block ?_
 have cC : OwnR aI (Sx (aI.heap.size) []) none 0 3 ([] : List Int) := OwnR.nil; have dJ : OwnR aI (Sx (aI.heap.size) [obk (none)]) none 0 3 ([] : List Int) := OwnR.nil; replace cC : OwnR aI (Sx (aI.heap.size) [obk none]) none 0 3 ([] : List Int) := cC.imp (fun g _ hs => ⟨by simp [obk], hs⟩)
 have dK := dI.as 8 (.slice none 0 0) (.slice none (([] : List Int).length) 0) rfl (slice_len (by first | rfl | omega | (simp; done) | (simp; omega))); clear dI; have dL := dK.as 7 (.slice none 0 0) (.slice none (([] : List Int).length) 0) rfl (slice_len (by first | rfl | omega | (simp; done) | (simp; omega))); clear dK
 have dM := dL.sub (r := [(8, .slice none (([] : List Int).length) 0), (7, .slice none (([] : List Int).length) 0), (20, .int .i64 (0)), (19, .int .i64 (((ls.length : Nat) : Int))), (18, .slice As ls.length cs), (6, .pointer (some ⟨aD.heap.size, 0, none⟩)), (5, .slice none 0 0), (4, .slice none 0 0), (2, .pointer (some ⟨w.heap.size, 0, none⟩)), (1, .slice As ls.length cs)]) ⟨rfl, rfl, rfl, rfl, rfl, rfl, rfl, rfl, rfl, rfl, trivial⟩
 refine loop_g (fun (m_ : Nat) a_ w_ => ∃ (i : Int) (xa : List Int) (aJ : Option Addr) (aO : Nat) (xb : List Int) (aH : Option Addr) (aK : Nat), m_ = ((ls.length : Int) - i).toNat ∧ (Frm 53 a_ [(8, .slice aH xb.length aK), (7, .slice aJ xa.length aO), (20, .int .i64 (i)), (19, .int .i64 (((ls.length : Nat) : Int))), (18, .slice As ls.length cs), (6, .pointer (some ⟨aD.heap.size, 0, none⟩)), (5, .slice none 0 0), (4, .slice none 0 0), (2, .pointer (some ⟨w.heap.size, 0, none⟩)), (1, .slice As ls.length cs)]) ∧ (Ext w w_) ∧ (RdG w_ 0 w.heap.size Ag0 Ag1 Ag2 cg0 cg1 cg2 g) ∧ (RdR w_ 0 w.heap.size As (ls : List Tup)) ∧ (Bx w_ (w.heap.size) [.slice Ag0 g.ow.length cg0, .slice Ag1 g.pr.length cg1, .slice Ag2 g.mv.length cg2] 25) ∧ (Bx w_ (aD.heap.size) [.int .i64 (cnt g.pr 1), .int .i64 (cnt g.pr 3), .int .i64 (cnt g.pr 5), .int .i64 (cnt g.pr 7)] 38) ∧ (OwnR w_ (Sx (aI.heap.size) [obk (aH)]) aJ aO 3 (xa : List Int)) ∧ (OwnR w_ (Sx (aI.heap.size) [obk (aJ)]) aH aK 3 (xb : List Int)) ∧ (0 ≤ i) ∧ (i ≤ (ls.length : Int)) ∧ (xa = evA ls i.toNat) ∧ (xb = evB g ls i.toNat) ∧ (aI.heap.size ≤ w_.heap.size)) _ ⟨0, ([] : List Int), none, 0, ([] : List Int), none, 0, rfl, dM, e0, r8, r9, aQ, cB, cC, dJ, (by omega), (by omega), rfl, rfl, (by omega)⟩ ?_
 clear dM dL; clear r8; clear r9; clear aQ; clear cB; clear cC; clear dJ; clear e0
 intro m_ gX aL ⟨i, xa, aJ, aO, xb, aH, aK, hm86, dN, aE, aF, aG, aB, aC, aM, aA, i94, i95, hxa, hxb, i96⟩
 have := aE.size; have := aB.lt; have := aC.lt; have hal := evA_len ls i.toNat; have hbl := evB_len g ls i.toNat
 rw [← hxa] at hal
 rw [← hxb] at hbl
 refine wp_seq ?_
 refine At.start ?_
 refine At.rd dN 1 [[]] [(21, .bool (decide ((i : Int) < ((ls.length : Nat) : Int))))] [] (by kernel_rfl) trivial (fun gY bU => ?_)
 clear dN
 refine At.done rfl ?_
 refine t_n ?_
 refine wp_seq ?_
 refine cond_S bU (t := decide ((i : Int) < ((ls.length : Nat) : Int))) rfl (fun cJ => ?_) (fun cJ => ?_)
 ·have gZ := of_decide_eq_true cJ
  refine wp_skip ?_
  refine t_n ?_
  have dO := bU.sub (r := [(8, .slice aH xb.length aK), (7, .slice aJ xa.length aO), (20, .int .i64 (i)), (19, .int .i64 (((ls.length : Nat) : Int))), (18, .slice As ls.length cs), (6, .pointer (some ⟨aD.heap.size, 0, none⟩)), (5, .slice none 0 0), (4, .slice none 0 0), (2, .pointer (some ⟨w.heap.size, 0, none⟩)), (1, .slice As ls.length cs)]) ⟨rfl, rfl, rfl, rfl, rfl, rfl, rfl, rfl, rfl, rfl, trivial⟩
  clear bU
  refine wp_seq ?_
  refine wp_block ?_
  refine wp_seq ?_
  refine At.start ?_
  obtain ⟨bG, fL, hA, fM, cD⟩ := aG.get (i) (by omega) (by omega) (sz := 5) rfl
  refine At.rd dO 3 [[], [.ad bG], [.ld (.bool ((gT ls i).top)), .ld (.int .i64 ((gT ls i).c0)), .ld (.int .i64 ((gT ls i).c1)), .ld (.int .i64 ((gT ls i).c2)), .ld (.int .i64 ((gT ls i).c3))]] [(24, tupV (gT ls i)), (23, .pointer (some (bG.add ((i : Int).toNat * 5)))), (22, .int .i64 (i))] [(As = some bG), (0 ≤ (i : Int)), ((i : Int) < (ls.length : Nat)), (aL.cell? (bG.add ((i : Int).toNat * 5)) = some (.bool ((gT ls i).top))), (aL.cell? ((bG.add ((i : Int).toNat * 5)).add 1) = some (.int .i64 ((gT ls i).c0))), (aL.cell? ((bG.add ((i : Int).toNat * 5)).add 2) = some (.int .i64 ((gT ls i).c1))), (aL.cell? ((bG.add ((i : Int).toNat * 5)).add 3) = some (.int .i64 ((gT ls i).c2))), (aL.cell? ((bG.add ((i : Int).toNat * 5)).add 4) = some (.int .i64 ((gT ls i).c3)))] (by kernel_rfl) ⟨fL, (by omega), (by omega), fM, (cD 1 _ rfl), (cD 2 _ rfl), (cD 3 _ rfl), (cD 4 _ rfl), trivial⟩ (fun hB dP => ?_)
  clear dO
  refine At.seq dP 1 [[]] [(10, .pointer (some ⟨aL.heap.size, 0, none⟩))] (aL.alloc (.cells #[.bool false, .int .i64 (0), .int .i64 (0), .int .i64 (0), .int .i64 (0)] 41 (0, 0))) [] (by kernel_rfl) trivial (fun hC fN cK dQ => ?_)
  clear dP; have bA := gr_alloc cK; have := bA.size; replace aE := aE.gn bA; replace aF := aF.gn bA; replace aG := aG.gn bA; replace aB := aB.gn bA; replace aC := aC.gn bA; replace aM := aM.grN bA; replace aA := aA.grN bA; have cL : Bx fN (aL.heap.size) [.bool false, .int .i64 (0), .int .i64 (0), .int .i64 (0), .int .i64 (0)] 41 := Bx.new cK; have := cL.lt; clear bA cK
  refine At.rd dQ 1 [[]] [(9, .int .i64 (i))] [] (by kernel_rfl) trivial (fun hD dR => ?_)
  clear dQ
  refine At.store dR (t := 41) (b := aL.heap.size) (off := 0) (v := tupV (gT ls i)) (by kernel_rfl) cL (by kernel_rfl) (fun hE aU bB aN dS => ?_)
  clear dR; replace aN : Bx aU (aL.heap.size) (tupC (gT ls i)) 41 := aN; have := bB.size; replace aE := aE.gr bB (fun k h => by injection h; omega); replace aF := aF.gb bB (by omega); replace aG := aG.gb bB (by omega); replace aB := aB.gb bB (by omega); replace aC := aC.gb bB (by omega); replace aM := aM.gr bB (fun k hk => hk.1); replace aA := aA.gr bB (fun k hk => hk.1); clear cL bB
  refine At.done rfl ?_
  refine t_n ?_
  have dT := dS.sub (r := [(9, .int .i64 (i)), (10, .pointer (some ⟨aL.heap.size, 0, none⟩)), (8, .slice aH xb.length aK), (7, .slice aJ xa.length aO), (20, .int .i64 (i)), (19, .int .i64 (((ls.length : Nat) : Int))), (18, .slice As ls.length cs), (6, .pointer (some ⟨aD.heap.size, 0, none⟩)), (5, .slice none 0 0), (4, .slice none 0 0), (2, .pointer (some ⟨w.heap.size, 0, none⟩)), (1, .slice As ls.length cs)]) ⟨rfl, rfl, rfl, rfl, rfl, rfl, rfl, rfl, rfl, rfl, rfl, rfl, trivial⟩
  clear dS
  refine wp_seq ?_
  refine At.start ?_
  refine At.rd dT 1 [[]] [(11, .int .i64 (-1))] [] (by kernel_rfl) trivial (fun hF dU => ?_)
  clear dT
  refine At.done rfl ?_
  refine t_n ?_
  refine wp_seq ?_
  refine wp_seq ?_
  refine At.start ?_
  refine At.rd dU 3 [[], [.ld (.bool ((gT ls i).top))], []] [(27, .bool (!((gT ls i).top))), (26, .bool ((gT ls i).top)), (25, .pointer (some ⟨aL.heap.size, 0, none⟩))] [(aU.cell? ⟨aL.heap.size, 0, none⟩ = some (.bool ((gT ls i).top)))] (by kernel_rfl) ⟨(aN.cell (i := 0) rfl), trivial⟩ (fun hH dV => ?_)
  clear dU
  refine At.done rfl ?_
  refine t_n ?_
  have bV := dV.sub (r := [(27, .bool (!((gT ls i).top))), (11, .int .i64 (-1)), (9, .int .i64 (i)), (8, .slice aH xb.length aK), (7, .slice aJ xa.length aO), (20, .int .i64 (i)), (19, .int .i64 (((ls.length : Nat) : Int))), (18, .slice As ls.length cs), (6, .pointer (some ⟨aD.heap.size, 0, none⟩)), (5, .slice none 0 0), (4, .slice none 0 0), (2, .pointer (some ⟨w.heap.size, 0, none⟩)), (1, .slice As ls.length cs)]) ⟨rfl, rfl, rfl, rfl, rfl, rfl, rfl, rfl, rfl, rfl, rfl, rfl, rfl, trivial⟩
  clear dV
  refine cond_S bV (t := !((gT ls i).top)) rfl (fun bI => ?_) (fun bI => ?_)
  ·have hI : ((gT ls i).top) = false := by first | exact Eq.mp (Bool.not_eq_true' _) bI | exact Eq.mp (Bool.not_eq_false' _) bI | simpa using bI
   refine wp_seq ?_
   refine At.start ?_
   refine At.rd bV 2 [[], []] [(29, .int .i64 (i)), (28, .slice aJ xa.length aO)] [] (by kernel_rfl) trivial (fun hJ dW => ?_)
   clear bV
   refine At.seq dW 1 [[]] [(30, .slice (some ⟨aU.heap.size, 0, none⟩) 1 1)] (aU.alloc (.cells #[.int .i64 (i)] 3 (0, 0))) [] (by kernel_rfl) trivial (fun hK dX cM dY => ?_)
   clear dW; have aV := gr_alloc cM; have := aV.size; replace aE := aE.gn aV; replace aF := aF.gn aV; replace aG := aG.gn aV; replace aB := aB.gn aV; replace aC := aC.gn aV; replace aM := aM.grN aV; replace aA := aA.grN aV; replace aN := aN.gn aV; have cN : Bx dX (aU.heap.size) [.int .i64 (i)] 3 := Bx.new cM; have := cN.lt; clear aV cM
   have fO : (xa ++ ([i])).length = (xa).length + ([i] : List Int).length := List.length_append
   simp only [List.length_cons, List.length_nil] at fO
   refine At.act dY (appendR (α := Int) (t := 22) (d := 31) (n := xa.length) (m := 1) (cc := 1) (xs := xa) (ys := [i]) (bytes := 8) (by first | rfl | omega | (simp; done) | (simp; omega)) (by first | rfl | omega | (simp; done) | (simp; omega)) (by kernel_rfl) rfl (by kernel_rfl) aM (Bx.srcR (l := ([i] : List Int)) cN rfl) (by simp only [List.length_cons, List.length_nil]; omega) (by simp only [List.length_cons, List.length_nil]; omega)) ?_
   rintro d_ v_ aS ⟨rfl, aP, aR, bW⟩
   obtain rfl := bW.val
   have bC := bW.gr
   refine ⟨_, rfl, fun hL dZ => ?_⟩
   clear dY; clear cN
   have aT := bW.own (Sx (aI.heap.size) [some (aL.heap.size), obk (aH)]) (fun g _ hs => ⟨hs.2.1, hs.2.2.1, hs.2.2.2⟩) ⟨(fun e => by injection e; omega), aA.ne_new, (show aI.heap.size ≤ dX.heap.size by omega)⟩
   have := bC.size; replace aE := aE.gr bC (fun k hk => by have := aM.ge k hk; omega); replace aF := aF.gr bC (fun k hk => by have := aM.ge k hk; omega); replace aG := aG.gr bC (fun k hk => by have := aM.ge k hk; omega); replace aB := aB.gr bC (fun e => by have := aM.ge _ e; omega); replace aC := aC.gr bC (fun e => by have := aM.ge _ e; omega)
   replace aA : OwnR aS (Sx (aI.heap.size) [some (aU.heap.size), some (aL.heap.size), obk (aP)]) aH aK 3 (xb : List Int) := aA.grA bC (fun k hk => hk.2.2.1) (fun k hk hs => ⟨hs.1, hs.2.1, own_repl bW.at_ hs.2.2.1 hk, hs.2.2.2⟩)
   replace aN := aN.gr bC (aM.neb (fun g hs => hs.2.1)); clear aM bC bW
   refine At.rd dZ 1 [[]] [(7, .slice aP ((xa ++ ([i])).length) aR)] [] (by kernel_rfl) trivial (fun hM eA => ?_)
   clear dZ
   refine At.done rfl ?_
   refine t_n ?_
   have eB := eA.sub (r := [(7, .slice aP ((xa ++ ([i])).length) aR), (11, .int .i64 (-1)), (9, .int .i64 (i)), (8, .slice aH xb.length aK), (20, .int .i64 (i)), (19, .int .i64 (((ls.length : Nat) : Int))), (18, .slice As ls.length cs), (6, .pointer (some ⟨aD.heap.size, 0, none⟩)), (5, .slice none 0 0), (4, .slice none 0 0), (2, .pointer (some ⟨w.heap.size, 0, none⟩)), (1, .slice As ls.length cs)]) ⟨rfl, rfl, rfl, rfl, rfl, rfl, rfl, rfl, rfl, rfl, rfl, rfl, trivial⟩
   clear eA
   refine wp_seq ?_
   refine At.start ?_
   obtain ⟨cE, fP, _, _, fQ⟩ := RdI.get aF.ow (i) (by omega) (by omega)
   refine At.rd eB 6 [[], [.ld (.slice Ag0 g.ow.length cg0)], [], [.ad cE], [.ld (.int .i64 (gI g.ow (i)))], []] [(37, .bool ((gI g.ow (i) : Int) == 0)), (36, .int .i64 (gI g.ow (i))), (35, .pointer (some (cE.add ((i : Int).toNat * 1)))), (34, .int .i64 (i)), (33, .slice Ag0 g.ow.length cg0), (32, .pointer (some ⟨w.heap.size, 0, none⟩))] [(aS.cell? ⟨w.heap.size, 0, none⟩ = some (.slice Ag0 g.ow.length cg0)), (Ag0 = some cE), (0 ≤ (i : Int)), ((i : Int) < (g.ow.length : Nat)), (aS.cell? (cE.add ((i : Int).toNat * 1)) = some (.int .i64 (gI g.ow (i))))] (by kernel_rfl) ⟨(aB.cell (i := 0) rfl), fP, (by omega), (by omega), fQ, trivial⟩ (fun hN eC => ?_)
   clear eB
   refine At.done rfl ?_
   refine t_n ?_
   have bX := eC.sub (r := [(37, .bool ((gI g.ow (i) : Int) == 0)), (7, .slice aP ((xa ++ ([i])).length) aR), (11, .int .i64 (-1)), (9, .int .i64 (i)), (8, .slice aH xb.length aK), (20, .int .i64 (i)), (19, .int .i64 (((ls.length : Nat) : Int))), (18, .slice As ls.length cs), (6, .pointer (some ⟨aD.heap.size, 0, none⟩)), (5, .slice none 0 0), (4, .slice none 0 0), (2, .pointer (some ⟨w.heap.size, 0, none⟩)), (1, .slice As ls.length cs)]) ⟨rfl, rfl, rfl, rfl, rfl, rfl, rfl, rfl, rfl, rfl, rfl, rfl, rfl, trivial⟩
   clear eC
   refine cond_S bX (t := (gI g.ow (i) : Int) == 0) rfl (fun cO => ?_) (fun cO => ?_)
   ·have hO := eq_of_beq cO
    refine At.start ?_
    refine At.rd bX 4 [[.ld (.slice Ag0 g.ow.length cg0), .ld (.slice Ag1 g.pr.length cg1), .ld (.slice Ag2 g.mv.length cg2)], [.ld (.int .i64 (cnt g.pr 1)), .ld (.int .i64 (cnt g.pr 3)), .ld (.int .i64 (cnt g.pr 5)), .ld (.int .i64 (cnt g.pr 7))], [], []] [(42, .int .i64 (i)), (41, .slice As ls.length cs), (40, .agg #[.int .i64 (cnt g.pr 1), .int .i64 (cnt g.pr 3), .int .i64 (cnt g.pr 5), .int .i64 (cnt g.pr 7)]), (39, .agg #[.slice Ag0 g.ow.length cg0, .slice Ag1 g.pr.length cg1, .slice Ag2 g.mv.length cg2])] [(aS.cell? ⟨w.heap.size, 0, none⟩ = some (.slice Ag0 g.ow.length cg0)), (aS.cell? ⟨w.heap.size, 1, none⟩ = some (.slice Ag1 g.pr.length cg1)), (aS.cell? ⟨w.heap.size, 2, none⟩ = some (.slice Ag2 g.mv.length cg2)), (aS.cell? ⟨aD.heap.size, 0, none⟩ = some (.int .i64 (cnt g.pr 1))), (aS.cell? ⟨aD.heap.size, 1, none⟩ = some (.int .i64 (cnt g.pr 3))), (aS.cell? ⟨aD.heap.size, 2, none⟩ = some (.int .i64 (cnt g.pr 5))), (aS.cell? ⟨aD.heap.size, 3, none⟩ = some (.int .i64 (cnt g.pr 7)))] (by kernel_rfl) ⟨(aB.cell (i := 0) rfl), (aB.cell (i := 1) rfl), (aB.cell (i := 2) rfl), (aC.cell (i := 0) rfl), (aC.cell (i := 1) rfl), (aC.cell (i := 2) rfl), (aC.cell (i := 3) rfl), trivial⟩ (fun hP eD => ?_)
    clear bX
    refine At.call eD 47 #[.agg #[.slice Ag0 g.ow.length cg0, .slice Ag1 g.pr.length cg1, .slice Ag2 g.mv.length cg2], .agg #[.int .i64 (cnt g.pr 1), .int .i64 (cnt g.pr 3), .int .i64 (cnt g.pr 5), .int .i64 (cnt g.pr 7)], .slice As ls.length cs, .int .i64 (i)] (some 43) (by kernel_rfl) (best_any (ls := ls) (at_ := i) (aF.wide (Nat.zero_le _) (by omega)) (aG.wide (Nat.zero_le _) (by omega)) hG (by omega) (by assumption) (by omega) (by omega)) ?_
    rintro e_ cF ⟨rfl, he⟩
    refine ⟨_, rfl, _, rfl, fun hQ eE => ?_⟩
    clear eD; have aW := gr_ext he; have := aW.size; replace aE := aE.gn aW; replace aF := aF.gn aW; replace aG := aG.gn aW; replace aB := aB.gn aW; replace aC := aC.gn aW; replace aT := aT.gn aW; replace aA := aA.gn aW; replace aN := aN.gn aW; clear aW he
    refine At.rd eE 4 [[], [], [], []] [(11, .int .i64 ((bestB (upG g ls i) (gI g.ow i) (gL g.mv i)).2)), (45, .int .i64 ((bestB (upG g ls i) (gI g.ow i) (gL g.mv i)).2)), (44, tupV ((bestB (upG g ls i) (gI g.ow i) (gL g.mv i)).1)), (38, .tuple #[tupV ((bestB (upG g ls i) (gI g.ow i) (gL g.mv i)).1), .int .i64 ((bestB (upG g ls i) (gI g.ow i) (gL g.mv i)).2)])] [] (by kernel_rfl) trivial (fun hR eF => ?_)
    clear eE
    refine At.done rfl ?_
    refine t_n ?_
    have eG := eF.sub (r := [(11, .int .i64 ((bestB (upG g ls i) (gI g.ow i) (gL g.mv i)).2)), (7, .slice aP ((xa ++ ([i])).length) aR), (8, .slice aH xb.length aK), (20, .int .i64 (i)), (19, .int .i64 (((ls.length : Nat) : Int))), (18, .slice As ls.length cs), (6, .pointer (some ⟨aD.heap.size, 0, none⟩)), (5, .slice none 0 0), (4, .slice none 0 0), (2, .pointer (some ⟨w.heap.size, 0, none⟩)), (1, .slice As ls.length cs)]) ⟨rfl, rfl, rfl, rfl, rfl, rfl, rfl, rfl, rfl, rfl, rfl, trivial⟩
    clear eF
    refine At.start ?_
    refine At.rd eG 2 [[], []] [(47, .int .i64 ((bestB (upG g ls i) (gI g.ow i) (gL g.mv i)).2)), (46, .slice aH xb.length aK)] [] (by kernel_rfl) trivial (fun hS eH => ?_)
    clear eG
    refine At.seq eH 1 [[]] [(48, .slice (some ⟨cF.heap.size, 0, none⟩) 1 1)] (cF.alloc (.cells #[.int .i64 ((bestB (upG g ls i) (gI g.ow i) (gL g.mv i)).2)] 3 (0, 0))) [] (by kernel_rfl) trivial (fun hT eI cP eJ => ?_)
    clear eH; have aX := gr_alloc cP; have := aX.size; replace aE := aE.gn aX; replace aF := aF.gn aX; replace aG := aG.gn aX; replace aB := aB.gn aX; replace aC := aC.gn aX; replace aT := aT.grN aX; replace aA := aA.grN aX; replace aN := aN.gn aX; have cQ : Bx eI (cF.heap.size) [.int .i64 ((bestB (upG g ls i) (gI g.ow i) (gL g.mv i)).2)] 3 := Bx.new cP; have := cQ.lt; clear aX cP
    have fR : (xb ++ ([(bestB (upG g ls i) (gI g.ow i) (gL g.mv i)).2])).length = (xb).length + ([(bestB (upG g ls i) (gI g.ow i) (gL g.mv i)).2] : List Int).length := List.length_append
    simp only [List.length_cons, List.length_nil] at fR
    refine At.act eJ (appendR (α := Int) (t := 22) (d := 49) (n := xb.length) (m := 1) (cc := 1) (xs := xb) (ys := [(bestB (upG g ls i) (gI g.ow i) (gL g.mv i)).2]) (bytes := 8) (by first | rfl | omega | (simp; done) | (simp; omega)) (by first | rfl | omega | (simp; done) | (simp; omega)) (by kernel_rfl) rfl (by kernel_rfl) aA (Bx.srcR (l := ([(bestB (upG g ls i) (gI g.ow i) (gL g.mv i)).2] : List Int)) cQ rfl) (by simp only [List.length_cons, List.length_nil]; omega) (by simp only [List.length_cons, List.length_nil]; omega)) ?_
    rintro d_ v_ fS ⟨rfl, bJ, bQ, bY⟩
    obtain rfl := bY.val
    have bD := bY.gr
    refine ⟨_, rfl, fun hU eK => ?_⟩
    clear eJ; clear cQ
    have fT := bY.own (Sx (aI.heap.size) [some (aL.heap.size), obk (aP)]) (fun g _ hs => ⟨hs.2.2.1, hs.2.2.2.1, hs.2.2.2.2⟩) ⟨(fun e => by injection e; omega), aT.ne_new, (show aI.heap.size ≤ eI.heap.size by omega)⟩
    have := bD.size; replace aE := aE.gr bD (fun k hk => by have := aA.ge k hk; omega); replace aF := aF.gr bD (fun k hk => by have := aA.ge k hk; omega); replace aG := aG.gr bD (fun k hk => by have := aA.ge k hk; omega); replace aB := aB.gr bD (fun e => by have := aA.ge _ e; omega); replace aC := aC.gr bD (fun e => by have := aA.ge _ e; omega)
    replace aT : OwnR fS (Sx (aI.heap.size) [some (cF.heap.size), some (aL.heap.size), obk (bJ)]) aP aR 3 (xa ++ ([i]) : List Int) := aT.grA bD (fun k hk => hk.2.2.1) (fun k hk hs => ⟨hs.1, hs.2.1, own_repl bY.at_ hs.2.2.1 hk, hs.2.2.2⟩)
    replace aN := aN.gr bD (aA.neb (fun g hs => hs.2.2.1)); clear aA bD bY
    refine At.rd eK 1 [[]] [(8, .slice bJ ((xb ++ ([(bestB (upG g ls i) (gI g.ow i) (gL g.mv i)).2])).length) bQ)] [] (by kernel_rfl) trivial (fun hV eL => ?_)
    clear eK
    refine At.done rfl ?_
    refine b_n ?_
    refine t_n ?_
    have eM := eL.sub (r := [(8, .slice bJ ((xb ++ ([(bestB (upG g ls i) (gI g.ow i) (gL g.mv i)).2])).length) bQ), (7, .slice aP ((xa ++ ([i])).length) aR), (20, .int .i64 (i)), (19, .int .i64 (((ls.length : Nat) : Int))), (18, .slice As ls.length cs), (6, .pointer (some ⟨aD.heap.size, 0, none⟩)), (5, .slice none 0 0), (4, .slice none 0 0), (2, .pointer (some ⟨w.heap.size, 0, none⟩)), (1, .slice As ls.length cs)]) ⟨rfl, rfl, rfl, rfl, rfl, rfl, rfl, rfl, rfl, rfl, trivial⟩
    clear eL
    refine At.start ?_
    refine At.rd eM 2 [[.as_ (.int .i64 (i + 1))], []] [(20, .int .i64 (i + 1)), (50, .int .i64 (i + 1))] [((.int .i64 (IntKind.i64.wrap (i + 1)) : Value) = .int .i64 (i + 1))] (by kernel_rfl) ⟨(w64 (by omega) (by omega)), trivial⟩ (fun hW eN => ?_)
    clear eM
    refine At.done rfl ?_
    refine t_n ?_
    have eO := eN.as 8 (.slice bJ ((xb ++ ([(bestB (upG g ls i) (gI g.ow i) (gL g.mv i)).2])).length) bQ) (.slice bJ ((xb ++ ([(bestB (upG g ls i) (gI g.ow i) (gL g.mv i)).2]) : List Int).length) bQ) rfl (slice_len (by first | rfl | omega | (simp; done) | (simp; omega)))
    clear eN
    have fU := eO.as 7 (.slice aP ((xa ++ ([i])).length) aR) (.slice aP ((xa ++ ([i]) : List Int).length) aR) rfl (slice_len (by first | rfl | omega | (simp; done) | (simp; omega)))
    clear eO
    have fV := fU.sub (r := [(8, .slice bJ ((xb ++ ([(bestB (upG g ls i) (gI g.ow i) (gL g.mv i)).2]) : List Int).length) bQ), (7, .slice aP ((xa ++ ([i]) : List Int).length) aR), (20, .int .i64 (i + 1)), (19, .int .i64 (((ls.length : Nat) : Int))), (18, .slice As ls.length cs), (6, .pointer (some ⟨aD.heap.size, 0, none⟩)), (5, .slice none 0 0), (4, .slice none 0 0), (2, .pointer (some ⟨w.heap.size, 0, none⟩)), (1, .slice As ls.length cs)]) ⟨rfl, rfl, rfl, rfl, rfl, rfl, rfl, rfl, rfl, rfl, trivial⟩
    exact ⟨_, (by omega), (i + 1), (xa ++ ([i]) : List Int), aP, aR, (xb ++ ([(bestB (upG g ls i) (gI g.ow i) (gL g.mv i)).2]) : List Int), bJ, bQ, rfl, fV, aE, aF, aG, aB, aC, (aT.imp (fun g _ hs => ⟨hs.2.2.1, hs.2.2.2⟩)), (fT.imp (fun g _ hs => ⟨hs.2.1, hs.2.2⟩)), (by omega), (by omega), (evA_yes hxa (by omega) (by assumption)), (evB_next hxb (by omega) (by first | exact mvT_top (by assumption) | exact mvT_own (by assumption) (by omega) | exact mvT_oth (by assumption) (by omega))), (by omega)⟩
   have hX := ne_of_beq_false cO
   refine wp_skip ?_
   refine t_n ?_
   have eP := bX.sub (r := [(7, .slice aP ((xa ++ ([i])).length) aR), (11, .int .i64 (-1)), (8, .slice aH xb.length aK), (20, .int .i64 (i)), (19, .int .i64 (((ls.length : Nat) : Int))), (18, .slice As ls.length cs), (6, .pointer (some ⟨aD.heap.size, 0, none⟩)), (5, .slice none 0 0), (4, .slice none 0 0), (2, .pointer (some ⟨w.heap.size, 0, none⟩)), (1, .slice As ls.length cs)]) ⟨rfl, rfl, rfl, rfl, rfl, rfl, rfl, rfl, rfl, rfl, rfl, trivial⟩
   clear bX
   refine At.start ?_
   refine At.rd eP 2 [[], []] [(47, .int .i64 (-1)), (46, .slice aH xb.length aK)] [] (by kernel_rfl) trivial (fun hY eQ => ?_)
   clear eP
   refine At.seq eQ 1 [[]] [(48, .slice (some ⟨aS.heap.size, 0, none⟩) 1 1)] (aS.alloc (.cells #[.int .i64 (-1)] 3 (0, 0))) [] (by kernel_rfl) trivial (fun hZ eR cR eS => ?_)
   clear eQ; have aY := gr_alloc cR; have := aY.size; replace aE := aE.gn aY; replace aF := aF.gn aY; replace aG := aG.gn aY; replace aB := aB.gn aY; replace aC := aC.gn aY; replace aT := aT.grN aY; replace aA := aA.grN aY; replace aN := aN.gn aY; have cS : Bx eR (aS.heap.size) [.int .i64 (-1)] 3 := Bx.new cR; have := cS.lt; clear aY cR
   have fW : (xb ++ ([-1])).length = (xb).length + ([-1] : List Int).length := List.length_append
   simp only [List.length_cons, List.length_nil] at fW
   refine At.act eS (appendR (α := Int) (t := 22) (d := 49) (n := xb.length) (m := 1) (cc := 1) (xs := xb) (ys := [-1]) (bytes := 8) (by first | rfl | omega | (simp; done) | (simp; omega)) (by first | rfl | omega | (simp; done) | (simp; omega)) (by kernel_rfl) rfl (by kernel_rfl) aA (Bx.srcR (l := ([-1] : List Int)) cS rfl) (by simp only [List.length_cons, List.length_nil]; omega) (by simp only [List.length_cons, List.length_nil]; omega)) ?_
   rintro d_ v_ fX ⟨rfl, bK, bR, bZ⟩
   obtain rfl := bZ.val
   have bE := bZ.gr
   refine ⟨_, rfl, fun iA eT => ?_⟩
   clear eS; clear cS
   have fY := bZ.own (Sx (aI.heap.size) [some (aL.heap.size), obk (aP)]) (fun g _ hs => ⟨hs.2.2.1, hs.2.2.2.1, hs.2.2.2.2⟩) ⟨(fun e => by injection e; omega), aT.ne_new, (show aI.heap.size ≤ eR.heap.size by omega)⟩
   have := bE.size; replace aE := aE.gr bE (fun k hk => by have := aA.ge k hk; omega); replace aF := aF.gr bE (fun k hk => by have := aA.ge k hk; omega); replace aG := aG.gr bE (fun k hk => by have := aA.ge k hk; omega); replace aB := aB.gr bE (fun e => by have := aA.ge _ e; omega); replace aC := aC.gr bE (fun e => by have := aA.ge _ e; omega)
   replace aT : OwnR fX (Sx (aI.heap.size) [some (aS.heap.size), some (aL.heap.size), obk (bK)]) aP aR 3 (xa ++ ([i]) : List Int) := aT.grA bE (fun k hk => hk.2.2.1) (fun k hk hs => ⟨hs.1, hs.2.1, own_repl bZ.at_ hs.2.2.1 hk, hs.2.2.2⟩)
   replace aN := aN.gr bE (aA.neb (fun g hs => hs.2.2.1)); clear aA bE bZ
   refine At.rd eT 1 [[]] [(8, .slice bK ((xb ++ ([-1])).length) bR)] [] (by kernel_rfl) trivial (fun iB eU => ?_)
   clear eT
   refine At.done rfl ?_
   refine b_n ?_
   refine t_n ?_
   have eV := eU.sub (r := [(8, .slice bK ((xb ++ ([-1])).length) bR), (7, .slice aP ((xa ++ ([i])).length) aR), (20, .int .i64 (i)), (19, .int .i64 (((ls.length : Nat) : Int))), (18, .slice As ls.length cs), (6, .pointer (some ⟨aD.heap.size, 0, none⟩)), (5, .slice none 0 0), (4, .slice none 0 0), (2, .pointer (some ⟨w.heap.size, 0, none⟩)), (1, .slice As ls.length cs)]) ⟨rfl, rfl, rfl, rfl, rfl, rfl, rfl, rfl, rfl, rfl, trivial⟩
   clear eU
   refine At.start ?_
   refine At.rd eV 2 [[.as_ (.int .i64 (i + 1))], []] [(20, .int .i64 (i + 1)), (50, .int .i64 (i + 1))] [((.int .i64 (IntKind.i64.wrap (i + 1)) : Value) = .int .i64 (i + 1))] (by kernel_rfl) ⟨(w64 (by omega) (by omega)), trivial⟩ (fun iC eW => ?_)
   clear eV
   refine At.done rfl ?_
   refine t_n ?_
   have eX := eW.as 8 (.slice bK ((xb ++ ([-1])).length) bR) (.slice bK ((xb ++ ([-1]) : List Int).length) bR) rfl (slice_len (by first | rfl | omega | (simp; done) | (simp; omega)))
   clear eW
   have fZ := eX.as 7 (.slice aP ((xa ++ ([i])).length) aR) (.slice aP ((xa ++ ([i]) : List Int).length) aR) rfl (slice_len (by first | rfl | omega | (simp; done) | (simp; omega)))
   clear eX
   have gA := fZ.sub (r := [(8, .slice bK ((xb ++ ([-1]) : List Int).length) bR), (7, .slice aP ((xa ++ ([i]) : List Int).length) aR), (20, .int .i64 (i + 1)), (19, .int .i64 (((ls.length : Nat) : Int))), (18, .slice As ls.length cs), (6, .pointer (some ⟨aD.heap.size, 0, none⟩)), (5, .slice none 0 0), (4, .slice none 0 0), (2, .pointer (some ⟨w.heap.size, 0, none⟩)), (1, .slice As ls.length cs)]) ⟨rfl, rfl, rfl, rfl, rfl, rfl, rfl, rfl, rfl, rfl, trivial⟩
   exact ⟨_, (by omega), (i + 1), (xa ++ ([i]) : List Int), aP, aR, (xb ++ ([-1]) : List Int), bK, bR, rfl, gA, aE, aF, aG, aB, aC, (aT.imp (fun g _ hs => ⟨hs.2.2.1, hs.2.2.2⟩)), (fY.imp (fun g _ hs => ⟨hs.2.1, hs.2.2⟩)), (by omega), (by omega), (evA_yes hxa (by omega) (by assumption)), (evB_next hxb (by omega) (by first | exact mvT_top (by assumption) | exact mvT_own (by assumption) (by omega) | exact mvT_oth (by assumption) (by omega))), (by omega)⟩
  have iD : ((gT ls i).top) = true := by first | exact Eq.mp (Bool.not_eq_true' _) bI | exact Eq.mp (Bool.not_eq_false' _) bI | simpa using bI
  refine wp_skip ?_
  refine t_n ?_
  have eY := bV.sub (r := [(11, .int .i64 (-1)), (8, .slice aH xb.length aK), (7, .slice aJ xa.length aO), (20, .int .i64 (i)), (19, .int .i64 (((ls.length : Nat) : Int))), (18, .slice As ls.length cs), (6, .pointer (some ⟨aD.heap.size, 0, none⟩)), (5, .slice none 0 0), (4, .slice none 0 0), (2, .pointer (some ⟨w.heap.size, 0, none⟩)), (1, .slice As ls.length cs)]) ⟨rfl, rfl, rfl, rfl, rfl, rfl, rfl, rfl, rfl, rfl, rfl, trivial⟩
  clear bV
  refine At.start ?_
  refine At.rd eY 2 [[], []] [(47, .int .i64 (-1)), (46, .slice aH xb.length aK)] [] (by kernel_rfl) trivial (fun iE eZ => ?_)
  clear eY
  refine At.seq eZ 1 [[]] [(48, .slice (some ⟨aU.heap.size, 0, none⟩) 1 1)] (aU.alloc (.cells #[.int .i64 (-1)] 3 (0, 0))) [] (by kernel_rfl) trivial (fun iF fA cT fB => ?_)
  clear eZ; have aZ := gr_alloc cT; have := aZ.size; replace aE := aE.gn aZ; replace aF := aF.gn aZ; replace aG := aG.gn aZ; replace aB := aB.gn aZ; replace aC := aC.gn aZ; replace aM := aM.grN aZ; replace aA := aA.grN aZ; replace aN := aN.gn aZ; have cU : Bx fA (aU.heap.size) [.int .i64 (-1)] 3 := Bx.new cT; have := cU.lt; clear aZ cT
  have gB : (xb ++ ([-1])).length = (xb).length + ([-1] : List Int).length := List.length_append
  simp only [List.length_cons, List.length_nil] at gB
  refine At.act fB (appendR (α := Int) (t := 22) (d := 49) (n := xb.length) (m := 1) (cc := 1) (xs := xb) (ys := [-1]) (bytes := 8) (by first | rfl | omega | (simp; done) | (simp; omega)) (by first | rfl | omega | (simp; done) | (simp; omega)) (by kernel_rfl) rfl (by kernel_rfl) aA (Bx.srcR (l := ([-1] : List Int)) cU rfl) (by simp only [List.length_cons, List.length_nil]; omega) (by simp only [List.length_cons, List.length_nil]; omega)) ?_
  rintro d_ v_ gC ⟨rfl, bL, bS, cA⟩
  obtain rfl := cA.val
  have bF := cA.gr
  refine ⟨_, rfl, fun iG fC => ?_⟩
  clear fB; clear cU
  have gD := cA.own (Sx (aI.heap.size) [some (aL.heap.size), obk (aJ)]) (fun g _ hs => ⟨hs.2.1, hs.2.2.1, hs.2.2.2⟩) ⟨(fun e => by injection e; omega), aM.ne_new, (show aI.heap.size ≤ fA.heap.size by omega)⟩
  have := bF.size; replace aE := aE.gr bF (fun k hk => by have := aA.ge k hk; omega); replace aF := aF.gr bF (fun k hk => by have := aA.ge k hk; omega); replace aG := aG.gr bF (fun k hk => by have := aA.ge k hk; omega); replace aB := aB.gr bF (fun e => by have := aA.ge _ e; omega); replace aC := aC.gr bF (fun e => by have := aA.ge _ e; omega)
  replace aM : OwnR gC (Sx (aI.heap.size) [some (aU.heap.size), some (aL.heap.size), obk (bL)]) aJ aO 3 (xa : List Int) := aM.grA bF (fun k hk => hk.2.2.1) (fun k hk hs => ⟨hs.1, hs.2.1, own_repl cA.at_ hs.2.2.1 hk, hs.2.2.2⟩)
  replace aN := aN.gr bF (aA.neb (fun g hs => hs.2.1)); clear aA bF cA
  refine At.rd fC 1 [[]] [(8, .slice bL ((xb ++ ([-1])).length) bS)] [] (by kernel_rfl) trivial (fun iH fD => ?_)
  clear fC
  refine At.done rfl ?_
  refine b_n ?_
  refine t_n ?_
  have fE := fD.sub (r := [(8, .slice bL ((xb ++ ([-1])).length) bS), (7, .slice aJ xa.length aO), (20, .int .i64 (i)), (19, .int .i64 (((ls.length : Nat) : Int))), (18, .slice As ls.length cs), (6, .pointer (some ⟨aD.heap.size, 0, none⟩)), (5, .slice none 0 0), (4, .slice none 0 0), (2, .pointer (some ⟨w.heap.size, 0, none⟩)), (1, .slice As ls.length cs)]) ⟨rfl, rfl, rfl, rfl, rfl, rfl, rfl, rfl, rfl, rfl, trivial⟩
  clear fD
  refine At.start ?_
  refine At.rd fE 2 [[.as_ (.int .i64 (i + 1))], []] [(20, .int .i64 (i + 1)), (50, .int .i64 (i + 1))] [((.int .i64 (IntKind.i64.wrap (i + 1)) : Value) = .int .i64 (i + 1))] (by kernel_rfl) ⟨(w64 (by omega) (by omega)), trivial⟩ (fun iI fF => ?_)
  clear fE
  refine At.done rfl ?_
  refine t_n ?_
  have fG := fF.as 8 (.slice bL ((xb ++ ([-1])).length) bS) (.slice bL ((xb ++ ([-1]) : List Int).length) bS) rfl (slice_len (by first | rfl | omega | (simp; done) | (simp; omega)))
  clear fF; have gE := fG.as 7 (.slice aJ xa.length aO) (.slice aJ ((xa : List Int).length) aO) rfl (slice_len (by first | rfl | omega | (simp; done) | (simp; omega))); clear fG
  have gF := gE.sub (r := [(8, .slice bL ((xb ++ ([-1]) : List Int).length) bS), (7, .slice aJ ((xa : List Int).length) aO), (20, .int .i64 (i + 1)), (19, .int .i64 (((ls.length : Nat) : Int))), (18, .slice As ls.length cs), (6, .pointer (some ⟨aD.heap.size, 0, none⟩)), (5, .slice none 0 0), (4, .slice none 0 0), (2, .pointer (some ⟨w.heap.size, 0, none⟩)), (1, .slice As ls.length cs)]) ⟨rfl, rfl, rfl, rfl, rfl, rfl, rfl, rfl, rfl, rfl, trivial⟩
  exact ⟨_, (by omega), (i + 1), (xa : List Int), aJ, aO, (xb ++ ([-1]) : List Int), bL, bS, rfl, gF, aE, aF, aG, aB, aC, (aM.imp (fun g _ hs => ⟨hs.2.2.1, hs.2.2.2⟩)), (gD.imp (fun g _ hs => ⟨hs.2.1, hs.2.2⟩)), (by omega), (by omega), (evA_no hxa (by omega) (by assumption)), (evB_next hxb (by omega) (by first | exact mvT_top (by assumption) | exact mvT_own (by assumption) (by omega) | exact mvT_oth (by assumption) (by omega))), (by omega)⟩
 have iJ := of_decide_eq_false cJ
 refine wp_exit ?_
 refine t_e ?_
 clear hm86
 refine t_e ?_
 refine b_e ?_
 refine t_n ?_
 have fH := bU.sub (r := [(8, .slice aH xb.length aK), (7, .slice aJ xa.length aO)]) ⟨rfl, rfl, trivial⟩; clear bU
 refine wp_seq ?_
 refine At.start ?_
 refine At.rd fH 4 [[], [], [], []] [(5, .slice aH xb.length aK), (4, .slice aJ xa.length aO), (52, .slice aH xb.length aK), (51, .slice aJ xa.length aO)] [] (by kernel_rfl) trivial (fun iK fI => ?_)
 clear fH
 refine At.done rfl ?_
 refine t_n ?_
 have gG := fI.sub (r := [(5, .slice aH xb.length aK), (4, .slice aJ xa.length aO)]) ⟨rfl, rfl, trivial⟩; clear fI
 refine wp_ret ?_
 refine ret_ gG [] [.slice aJ xa.length aO, .slice aH xb.length aK] [] (by kernel_rfl) trivial ?_
 exact ⟨aJ, aO, aH, aK, _, _, rfl, aE, (aM.imp (fun g _ hs => ⟨hs.1, (by have := Sx_base hs; show w.heap.size ≤ g; omega)⟩)), (aA.imp (fun g _ hs => ⟨hs.1, (by have := Sx_base hs; show w.heap.size ≤ g; omega)⟩)), (evT_end hRR hxa hxb (by omega) (by omega))⟩

end Go.Proofs.Ytklbpajmoklheaa
