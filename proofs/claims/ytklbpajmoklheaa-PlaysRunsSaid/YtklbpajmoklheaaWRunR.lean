/-
  A walk of a Go function, printed by a program of this repo. Conditions: what the theorems name.
-/
import Derived.Test.YtklbpajmoklheaaWToldR
import Derived.Test.YtklbpajmoklheaaWIs
import Derived.Test.YtklbpajmoklheaaWIsR
set_option linter.unusedVariables false
set_option linter.unusedSimpArgs false
namespace Go.Proofs.Ytklbpajmoklheaa
open Go Go.RowKit

set_option maxHeartbeats 4000000 in
theorem runR_any {Ag0 Ag1 Ag2 : Option Addr} {cg0 cg1 cg2 : Nat} {g : GameL} {Am : Option Addr} {cm : Nat} {lm : List Int} {As : Option Addr} {cs : Nat} {ls : List Int} {i p : Int} {w : World} (rg : RdG w 0 w.heap.size Ag0 Ag1 Ag2 cg0 cg1 cg2 g) (rm : RdI w 0 w.heap.size Am lm) (rs : RdI w 0 w.heap.size As ls) :
    Calls Try.prog 16 #[.agg #[.slice Ag0 g.ow.length cg0, .slice Ag1 g.pr.length cg1, .slice Ag2 g.mv.length cg2], .int .i64 (i), .int .i64 (p), .slice Am lm.length cm, .slice As ls.length cs] w fun e w' => ∃ (r : PlayR), RunT g i p lm ls r ∧ ∃ A0 c0 A1 c1, e = .returned (.tuple #[.agg #[.slice A0 (r.ah).length c0, .slice A1 (r.ro).length c1, .int .i64 (r.win)], .int .i64 (r.err)]) ∧ Ext w w' ∧ OwnR w' (Sx w.heap.size [obk A1]) A0 c0 3 (r.ah) ∧ OwnR w' (Sx w.heap.size [obk A0]) A1 c1 3 (r.ro) := by
 have hlg0 := rg.ow.len; have hlg1 := rg.pr.len; have hlg2 := rg.mv.len; have hkg0 := rg.k0; have hkg1 := rg.k1; have hkg2 := rg.k2; have hlm := rm.len; have hls := rs.len
 refine enter_ (args := [.agg #[.slice Ag0 g.ow.length cg0, .slice Ag1 g.pr.length cg1, .slice Ag2 g.mv.length cg2], .int .i64 (i), .int .i64 (p), .slice Am lm.length cm, .slice As ls.length cs]) Try.func16 rfl Try.ntmps16 (Nat.le_of_ble_eq_true rfl) (fun act0 f0 => ?_)
 have e0 : Ext w w := Ext.refl w
 refine wp_seq ?_
 refine At.start ?_
 refine At.seq f0 1 [[]] [(5, .pointer (some ⟨w.heap.size, 0, none⟩))] (w.alloc (.cells #[.slice Ag0 g.ow.length cg0, .slice Ag1 g.pr.length cg1, .slice Ag2 g.mv.length cg2] 25 (0, 0))) [] (by kernel_rfl) trivial (fun act4 w1 hw2 f3 => ?_)
 clear f0; have g5 := gr_alloc hw2; have := g5.size; replace e0 := e0.gn g5; have r8 := rg.gn g5; clear rg; have r9 := rm.gn g5; clear rm; have aL := rs.gn g5; clear rs; have aC : Bx w1 (w.heap.size) [.slice Ag0 g.ow.length cg0, .slice Ag1 g.pr.length cg1, .slice Ag2 g.mv.length cg2] 25 := Bx.new hw2; have := aC.lt; clear g5 hw2
 refine At.seq f3 1 [[]] [(10, .pointer (some ⟨w1.heap.size, 0, none⟩))] (w1.alloc (.cells #[.slice none 0 0, .slice none 0 0, .int .i64 (0)] 29 (0, 0))) [] (by kernel_rfl) trivial (fun zL hN jI lU => ?_)
 clear f3; have eJ := gr_alloc jI; have := eJ.size; replace e0 := e0.gn eJ; replace r8 := r8.gn eJ; replace r9 := r9.gn eJ; replace aL := aL.gn eJ; replace aC := aC.gn eJ; have aO : Bx hN (w1.heap.size) [.slice none 0 0, .slice none 0 0, .int .i64 (0)] 29 := Bx.new jI; have := aO.lt; clear eJ jI
 refine At.rd lU 1 [[]] [(11, .int .i64 (0))] [] (by kernel_rfl) trivial (fun zM lV => ?_)
 clear lU
 refine At.done rfl ?_
 refine t_n ?_
 refine wp_seq ?_
 refine At.start ?_
 refine At.rd lV 1 [[.ld (.slice Ag0 g.ow.length cg0), .ld (.slice Ag1 g.pr.length cg1), .ld (.slice Ag2 g.mv.length cg2)]] [(20, .agg #[.slice Ag0 g.ow.length cg0, .slice Ag1 g.pr.length cg1, .slice Ag2 g.mv.length cg2])] [(hN.cell? ⟨w.heap.size, 0, none⟩ = some (.slice Ag0 g.ow.length cg0)), (hN.cell? ⟨w.heap.size, 1, none⟩ = some (.slice Ag1 g.pr.length cg1)), (hN.cell? ⟨w.heap.size, 2, none⟩ = some (.slice Ag2 g.mv.length cg2))] (by kernel_rfl) ⟨(aC.cell (i := 0) rfl), (aC.cell (i := 1) rfl), (aC.cell (i := 2) rfl), trivial⟩ (fun zN lW => ?_)
 clear lV
 refine At.call lW 32 #[.agg #[.slice Ag0 g.ow.length cg0, .slice Ag1 g.pr.length cg1, .slice Ag2 g.mv.length cg2]] (some 21) (by kernel_rfl) (isR_any (r8.wide (Nat.zero_le _) (by omega))) ?_
 rintro e_ aT ⟨rfl, he⟩
 refine ⟨_, rfl, _, rfl, fun zO lX => ?_⟩
 clear lW; have dY := gr_ext he; have := dY.size; replace e0 := e0.gn dY; replace r8 := r8.gn dY; replace r9 := r9.gn dY; replace aL := aL.gn dY; replace aC := aC.gn dY; replace aO := aO.gn dY; clear dY he
 refine At.rd lX 1 [[]] [(12, .bool (isR g))] [] (by kernel_rfl) trivial (fun zP dD => ?_)
 clear lX
 refine At.done rfl ?_
 refine t_n ?_
 refine wp_seq ?_
 refine wp_seq ?_
 refine At.start ?_
 rcases Bool.eq_false_or_eq_true (!(isR g)) with cC | cC
 ·have zQ : (isR g) = false := by first | exact Eq.mp (Bool.not_eq_true' _) cC | exact Eq.mp (Bool.not_eq_false' _) cC | simpa using cC
  refine At.rd dD 21 [[], [], [.as_ (.bool true)], [], [], [], [], [], [], [], [], [], [], [], [], [], [], [], [], [], []] [(42, .bool true), (41, undef), (40, undef), (39, undef), (38, undef), (37, undef), (36, undef), (35, .bool true), (34, .bool true), (33, undef), (32, undef), (31, undef), (30, undef), (29, undef), (28, .bool true), (27, .bool true), (26, undef), (25, undef), (24, .bool true), (23, .bool (!(isR g))), (22, .bool (isR g))] [((.bool (!(isR g)) : Value) = .bool true)] (by kernel_rfl) ⟨(congrArg Value.bool cC), trivial⟩ (fun zR lY => ?_)
  clear dD
  refine At.done rfl ?_
  refine t_n ?_
  have jJ := lY.sub (r := [(42, .bool true), (11, .int .i64 (0)), (10, .pointer (some ⟨w1.heap.size, 0, none⟩)), (5, .pointer (some ⟨w.heap.size, 0, none⟩)), (1, .int .i64 (i)), (2, .int .i64 (p)), (3, .slice Am lm.length cm), (4, .slice As ls.length cs)]) ⟨rfl, rfl, rfl, rfl, rfl, rfl, rfl, rfl, trivial⟩
  clear lY
  refine cond_T jJ rfl ?_
  refine wp_seq ?_
  refine At.start ?_
  refine At.rd jJ 1 [[]] [(43, .agg #[.slice none 0 0, .slice none 0 0, .int .i64 (0)])] [] (by kernel_rfl) trivial (fun zS lZ => ?_)
  clear jJ
  refine At.store lZ (t := 29) (b := w1.heap.size) (off := 0) (v := .agg #[.slice none 0 0, .slice none 0 0, .int .i64 (0)]) (by kernel_rfl) aO (by kernel_rfl) (fun zT hO eK gG mA => ?_)
  clear lZ; replace gG : Bx hO (w1.heap.size) [.slice none 0 0, .slice none 0 0, .int .i64 (0)] 29 := gG; have := eK.size; replace e0 := e0.gr eK (fun k h => by injection h; omega); replace r8 := r8.gb eK (by omega); replace r9 := r9.gb eK (by omega); replace aL := aL.gb eK (by omega); replace aC := aC.gb eK (by omega); clear aO eK
  refine At.rd mA 1 [[]] [(11, .int .i64 (1))] [] (by kernel_rfl) trivial (fun zU tD => ?_)
  clear mA
  refine At.done rfl ?_
  refine t_n ?_
  clear aC
  refine wp_ret ?_
  refine t_r ?_
  refine ret_ tD [[.slice none 0 0, .slice none 0 0, .int .i64 (0)]] [.agg #[.slice none 0 0, .slice none 0 0, .int .i64 (0)], .int .i64 (1)] [(hO.cell? ⟨w1.heap.size, 0, none⟩ = some (.slice none 0 0)), (hO.cell? ⟨w1.heap.size, 1, none⟩ = some (.slice none 0 0)), (hO.cell? ⟨w1.heap.size, 2, none⟩ = some (.int .i64 (0)))] (by kernel_rfl) ⟨(gG.cell (i := 0) rfl), (gG.cell (i := 1) rfl), (gG.cell (i := 2) rfl), trivial⟩ ?_
  exact ⟨⟨[], [], 0, 1⟩, .arg (by first | exact nok (by omega) | exact nok2 (by assumption)), none, 0, none, 0, rfl, e0, OwnR.nil, OwnR.nil⟩
 have zV : (isR g) = true := by first | exact Eq.mp (Bool.not_eq_true' _) cC | exact Eq.mp (Bool.not_eq_false' _) cC | simpa using cC
 rcases Bool.eq_false_or_eq_true (decide ((i : Int) < 0)) with eL | eL
 ·have q63 := of_decide_eq_true eL
  refine At.rd dD 21 [[], [], [.as_ (.bool false)], [], [], [], [.as_ (.bool true)], [], [], [], [], [], [], [], [], [], [], [], [], [], []] [(42, .bool true), (41, undef), (40, undef), (39, undef), (38, undef), (37, undef), (36, undef), (35, .bool true), (34, .bool true), (33, undef), (32, undef), (31, undef), (30, undef), (29, undef), (28, .bool true), (27, .bool (decide ((i : Int) < 0))), (26, .bool (decide ((i : Int) < 0))), (25, .int .i64 (i)), (24, .bool false), (23, .bool (!(isR g))), (22, .bool (isR g))] [((.bool (!(isR g)) : Value) = .bool false), ((.bool (decide ((i : Int) < 0)) : Value) = .bool true)] (by kernel_rfl) ⟨(congrArg Value.bool cC), (congrArg Value.bool eL), trivial⟩ (fun zW mB => ?_)
  clear dD
  refine At.done rfl ?_
  refine t_n ?_
  have jK := mB.sub (r := [(42, .bool true), (11, .int .i64 (0)), (10, .pointer (some ⟨w1.heap.size, 0, none⟩)), (5, .pointer (some ⟨w.heap.size, 0, none⟩)), (1, .int .i64 (i)), (2, .int .i64 (p)), (3, .slice Am lm.length cm), (4, .slice As ls.length cs)]) ⟨rfl, rfl, rfl, rfl, rfl, rfl, rfl, rfl, trivial⟩
  clear mB
  refine cond_T jK rfl ?_
  refine wp_seq ?_
  refine At.start ?_
  refine At.rd jK 1 [[]] [(43, .agg #[.slice none 0 0, .slice none 0 0, .int .i64 (0)])] [] (by kernel_rfl) trivial (fun zX mC => ?_)
  clear jK
  refine At.store mC (t := 29) (b := w1.heap.size) (off := 0) (v := .agg #[.slice none 0 0, .slice none 0 0, .int .i64 (0)]) (by kernel_rfl) aO (by kernel_rfl) (fun zY hP eM gH mD => ?_)
  clear mC; replace gH : Bx hP (w1.heap.size) [.slice none 0 0, .slice none 0 0, .int .i64 (0)] 29 := gH; have := eM.size; replace e0 := e0.gr eM (fun k h => by injection h; omega); replace r8 := r8.gb eM (by omega); replace r9 := r9.gb eM (by omega); replace aL := aL.gb eM (by omega); replace aC := aC.gb eM (by omega); clear aO eM
  refine At.rd mD 1 [[]] [(11, .int .i64 (1))] [] (by kernel_rfl) trivial (fun zZ tE => ?_)
  clear mD
  refine At.done rfl ?_
  refine t_n ?_
  clear aC
  refine wp_ret ?_
  refine t_r ?_
  refine ret_ tE [[.slice none 0 0, .slice none 0 0, .int .i64 (0)]] [.agg #[.slice none 0 0, .slice none 0 0, .int .i64 (0)], .int .i64 (1)] [(hP.cell? ⟨w1.heap.size, 0, none⟩ = some (.slice none 0 0)), (hP.cell? ⟨w1.heap.size, 1, none⟩ = some (.slice none 0 0)), (hP.cell? ⟨w1.heap.size, 2, none⟩ = some (.int .i64 (0)))] (by kernel_rfl) ⟨(gH.cell (i := 0) rfl), (gH.cell (i := 1) rfl), (gH.cell (i := 2) rfl), trivial⟩ ?_
  exact ⟨⟨[], [], 0, 1⟩, .arg (by first | exact nok (by omega) | exact nok2 (by assumption)), none, 0, none, 0, rfl, e0, OwnR.nil, OwnR.nil⟩
 have aAa := of_decide_eq_false eL
 rcases Bool.eq_false_or_eq_true (decide ((i : Int) ≥ ((g.ow.length : Nat) : Int))) with fK | fK
 ·have aAb := of_decide_eq_true fK
  refine At.rd dD 21 [[], [], [.as_ (.bool false)], [], [], [], [.as_ (.bool false)], [], [], [.ld (.slice Ag0 g.ow.length cg0)], [], [], [], [.as_ (.bool true)], [], [], [], [], [], [], []] [(42, .bool true), (41, undef), (40, undef), (39, undef), (38, undef), (37, undef), (36, undef), (35, .bool true), (34, .bool (decide ((i : Int) ≥ ((g.ow.length : Nat) : Int)))), (33, .bool (decide ((i : Int) ≥ ((g.ow.length : Nat) : Int)))), (32, .int .i64 (((g.ow.length : Nat) : Int))), (31, .slice Ag0 g.ow.length cg0), (30, .pointer (some ⟨w.heap.size, 0, none⟩)), (29, .int .i64 (i)), (28, .bool false), (27, .bool (decide ((i : Int) < 0))), (26, .bool (decide ((i : Int) < 0))), (25, .int .i64 (i)), (24, .bool false), (23, .bool (!(isR g))), (22, .bool (isR g))] [((.bool (!(isR g)) : Value) = .bool false), ((.bool (decide ((i : Int) < 0)) : Value) = .bool false), (aT.cell? ⟨w.heap.size, 0, none⟩ = some (.slice Ag0 g.ow.length cg0)), ((.bool (decide ((i : Int) ≥ ((g.ow.length : Nat) : Int))) : Value) = .bool true)] (by kernel_rfl) ⟨(congrArg Value.bool cC), (congrArg Value.bool eL), (aC.cell (i := 0) rfl), (congrArg Value.bool fK), trivial⟩ (fun aAc mE => ?_)
  clear dD
  refine At.done rfl ?_
  refine t_n ?_
  have jL := mE.sub (r := [(42, .bool true), (11, .int .i64 (0)), (10, .pointer (some ⟨w1.heap.size, 0, none⟩)), (5, .pointer (some ⟨w.heap.size, 0, none⟩)), (1, .int .i64 (i)), (2, .int .i64 (p)), (3, .slice Am lm.length cm), (4, .slice As ls.length cs)]) ⟨rfl, rfl, rfl, rfl, rfl, rfl, rfl, rfl, trivial⟩
  clear mE
  refine cond_T jL rfl ?_
  refine wp_seq ?_
  refine At.start ?_
  refine At.rd jL 1 [[]] [(43, .agg #[.slice none 0 0, .slice none 0 0, .int .i64 (0)])] [] (by kernel_rfl) trivial (fun aAd mF => ?_)
  clear jL
  refine At.store mF (t := 29) (b := w1.heap.size) (off := 0) (v := .agg #[.slice none 0 0, .slice none 0 0, .int .i64 (0)]) (by kernel_rfl) aO (by kernel_rfl) (fun aAe hQ eN gJ mG => ?_)
  clear mF; replace gJ : Bx hQ (w1.heap.size) [.slice none 0 0, .slice none 0 0, .int .i64 (0)] 29 := gJ; have := eN.size; replace e0 := e0.gr eN (fun k h => by injection h; omega); replace r8 := r8.gb eN (by omega); replace r9 := r9.gb eN (by omega); replace aL := aL.gb eN (by omega); replace aC := aC.gb eN (by omega); clear aO eN
  refine At.rd mG 1 [[]] [(11, .int .i64 (1))] [] (by kernel_rfl) trivial (fun aAf tF => ?_)
  clear mG
  refine At.done rfl ?_
  refine t_n ?_
  clear aC
  refine wp_ret ?_
  refine t_r ?_
  refine ret_ tF [[.slice none 0 0, .slice none 0 0, .int .i64 (0)]] [.agg #[.slice none 0 0, .slice none 0 0, .int .i64 (0)], .int .i64 (1)] [(hQ.cell? ⟨w1.heap.size, 0, none⟩ = some (.slice none 0 0)), (hQ.cell? ⟨w1.heap.size, 1, none⟩ = some (.slice none 0 0)), (hQ.cell? ⟨w1.heap.size, 2, none⟩ = some (.int .i64 (0)))] (by kernel_rfl) ⟨(gJ.cell (i := 0) rfl), (gJ.cell (i := 1) rfl), (gJ.cell (i := 2) rfl), trivial⟩ ?_
  exact ⟨⟨[], [], 0, 1⟩, .arg (by first | exact nok (by omega) | exact nok2 (by assumption)), none, 0, none, 0, rfl, e0, OwnR.nil, OwnR.nil⟩
 have aAg := of_decide_eq_false fK
 rcases Bool.eq_false_or_eq_true ((p : Int) != 0) with gK | gK
 ·have aAh := bne_iff_ne.1 gK
  refine At.rd dD 21 [[], [], [.as_ (.bool false)], [], [], [], [.as_ (.bool false)], [], [], [.ld (.slice Ag0 g.ow.length cg0)], [], [], [], [.as_ (.bool false)], [], [], [.as_ (.bool true)], [], [], [], []] [(42, .bool ((p : Int) != 1)), (41, .bool ((p : Int) != 1)), (40, .bool ((p : Int) != 1)), (39, .int .i64 (p)), (38, .bool true), (37, .bool ((p : Int) != 0)), (36, .int .i64 (p)), (35, .bool false), (34, .bool (decide ((i : Int) ≥ ((g.ow.length : Nat) : Int)))), (33, .bool (decide ((i : Int) ≥ ((g.ow.length : Nat) : Int)))), (32, .int .i64 (((g.ow.length : Nat) : Int))), (31, .slice Ag0 g.ow.length cg0), (30, .pointer (some ⟨w.heap.size, 0, none⟩)), (29, .int .i64 (i)), (28, .bool false), (27, .bool (decide ((i : Int) < 0))), (26, .bool (decide ((i : Int) < 0))), (25, .int .i64 (i)), (24, .bool false), (23, .bool (!(isR g))), (22, .bool (isR g))] [((.bool (!(isR g)) : Value) = .bool false), ((.bool (decide ((i : Int) < 0)) : Value) = .bool false), (aT.cell? ⟨w.heap.size, 0, none⟩ = some (.slice Ag0 g.ow.length cg0)), ((.bool (decide ((i : Int) ≥ ((g.ow.length : Nat) : Int))) : Value) = .bool false), ((.bool ((p : Int) != 0) : Value) = .bool true)] (by kernel_rfl) ⟨(congrArg Value.bool cC), (congrArg Value.bool eL), (aC.cell (i := 0) rfl), (congrArg Value.bool fK), (congrArg Value.bool gK), trivial⟩ (fun aAi mH => ?_)
  clear dD
  refine At.done rfl ?_
  refine t_n ?_
  have gM := mH.sub (r := [(42, .bool ((p : Int) != 1)), (11, .int .i64 (0)), (10, .pointer (some ⟨w1.heap.size, 0, none⟩)), (5, .pointer (some ⟨w.heap.size, 0, none⟩)), (1, .int .i64 (i)), (2, .int .i64 (p)), (3, .slice Am lm.length cm), (4, .slice As ls.length cs)]) ⟨rfl, rfl, rfl, rfl, rfl, rfl, rfl, rfl, trivial⟩
  clear mH
  refine cond_S gM (t := (p : Int) != 1) rfl (fun jM => ?_) (fun jM => ?_)
  ·have aAj := bne_iff_ne.1 jM
   refine wp_seq ?_
   refine At.start ?_
   refine At.rd gM 1 [[]] [(43, .agg #[.slice none 0 0, .slice none 0 0, .int .i64 (0)])] [] (by kernel_rfl) trivial (fun aAk mI => ?_)
   clear gM
   refine At.store mI (t := 29) (b := w1.heap.size) (off := 0) (v := .agg #[.slice none 0 0, .slice none 0 0, .int .i64 (0)]) (by kernel_rfl) aO (by kernel_rfl) (fun aAl hR eO gN mJ => ?_)
   clear mI; replace gN : Bx hR (w1.heap.size) [.slice none 0 0, .slice none 0 0, .int .i64 (0)] 29 := gN; have := eO.size; replace e0 := e0.gr eO (fun k h => by injection h; omega); replace r8 := r8.gb eO (by omega); replace r9 := r9.gb eO (by omega); replace aL := aL.gb eO (by omega); replace aC := aC.gb eO (by omega); clear aO eO
   refine At.rd mJ 1 [[]] [(11, .int .i64 (1))] [] (by kernel_rfl) trivial (fun aAm tG => ?_)
   clear mJ
   refine At.done rfl ?_
   refine t_n ?_
   clear aC
   refine wp_ret ?_
   refine t_r ?_
   refine ret_ tG [[.slice none 0 0, .slice none 0 0, .int .i64 (0)]] [.agg #[.slice none 0 0, .slice none 0 0, .int .i64 (0)], .int .i64 (1)] [(hR.cell? ⟨w1.heap.size, 0, none⟩ = some (.slice none 0 0)), (hR.cell? ⟨w1.heap.size, 1, none⟩ = some (.slice none 0 0)), (hR.cell? ⟨w1.heap.size, 2, none⟩ = some (.int .i64 (0)))] (by kernel_rfl) ⟨(gN.cell (i := 0) rfl), (gN.cell (i := 1) rfl), (gN.cell (i := 2) rfl), trivial⟩ ?_
   exact ⟨⟨[], [], 0, 1⟩, .arg (by first | exact nok (by omega) | exact nok2 (by assumption)), none, 0, none, 0, rfl, e0, OwnR.nil, OwnR.nil⟩
  have aAn := bne_eq_false_iff_eq.1 jM
  refine wp_skip ?_
  refine t_n ?_
  refine wp_seq ?_
  refine wp_seq ?_
  have hok : okP g i p := isok2 (by assumption) (by omega) (by omega) (by omega)
  refine At.start ?_
  refine At.rd gM 3 [[], [], []] [(46, .bool (decide ((((ls.length : Nat) : Int) : Int) > 64))), (45, .int .i64 (((ls.length : Nat) : Int))), (44, .slice As ls.length cs)] [] (by kernel_rfl) trivial (fun aAo fL => ?_)
  clear gM
  refine At.done rfl ?_
  refine t_n ?_
  refine cond_S fL (t := decide ((((ls.length : Nat) : Int) : Int) > 64)) rfl (fun jN => ?_) (fun jN => ?_)
  ·have aAp := of_decide_eq_true jN
   refine wp_seq ?_
   refine At.start ?_
   refine At.rd fL 1 [[]] [(47, .agg #[.slice none 0 0, .slice none 0 0, .int .i64 (0)])] [] (by kernel_rfl) trivial (fun aAq mK => ?_)
   clear fL
   refine At.store mK (t := 29) (b := w1.heap.size) (off := 0) (v := .agg #[.slice none 0 0, .slice none 0 0, .int .i64 (0)]) (by kernel_rfl) aO (by kernel_rfl) (fun aAr hS eP gO mL => ?_)
   clear mK; replace gO : Bx hS (w1.heap.size) [.slice none 0 0, .slice none 0 0, .int .i64 (0)] 29 := gO; have := eP.size; replace e0 := e0.gr eP (fun k h => by injection h; omega); replace r8 := r8.gb eP (by omega); replace r9 := r9.gb eP (by omega); replace aL := aL.gb eP (by omega); replace aC := aC.gb eP (by omega); clear aO eP
   refine At.rd mL 1 [[]] [(11, .int .i64 (10))] [] (by kernel_rfl) trivial (fun aAs tH => ?_)
   clear mL
   refine At.done rfl ?_
   refine t_n ?_
   clear aC
   refine wp_ret ?_
   refine t_r ?_
   refine ret_ tH [[.slice none 0 0, .slice none 0 0, .int .i64 (0)]] [.agg #[.slice none 0 0, .slice none 0 0, .int .i64 (0)], .int .i64 (10)] [(hS.cell? ⟨w1.heap.size, 0, none⟩ = some (.slice none 0 0)), (hS.cell? ⟨w1.heap.size, 1, none⟩ = some (.slice none 0 0)), (hS.cell? ⟨w1.heap.size, 2, none⟩ = some (.int .i64 (0)))] (by kernel_rfl) ⟨(gO.cell (i := 0) rfl), (gO.cell (i := 1) rfl), (gO.cell (i := 2) rfl), trivial⟩ ?_
   exact ⟨⟨[], [], 0, 10⟩, .many hok (by omega), none, 0, none, 0, rfl, e0, OwnR.nil, OwnR.nil⟩
  have aAt := of_decide_eq_false jN
  refine wp_skip ?_
  refine t_n ?_
  refine wp_seq (cut (fun a_ w_ => ∃ (As2 : Option Addr) (cs2 : Nat) (sc2 : List Int) (lo_ : Nat) (hi_ : Nat), (Frm 137 a_ [(4, .slice As2 sc2.length cs2), (11, .int .i64 (0)), (10, .pointer (some ⟨w1.heap.size, 0, none⟩)), (5, .pointer (some ⟨w.heap.size, 0, none⟩)), (1, .int .i64 (i)), (2, .int .i64 (p)), (3, .slice Am lm.length cm)]) ∧ (Ext w w_) ∧ (RdG w_ 0 w.heap.size Ag0 Ag1 Ag2 cg0 cg1 cg2 g) ∧ (RdI w_ 0 w.heap.size Am lm) ∧ (RdI w_ 0 w.heap.size As ls) ∧ (Bx w_ (w.heap.size) [.slice Ag0 g.ow.length cg0, .slice Ag1 g.pr.length cg1, .slice Ag2 g.mv.length cg2] 25) ∧ (Bx w_ (w1.heap.size) [.slice none 0 0, .slice none 0 0, .int .i64 (0)] 29) ∧ (RdI w_ lo_ hi_ As2 sc2) ∧ (okP g i p) ∧ (ls.length ≤ 64) ∧ (sc2 = scN ls) ∧ (hi_ ≤ w_.heap.size) ∧ (w1.heap.size < lo_ ∨ hi_ ≤ w1.heap.size) ∧ (aT.heap.size ≤ w_.heap.size)) ?_ ?_)
  ·refine wp_seq ?_
   refine At.start ?_
   refine At.rd fL 3 [[], [], []] [(50, .bool ((((ls.length : Nat) : Int) : Int) == 0)), (49, .int .i64 (((ls.length : Nat) : Int))), (48, .slice As ls.length cs)] [] (by kernel_rfl) trivial (fun aAu hT => ?_)
   clear fL
   refine At.done rfl ?_
   refine t_n ?_
   refine cond_S hT (t := (((ls.length : Nat) : Int) : Int) == 0) rfl (fun jO => ?_) (fun jO => ?_)
   ·have aAv := eq_of_beq jO
    refine At.start ?_
    refine At.seq hT 1 [[]] [(51, .slice (some ⟨aT.heap.size, 0, none⟩) 1 1)] (aT.alloc (.cells #[.int .i64 (0)] 3 (0, 0))) [] (by kernel_rfl) trivial (fun aAw tI jP mM => ?_)
    clear hT; have dZ := gr_alloc jP; have := dZ.size; replace e0 := e0.gn dZ; replace r8 := r8.gn dZ; replace r9 := r9.gn dZ; replace aL := aL.gn dZ; replace aC := aC.gn dZ; replace aO := aO.gn dZ; have mN : Bx tI (aT.heap.size) [.int .i64 (0)] 3 := Bx.new jP; have := mN.lt; clear dZ jP
    refine At.rd mM 1 [[]] [(4, .slice (some ⟨aT.heap.size, 0, none⟩) 1 1)] [] (by kernel_rfl) trivial (fun aAx tJ => ?_)
    clear mM
    refine At.done rfl ?_
    refine t_n ?_
    have tK := tJ.sub (r := [(4, .slice (some ⟨aT.heap.size, 0, none⟩) 1 1), (11, .int .i64 (0)), (10, .pointer (some ⟨w1.heap.size, 0, none⟩)), (5, .pointer (some ⟨w.heap.size, 0, none⟩)), (1, .int .i64 (i)), (2, .int .i64 (p)), (3, .slice Am lm.length cm)]) ⟨rfl, rfl, rfl, rfl, rfl, rfl, rfl, trivial⟩
    exact ⟨some ⟨aT.heap.size, 0, none⟩, 1, ([0] : List Int), aT.heap.size, (aT.heap.size + 1), tK, e0, r8, r9, aL, aC, aO, (Bx.rdI1 (l := [0]) mN rfl (by decide)), (by first | exact hok | exact isok (by omega) (by omega) (by omega) (by omega)), (by omega), (by first | exact scN_0 (by omega) | exact scN_1 (by omega)), (by omega), (by omega), (by omega)⟩
   have aAy := ne_of_beq_false jO
   refine wp_skip ?_
   refine t_n ?_
   have tL := hT.sub (r := [(4, .slice As ls.length cs), (11, .int .i64 (0)), (10, .pointer (some ⟨w1.heap.size, 0, none⟩)), (5, .pointer (some ⟨w.heap.size, 0, none⟩)), (1, .int .i64 (i)), (2, .int .i64 (p)), (3, .slice Am lm.length cm)]) ⟨rfl, rfl, rfl, rfl, rfl, rfl, rfl, trivial⟩
   exact ⟨As, cs, ls, 0, w.heap.size, tL, e0, r8, r9, aL, aC, aO, aL, (by first | exact hok | exact isok (by omega) (by omega) (by omega) (by omega)), (by omega), (by first | exact scN_0 (by omega) | exact scN_1 (by omega)), (by omega), (by omega), (by omega)⟩
  clear r8; clear r9; clear aL; clear aC; clear aO; clear fL e0
  intro aAz aA ⟨As2, cs2, sc2, lo_, hi_, mO, eQ, fM, fN, fO, eR, eS, fP, hok, eT, hsc, hhi, hrb, i175⟩
  have := eQ.size; have := eR.lt; have := eS.lt
  refine wp_seq ?_
  have hG := isR_ok hok.1; have hn1 := hG.n1; have hpl := hG.pl; have hml := hG.ml; have hi0 := hok.2.1; have hi1 := hok.2.2.1; have hscp : 0 < sc2.length := hsc ▸ scN_pos ls; have hsc6 : sc2.length ≤ 64 := hsc ▸ scN_le eT
  refine At.start ?_
  refine At.rd mO 1 [[]] [(13, .slice none 0 0)] [] (by kernel_rfl) trivial (fun aAA mP => ?_)
  clear mO
  refine At.done rfl ?_
  refine t_n ?_
  refine wp_seq ?_
  refine At.start ?_
  refine At.rd mP 2 [[], []] [(53, .agg #[.int .i64 (i), .int .i64 (0)]), (52, .int .i64 (i))] [] (by kernel_rfl) trivial (fun aAB mQ => ?_)
  clear mP
  refine At.seq mQ 1 [[]] [(14, .pointer (some ⟨aA.heap.size, 0, none⟩))] (aA.alloc (.cells #[.int .i64 (0), .int .i64 (0)] 66 (0, 0))) [] (by kernel_rfl) trivial (fun aAC tM jQ mR => ?_)
  clear mQ; have dK := gr_alloc jQ; have := dK.size; replace eQ := eQ.gn dK; replace fM := fM.gn dK; replace fN := fN.gn dK; replace fO := fO.gn dK; replace eR := eR.gn dK; replace eS := eS.gn dK; replace fP := fP.gn dK; have jR : Bx tM (aA.heap.size) [.int .i64 (0), .int .i64 (0)] 66 := Bx.new jQ; have := jR.lt; clear dK jQ
  refine At.store mR (t := 66) (b := aA.heap.size) (off := 0) (v := .agg #[.int .i64 (i), .int .i64 (0)]) (by kernel_rfl) jR (by kernel_rfl) (fun aAD cD dL hU mS => ?_)
  clear mR; replace hU : Bx cD (aA.heap.size) [.int .i64 (i), .int .i64 (0)] 66 := hU; have := dL.size; replace eQ := eQ.gr dL (fun k h => by injection h; omega); replace fM := fM.gb dL (by omega); replace fN := fN.gb dL (by omega); replace fO := fO.gb dL (by omega); replace eR := eR.gb dL (by omega); replace eS := eS.gb dL (by omega); replace fP := fP.gb dL (by omega); clear jR dL
  refine At.done rfl ?_
  refine t_n ?_
  refine wp_block ?_
  have mT : OwnR cD (Sx (cD.heap.size) []) none 0 66 ([] : List Pr2) := OwnR.nil; have mU := mS.as 13 (.slice none 0 0) (.slice none (([] : List Pr2).length) 0) rfl (slice_len (by first | rfl | omega | (simp; done) | (simp; omega))); clear mS
  have mV := mU.sub (r := [(13, .slice none (([] : List Pr2).length) 0), (14, .pointer (some ⟨aA.heap.size, 0, none⟩)), (4, .slice As2 sc2.length cs2), (10, .pointer (some ⟨w1.heap.size, 0, none⟩)), (5, .pointer (some ⟨w.heap.size, 0, none⟩)), (2, .int .i64 (p)), (3, .slice Am lm.length cm)]) ⟨rfl, rfl, rfl, rfl, rfl, rfl, rfl, trivial⟩
  refine loop_g (fun (m_ : Nat) a_ w_ => ∃ (s1 : Int) (s2 : Int) (st_ : List Pr2) (bI : Option Addr) (bY : Nat), m_ = 12801 - st_.length ∧ (Frm 137 a_ [(13, .slice bI st_.length bY), (14, .pointer (some ⟨aA.heap.size, 0, none⟩)), (4, .slice As2 sc2.length cs2), (10, .pointer (some ⟨w1.heap.size, 0, none⟩)), (5, .pointer (some ⟨w.heap.size, 0, none⟩)), (2, .int .i64 (p)), (3, .slice Am lm.length cm)]) ∧ (Ext w w_) ∧ (RdG w_ 0 w.heap.size Ag0 Ag1 Ag2 cg0 cg1 cg2 g) ∧ (RdI w_ 0 w.heap.size Am lm) ∧ (RdI w_ 0 w.heap.size As ls) ∧ (Bx w_ (w.heap.size) [.slice Ag0 g.ow.length cg0, .slice Ag1 g.pr.length cg1, .slice Ag2 g.mv.length cg2] 25) ∧ (Bx w_ (w1.heap.size) [.slice none 0 0, .slice none 0 0, .int .i64 (0)] 29) ∧ (RdI w_ lo_ hi_ As2 sc2) ∧ (Bx w_ (aA.heap.size) [.int .i64 s1, .int .i64 s2] 66) ∧ (OwnR w_ (Sx (cD.heap.size) []) bI bY 66 (st_ : List Pr2)) ∧ (StandT g p lm sc2 i st_ (s1, s2)) ∧ (cD.heap.size ≤ w_.heap.size)) _ ⟨i, 0, ([] : List Pr2), none, 0, rfl, mV, eQ, fM, fN, fO, eR, eS, fP, hU, mT, .nil, (by omega)⟩ ?_
  clear mV mU; clear fM; clear fN; clear fO; clear eR; clear eS; clear fP; clear hU; clear mT; clear eQ
  intro m_ aAE aAF ⟨s1, s2, st_, bI, bY, hm215, mW, jS, mX, mY, mZ, jT, jU, nA, jV, nB, hst, i225⟩
  have := jS.size; have := jT.lt; have := jU.lt; have := jV.lt; have hsr := (hst.rng hG hscp hi0 hi1).2; have hle := hst.le hG hscp hsc6 hi0 hi1
  refine wp_block ?_
  refine wp_seq ?_
  refine wp_seq ?_
  refine At.start ?_
  refine At.rd mW 1 [[]] [(15, .int .i64 (0))] [] (by kernel_rfl) trivial (fun aAG nC => ?_)
  clear mW
  refine At.done rfl ?_
  refine t_n ?_
  refine wp_block ?_
  have nD := nC.sub (r := [(15, .int .i64 (0)), (13, .slice bI st_.length bY), (14, .pointer (some ⟨aA.heap.size, 0, none⟩)), (4, .slice As2 sc2.length cs2), (10, .pointer (some ⟨w1.heap.size, 0, none⟩)), (5, .pointer (some ⟨w.heap.size, 0, none⟩)), (2, .int .i64 (p)), (3, .slice Am lm.length cm)]) ⟨rfl, rfl, rfl, rfl, rfl, rfl, rfl, rfl, trivial⟩
  refine loop_g (fun (m_ : Nat) a_ w_ => ∃ (j : Int), m_ = ((st_.length : Int) - j).toNat ∧ (Frm 137 a_ [(15, .int .i64 (j)), (13, .slice bI st_.length bY), (14, .pointer (some ⟨aA.heap.size, 0, none⟩)), (4, .slice As2 sc2.length cs2), (10, .pointer (some ⟨w1.heap.size, 0, none⟩)), (5, .pointer (some ⟨w.heap.size, 0, none⟩)), (2, .int .i64 (p)), (3, .slice Am lm.length cm)]) ∧ (Ext w w_) ∧ (RdG w_ 0 w.heap.size Ag0 Ag1 Ag2 cg0 cg1 cg2 g) ∧ (RdI w_ 0 w.heap.size Am lm) ∧ (RdI w_ 0 w.heap.size As ls) ∧ (Bx w_ (w.heap.size) [.slice Ag0 g.ow.length cg0, .slice Ag1 g.pr.length cg1, .slice Ag2 g.mv.length cg2] 25) ∧ (Bx w_ (w1.heap.size) [.slice none 0 0, .slice none 0 0, .int .i64 (0)] 29) ∧ (RdI w_ lo_ hi_ As2 sc2) ∧ (Bx w_ (aA.heap.size) [.int .i64 (s1), .int .i64 (s2)] 66) ∧ (OwnR w_ (Sx (cD.heap.size) []) bI bY 66 (st_ : List Pr2)) ∧ (0 ≤ j) ∧ (j ≤ (st_.length : Int)) ∧ ((s1, s2) ∉ st_.take j.toNat) ∧ (cD.heap.size ≤ w_.heap.size)) _ ⟨0, rfl, nD, jS, mX, mY, mZ, jT, jU, nA, jV, nB, (by omega), (Int.natCast_nonneg _), (by simp), (by omega)⟩ ?_
  clear nD nC; clear mX; clear mY; clear mZ; clear jT; clear jU; clear nA; clear jV; clear nB; clear jS
  intro m_ aAH dM ⟨j, hm232, nE, aW, aU, aY, bE, aP, aZ, bA, aM, aR, i242, i243, hnj, i244⟩
  have := aW.size; have := aP.lt; have := aZ.lt; have := aM.lt
  refine wp_seq ?_
  refine wp_seq ?_
  refine At.start ?_
  refine At.rd nE 4 [[], [], [], []] [(57, .bool (decide ((j : Int) < ((st_.length : Nat) : Int)))), (56, .int .i64 (((st_.length : Nat) : Int))), (55, .slice bI st_.length bY), (54, .int .i64 (j))] [] (by kernel_rfl) trivial (fun aAI gP => ?_)
  clear nE
  refine At.done rfl ?_
  refine t_n ?_
  refine cond_S gP (t := decide ((j : Int) < ((st_.length : Nat) : Int))) rfl (fun jW => ?_) (fun jW => ?_)
  ·have aAJ := of_decide_eq_true jW
   refine wp_skip ?_
   refine t_n ?_
   refine wp_seq ?_
   refine wp_block ?_
   refine wp_seq ?_
   obtain ⟨gQ, tN, aAK, tO, tP⟩ := aR.get (j) (by omega) (by omega) (sz := 2) rfl
   refine drawn_ro gP (by kernel_rfl) (by kernel_rfl) [[], [], [.ad gQ], [.ld (.int .i64 ((gA st_ j).1)), .ld (.int .i64 ((gA st_ j).2))], [.ld (.int .i64 (s1)), .ld (.int .i64 (s2))], [.as_ (.bool (decide ((gA st_ j) = (s1, s2))))]] [(65, .bool (decide ((gA st_ j) = (s1, s2)))), (64, .agg #[.int .i64 (s1), .int .i64 (s2)]), (63, .agg #[.int .i64 ((gA st_ j).1), .int .i64 ((gA st_ j).2)]), (62, .pointer (some (gQ.add ((j : Int).toNat * 2)))), (61, .int .i64 (j)), (60, .slice bI st_.length bY)] [(bI = some gQ), (0 ≤ (j : Int)), ((j : Int) < (st_.length : Nat)), (dM.cell? (gQ.add ((j : Int).toNat * 2)) = some (.int .i64 ((gA st_ j).1))), (dM.cell? ((gQ.add ((j : Int).toNat * 2)).add 1) = some (.int .i64 ((gA st_ j).2))), (dM.cell? ⟨aA.heap.size, 0, none⟩ = some (.int .i64 (s1))), (dM.cell? ⟨aA.heap.size, 1, none⟩ = some (.int .i64 (s2))), ((.bool (((((gA st_ j).1 : Int) == s1) && ((((gA st_ j).2 : Int) == s2) && true))) : Value) = .bool (decide ((gA st_ j) = (s1, s2))))] (by kernel_rfl) ⟨tN, (by omega), (by omega), tO, (tP 1 _ rfl), (aM.cell (i := 0) rfl), (aM.cell (i := 1) rfl), (congrArg (fun b => Value.bool b) (pr2_beq (gA st_ j) (s1, s2))), trivial⟩ (fun aAL gR nF gS => ?_)
   clear gP; have cT := gr_drew nF; have := cT.size; replace aW := aW.gn cT; replace aU := aU.gn cT; replace aY := aY.gn cT; replace bE := bE.gn cT; replace aP := aP.gn cT; replace aZ := aZ.gn cT; replace bA := bA.gn cT; replace aM := aM.gn cT; replace aR := aR.gn cT; clear cT nF
   refine t_n ?_
   refine cond_S gS (t := decide ((gA st_ j) = (s1, s2))) rfl (fun jX => ?_) (fun jX => ?_)
   ·have aAM := of_decide_eq_true jX
    refine wp_seq ?_
    have hrl := stand_in2 hst hG hscp hi0 hi1; have hk2 := got_at (l := st_) (k := j) (y := (s1, s2)) (by omega) (by omega) (by assumption)
    refine At.start ?_
    refine At.rd gS 3 [[.ld (.slice Ag0 g.ow.length cg0), .ld (.slice Ag1 g.pr.length cg1), .ld (.slice Ag2 g.mv.length cg2)], [], []] [(68, .int .i64 (j)), (67, .slice bI st_.length bY), (66, .agg #[.slice Ag0 g.ow.length cg0, .slice Ag1 g.pr.length cg1, .slice Ag2 g.mv.length cg2])] [(gR.cell? ⟨w.heap.size, 0, none⟩ = some (.slice Ag0 g.ow.length cg0)), (gR.cell? ⟨w.heap.size, 1, none⟩ = some (.slice Ag1 g.pr.length cg1)), (gR.cell? ⟨w.heap.size, 2, none⟩ = some (.slice Ag2 g.mv.length cg2))] (by kernel_rfl) ⟨(aP.cell (i := 0) rfl), (aP.cell (i := 1) rfl), (aP.cell (i := 2) rfl), trivial⟩ (fun aAN nG => ?_)
    clear gS
    refine At.call nG 39 #[.agg #[.slice Ag0 g.ow.length cg0, .slice Ag1 g.pr.length cg1, .slice Ag2 g.mv.length cg2], .slice bI st_.length bY, .int .i64 (j)] (some 69) (by kernel_rfl) (toldR_any (g := g) (la := st_) (k := j) (aU.wide (Nat.zero_le _) (by omega)) ((aR.rdR (by simp only [Enc.bytes]; omega)).wide (Nat.zero_le _) (by omega))  (by omega) (by omega) hrl (by omega)) ?_
    rintro e_ jY ⟨dN, eU, dO, eV, rfl, he, fQ, fR⟩
    refine ⟨_, rfl, _, rfl, fun aAO nH => ?_⟩
    clear nG; have cU := gr_ext he; have jZ := aR.lt; have := cU.size; replace aW := aW.gn cU; replace aU := aU.gn cU; replace aY := aY.gn cU; replace bE := bE.gn cU; replace aP := aP.gn cU; replace aZ := aZ.gn cU; replace bA := bA.gn cU; replace aM := aM.gn cU
    replace aR : OwnR jY (Sx (cD.heap.size) [obk (dN), obk (dO)]) bI bY 66 (st_ : List Pr2) := aR.grA cU (fun _ _ h => by cases h) (fun k hk hs => ⟨(fun e => by have := fQ.ge _ e; omega), (fun e => by have := fR.ge _ e; omega), hs⟩)
    replace fQ : OwnR jY (Sx (gR.heap.size) [obk (bI), obk (dO)]) dN eU 3 (((st_.take (j : Int).toNat).map Prod.fst) : List Int) := fQ.imp (fun g _ hs => ⟨(fun e => by have := jZ _ e; have := Sx_base hs; omega), hs⟩)
    replace fR : OwnR jY (Sx (gR.heap.size) [obk (bI), obk (dN)]) dO eV 3 (((st_.drop (j : Int).toNat).map Prod.fst) : List Int) := fR.imp (fun g _ hs => ⟨(fun e => by have := jZ _ e; have := Sx_base hs; omega), hs⟩)
    clear jZ; clear cU he
    refine At.store nH (t := 29) (b := w1.heap.size) (off := 0) (v := .agg #[.slice dN (((st_.take (j : Int).toNat).map Prod.fst).length) eU, .slice dO (((st_.drop (j : Int).toNat).map Prod.fst).length) eV, .int .i64 (topP g ((st_.drop (j : Int).toNat).map Prod.fst) % 2)]) (by kernel_rfl) aZ (by kernel_rfl) (fun aAP hV cE gT nI => ?_)
    clear nH
    replace gT : Bx hV (w1.heap.size) [.slice dN (((st_.take (j : Int).toNat).map Prod.fst).length) eU, .slice dO (((st_.drop (j : Int).toNat).map Prod.fst).length) eV, .int .i64 (topP g ((st_.drop (j : Int).toNat).map Prod.fst) % 2)] 29 := gT
    have := cE.size; replace aW := aW.gr cE (fun k h => by injection h; omega); replace aU := aU.gb cE (by omega); replace aY := aY.gb cE (by omega); replace bE := bE.gb cE (by omega); replace aP := aP.gb cE (by omega); replace bA := bA.gb cE (by omega); replace aM := aM.gb cE (by omega); replace aR := aR.gr cE (fun k hk e => by have := Sx_base hk; injection e; omega)
    replace fQ := fQ.gr cE (fun k hk e => by have := Sx_base hk; injection e; omega); replace fR := fR.gr cE (fun k hk e => by have := Sx_base hk; injection e; omega); clear aZ cE
    refine At.rd nI 1 [[]] [(11, .int .i64 (0))] [] (by kernel_rfl) trivial (fun aAQ nJ => ?_)
    clear nI
    refine At.done rfl ?_
    refine t_n ?_
    have tQ := nJ.sub (r := [(11, .int .i64 (0)), (10, .pointer (some ⟨w1.heap.size, 0, none⟩))]) ⟨rfl, rfl, trivial⟩; clear nJ
    refine wp_ret ?_
    refine b_r ?_
    refine t_r ?_
    refine t_r ?_
    refine b_r ?_
    refine t_r ?_
    refine b_r ?_
    refine t_r ?_
    refine b_r ?_
    refine ret_ tQ [[.slice dN (((st_.take (j : Int).toNat).map Prod.fst).length) eU, .slice dO (((st_.drop (j : Int).toNat).map Prod.fst).length) eV, .int .i64 (topP g ((st_.drop (j : Int).toNat).map Prod.fst) % 2)]] [.agg #[.slice dN (((st_.take (j : Int).toNat).map Prod.fst).length) eU, .slice dO (((st_.drop (j : Int).toNat).map Prod.fst).length) eV, .int .i64 (topP g ((st_.drop (j : Int).toNat).map Prod.fst) % 2)], .int .i64 (0)] [(hV.cell? ⟨w1.heap.size, 0, none⟩ = some (.slice dN (((st_.take (j : Int).toNat).map Prod.fst).length) eU)), (hV.cell? ⟨w1.heap.size, 1, none⟩ = some (.slice dO (((st_.drop (j : Int).toNat).map Prod.fst).length) eV)), (hV.cell? ⟨w1.heap.size, 2, none⟩ = some (.int .i64 (topP g ((st_.drop (j : Int).toNat).map Prod.fst) % 2)))] (by kernel_rfl) ⟨(gT.cell (i := 0) rfl), (gT.cell (i := 1) rfl), (gT.cell (i := 2) rfl), trivial⟩ ?_
    exact ⟨⟨_, _, _, 0⟩, run_play2 hok eT (hsc ▸ hst) (by omega) hk2, dN, eU, dO, eV, rfl, aW, (fQ.imp (fun g _ hs => ⟨hs.2.1, (by have := Sx_base hs; show w.heap.size ≤ g; omega)⟩)), (fR.imp (fun g _ hs => ⟨hs.2.1, (by have := Sx_base hs; show w.heap.size ≤ g; omega)⟩))⟩
   have aAR := of_decide_eq_false jX
   refine wp_skip ?_
   refine b_n ?_
   refine t_n ?_
   refine At.start ?_
   refine At.rd gS 3 [[], [.as_ (.int .i64 (j + 1))], []] [(15, .int .i64 (j + 1)), (59, .int .i64 (j + 1)), (58, .int .i64 (j))] [((.int .i64 (IntKind.i64.wrap (j + 1)) : Value) = .int .i64 (j + 1))] (by kernel_rfl) ⟨(w64 (by omega) (by omega)), trivial⟩ (fun aAS tR => ?_)
   clear gS
   refine At.done rfl ?_
   refine t_n ?_
   have tS := tR.sub (r := [(15, .int .i64 (j + 1)), (13, .slice bI st_.length bY), (14, .pointer (some ⟨aA.heap.size, 0, none⟩)), (4, .slice As2 sc2.length cs2), (10, .pointer (some ⟨w1.heap.size, 0, none⟩)), (5, .pointer (some ⟨w.heap.size, 0, none⟩)), (2, .int .i64 (p)), (3, .slice Am lm.length cm)]) ⟨rfl, rfl, rfl, rfl, rfl, rfl, rfl, rfl, trivial⟩
   exact ⟨_, (by omega), (j + 1), rfl, tS, aW, aU, aY, bE, aP, aZ, bA, aM, aR, (by omega), (by omega), (not_next hnj (by omega) (by omega) (by assumption)), (by omega)⟩
  have aAT := of_decide_eq_false jW
  refine wp_exit ?_
  refine t_e ?_
  refine t_e ?_
  refine b_e ?_
  refine t_n ?_
  refine wp_seq ?_
  have hin : (s1, s2) ∉ st_ := not_all hnj (by omega); have hne := hG.ne s1 (by omega) (by omega); have hrwl := row_len hG (i := s1) (by omega) (by omega)
  refine At.start ?_
  refine At.rd gP 2 [[], [.ld (.int .i64 (s1)), .ld (.int .i64 (s2))]] [(71, .agg #[.int .i64 (s1), .int .i64 (s2)]), (70, .slice bI st_.length bY)] [(dM.cell? ⟨aA.heap.size, 0, none⟩ = some (.int .i64 (s1))), (dM.cell? ⟨aA.heap.size, 1, none⟩ = some (.int .i64 (s2)))] (by kernel_rfl) ⟨(aM.cell (i := 0) rfl), (aM.cell (i := 1) rfl), trivial⟩ (fun aAU nK => ?_)
  clear gP
  refine At.seq nK 1 [[]] [(72, .slice (some ⟨dM.heap.size, 0, none⟩) 1 1)] (dM.alloc (.cells #[.int .i64 (s1), .int .i64 (s2)] 66 (0, 0))) [] (by kernel_rfl) trivial (fun aAV nL kA nM => ?_)
  clear nK; have cV := gr_alloc kA; have := cV.size; replace aW := aW.gn cV; replace aU := aU.gn cV; replace aY := aY.gn cV; replace bE := bE.gn cV; replace aP := aP.gn cV; replace aZ := aZ.gn cV; replace bA := bA.gn cV; replace aM := aM.gn cV; replace aR := aR.grN cV; have kB : Bx nL (dM.heap.size) [.int .i64 (s1), .int .i64 (s2)] 66 := Bx.new kA; have := kB.lt; clear cV kA
  have tT : (st_ ++ ([(s1, s2)])).length = (st_).length + ([(s1, s2)] : List Pr2).length := List.length_append
  simp only [List.length_cons, List.length_nil] at tT
  refine At.act nM (appendR (α := Pr2) (t := 64) (d := 73) (n := st_.length) (m := 1) (cc := 1) (xs := st_) (ys := [(s1, s2)]) (bytes := 16) (by first | rfl | omega | (simp; done) | (simp; omega)) (by first | rfl | omega | (simp; done) | (simp; omega)) (by kernel_rfl) rfl (by kernel_rfl) aR (Bx.srcR (l := ([(s1, s2)] : List Pr2)) kB rfl) (by simp only [List.length_cons, List.length_nil]; omega) (by simp only [List.length_cons, List.length_nil]; omega)) ?_
  rintro d_ v_ bZ ⟨rfl, aH, aI, hW⟩
  obtain rfl := hW.val
  have dE := hW.gr
  refine ⟨_, rfl, fun aAW nN => ?_⟩
  clear nM; clear kB; have fS := hW.own (Sx (cD.heap.size) []) (fun g _ hs => hs.2) (show cD.heap.size ≤ nL.heap.size by omega); have := dE.size; replace aW := aW.gr dE (fun k hk => by have := aR.ge k hk; omega); replace aU := aU.gr dE (fun k hk => by have := aR.ge k hk; omega); replace aY := aY.gr dE (fun k hk => by have := aR.ge k hk; omega)
  replace bE := bE.gr dE (fun k hk => by have := aR.ge k hk; omega); replace aP := aP.gr dE (fun e => by have := aR.ge _ e; omega); replace aZ := aZ.gr dE (fun e => by have := aR.ge _ e; omega); replace bA := bA.gr dE (fun k hk => by have := aR.ge k hk; omega); replace aM := aM.gr dE (fun e => by have := aR.ge _ e; omega); clear aR dE hW
  refine At.rd nN 1 [[]] [(13, .slice aH ((st_ ++ ([(s1, s2)])).length) aI)] [] (by kernel_rfl) trivial (fun aAX nO => ?_)
  clear nN
  refine At.done rfl ?_
  refine t_n ?_
  refine wp_seq ?_
  refine wp_seq ?_
  refine At.start ?_
  obtain ⟨hX, tU, _, _, tV⟩ := RdI.get aU.ow (s1) (by omega) (by omega)
  refine At.rd nO 8 [[], [.ld (.slice Ag0 g.ow.length cg0)], [], [.ld (.int .i64 (s1))], [.ad hX], [.ld (.int .i64 (gI g.ow (s1)))], [], []] [(81, .bool ((gI g.ow (s1) : Int) == p)), (80, .int .i64 (p)), (79, .int .i64 (gI g.ow (s1))), (78, .pointer (some (hX.add ((s1 : Int).toNat * 1)))), (77, .int .i64 (s1)), (76, .pointer (some ⟨aA.heap.size, 0, none⟩)), (75, .slice Ag0 g.ow.length cg0), (74, .pointer (some ⟨w.heap.size, 0, none⟩))] [(bZ.cell? ⟨w.heap.size, 0, none⟩ = some (.slice Ag0 g.ow.length cg0)), (bZ.cell? ⟨aA.heap.size, 0, none⟩ = some (.int .i64 (s1))), (Ag0 = some hX), (0 ≤ (s1 : Int)), ((s1 : Int) < (g.ow.length : Nat)), (bZ.cell? (hX.add ((s1 : Int).toNat * 1)) = some (.int .i64 (gI g.ow (s1))))] (by kernel_rfl) ⟨(aP.cell (i := 0) rfl), (aM.cell (i := 0) rfl), tU, (by omega), (by omega), tV, trivial⟩ (fun aAY nP => ?_)
  clear nO
  refine At.done rfl ?_
  refine t_n ?_
  have gU := nP.sub (r := [(81, .bool ((gI g.ow (s1) : Int) == p)), (13, .slice aH ((st_ ++ ([(s1, s2)])).length) aI), (14, .pointer (some ⟨aA.heap.size, 0, none⟩)), (4, .slice As2 sc2.length cs2), (10, .pointer (some ⟨w1.heap.size, 0, none⟩)), (5, .pointer (some ⟨w.heap.size, 0, none⟩)), (2, .int .i64 (p)), (3, .slice Am lm.length cm)]) ⟨rfl, rfl, rfl, rfl, rfl, rfl, rfl, rfl, trivial⟩
  clear nP
  refine cond_S gU (t := (gI g.ow (s1) : Int) == p) rfl (fun kC => ?_) (fun kC => ?_)
  ·have aAZ := eq_of_beq kC
   refine wp_seq ?_
   refine At.start ?_
   refine At.rd gU 1 [[]] [(16, .int .i64 (-1))] [] (by kernel_rfl) trivial (fun aBa kD => ?_)
   clear gU
   refine At.done rfl ?_
   refine t_n ?_
   refine wp_seq (cut (fun a_ w_ => ∃ (m : Int), (Frm 137 a_ [(16, .int .i64 (m)), (13, .slice aH ((st_ ++ ([(s1, s2)])).length) aI), (14, .pointer (some ⟨aA.heap.size, 0, none⟩)), (4, .slice As2 sc2.length cs2), (10, .pointer (some ⟨w1.heap.size, 0, none⟩)), (5, .pointer (some ⟨w.heap.size, 0, none⟩)), (2, .int .i64 (p)), (3, .slice Am lm.length cm)]) ∧ (Ext w w_) ∧ (RdG w_ 0 w.heap.size Ag0 Ag1 Ag2 cg0 cg1 cg2 g) ∧ (RdI w_ 0 w.heap.size Am lm) ∧ (RdI w_ 0 w.heap.size As ls) ∧ (Bx w_ (w.heap.size) [.slice Ag0 g.ow.length cg0, .slice Ag1 g.pr.length cg1, .slice Ag2 g.mv.length cg2] 25) ∧ (Bx w_ (w1.heap.size) [.slice none 0 0, .slice none 0 0, .int .i64 (0)] 29) ∧ (RdI w_ lo_ hi_ As2 sc2) ∧ (Bx w_ (aA.heap.size) [.int .i64 (s1), .int .i64 (s2)] 66) ∧ (OwnR w_ (Sx (cD.heap.size) []) aH aI 66 (st_ ++ ([(s1, s2)]) : List Pr2)) ∧ (m = if s1 < (lm.length : Int) then gI lm s1 else -1) ∧ (bZ.heap.size ≤ w_.heap.size)) ?_ ?_)
   ·refine wp_seq ?_
    refine At.start ?_
    refine At.rd kD 5 [[], [.ld (.int .i64 (s1))], [], [], []] [(86, .bool (decide ((s1 : Int) < ((lm.length : Nat) : Int)))), (85, .int .i64 (((lm.length : Nat) : Int))), (84, .slice Am lm.length cm), (83, .int .i64 (s1)), (82, .pointer (some ⟨aA.heap.size, 0, none⟩))] [(bZ.cell? ⟨aA.heap.size, 0, none⟩ = some (.int .i64 (s1)))] (by kernel_rfl) ⟨(aM.cell (i := 0) rfl), trivial⟩ (fun aBb hY => ?_)
    clear kD
    refine At.done rfl ?_
    refine t_n ?_
    refine cond_S hY (t := decide ((s1 : Int) < ((lm.length : Nat) : Int))) rfl (fun kE => ?_) (fun kE => ?_)
    ·have aBc := of_decide_eq_true kE
     refine At.start ?_
     obtain ⟨hZ, tW, _, _, tX⟩ := RdI.get aY (s1) (by omega) (by omega)
     refine At.rd hY 6 [[], [], [.ld (.int .i64 (s1))], [.ad hZ], [.ld (.int .i64 (gI lm (s1)))], []] [(16, .int .i64 (gI lm (s1))), (91, .int .i64 (gI lm (s1))), (90, .pointer (some (hZ.add ((s1 : Int).toNat * 1)))), (89, .int .i64 (s1)), (88, .pointer (some ⟨aA.heap.size, 0, none⟩)), (87, .slice Am lm.length cm)] [(bZ.cell? ⟨aA.heap.size, 0, none⟩ = some (.int .i64 (s1))), (Am = some hZ), (0 ≤ (s1 : Int)), ((s1 : Int) < (lm.length : Nat)), (bZ.cell? (hZ.add ((s1 : Int).toNat * 1)) = some (.int .i64 (gI lm (s1))))] (by kernel_rfl) ⟨(aM.cell (i := 0) rfl), tW, (by omega), (by omega), tX, trivial⟩ (fun aBd tY => ?_)
     clear hY
     refine At.done rfl ?_
     refine t_n ?_
     have tZ := tY.sub (r := [(16, .int .i64 (gI lm (s1))), (13, .slice aH ((st_ ++ ([(s1, s2)])).length) aI), (14, .pointer (some ⟨aA.heap.size, 0, none⟩)), (4, .slice As2 sc2.length cs2), (10, .pointer (some ⟨w1.heap.size, 0, none⟩)), (5, .pointer (some ⟨w.heap.size, 0, none⟩)), (2, .int .i64 (p)), (3, .slice Am lm.length cm)]) ⟨rfl, rfl, rfl, rfl, rfl, rfl, rfl, rfl, trivial⟩
     exact ⟨gI lm (s1), tZ, aW, aU, aY, bE, aP, aZ, bA, aM, fS, (by first | rw [if_pos (by omega)] | rw [if_neg (by omega)]), (by omega)⟩
    have aBe := of_decide_eq_false kE
    refine wp_skip ?_
    refine t_n ?_
    have uA := hY.sub (r := [(16, .int .i64 (-1)), (13, .slice aH ((st_ ++ ([(s1, s2)])).length) aI), (14, .pointer (some ⟨aA.heap.size, 0, none⟩)), (4, .slice As2 sc2.length cs2), (10, .pointer (some ⟨w1.heap.size, 0, none⟩)), (5, .pointer (some ⟨w.heap.size, 0, none⟩)), (2, .int .i64 (p)), (3, .slice Am lm.length cm)]) ⟨rfl, rfl, rfl, rfl, rfl, rfl, rfl, rfl, trivial⟩
    exact ⟨-1, uA, aW, aU, aY, bE, aP, aZ, bA, aM, fS, (by first | rw [if_pos (by omega)] | rw [if_neg (by omega)]), (by omega)⟩
   clear aU; clear aY; clear bE; clear aP; clear aZ; clear bA; clear aM; clear fS; clear kD aW
   intro aBf iA ⟨m, nQ, dP, eA, eW, eX, cW, eB, eY, eC, nR, hm, i390⟩
   have := dP.size; have := cW.lt; have := eB.lt; have := eC.lt
   refine wp_seq ?_
   refine At.start ?_
   refine At.rd nQ 4 [[.ld (.slice Ag0 g.ow.length cg0), .ld (.slice Ag1 g.pr.length cg1), .ld (.slice Ag2 g.mv.length cg2)], [], [.ld (.int .i64 (s1))], []] [(95, .int .i64 (m)), (94, .int .i64 (s1)), (93, .pointer (some ⟨aA.heap.size, 0, none⟩)), (92, .agg #[.slice Ag0 g.ow.length cg0, .slice Ag1 g.pr.length cg1, .slice Ag2 g.mv.length cg2])] [(iA.cell? ⟨w.heap.size, 0, none⟩ = some (.slice Ag0 g.ow.length cg0)), (iA.cell? ⟨w.heap.size, 1, none⟩ = some (.slice Ag1 g.pr.length cg1)), (iA.cell? ⟨w.heap.size, 2, none⟩ = some (.slice Ag2 g.mv.length cg2)), (iA.cell? ⟨aA.heap.size, 0, none⟩ = some (.int .i64 (s1)))] (by kernel_rfl) ⟨(cW.cell (i := 0) rfl), (cW.cell (i := 1) rfl), (cW.cell (i := 2) rfl), (eC.cell (i := 0) rfl), trivial⟩ (fun aBg nS => ?_)
   clear nQ
   refine At.call nS 40 #[.agg #[.slice Ag0 g.ow.length cg0, .slice Ag1 g.pr.length cg1, .slice Ag2 g.mv.length cg2], .int .i64 (s1), .int .i64 (m)] (some 96) (by kernel_rfl) (goes_any (p := s1) (v := m) (eA.wide (Nat.zero_le _) (by omega)) (by omega) (by omega)) ?_
   rintro e_ aBh ⟨rfl, he⟩
   refine ⟨_, rfl, _, rfl, fun aBi nT => ?_⟩
   clear nS; have cX := gr_ext he; have := cX.size; replace dP := dP.gn cX; replace eA := eA.gn cX; replace eW := eW.gn cX; replace eX := eX.gn cX; replace cW := cW.gn cX; replace eB := eB.gn cX; replace eY := eY.gn cX; replace eC := eC.gn cX; have gV := nR.gn cX; clear nR; clear cX he
   refine At.rd nT 1 [[]] [(17, .bool (decide (m ∈ gL g.mv s1)))] [] (by kernel_rfl) trivial (fun aBj nU => ?_)
   clear nT
   refine At.done rfl ?_
   refine t_n ?_
   refine wp_seq ?_
   refine wp_seq ?_
   refine At.start ?_
   refine At.rd nU 2 [[], []] [(98, .bool (!(decide (m ∈ gL g.mv s1)))), (97, .bool (decide (m ∈ gL g.mv s1)))] [] (by kernel_rfl) trivial (fun aBk gW => ?_)
   clear nU
   refine At.done rfl ?_
   refine t_n ?_
   refine cond_S gW (t := !(decide (m ∈ gL g.mv s1))) rfl (fun eZ => ?_) (fun eZ => ?_)
   ·have uB : (decide (m ∈ gL g.mv s1)) = false := by first | exact Eq.mp (Bool.not_eq_true' _) eZ | exact Eq.mp (Bool.not_eq_false' _) eZ | simpa using eZ
    have aBl := of_decide_eq_false uB
    refine wp_seq ?_
    have hno := next_ownno (g := g) (p := p) (mv := lm) (sc := sc2) (x := s1) (y := s2) (m := m) (by omega) hm (by assumption)
    refine At.start ?_
    refine At.rd gW 1 [[]] [(99, .agg #[.slice none 0 0, .slice none 0 0, .int .i64 (0)])] [] (by kernel_rfl) trivial (fun aBm nV => ?_)
    clear gW
    refine At.store nV (t := 29) (b := w1.heap.size) (off := 0) (v := .agg #[.slice none 0 0, .slice none 0 0, .int .i64 (0)]) (by kernel_rfl) eB (by kernel_rfl) (fun aBn iB dF gX nW => ?_)
    clear nV; replace gX : Bx iB (w1.heap.size) [.slice none 0 0, .slice none 0 0, .int .i64 (0)] 29 := gX; have := dF.size; replace dP := dP.gr dF (fun k h => by injection h; omega); replace eA := eA.gb dF (by omega); replace eW := eW.gb dF (by omega); replace eX := eX.gb dF (by omega); replace cW := cW.gb dF (by omega); replace eY := eY.gb dF (by omega); replace eC := eC.gb dF (by omega)
    replace gV := gV.gr dF (fun k hk e => by have := Sx_base hk; injection e; omega); clear eB dF
    refine At.rd nW 1 [[]] [(11, .int .i64 (16))] [] (by kernel_rfl) trivial (fun aBo nX => ?_)
    clear nW
    refine At.done rfl ?_
    refine t_n ?_
    have uC := nX.sub (r := [(11, .int .i64 (16)), (10, .pointer (some ⟨w1.heap.size, 0, none⟩))]) ⟨rfl, rfl, trivial⟩; clear nX
    refine wp_ret ?_
    refine t_r ?_
    refine t_r ?_
    refine b_r ?_
    refine t_r ?_
    refine b_r ?_
    refine ret_ uC [[.slice none 0 0, .slice none 0 0, .int .i64 (0)]] [.agg #[.slice none 0 0, .slice none 0 0, .int .i64 (0)], .int .i64 (16)] [(iB.cell? ⟨w1.heap.size, 0, none⟩ = some (.slice none 0 0)), (iB.cell? ⟨w1.heap.size, 1, none⟩ = some (.slice none 0 0)), (iB.cell? ⟨w1.heap.size, 2, none⟩ = some (.int .i64 (0)))] (by kernel_rfl) ⟨(gX.cell (i := 0) rfl), (gX.cell (i := 1) rfl), (gX.cell (i := 2) rfl), trivial⟩ ?_
    exact ⟨⟨[], [], 0, 16⟩, .move hok eT (hsc ▸ hst) hin (hsc ▸ hno), none, 0, none, 0, rfl, dP, OwnR.nil, OwnR.nil⟩
   have uD : (decide (m ∈ gL g.mv s1)) = true := by first | exact Eq.mp (Bool.not_eq_true' _) eZ | exact Eq.mp (Bool.not_eq_false' _) eZ | simpa using eZ
   have aBp := of_decide_eq_true uD
   refine wp_skip ?_
   refine t_n ?_
   refine wp_seq ?_
   refine At.start ?_
   refine At.rd gW 2 [[], []] [(101, .pointer (some ⟨aA.heap.size, 0, none⟩)), (100, .int .i64 (m))] [] (by kernel_rfl) trivial (fun aBq nY => ?_)
   clear gW
   refine At.store nY (t := 3) (b := aA.heap.size) (off := 0) (v := .int .i64 (m)) (by kernel_rfl) eC (by kernel_rfl) (fun aBr uE dG kF nZ => ?_)
   clear nY; replace kF : Bx uE (aA.heap.size) [.int .i64 (m), .int .i64 (s2)] 66 := kF; have := dG.size; replace dP := dP.gr dG (fun k h => by injection h; omega); replace eA := eA.gb dG (by omega); replace eW := eW.gb dG (by omega); replace eX := eX.gb dG (by omega); replace cW := cW.gb dG (by omega); replace eB := eB.gb dG (by omega); replace eY := eY.gb dG (by omega)
   replace gV := gV.gr dG (fun k hk e => by have := Sx_base hk; injection e; omega); clear eC dG
   refine At.done rfl ?_
   refine t_n ?_
   refine wp_exit ?_
   refine t_e ?_
   refine b_e ?_
   refine t_n ?_
   have uF := nZ.as 13 (.slice aH ((st_ ++ ([(s1, s2)])).length) aI) (.slice aH ((st_ ++ ([(s1, s2)]) : List Pr2).length) aI) rfl (slice_len (by first | rfl | omega | (simp; done) | (simp; omega)))
   clear nZ
   have uG := uF.sub (r := [(13, .slice aH ((st_ ++ ([(s1, s2)]) : List Pr2).length) aI), (14, .pointer (some ⟨aA.heap.size, 0, none⟩)), (4, .slice As2 sc2.length cs2), (10, .pointer (some ⟨w1.heap.size, 0, none⟩)), (5, .pointer (some ⟨w.heap.size, 0, none⟩)), (2, .int .i64 (p)), (3, .slice Am lm.length cm)]) ⟨rfl, rfl, rfl, rfl, rfl, rfl, rfl, trivial⟩
   exact ⟨_, (by rw [hm215]; simp only [List.length_append, List.length_cons, List.length_nil]; omega), m, s2, (st_ ++ ([(s1, s2)]) : List Pr2), aH, aI, rfl, uG, dP, eA, eW, eX, cW, eB, eY, kF, gV, (.push hst hin (by first | exact next_own (by omega) hm (by assumption) | exact next_oth (by omega) hq)), (by omega)⟩
  have aBs := ne_of_beq_false kC
  refine wp_skip ?_
  refine t_n ?_
  refine wp_seq ?_
  refine At.start ?_
  obtain ⟨iC, kG, kH, uH, _, _, uI, aBt, oA⟩ := RdII.get aU.mv (s1) (by omega) (by omega)
  have aBu := oA.len
  refine At.rd gU 8 [[], [.ld (.slice Ag2 g.mv.length cg2)], [], [.ld (.int .i64 (s1))], [.ad iC], [.ld (.slice kG ((gL g.mv (s1)).length) kH)], [], []] [(18, .int .i64 ((((gL g.mv (s1)).length : Nat) : Int))), (108, .int .i64 ((((gL g.mv (s1)).length : Nat) : Int))), (107, .slice kG ((gL g.mv (s1)).length) kH), (106, .pointer (some (iC.add ((s1 : Int).toNat * 1)))), (105, .int .i64 (s1)), (104, .pointer (some ⟨aA.heap.size, 0, none⟩)), (103, .slice Ag2 g.mv.length cg2), (102, .pointer (some ⟨w.heap.size, 2, none⟩))] [(bZ.cell? ⟨w.heap.size, 2, none⟩ = some (.slice Ag2 g.mv.length cg2)), (bZ.cell? ⟨aA.heap.size, 0, none⟩ = some (.int .i64 (s1))), (Ag2 = some iC), (0 ≤ (s1 : Int)), ((s1 : Int) < (g.mv.length : Nat)), (bZ.cell? (iC.add ((s1 : Int).toNat * 1)) = some (.slice kG ((gL g.mv (s1)).length) kH))] (by kernel_rfl) ⟨(aP.cell (i := 2) rfl), (aM.cell (i := 0) rfl), uH, (by omega), (by omega), uI, trivial⟩ (fun aBv oB => ?_)
  clear gU
  refine At.done rfl ?_
  refine t_n ?_
  clear oA
  refine wp_seq ?_
  refine At.start ?_
  obtain ⟨iD, uJ, _, _, uK⟩ := RdI.get bA (s2) (by omega) (by omega)
  refine At.rd oB 8 [[], [], [.ld (.int .i64 (s2))], [.ad iD], [.ld (.int .i64 (gI sc2 (s2)))], [], [], []] [(19, .int .i64 ((gI sc2 (s2) : Int).tmod (((gL g.mv (s1)).length : Nat) : Int))), (115, .int .i64 ((gI sc2 (s2) : Int).tmod (((gL g.mv (s1)).length : Nat) : Int))), (114, .int .i64 ((((gL g.mv (s1)).length : Nat) : Int))), (113, .int .i64 (gI sc2 (s2))), (112, .pointer (some (iD.add ((s2 : Int).toNat * 1)))), (111, .int .i64 (s2)), (110, .pointer (some ⟨aA.heap.size, 1, none⟩)), (109, .slice As2 sc2.length cs2)] [(bZ.cell? ⟨aA.heap.size, 1, none⟩ = some (.int .i64 (s2))), (As2 = some iD), (0 ≤ (s2 : Int)), ((s2 : Int) < (sc2.length : Nat)), (bZ.cell? (iD.add ((s2 : Int).toNat * 1)) = some (.int .i64 (gI sc2 (s2)))), (((((gL g.mv (s1)).length : Nat) : Int) : Int) ≠ 0)] (by kernel_rfl) ⟨(aM.cell (i := 1) rfl), uJ, (by omega), (by omega), uK, (by omega), trivial⟩ (fun aBw kI => ?_)
  clear oB
  refine At.done rfl ?_
  refine t_n ?_
  refine wp_seq (cut (fun a_ w_ => ∃ (q : Int), (Frm 137 a_ [(19, .int .i64 (q)), (13, .slice aH ((st_ ++ ([(s1, s2)])).length) aI), (14, .pointer (some ⟨aA.heap.size, 0, none⟩)), (4, .slice As2 sc2.length cs2), (10, .pointer (some ⟨w1.heap.size, 0, none⟩)), (5, .pointer (some ⟨w.heap.size, 0, none⟩)), (2, .int .i64 (p)), (3, .slice Am lm.length cm)]) ∧ (Ext w w_) ∧ (RdG w_ 0 w.heap.size Ag0 Ag1 Ag2 cg0 cg1 cg2 g) ∧ (RdI w_ 0 w.heap.size Am lm) ∧ (RdI w_ 0 w.heap.size As ls) ∧ (Bx w_ (w.heap.size) [.slice Ag0 g.ow.length cg0, .slice Ag1 g.pr.length cg1, .slice Ag2 g.mv.length cg2] 25) ∧ (Bx w_ (w1.heap.size) [.slice none 0 0, .slice none 0 0, .int .i64 (0)] 29) ∧ (RdI w_ lo_ hi_ As2 sc2) ∧ (Bx w_ (aA.heap.size) [.int .i64 (s1), .int .i64 (s2)] 66) ∧ (OwnR w_ (Sx (cD.heap.size) []) aH aI 66 (st_ ++ ([(s1, s2)]) : List Pr2)) ∧ (q = if Int.tmod (gI sc2 s2) ((gL g.mv s1).length : Int) < 0 then Int.tmod (gI sc2 s2) ((gL g.mv s1).length : Int) + ((gL g.mv s1).length : Int) else Int.tmod (gI sc2 s2) ((gL g.mv s1).length : Int)) ∧ (0 ≤ q) ∧ (q < ((gL g.mv s1).length : Int)) ∧ (bZ.heap.size ≤ w_.heap.size)) ?_ ?_)
  ·refine wp_seq ?_
   have ht1 := Int.lt_tmod_of_pos (gI sc2 s2) (show 0 < ((gL g.mv s1).length : Int) by omega); have ht2 := Int.tmod_lt_of_pos (gI sc2 s2) (show 0 < ((gL g.mv s1).length : Int) by omega)
   refine At.start ?_
   refine At.rd kI 2 [[], []] [(117, .bool (decide (((gI sc2 (s2) : Int).tmod (((gL g.mv (s1)).length : Nat) : Int) : Int) < 0))), (116, .int .i64 ((gI sc2 (s2) : Int).tmod (((gL g.mv (s1)).length : Nat) : Int)))] [] (by kernel_rfl) trivial (fun aBx oC => ?_)
   clear kI
   refine At.done rfl ?_
   refine t_n ?_
   have iE := oC.sub (r := [(117, .bool (decide (((gI sc2 (s2) : Int).tmod (((gL g.mv (s1)).length : Nat) : Int) : Int) < 0))), (19, .int .i64 ((gI sc2 (s2) : Int).tmod (((gL g.mv (s1)).length : Nat) : Int))), (18, .int .i64 ((((gL g.mv (s1)).length : Nat) : Int))), (13, .slice aH ((st_ ++ ([(s1, s2)])).length) aI), (14, .pointer (some ⟨aA.heap.size, 0, none⟩)), (4, .slice As2 sc2.length cs2), (10, .pointer (some ⟨w1.heap.size, 0, none⟩)), (5, .pointer (some ⟨w.heap.size, 0, none⟩)), (2, .int .i64 (p)), (3, .slice Am lm.length cm)]) ⟨rfl, rfl, rfl, rfl, rfl, rfl, rfl, rfl, rfl, rfl, trivial⟩
   clear oC
   refine cond_S iE (t := decide (((gI sc2 (s2) : Int).tmod (((gL g.mv (s1)).length : Nat) : Int) : Int) < 0)) rfl (fun kJ => ?_) (fun kJ => ?_)
   ·have aBy := of_decide_eq_true kJ
    refine At.start ?_
    refine At.rd iE 4 [[], [], [.as_ (.int .i64 (((gI sc2 (s2) : Int).tmod (((gL g.mv (s1)).length : Nat) : Int)) + (((gL g.mv (s1)).length : Nat) : Int)))], []] [(19, .int .i64 (((gI sc2 (s2) : Int).tmod (((gL g.mv (s1)).length : Nat) : Int)) + (((gL g.mv (s1)).length : Nat) : Int))), (120, .int .i64 (((gI sc2 (s2) : Int).tmod (((gL g.mv (s1)).length : Nat) : Int)) + (((gL g.mv (s1)).length : Nat) : Int))), (119, .int .i64 ((((gL g.mv (s1)).length : Nat) : Int))), (118, .int .i64 ((gI sc2 (s2) : Int).tmod (((gL g.mv (s1)).length : Nat) : Int)))] [((.int .i64 (IntKind.i64.wrap (((gI sc2 (s2) : Int).tmod (((gL g.mv (s1)).length : Nat) : Int)) + (((gL g.mv (s1)).length : Nat) : Int))) : Value) = .int .i64 (((gI sc2 (s2) : Int).tmod (((gL g.mv (s1)).length : Nat) : Int)) + (((gL g.mv (s1)).length : Nat) : Int)))] (by kernel_rfl) ⟨(w64 (by omega) (by omega)), trivial⟩ (fun aBz uL => ?_)
    clear iE
    refine At.done rfl ?_
    refine t_n ?_
    have uM := uL.sub (r := [(19, .int .i64 (((gI sc2 (s2) : Int).tmod (((gL g.mv (s1)).length : Nat) : Int)) + (((gL g.mv (s1)).length : Nat) : Int))), (13, .slice aH ((st_ ++ ([(s1, s2)])).length) aI), (14, .pointer (some ⟨aA.heap.size, 0, none⟩)), (4, .slice As2 sc2.length cs2), (10, .pointer (some ⟨w1.heap.size, 0, none⟩)), (5, .pointer (some ⟨w.heap.size, 0, none⟩)), (2, .int .i64 (p)), (3, .slice Am lm.length cm)]) ⟨rfl, rfl, rfl, rfl, rfl, rfl, rfl, rfl, trivial⟩
    exact ⟨((gI sc2 (s2) : Int).tmod (((gL g.mv (s1)).length : Nat) : Int)) + (((gL g.mv (s1)).length : Nat) : Int), uM, aW, aU, aY, bE, aP, aZ, bA, aM, fS, (by first | rw [if_pos (by omega)] | rw [if_neg (by omega)]), (by omega), (by omega), (by omega)⟩
   have aBA := of_decide_eq_false kJ
   refine wp_skip ?_
   refine t_n ?_
   have uN := iE.sub (r := [(19, .int .i64 ((gI sc2 (s2) : Int).tmod (((gL g.mv (s1)).length : Nat) : Int))), (13, .slice aH ((st_ ++ ([(s1, s2)])).length) aI), (14, .pointer (some ⟨aA.heap.size, 0, none⟩)), (4, .slice As2 sc2.length cs2), (10, .pointer (some ⟨w1.heap.size, 0, none⟩)), (5, .pointer (some ⟨w.heap.size, 0, none⟩)), (2, .int .i64 (p)), (3, .slice Am lm.length cm)]) ⟨rfl, rfl, rfl, rfl, rfl, rfl, rfl, rfl, trivial⟩
   exact ⟨(gI sc2 (s2) : Int).tmod (((gL g.mv (s1)).length : Nat) : Int), uN, aW, aU, aY, bE, aP, aZ, bA, aM, fS, (by first | rw [if_pos (by omega)] | rw [if_neg (by omega)]), (by omega), (by omega), (by omega)⟩
  clear aU; clear aY; clear bE; clear aP; clear aZ; clear bA; clear aM; clear fS; clear kI aW
  intro aBB uO ⟨q, oD, bO, bJ, bS, bT, bK, bP, bU, bF, oE, hq, i489, i490, i491⟩
  have := bO.size; have := bK.lt; have := bP.lt; have := bF.lt
  obtain ⟨kK, fT⟩ : ∃ c : List (Addr × Value), c = [(⟨w.heap.size, 2, none⟩, (.slice Ag2 g.mv.length cg2))] := ⟨_, rfl⟩
  have oF : HoldsC kK uO := by rw [fT]; exact ⟨(bK.cell (i := 2) rfl), trivial⟩
  refine AtH.start kK 17 #[false, false, false, false, false, false, false, false, false, false, false, false, false, false, false, false, false] (by kernel_rfl) rfl rfl (fun aD oG => ?_)
  have cF := gr_drew oG; have aF := oF.gr cF; have := cF.size; replace bO := bO.gn cF; replace bJ := bJ.gn cF; replace bS := bS.gn cF; replace bT := bT.gn cF; replace bK := bK.gn cF; replace bP := bP.gn cF; replace bU := bU.gn cF; replace bF := bF.gn cF; have cG := oE.gn cF; clear oE; clear cF oG oF
  refine AtH.rd (by kernel_rfl) (fun d v c a w h => by cases d <;> exact h) aF [0, 1, 2, 6, 9, 12, 13] [[], [.ld (.slice Ag2 g.mv.length cg2)], [], [], [], [], []] [(134, .int .i64 (((sc2.length : Nat) : Int))), (133, .slice As2 sc2.length cs2), (130, .pointer (some ⟨aA.heap.size, 1, none⟩)), (127, .int .i64 (q)), (123, .pointer (some ⟨aA.heap.size, 0, none⟩)), (122, .slice Ag2 g.mv.length cg2), (121, .pointer (some ⟨w.heap.size, 2, none⟩))] #[true, true, true, false, false, false, true, false, false, true, false, false, true, true, false, false, false] [(∃ j_ : Nat, kK[j_]? = some (⟨w.heap.size, 2, none⟩, (.slice Ag2 g.mv.length cg2)))] 10 oD (by kernel_rfl) ⟨⟨0, by rw [fT]; rfl⟩, trivial⟩ (fun aBC iF => ?_)
  clear oD
  refine AtH.all [3, 10] 9 (by kernel_rfl) (by simp) ⟨?_, ?_, trivial⟩
  ·refine OneH.seq iF [[.ld (.int .i64 (s1))]] [(124, .int .i64 (s1))] aD [(aD.cell? ⟨aA.heap.size, 0, none⟩ = some (.int .i64 (s1)))] #[true, true, true, true, false, false, true, false, false, true, false, false, true, true, false, false, false] (by kernel_rfl) (by kernel_rfl) (by kernel_rfl) ⟨(bF.cell (i := 0) rfl), trivial⟩ (fun aBD uP uQ oH => ?_)
   obtain rfl : aD = uP := uQ.symm
   clear iF
   refine ⟨aF, ?_⟩
   obtain ⟨gY, eD, fU, uR, _, _, oI, aBE, dQ⟩ := RdII.get bJ.mv (s1) (by omega) (by omega)
   have aBF := dQ.len
   refine AtH.rd (by kernel_rfl) (fun d v c a w h => by cases d <;> exact h) aF [4] [[.ad gY]] [(125, .pointer (some (gY.add ((s1 : Int).toNat * 1))))] #[true, true, true, true, true, false, true, false, false, true, false, false, true, true, false, false, false] [(Ag2 = some gY), (0 ≤ (s1 : Int)), ((s1 : Int) < (g.mv.length : Nat))] 8 oH (by kernel_rfl) ⟨uR, (by omega), (by omega), trivial⟩ (fun aBG iG => ?_)
   clear oH
   refine AtH.all [5, 10] 7 (by kernel_rfl) (by simp) ⟨?_, ?_, trivial⟩
   ·refine OneH.seq iG [[.ld (.slice eD ((gL g.mv (s1)).length) fU)]] [(126, .slice eD ((gL g.mv (s1)).length) fU)] aD [(aD.cell? (gY.add ((s1 : Int).toNat * 1)) = some (.slice eD ((gL g.mv (s1)).length) fU))] #[true, true, true, true, true, true, true, false, false, true, false, false, true, true, false, false, false] (by kernel_rfl) (by kernel_rfl) (by kernel_rfl) ⟨oI, trivial⟩ (fun aBH uS uT oJ => ?_)
    obtain rfl : aD = uS := uT.symm
    clear iG
    refine ⟨aF, ?_⟩
    obtain ⟨gZ, uU, _, _, oK⟩ := RdI.get dQ (q) (by omega) (by omega)
    refine AtH.rd (by kernel_rfl) (fun d v c a w h => by cases d <;> exact h) aF [7] [[.ad gZ]] [(128, .pointer (some (gZ.add ((q : Int).toNat * 1))))] #[true, true, true, true, true, true, true, true, false, true, false, false, true, true, false, false, false] [(eD = some gZ), (0 ≤ (q : Int)), ((q : Int) < ((gL g.mv (s1)).length : Nat))] 6 oJ (by kernel_rfl) ⟨uU, (by omega), (by omega), trivial⟩ (fun aBI iH => ?_)
    clear oJ
    refine AtH.all [8, 10] 5 (by kernel_rfl) (by simp) ⟨?_, ?_, trivial⟩
    ·refine OneH.seq iH [[.ld (.int .i64 (gI (gL g.mv (s1)) (q)))]] [(129, .int .i64 (gI (gL g.mv (s1)) (q)))] aD [(aD.cell? (gZ.add ((q : Int).toNat * 1)) = some (.int .i64 (gI (gL g.mv (s1)) (q))))] #[true, true, true, true, true, true, true, true, true, true, false, false, true, true, false, false, false] (by kernel_rfl) (by kernel_rfl) (by kernel_rfl) ⟨oK, trivial⟩ (fun aBJ uV uW oL => ?_)
     obtain rfl : aD = uV := uW.symm
     clear iH
     refine ⟨aF, ?_⟩
     refine AtH.all [10] 4 (by kernel_rfl) (by simp) ⟨?_, trivial⟩
     refine OneH.seq oL [[.ld (.int .i64 (s2))]] [(131, .int .i64 (s2))] aD [(aD.cell? ⟨aA.heap.size, 1, none⟩ = some (.int .i64 (s2)))] #[true, true, true, true, true, true, true, true, true, true, true, false, true, true, false, false, false] (by kernel_rfl) (by kernel_rfl) (by kernel_rfl) ⟨(bF.cell (i := 1) rfl), trivial⟩ (fun aBK uX uY oM => ?_)
     obtain rfl : aD = uX := uY.symm
     clear oL
     refine ⟨aF, ?_⟩
     refine AtH.rd (by kernel_rfl) (fun d v c a w h => by cases d <;> exact h) aF [11] [[.as_ (.int .i64 (s2 + 1))]] [(132, .int .i64 (s2 + 1))] #[true, true, true, true, true, true, true, true, true, true, true, true, true, true, false, false, false] [((.int .i64 (IntKind.i64.wrap (s2 + 1)) : Value) = .int .i64 (s2 + 1))] 3 oM (by kernel_rfl) ⟨(w64 (by omega) (by omega)), trivial⟩ (fun aBL oN => ?_)
     clear oM
     refine AtH.rd (by kernel_rfl) (fun d v c a w h => by cases d <;> exact h) aF [14] [[.as_ (.int .i64 ((s2 + 1 : Int) % ((sc2.length : Nat) : Int)))]] [(135, .int .i64 ((s2 + 1 : Int) % ((sc2.length : Nat) : Int)))] #[true, true, true, true, true, true, true, true, true, true, true, true, true, true, true, false, false] [((((sc2.length : Nat) : Int) : Int) ≠ 0), ((.int .i64 ((s2 + 1 : Int).tmod ((sc2.length : Nat) : Int)) : Value) = .int .i64 ((s2 + 1 : Int) % ((sc2.length : Nat) : Int)))] 2 oN (by kernel_rfl) ⟨(by omega), (congrArg (Value.int .i64) (Int.tmod_eq_emod_of_nonneg (by omega))), trivial⟩ (fun aBM oO => ?_)
     clear oN
     refine AtH.rd (by kernel_rfl) (fun d v c a w h => by cases d <;> exact h) aF [15] [[]] [(136, .agg #[.int .i64 (gI (gL g.mv (s1)) (q)), .int .i64 ((s2 + 1 : Int) % ((sc2.length : Nat) : Int))])] #[true, true, true, true, true, true, true, true, true, true, true, true, true, true, true, true, false] [] 1 oO (by kernel_rfl) trivial (fun aBN oP => ?_)
     clear oO
     refine AtH.all [16] 0 (by kernel_rfl) (by simp) ⟨?_, trivial⟩
     refine OneH.store oP (t := 66) (b := aA.heap.size) (off := 0) (v := .agg #[.int .i64 (gI (gL g.mv (s1)) (q)), .int .i64 ((s2 + 1 : Int) % ((sc2.length : Nat) : Int))]) #[true, true, true, true, true, true, true, true, true, true, true, true, true, true, true, true, true] (by kernel_rfl) (by kernel_rfl) bF (by kernel_rfl) (fun aBO uZ cH kL oQ => ?_)
     clear oP; replace kL : Bx uZ (aA.heap.size) [.int .i64 (gI (gL g.mv (s1)) (q)), .int .i64 ((s2 + 1 : Int) % ((sc2.length : Nat) : Int))] 66 := kL; have oR := aF.gr' cH (by rw [fT]; exact ⟨(by simp only [add_block]; omega), trivial⟩); have := cH.size; replace bO := bO.gr cH (fun k h => by injection h; omega); replace bJ := bJ.gb cH (by omega); replace bS := bS.gb cH (by omega)
     replace bT := bT.gb cH (by omega); replace bK := bK.gb cH (by omega); replace bP := bP.gb cH (by omega); replace bU := bU.gb cH (by omega); replace cG := cG.gr cH (fun k hk e => by have := Sx_base hk; injection e; omega); replace dQ := dQ.gb cH (by omega); clear bF cH
     refine ⟨oR, ?_⟩
     refine AtH.done (by kernel_rfl) ?_
     clear oR
     refine b_n ?_
     refine t_n ?_
     have vA := oQ.as 13 (.slice aH ((st_ ++ ([(s1, s2)])).length) aI) (.slice aH ((st_ ++ ([(s1, s2)]) : List Pr2).length) aI) rfl (slice_len (by first | rfl | omega | (simp; done) | (simp; omega)))
     clear oQ
     have vB := vA.sub (r := [(13, .slice aH ((st_ ++ ([(s1, s2)]) : List Pr2).length) aI), (14, .pointer (some ⟨aA.heap.size, 0, none⟩)), (4, .slice As2 sc2.length cs2), (10, .pointer (some ⟨w1.heap.size, 0, none⟩)), (5, .pointer (some ⟨w.heap.size, 0, none⟩)), (2, .int .i64 (p)), (3, .slice Am lm.length cm)]) ⟨rfl, rfl, rfl, rfl, rfl, rfl, rfl, trivial⟩
     exact ⟨_, (by rw [hm215]; simp only [List.length_append, List.length_cons, List.length_nil]; omega), gI (gL g.mv (s1)) (q), (s2 + 1 : Int) % ((sc2.length : Nat) : Int), (st_ ++ ([(s1, s2)]) : List Pr2), aH, aI, rfl, vB, bO, bJ, bS, bT, bK, bP, bU, kL, cG, (.push hst hin (by first | exact next_own (by omega) hm (by assumption) | exact next_oth (by omega) hq)), (by omega)⟩
    refine OneH.seq iH [[.ld (.int .i64 (s2))]] [(131, .int .i64 (s2))] aD [(aD.cell? ⟨aA.heap.size, 1, none⟩ = some (.int .i64 (s2)))] #[true, true, true, true, true, true, true, true, false, true, true, false, true, true, false, false, false] (by kernel_rfl) (by kernel_rfl) (by kernel_rfl) ⟨(bF.cell (i := 1) rfl), trivial⟩ (fun aBP vC vD oS => ?_)
    obtain rfl : aD = vC := vD.symm
    clear iH
    refine ⟨aF, ?_⟩
    refine AtH.rd (by kernel_rfl) (fun d v c a w h => by cases d <;> exact h) aF [11] [[.as_ (.int .i64 (s2 + 1))]] [(132, .int .i64 (s2 + 1))] #[true, true, true, true, true, true, true, true, false, true, true, true, true, true, false, false, false] [((.int .i64 (IntKind.i64.wrap (s2 + 1)) : Value) = .int .i64 (s2 + 1))] 4 oS (by kernel_rfl) ⟨(w64 (by omega) (by omega)), trivial⟩ (fun aBQ oT => ?_)
    clear oS
    refine AtH.rd (by kernel_rfl) (fun d v c a w h => by cases d <;> exact h) aF [14] [[.as_ (.int .i64 ((s2 + 1 : Int) % ((sc2.length : Nat) : Int)))]] [(135, .int .i64 ((s2 + 1 : Int) % ((sc2.length : Nat) : Int)))] #[true, true, true, true, true, true, true, true, false, true, true, true, true, true, true, false, false] [((((sc2.length : Nat) : Int) : Int) ≠ 0), ((.int .i64 ((s2 + 1 : Int).tmod ((sc2.length : Nat) : Int)) : Value) = .int .i64 ((s2 + 1 : Int) % ((sc2.length : Nat) : Int)))] 3 oT (by kernel_rfl) ⟨(by omega), (congrArg (Value.int .i64) (Int.tmod_eq_emod_of_nonneg (by omega))), trivial⟩ (fun aBR oU => ?_)
    clear oT
    refine AtH.all [8] 2 (by kernel_rfl) (by simp) ⟨?_, trivial⟩
    refine OneH.seq oU [[.ld (.int .i64 (gI (gL g.mv (s1)) (q)))]] [(129, .int .i64 (gI (gL g.mv (s1)) (q)))] aD [(aD.cell? (gZ.add ((q : Int).toNat * 1)) = some (.int .i64 (gI (gL g.mv (s1)) (q))))] #[true, true, true, true, true, true, true, true, true, true, true, true, true, true, true, false, false] (by kernel_rfl) (by kernel_rfl) (by kernel_rfl) ⟨oK, trivial⟩ (fun aBS vE vF oV => ?_)
    obtain rfl : aD = vE := vF.symm
    clear oU
    refine ⟨aF, ?_⟩
    refine AtH.rd (by kernel_rfl) (fun d v c a w h => by cases d <;> exact h) aF [15] [[]] [(136, .agg #[.int .i64 (gI (gL g.mv (s1)) (q)), .int .i64 ((s2 + 1 : Int) % ((sc2.length : Nat) : Int))])] #[true, true, true, true, true, true, true, true, true, true, true, true, true, true, true, true, false] [] 1 oV (by kernel_rfl) trivial (fun aBT oW => ?_)
    clear oV
    refine AtH.all [16] 0 (by kernel_rfl) (by simp) ⟨?_, trivial⟩
    refine OneH.store oW (t := 66) (b := aA.heap.size) (off := 0) (v := .agg #[.int .i64 (gI (gL g.mv (s1)) (q)), .int .i64 ((s2 + 1 : Int) % ((sc2.length : Nat) : Int))]) #[true, true, true, true, true, true, true, true, true, true, true, true, true, true, true, true, true] (by kernel_rfl) (by kernel_rfl) bF (by kernel_rfl) (fun aBU vG cI kM oX => ?_)
    clear oW; replace kM : Bx vG (aA.heap.size) [.int .i64 (gI (gL g.mv (s1)) (q)), .int .i64 ((s2 + 1 : Int) % ((sc2.length : Nat) : Int))] 66 := kM; have oY := aF.gr' cI (by rw [fT]; exact ⟨(by simp only [add_block]; omega), trivial⟩); have := cI.size; replace bO := bO.gr cI (fun k h => by injection h; omega); replace bJ := bJ.gb cI (by omega); replace bS := bS.gb cI (by omega)
    replace bT := bT.gb cI (by omega); replace bK := bK.gb cI (by omega); replace bP := bP.gb cI (by omega); replace bU := bU.gb cI (by omega); replace cG := cG.gr cI (fun k hk e => by have := Sx_base hk; injection e; omega); replace dQ := dQ.gb cI (by omega); clear bF cI
    refine ⟨oY, ?_⟩
    refine AtH.done (by kernel_rfl) ?_
    clear oY
    refine b_n ?_
    refine t_n ?_
    have vH := oX.as 13 (.slice aH ((st_ ++ ([(s1, s2)])).length) aI) (.slice aH ((st_ ++ ([(s1, s2)]) : List Pr2).length) aI) rfl (slice_len (by first | rfl | omega | (simp; done) | (simp; omega)))
    clear oX
    have vI := vH.sub (r := [(13, .slice aH ((st_ ++ ([(s1, s2)]) : List Pr2).length) aI), (14, .pointer (some ⟨aA.heap.size, 0, none⟩)), (4, .slice As2 sc2.length cs2), (10, .pointer (some ⟨w1.heap.size, 0, none⟩)), (5, .pointer (some ⟨w.heap.size, 0, none⟩)), (2, .int .i64 (p)), (3, .slice Am lm.length cm)]) ⟨rfl, rfl, rfl, rfl, rfl, rfl, rfl, trivial⟩
    exact ⟨_, (by rw [hm215]; simp only [List.length_append, List.length_cons, List.length_nil]; omega), gI (gL g.mv (s1)) (q), (s2 + 1 : Int) % ((sc2.length : Nat) : Int), (st_ ++ ([(s1, s2)]) : List Pr2), aH, aI, rfl, vI, bO, bJ, bS, bT, bK, bP, bU, kM, cG, (.push hst hin (by first | exact next_own (by omega) hm (by assumption) | exact next_oth (by omega) hq)), (by omega)⟩
   refine OneH.seq iG [[.ld (.int .i64 (s2))]] [(131, .int .i64 (s2))] aD [(aD.cell? ⟨aA.heap.size, 1, none⟩ = some (.int .i64 (s2)))] #[true, true, true, true, true, false, true, false, false, true, true, false, true, true, false, false, false] (by kernel_rfl) (by kernel_rfl) (by kernel_rfl) ⟨(bF.cell (i := 1) rfl), trivial⟩ (fun aBV vJ vK oZ => ?_)
   obtain rfl : aD = vJ := vK.symm
   clear iG
   refine ⟨aF, ?_⟩
   refine AtH.rd (by kernel_rfl) (fun d v c a w h => by cases d <;> exact h) aF [11] [[.as_ (.int .i64 (s2 + 1))]] [(132, .int .i64 (s2 + 1))] #[true, true, true, true, true, false, true, false, false, true, true, true, true, true, false, false, false] [((.int .i64 (IntKind.i64.wrap (s2 + 1)) : Value) = .int .i64 (s2 + 1))] 6 oZ (by kernel_rfl) ⟨(w64 (by omega) (by omega)), trivial⟩ (fun aBW pA => ?_)
   clear oZ
   refine AtH.rd (by kernel_rfl) (fun d v c a w h => by cases d <;> exact h) aF [14] [[.as_ (.int .i64 ((s2 + 1 : Int) % ((sc2.length : Nat) : Int)))]] [(135, .int .i64 ((s2 + 1 : Int) % ((sc2.length : Nat) : Int)))] #[true, true, true, true, true, false, true, false, false, true, true, true, true, true, true, false, false] [((((sc2.length : Nat) : Int) : Int) ≠ 0), ((.int .i64 ((s2 + 1 : Int).tmod ((sc2.length : Nat) : Int)) : Value) = .int .i64 ((s2 + 1 : Int) % ((sc2.length : Nat) : Int)))] 5 pA (by kernel_rfl) ⟨(by omega), (congrArg (Value.int .i64) (Int.tmod_eq_emod_of_nonneg (by omega))), trivial⟩ (fun aBX pB => ?_)
   clear pA
   refine AtH.all [5] 4 (by kernel_rfl) (by simp) ⟨?_, trivial⟩
   refine OneH.seq pB [[.ld (.slice eD ((gL g.mv (s1)).length) fU)]] [(126, .slice eD ((gL g.mv (s1)).length) fU)] aD [(aD.cell? (gY.add ((s1 : Int).toNat * 1)) = some (.slice eD ((gL g.mv (s1)).length) fU))] #[true, true, true, true, true, true, true, false, false, true, true, true, true, true, true, false, false] (by kernel_rfl) (by kernel_rfl) (by kernel_rfl) ⟨oI, trivial⟩ (fun aBY vL vM pC => ?_)
   obtain rfl : aD = vL := vM.symm
   clear pB
   refine ⟨aF, ?_⟩
   obtain ⟨iI, vN, _, _, vO⟩ := RdI.get dQ (q) (by omega) (by omega)
   refine AtH.rd (by kernel_rfl) (fun d v c a w h => by cases d <;> exact h) aF [7] [[.ad iI]] [(128, .pointer (some (iI.add ((q : Int).toNat * 1))))] #[true, true, true, true, true, true, true, true, false, true, true, true, true, true, true, false, false] [(eD = some iI), (0 ≤ (q : Int)), ((q : Int) < ((gL g.mv (s1)).length : Nat))] 3 pC (by kernel_rfl) ⟨vN, (by omega), (by omega), trivial⟩ (fun aBZ pD => ?_)
   clear pC
   refine AtH.all [8] 2 (by kernel_rfl) (by simp) ⟨?_, trivial⟩
   refine OneH.seq pD [[.ld (.int .i64 (gI (gL g.mv (s1)) (q)))]] [(129, .int .i64 (gI (gL g.mv (s1)) (q)))] aD [(aD.cell? (iI.add ((q : Int).toNat * 1)) = some (.int .i64 (gI (gL g.mv (s1)) (q))))] #[true, true, true, true, true, true, true, true, true, true, true, true, true, true, true, false, false] (by kernel_rfl) (by kernel_rfl) (by kernel_rfl) ⟨vO, trivial⟩ (fun aCa vP vQ pE => ?_)
   obtain rfl : aD = vP := vQ.symm
   clear pD
   refine ⟨aF, ?_⟩
   refine AtH.rd (by kernel_rfl) (fun d v c a w h => by cases d <;> exact h) aF [15] [[]] [(136, .agg #[.int .i64 (gI (gL g.mv (s1)) (q)), .int .i64 ((s2 + 1 : Int) % ((sc2.length : Nat) : Int))])] #[true, true, true, true, true, true, true, true, true, true, true, true, true, true, true, true, false] [] 1 pE (by kernel_rfl) trivial (fun aCb pF => ?_)
   clear pE
   refine AtH.all [16] 0 (by kernel_rfl) (by simp) ⟨?_, trivial⟩
   refine OneH.store pF (t := 66) (b := aA.heap.size) (off := 0) (v := .agg #[.int .i64 (gI (gL g.mv (s1)) (q)), .int .i64 ((s2 + 1 : Int) % ((sc2.length : Nat) : Int))]) #[true, true, true, true, true, true, true, true, true, true, true, true, true, true, true, true, true] (by kernel_rfl) (by kernel_rfl) bF (by kernel_rfl) (fun aCc vR cJ kN pG => ?_)
   clear pF; replace kN : Bx vR (aA.heap.size) [.int .i64 (gI (gL g.mv (s1)) (q)), .int .i64 ((s2 + 1 : Int) % ((sc2.length : Nat) : Int))] 66 := kN; have pH := aF.gr' cJ (by rw [fT]; exact ⟨(by simp only [add_block]; omega), trivial⟩); have := cJ.size; replace bO := bO.gr cJ (fun k h => by injection h; omega); replace bJ := bJ.gb cJ (by omega); replace bS := bS.gb cJ (by omega)
   replace bT := bT.gb cJ (by omega); replace bK := bK.gb cJ (by omega); replace bP := bP.gb cJ (by omega); replace bU := bU.gb cJ (by omega); replace cG := cG.gr cJ (fun k hk e => by have := Sx_base hk; injection e; omega); replace dQ := dQ.gb cJ (by omega); clear bF cJ
   refine ⟨pH, ?_⟩
   refine AtH.done (by kernel_rfl) ?_
   clear pH
   refine b_n ?_
   refine t_n ?_
   have vS := pG.as 13 (.slice aH ((st_ ++ ([(s1, s2)])).length) aI) (.slice aH ((st_ ++ ([(s1, s2)]) : List Pr2).length) aI) rfl (slice_len (by first | rfl | omega | (simp; done) | (simp; omega)))
   clear pG
   have vT := vS.sub (r := [(13, .slice aH ((st_ ++ ([(s1, s2)]) : List Pr2).length) aI), (14, .pointer (some ⟨aA.heap.size, 0, none⟩)), (4, .slice As2 sc2.length cs2), (10, .pointer (some ⟨w1.heap.size, 0, none⟩)), (5, .pointer (some ⟨w.heap.size, 0, none⟩)), (2, .int .i64 (p)), (3, .slice Am lm.length cm)]) ⟨rfl, rfl, rfl, rfl, rfl, rfl, rfl, trivial⟩
   exact ⟨_, (by rw [hm215]; simp only [List.length_append, List.length_cons, List.length_nil]; omega), gI (gL g.mv (s1)) (q), (s2 + 1 : Int) % ((sc2.length : Nat) : Int), (st_ ++ ([(s1, s2)]) : List Pr2), aH, aI, rfl, vT, bO, bJ, bS, bT, bK, bP, bU, kN, cG, (.push hst hin (by first | exact next_own (by omega) hm (by assumption) | exact next_oth (by omega) hq)), (by omega)⟩
  refine OneH.seq iF [[.ld (.int .i64 (s2))]] [(131, .int .i64 (s2))] aD [(aD.cell? ⟨aA.heap.size, 1, none⟩ = some (.int .i64 (s2)))] #[true, true, true, false, false, false, true, false, false, true, true, false, true, true, false, false, false] (by kernel_rfl) (by kernel_rfl) (by kernel_rfl) ⟨(bF.cell (i := 1) rfl), trivial⟩ (fun aCd vU vV pI => ?_)
  obtain rfl : aD = vU := vV.symm
  clear iF
  refine ⟨aF, ?_⟩
  refine AtH.rd (by kernel_rfl) (fun d v c a w h => by cases d <;> exact h) aF [11] [[.as_ (.int .i64 (s2 + 1))]] [(132, .int .i64 (s2 + 1))] #[true, true, true, false, false, false, true, false, false, true, true, true, true, true, false, false, false] [((.int .i64 (IntKind.i64.wrap (s2 + 1)) : Value) = .int .i64 (s2 + 1))] 8 pI (by kernel_rfl) ⟨(w64 (by omega) (by omega)), trivial⟩ (fun aCe pJ => ?_)
  clear pI
  refine AtH.rd (by kernel_rfl) (fun d v c a w h => by cases d <;> exact h) aF [14] [[.as_ (.int .i64 ((s2 + 1 : Int) % ((sc2.length : Nat) : Int)))]] [(135, .int .i64 ((s2 + 1 : Int) % ((sc2.length : Nat) : Int)))] #[true, true, true, false, false, false, true, false, false, true, true, true, true, true, true, false, false] [((((sc2.length : Nat) : Int) : Int) ≠ 0), ((.int .i64 ((s2 + 1 : Int).tmod ((sc2.length : Nat) : Int)) : Value) = .int .i64 ((s2 + 1 : Int) % ((sc2.length : Nat) : Int)))] 7 pJ (by kernel_rfl) ⟨(by omega), (congrArg (Value.int .i64) (Int.tmod_eq_emod_of_nonneg (by omega))), trivial⟩ (fun aCf pK => ?_)
  clear pJ
  refine AtH.all [3] 6 (by kernel_rfl) (by simp) ⟨?_, trivial⟩
  refine OneH.seq pK [[.ld (.int .i64 (s1))]] [(124, .int .i64 (s1))] aD [(aD.cell? ⟨aA.heap.size, 0, none⟩ = some (.int .i64 (s1)))] #[true, true, true, true, false, false, true, false, false, true, true, true, true, true, true, false, false] (by kernel_rfl) (by kernel_rfl) (by kernel_rfl) ⟨(bF.cell (i := 0) rfl), trivial⟩ (fun aCg vW vX pL => ?_)
  obtain rfl : aD = vW := vX.symm
  clear pK
  refine ⟨aF, ?_⟩
  obtain ⟨iJ, iK, kO, vY, _, _, vZ, aCh, iL⟩ := RdII.get bJ.mv (s1) (by omega) (by omega)
  have aCi := iL.len
  refine AtH.rd (by kernel_rfl) (fun d v c a w h => by cases d <;> exact h) aF [4] [[.ad iJ]] [(125, .pointer (some (iJ.add ((s1 : Int).toNat * 1))))] #[true, true, true, true, true, false, true, false, false, true, true, true, true, true, true, false, false] [(Ag2 = some iJ), (0 ≤ (s1 : Int)), ((s1 : Int) < (g.mv.length : Nat))] 5 pL (by kernel_rfl) ⟨vY, (by omega), (by omega), trivial⟩ (fun aCj pM => ?_)
  clear pL
  refine AtH.all [5] 4 (by kernel_rfl) (by simp) ⟨?_, trivial⟩
  refine OneH.seq pM [[.ld (.slice iK ((gL g.mv (s1)).length) kO)]] [(126, .slice iK ((gL g.mv (s1)).length) kO)] aD [(aD.cell? (iJ.add ((s1 : Int).toNat * 1)) = some (.slice iK ((gL g.mv (s1)).length) kO))] #[true, true, true, true, true, true, true, false, false, true, true, true, true, true, true, false, false] (by kernel_rfl) (by kernel_rfl) (by kernel_rfl) ⟨vZ, trivial⟩ (fun aCk wA wB pN => ?_)
  obtain rfl : aD = wA := wB.symm
  clear pM
  refine ⟨aF, ?_⟩
  obtain ⟨iM, wC, _, _, wD⟩ := RdI.get iL (q) (by omega) (by omega)
  refine AtH.rd (by kernel_rfl) (fun d v c a w h => by cases d <;> exact h) aF [7] [[.ad iM]] [(128, .pointer (some (iM.add ((q : Int).toNat * 1))))] #[true, true, true, true, true, true, true, true, false, true, true, true, true, true, true, false, false] [(iK = some iM), (0 ≤ (q : Int)), ((q : Int) < ((gL g.mv (s1)).length : Nat))] 3 pN (by kernel_rfl) ⟨wC, (by omega), (by omega), trivial⟩ (fun aCl pO => ?_)
  clear pN
  refine AtH.all [8] 2 (by kernel_rfl) (by simp) ⟨?_, trivial⟩
  refine OneH.seq pO [[.ld (.int .i64 (gI (gL g.mv (s1)) (q)))]] [(129, .int .i64 (gI (gL g.mv (s1)) (q)))] aD [(aD.cell? (iM.add ((q : Int).toNat * 1)) = some (.int .i64 (gI (gL g.mv (s1)) (q))))] #[true, true, true, true, true, true, true, true, true, true, true, true, true, true, true, false, false] (by kernel_rfl) (by kernel_rfl) (by kernel_rfl) ⟨wD, trivial⟩ (fun aCm wE wF pP => ?_)
  obtain rfl : aD = wE := wF.symm
  clear pO
  refine ⟨aF, ?_⟩
  refine AtH.rd (by kernel_rfl) (fun d v c a w h => by cases d <;> exact h) aF [15] [[]] [(136, .agg #[.int .i64 (gI (gL g.mv (s1)) (q)), .int .i64 ((s2 + 1 : Int) % ((sc2.length : Nat) : Int))])] #[true, true, true, true, true, true, true, true, true, true, true, true, true, true, true, true, false] [] 1 pP (by kernel_rfl) trivial (fun aCn pQ => ?_)
  clear pP
  refine AtH.all [16] 0 (by kernel_rfl) (by simp) ⟨?_, trivial⟩
  refine OneH.store pQ (t := 66) (b := aA.heap.size) (off := 0) (v := .agg #[.int .i64 (gI (gL g.mv (s1)) (q)), .int .i64 ((s2 + 1 : Int) % ((sc2.length : Nat) : Int))]) #[true, true, true, true, true, true, true, true, true, true, true, true, true, true, true, true, true] (by kernel_rfl) (by kernel_rfl) bF (by kernel_rfl) (fun aCo wG cK kP pR => ?_)
  clear pQ; replace kP : Bx wG (aA.heap.size) [.int .i64 (gI (gL g.mv (s1)) (q)), .int .i64 ((s2 + 1 : Int) % ((sc2.length : Nat) : Int))] 66 := kP; have pS := aF.gr' cK (by rw [fT]; exact ⟨(by simp only [add_block]; omega), trivial⟩); have := cK.size; replace bO := bO.gr cK (fun k h => by injection h; omega); replace bJ := bJ.gb cK (by omega); replace bS := bS.gb cK (by omega)
  replace bT := bT.gb cK (by omega); replace bK := bK.gb cK (by omega); replace bP := bP.gb cK (by omega); replace bU := bU.gb cK (by omega); replace cG := cG.gr cK (fun k hk e => by have := Sx_base hk; injection e; omega); replace iL := iL.gb cK (by omega); clear bF cK
  refine ⟨pS, ?_⟩
  refine AtH.done (by kernel_rfl) ?_
  clear pS
  refine b_n ?_
  refine t_n ?_
  have wH := pR.as 13 (.slice aH ((st_ ++ ([(s1, s2)])).length) aI) (.slice aH ((st_ ++ ([(s1, s2)]) : List Pr2).length) aI) rfl (slice_len (by first | rfl | omega | (simp; done) | (simp; omega)))
  clear pR
  have wI := wH.sub (r := [(13, .slice aH ((st_ ++ ([(s1, s2)]) : List Pr2).length) aI), (14, .pointer (some ⟨aA.heap.size, 0, none⟩)), (4, .slice As2 sc2.length cs2), (10, .pointer (some ⟨w1.heap.size, 0, none⟩)), (5, .pointer (some ⟨w.heap.size, 0, none⟩)), (2, .int .i64 (p)), (3, .slice Am lm.length cm)]) ⟨rfl, rfl, rfl, rfl, rfl, rfl, rfl, trivial⟩
  exact ⟨_, (by rw [hm215]; simp only [List.length_append, List.length_cons, List.length_nil]; omega), gI (gL g.mv (s1)) (q), (s2 + 1 : Int) % ((sc2.length : Nat) : Int), (st_ ++ ([(s1, s2)]) : List Pr2), aH, aI, rfl, wI, bO, bJ, bS, bT, bK, bP, bU, kP, cG, (.push hst hin (by first | exact next_own (by omega) hm (by assumption) | exact next_oth (by omega) hq)), (by omega)⟩
 have aCp := bne_eq_false_iff_eq.1 gK
 refine At.rd dD 21 [[], [], [.as_ (.bool false)], [], [], [], [.as_ (.bool false)], [], [], [.ld (.slice Ag0 g.ow.length cg0)], [], [], [], [.as_ (.bool false)], [], [], [.as_ (.bool false)], [], [], [], []] [(42, .bool false), (41, .bool false), (40, undef), (39, undef), (38, .bool false), (37, .bool ((p : Int) != 0)), (36, .int .i64 (p)), (35, .bool false), (34, .bool (decide ((i : Int) ≥ ((g.ow.length : Nat) : Int)))), (33, .bool (decide ((i : Int) ≥ ((g.ow.length : Nat) : Int)))), (32, .int .i64 (((g.ow.length : Nat) : Int))), (31, .slice Ag0 g.ow.length cg0), (30, .pointer (some ⟨w.heap.size, 0, none⟩)), (29, .int .i64 (i)), (28, .bool false), (27, .bool (decide ((i : Int) < 0))), (26, .bool (decide ((i : Int) < 0))), (25, .int .i64 (i)), (24, .bool false), (23, .bool (!(isR g))), (22, .bool (isR g))] [((.bool (!(isR g)) : Value) = .bool false), ((.bool (decide ((i : Int) < 0)) : Value) = .bool false), (aT.cell? ⟨w.heap.size, 0, none⟩ = some (.slice Ag0 g.ow.length cg0)), ((.bool (decide ((i : Int) ≥ ((g.ow.length : Nat) : Int))) : Value) = .bool false), ((.bool ((p : Int) != 0) : Value) = .bool false)] (by kernel_rfl) ⟨(congrArg Value.bool cC), (congrArg Value.bool eL), (aC.cell (i := 0) rfl), (congrArg Value.bool fK), (congrArg Value.bool gK), trivial⟩ (fun aCq pT => ?_)
 clear dD
 refine At.done rfl ?_
 refine t_n ?_
 have kQ := pT.sub (r := [(42, .bool false), (11, .int .i64 (0)), (10, .pointer (some ⟨w1.heap.size, 0, none⟩)), (5, .pointer (some ⟨w.heap.size, 0, none⟩)), (1, .int .i64 (i)), (2, .int .i64 (p)), (3, .slice Am lm.length cm), (4, .slice As ls.length cs)]) ⟨rfl, rfl, rfl, rfl, rfl, rfl, rfl, rfl, trivial⟩
 clear pT
 refine cond_F kQ rfl ?_
 refine wp_skip ?_
 refine t_n ?_
 refine wp_seq ?_
 refine wp_seq ?_
 have hok : okP g i p := isok2 (by assumption) (by omega) (by omega) (by omega)
 refine At.start ?_
 refine At.rd kQ 3 [[], [], []] [(46, .bool (decide ((((ls.length : Nat) : Int) : Int) > 64))), (45, .int .i64 (((ls.length : Nat) : Int))), (44, .slice As ls.length cs)] [] (by kernel_rfl) trivial (fun aCr fV => ?_)
 clear kQ
 refine At.done rfl ?_
 refine t_n ?_
 refine cond_S fV (t := decide ((((ls.length : Nat) : Int) : Int) > 64)) rfl (fun kR => ?_) (fun kR => ?_)
 ·have aCs := of_decide_eq_true kR
  refine wp_seq ?_
  refine At.start ?_
  refine At.rd fV 1 [[]] [(47, .agg #[.slice none 0 0, .slice none 0 0, .int .i64 (0)])] [] (by kernel_rfl) trivial (fun aCt pU => ?_)
  clear fV
  refine At.store pU (t := 29) (b := w1.heap.size) (off := 0) (v := .agg #[.slice none 0 0, .slice none 0 0, .int .i64 (0)]) (by kernel_rfl) aO (by kernel_rfl) (fun aCu iN fA hA pV => ?_)
  clear pU; replace hA : Bx iN (w1.heap.size) [.slice none 0 0, .slice none 0 0, .int .i64 (0)] 29 := hA; have := fA.size; replace e0 := e0.gr fA (fun k h => by injection h; omega); replace r8 := r8.gb fA (by omega); replace r9 := r9.gb fA (by omega); replace aL := aL.gb fA (by omega); replace aC := aC.gb fA (by omega); clear aO fA
  refine At.rd pV 1 [[]] [(11, .int .i64 (10))] [] (by kernel_rfl) trivial (fun aCv wJ => ?_)
  clear pV
  refine At.done rfl ?_
  refine t_n ?_
  clear aC
  refine wp_ret ?_
  refine t_r ?_
  refine ret_ wJ [[.slice none 0 0, .slice none 0 0, .int .i64 (0)]] [.agg #[.slice none 0 0, .slice none 0 0, .int .i64 (0)], .int .i64 (10)] [(iN.cell? ⟨w1.heap.size, 0, none⟩ = some (.slice none 0 0)), (iN.cell? ⟨w1.heap.size, 1, none⟩ = some (.slice none 0 0)), (iN.cell? ⟨w1.heap.size, 2, none⟩ = some (.int .i64 (0)))] (by kernel_rfl) ⟨(hA.cell (i := 0) rfl), (hA.cell (i := 1) rfl), (hA.cell (i := 2) rfl), trivial⟩ ?_
  exact ⟨⟨[], [], 0, 10⟩, .many hok (by omega), none, 0, none, 0, rfl, e0, OwnR.nil, OwnR.nil⟩
 have aCw := of_decide_eq_false kR
 refine wp_skip ?_
 refine t_n ?_
 refine wp_seq (cut (fun a_ w_ => ∃ (As2 : Option Addr) (cs2 : Nat) (sc2 : List Int) (lo_ : Nat) (hi_ : Nat), (Frm 137 a_ [(4, .slice As2 sc2.length cs2), (11, .int .i64 (0)), (10, .pointer (some ⟨w1.heap.size, 0, none⟩)), (5, .pointer (some ⟨w.heap.size, 0, none⟩)), (1, .int .i64 (i)), (2, .int .i64 (p)), (3, .slice Am lm.length cm)]) ∧ (Ext w w_) ∧ (RdG w_ 0 w.heap.size Ag0 Ag1 Ag2 cg0 cg1 cg2 g) ∧ (RdI w_ 0 w.heap.size Am lm) ∧ (RdI w_ 0 w.heap.size As ls) ∧ (Bx w_ (w.heap.size) [.slice Ag0 g.ow.length cg0, .slice Ag1 g.pr.length cg1, .slice Ag2 g.mv.length cg2] 25) ∧ (Bx w_ (w1.heap.size) [.slice none 0 0, .slice none 0 0, .int .i64 (0)] 29) ∧ (RdI w_ lo_ hi_ As2 sc2) ∧ (okP g i p) ∧ (ls.length ≤ 64) ∧ (sc2 = scN ls) ∧ (hi_ ≤ w_.heap.size) ∧ (w1.heap.size < lo_ ∨ hi_ ≤ w1.heap.size) ∧ (aT.heap.size ≤ w_.heap.size)) ?_ ?_)
 ·refine wp_seq ?_
  refine At.start ?_
  refine At.rd fV 3 [[], [], []] [(50, .bool ((((ls.length : Nat) : Int) : Int) == 0)), (49, .int .i64 (((ls.length : Nat) : Int))), (48, .slice As ls.length cs)] [] (by kernel_rfl) trivial (fun aCx iO => ?_)
  clear fV
  refine At.done rfl ?_
  refine t_n ?_
  refine cond_S iO (t := (((ls.length : Nat) : Int) : Int) == 0) rfl (fun kS => ?_) (fun kS => ?_)
  ·have aCy := eq_of_beq kS
   refine At.start ?_
   refine At.seq iO 1 [[]] [(51, .slice (some ⟨aT.heap.size, 0, none⟩) 1 1)] (aT.alloc (.cells #[.int .i64 (0)] 3 (0, 0))) [] (by kernel_rfl) trivial (fun aCz wK kT pW => ?_)
   clear iO; have eE := gr_alloc kT; have := eE.size; replace e0 := e0.gn eE; replace r8 := r8.gn eE; replace r9 := r9.gn eE; replace aL := aL.gn eE; replace aC := aC.gn eE; replace aO := aO.gn eE; have pX : Bx wK (aT.heap.size) [.int .i64 (0)] 3 := Bx.new kT; have := pX.lt; clear eE kT
   refine At.rd pW 1 [[]] [(4, .slice (some ⟨aT.heap.size, 0, none⟩) 1 1)] [] (by kernel_rfl) trivial (fun aCA wL => ?_)
   clear pW
   refine At.done rfl ?_
   refine t_n ?_
   have wM := wL.sub (r := [(4, .slice (some ⟨aT.heap.size, 0, none⟩) 1 1), (11, .int .i64 (0)), (10, .pointer (some ⟨w1.heap.size, 0, none⟩)), (5, .pointer (some ⟨w.heap.size, 0, none⟩)), (1, .int .i64 (i)), (2, .int .i64 (p)), (3, .slice Am lm.length cm)]) ⟨rfl, rfl, rfl, rfl, rfl, rfl, rfl, trivial⟩
   exact ⟨some ⟨aT.heap.size, 0, none⟩, 1, ([0] : List Int), aT.heap.size, (aT.heap.size + 1), wM, e0, r8, r9, aL, aC, aO, (Bx.rdI1 (l := [0]) pX rfl (by decide)), (by first | exact hok | exact isok (by omega) (by omega) (by omega) (by omega)), (by omega), (by first | exact scN_0 (by omega) | exact scN_1 (by omega)), (by omega), (by omega), (by omega)⟩
  have aCB := ne_of_beq_false kS
  refine wp_skip ?_
  refine t_n ?_
  have wN := iO.sub (r := [(4, .slice As ls.length cs), (11, .int .i64 (0)), (10, .pointer (some ⟨w1.heap.size, 0, none⟩)), (5, .pointer (some ⟨w.heap.size, 0, none⟩)), (1, .int .i64 (i)), (2, .int .i64 (p)), (3, .slice Am lm.length cm)]) ⟨rfl, rfl, rfl, rfl, rfl, rfl, rfl, trivial⟩
  exact ⟨As, cs, ls, 0, w.heap.size, wN, e0, r8, r9, aL, aC, aO, aL, (by first | exact hok | exact isok (by omega) (by omega) (by omega) (by omega)), (by omega), (by first | exact scN_0 (by omega) | exact scN_1 (by omega)), (by omega), (by omega), (by omega)⟩
 clear r8; clear r9; clear aL; clear aC; clear aO; clear fV e0
 intro aCC aB ⟨As2, cs2, sc2, lo_, hi_, pY, fB, fW, fX, fY, fC, fD, fZ, hok, eT, hsc, hhi, hrb, i746⟩
 have := fB.size; have := fC.lt; have := fD.lt
 refine wp_seq ?_
 have hG := isR_ok hok.1; have hn1 := hG.n1; have hpl := hG.pl; have hml := hG.ml; have hi0 := hok.2.1; have hi1 := hok.2.2.1; have hscp : 0 < sc2.length := hsc ▸ scN_pos ls; have hsc6 : sc2.length ≤ 64 := hsc ▸ scN_le eT
 refine At.start ?_
 refine At.rd pY 1 [[]] [(13, .slice none 0 0)] [] (by kernel_rfl) trivial (fun aCD pZ => ?_)
 clear pY
 refine At.done rfl ?_
 refine t_n ?_
 refine wp_seq ?_
 refine At.start ?_
 refine At.rd pZ 2 [[], []] [(53, .agg #[.int .i64 (i), .int .i64 (0)]), (52, .int .i64 (i))] [] (by kernel_rfl) trivial (fun aCE qA => ?_)
 clear pZ
 refine At.seq qA 1 [[]] [(14, .pointer (some ⟨aB.heap.size, 0, none⟩))] (aB.alloc (.cells #[.int .i64 (0), .int .i64 (0)] 66 (0, 0))) [] (by kernel_rfl) trivial (fun aCF wO kU qB => ?_)
 clear qA; have dR := gr_alloc kU; have := dR.size; replace fB := fB.gn dR; replace fW := fW.gn dR; replace fX := fX.gn dR; replace fY := fY.gn dR; replace fC := fC.gn dR; replace fD := fD.gn dR; replace fZ := fZ.gn dR; have kV : Bx wO (aB.heap.size) [.int .i64 (0), .int .i64 (0)] 66 := Bx.new kU; have := kV.lt; clear dR kU
 refine At.store qB (t := 66) (b := aB.heap.size) (off := 0) (v := .agg #[.int .i64 (i), .int .i64 (0)]) (by kernel_rfl) kV (by kernel_rfl) (fun aCG cL dS iP qC => ?_)
 clear qB; replace iP : Bx cL (aB.heap.size) [.int .i64 (i), .int .i64 (0)] 66 := iP; have := dS.size; replace fB := fB.gr dS (fun k h => by injection h; omega); replace fW := fW.gb dS (by omega); replace fX := fX.gb dS (by omega); replace fY := fY.gb dS (by omega); replace fC := fC.gb dS (by omega); replace fD := fD.gb dS (by omega); replace fZ := fZ.gb dS (by omega); clear kV dS
 refine At.done rfl ?_
 refine t_n ?_
 refine wp_block ?_
 have qD : OwnR cL (Sx (cL.heap.size) []) none 0 66 ([] : List Pr2) := OwnR.nil; have qE := qC.as 13 (.slice none 0 0) (.slice none (([] : List Pr2).length) 0) rfl (slice_len (by first | rfl | omega | (simp; done) | (simp; omega))); clear qC
 have qF := qE.sub (r := [(13, .slice none (([] : List Pr2).length) 0), (14, .pointer (some ⟨aB.heap.size, 0, none⟩)), (4, .slice As2 sc2.length cs2), (10, .pointer (some ⟨w1.heap.size, 0, none⟩)), (5, .pointer (some ⟨w.heap.size, 0, none⟩)), (2, .int .i64 (p)), (3, .slice Am lm.length cm)]) ⟨rfl, rfl, rfl, rfl, rfl, rfl, rfl, trivial⟩
 refine loop_g (fun (m_ : Nat) a_ w_ => ∃ (s1 : Int) (s2 : Int) (st_ : List Pr2) (bL : Option Addr) (cA : Nat), m_ = 12801 - st_.length ∧ (Frm 137 a_ [(13, .slice bL st_.length cA), (14, .pointer (some ⟨aB.heap.size, 0, none⟩)), (4, .slice As2 sc2.length cs2), (10, .pointer (some ⟨w1.heap.size, 0, none⟩)), (5, .pointer (some ⟨w.heap.size, 0, none⟩)), (2, .int .i64 (p)), (3, .slice Am lm.length cm)]) ∧ (Ext w w_) ∧ (RdG w_ 0 w.heap.size Ag0 Ag1 Ag2 cg0 cg1 cg2 g) ∧ (RdI w_ 0 w.heap.size Am lm) ∧ (RdI w_ 0 w.heap.size As ls) ∧ (Bx w_ (w.heap.size) [.slice Ag0 g.ow.length cg0, .slice Ag1 g.pr.length cg1, .slice Ag2 g.mv.length cg2] 25) ∧ (Bx w_ (w1.heap.size) [.slice none 0 0, .slice none 0 0, .int .i64 (0)] 29) ∧ (RdI w_ lo_ hi_ As2 sc2) ∧ (Bx w_ (aB.heap.size) [.int .i64 s1, .int .i64 s2] 66) ∧ (OwnR w_ (Sx (cL.heap.size) []) bL cA 66 (st_ : List Pr2)) ∧ (StandT g p lm sc2 i st_ (s1, s2)) ∧ (cL.heap.size ≤ w_.heap.size)) _ ⟨i, 0, ([] : List Pr2), none, 0, rfl, qF, fB, fW, fX, fY, fC, fD, fZ, iP, qD, .nil, (by omega)⟩ ?_
 clear qF qE; clear fW; clear fX; clear fY; clear fC; clear fD; clear fZ; clear iP; clear qD; clear fB
 intro m_ aCH aCI ⟨s1, s2, st_, bL, cA, hm786, qG, kW, qH, qI, qJ, kX, kY, qK, kZ, qL, hst, i796⟩
 have := kW.size; have := kX.lt; have := kY.lt; have := kZ.lt; have hsr := (hst.rng hG hscp hi0 hi1).2; have hle := hst.le hG hscp hsc6 hi0 hi1
 refine wp_block ?_
 refine wp_seq ?_
 refine wp_seq ?_
 refine At.start ?_
 refine At.rd qG 1 [[]] [(15, .int .i64 (0))] [] (by kernel_rfl) trivial (fun aCJ qM => ?_)
 clear qG
 refine At.done rfl ?_
 refine t_n ?_
 refine wp_block ?_
 have qN := qM.sub (r := [(15, .int .i64 (0)), (13, .slice bL st_.length cA), (14, .pointer (some ⟨aB.heap.size, 0, none⟩)), (4, .slice As2 sc2.length cs2), (10, .pointer (some ⟨w1.heap.size, 0, none⟩)), (5, .pointer (some ⟨w.heap.size, 0, none⟩)), (2, .int .i64 (p)), (3, .slice Am lm.length cm)]) ⟨rfl, rfl, rfl, rfl, rfl, rfl, rfl, rfl, trivial⟩
 refine loop_g (fun (m_ : Nat) a_ w_ => ∃ (j : Int), m_ = ((st_.length : Int) - j).toNat ∧ (Frm 137 a_ [(15, .int .i64 (j)), (13, .slice bL st_.length cA), (14, .pointer (some ⟨aB.heap.size, 0, none⟩)), (4, .slice As2 sc2.length cs2), (10, .pointer (some ⟨w1.heap.size, 0, none⟩)), (5, .pointer (some ⟨w.heap.size, 0, none⟩)), (2, .int .i64 (p)), (3, .slice Am lm.length cm)]) ∧ (Ext w w_) ∧ (RdG w_ 0 w.heap.size Ag0 Ag1 Ag2 cg0 cg1 cg2 g) ∧ (RdI w_ 0 w.heap.size Am lm) ∧ (RdI w_ 0 w.heap.size As ls) ∧ (Bx w_ (w.heap.size) [.slice Ag0 g.ow.length cg0, .slice Ag1 g.pr.length cg1, .slice Ag2 g.mv.length cg2] 25) ∧ (Bx w_ (w1.heap.size) [.slice none 0 0, .slice none 0 0, .int .i64 (0)] 29) ∧ (RdI w_ lo_ hi_ As2 sc2) ∧ (Bx w_ (aB.heap.size) [.int .i64 (s1), .int .i64 (s2)] 66) ∧ (OwnR w_ (Sx (cL.heap.size) []) bL cA 66 (st_ : List Pr2)) ∧ (0 ≤ j) ∧ (j ≤ (st_.length : Int)) ∧ ((s1, s2) ∉ st_.take j.toNat) ∧ (cL.heap.size ≤ w_.heap.size)) _ ⟨0, rfl, qN, kW, qH, qI, qJ, kX, kY, qK, kZ, qL, (by omega), (Int.natCast_nonneg _), (by simp), (by omega)⟩ ?_
 clear qN qM; clear qH; clear qI; clear qJ; clear kX; clear kY; clear qK; clear kZ; clear qL; clear kW
 intro m_ aCK dT ⟨j, hm803, qO, aX, aV, bB, bG, aQ, bC, bD, aN, aS, i813, i814, hnj, i815⟩
 have := aX.size; have := aQ.lt; have := bC.lt; have := aN.lt
 refine wp_seq ?_
 refine wp_seq ?_
 refine At.start ?_
 refine At.rd qO 4 [[], [], [], []] [(57, .bool (decide ((j : Int) < ((st_.length : Nat) : Int)))), (56, .int .i64 (((st_.length : Nat) : Int))), (55, .slice bL st_.length cA), (54, .int .i64 (j))] [] (by kernel_rfl) trivial (fun aCL hB => ?_)
 clear qO
 refine At.done rfl ?_
 refine t_n ?_
 refine cond_S hB (t := decide ((j : Int) < ((st_.length : Nat) : Int))) rfl (fun lA => ?_) (fun lA => ?_)
 ·have aCM := of_decide_eq_true lA
  refine wp_skip ?_
  refine t_n ?_
  refine wp_seq ?_
  refine wp_block ?_
  refine wp_seq ?_
  obtain ⟨hC, wP, aCN, wQ, wR⟩ := aS.get (j) (by omega) (by omega) (sz := 2) rfl
  refine drawn_ro hB (by kernel_rfl) (by kernel_rfl) [[], [], [.ad hC], [.ld (.int .i64 ((gA st_ j).1)), .ld (.int .i64 ((gA st_ j).2))], [.ld (.int .i64 (s1)), .ld (.int .i64 (s2))], [.as_ (.bool (decide ((gA st_ j) = (s1, s2))))]] [(65, .bool (decide ((gA st_ j) = (s1, s2)))), (64, .agg #[.int .i64 (s1), .int .i64 (s2)]), (63, .agg #[.int .i64 ((gA st_ j).1), .int .i64 ((gA st_ j).2)]), (62, .pointer (some (hC.add ((j : Int).toNat * 2)))), (61, .int .i64 (j)), (60, .slice bL st_.length cA)] [(bL = some hC), (0 ≤ (j : Int)), ((j : Int) < (st_.length : Nat)), (dT.cell? (hC.add ((j : Int).toNat * 2)) = some (.int .i64 ((gA st_ j).1))), (dT.cell? ((hC.add ((j : Int).toNat * 2)).add 1) = some (.int .i64 ((gA st_ j).2))), (dT.cell? ⟨aB.heap.size, 0, none⟩ = some (.int .i64 (s1))), (dT.cell? ⟨aB.heap.size, 1, none⟩ = some (.int .i64 (s2))), ((.bool (((((gA st_ j).1 : Int) == s1) && ((((gA st_ j).2 : Int) == s2) && true))) : Value) = .bool (decide ((gA st_ j) = (s1, s2))))] (by kernel_rfl) ⟨wP, (by omega), (by omega), wQ, (wR 1 _ rfl), (aN.cell (i := 0) rfl), (aN.cell (i := 1) rfl), (congrArg (fun b => Value.bool b) (pr2_beq (gA st_ j) (s1, s2))), trivial⟩ (fun aCO hD qP hE => ?_)
  clear hB; have cY := gr_drew qP; have := cY.size; replace aX := aX.gn cY; replace aV := aV.gn cY; replace bB := bB.gn cY; replace bG := bG.gn cY; replace aQ := aQ.gn cY; replace bC := bC.gn cY; replace bD := bD.gn cY; replace aN := aN.gn cY; replace aS := aS.gn cY; clear cY qP
  refine t_n ?_
  refine cond_S hE (t := decide ((gA st_ j) = (s1, s2))) rfl (fun lB => ?_) (fun lB => ?_)
  ·have aCP := of_decide_eq_true lB
   refine wp_seq ?_
   have hrl := stand_in2 hst hG hscp hi0 hi1; have hk2 := got_at (l := st_) (k := j) (y := (s1, s2)) (by omega) (by omega) (by assumption)
   refine At.start ?_
   refine At.rd hE 3 [[.ld (.slice Ag0 g.ow.length cg0), .ld (.slice Ag1 g.pr.length cg1), .ld (.slice Ag2 g.mv.length cg2)], [], []] [(68, .int .i64 (j)), (67, .slice bL st_.length cA), (66, .agg #[.slice Ag0 g.ow.length cg0, .slice Ag1 g.pr.length cg1, .slice Ag2 g.mv.length cg2])] [(hD.cell? ⟨w.heap.size, 0, none⟩ = some (.slice Ag0 g.ow.length cg0)), (hD.cell? ⟨w.heap.size, 1, none⟩ = some (.slice Ag1 g.pr.length cg1)), (hD.cell? ⟨w.heap.size, 2, none⟩ = some (.slice Ag2 g.mv.length cg2))] (by kernel_rfl) ⟨(aQ.cell (i := 0) rfl), (aQ.cell (i := 1) rfl), (aQ.cell (i := 2) rfl), trivial⟩ (fun aCQ qQ => ?_)
   clear hE
   refine At.call qQ 39 #[.agg #[.slice Ag0 g.ow.length cg0, .slice Ag1 g.pr.length cg1, .slice Ag2 g.mv.length cg2], .slice bL st_.length cA, .int .i64 (j)] (some 69) (by kernel_rfl) (toldR_any (g := g) (la := st_) (k := j) (aV.wide (Nat.zero_le _) (by omega)) ((aS.rdR (by simp only [Enc.bytes]; omega)).wide (Nat.zero_le _) (by omega))  (by omega) (by omega) hrl (by omega)) ?_
   rintro e_ lC ⟨dU, fE, dV, fF, rfl, he, gB, gC⟩
   refine ⟨_, rfl, _, rfl, fun aCR qR => ?_⟩
   clear qQ; have cZ := gr_ext he; have lD := aS.lt; have := cZ.size; replace aX := aX.gn cZ; replace aV := aV.gn cZ; replace bB := bB.gn cZ; replace bG := bG.gn cZ; replace aQ := aQ.gn cZ; replace bC := bC.gn cZ; replace bD := bD.gn cZ; replace aN := aN.gn cZ
   replace aS : OwnR lC (Sx (cL.heap.size) [obk (dU), obk (dV)]) bL cA 66 (st_ : List Pr2) := aS.grA cZ (fun _ _ h => by cases h) (fun k hk hs => ⟨(fun e => by have := gB.ge _ e; omega), (fun e => by have := gC.ge _ e; omega), hs⟩)
   replace gB : OwnR lC (Sx (hD.heap.size) [obk (bL), obk (dV)]) dU fE 3 (((st_.take (j : Int).toNat).map Prod.fst) : List Int) := gB.imp (fun g _ hs => ⟨(fun e => by have := lD _ e; have := Sx_base hs; omega), hs⟩)
   replace gC : OwnR lC (Sx (hD.heap.size) [obk (bL), obk (dU)]) dV fF 3 (((st_.drop (j : Int).toNat).map Prod.fst) : List Int) := gC.imp (fun g _ hs => ⟨(fun e => by have := lD _ e; have := Sx_base hs; omega), hs⟩)
   clear lD; clear cZ he
   refine At.store qR (t := 29) (b := w1.heap.size) (off := 0) (v := .agg #[.slice dU (((st_.take (j : Int).toNat).map Prod.fst).length) fE, .slice dV (((st_.drop (j : Int).toNat).map Prod.fst).length) fF, .int .i64 (topP g ((st_.drop (j : Int).toNat).map Prod.fst) % 2)]) (by kernel_rfl) bC (by kernel_rfl) (fun aCS iQ cM hF qS => ?_)
   clear qR
   replace hF : Bx iQ (w1.heap.size) [.slice dU (((st_.take (j : Int).toNat).map Prod.fst).length) fE, .slice dV (((st_.drop (j : Int).toNat).map Prod.fst).length) fF, .int .i64 (topP g ((st_.drop (j : Int).toNat).map Prod.fst) % 2)] 29 := hF
   have := cM.size; replace aX := aX.gr cM (fun k h => by injection h; omega); replace aV := aV.gb cM (by omega); replace bB := bB.gb cM (by omega); replace bG := bG.gb cM (by omega); replace aQ := aQ.gb cM (by omega); replace bD := bD.gb cM (by omega); replace aN := aN.gb cM (by omega); replace aS := aS.gr cM (fun k hk e => by have := Sx_base hk; injection e; omega)
   replace gB := gB.gr cM (fun k hk e => by have := Sx_base hk; injection e; omega); replace gC := gC.gr cM (fun k hk e => by have := Sx_base hk; injection e; omega); clear bC cM
   refine At.rd qS 1 [[]] [(11, .int .i64 (0))] [] (by kernel_rfl) trivial (fun aCT qT => ?_)
   clear qS
   refine At.done rfl ?_
   refine t_n ?_
   have wS := qT.sub (r := [(11, .int .i64 (0)), (10, .pointer (some ⟨w1.heap.size, 0, none⟩))]) ⟨rfl, rfl, trivial⟩; clear qT
   refine wp_ret ?_
   refine b_r ?_
   refine t_r ?_
   refine t_r ?_
   refine b_r ?_
   refine t_r ?_
   refine b_r ?_
   refine t_r ?_
   refine b_r ?_
   refine ret_ wS [[.slice dU (((st_.take (j : Int).toNat).map Prod.fst).length) fE, .slice dV (((st_.drop (j : Int).toNat).map Prod.fst).length) fF, .int .i64 (topP g ((st_.drop (j : Int).toNat).map Prod.fst) % 2)]] [.agg #[.slice dU (((st_.take (j : Int).toNat).map Prod.fst).length) fE, .slice dV (((st_.drop (j : Int).toNat).map Prod.fst).length) fF, .int .i64 (topP g ((st_.drop (j : Int).toNat).map Prod.fst) % 2)], .int .i64 (0)] [(iQ.cell? ⟨w1.heap.size, 0, none⟩ = some (.slice dU (((st_.take (j : Int).toNat).map Prod.fst).length) fE)), (iQ.cell? ⟨w1.heap.size, 1, none⟩ = some (.slice dV (((st_.drop (j : Int).toNat).map Prod.fst).length) fF)), (iQ.cell? ⟨w1.heap.size, 2, none⟩ = some (.int .i64 (topP g ((st_.drop (j : Int).toNat).map Prod.fst) % 2)))] (by kernel_rfl) ⟨(hF.cell (i := 0) rfl), (hF.cell (i := 1) rfl), (hF.cell (i := 2) rfl), trivial⟩ ?_
   exact ⟨⟨_, _, _, 0⟩, run_play2 hok eT (hsc ▸ hst) (by omega) hk2, dU, fE, dV, fF, rfl, aX, (gB.imp (fun g _ hs => ⟨hs.2.1, (by have := Sx_base hs; show w.heap.size ≤ g; omega)⟩)), (gC.imp (fun g _ hs => ⟨hs.2.1, (by have := Sx_base hs; show w.heap.size ≤ g; omega)⟩))⟩
  have aCU := of_decide_eq_false lB
  refine wp_skip ?_
  refine b_n ?_
  refine t_n ?_
  refine At.start ?_
  refine At.rd hE 3 [[], [.as_ (.int .i64 (j + 1))], []] [(15, .int .i64 (j + 1)), (59, .int .i64 (j + 1)), (58, .int .i64 (j))] [((.int .i64 (IntKind.i64.wrap (j + 1)) : Value) = .int .i64 (j + 1))] (by kernel_rfl) ⟨(w64 (by omega) (by omega)), trivial⟩ (fun aCV wT => ?_)
  clear hE
  refine At.done rfl ?_
  refine t_n ?_
  have wU := wT.sub (r := [(15, .int .i64 (j + 1)), (13, .slice bL st_.length cA), (14, .pointer (some ⟨aB.heap.size, 0, none⟩)), (4, .slice As2 sc2.length cs2), (10, .pointer (some ⟨w1.heap.size, 0, none⟩)), (5, .pointer (some ⟨w.heap.size, 0, none⟩)), (2, .int .i64 (p)), (3, .slice Am lm.length cm)]) ⟨rfl, rfl, rfl, rfl, rfl, rfl, rfl, rfl, trivial⟩
  exact ⟨_, (by omega), (j + 1), rfl, wU, aX, aV, bB, bG, aQ, bC, bD, aN, aS, (by omega), (by omega), (not_next hnj (by omega) (by omega) (by assumption)), (by omega)⟩
 have aCW := of_decide_eq_false lA
 refine wp_exit ?_
 refine t_e ?_
 refine t_e ?_
 refine b_e ?_
 refine t_n ?_
 refine wp_seq ?_
 have hin : (s1, s2) ∉ st_ := not_all hnj (by omega); have hne := hG.ne s1 (by omega) (by omega); have hrwl := row_len hG (i := s1) (by omega) (by omega)
 refine At.start ?_
 refine At.rd hB 2 [[], [.ld (.int .i64 (s1)), .ld (.int .i64 (s2))]] [(71, .agg #[.int .i64 (s1), .int .i64 (s2)]), (70, .slice bL st_.length cA)] [(dT.cell? ⟨aB.heap.size, 0, none⟩ = some (.int .i64 (s1))), (dT.cell? ⟨aB.heap.size, 1, none⟩ = some (.int .i64 (s2)))] (by kernel_rfl) ⟨(aN.cell (i := 0) rfl), (aN.cell (i := 1) rfl), trivial⟩ (fun aCX qU => ?_)
 clear hB
 refine At.seq qU 1 [[]] [(72, .slice (some ⟨dT.heap.size, 0, none⟩) 1 1)] (dT.alloc (.cells #[.int .i64 (s1), .int .i64 (s2)] 66 (0, 0))) [] (by kernel_rfl) trivial (fun aCY qV lE qW => ?_)
 clear qU; have dA := gr_alloc lE; have := dA.size; replace aX := aX.gn dA; replace aV := aV.gn dA; replace bB := bB.gn dA; replace bG := bG.gn dA; replace aQ := aQ.gn dA; replace bC := bC.gn dA; replace bD := bD.gn dA; replace aN := aN.gn dA; replace aS := aS.grN dA; have lF : Bx qV (dT.heap.size) [.int .i64 (s1), .int .i64 (s2)] 66 := Bx.new lE; have := lF.lt; clear dA lE
 have wV : (st_ ++ ([(s1, s2)])).length = (st_).length + ([(s1, s2)] : List Pr2).length := List.length_append
 simp only [List.length_cons, List.length_nil] at wV
 refine At.act qW (appendR (α := Pr2) (t := 64) (d := 73) (n := st_.length) (m := 1) (cc := 1) (xs := st_) (ys := [(s1, s2)]) (bytes := 16) (by first | rfl | omega | (simp; done) | (simp; omega)) (by first | rfl | omega | (simp; done) | (simp; omega)) (by kernel_rfl) rfl (by kernel_rfl) aS (Bx.srcR (l := ([(s1, s2)] : List Pr2)) lF rfl) (by simp only [List.length_cons, List.length_nil]; omega) (by simp only [List.length_cons, List.length_nil]; omega)) ?_
 rintro d_ v_ cB ⟨rfl, aJ, aK, iR⟩
 obtain rfl := iR.val
 have dH := iR.gr
 refine ⟨_, rfl, fun aCZ qX => ?_⟩
 clear qW; clear lF; have gD := iR.own (Sx (cL.heap.size) []) (fun g _ hs => hs.2) (show cL.heap.size ≤ qV.heap.size by omega); have := dH.size; replace aX := aX.gr dH (fun k hk => by have := aS.ge k hk; omega); replace aV := aV.gr dH (fun k hk => by have := aS.ge k hk; omega); replace bB := bB.gr dH (fun k hk => by have := aS.ge k hk; omega)
 replace bG := bG.gr dH (fun k hk => by have := aS.ge k hk; omega); replace aQ := aQ.gr dH (fun e => by have := aS.ge _ e; omega); replace bC := bC.gr dH (fun e => by have := aS.ge _ e; omega); replace bD := bD.gr dH (fun k hk => by have := aS.ge k hk; omega); replace aN := aN.gr dH (fun e => by have := aS.ge _ e; omega); clear aS dH iR
 refine At.rd qX 1 [[]] [(13, .slice aJ ((st_ ++ ([(s1, s2)])).length) aK)] [] (by kernel_rfl) trivial (fun aDa qY => ?_)
 clear qX
 refine At.done rfl ?_
 refine t_n ?_
 refine wp_seq ?_
 refine wp_seq ?_
 refine At.start ?_
 obtain ⟨iS, wW, _, _, wX⟩ := RdI.get aV.ow (s1) (by omega) (by omega)
 refine At.rd qY 8 [[], [.ld (.slice Ag0 g.ow.length cg0)], [], [.ld (.int .i64 (s1))], [.ad iS], [.ld (.int .i64 (gI g.ow (s1)))], [], []] [(81, .bool ((gI g.ow (s1) : Int) == p)), (80, .int .i64 (p)), (79, .int .i64 (gI g.ow (s1))), (78, .pointer (some (iS.add ((s1 : Int).toNat * 1)))), (77, .int .i64 (s1)), (76, .pointer (some ⟨aB.heap.size, 0, none⟩)), (75, .slice Ag0 g.ow.length cg0), (74, .pointer (some ⟨w.heap.size, 0, none⟩))] [(cB.cell? ⟨w.heap.size, 0, none⟩ = some (.slice Ag0 g.ow.length cg0)), (cB.cell? ⟨aB.heap.size, 0, none⟩ = some (.int .i64 (s1))), (Ag0 = some iS), (0 ≤ (s1 : Int)), ((s1 : Int) < (g.ow.length : Nat)), (cB.cell? (iS.add ((s1 : Int).toNat * 1)) = some (.int .i64 (gI g.ow (s1))))] (by kernel_rfl) ⟨(aQ.cell (i := 0) rfl), (aN.cell (i := 0) rfl), wW, (by omega), (by omega), wX, trivial⟩ (fun aDb qZ => ?_)
 clear qY
 refine At.done rfl ?_
 refine t_n ?_
 have hH := qZ.sub (r := [(81, .bool ((gI g.ow (s1) : Int) == p)), (13, .slice aJ ((st_ ++ ([(s1, s2)])).length) aK), (14, .pointer (some ⟨aB.heap.size, 0, none⟩)), (4, .slice As2 sc2.length cs2), (10, .pointer (some ⟨w1.heap.size, 0, none⟩)), (5, .pointer (some ⟨w.heap.size, 0, none⟩)), (2, .int .i64 (p)), (3, .slice Am lm.length cm)]) ⟨rfl, rfl, rfl, rfl, rfl, rfl, rfl, rfl, trivial⟩
 clear qZ
 refine cond_S hH (t := (gI g.ow (s1) : Int) == p) rfl (fun lG => ?_) (fun lG => ?_)
 ·have aDc := eq_of_beq lG
  refine wp_seq ?_
  refine At.start ?_
  refine At.rd hH 1 [[]] [(16, .int .i64 (-1))] [] (by kernel_rfl) trivial (fun aDd lH => ?_)
  clear hH
  refine At.done rfl ?_
  refine t_n ?_
  refine wp_seq (cut (fun a_ w_ => ∃ (m : Int), (Frm 137 a_ [(16, .int .i64 (m)), (13, .slice aJ ((st_ ++ ([(s1, s2)])).length) aK), (14, .pointer (some ⟨aB.heap.size, 0, none⟩)), (4, .slice As2 sc2.length cs2), (10, .pointer (some ⟨w1.heap.size, 0, none⟩)), (5, .pointer (some ⟨w.heap.size, 0, none⟩)), (2, .int .i64 (p)), (3, .slice Am lm.length cm)]) ∧ (Ext w w_) ∧ (RdG w_ 0 w.heap.size Ag0 Ag1 Ag2 cg0 cg1 cg2 g) ∧ (RdI w_ 0 w.heap.size Am lm) ∧ (RdI w_ 0 w.heap.size As ls) ∧ (Bx w_ (w.heap.size) [.slice Ag0 g.ow.length cg0, .slice Ag1 g.pr.length cg1, .slice Ag2 g.mv.length cg2] 25) ∧ (Bx w_ (w1.heap.size) [.slice none 0 0, .slice none 0 0, .int .i64 (0)] 29) ∧ (RdI w_ lo_ hi_ As2 sc2) ∧ (Bx w_ (aB.heap.size) [.int .i64 (s1), .int .i64 (s2)] 66) ∧ (OwnR w_ (Sx (cL.heap.size) []) aJ aK 66 (st_ ++ ([(s1, s2)]) : List Pr2)) ∧ (m = if s1 < (lm.length : Int) then gI lm s1 else -1) ∧ (cB.heap.size ≤ w_.heap.size)) ?_ ?_)
  ·refine wp_seq ?_
   refine At.start ?_
   refine At.rd lH 5 [[], [.ld (.int .i64 (s1))], [], [], []] [(86, .bool (decide ((s1 : Int) < ((lm.length : Nat) : Int)))), (85, .int .i64 (((lm.length : Nat) : Int))), (84, .slice Am lm.length cm), (83, .int .i64 (s1)), (82, .pointer (some ⟨aB.heap.size, 0, none⟩))] [(cB.cell? ⟨aB.heap.size, 0, none⟩ = some (.int .i64 (s1)))] (by kernel_rfl) ⟨(aN.cell (i := 0) rfl), trivial⟩ (fun aDe iT => ?_)
   clear lH
   refine At.done rfl ?_
   refine t_n ?_
   refine cond_S iT (t := decide ((s1 : Int) < ((lm.length : Nat) : Int))) rfl (fun lI => ?_) (fun lI => ?_)
   ·have aDf := of_decide_eq_true lI
    refine At.start ?_
    obtain ⟨iU, wY, _, _, wZ⟩ := RdI.get bB (s1) (by omega) (by omega)
    refine At.rd iT 6 [[], [], [.ld (.int .i64 (s1))], [.ad iU], [.ld (.int .i64 (gI lm (s1)))], []] [(16, .int .i64 (gI lm (s1))), (91, .int .i64 (gI lm (s1))), (90, .pointer (some (iU.add ((s1 : Int).toNat * 1)))), (89, .int .i64 (s1)), (88, .pointer (some ⟨aB.heap.size, 0, none⟩)), (87, .slice Am lm.length cm)] [(cB.cell? ⟨aB.heap.size, 0, none⟩ = some (.int .i64 (s1))), (Am = some iU), (0 ≤ (s1 : Int)), ((s1 : Int) < (lm.length : Nat)), (cB.cell? (iU.add ((s1 : Int).toNat * 1)) = some (.int .i64 (gI lm (s1))))] (by kernel_rfl) ⟨(aN.cell (i := 0) rfl), wY, (by omega), (by omega), wZ, trivial⟩ (fun aDg xA => ?_)
    clear iT
    refine At.done rfl ?_
    refine t_n ?_
    have xB := xA.sub (r := [(16, .int .i64 (gI lm (s1))), (13, .slice aJ ((st_ ++ ([(s1, s2)])).length) aK), (14, .pointer (some ⟨aB.heap.size, 0, none⟩)), (4, .slice As2 sc2.length cs2), (10, .pointer (some ⟨w1.heap.size, 0, none⟩)), (5, .pointer (some ⟨w.heap.size, 0, none⟩)), (2, .int .i64 (p)), (3, .slice Am lm.length cm)]) ⟨rfl, rfl, rfl, rfl, rfl, rfl, rfl, rfl, trivial⟩
    exact ⟨gI lm (s1), xB, aX, aV, bB, bG, aQ, bC, bD, aN, gD, (by first | rw [if_pos (by omega)] | rw [if_neg (by omega)]), (by omega)⟩
   have aDh := of_decide_eq_false lI
   refine wp_skip ?_
   refine t_n ?_
   have xC := iT.sub (r := [(16, .int .i64 (-1)), (13, .slice aJ ((st_ ++ ([(s1, s2)])).length) aK), (14, .pointer (some ⟨aB.heap.size, 0, none⟩)), (4, .slice As2 sc2.length cs2), (10, .pointer (some ⟨w1.heap.size, 0, none⟩)), (5, .pointer (some ⟨w.heap.size, 0, none⟩)), (2, .int .i64 (p)), (3, .slice Am lm.length cm)]) ⟨rfl, rfl, rfl, rfl, rfl, rfl, rfl, rfl, trivial⟩
   exact ⟨-1, xC, aX, aV, bB, bG, aQ, bC, bD, aN, gD, (by first | rw [if_pos (by omega)] | rw [if_neg (by omega)]), (by omega)⟩
  clear aV; clear bB; clear bG; clear aQ; clear bC; clear bD; clear aN; clear gD; clear lH aX
  intro aDi iV ⟨m, rA, dW, eF, fG, fH, dB, eG, fI, eH, rB, hm, i961⟩
  have := dW.size; have := dB.lt; have := eG.lt; have := eH.lt
  refine wp_seq ?_
  refine At.start ?_
  refine At.rd rA 4 [[.ld (.slice Ag0 g.ow.length cg0), .ld (.slice Ag1 g.pr.length cg1), .ld (.slice Ag2 g.mv.length cg2)], [], [.ld (.int .i64 (s1))], []] [(95, .int .i64 (m)), (94, .int .i64 (s1)), (93, .pointer (some ⟨aB.heap.size, 0, none⟩)), (92, .agg #[.slice Ag0 g.ow.length cg0, .slice Ag1 g.pr.length cg1, .slice Ag2 g.mv.length cg2])] [(iV.cell? ⟨w.heap.size, 0, none⟩ = some (.slice Ag0 g.ow.length cg0)), (iV.cell? ⟨w.heap.size, 1, none⟩ = some (.slice Ag1 g.pr.length cg1)), (iV.cell? ⟨w.heap.size, 2, none⟩ = some (.slice Ag2 g.mv.length cg2)), (iV.cell? ⟨aB.heap.size, 0, none⟩ = some (.int .i64 (s1)))] (by kernel_rfl) ⟨(dB.cell (i := 0) rfl), (dB.cell (i := 1) rfl), (dB.cell (i := 2) rfl), (eH.cell (i := 0) rfl), trivial⟩ (fun aDj rC => ?_)
  clear rA
  refine At.call rC 40 #[.agg #[.slice Ag0 g.ow.length cg0, .slice Ag1 g.pr.length cg1, .slice Ag2 g.mv.length cg2], .int .i64 (s1), .int .i64 (m)] (some 96) (by kernel_rfl) (goes_any (p := s1) (v := m) (eF.wide (Nat.zero_le _) (by omega)) (by omega) (by omega)) ?_
  rintro e_ aDk ⟨rfl, he⟩
  refine ⟨_, rfl, _, rfl, fun aDl rD => ?_⟩
  clear rC; have dC := gr_ext he; have := dC.size; replace dW := dW.gn dC; replace eF := eF.gn dC; replace fG := fG.gn dC; replace fH := fH.gn dC; replace dB := dB.gn dC; replace eG := eG.gn dC; replace fI := fI.gn dC; replace eH := eH.gn dC; have hI := rB.gn dC; clear rB; clear dC he
  refine At.rd rD 1 [[]] [(17, .bool (decide (m ∈ gL g.mv s1)))] [] (by kernel_rfl) trivial (fun aDm rE => ?_)
  clear rD
  refine At.done rfl ?_
  refine t_n ?_
  refine wp_seq ?_
  refine wp_seq ?_
  refine At.start ?_
  refine At.rd rE 2 [[], []] [(98, .bool (!(decide (m ∈ gL g.mv s1)))), (97, .bool (decide (m ∈ gL g.mv s1)))] [] (by kernel_rfl) trivial (fun aDn hJ => ?_)
  clear rE
  refine At.done rfl ?_
  refine t_n ?_
  refine cond_S hJ (t := !(decide (m ∈ gL g.mv s1))) rfl (fun fJ => ?_) (fun fJ => ?_)
  ·have xD : (decide (m ∈ gL g.mv s1)) = false := by first | exact Eq.mp (Bool.not_eq_true' _) fJ | exact Eq.mp (Bool.not_eq_false' _) fJ | simpa using fJ
   have aDo := of_decide_eq_false xD
   refine wp_seq ?_
   have hno := next_ownno (g := g) (p := p) (mv := lm) (sc := sc2) (x := s1) (y := s2) (m := m) (by omega) hm (by assumption)
   refine At.start ?_
   refine At.rd hJ 1 [[]] [(99, .agg #[.slice none 0 0, .slice none 0 0, .int .i64 (0)])] [] (by kernel_rfl) trivial (fun aDp rF => ?_)
   clear hJ
   refine At.store rF (t := 29) (b := w1.heap.size) (off := 0) (v := .agg #[.slice none 0 0, .slice none 0 0, .int .i64 (0)]) (by kernel_rfl) eG (by kernel_rfl) (fun aDq iW dI hK rG => ?_)
   clear rF; replace hK : Bx iW (w1.heap.size) [.slice none 0 0, .slice none 0 0, .int .i64 (0)] 29 := hK; have := dI.size; replace dW := dW.gr dI (fun k h => by injection h; omega); replace eF := eF.gb dI (by omega); replace fG := fG.gb dI (by omega); replace fH := fH.gb dI (by omega); replace dB := dB.gb dI (by omega); replace fI := fI.gb dI (by omega); replace eH := eH.gb dI (by omega)
   replace hI := hI.gr dI (fun k hk e => by have := Sx_base hk; injection e; omega); clear eG dI
   refine At.rd rG 1 [[]] [(11, .int .i64 (16))] [] (by kernel_rfl) trivial (fun aDr rH => ?_)
   clear rG
   refine At.done rfl ?_
   refine t_n ?_
   have xE := rH.sub (r := [(11, .int .i64 (16)), (10, .pointer (some ⟨w1.heap.size, 0, none⟩))]) ⟨rfl, rfl, trivial⟩; clear rH
   refine wp_ret ?_
   refine t_r ?_
   refine t_r ?_
   refine b_r ?_
   refine t_r ?_
   refine b_r ?_
   refine ret_ xE [[.slice none 0 0, .slice none 0 0, .int .i64 (0)]] [.agg #[.slice none 0 0, .slice none 0 0, .int .i64 (0)], .int .i64 (16)] [(iW.cell? ⟨w1.heap.size, 0, none⟩ = some (.slice none 0 0)), (iW.cell? ⟨w1.heap.size, 1, none⟩ = some (.slice none 0 0)), (iW.cell? ⟨w1.heap.size, 2, none⟩ = some (.int .i64 (0)))] (by kernel_rfl) ⟨(hK.cell (i := 0) rfl), (hK.cell (i := 1) rfl), (hK.cell (i := 2) rfl), trivial⟩ ?_
   exact ⟨⟨[], [], 0, 16⟩, .move hok eT (hsc ▸ hst) hin (hsc ▸ hno), none, 0, none, 0, rfl, dW, OwnR.nil, OwnR.nil⟩
  have xF : (decide (m ∈ gL g.mv s1)) = true := by first | exact Eq.mp (Bool.not_eq_true' _) fJ | exact Eq.mp (Bool.not_eq_false' _) fJ | simpa using fJ
  have aDs := of_decide_eq_true xF
  refine wp_skip ?_
  refine t_n ?_
  refine wp_seq ?_
  refine At.start ?_
  refine At.rd hJ 2 [[], []] [(101, .pointer (some ⟨aB.heap.size, 0, none⟩)), (100, .int .i64 (m))] [] (by kernel_rfl) trivial (fun aDt rI => ?_)
  clear hJ
  refine At.store rI (t := 3) (b := aB.heap.size) (off := 0) (v := .int .i64 (m)) (by kernel_rfl) eH (by kernel_rfl) (fun aDu xG dJ lJ rJ => ?_)
  clear rI; replace lJ : Bx xG (aB.heap.size) [.int .i64 (m), .int .i64 (s2)] 66 := lJ; have := dJ.size; replace dW := dW.gr dJ (fun k h => by injection h; omega); replace eF := eF.gb dJ (by omega); replace fG := fG.gb dJ (by omega); replace fH := fH.gb dJ (by omega); replace dB := dB.gb dJ (by omega); replace eG := eG.gb dJ (by omega); replace fI := fI.gb dJ (by omega)
  replace hI := hI.gr dJ (fun k hk e => by have := Sx_base hk; injection e; omega); clear eH dJ
  refine At.done rfl ?_
  refine t_n ?_
  refine wp_exit ?_
  refine t_e ?_
  refine b_e ?_
  refine t_n ?_
  have xH := rJ.as 13 (.slice aJ ((st_ ++ ([(s1, s2)])).length) aK) (.slice aJ ((st_ ++ ([(s1, s2)]) : List Pr2).length) aK) rfl (slice_len (by first | rfl | omega | (simp; done) | (simp; omega)))
  clear rJ
  have xI := xH.sub (r := [(13, .slice aJ ((st_ ++ ([(s1, s2)]) : List Pr2).length) aK), (14, .pointer (some ⟨aB.heap.size, 0, none⟩)), (4, .slice As2 sc2.length cs2), (10, .pointer (some ⟨w1.heap.size, 0, none⟩)), (5, .pointer (some ⟨w.heap.size, 0, none⟩)), (2, .int .i64 (p)), (3, .slice Am lm.length cm)]) ⟨rfl, rfl, rfl, rfl, rfl, rfl, rfl, trivial⟩
  exact ⟨_, (by rw [hm786]; simp only [List.length_append, List.length_cons, List.length_nil]; omega), m, s2, (st_ ++ ([(s1, s2)]) : List Pr2), aJ, aK, rfl, xI, dW, eF, fG, fH, dB, eG, fI, lJ, hI, (.push hst hin (by first | exact next_own (by omega) hm (by assumption) | exact next_oth (by omega) hq)), (by omega)⟩
 have aDv := ne_of_beq_false lG
 refine wp_skip ?_
 refine t_n ?_
 refine wp_seq ?_
 refine At.start ?_
 obtain ⟨iX, lK, lL, xJ, _, _, xK, aDw, rK⟩ := RdII.get aV.mv (s1) (by omega) (by omega)
 have aDx := rK.len
 refine At.rd hH 8 [[], [.ld (.slice Ag2 g.mv.length cg2)], [], [.ld (.int .i64 (s1))], [.ad iX], [.ld (.slice lK ((gL g.mv (s1)).length) lL)], [], []] [(18, .int .i64 ((((gL g.mv (s1)).length : Nat) : Int))), (108, .int .i64 ((((gL g.mv (s1)).length : Nat) : Int))), (107, .slice lK ((gL g.mv (s1)).length) lL), (106, .pointer (some (iX.add ((s1 : Int).toNat * 1)))), (105, .int .i64 (s1)), (104, .pointer (some ⟨aB.heap.size, 0, none⟩)), (103, .slice Ag2 g.mv.length cg2), (102, .pointer (some ⟨w.heap.size, 2, none⟩))] [(cB.cell? ⟨w.heap.size, 2, none⟩ = some (.slice Ag2 g.mv.length cg2)), (cB.cell? ⟨aB.heap.size, 0, none⟩ = some (.int .i64 (s1))), (Ag2 = some iX), (0 ≤ (s1 : Int)), ((s1 : Int) < (g.mv.length : Nat)), (cB.cell? (iX.add ((s1 : Int).toNat * 1)) = some (.slice lK ((gL g.mv (s1)).length) lL))] (by kernel_rfl) ⟨(aQ.cell (i := 2) rfl), (aN.cell (i := 0) rfl), xJ, (by omega), (by omega), xK, trivial⟩ (fun aDy rL => ?_)
 clear hH
 refine At.done rfl ?_
 refine t_n ?_
 clear rK
 refine wp_seq ?_
 refine At.start ?_
 obtain ⟨iY, xL, _, _, xM⟩ := RdI.get bD (s2) (by omega) (by omega)
 refine At.rd rL 8 [[], [], [.ld (.int .i64 (s2))], [.ad iY], [.ld (.int .i64 (gI sc2 (s2)))], [], [], []] [(19, .int .i64 ((gI sc2 (s2) : Int).tmod (((gL g.mv (s1)).length : Nat) : Int))), (115, .int .i64 ((gI sc2 (s2) : Int).tmod (((gL g.mv (s1)).length : Nat) : Int))), (114, .int .i64 ((((gL g.mv (s1)).length : Nat) : Int))), (113, .int .i64 (gI sc2 (s2))), (112, .pointer (some (iY.add ((s2 : Int).toNat * 1)))), (111, .int .i64 (s2)), (110, .pointer (some ⟨aB.heap.size, 1, none⟩)), (109, .slice As2 sc2.length cs2)] [(cB.cell? ⟨aB.heap.size, 1, none⟩ = some (.int .i64 (s2))), (As2 = some iY), (0 ≤ (s2 : Int)), ((s2 : Int) < (sc2.length : Nat)), (cB.cell? (iY.add ((s2 : Int).toNat * 1)) = some (.int .i64 (gI sc2 (s2)))), (((((gL g.mv (s1)).length : Nat) : Int) : Int) ≠ 0)] (by kernel_rfl) ⟨(aN.cell (i := 1) rfl), xL, (by omega), (by omega), xM, (by omega), trivial⟩ (fun aDz lM => ?_)
 clear rL
 refine At.done rfl ?_
 refine t_n ?_
 refine wp_seq (cut (fun a_ w_ => ∃ (q : Int), (Frm 137 a_ [(19, .int .i64 (q)), (13, .slice aJ ((st_ ++ ([(s1, s2)])).length) aK), (14, .pointer (some ⟨aB.heap.size, 0, none⟩)), (4, .slice As2 sc2.length cs2), (10, .pointer (some ⟨w1.heap.size, 0, none⟩)), (5, .pointer (some ⟨w.heap.size, 0, none⟩)), (2, .int .i64 (p)), (3, .slice Am lm.length cm)]) ∧ (Ext w w_) ∧ (RdG w_ 0 w.heap.size Ag0 Ag1 Ag2 cg0 cg1 cg2 g) ∧ (RdI w_ 0 w.heap.size Am lm) ∧ (RdI w_ 0 w.heap.size As ls) ∧ (Bx w_ (w.heap.size) [.slice Ag0 g.ow.length cg0, .slice Ag1 g.pr.length cg1, .slice Ag2 g.mv.length cg2] 25) ∧ (Bx w_ (w1.heap.size) [.slice none 0 0, .slice none 0 0, .int .i64 (0)] 29) ∧ (RdI w_ lo_ hi_ As2 sc2) ∧ (Bx w_ (aB.heap.size) [.int .i64 (s1), .int .i64 (s2)] 66) ∧ (OwnR w_ (Sx (cL.heap.size) []) aJ aK 66 (st_ ++ ([(s1, s2)]) : List Pr2)) ∧ (q = if Int.tmod (gI sc2 s2) ((gL g.mv s1).length : Int) < 0 then Int.tmod (gI sc2 s2) ((gL g.mv s1).length : Int) + ((gL g.mv s1).length : Int) else Int.tmod (gI sc2 s2) ((gL g.mv s1).length : Int)) ∧ (0 ≤ q) ∧ (q < ((gL g.mv s1).length : Int)) ∧ (cB.heap.size ≤ w_.heap.size)) ?_ ?_)
 ·refine wp_seq ?_
  have ht1 := Int.lt_tmod_of_pos (gI sc2 s2) (show 0 < ((gL g.mv s1).length : Int) by omega); have ht2 := Int.tmod_lt_of_pos (gI sc2 s2) (show 0 < ((gL g.mv s1).length : Int) by omega)
  refine At.start ?_
  refine At.rd lM 2 [[], []] [(117, .bool (decide (((gI sc2 (s2) : Int).tmod (((gL g.mv (s1)).length : Nat) : Int) : Int) < 0))), (116, .int .i64 ((gI sc2 (s2) : Int).tmod (((gL g.mv (s1)).length : Nat) : Int)))] [] (by kernel_rfl) trivial (fun aDA rM => ?_)
  clear lM
  refine At.done rfl ?_
  refine t_n ?_
  have iZ := rM.sub (r := [(117, .bool (decide (((gI sc2 (s2) : Int).tmod (((gL g.mv (s1)).length : Nat) : Int) : Int) < 0))), (19, .int .i64 ((gI sc2 (s2) : Int).tmod (((gL g.mv (s1)).length : Nat) : Int))), (18, .int .i64 ((((gL g.mv (s1)).length : Nat) : Int))), (13, .slice aJ ((st_ ++ ([(s1, s2)])).length) aK), (14, .pointer (some ⟨aB.heap.size, 0, none⟩)), (4, .slice As2 sc2.length cs2), (10, .pointer (some ⟨w1.heap.size, 0, none⟩)), (5, .pointer (some ⟨w.heap.size, 0, none⟩)), (2, .int .i64 (p)), (3, .slice Am lm.length cm)]) ⟨rfl, rfl, rfl, rfl, rfl, rfl, rfl, rfl, rfl, rfl, trivial⟩
  clear rM
  refine cond_S iZ (t := decide (((gI sc2 (s2) : Int).tmod (((gL g.mv (s1)).length : Nat) : Int) : Int) < 0)) rfl (fun lN => ?_) (fun lN => ?_)
  ·have aDB := of_decide_eq_true lN
   refine At.start ?_
   refine At.rd iZ 4 [[], [], [.as_ (.int .i64 (((gI sc2 (s2) : Int).tmod (((gL g.mv (s1)).length : Nat) : Int)) + (((gL g.mv (s1)).length : Nat) : Int)))], []] [(19, .int .i64 (((gI sc2 (s2) : Int).tmod (((gL g.mv (s1)).length : Nat) : Int)) + (((gL g.mv (s1)).length : Nat) : Int))), (120, .int .i64 (((gI sc2 (s2) : Int).tmod (((gL g.mv (s1)).length : Nat) : Int)) + (((gL g.mv (s1)).length : Nat) : Int))), (119, .int .i64 ((((gL g.mv (s1)).length : Nat) : Int))), (118, .int .i64 ((gI sc2 (s2) : Int).tmod (((gL g.mv (s1)).length : Nat) : Int)))] [((.int .i64 (IntKind.i64.wrap (((gI sc2 (s2) : Int).tmod (((gL g.mv (s1)).length : Nat) : Int)) + (((gL g.mv (s1)).length : Nat) : Int))) : Value) = .int .i64 (((gI sc2 (s2) : Int).tmod (((gL g.mv (s1)).length : Nat) : Int)) + (((gL g.mv (s1)).length : Nat) : Int)))] (by kernel_rfl) ⟨(w64 (by omega) (by omega)), trivial⟩ (fun aDC xN => ?_)
   clear iZ
   refine At.done rfl ?_
   refine t_n ?_
   have xO := xN.sub (r := [(19, .int .i64 (((gI sc2 (s2) : Int).tmod (((gL g.mv (s1)).length : Nat) : Int)) + (((gL g.mv (s1)).length : Nat) : Int))), (13, .slice aJ ((st_ ++ ([(s1, s2)])).length) aK), (14, .pointer (some ⟨aB.heap.size, 0, none⟩)), (4, .slice As2 sc2.length cs2), (10, .pointer (some ⟨w1.heap.size, 0, none⟩)), (5, .pointer (some ⟨w.heap.size, 0, none⟩)), (2, .int .i64 (p)), (3, .slice Am lm.length cm)]) ⟨rfl, rfl, rfl, rfl, rfl, rfl, rfl, rfl, trivial⟩
   exact ⟨((gI sc2 (s2) : Int).tmod (((gL g.mv (s1)).length : Nat) : Int)) + (((gL g.mv (s1)).length : Nat) : Int), xO, aX, aV, bB, bG, aQ, bC, bD, aN, gD, (by first | rw [if_pos (by omega)] | rw [if_neg (by omega)]), (by omega), (by omega), (by omega)⟩
  have aDD := of_decide_eq_false lN
  refine wp_skip ?_
  refine t_n ?_
  have xP := iZ.sub (r := [(19, .int .i64 ((gI sc2 (s2) : Int).tmod (((gL g.mv (s1)).length : Nat) : Int))), (13, .slice aJ ((st_ ++ ([(s1, s2)])).length) aK), (14, .pointer (some ⟨aB.heap.size, 0, none⟩)), (4, .slice As2 sc2.length cs2), (10, .pointer (some ⟨w1.heap.size, 0, none⟩)), (5, .pointer (some ⟨w.heap.size, 0, none⟩)), (2, .int .i64 (p)), (3, .slice Am lm.length cm)]) ⟨rfl, rfl, rfl, rfl, rfl, rfl, rfl, rfl, trivial⟩
  exact ⟨(gI sc2 (s2) : Int).tmod (((gL g.mv (s1)).length : Nat) : Int), xP, aX, aV, bB, bG, aQ, bC, bD, aN, gD, (by first | rw [if_pos (by omega)] | rw [if_neg (by omega)]), (by omega), (by omega), (by omega)⟩
 clear aV; clear bB; clear bG; clear aQ; clear bC; clear bD; clear aN; clear gD; clear lM aX
 intro aDE xQ ⟨q, rN, bQ, bM, bV, bW, bN, bR, bX, bH, rO, hq, i1060, i1061, i1062⟩
 have := bQ.size; have := bN.lt; have := bR.lt; have := bH.lt
 obtain ⟨lO, gE⟩ : ∃ c : List (Addr × Value), c = [(⟨w.heap.size, 2, none⟩, (.slice Ag2 g.mv.length cg2))] := ⟨_, rfl⟩
 have rP : HoldsC lO xQ := by rw [gE]; exact ⟨(bN.cell (i := 2) rfl), trivial⟩
 refine AtH.start lO 17 #[false, false, false, false, false, false, false, false, false, false, false, false, false, false, false, false, false] (by kernel_rfl) rfl rfl (fun aE rQ => ?_)
 have cN := gr_drew rQ; have aG := rP.gr cN; have := cN.size; replace bQ := bQ.gn cN; replace bM := bM.gn cN; replace bV := bV.gn cN; replace bW := bW.gn cN; replace bN := bN.gn cN; replace bR := bR.gn cN; replace bX := bX.gn cN; replace bH := bH.gn cN; have cO := rO.gn cN; clear rO; clear cN rQ rP
 refine AtH.rd (by kernel_rfl) (fun d v c a w h => by cases d <;> exact h) aG [0, 1, 2, 6, 9, 12, 13] [[], [.ld (.slice Ag2 g.mv.length cg2)], [], [], [], [], []] [(134, .int .i64 (((sc2.length : Nat) : Int))), (133, .slice As2 sc2.length cs2), (130, .pointer (some ⟨aB.heap.size, 1, none⟩)), (127, .int .i64 (q)), (123, .pointer (some ⟨aB.heap.size, 0, none⟩)), (122, .slice Ag2 g.mv.length cg2), (121, .pointer (some ⟨w.heap.size, 2, none⟩))] #[true, true, true, false, false, false, true, false, false, true, false, false, true, true, false, false, false] [(∃ j_ : Nat, lO[j_]? = some (⟨w.heap.size, 2, none⟩, (.slice Ag2 g.mv.length cg2)))] 10 rN (by kernel_rfl) ⟨⟨0, by rw [gE]; rfl⟩, trivial⟩ (fun aDF jA => ?_)
 clear rN
 refine AtH.all [3, 10] 9 (by kernel_rfl) (by simp) ⟨?_, ?_, trivial⟩
 ·refine OneH.seq jA [[.ld (.int .i64 (s1))]] [(124, .int .i64 (s1))] aE [(aE.cell? ⟨aB.heap.size, 0, none⟩ = some (.int .i64 (s1)))] #[true, true, true, true, false, false, true, false, false, true, false, false, true, true, false, false, false] (by kernel_rfl) (by kernel_rfl) (by kernel_rfl) ⟨(bH.cell (i := 0) rfl), trivial⟩ (fun aDG xR xS rR => ?_)
  obtain rfl : aE = xR := xS.symm
  clear jA
  refine ⟨aG, ?_⟩
  obtain ⟨hL, eI, gF, xT, _, _, rS, aDH, dX⟩ := RdII.get bM.mv (s1) (by omega) (by omega)
  have aDI := dX.len
  refine AtH.rd (by kernel_rfl) (fun d v c a w h => by cases d <;> exact h) aG [4] [[.ad hL]] [(125, .pointer (some (hL.add ((s1 : Int).toNat * 1))))] #[true, true, true, true, true, false, true, false, false, true, false, false, true, true, false, false, false] [(Ag2 = some hL), (0 ≤ (s1 : Int)), ((s1 : Int) < (g.mv.length : Nat))] 8 rR (by kernel_rfl) ⟨xT, (by omega), (by omega), trivial⟩ (fun aDJ jB => ?_)
  clear rR
  refine AtH.all [5, 10] 7 (by kernel_rfl) (by simp) ⟨?_, ?_, trivial⟩
  ·refine OneH.seq jB [[.ld (.slice eI ((gL g.mv (s1)).length) gF)]] [(126, .slice eI ((gL g.mv (s1)).length) gF)] aE [(aE.cell? (hL.add ((s1 : Int).toNat * 1)) = some (.slice eI ((gL g.mv (s1)).length) gF))] #[true, true, true, true, true, true, true, false, false, true, false, false, true, true, false, false, false] (by kernel_rfl) (by kernel_rfl) (by kernel_rfl) ⟨rS, trivial⟩ (fun aDK xU xV rT => ?_)
   obtain rfl : aE = xU := xV.symm
   clear jB
   refine ⟨aG, ?_⟩
   obtain ⟨hM, xW, _, _, rU⟩ := RdI.get dX (q) (by omega) (by omega)
   refine AtH.rd (by kernel_rfl) (fun d v c a w h => by cases d <;> exact h) aG [7] [[.ad hM]] [(128, .pointer (some (hM.add ((q : Int).toNat * 1))))] #[true, true, true, true, true, true, true, true, false, true, false, false, true, true, false, false, false] [(eI = some hM), (0 ≤ (q : Int)), ((q : Int) < ((gL g.mv (s1)).length : Nat))] 6 rT (by kernel_rfl) ⟨xW, (by omega), (by omega), trivial⟩ (fun aDL jC => ?_)
   clear rT
   refine AtH.all [8, 10] 5 (by kernel_rfl) (by simp) ⟨?_, ?_, trivial⟩
   ·refine OneH.seq jC [[.ld (.int .i64 (gI (gL g.mv (s1)) (q)))]] [(129, .int .i64 (gI (gL g.mv (s1)) (q)))] aE [(aE.cell? (hM.add ((q : Int).toNat * 1)) = some (.int .i64 (gI (gL g.mv (s1)) (q))))] #[true, true, true, true, true, true, true, true, true, true, false, false, true, true, false, false, false] (by kernel_rfl) (by kernel_rfl) (by kernel_rfl) ⟨rU, trivial⟩ (fun aDM xX xY rV => ?_)
    obtain rfl : aE = xX := xY.symm
    clear jC
    refine ⟨aG, ?_⟩
    refine AtH.all [10] 4 (by kernel_rfl) (by simp) ⟨?_, trivial⟩
    refine OneH.seq rV [[.ld (.int .i64 (s2))]] [(131, .int .i64 (s2))] aE [(aE.cell? ⟨aB.heap.size, 1, none⟩ = some (.int .i64 (s2)))] #[true, true, true, true, true, true, true, true, true, true, true, false, true, true, false, false, false] (by kernel_rfl) (by kernel_rfl) (by kernel_rfl) ⟨(bH.cell (i := 1) rfl), trivial⟩ (fun aDN xZ yA rW => ?_)
    obtain rfl : aE = xZ := yA.symm
    clear rV
    refine ⟨aG, ?_⟩
    refine AtH.rd (by kernel_rfl) (fun d v c a w h => by cases d <;> exact h) aG [11] [[.as_ (.int .i64 (s2 + 1))]] [(132, .int .i64 (s2 + 1))] #[true, true, true, true, true, true, true, true, true, true, true, true, true, true, false, false, false] [((.int .i64 (IntKind.i64.wrap (s2 + 1)) : Value) = .int .i64 (s2 + 1))] 3 rW (by kernel_rfl) ⟨(w64 (by omega) (by omega)), trivial⟩ (fun aDO rX => ?_)
    clear rW
    refine AtH.rd (by kernel_rfl) (fun d v c a w h => by cases d <;> exact h) aG [14] [[.as_ (.int .i64 ((s2 + 1 : Int) % ((sc2.length : Nat) : Int)))]] [(135, .int .i64 ((s2 + 1 : Int) % ((sc2.length : Nat) : Int)))] #[true, true, true, true, true, true, true, true, true, true, true, true, true, true, true, false, false] [((((sc2.length : Nat) : Int) : Int) ≠ 0), ((.int .i64 ((s2 + 1 : Int).tmod ((sc2.length : Nat) : Int)) : Value) = .int .i64 ((s2 + 1 : Int) % ((sc2.length : Nat) : Int)))] 2 rX (by kernel_rfl) ⟨(by omega), (congrArg (Value.int .i64) (Int.tmod_eq_emod_of_nonneg (by omega))), trivial⟩ (fun aDP rY => ?_)
    clear rX
    refine AtH.rd (by kernel_rfl) (fun d v c a w h => by cases d <;> exact h) aG [15] [[]] [(136, .agg #[.int .i64 (gI (gL g.mv (s1)) (q)), .int .i64 ((s2 + 1 : Int) % ((sc2.length : Nat) : Int))])] #[true, true, true, true, true, true, true, true, true, true, true, true, true, true, true, true, false] [] 1 rY (by kernel_rfl) trivial (fun aDQ rZ => ?_)
    clear rY
    refine AtH.all [16] 0 (by kernel_rfl) (by simp) ⟨?_, trivial⟩
    refine OneH.store rZ (t := 66) (b := aB.heap.size) (off := 0) (v := .agg #[.int .i64 (gI (gL g.mv (s1)) (q)), .int .i64 ((s2 + 1 : Int) % ((sc2.length : Nat) : Int))]) #[true, true, true, true, true, true, true, true, true, true, true, true, true, true, true, true, true] (by kernel_rfl) (by kernel_rfl) bH (by kernel_rfl) (fun aDR yB cP lP sA => ?_)
    clear rZ; replace lP : Bx yB (aB.heap.size) [.int .i64 (gI (gL g.mv (s1)) (q)), .int .i64 ((s2 + 1 : Int) % ((sc2.length : Nat) : Int))] 66 := lP; have sB := aG.gr' cP (by rw [gE]; exact ⟨(by simp only [add_block]; omega), trivial⟩); have := cP.size; replace bQ := bQ.gr cP (fun k h => by injection h; omega); replace bM := bM.gb cP (by omega); replace bV := bV.gb cP (by omega)
    replace bW := bW.gb cP (by omega); replace bN := bN.gb cP (by omega); replace bR := bR.gb cP (by omega); replace bX := bX.gb cP (by omega); replace cO := cO.gr cP (fun k hk e => by have := Sx_base hk; injection e; omega); replace dX := dX.gb cP (by omega); clear bH cP
    refine ⟨sB, ?_⟩
    refine AtH.done (by kernel_rfl) ?_
    clear sB
    refine b_n ?_
    refine t_n ?_
    have yC := sA.as 13 (.slice aJ ((st_ ++ ([(s1, s2)])).length) aK) (.slice aJ ((st_ ++ ([(s1, s2)]) : List Pr2).length) aK) rfl (slice_len (by first | rfl | omega | (simp; done) | (simp; omega)))
    clear sA
    have yD := yC.sub (r := [(13, .slice aJ ((st_ ++ ([(s1, s2)]) : List Pr2).length) aK), (14, .pointer (some ⟨aB.heap.size, 0, none⟩)), (4, .slice As2 sc2.length cs2), (10, .pointer (some ⟨w1.heap.size, 0, none⟩)), (5, .pointer (some ⟨w.heap.size, 0, none⟩)), (2, .int .i64 (p)), (3, .slice Am lm.length cm)]) ⟨rfl, rfl, rfl, rfl, rfl, rfl, rfl, trivial⟩
    exact ⟨_, (by rw [hm786]; simp only [List.length_append, List.length_cons, List.length_nil]; omega), gI (gL g.mv (s1)) (q), (s2 + 1 : Int) % ((sc2.length : Nat) : Int), (st_ ++ ([(s1, s2)]) : List Pr2), aJ, aK, rfl, yD, bQ, bM, bV, bW, bN, bR, bX, lP, cO, (.push hst hin (by first | exact next_own (by omega) hm (by assumption) | exact next_oth (by omega) hq)), (by omega)⟩
   refine OneH.seq jC [[.ld (.int .i64 (s2))]] [(131, .int .i64 (s2))] aE [(aE.cell? ⟨aB.heap.size, 1, none⟩ = some (.int .i64 (s2)))] #[true, true, true, true, true, true, true, true, false, true, true, false, true, true, false, false, false] (by kernel_rfl) (by kernel_rfl) (by kernel_rfl) ⟨(bH.cell (i := 1) rfl), trivial⟩ (fun aDS yE yF sC => ?_)
   obtain rfl : aE = yE := yF.symm
   clear jC
   refine ⟨aG, ?_⟩
   refine AtH.rd (by kernel_rfl) (fun d v c a w h => by cases d <;> exact h) aG [11] [[.as_ (.int .i64 (s2 + 1))]] [(132, .int .i64 (s2 + 1))] #[true, true, true, true, true, true, true, true, false, true, true, true, true, true, false, false, false] [((.int .i64 (IntKind.i64.wrap (s2 + 1)) : Value) = .int .i64 (s2 + 1))] 4 sC (by kernel_rfl) ⟨(w64 (by omega) (by omega)), trivial⟩ (fun aDT sD => ?_)
   clear sC
   refine AtH.rd (by kernel_rfl) (fun d v c a w h => by cases d <;> exact h) aG [14] [[.as_ (.int .i64 ((s2 + 1 : Int) % ((sc2.length : Nat) : Int)))]] [(135, .int .i64 ((s2 + 1 : Int) % ((sc2.length : Nat) : Int)))] #[true, true, true, true, true, true, true, true, false, true, true, true, true, true, true, false, false] [((((sc2.length : Nat) : Int) : Int) ≠ 0), ((.int .i64 ((s2 + 1 : Int).tmod ((sc2.length : Nat) : Int)) : Value) = .int .i64 ((s2 + 1 : Int) % ((sc2.length : Nat) : Int)))] 3 sD (by kernel_rfl) ⟨(by omega), (congrArg (Value.int .i64) (Int.tmod_eq_emod_of_nonneg (by omega))), trivial⟩ (fun aDU sE => ?_)
   clear sD
   refine AtH.all [8] 2 (by kernel_rfl) (by simp) ⟨?_, trivial⟩
   refine OneH.seq sE [[.ld (.int .i64 (gI (gL g.mv (s1)) (q)))]] [(129, .int .i64 (gI (gL g.mv (s1)) (q)))] aE [(aE.cell? (hM.add ((q : Int).toNat * 1)) = some (.int .i64 (gI (gL g.mv (s1)) (q))))] #[true, true, true, true, true, true, true, true, true, true, true, true, true, true, true, false, false] (by kernel_rfl) (by kernel_rfl) (by kernel_rfl) ⟨rU, trivial⟩ (fun aDV yG yH sF => ?_)
   obtain rfl : aE = yG := yH.symm
   clear sE
   refine ⟨aG, ?_⟩
   refine AtH.rd (by kernel_rfl) (fun d v c a w h => by cases d <;> exact h) aG [15] [[]] [(136, .agg #[.int .i64 (gI (gL g.mv (s1)) (q)), .int .i64 ((s2 + 1 : Int) % ((sc2.length : Nat) : Int))])] #[true, true, true, true, true, true, true, true, true, true, true, true, true, true, true, true, false] [] 1 sF (by kernel_rfl) trivial (fun aDW sG => ?_)
   clear sF
   refine AtH.all [16] 0 (by kernel_rfl) (by simp) ⟨?_, trivial⟩
   refine OneH.store sG (t := 66) (b := aB.heap.size) (off := 0) (v := .agg #[.int .i64 (gI (gL g.mv (s1)) (q)), .int .i64 ((s2 + 1 : Int) % ((sc2.length : Nat) : Int))]) #[true, true, true, true, true, true, true, true, true, true, true, true, true, true, true, true, true] (by kernel_rfl) (by kernel_rfl) bH (by kernel_rfl) (fun aDX yI cQ lQ sH => ?_)
   clear sG; replace lQ : Bx yI (aB.heap.size) [.int .i64 (gI (gL g.mv (s1)) (q)), .int .i64 ((s2 + 1 : Int) % ((sc2.length : Nat) : Int))] 66 := lQ; have sI := aG.gr' cQ (by rw [gE]; exact ⟨(by simp only [add_block]; omega), trivial⟩); have := cQ.size; replace bQ := bQ.gr cQ (fun k h => by injection h; omega); replace bM := bM.gb cQ (by omega); replace bV := bV.gb cQ (by omega)
   replace bW := bW.gb cQ (by omega); replace bN := bN.gb cQ (by omega); replace bR := bR.gb cQ (by omega); replace bX := bX.gb cQ (by omega); replace cO := cO.gr cQ (fun k hk e => by have := Sx_base hk; injection e; omega); replace dX := dX.gb cQ (by omega); clear bH cQ
   refine ⟨sI, ?_⟩
   refine AtH.done (by kernel_rfl) ?_
   clear sI
   refine b_n ?_
   refine t_n ?_
   have yJ := sH.as 13 (.slice aJ ((st_ ++ ([(s1, s2)])).length) aK) (.slice aJ ((st_ ++ ([(s1, s2)]) : List Pr2).length) aK) rfl (slice_len (by first | rfl | omega | (simp; done) | (simp; omega)))
   clear sH
   have yK := yJ.sub (r := [(13, .slice aJ ((st_ ++ ([(s1, s2)]) : List Pr2).length) aK), (14, .pointer (some ⟨aB.heap.size, 0, none⟩)), (4, .slice As2 sc2.length cs2), (10, .pointer (some ⟨w1.heap.size, 0, none⟩)), (5, .pointer (some ⟨w.heap.size, 0, none⟩)), (2, .int .i64 (p)), (3, .slice Am lm.length cm)]) ⟨rfl, rfl, rfl, rfl, rfl, rfl, rfl, trivial⟩
   exact ⟨_, (by rw [hm786]; simp only [List.length_append, List.length_cons, List.length_nil]; omega), gI (gL g.mv (s1)) (q), (s2 + 1 : Int) % ((sc2.length : Nat) : Int), (st_ ++ ([(s1, s2)]) : List Pr2), aJ, aK, rfl, yK, bQ, bM, bV, bW, bN, bR, bX, lQ, cO, (.push hst hin (by first | exact next_own (by omega) hm (by assumption) | exact next_oth (by omega) hq)), (by omega)⟩
  refine OneH.seq jB [[.ld (.int .i64 (s2))]] [(131, .int .i64 (s2))] aE [(aE.cell? ⟨aB.heap.size, 1, none⟩ = some (.int .i64 (s2)))] #[true, true, true, true, true, false, true, false, false, true, true, false, true, true, false, false, false] (by kernel_rfl) (by kernel_rfl) (by kernel_rfl) ⟨(bH.cell (i := 1) rfl), trivial⟩ (fun aDY yL yM sJ => ?_)
  obtain rfl : aE = yL := yM.symm
  clear jB
  refine ⟨aG, ?_⟩
  refine AtH.rd (by kernel_rfl) (fun d v c a w h => by cases d <;> exact h) aG [11] [[.as_ (.int .i64 (s2 + 1))]] [(132, .int .i64 (s2 + 1))] #[true, true, true, true, true, false, true, false, false, true, true, true, true, true, false, false, false] [((.int .i64 (IntKind.i64.wrap (s2 + 1)) : Value) = .int .i64 (s2 + 1))] 6 sJ (by kernel_rfl) ⟨(w64 (by omega) (by omega)), trivial⟩ (fun aDZ sK => ?_)
  clear sJ
  refine AtH.rd (by kernel_rfl) (fun d v c a w h => by cases d <;> exact h) aG [14] [[.as_ (.int .i64 ((s2 + 1 : Int) % ((sc2.length : Nat) : Int)))]] [(135, .int .i64 ((s2 + 1 : Int) % ((sc2.length : Nat) : Int)))] #[true, true, true, true, true, false, true, false, false, true, true, true, true, true, true, false, false] [((((sc2.length : Nat) : Int) : Int) ≠ 0), ((.int .i64 ((s2 + 1 : Int).tmod ((sc2.length : Nat) : Int)) : Value) = .int .i64 ((s2 + 1 : Int) % ((sc2.length : Nat) : Int)))] 5 sK (by kernel_rfl) ⟨(by omega), (congrArg (Value.int .i64) (Int.tmod_eq_emod_of_nonneg (by omega))), trivial⟩ (fun aEa sL => ?_)
  clear sK
  refine AtH.all [5] 4 (by kernel_rfl) (by simp) ⟨?_, trivial⟩
  refine OneH.seq sL [[.ld (.slice eI ((gL g.mv (s1)).length) gF)]] [(126, .slice eI ((gL g.mv (s1)).length) gF)] aE [(aE.cell? (hL.add ((s1 : Int).toNat * 1)) = some (.slice eI ((gL g.mv (s1)).length) gF))] #[true, true, true, true, true, true, true, false, false, true, true, true, true, true, true, false, false] (by kernel_rfl) (by kernel_rfl) (by kernel_rfl) ⟨rS, trivial⟩ (fun aEb yN yO sM => ?_)
  obtain rfl : aE = yN := yO.symm
  clear sL
  refine ⟨aG, ?_⟩
  obtain ⟨jD, yP, _, _, yQ⟩ := RdI.get dX (q) (by omega) (by omega)
  refine AtH.rd (by kernel_rfl) (fun d v c a w h => by cases d <;> exact h) aG [7] [[.ad jD]] [(128, .pointer (some (jD.add ((q : Int).toNat * 1))))] #[true, true, true, true, true, true, true, true, false, true, true, true, true, true, true, false, false] [(eI = some jD), (0 ≤ (q : Int)), ((q : Int) < ((gL g.mv (s1)).length : Nat))] 3 sM (by kernel_rfl) ⟨yP, (by omega), (by omega), trivial⟩ (fun aEc sN => ?_)
  clear sM
  refine AtH.all [8] 2 (by kernel_rfl) (by simp) ⟨?_, trivial⟩
  refine OneH.seq sN [[.ld (.int .i64 (gI (gL g.mv (s1)) (q)))]] [(129, .int .i64 (gI (gL g.mv (s1)) (q)))] aE [(aE.cell? (jD.add ((q : Int).toNat * 1)) = some (.int .i64 (gI (gL g.mv (s1)) (q))))] #[true, true, true, true, true, true, true, true, true, true, true, true, true, true, true, false, false] (by kernel_rfl) (by kernel_rfl) (by kernel_rfl) ⟨yQ, trivial⟩ (fun aEd yR yS sO => ?_)
  obtain rfl : aE = yR := yS.symm
  clear sN
  refine ⟨aG, ?_⟩
  refine AtH.rd (by kernel_rfl) (fun d v c a w h => by cases d <;> exact h) aG [15] [[]] [(136, .agg #[.int .i64 (gI (gL g.mv (s1)) (q)), .int .i64 ((s2 + 1 : Int) % ((sc2.length : Nat) : Int))])] #[true, true, true, true, true, true, true, true, true, true, true, true, true, true, true, true, false] [] 1 sO (by kernel_rfl) trivial (fun aEe sP => ?_)
  clear sO
  refine AtH.all [16] 0 (by kernel_rfl) (by simp) ⟨?_, trivial⟩
  refine OneH.store sP (t := 66) (b := aB.heap.size) (off := 0) (v := .agg #[.int .i64 (gI (gL g.mv (s1)) (q)), .int .i64 ((s2 + 1 : Int) % ((sc2.length : Nat) : Int))]) #[true, true, true, true, true, true, true, true, true, true, true, true, true, true, true, true, true] (by kernel_rfl) (by kernel_rfl) bH (by kernel_rfl) (fun aEf yT cR lR sQ => ?_)
  clear sP; replace lR : Bx yT (aB.heap.size) [.int .i64 (gI (gL g.mv (s1)) (q)), .int .i64 ((s2 + 1 : Int) % ((sc2.length : Nat) : Int))] 66 := lR; have sR := aG.gr' cR (by rw [gE]; exact ⟨(by simp only [add_block]; omega), trivial⟩); have := cR.size; replace bQ := bQ.gr cR (fun k h => by injection h; omega); replace bM := bM.gb cR (by omega); replace bV := bV.gb cR (by omega)
  replace bW := bW.gb cR (by omega); replace bN := bN.gb cR (by omega); replace bR := bR.gb cR (by omega); replace bX := bX.gb cR (by omega); replace cO := cO.gr cR (fun k hk e => by have := Sx_base hk; injection e; omega); replace dX := dX.gb cR (by omega); clear bH cR
  refine ⟨sR, ?_⟩
  refine AtH.done (by kernel_rfl) ?_
  clear sR
  refine b_n ?_
  refine t_n ?_
  have yU := sQ.as 13 (.slice aJ ((st_ ++ ([(s1, s2)])).length) aK) (.slice aJ ((st_ ++ ([(s1, s2)]) : List Pr2).length) aK) rfl (slice_len (by first | rfl | omega | (simp; done) | (simp; omega)))
  clear sQ
  have yV := yU.sub (r := [(13, .slice aJ ((st_ ++ ([(s1, s2)]) : List Pr2).length) aK), (14, .pointer (some ⟨aB.heap.size, 0, none⟩)), (4, .slice As2 sc2.length cs2), (10, .pointer (some ⟨w1.heap.size, 0, none⟩)), (5, .pointer (some ⟨w.heap.size, 0, none⟩)), (2, .int .i64 (p)), (3, .slice Am lm.length cm)]) ⟨rfl, rfl, rfl, rfl, rfl, rfl, rfl, trivial⟩
  exact ⟨_, (by rw [hm786]; simp only [List.length_append, List.length_cons, List.length_nil]; omega), gI (gL g.mv (s1)) (q), (s2 + 1 : Int) % ((sc2.length : Nat) : Int), (st_ ++ ([(s1, s2)]) : List Pr2), aJ, aK, rfl, yV, bQ, bM, bV, bW, bN, bR, bX, lR, cO, (.push hst hin (by first | exact next_own (by omega) hm (by assumption) | exact next_oth (by omega) hq)), (by omega)⟩
 refine OneH.seq jA [[.ld (.int .i64 (s2))]] [(131, .int .i64 (s2))] aE [(aE.cell? ⟨aB.heap.size, 1, none⟩ = some (.int .i64 (s2)))] #[true, true, true, false, false, false, true, false, false, true, true, false, true, true, false, false, false] (by kernel_rfl) (by kernel_rfl) (by kernel_rfl) ⟨(bH.cell (i := 1) rfl), trivial⟩ (fun aEg yW yX sS => ?_)
 obtain rfl : aE = yW := yX.symm
 clear jA
 refine ⟨aG, ?_⟩
 refine AtH.rd (by kernel_rfl) (fun d v c a w h => by cases d <;> exact h) aG [11] [[.as_ (.int .i64 (s2 + 1))]] [(132, .int .i64 (s2 + 1))] #[true, true, true, false, false, false, true, false, false, true, true, true, true, true, false, false, false] [((.int .i64 (IntKind.i64.wrap (s2 + 1)) : Value) = .int .i64 (s2 + 1))] 8 sS (by kernel_rfl) ⟨(w64 (by omega) (by omega)), trivial⟩ (fun aEh sT => ?_)
 clear sS
 refine AtH.rd (by kernel_rfl) (fun d v c a w h => by cases d <;> exact h) aG [14] [[.as_ (.int .i64 ((s2 + 1 : Int) % ((sc2.length : Nat) : Int)))]] [(135, .int .i64 ((s2 + 1 : Int) % ((sc2.length : Nat) : Int)))] #[true, true, true, false, false, false, true, false, false, true, true, true, true, true, true, false, false] [((((sc2.length : Nat) : Int) : Int) ≠ 0), ((.int .i64 ((s2 + 1 : Int).tmod ((sc2.length : Nat) : Int)) : Value) = .int .i64 ((s2 + 1 : Int) % ((sc2.length : Nat) : Int)))] 7 sT (by kernel_rfl) ⟨(by omega), (congrArg (Value.int .i64) (Int.tmod_eq_emod_of_nonneg (by omega))), trivial⟩ (fun aEi sU => ?_)
 clear sT
 refine AtH.all [3] 6 (by kernel_rfl) (by simp) ⟨?_, trivial⟩
 refine OneH.seq sU [[.ld (.int .i64 (s1))]] [(124, .int .i64 (s1))] aE [(aE.cell? ⟨aB.heap.size, 0, none⟩ = some (.int .i64 (s1)))] #[true, true, true, true, false, false, true, false, false, true, true, true, true, true, true, false, false] (by kernel_rfl) (by kernel_rfl) (by kernel_rfl) ⟨(bH.cell (i := 0) rfl), trivial⟩ (fun aEj yY yZ sV => ?_)
 obtain rfl : aE = yY := yZ.symm
 clear sU
 refine ⟨aG, ?_⟩
 obtain ⟨jE, jF, lS, zA, _, _, zB, aEk, jG⟩ := RdII.get bM.mv (s1) (by omega) (by omega)
 have aEl := jG.len
 refine AtH.rd (by kernel_rfl) (fun d v c a w h => by cases d <;> exact h) aG [4] [[.ad jE]] [(125, .pointer (some (jE.add ((s1 : Int).toNat * 1))))] #[true, true, true, true, true, false, true, false, false, true, true, true, true, true, true, false, false] [(Ag2 = some jE), (0 ≤ (s1 : Int)), ((s1 : Int) < (g.mv.length : Nat))] 5 sV (by kernel_rfl) ⟨zA, (by omega), (by omega), trivial⟩ (fun aEm sW => ?_)
 clear sV
 refine AtH.all [5] 4 (by kernel_rfl) (by simp) ⟨?_, trivial⟩
 refine OneH.seq sW [[.ld (.slice jF ((gL g.mv (s1)).length) lS)]] [(126, .slice jF ((gL g.mv (s1)).length) lS)] aE [(aE.cell? (jE.add ((s1 : Int).toNat * 1)) = some (.slice jF ((gL g.mv (s1)).length) lS))] #[true, true, true, true, true, true, true, false, false, true, true, true, true, true, true, false, false] (by kernel_rfl) (by kernel_rfl) (by kernel_rfl) ⟨zB, trivial⟩ (fun aEn zC zD sX => ?_)
 obtain rfl : aE = zC := zD.symm
 clear sW
 refine ⟨aG, ?_⟩
 obtain ⟨jH, zE, _, _, zF⟩ := RdI.get jG (q) (by omega) (by omega)
 refine AtH.rd (by kernel_rfl) (fun d v c a w h => by cases d <;> exact h) aG [7] [[.ad jH]] [(128, .pointer (some (jH.add ((q : Int).toNat * 1))))] #[true, true, true, true, true, true, true, true, false, true, true, true, true, true, true, false, false] [(jF = some jH), (0 ≤ (q : Int)), ((q : Int) < ((gL g.mv (s1)).length : Nat))] 3 sX (by kernel_rfl) ⟨zE, (by omega), (by omega), trivial⟩ (fun aEo sY => ?_)
 clear sX
 refine AtH.all [8] 2 (by kernel_rfl) (by simp) ⟨?_, trivial⟩
 refine OneH.seq sY [[.ld (.int .i64 (gI (gL g.mv (s1)) (q)))]] [(129, .int .i64 (gI (gL g.mv (s1)) (q)))] aE [(aE.cell? (jH.add ((q : Int).toNat * 1)) = some (.int .i64 (gI (gL g.mv (s1)) (q))))] #[true, true, true, true, true, true, true, true, true, true, true, true, true, true, true, false, false] (by kernel_rfl) (by kernel_rfl) (by kernel_rfl) ⟨zF, trivial⟩ (fun aEp zG zH sZ => ?_)
 obtain rfl : aE = zG := zH.symm
 clear sY
 refine ⟨aG, ?_⟩
 refine AtH.rd (by kernel_rfl) (fun d v c a w h => by cases d <;> exact h) aG [15] [[]] [(136, .agg #[.int .i64 (gI (gL g.mv (s1)) (q)), .int .i64 ((s2 + 1 : Int) % ((sc2.length : Nat) : Int))])] #[true, true, true, true, true, true, true, true, true, true, true, true, true, true, true, true, false] [] 1 sZ (by kernel_rfl) trivial (fun aEq tA => ?_)
 clear sZ
 refine AtH.all [16] 0 (by kernel_rfl) (by simp) ⟨?_, trivial⟩
 refine OneH.store tA (t := 66) (b := aB.heap.size) (off := 0) (v := .agg #[.int .i64 (gI (gL g.mv (s1)) (q)), .int .i64 ((s2 + 1 : Int) % ((sc2.length : Nat) : Int))]) #[true, true, true, true, true, true, true, true, true, true, true, true, true, true, true, true, true] (by kernel_rfl) (by kernel_rfl) bH (by kernel_rfl) (fun aEr zI cS lT tB => ?_)
 clear tA; replace lT : Bx zI (aB.heap.size) [.int .i64 (gI (gL g.mv (s1)) (q)), .int .i64 ((s2 + 1 : Int) % ((sc2.length : Nat) : Int))] 66 := lT; have tC := aG.gr' cS (by rw [gE]; exact ⟨(by simp only [add_block]; omega), trivial⟩); have := cS.size; replace bQ := bQ.gr cS (fun k h => by injection h; omega); replace bM := bM.gb cS (by omega); replace bV := bV.gb cS (by omega)
 replace bW := bW.gb cS (by omega); replace bN := bN.gb cS (by omega); replace bR := bR.gb cS (by omega); replace bX := bX.gb cS (by omega); replace cO := cO.gr cS (fun k hk e => by have := Sx_base hk; injection e; omega); replace jG := jG.gb cS (by omega); clear bH cS
 refine ⟨tC, ?_⟩
 refine AtH.done (by kernel_rfl) ?_
 clear tC
 refine b_n ?_
 refine t_n ?_
 have zJ := tB.as 13 (.slice aJ ((st_ ++ ([(s1, s2)])).length) aK) (.slice aJ ((st_ ++ ([(s1, s2)]) : List Pr2).length) aK) rfl (slice_len (by first | rfl | omega | (simp; done) | (simp; omega)))
 clear tB
 have zK := zJ.sub (r := [(13, .slice aJ ((st_ ++ ([(s1, s2)]) : List Pr2).length) aK), (14, .pointer (some ⟨aB.heap.size, 0, none⟩)), (4, .slice As2 sc2.length cs2), (10, .pointer (some ⟨w1.heap.size, 0, none⟩)), (5, .pointer (some ⟨w.heap.size, 0, none⟩)), (2, .int .i64 (p)), (3, .slice Am lm.length cm)]) ⟨rfl, rfl, rfl, rfl, rfl, rfl, rfl, trivial⟩
 exact ⟨_, (by rw [hm786]; simp only [List.length_append, List.length_cons, List.length_nil]; omega), gI (gL g.mv (s1)) (q), (s2 + 1 : Int) % ((sc2.length : Nat) : Int), (st_ ++ ([(s1, s2)]) : List Pr2), aJ, aK, rfl, zK, bQ, bM, bV, bW, bN, bR, bX, lT, cO, (.push hst hin (by first | exact next_own (by omega) hm (by assumption) | exact next_oth (by omega) hq)), (by omega)⟩

end Go.Proofs.Ytklbpajmoklheaa
