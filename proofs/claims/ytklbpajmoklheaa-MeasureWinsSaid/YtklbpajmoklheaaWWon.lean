/-
  A walk of a Go function, printed by a program of this repo. Conditions: what the theorems name.
-/
import Derived.Test.YtklbpajmoklheaaWRef13
import Derived.Test.YtklbpajmoklheaaWAtt12
set_option linter.unusedVariables false
set_option linter.unusedSimpArgs false
namespace Go.Proofs.Ytklbpajmoklheaa
open Go Go.RowKit

def WonOK (g : GameL) (l : List Bool) : Prop := ∀ {A0 A1 A2 A : Option Addr} {c0 c1 c2 c b0 : Nat} {w : World}, RdG w 0 w.heap.size A0 A1 A2 c0 c1 c2 g → OwnR w (Sx b0 []) A c 4 l → b0 ≤ w.heap.size →
    Calls Try.prog 50 #[.agg #[.slice A0 g.ow.length c0, .slice A1 g.pr.length c1, .slice A2 g.mv.length c2], .slice A l.length c] w fun e w' => ∃ B0 d0 B1 d1 x y, e = .returned (.tuple #[.slice B0 (x : List Bool).length d0, .slice B1 (y : List Bool).length d1]) ∧ Ext w w' ∧ OwnR w' (SxP (fun k_ => obk A = some k_ ∨ w.heap.size ≤ k_) [obk B1]) B0 d0 4 x ∧ OwnR w' (SxP (fun k_ => obk A = some k_ ∨ w.heap.size ≤ k_) [obk B0]) B1 d1 4 y ∧ WonP g l 0 x y

set_option maxHeartbeats 4000000 in
theorem won_step {Ag0 Ag1 Ag2 : Option Addr} {cg0 cg1 cg2 : Nat} {g : GameL} {A : Option Addr} {c b0 : Nat} {li : List Bool} {w : World} (hR : isR g = true) (hL : LiveB g li) (ih : ∀ l2, LiveB g l2 → cT l2 256 < cT li 256 → WonOK g l2) (rg : RdG w 0 w.heap.size Ag0 Ag1 Ag2 cg0 cg1 cg2 g) (ri : OwnR w (Sx b0 []) A c 4 li) (hb0 : b0 ≤ w.heap.size) :
    Calls Try.prog 50 #[.agg #[.slice Ag0 g.ow.length cg0, .slice Ag1 g.pr.length cg1, .slice Ag2 g.mv.length cg2], .slice A li.length c] w fun e w' => ∃ B0 d0 B1 d1 x y, e = .returned (.tuple #[.slice B0 (x : List Bool).length d0, .slice B1 (y : List Bool).length d1]) ∧ Ext w w' ∧ OwnR w' (SxP (fun k_ => obk A = some k_ ∨ w.heap.size ≤ k_) [obk B1]) B0 d0 4 x ∧ OwnR w' (SxP (fun k_ => obk A = some k_ ∨ w.heap.size ≤ k_) [obk B0]) B1 d1 4 y ∧ WonP g li 0 x y := by
 have hlg0 := rg.ow.len; have hlg1 := rg.pr.len; have hlg2 := rg.mv.len; have hkg0 := rg.k0; have hkg1 := rg.k1; have hkg2 := rg.k2; have hG := isR_ok hR; have hn1 := hG.n1; have hpl := hG.pl; have hml := hG.ml; have hll := hL.len
 refine enter_ (args := [.agg #[.slice Ag0 g.ow.length cg0, .slice Ag1 g.pr.length cg1, .slice Ag2 g.mv.length cg2], .slice A li.length c]) Try.func50 rfl Try.ntmps50 (Nat.le_of_ble_eq_true rfl) (fun act0 f0 => ?_)
 have e0 : Ext w w := Ext.refl w
 refine wp_seq ?_
 refine At.start ?_
 refine At.seq f0 1 [[]] [(2, .pointer (some ⟨w.heap.size, 0, none⟩))] (w.alloc (.cells #[.slice Ag0 g.ow.length cg0, .slice Ag1 g.pr.length cg1, .slice Ag2 g.mv.length cg2] 25 (0, 0))) [] (by kernel_rfl) trivial (fun act4 w1 hw2 f3 => ?_)
 clear f0; have g5 := gr_alloc hw2; have szw1 := g5.size; replace e0 := e0.gn g5; have r8 := rg.gn g5; clear rg; have ow9 := ri.grN g5; clear ri; have cG : Bx w1 (w.heap.size) [.slice Ag0 g.ow.length cg0, .slice Ag1 g.pr.length cg1, .slice Ag2 g.mv.length cg2] 25 := Bx.new hw2; have := cG.lt; clear g5 hw2
 refine At.rd f3 2 [[], []] [(5, .slice none 0 0), (4, .slice none 0 0)] [] (by kernel_rfl) trivial (fun mB fJ => ?_)
 clear f3
 refine At.done rfl ?_
 refine t_n ?_
 refine wp_seq ?_
 refine At.start ?_
 refine At.rd fJ 3 [[], [], []] [(6, .int .i64 (((li.length : Nat) : Int))), (20, .int .i64 (((li.length : Nat) : Int))), (19, .slice A li.length c)] [] (by kernel_rfl) trivial (fun mC fK => ?_)
 clear fJ
 refine At.done rfl ?_
 refine t_n ?_
 refine wp_seq ?_
 refine At.start ?_
 refine At.rd fK 1 [[]] [(21, .slice A li.length c)] [] (by kernel_rfl) trivial (fun mD fL => ?_)
 clear fK
 refine At.call fL 57 #[.slice A li.length c] (some 22) (by kernel_rfl) (someB_any (la := li) ((ow9.rdR (by simp only [Enc.bytes]; omega)).wide (Nat.zero_le _) (by omega))) ?_
 rintro e_ bK ⟨rfl, he⟩
 refine ⟨_, rfl, _, rfl, fun mE fM => ?_⟩
 clear fL; have cH := gr_ext he; have szw17 := cH.size; replace e0 := e0.gn cH; replace r8 := r8.gn cH; replace ow9 := ow9.gn cH; replace cG := cG.gn cH; clear cH he
 refine At.rd fM 1 [[]] [(7, .bool (someB li))] [] (by kernel_rfl) trivial (fun mF fN => ?_)
 clear fM
 refine At.done rfl ?_
 refine t_n ?_
 refine wp_seq ?_
 refine wp_seq ?_
 refine At.start ?_
 refine At.rd fN 2 [[], []] [(24, .bool (!(someB li))), (23, .bool (someB li))] [] (by kernel_rfl) trivial (fun mG cI => ?_)
 clear fN
 refine At.done rfl ?_
 refine t_n ?_
 refine cond_S cI (t := !(someB li)) rfl (fun bT => ?_) (fun bT => ?_)
 ·have mH : (someB li) = false := by first | exact Eq.mp (Bool.not_eq_true' _) bT | exact Eq.mp (Bool.not_eq_false' _) bT | simpa using bT
  clear ow9; clear cG
  refine wp_seq (cut (fun a_ w_ => ∃ (cJ : Option Addr) (cK : Option Addr) (cZ : Nat) (dA : Nat), (Frm 141 a_ [(5, .slice (cJ) ((List.replicate (((li.length : Nat) : Int) : Int).toNat (false : Bool)).length) (cZ)), (4, .slice (cK) ((List.replicate (((li.length : Nat) : Int) : Int).toNat (false : Bool)).length) (dA))]) ∧ (Ext w w_) ∧ (RdG w_ 0 w.heap.size Ag0 Ag1 Ag2 cg0 cg1 cg2 g) ∧ (OwnR w_ (Sx (bK.heap.size) [obk (cK)]) (cJ) (cZ) 4 (List.replicate (((li.length : Nat) : Int) : Int).toNat (false : Bool) : List Bool)) ∧ (OwnR w_ (Sx (bK.heap.size) [obk (cJ)]) (cK) (dA) 4 (List.replicate (((li.length : Nat) : Int) : Int).toNat (false : Bool) : List Bool)) ∧ (bK.heap.size ≤ w_.heap.size)) ?_ ?_)
  ·obtain ⟨fO, kE⟩ : ∃ c : List (Addr × Value), c = [] := ⟨_, rfl⟩
   have fP : HoldsC fO bK := by rw [kE]; exact trivial
   refine AtH.start fO 6 #[false, false, false, false, false, false] (by kernel_rfl) rfl rfl (fun aU fQ => ?_)
   have dB := gr_drew fQ; have eJ := fP.gr dB; have := dB.size; replace e0 := e0.gn dB; replace r8 := r8.gn dB; clear dB fQ fP
   refine AtH.rd (by kernel_rfl) (fun d v c a w h => by cases d <;> exact h) eJ [0, 2] [[], []] [(27, .int .i64 (((li.length : Nat) : Int))), (25, .int .i64 (((li.length : Nat) : Int)))] #[true, false, true, false, false, false] [] 4 cI (by kernel_rfl) trivial (fun mI dP => ?_)
   clear cI
   refine AtH.all [1, 3] 3 (by kernel_rfl) (by simp) ⟨?_, ?_, trivial⟩
   ·refine OneH.act dP #[true, true, true, false, false, false] (by kernel_rfl) (makeR (k1 := .i64) (k2 := .i64) (α := Bool) (e := 4) (bytes := 1) (t := 83) (d := 26) (n := ((li.length : Nat) : Int)) (cap := ((li.length : Nat) : Int)) (false) (by kernel_rfl) rfl (by kernel_rfl) (by omega) (by omega) (by omega) (by omega)) ?_
    rintro d_ v_ dC ⟨rfl, rfl, dD, dE⟩
    have eK := eJ.gr dD
    refine ⟨_, rfl, fun mJ fR => ⟨eK, ?_⟩⟩
    clear dP; replace dE := dE (Sx (aU.heap.size) []) (Nat.le_refl _); have := dD.size; replace e0 := e0.gn dD; replace r8 := r8.gn dD; clear dD; have : (List.replicate (((li.length : Nat) : Int) : Int).toNat (false : Bool)).length = (((li.length : Nat) : Int) : Int).toNat := List.length_replicate
    refine AtH.rd (by kernel_rfl) (fun d v c a w h => by cases d <;> exact h) eK [4] [[]] [(4, .slice (some ⟨aU.heap.size, 0, none⟩) ((List.replicate (((li.length : Nat) : Int) : Int).toNat (false : Bool)).length) ((((li.length : Nat) : Int) : Int).toNat))] #[true, true, true, false, true, false] [] 2 fR (by kernel_rfl) trivial (fun mK fS => ?_)
    clear fR
    refine AtH.all [3] 1 (by kernel_rfl) (by simp) ⟨?_, trivial⟩
    refine OneH.act fS #[true, true, true, true, true, false] (by kernel_rfl) (makeR (k1 := .i64) (k2 := .i64) (α := Bool) (e := 4) (bytes := 1) (t := 83) (d := 28) (n := ((li.length : Nat) : Int)) (cap := ((li.length : Nat) : Int)) (false) (by kernel_rfl) rfl (by kernel_rfl) (by omega) (by omega) (by omega) (by omega)) ?_
    rintro d_ v_ kF ⟨rfl, rfl, cL, eL⟩
    have eM := eK.gr cL
    refine ⟨_, rfl, fun mL fT => ⟨eM, ?_⟩⟩
    clear fS; replace eL := eL (Sx (dC.heap.size) [obk (some ⟨aU.heap.size, 0, none⟩)]) ⟨dE.ne_new, (Nat.le_refl _)⟩; have := cL.size; replace e0 := e0.gn cL; replace r8 := r8.gn cL
    have kG : OwnR kF (Sx (aU.heap.size) [obk (some ⟨dC.heap.size, 0, none⟩)]) (some ⟨aU.heap.size, 0, none⟩) ((((li.length : Nat) : Int) : Int).toNat) 4 (List.replicate (((li.length : Nat) : Int) : Int).toNat (false : Bool) : List Bool) := dE.grA cL (fun _ _ h => by cases h) (fun k hk hs => ⟨(fun e => by simp only [obk, Option.map_some] at e; injection e; omega), hs⟩)
    clear dE; clear cL; have : (List.replicate (((li.length : Nat) : Int) : Int).toNat (false : Bool)).length = (((li.length : Nat) : Int) : Int).toNat := List.length_replicate
    refine AtH.rd (by kernel_rfl) (fun d v c a w h => by cases d <;> exact h) eM [5] [[]] [(5, .slice (some ⟨dC.heap.size, 0, none⟩) ((List.replicate (((li.length : Nat) : Int) : Int).toNat (false : Bool)).length) ((((li.length : Nat) : Int) : Int).toNat))] #[true, true, true, true, true, true] [] 0 fT (by kernel_rfl) trivial (fun mM kH => ?_)
    clear fT
    refine AtH.done (by kernel_rfl) ?_
    clear eM
    refine t_n ?_
    have kI := kH.sub (r := [(5, .slice (some ⟨dC.heap.size, 0, none⟩) ((List.replicate (((li.length : Nat) : Int) : Int).toNat (false : Bool)).length) ((((li.length : Nat) : Int) : Int).toNat)), (4, .slice (some ⟨aU.heap.size, 0, none⟩) ((List.replicate (((li.length : Nat) : Int) : Int).toNat (false : Bool)).length) ((((li.length : Nat) : Int) : Int).toNat))]) ⟨rfl, rfl, trivial⟩
    exact ⟨some ⟨dC.heap.size, 0, none⟩, some ⟨aU.heap.size, 0, none⟩, (((li.length : Nat) : Int) : Int).toNat, (((li.length : Nat) : Int) : Int).toNat, kI, e0, r8, (eL.imp (fun g _ hs => ⟨hs.1, (by have := Sx_base hs; show bK.heap.size ≤ g; omega)⟩)), (kG.imp (fun g _ hs => ⟨hs.1, (by have := Sx_base hs; show bK.heap.size ≤ g; omega)⟩)), (by omega)⟩
   refine OneH.act dP #[true, false, true, true, false, false] (by kernel_rfl) (makeR (k1 := .i64) (k2 := .i64) (α := Bool) (e := 4) (bytes := 1) (t := 83) (d := 28) (n := ((li.length : Nat) : Int)) (cap := ((li.length : Nat) : Int)) (false) (by kernel_rfl) rfl (by kernel_rfl) (by omega) (by omega) (by omega) (by omega)) ?_
   rintro d_ v_ dF ⟨rfl, rfl, dG, dH⟩
   have fU := eJ.gr dG
   refine ⟨_, rfl, fun mN fV => ⟨fU, ?_⟩⟩
   clear dP; replace dH := dH (Sx (aU.heap.size) []) (Nat.le_refl _); have := dG.size; replace e0 := e0.gn dG; replace r8 := r8.gn dG; clear dG; have : (List.replicate (((li.length : Nat) : Int) : Int).toNat (false : Bool)).length = (((li.length : Nat) : Int) : Int).toNat := List.length_replicate
   refine AtH.all [1] 2 (by kernel_rfl) (by simp) ⟨?_, trivial⟩
   refine OneH.act fV #[true, true, true, true, false, false] (by kernel_rfl) (makeR (k1 := .i64) (k2 := .i64) (α := Bool) (e := 4) (bytes := 1) (t := 83) (d := 26) (n := ((li.length : Nat) : Int)) (cap := ((li.length : Nat) : Int)) (false) (by kernel_rfl) rfl (by kernel_rfl) (by omega) (by omega) (by omega) (by omega)) ?_
   rintro d_ v_ kJ ⟨rfl, rfl, cM, eN⟩
   have dQ := fU.gr cM
   refine ⟨_, rfl, fun mO fW => ⟨dQ, ?_⟩⟩
   clear fV; replace eN := eN (Sx (dF.heap.size) [obk (some ⟨aU.heap.size, 0, none⟩)]) ⟨dH.ne_new, (Nat.le_refl _)⟩; have := cM.size; replace e0 := e0.gn cM; replace r8 := r8.gn cM
   have kK : OwnR kJ (Sx (aU.heap.size) [obk (some ⟨dF.heap.size, 0, none⟩)]) (some ⟨aU.heap.size, 0, none⟩) ((((li.length : Nat) : Int) : Int).toNat) 4 (List.replicate (((li.length : Nat) : Int) : Int).toNat (false : Bool) : List Bool) := dH.grA cM (fun _ _ h => by cases h) (fun k hk hs => ⟨(fun e => by simp only [obk, Option.map_some] at e; injection e; omega), hs⟩)
   clear dH; clear cM; have : (List.replicate (((li.length : Nat) : Int) : Int).toNat (false : Bool)).length = (((li.length : Nat) : Int) : Int).toNat := List.length_replicate
   refine AtH.rd (by kernel_rfl) (fun d v c a w h => by cases d <;> exact h) dQ [4] [[]] [(4, .slice (some ⟨dF.heap.size, 0, none⟩) ((List.replicate (((li.length : Nat) : Int) : Int).toNat (false : Bool)).length) ((((li.length : Nat) : Int) : Int).toNat))] #[true, true, true, true, true, false] [] 1 fW (by kernel_rfl) trivial (fun mP fX => ?_)
   clear fW
   refine AtH.rd (by kernel_rfl) (fun d v c a w h => by cases d <;> exact h) dQ [5] [[]] [(5, .slice (some ⟨aU.heap.size, 0, none⟩) ((List.replicate (((li.length : Nat) : Int) : Int).toNat (false : Bool)).length) ((((li.length : Nat) : Int) : Int).toNat))] #[true, true, true, true, true, true] [] 0 fX (by kernel_rfl) trivial (fun mQ kL => ?_)
   clear fX
   refine AtH.done (by kernel_rfl) ?_
   clear dQ
   refine t_n ?_
   have kM := kL.sub (r := [(5, .slice (some ⟨aU.heap.size, 0, none⟩) ((List.replicate (((li.length : Nat) : Int) : Int).toNat (false : Bool)).length) ((((li.length : Nat) : Int) : Int).toNat)), (4, .slice (some ⟨dF.heap.size, 0, none⟩) ((List.replicate (((li.length : Nat) : Int) : Int).toNat (false : Bool)).length) ((((li.length : Nat) : Int) : Int).toNat))]) ⟨rfl, rfl, trivial⟩
   exact ⟨some ⟨aU.heap.size, 0, none⟩, some ⟨dF.heap.size, 0, none⟩, (((li.length : Nat) : Int) : Int).toNat, (((li.length : Nat) : Int) : Int).toNat, kM, e0, r8, (kK.imp (fun g _ hs => ⟨hs.1, (by have := Sx_base hs; show bK.heap.size ≤ g; omega)⟩)), (eN.imp (fun g _ hs => ⟨hs.1, (by have := Sx_base hs; show bK.heap.size ≤ g; omega)⟩)), (by omega)⟩
  clear r8; clear cI e0
  intro mR mS ⟨cJ, cK, cZ, dA, kN, fY, mT, kO, kP, mU⟩
  have := fY.size
  refine wp_ret ?_
  refine t_r ?_
  refine ret_ kN [] [.slice cK ((List.replicate (((li.length : Nat) : Int) : Int).toNat (false : Bool)).length) dA, .slice cJ ((List.replicate (((li.length : Nat) : Int) : Int).toNat (false : Bool)).length) cZ] [] (by kernel_rfl) trivial ?_
  exact ⟨cK, dA, cJ, cZ, _, _, rfl, fY, (kP.imp (fun g _ hs => ⟨hs.1, .inr (by have := Sx_base hs; omega)⟩)), (kO.imp (fun g _ hs => ⟨hs.1, .inr (by have := Sx_base hs; omega)⟩)), (won_empty (fun i h_ => by have := some_iff.2 ⟨i, h_⟩; simp_all) (by simp; omega) (by simp; omega) (rep_in _) (rep_in _))⟩
 have mV : (someB li) = true := by first | exact Eq.mp (Bool.not_eq_true' _) bT | exact Eq.mp (Bool.not_eq_false' _) bT | simpa using bT
 refine wp_skip ?_
 refine t_n ?_
 refine wp_seq ?_
 refine At.start ?_
 refine At.rd cI 1 [[]] [(8, .int .i64 (-1))] [] (by kernel_rfl) trivial (fun mW fZ => ?_)
 clear cI
 refine At.done rfl ?_
 refine t_n ?_
 refine wp_seq ?_
 refine wp_seq ?_
 refine At.start ?_
 refine At.rd fZ 1 [[]] [(9, .int .i64 (0))] [] (by kernel_rfl) trivial (fun mX gA => ?_)
 clear fZ
 refine At.done rfl ?_
 refine t_n ?_
 refine wp_block ?_
 have gC := gA.sub (r := [(9, .int .i64 (0)), (8, .int .i64 (-1)), (6, .int .i64 (((li.length : Nat) : Int))), (5, .slice none 0 0), (4, .slice none 0 0), (2, .pointer (some ⟨w.heap.size, 0, none⟩)), (1, .slice A li.length c)]) ⟨rfl, rfl, rfl, rfl, rfl, rfl, rfl, trivial⟩
 refine loop_g (fun (m_ : Nat) a_ w_ => ∃ (k : Int) (t : Int), m_ = ((li.length : Int) - k).toNat ∧ (Frm 141 a_ [(9, .int .i64 (k)), (8, .int .i64 (t)), (6, .int .i64 (((li.length : Nat) : Int))), (5, .slice none 0 0), (4, .slice none 0 0), (2, .pointer (some ⟨w.heap.size, 0, none⟩)), (1, .slice A li.length c)]) ∧ (Ext w w_) ∧ (RdG w_ 0 w.heap.size Ag0 Ag1 Ag2 cg0 cg1 cg2 g) ∧ (OwnR w_ (Sx (b0) [some (w.heap.size)]) A c 4 (li : List Bool)) ∧ (Bx w_ (w.heap.size) [.slice Ag0 g.ow.length cg0, .slice Ag1 g.pr.length cg1, .slice Ag2 g.mv.length cg2] 25) ∧ (0 ≤ k) ∧ (k ≤ (li.length : Int)) ∧ (MaxT g li t k) ∧ (b0 ≤ w_.heap.size)) _ ⟨0, (-1), rfl, gC, e0, r8, ow9, cG, (by omega), (Int.natCast_nonneg _), max_0, (by omega)⟩ ?_
 clear gC gA; clear r8; clear ow9; clear cG; clear e0
 intro m_ mY aM ⟨k, t, hm123, gD, bL, bE, bF, bD, i128, i129, hmx, i130⟩
 have szw121 := bL.size; have := bD.lt
 refine wp_seq ?_
 refine wp_seq ?_
 refine At.start ?_
 refine At.rd gD 3 [[], [], []] [(31, .bool (decide ((k : Int) < ((li.length : Nat) : Int)))), (30, .int .i64 (((li.length : Nat) : Int))), (29, .int .i64 (k))] [] (by kernel_rfl) trivial (fun mZ bU => ?_)
 clear gD
 refine At.done rfl ?_
 refine t_n ?_
 refine cond_S bU (t := decide ((k : Int) < ((li.length : Nat) : Int))) rfl (fun eO => ?_) (fun eO => ?_)
 ·have nA := of_decide_eq_true eO
  refine wp_skip ?_
  refine t_n ?_
  refine wp_seq ?_
  refine wp_block ?_
  refine wp_seq ?_
  refine At.start ?_
  obtain ⟨bM, gE, nB, gF, nC⟩ := bF.get (k) (by omega) (by omega) (sz := 1) rfl
  rcases Bool.eq_false_or_eq_true (gB li k) with eP | eP
  ·obtain ⟨dR, kQ, _, _, kR⟩ := RdI.get bE.pr (k) (by omega) (by omega)
   refine At.rd bU 13 [[], [], [.ad bM], [.ld (.bool (gB li k))], [.as_ (.bool true)], [], [.ld (.slice Ag1 g.pr.length cg1)], [], [.ad dR], [.ld (.int .i64 (gI g.pr (k)))], [], [], []] [(46, .bool (decide ((gI g.pr (k) : Int) > t))), (45, .bool (decide ((gI g.pr (k) : Int) > t))), (44, .int .i64 (t)), (43, .int .i64 (gI g.pr (k))), (42, .pointer (some (dR.add ((k : Int).toNat * 1)))), (41, .int .i64 (k)), (40, .slice Ag1 g.pr.length cg1), (39, .pointer (some ⟨w.heap.size, 1, none⟩)), (38, .bool true), (37, .bool (gB li k)), (36, .pointer (some (bM.add ((k : Int).toNat * 1)))), (35, .int .i64 (k)), (34, .slice A li.length c)] [(A = some bM), (0 ≤ (k : Int)), ((k : Int) < (li.length : Nat)), (aM.cell? (bM.add ((k : Int).toNat * 1)) = some (.bool (gB li k))), ((.bool (gB li k) : Value) = .bool true), (aM.cell? ⟨w.heap.size, 1, none⟩ = some (.slice Ag1 g.pr.length cg1)), (Ag1 = some dR), (0 ≤ (k : Int)), ((k : Int) < (g.pr.length : Nat)), (aM.cell? (dR.add ((k : Int).toNat * 1)) = some (.int .i64 (gI g.pr (k))))] (by kernel_rfl) ⟨gE, (by omega), (by omega), gF, (congrArg Value.bool eP), (bD.cell (i := 1) rfl), kQ, (by omega), (by omega), kR, trivial⟩ (fun nD dI => ?_)
   clear bU
   refine At.done rfl ?_
   refine t_n ?_
   refine cond_S dI (t := decide ((gI g.pr (k) : Int) > t)) rfl (fun eQ => ?_) (fun eQ => ?_)
   ·have nE := of_decide_eq_true eQ
    refine At.start ?_
    obtain ⟨dS, kS, _, _, kT⟩ := RdI.get bE.pr (k) (by omega) (by omega)
    refine At.rd dI 6 [[], [.ld (.slice Ag1 g.pr.length cg1)], [], [.ad dS], [.ld (.int .i64 (gI g.pr (k)))], []] [(8, .int .i64 (gI g.pr (k))), (51, .int .i64 (gI g.pr (k))), (50, .pointer (some (dS.add ((k : Int).toNat * 1)))), (49, .int .i64 (k)), (48, .slice Ag1 g.pr.length cg1), (47, .pointer (some ⟨w.heap.size, 1, none⟩))] [(aM.cell? ⟨w.heap.size, 1, none⟩ = some (.slice Ag1 g.pr.length cg1)), (Ag1 = some dS), (0 ≤ (k : Int)), ((k : Int) < (g.pr.length : Nat)), (aM.cell? (dS.add ((k : Int).toNat * 1)) = some (.int .i64 (gI g.pr (k))))] (by kernel_rfl) ⟨(bD.cell (i := 1) rfl), kS, (by omega), (by omega), kT, trivial⟩ (fun nF gG => ?_)
    clear dI
    refine At.done rfl ?_
    refine b_n ?_
    refine t_n ?_
    refine At.start ?_
    refine At.rd gG 3 [[], [.as_ (.int .i64 (k + 1))], []] [(9, .int .i64 (k + 1)), (33, .int .i64 (k + 1)), (32, .int .i64 (k))] [((.int .i64 (IntKind.i64.wrap (k + 1)) : Value) = .int .i64 (k + 1))] (by kernel_rfl) ⟨(w64 (by omega) (by omega)), trivial⟩ (fun nG kU => ?_)
    clear gG
    refine At.done rfl ?_
    refine t_n ?_
    have kV := kU.sub (r := [(9, .int .i64 (k + 1)), (8, .int .i64 (gI g.pr (k))), (6, .int .i64 (((li.length : Nat) : Int))), (5, .slice none 0 0), (4, .slice none 0 0), (2, .pointer (some ⟨w.heap.size, 0, none⟩)), (1, .slice A li.length c)]) ⟨rfl, rfl, rfl, rfl, rfl, rfl, rfl, trivial⟩
    exact ⟨_, (by omega), (k + 1), gI g.pr (k), rfl, kV, bL, bE, bF, bD, (by omega), (by omega), (max_up hmx (by omega) (by assumption) (by omega)), (by omega)⟩
   have nH := of_decide_eq_false eQ
   refine wp_skip ?_
   refine b_n ?_
   refine t_n ?_
   refine At.start ?_
   refine At.rd dI 3 [[], [.as_ (.int .i64 (k + 1))], []] [(9, .int .i64 (k + 1)), (33, .int .i64 (k + 1)), (32, .int .i64 (k))] [((.int .i64 (IntKind.i64.wrap (k + 1)) : Value) = .int .i64 (k + 1))] (by kernel_rfl) ⟨(w64 (by omega) (by omega)), trivial⟩ (fun nI kW => ?_)
   clear dI
   refine At.done rfl ?_
   refine t_n ?_
   have kX := kW.sub (r := [(9, .int .i64 (k + 1)), (8, .int .i64 (t)), (6, .int .i64 (((li.length : Nat) : Int))), (5, .slice none 0 0), (4, .slice none 0 0), (2, .pointer (some ⟨w.heap.size, 0, none⟩)), (1, .slice A li.length c)]) ⟨rfl, rfl, rfl, rfl, rfl, rfl, rfl, trivial⟩
   exact ⟨_, (by omega), (k + 1), t, rfl, kX, bL, bE, bF, bD, (by omega), (by omega), (max_keep hmx (fun h_ => by first | (rw [show gB li k = false from by assumption] at h_; cases h_) | omega)), (by omega)⟩
  refine At.rd bU 13 [[], [], [.ad bM], [.ld (.bool (gB li k))], [.as_ (.bool false)], [], [], [], [], [], [], [], []] [(46, .bool false), (45, undef), (44, undef), (43, undef), (42, undef), (41, undef), (40, undef), (39, undef), (38, .bool false), (37, .bool (gB li k)), (36, .pointer (some (bM.add ((k : Int).toNat * 1)))), (35, .int .i64 (k)), (34, .slice A li.length c)] [(A = some bM), (0 ≤ (k : Int)), ((k : Int) < (li.length : Nat)), (aM.cell? (bM.add ((k : Int).toNat * 1)) = some (.bool (gB li k))), ((.bool (gB li k) : Value) = .bool false)] (by kernel_rfl) ⟨gE, (by omega), (by omega), gF, (congrArg Value.bool eP), trivial⟩ (fun nJ eR => ?_)
  clear bU
  refine At.done rfl ?_
  refine t_n ?_
  refine cond_F eR rfl ?_
  refine wp_skip ?_
  refine b_n ?_
  refine t_n ?_
  have gH := eR.sub (r := [(9, .int .i64 (k)), (8, .int .i64 (t)), (6, .int .i64 (((li.length : Nat) : Int))), (5, .slice none 0 0), (4, .slice none 0 0), (2, .pointer (some ⟨w.heap.size, 0, none⟩)), (1, .slice A li.length c)]) ⟨rfl, rfl, rfl, rfl, rfl, rfl, rfl, trivial⟩
  clear eR
  refine At.start ?_
  refine At.rd gH 3 [[], [.as_ (.int .i64 (k + 1))], []] [(9, .int .i64 (k + 1)), (33, .int .i64 (k + 1)), (32, .int .i64 (k))] [((.int .i64 (IntKind.i64.wrap (k + 1)) : Value) = .int .i64 (k + 1))] (by kernel_rfl) ⟨(w64 (by omega) (by omega)), trivial⟩ (fun nK kY => ?_)
  clear gH
  refine At.done rfl ?_
  refine t_n ?_
  have kZ := kY.sub (r := [(9, .int .i64 (k + 1)), (8, .int .i64 (t)), (6, .int .i64 (((li.length : Nat) : Int))), (5, .slice none 0 0), (4, .slice none 0 0), (2, .pointer (some ⟨w.heap.size, 0, none⟩)), (1, .slice A li.length c)]) ⟨rfl, rfl, rfl, rfl, rfl, rfl, rfl, trivial⟩
  exact ⟨_, (by omega), (k + 1), t, rfl, kZ, bL, bE, bF, bD, (by omega), (by omega), (max_keep hmx (fun h_ => by first | (rw [show gB li k = false from by assumption] at h_; cases h_) | omega)), (by omega)⟩
 have nL := of_decide_eq_false eO
 refine wp_exit ?_
 refine t_e ?_
 clear hm123
 refine t_e ?_
 refine b_e ?_
 refine t_n ?_
 refine wp_seq ?_
 obtain ⟨p, hp2⟩ : ∃ p : Int, t % 2 = p := ⟨_, rfl⟩
 have hHi := max_end hG hL hmx (by omega) (by simp_all); have hge := hHi.ge
 refine At.start ?_
 refine At.rd bU 3 [[], [.as_ (.int .i64 (p))], []] [(10, .int .i64 (p)), (53, .int .i64 (p)), (52, .int .i64 (t))] [((2 : Int) ≠ 0), ((.int .i64 ((t : Int).tmod 2) : Value) = .int .i64 (p))] (by kernel_rfl) ⟨(by omega), (Eq.trans (b := (.int .i64 ((t : Int) % 2) : Value)) (congrArg (Value.int .i64) (Int.tmod_eq_emod_of_nonneg (by omega))) (congrArg (Value.int .i64) hp2)), trivial⟩ (fun nM gJ => ?_)
 clear bU
 refine At.done rfl ?_
 refine t_n ?_
 refine wp_seq ?_
 refine At.start ?_
 refine At.rd gJ 1 [[]] [(54, .int .i64 (((li.length : Nat) : Int)))] [] (by kernel_rfl) trivial (fun nN gK => ?_)
 clear gJ
 refine At.act gK (makeR (k1 := .i64) (k2 := .i64) (α := Bool) (e := 4) (bytes := 1) (t := 83) (d := 55) (n := ((li.length : Nat) : Int)) (cap := ((li.length : Nat) : Int)) (false) (by kernel_rfl) rfl (by kernel_rfl) (by omega) (by omega) (by omega) (by omega)) ?_
 rintro d_ v_ lA ⟨rfl, rfl, cN, dT⟩
 refine ⟨_, rfl, fun nO gL => ?_⟩
 clear gK; replace dT := dT (Sx (aM.heap.size) [obk (A)]) ⟨bF.ne_new, (Nat.le_refl _)⟩; have szw173 := cN.size; replace bL := bL.gn cN; replace bE := bE.gn cN
 replace bF : OwnR lA (Sx (b0) [obk (some ⟨aM.heap.size, 0, none⟩), some (w.heap.size)]) A c 4 (li : List Bool) := bF.grA cN (fun _ _ h => by cases h) (fun k hk hs => ⟨(fun e => by simp only [obk, Option.map_some] at e; injection e; omega), hs.1, hs.2⟩)
 replace bD := bD.gn cN; clear cN; have : (List.replicate (((li.length : Nat) : Int) : Int).toNat (false : Bool)).length = (((li.length : Nat) : Int) : Int).toNat := List.length_replicate
 refine At.rd gL 1 [[]] [(11, .slice (some ⟨aM.heap.size, 0, none⟩) ((List.replicate (((li.length : Nat) : Int) : Int).toNat (false : Bool)).length) ((((li.length : Nat) : Int) : Int).toNat))] [] (by kernel_rfl) trivial (fun nP gM => ?_)
 clear gL
 refine At.done rfl ?_
 refine t_n ?_
 refine wp_seq ?_
 refine wp_seq ?_
 refine At.start ?_
 refine At.rd gM 1 [[]] [(12, .int .i64 (0))] [] (by kernel_rfl) trivial (fun nQ gN => ?_)
 clear gM
 refine At.done rfl ?_
 refine t_n ?_
 refine wp_block ?_
 have gO := gN.as 11 (.slice (some ⟨aM.heap.size, 0, none⟩) ((List.replicate (((li.length : Nat) : Int) : Int).toNat (false : Bool)).length) ((((li.length : Nat) : Int) : Int).toNat)) (.slice (some ⟨aM.heap.size, 0, none⟩) ((List.replicate (((li.length : Nat) : Int) : Int).toNat (false : Bool) : List Bool).length) ((((li.length : Nat) : Int) : Int).toNat)) rfl (slice_len (by first | rfl | omega | (simp; done) | (simp; omega)))
 clear gN
 have gP := gO.sub (r := [(12, .int .i64 (0)), (11, .slice (some ⟨aM.heap.size, 0, none⟩) ((List.replicate (((li.length : Nat) : Int) : Int).toNat (false : Bool) : List Bool).length) ((((li.length : Nat) : Int) : Int).toNat)), (10, .int .i64 (p)), (8, .int .i64 (t)), (6, .int .i64 (((li.length : Nat) : Int))), (5, .slice none 0 0), (4, .slice none 0 0), (2, .pointer (some ⟨w.heap.size, 0, none⟩)), (1, .slice A li.length c)]) ⟨rfl, rfl, rfl, rfl, rfl, rfl, rfl, rfl, rfl, trivial⟩
 refine loop_g (fun (m_ : Nat) a_ w_ => ∃ (k1 : Int) (mm : List Bool) (aA : Option Addr) (aP : Nat), m_ = ((li.length : Int) - k1).toNat ∧ (Frm 141 a_ [(12, .int .i64 (k1)), (11, .slice aA mm.length aP), (10, .int .i64 (p)), (8, .int .i64 (t)), (6, .int .i64 (((li.length : Nat) : Int))), (5, .slice none 0 0), (4, .slice none 0 0), (2, .pointer (some ⟨w.heap.size, 0, none⟩)), (1, .slice A li.length c)]) ∧ (Ext w w_) ∧ (RdG w_ 0 w.heap.size Ag0 Ag1 Ag2 cg0 cg1 cg2 g) ∧ (OwnR w_ (Sx (b0) [obk (aA), some (w.heap.size)]) A c 4 (li : List Bool)) ∧ (Bx w_ (w.heap.size) [.slice Ag0 g.ow.length cg0, .slice Ag1 g.pr.length cg1, .slice Ag2 g.mv.length cg2] 25) ∧ (OwnR w_ (Sx (aM.heap.size) [obk (A)]) aA aP 4 (mm : List Bool)) ∧ (0 ≤ k1) ∧ (k1 ≤ (li.length : Int)) ∧ (MosK g li mm t k1) ∧ (mm.length = g.ow.length) ∧ (b0 ≤ w_.heap.size) ∧ (aM.heap.size ≤ w_.heap.size)) _ ⟨0, (List.replicate (((li.length : Nat) : Int) : Int).toNat (false : Bool) : List Bool), some ⟨aM.heap.size, 0, none⟩, (((li.length : Nat) : Int) : Int).toNat, rfl, gP, bL, bE, bF, bD, dT, (by omega), (Int.natCast_nonneg _), (by rw [Int.toNat_natCast]; exact mosK_0), (by simp; omega), (by omega), (by omega)⟩ ?_
 clear gP gO; clear bE; clear bF; clear bD; clear dT; clear bL
 intro m_ nR bB ⟨k1, mm, aA, aP, hm195, gQ, aN, aG, aD, aB, aQ, i201, i202, hmk, hmml, i203, i204⟩
 have szw193 := aN.size; have := aB.lt
 have szc205 : w.heap.size < aM.heap.size := by omega
 have szc206 : aM.heap.size ≤ bB.heap.size := by omega
 clear szw1 szw17 szw121 szw173 szw193
 refine wp_seq ?_
 refine wp_seq ?_
 refine At.start ?_
 refine At.rd gQ 3 [[], [], []] [(58, .bool (decide ((k1 : Int) < ((li.length : Nat) : Int)))), (57, .int .i64 (((li.length : Nat) : Int))), (56, .int .i64 (k1))] [] (by kernel_rfl) trivial (fun nS bV => ?_)
 clear gQ
 refine At.done rfl ?_
 refine t_n ?_
 refine cond_S bV (t := decide ((k1 : Int) < ((li.length : Nat) : Int))) rfl (fun eS => ?_) (fun eS => ?_)
 ·have nT := of_decide_eq_true eS
  refine wp_skip ?_
  refine t_n ?_
  refine wp_seq ?_
  refine wp_block ?_
  refine At.start ?_
  obtain ⟨bN, gR, nU, gS, nV⟩ := aD.get (k1) (by omega) (by omega) (sz := 1) rfl
  rcases Bool.eq_false_or_eq_true (gB li k1) with eT | eT
  ·obtain ⟨dU, lB, _, _, lC⟩ := RdI.get aG.pr (k1) (by omega) (by omega)
   obtain ⟨dV, gT, nW, nX, nY⟩ := aQ.get (k1) (by omega) (by omega) (sz := 1) rfl
   refine At.rd bV 16 [[], [], [], [], [.ad bN], [.ld (.bool (gB li k1))], [.as_ (.bool true)], [], [.ld (.slice Ag1 g.pr.length cg1)], [], [.ad dU], [.ld (.int .i64 (gI g.pr (k1)))], [], [], [], [.ad dV]] [(76, .pointer (some (dV.add ((k1 : Int).toNat * 1)))), (75, .bool ((gI g.pr (k1) : Int) == t)), (74, .bool ((gI g.pr (k1) : Int) == t)), (73, .int .i64 (t)), (72, .int .i64 (gI g.pr (k1))), (71, .pointer (some (dU.add ((k1 : Int).toNat * 1)))), (70, .int .i64 (k1)), (69, .slice Ag1 g.pr.length cg1), (68, .pointer (some ⟨w.heap.size, 1, none⟩)), (67, .bool true), (66, .bool (gB li k1)), (65, .pointer (some (bN.add ((k1 : Int).toNat * 1)))), (64, .int .i64 (k1)), (63, .slice A li.length c), (62, .int .i64 (k1)), (61, .slice aA mm.length aP)] [(A = some bN), (0 ≤ (k1 : Int)), ((k1 : Int) < (li.length : Nat)), (bB.cell? (bN.add ((k1 : Int).toNat * 1)) = some (.bool (gB li k1))), ((.bool (gB li k1) : Value) = .bool true), (bB.cell? ⟨w.heap.size, 1, none⟩ = some (.slice Ag1 g.pr.length cg1)), (Ag1 = some dU), (0 ≤ (k1 : Int)), ((k1 : Int) < (g.pr.length : Nat)), (bB.cell? (dU.add ((k1 : Int).toNat * 1)) = some (.int .i64 (gI g.pr (k1)))), (aA = some dV), (0 ≤ (k1 : Int)), ((k1 : Int) < (mm.length : Nat))] (by kernel_rfl) ⟨gR, (by omega), (by omega), gS, (congrArg Value.bool eT), (aB.cell (i := 1) rfl), lB, (by omega), (by omega), lC, gT, (by omega), (by omega), trivial⟩ (fun nZ gU => ?_)
   clear bV
   refine At.act gU (storeR (α := Bool) (t := 4) (i := k1) (ad := dV) (v := .bool ((gI g.pr (k1) : Int) == t)) ((gI g.pr (k1) : Int) == t) (by kernel_rfl) rfl rfl (by kernel_rfl) gT aQ (by omega) (by omega)) ?_
   rintro d_ v_ oA ⟨rfl, cO, lD⟩
   refine ⟨_, rfl, fun oB gV => ?_⟩
   clear gU; have oC : ((mm).set (k1 : Int).toNat ((gI g.pr (k1) : Int) == t)).length = (mm).length := List.length_set; have := cO.size; replace aN := aN.gr cO (fun k hk => by have := aQ.ge k hk; omega); replace aG := aG.gr cO (fun k hk => by have := aQ.ge k hk; omega); replace aD := aD.gr cO (fun k hk => hk.1); replace aB := aB.gr cO (fun e => by have := aQ.ge _ e; omega); clear aQ cO
   refine At.done rfl ?_
   refine b_n ?_
   refine t_n ?_
   refine At.start ?_
   refine At.rd gV 3 [[], [.as_ (.int .i64 (k1 + 1))], []] [(12, .int .i64 (k1 + 1)), (60, .int .i64 (k1 + 1)), (59, .int .i64 (k1))] [((.int .i64 (IntKind.i64.wrap (k1 + 1)) : Value) = .int .i64 (k1 + 1))] (by kernel_rfl) ⟨(w64 (by omega) (by omega)), trivial⟩ (fun oD gW => ?_)
   clear gV
   refine At.done rfl ?_
   refine t_n ?_
   have lE := gW.as 11 (.slice aA mm.length aP) (.slice aA (((mm).set (k1 : Int).toNat ((gI g.pr (k1) : Int) == t) : List Bool).length) aP) rfl (slice_len (by first | (simp only [List.length_set]; done) | rfl | omega | (simp; done) | (simp; omega)))
   clear gW
   have lF := lE.sub (r := [(12, .int .i64 (k1 + 1)), (11, .slice aA (((mm).set (k1 : Int).toNat ((gI g.pr (k1) : Int) == t) : List Bool).length) aP), (10, .int .i64 (p)), (8, .int .i64 (t)), (6, .int .i64 (((li.length : Nat) : Int))), (5, .slice none 0 0), (4, .slice none 0 0), (2, .pointer (some ⟨w.heap.size, 0, none⟩)), (1, .slice A li.length c)]) ⟨rfl, rfl, rfl, rfl, rfl, rfl, rfl, rfl, rfl, trivial⟩
   exact ⟨_, (by omega), (k1 + 1), ((mm).set (k1 : Int).toNat ((gI g.pr (k1) : Int) == t) : List Bool), aA, aP, rfl, lF, aN, aG, aD, aB, lD, (by omega), (by omega), (mosK_next hmk (by omega) (by omega) (by simp_all)), (by rw [List.length_set]; assumption), (by omega), (by omega)⟩
  obtain ⟨dW, gX, oE, oF, oG⟩ := aQ.get (k1) (by omega) (by omega) (sz := 1) rfl
  refine At.rd bV 16 [[], [], [], [], [.ad bN], [.ld (.bool (gB li k1))], [.as_ (.bool false)], [], [], [], [], [], [], [], [], [.ad dW]] [(76, .pointer (some (dW.add ((k1 : Int).toNat * 1)))), (75, .bool false), (74, undef), (73, undef), (72, undef), (71, undef), (70, undef), (69, undef), (68, undef), (67, .bool false), (66, .bool (gB li k1)), (65, .pointer (some (bN.add ((k1 : Int).toNat * 1)))), (64, .int .i64 (k1)), (63, .slice A li.length c), (62, .int .i64 (k1)), (61, .slice aA mm.length aP)] [(A = some bN), (0 ≤ (k1 : Int)), ((k1 : Int) < (li.length : Nat)), (bB.cell? (bN.add ((k1 : Int).toNat * 1)) = some (.bool (gB li k1))), ((.bool (gB li k1) : Value) = .bool false), (aA = some dW), (0 ≤ (k1 : Int)), ((k1 : Int) < (mm.length : Nat))] (by kernel_rfl) ⟨gR, (by omega), (by omega), gS, (congrArg Value.bool eT), gX, (by omega), (by omega), trivial⟩ (fun oH gY => ?_)
  clear bV
  refine At.act gY (storeR (α := Bool) (t := 4) (i := k1) (ad := dW) (v := .bool false) (false) (by kernel_rfl) rfl rfl (by kernel_rfl) gX aQ (by omega) (by omega)) ?_
  rintro d_ v_ oI ⟨rfl, cP, lG⟩
  refine ⟨_, rfl, fun oJ gZ => ?_⟩
  clear gY; have oK : ((mm).set (k1 : Int).toNat false).length = (mm).length := List.length_set; have := cP.size; replace aN := aN.gr cP (fun k hk => by have := aQ.ge k hk; omega); replace aG := aG.gr cP (fun k hk => by have := aQ.ge k hk; omega); replace aD := aD.gr cP (fun k hk => hk.1); replace aB := aB.gr cP (fun e => by have := aQ.ge _ e; omega); clear aQ cP
  refine At.done rfl ?_
  refine b_n ?_
  refine t_n ?_
  have hA := gZ.sub (r := [(12, .int .i64 (k1)), (11, .slice aA mm.length aP), (10, .int .i64 (p)), (8, .int .i64 (t)), (6, .int .i64 (((li.length : Nat) : Int))), (5, .slice none 0 0), (4, .slice none 0 0), (2, .pointer (some ⟨w.heap.size, 0, none⟩)), (1, .slice A li.length c)]) ⟨rfl, rfl, rfl, rfl, rfl, rfl, rfl, rfl, rfl, trivial⟩
  clear gZ
  refine At.start ?_
  refine At.rd hA 3 [[], [.as_ (.int .i64 (k1 + 1))], []] [(12, .int .i64 (k1 + 1)), (60, .int .i64 (k1 + 1)), (59, .int .i64 (k1))] [((.int .i64 (IntKind.i64.wrap (k1 + 1)) : Value) = .int .i64 (k1 + 1))] (by kernel_rfl) ⟨(w64 (by omega) (by omega)), trivial⟩ (fun oL hB => ?_)
  clear hA
  refine At.done rfl ?_
  refine t_n ?_
  have lH := hB.as 11 (.slice aA mm.length aP) (.slice aA (((mm).set (k1 : Int).toNat false : List Bool).length) aP) rfl (slice_len (by first | (simp only [List.length_set]; done) | rfl | omega | (simp; done) | (simp; omega)))
  clear hB
  have lI := lH.sub (r := [(12, .int .i64 (k1 + 1)), (11, .slice aA (((mm).set (k1 : Int).toNat false : List Bool).length) aP), (10, .int .i64 (p)), (8, .int .i64 (t)), (6, .int .i64 (((li.length : Nat) : Int))), (5, .slice none 0 0), (4, .slice none 0 0), (2, .pointer (some ⟨w.heap.size, 0, none⟩)), (1, .slice A li.length c)]) ⟨rfl, rfl, rfl, rfl, rfl, rfl, rfl, rfl, rfl, trivial⟩
  exact ⟨_, (by omega), (k1 + 1), ((mm).set (k1 : Int).toNat false : List Bool), aA, aP, rfl, lI, aN, aG, aD, aB, lG, (by omega), (by omega), (mosK_next hmk (by omega) (by omega) (by simp_all)), (by rw [List.length_set]; assumption), (by omega), (by omega)⟩
 have oM := of_decide_eq_false eS
 refine wp_exit ?_
 refine t_e ?_
 clear hm195
 refine t_e ?_
 refine b_e ?_
 refine t_n ?_
 refine wp_seq ?_
 have hmi := most_in hmk (by omega)
 refine At.start ?_
 refine At.rd bV 4 [[.ld (.slice Ag0 g.ow.length cg0), .ld (.slice Ag1 g.pr.length cg1), .ld (.slice Ag2 g.mv.length cg2)], [], [], []] [(80, .slice aA mm.length aP), (79, .int .i64 (p)), (78, .slice A li.length c), (77, .agg #[.slice Ag0 g.ow.length cg0, .slice Ag1 g.pr.length cg1, .slice Ag2 g.mv.length cg2])] [(bB.cell? ⟨w.heap.size, 0, none⟩ = some (.slice Ag0 g.ow.length cg0)), (bB.cell? ⟨w.heap.size, 1, none⟩ = some (.slice Ag1 g.pr.length cg1)), (bB.cell? ⟨w.heap.size, 2, none⟩ = some (.slice Ag2 g.mv.length cg2))] (by kernel_rfl) ⟨(aB.cell (i := 0) rfl), (aB.cell (i := 1) rfl), (aB.cell (i := 2) rfl), trivial⟩ (fun oN hC => ?_)
 clear bV
 refine At.call hC 58 #[.agg #[.slice Ag0 g.ow.length cg0, .slice Ag1 g.pr.length cg1, .slice Ag2 g.mv.length cg2], .slice A li.length c, .int .i64 (p), .slice aA mm.length aP] (some 81) (by kernel_rfl) (attractR_any (g := g) (li := li) (lu := mm) (p := p) (aG.wide (Nat.zero_le _) (by omega)) ((aD.rdR (by simp only [Enc.bytes]; omega)).wide (Nat.zero_le _) (by omega)) ((aQ.rdR (by simp only [Enc.bytes]; omega)).wide (Nat.zero_le _) (by omega)) hR (by omega) (by omega)) ?_
 rintro e_ dX ⟨aK, cQ, wa, rfl, he, aV, hlwa, hwa⟩
 refine ⟨_, rfl, _, rfl, fun oO hD => ?_⟩
 clear hC; have bW := gr_ext he; have hE := aD.lt; have hF := aQ.lt; have szw272 := bW.size; replace aN := aN.gn bW; replace aG := aG.gn bW
 replace aD : OwnR dX (Sx (b0) [obk (aK), obk (aA), some (w.heap.size)]) A c 4 (li : List Bool) := aD.grA bW (fun _ _ h => by cases h) (fun k hk hs => ⟨(fun e => by have := aV.ge _ e; omega), hs.1, hs.2.1, hs.2.2⟩)
 replace aB := aB.gn bW
 replace aQ : OwnR dX (Sx (aM.heap.size) [obk (aK), obk (A)]) aA aP 4 (mm : List Bool) := aQ.grA bW (fun _ _ h => by cases h) (fun k hk hs => ⟨(fun e => by have := aV.ge _ e; omega), hs.1, hs.2⟩)
 replace aV : OwnR dX (Sx (bB.heap.size) [obk (A), obk (aA)]) aK cQ 4 (wa : List Bool) := aV.imp (fun g _ hs => ⟨(fun e => by have := hE _ e; have := Sx_base hs; omega), (fun e => by have := hF _ e; have := Sx_base hs; omega), hs⟩)
 clear hE hF; clear bW he
 refine At.rd hD 1 [[]] [(13, .slice aK wa.length cQ)] [] (by kernel_rfl) trivial (fun oP hH => ?_)
 clear hD
 refine At.done rfl ?_
 refine t_n ?_
 clear aQ; have hex1 := most_ex hHi hmi hL hn1 hwa
 refine wp_seq ?_
 obtain ⟨dJ, dY⟩ : ∃ c : List (Addr × Value), c = [(⟨w.heap.size, 0, none⟩, (.slice Ag0 g.ow.length cg0)), (⟨w.heap.size, 1, none⟩, (.slice Ag1 g.pr.length cg1)), (⟨w.heap.size, 2, none⟩, (.slice Ag2 g.mv.length cg2))] := ⟨_, rfl⟩
 have hI : HoldsC dJ dX := by rw [dY]; exact ⟨(aB.cell (i := 0) rfl), (aB.cell (i := 1) rfl), (aB.cell (i := 2) rfl), trivial⟩
 refine AtH.start dJ 10 #[false, false, false, false, false, false, false, false, false, false] (by kernel_rfl) rfl rfl (fun cR hJ => ?_)
 have bO := gr_drew hJ; have hK := hI.gr bO; have szw290 := bO.size; replace aN := aN.gn bO; replace aG := aG.gn bO; replace aD := aD.gn bO; replace aB := aB.gn bO; replace aV := aV.gn bO; clear bO hJ hI
 refine AtH.rd (by kernel_rfl) (fun d v c a w h => by cases d <;> exact h) hK [0, 1, 2] [[.ld (.slice Ag0 g.ow.length cg0), .ld (.slice Ag1 g.pr.length cg1), .ld (.slice Ag2 g.mv.length cg2)], [], []] [(85, .slice aK wa.length cQ), (84, .slice A li.length c), (83, .agg #[.slice Ag0 g.ow.length cg0, .slice Ag1 g.pr.length cg1, .slice Ag2 g.mv.length cg2])] #[true, true, true, false, false, false, false, false, false, false] [(∃ j_ : Nat, dJ[j_]? = some (⟨w.heap.size, 0, none⟩, (.slice Ag0 g.ow.length cg0))), (∃ j_ : Nat, dJ[j_]? = some (⟨w.heap.size, 1, none⟩, (.slice Ag1 g.pr.length cg1))), (∃ j_ : Nat, dJ[j_]? = some (⟨w.heap.size, 2, none⟩, (.slice Ag2 g.mv.length cg2)))] 7 hH (by kernel_rfl) ⟨⟨0, by rw [dY]; rfl⟩, ⟨1, by rw [dY]; rfl⟩, ⟨2, by rw [dY]; rfl⟩, trivial⟩ (fun oQ hM => ?_)
 clear hH
 refine AtH.all [3] 6 (by kernel_rfl) (by simp) ⟨?_, trivial⟩
 refine OneH.call hM 59 #[.slice A li.length c, .slice aK wa.length cQ] (some 86) #[true, true, true, true, false, false, false, false, false, false] (by kernel_rfl) (by kernel_rfl) (lessB_any (la := li) (lb := wa) ((aD.rdR (by simp only [Enc.bytes]; omega)).wide (Nat.zero_le _) (by omega)) ((aV.rdR (by simp only [Enc.bytes]; omega)).wide (Nat.zero_le _) (by omega)) (by omega)) ?_
 rintro e_ eU ⟨bA, hN, ls1, rfl, he, aY, hls1⟩
 have hlls1 := hls1.len
 refine ⟨_, rfl, _, rfl, fun oR hO => ?_⟩
 clear hM; have bP := gr_ext he; have hP := hK.gr bP; have hQ := aD.lt; have hS := aV.lt; have szw306 := bP.size; replace aN := aN.gn bP; replace aG := aG.gn bP
 replace aD : OwnR eU (Sx (b0) [obk (bA), obk (aK), obk (aA), some (w.heap.size)]) A c 4 (li : List Bool) := aD.grA bP (fun _ _ h => by cases h) (fun k hk hs => ⟨(fun e => by have := aY.ge _ e; omega), hs.1, hs.2.1, hs.2.2.1, hs.2.2.2⟩)
 replace aB := aB.gn bP
 replace aV : OwnR eU (Sx (bB.heap.size) [obk (bA), obk (A), obk (aA)]) aK cQ 4 (wa : List Bool) := aV.grA bP (fun _ _ h => by cases h) (fun k hk hs => ⟨(fun e => by have := aY.ge _ e; omega), hs.1, hs.2.1, hs.2.2⟩)
 replace aY : OwnR eU (Sx (cR.heap.size) [obk (A), obk (aK)]) bA hN 4 (ls1 : List Bool) := aY.imp (fun g _ hs => ⟨(fun e => by have := hQ _ e; have := Sx_base hs; omega), (fun e => by have := hS _ e; have := Sx_base hs; omega), hs⟩)
 clear hQ hS; clear bP he
 refine ⟨hP, ?_⟩
 refine AtH.all [4] 5 (by kernel_rfl) (by simp) ⟨?_, trivial⟩
 refine OneH.call hO 50 #[.agg #[.slice Ag0 g.ow.length cg0, .slice Ag1 g.pr.length cg1, .slice Ag2 g.mv.length cg2], .slice bA ls1.length hN] (some 87) #[true, true, true, true, true, false, false, false, false, false] (by kernel_rfl) (by kernel_rfl) ((ih ls1 (attB_live hR hL hlwa hwa hls1) (less_dec hls1 (by omega) hex1)) (aG.wide (Nat.zero_le _) (by omega)) (aY.imp (fun g _ hs => (show cR.heap.size ≤ g from by have := Sx_base hs; omega))) (by omega)) ?_
 rintro e_ bX ⟨B319, d320, B321, d322, x1, y1, rfl, he, dZ, eA, hwx1⟩
 have hlx1 := hwx1.la; have hly1 := hwx1.lb
 refine ⟨_, rfl, _, rfl, fun oS hT => ?_⟩
 clear hO; have bQ := gr_ext he; have bY := hP.gr bQ; have eV := aD.lt; have eW := aV.lt; have lL_ := aY.lt; have szw327 := bQ.size; replace aN := aN.gn bQ; replace aG := aG.gn bQ
 replace aD : OwnR bX (Sx (b0) [obk (B319), obk (B321), obk (bA), obk (aK), obk (aA), some (w.heap.size)]) A c 4 (li : List Bool) := aD.grA bQ (fun _ _ h => by cases h) (fun k hk hs => ⟨(fun e => (dZ.inS k e).2.elim (fun h_ => hs.1 h_) (fun h_ => by omega)), (fun e => (eA.inS k e).2.elim (fun h_ => hs.1 h_) (fun h_ => by omega)), hs.1, hs.2.1, hs.2.2.1, hs.2.2.2.1, hs.2.2.2.2⟩)
 replace aB := aB.gn bQ
 replace aV : OwnR bX (Sx (bB.heap.size) [obk (B319), obk (B321), obk (bA), obk (A), obk (aA)]) aK cQ 4 (wa : List Bool) := aV.grA bQ (fun _ _ h => by cases h) (fun k hk hs => ⟨(fun e => (dZ.inS k e).2.elim (fun h_ => hs.1 h_) (fun h_ => by omega)), (fun e => (eA.inS k e).2.elim (fun h_ => hs.1 h_) (fun h_ => by omega)), hs.1, hs.2.1, hs.2.2.1, hs.2.2.2⟩)
 have hU : OwnR bX (Sx (cR.heap.size) [obk (B321), obk (A), obk (aK)]) B319 d320 4 (x1 : List Bool) := dZ.imp (fun g _ hs => ⟨hs.1, (fun e => hs.2.elim (fun h_ => (aY.inS g h_).1 e) (fun h_ => by have := eV _ e; omega)), (fun e => hs.2.elim (fun h_ => (aY.inS g h_).2.1 e) (fun h_ => by have := eW _ e; omega)), (hs.2.elim (fun h_ => aY.ge g h_) (fun h_ => by show cR.heap.size ≤ g; omega))⟩)
 have hV : OwnR bX (Sx (cR.heap.size) [obk (B319), obk (A), obk (aK)]) B321 d322 4 (y1 : List Bool) := eA.imp (fun g _ hs => ⟨hs.1, (fun e => hs.2.elim (fun h_ => (aY.inS g h_).1 e) (fun h_ => by have := eV _ e; omega)), (fun e => hs.2.elim (fun h_ => (aY.inS g h_).2.1 e) (fun h_ => by have := eW _ e; omega)), (hs.2.elim (fun h_ => aY.ge g h_) (fun h_ => by show cR.heap.size ≤ g; omega))⟩)
 clear dZ eA aY lL_ eV eW; clear bQ he
 refine ⟨bY, ?_⟩
 refine AtH.rd (by kernel_rfl) (fun d v c a w h => by cases d <;> exact h) bY [5] [[]] [(82, .tuple #[.slice B319 x1.length d320, .slice B321 y1.length d322])] #[true, true, true, true, true, true, false, false, false, false] [] 4 hT (by kernel_rfl) trivial (fun oT hW => ?_)
 clear hT
 refine AtH.rd (by kernel_rfl) (fun d v c a w h => by cases d <;> exact h) bY [6] [[]] [(88, .slice B319 x1.length d320)] #[true, true, true, true, true, true, true, false, false, false] [] 3 hW (by kernel_rfl) trivial (fun oU hX => ?_)
 clear hW
 refine AtH.rd (by kernel_rfl) (fun d v c a w h => by cases d <;> exact h) bY [7] [[]] [(89, .slice B321 y1.length d322)] #[true, true, true, true, true, true, true, true, false, false] [] 2 hX (by kernel_rfl) trivial (fun oV hY => ?_)
 clear hX
 refine AtH.rd (by kernel_rfl) (fun d v c a w h => by cases d <;> exact h) bY [8] [[]] [(14, .slice B319 x1.length d320)] #[true, true, true, true, true, true, true, true, true, false] [] 1 hY (by kernel_rfl) trivial (fun oW hZ => ?_)
 clear hY
 refine AtH.rd (by kernel_rfl) (fun d v c a w h => by cases d <;> exact h) bY [9] [[]] [(15, .slice B321 y1.length d322)] #[true, true, true, true, true, true, true, true, true, true] [] 0 hZ (by kernel_rfl) trivial (fun oX iA => ?_)
 clear hZ
 refine AtH.done (by kernel_rfl) ?_
 clear bY
 refine t_n ?_
 clear aV
 have iB := iA.sub (r := [(15, .slice B321 y1.length d322), (14, .slice B319 x1.length d320), (10, .int .i64 (p)), (6, .int .i64 (((li.length : Nat) : Int))), (5, .slice none 0 0), (4, .slice none 0 0), (2, .pointer (some ⟨w.heap.size, 0, none⟩)), (1, .slice A li.length c)]) ⟨rfl, rfl, rfl, rfl, rfl, rfl, rfl, rfl, trivial⟩
 clear iA
 refine wp_seq ?_
 refine At.start ?_
 refine At.rd iB 2 [[], []] [(16, .slice B321 y1.length d322), (90, .slice B321 y1.length d322)] [] (by kernel_rfl) trivial (fun oY eX => ?_)
 clear iB
 refine At.done rfl ?_
 refine t_n ?_
 refine wp_seq (cut (fun a_ w_ => ∃ (Al_ : Option Addr) (cl_ : Nat) (lo_ : List Bool) (oth_ : List Bool) (hi_ : Nat), (Frm 141 a_ [(16, .slice Al_ lo_.length cl_), (10, .int .i64 (p)), (6, .int .i64 (((li.length : Nat) : Int))), (5, .slice none 0 0), (4, .slice none 0 0), (2, .pointer (some ⟨w.heap.size, 0, none⟩)), (1, .slice A li.length c)]) ∧ (Ext w w_) ∧ (RdG w_ 0 w.heap.size Ag0 Ag1 Ag2 cg0 cg1 cg2 g) ∧ (OwnR w_ (Sx (b0) [obk (B319), obk (B321), obk (bA), obk (aK), obk (aA), some (w.heap.size)]) A c 4 (li : List Bool)) ∧ (Bx w_ (w.heap.size) [.slice Ag0 g.ow.length cg0, .slice Ag1 g.pr.length cg1, .slice Ag2 g.mv.length cg2] 25) ∧ (RdR w_ 0 hi_ Al_ (lo_ : List Bool)) ∧ (WonP g ls1 p oth_ lo_) ∧ (lo_.length = g.ow.length) ∧ (hi_ ≤ w_.heap.size) ∧ (bX.heap.size ≤ w_.heap.size)) ?_ ?_)
 ·refine wp_seq ?_
  refine At.start ?_
  refine At.rd eX 2 [[], []] [(92, .bool ((p : Int) == 1)), (91, .int .i64 (p))] [] (by kernel_rfl) trivial (fun oZ eB => ?_)
  clear eX
  refine At.done rfl ?_
  refine t_n ?_
  refine cond_S eB (t := (p : Int) == 1) rfl (fun eY => ?_) (fun eY => ?_)
  ·have pA := eq_of_beq eY
   refine At.start ?_
   refine At.rd eB 2 [[], []] [(16, .slice B319 x1.length d320), (93, .slice B319 x1.length d320)] [] (by kernel_rfl) trivial (fun pB lJ => ?_)
   clear eB
   refine At.done rfl ?_
   refine t_n ?_
   have lK := lJ.sub (r := [(16, .slice B319 x1.length d320), (10, .int .i64 (p)), (6, .int .i64 (((li.length : Nat) : Int))), (5, .slice none 0 0), (4, .slice none 0 0), (2, .pointer (some ⟨w.heap.size, 0, none⟩)), (1, .slice A li.length c)]) ⟨rfl, rfl, rfl, rfl, rfl, rfl, rfl, trivial⟩
   exact ⟨B319, d320, x1, y1, bX.heap.size, lK, aN, aG, aD, aB, ((hU.rdR (by simp only [Enc.bytes]; omega)).wide (Nat.zero_le _) (Nat.le_refl _)), (by first | (rw [show p = 1 - 0 by omega]; exact hwx1.swap) | (rw [show p = 0 by omega]; exact hwx1)), (by omega), (by omega), (by omega)⟩
  have pC := ne_of_beq_false eY
  refine wp_skip ?_
  refine t_n ?_
  have lL := eB.sub (r := [(16, .slice B321 y1.length d322), (10, .int .i64 (p)), (6, .int .i64 (((li.length : Nat) : Int))), (5, .slice none 0 0), (4, .slice none 0 0), (2, .pointer (some ⟨w.heap.size, 0, none⟩)), (1, .slice A li.length c)]) ⟨rfl, rfl, rfl, rfl, rfl, rfl, rfl, trivial⟩
  exact ⟨B321, d322, y1, x1, bX.heap.size, lL, aN, aG, aD, aB, ((hV.rdR (by simp only [Enc.bytes]; omega)).wide (Nat.zero_le _) (Nat.le_refl _)), (by first | (rw [show p = 1 - 0 by omega]; exact hwx1.swap) | (rw [show p = 0 by omega]; exact hwx1)), (by omega), (by omega), (by omega)⟩
 clear aG; clear aD; clear aB; clear hU; clear hV; clear eX aN
 intro pD lM ⟨Al_, cl_, lo_, oth_, hi_, iC, aF, aH, iD, aL, aO, hwp, hlol, i370, i371⟩
 have szw363 := aF.size; have := aL.lt
 have szc372 : w.heap.size < lM.heap.size := by omega
 clear szc205 szc206 szw272 szw290 szw306 szw327 szw363
 refine wp_seq ?_
 clear hmml hlls1 hlx1 hly1 hpl hml
 refine At.start ?_
 refine At.rd iC 1 [[]] [(94, .slice Al_ lo_.length cl_)] [] (by kernel_rfl) trivial (fun pE iE => ?_)
 clear iC
 refine At.call iE 57 #[.slice Al_ lo_.length cl_] (some 95) (by kernel_rfl) (someB_any (la := lo_) (aO.wide (Nat.zero_le _) (by omega))) ?_
 rintro e_ aR ⟨rfl, he⟩
 refine ⟨_, rfl, _, rfl, fun pF iF => ?_⟩
 clear iE; have bZ := gr_ext he; have szw375 := bZ.size; replace aF := aF.gn bZ; replace aH := aH.gn bZ; have aC := iD.gn bZ; clear iD; replace aL := aL.gn bZ; replace aO := aO.gn bZ; clear bZ he
 refine At.rd iF 1 [[]] [(7, .bool (someB lo_))] [] (by kernel_rfl) trivial (fun pG iG => ?_)
 clear iF
 refine At.done rfl ?_
 refine t_n ?_
 refine wp_seq ?_
 refine wp_seq ?_
 refine At.start ?_
 refine At.rd iG 2 [[], []] [(97, .bool (!(someB lo_))), (96, .bool (someB lo_))] [] (by kernel_rfl) trivial (fun pH dK => ?_)
 clear iG
 refine At.done rfl ?_
 refine t_n ?_
 refine cond_S dK (t := !(someB lo_)) rfl (fun cA => ?_) (fun cA => ?_)
 ·have pI : (someB lo_) = false := by first | exact Eq.mp (Bool.not_eq_true' _) cA | exact Eq.mp (Bool.not_eq_false' _) cA | simpa using cA
  refine wp_seq ?_
  refine wp_seq ?_
  have hall := won_top hR hL hHi hmi hp2 hlwa hwa hls1 hwp (by simp_all)
  refine At.start ?_
  refine At.rd dK 2 [[], []] [(99, .bool ((p : Int) == 0)), (98, .int .i64 (p))] [] (by kernel_rfl) trivial (fun pJ dL => ?_)
  clear dK
  refine At.done rfl ?_
  refine t_n ?_
  clear aL
  refine cond_S dL (t := (p : Int) == 0) rfl (fun eZ => ?_) (fun eZ => ?_)
  ·have pK := eq_of_beq eZ
   refine wp_seq ?_
   obtain ⟨iH, lN⟩ : ∃ c : List (Addr × Value), c = [] := ⟨_, rfl⟩
   have iI : HoldsC iH aR := by rw [lN]; exact trivial
   refine AtH.start iH 5 #[false, false, false, false, false] (by kernel_rfl) rfl rfl (fun cS iJ => ?_)
   have cB := gr_drew iJ; have iK := iI.gr cB; have := cB.size; replace aF := aF.gn cB; replace aH := aH.gn cB; replace aC := aC.gn cB; replace aO := aO.gn cB; clear cB iJ iI
   refine AtH.rd (by kernel_rfl) (fun d v c a w h => by cases d <;> exact h) iK [0, 1, 3] [[], [], []] [(4, .slice A li.length c), (101, .int .i64 (((li.length : Nat) : Int))), (100, .slice A li.length c)] #[true, true, false, true, false] [] 2 dL (by kernel_rfl) trivial (fun pL iL => ?_)
   clear dL
   refine AtH.all [2] 1 (by kernel_rfl) (by simp) ⟨?_, trivial⟩
   refine OneH.act iL #[true, true, true, true, false] (by kernel_rfl) (makeR (k1 := .i64) (k2 := .i64) (α := Bool) (e := 4) (bytes := 1) (t := 83) (d := 102) (n := ((li.length : Nat) : Int)) (cap := ((li.length : Nat) : Int)) (false) (by kernel_rfl) rfl (by kernel_rfl) (by omega) (by omega) (by omega) (by omega)) ?_
   rintro d_ v_ lO ⟨rfl, rfl, cC, fA⟩
   have fB := iK.gr cC
   refine ⟨_, rfl, fun pM iM => ⟨fB, ?_⟩⟩
   clear iL; replace fA := fA (Sx (cS.heap.size) [obk (A)]) ⟨aC.ne_new, (Nat.le_refl _)⟩; have := cC.size; replace aF := aF.gn cC; replace aH := aH.gn cC
   replace aC : OwnR lO (Sx (b0) [obk (some ⟨cS.heap.size, 0, none⟩), obk (B319), obk (B321), obk (bA), obk (aK), obk (aA), some (w.heap.size)]) A c 4 (li : List Bool) := aC.grA cC (fun _ _ h => by cases h) (fun k hk hs => ⟨(fun e => by simp only [obk, Option.map_some] at e; injection e; omega), hs.1, hs.2.1, hs.2.2.1, hs.2.2.2.1, hs.2.2.2.2.1, hs.2.2.2.2.2.1, hs.2.2.2.2.2.2⟩)
   replace aO := aO.gn cC; clear cC; have : (List.replicate (((li.length : Nat) : Int) : Int).toNat (false : Bool)).length = (((li.length : Nat) : Int) : Int).toNat := List.length_replicate
   refine AtH.rd (by kernel_rfl) (fun d v c a w h => by cases d <;> exact h) fB [4] [[]] [(5, .slice (some ⟨cS.heap.size, 0, none⟩) ((List.replicate (((li.length : Nat) : Int) : Int).toNat (false : Bool)).length) ((((li.length : Nat) : Int) : Int).toNat))] #[true, true, true, true, true] [] 0 iM (by kernel_rfl) trivial (fun pN iN => ?_)
   clear iM
   refine AtH.done (by kernel_rfl) ?_
   clear fB
   refine t_n ?_
   have lP := iN.sub (r := [(5, .slice (some ⟨cS.heap.size, 0, none⟩) ((List.replicate (((li.length : Nat) : Int) : Int).toNat (false : Bool)).length) ((((li.length : Nat) : Int) : Int).toNat)), (4, .slice A li.length c)]) ⟨rfl, rfl, trivial⟩
   clear iN
   refine wp_ret ?_
   refine t_r ?_
   refine t_r ?_
   refine ret_ lP [] [.slice A li.length c, .slice (some ⟨cS.heap.size, 0, none⟩) ((List.replicate (((li.length : Nat) : Int) : Int).toNat (false : Bool)).length) ((((li.length : Nat) : Int) : Int).toNat)] [] (by kernel_rfl) trivial ?_
   exact ⟨A, c, some ⟨cS.heap.size, 0, none⟩, (((li.length : Nat) : Int) : Int).toNat, _, _, rfl, aF, (aC.self.imp (fun g _ hs => ⟨hs.1.1, .inl hs.2⟩)), (fA.imp (fun g _ hs => ⟨hs.1, .inr (by have := Sx_base hs; omega)⟩)), (won_one (by have h_ := hall; rwa [show p = 0 by omega] at h_) hL.len (by simp; omega) (rep_in _))⟩
  have pO := ne_of_beq_false eZ
  refine wp_skip ?_
  refine t_n ?_
  refine wp_seq ?_
  refine At.start ?_
  refine At.rd dL 1 [[]] [(103, .int .i64 (((li.length : Nat) : Int)))] [] (by kernel_rfl) trivial (fun pP iO => ?_)
  clear dL
  refine At.act iO (makeR (k1 := .i64) (k2 := .i64) (α := Bool) (e := 4) (bytes := 1) (t := 83) (d := 104) (n := ((li.length : Nat) : Int)) (cap := ((li.length : Nat) : Int)) (false) (by kernel_rfl) rfl (by kernel_rfl) (by omega) (by omega) (by omega) (by omega)) ?_
  rintro d_ v_ lQ ⟨rfl, rfl, cU, fC⟩
  refine ⟨_, rfl, fun pQ iP => ?_⟩
  clear iO; replace fC := fC (Sx (aR.heap.size) [obk (A)]) ⟨aC.ne_new, (Nat.le_refl _)⟩; have := cU.size; replace aF := aF.gn cU; replace aH := aH.gn cU
  replace aC : OwnR lQ (Sx (b0) [obk (some ⟨aR.heap.size, 0, none⟩), obk (B319), obk (B321), obk (bA), obk (aK), obk (aA), some (w.heap.size)]) A c 4 (li : List Bool) := aC.grA cU (fun _ _ h => by cases h) (fun k hk hs => ⟨(fun e => by simp only [obk, Option.map_some] at e; injection e; omega), hs.1, hs.2.1, hs.2.2.1, hs.2.2.2.1, hs.2.2.2.2.1, hs.2.2.2.2.2.1, hs.2.2.2.2.2.2⟩)
  replace aO := aO.gn cU; clear cU; have : (List.replicate (((li.length : Nat) : Int) : Int).toNat (false : Bool)).length = (((li.length : Nat) : Int) : Int).toNat := List.length_replicate
  refine At.rd iP 3 [[], [], []] [(5, .slice A li.length c), (4, .slice (some ⟨aR.heap.size, 0, none⟩) ((List.replicate (((li.length : Nat) : Int) : Int).toNat (false : Bool)).length) ((((li.length : Nat) : Int) : Int).toNat)), (105, .slice A li.length c)] [] (by kernel_rfl) trivial (fun pR iQ => ?_)
  clear iP
  refine At.done rfl ?_
  refine t_n ?_
  have lR := iQ.sub (r := [(5, .slice A li.length c), (4, .slice (some ⟨aR.heap.size, 0, none⟩) ((List.replicate (((li.length : Nat) : Int) : Int).toNat (false : Bool)).length) ((((li.length : Nat) : Int) : Int).toNat))]) ⟨rfl, rfl, trivial⟩
  clear iQ
  refine wp_ret ?_
  refine t_r ?_
  refine ret_ lR [] [.slice (some ⟨aR.heap.size, 0, none⟩) ((List.replicate (((li.length : Nat) : Int) : Int).toNat (false : Bool)).length) ((((li.length : Nat) : Int) : Int).toNat), .slice A li.length c] [] (by kernel_rfl) trivial ?_
  exact ⟨some ⟨aR.heap.size, 0, none⟩, (((li.length : Nat) : Int) : Int).toNat, A, c, _, _, rfl, aF, (fC.imp (fun g _ hs => ⟨hs.1, .inr (by have := Sx_base hs; omega)⟩)), (aC.self.imp (fun g _ hs => ⟨hs.1.1, .inl hs.2⟩)), (won_one (by have h_ := hall; rwa [show p = 1 by omega] at h_) hL.len (by simp; omega) (rep_in _)).swap0⟩
 have pS : (someB lo_) = true := by first | exact Eq.mp (Bool.not_eq_true' _) cA | exact Eq.mp (Bool.not_eq_false' _) cA | simpa using cA
 refine wp_skip ?_
 refine t_n ?_
 refine wp_seq ?_
 refine At.start ?_
 refine At.rd dK 5 [[.ld (.slice Ag0 g.ow.length cg0), .ld (.slice Ag1 g.pr.length cg1), .ld (.slice Ag2 g.mv.length cg2)], [], [], [.as_ (.int .i64 (1 - p))], []] [(110, .slice Al_ lo_.length cl_), (109, .int .i64 (1 - p)), (108, .int .i64 (p)), (107, .slice A li.length c), (106, .agg #[.slice Ag0 g.ow.length cg0, .slice Ag1 g.pr.length cg1, .slice Ag2 g.mv.length cg2])] [(aR.cell? ⟨w.heap.size, 0, none⟩ = some (.slice Ag0 g.ow.length cg0)), (aR.cell? ⟨w.heap.size, 1, none⟩ = some (.slice Ag1 g.pr.length cg1)), (aR.cell? ⟨w.heap.size, 2, none⟩ = some (.slice Ag2 g.mv.length cg2)), ((.int .i64 (IntKind.i64.wrap (1 - p)) : Value) = .int .i64 (1 - p))] (by kernel_rfl) ⟨(aL.cell (i := 0) rfl), (aL.cell (i := 1) rfl), (aL.cell (i := 2) rfl), (w64 (by omega) (by omega)), trivial⟩ (fun pT iR => ?_)
 clear dK
 refine At.call iR 58 #[.agg #[.slice Ag0 g.ow.length cg0, .slice Ag1 g.pr.length cg1, .slice Ag2 g.mv.length cg2], .slice A li.length c, .int .i64 (1 - p), .slice Al_ lo_.length cl_] (some 111) (by kernel_rfl) (attractR_any (g := g) (li := li) (lu := lo_) (p := 1 - p) (aH.wide (Nat.zero_le _) (by omega)) ((aC.rdR (by simp only [Enc.bytes]; omega)).wide (Nat.zero_le _) (by omega)) (aO.wide (Nat.zero_le _) (by omega)) hR (by omega) (by omega)) ?_
 rintro e_ fD ⟨aE, aW, wb, rfl, he, aX, hlwb, hwb⟩
 refine ⟨_, rfl, _, rfl, fun pU iS => ?_⟩
 clear iR; have cD := gr_ext he; have iT := aC.lt; have szw449 := cD.size; replace aF := aF.gn cD; replace aH := aH.gn cD
 replace aC : OwnR fD (Sx (b0) [obk (aE), obk (B319), obk (B321), obk (bA), obk (aK), obk (aA), some (w.heap.size)]) A c 4 (li : List Bool) := aC.grA cD (fun _ _ h => by cases h) (fun k hk hs => ⟨(fun e => by have := aX.ge _ e; omega), hs.1, hs.2.1, hs.2.2.1, hs.2.2.2.1, hs.2.2.2.2.1, hs.2.2.2.2.2.1, hs.2.2.2.2.2.2⟩)
 replace aL := aL.gn cD; replace aO := aO.gn cD
 replace aX : OwnR fD (Sx (aR.heap.size) [obk (A)]) aE aW 4 (wb : List Bool) := aX.imp (fun g _ hs => ⟨(fun e => by have := iT _ e; have := Sx_base hs; omega), hs⟩)
 clear iT; clear cD he
 refine At.rd iS 1 [[]] [(17, .slice aE wb.length aW)] [] (by kernel_rfl) trivial (fun pV iU => ?_)
 clear iS
 refine At.done rfl ?_
 refine t_n ?_
 have hex2 := lost_ex hL hn1 hls1 hwp (by simp_all) hwb
 refine wp_seq ?_
 obtain ⟨dM, eC⟩ : ∃ c : List (Addr × Value), c = [(⟨w.heap.size, 0, none⟩, (.slice Ag0 g.ow.length cg0)), (⟨w.heap.size, 1, none⟩, (.slice Ag1 g.pr.length cg1)), (⟨w.heap.size, 2, none⟩, (.slice Ag2 g.mv.length cg2))] := ⟨_, rfl⟩
 have iV : HoldsC dM fD := by rw [eC]; exact ⟨(aL.cell (i := 0) rfl), (aL.cell (i := 1) rfl), (aL.cell (i := 2) rfl), trivial⟩
 refine AtH.start dM 10 #[false, false, false, false, false, false, false, false, false, false] (by kernel_rfl) rfl rfl (fun bC iW => ?_)
 have bG := gr_drew iW; have iX := iV.gr bG; have szw466 := bG.size; replace aF := aF.gn bG; replace aH := aH.gn bG; replace aC := aC.gn bG; replace aL := aL.gn bG; replace aO := aO.gn bG; replace aX := aX.gn bG; clear bG iW iV
 refine AtH.rd (by kernel_rfl) (fun d v c a w h => by cases d <;> exact h) iX [0, 1, 2] [[.ld (.slice Ag0 g.ow.length cg0), .ld (.slice Ag1 g.pr.length cg1), .ld (.slice Ag2 g.mv.length cg2)], [], []] [(115, .slice aE wb.length aW), (114, .slice A li.length c), (113, .agg #[.slice Ag0 g.ow.length cg0, .slice Ag1 g.pr.length cg1, .slice Ag2 g.mv.length cg2])] #[true, true, true, false, false, false, false, false, false, false] [(∃ j_ : Nat, dM[j_]? = some (⟨w.heap.size, 0, none⟩, (.slice Ag0 g.ow.length cg0))), (∃ j_ : Nat, dM[j_]? = some (⟨w.heap.size, 1, none⟩, (.slice Ag1 g.pr.length cg1))), (∃ j_ : Nat, dM[j_]? = some (⟨w.heap.size, 2, none⟩, (.slice Ag2 g.mv.length cg2)))] 7 iU (by kernel_rfl) ⟨⟨0, by rw [eC]; rfl⟩, ⟨1, by rw [eC]; rfl⟩, ⟨2, by rw [eC]; rfl⟩, trivial⟩ (fun pW iY => ?_)
 clear iU
 refine AtH.all [3] 6 (by kernel_rfl) (by simp) ⟨?_, trivial⟩
 refine OneH.call iY 59 #[.slice A li.length c, .slice aE wb.length aW] (some 116) #[true, true, true, true, false, false, false, false, false, false] (by kernel_rfl) (by kernel_rfl) (lessB_any (la := li) (lb := wb) ((aC.rdR (by simp only [Enc.bytes]; omega)).wide (Nat.zero_le _) (by omega)) ((aX.rdR (by simp only [Enc.bytes]; omega)).wide (Nat.zero_le _) (by omega)) (by omega)) ?_
 rintro e_ fE ⟨cV, iZ, ls2, rfl, he, aZ, hls2⟩
 have hlls2 := hls2.len
 refine ⟨_, rfl, _, rfl, fun pX jA => ?_⟩
 clear iY; have bH := gr_ext he; have jB := iX.gr bH; have jC := aC.lt; have jD := aX.lt; have szw483 := bH.size; replace aF := aF.gn bH; replace aH := aH.gn bH
 replace aC : OwnR fE (Sx (b0) [obk (cV), obk (aE), obk (B319), obk (B321), obk (bA), obk (aK), obk (aA), some (w.heap.size)]) A c 4 (li : List Bool) := aC.grA bH (fun _ _ h => by cases h) (fun k hk hs => ⟨(fun e => by have := aZ.ge _ e; omega), hs.1, hs.2.1, hs.2.2.1, hs.2.2.2.1, hs.2.2.2.2.1, hs.2.2.2.2.2.1, hs.2.2.2.2.2.2.1, hs.2.2.2.2.2.2.2⟩)
 replace aL := aL.gn bH; replace aO := aO.gn bH
 replace aX : OwnR fE (Sx (aR.heap.size) [obk (cV), obk (A)]) aE aW 4 (wb : List Bool) := aX.grA bH (fun _ _ h => by cases h) (fun k hk hs => ⟨(fun e => by have := aZ.ge _ e; omega), hs.1, hs.2⟩)
 replace aZ : OwnR fE (Sx (bC.heap.size) [obk (A), obk (aE)]) cV iZ 4 (ls2 : List Bool) := aZ.imp (fun g _ hs => ⟨(fun e => by have := jC _ e; have := Sx_base hs; omega), (fun e => by have := jD _ e; have := Sx_base hs; omega), hs⟩)
 clear jC jD; clear bH he
 refine ⟨jB, ?_⟩
 refine AtH.all [4] 5 (by kernel_rfl) (by simp) ⟨?_, trivial⟩
 refine OneH.call jA 50 #[.agg #[.slice Ag0 g.ow.length cg0, .slice Ag1 g.pr.length cg1, .slice Ag2 g.mv.length cg2], .slice cV ls2.length iZ] (some 117) #[true, true, true, true, true, false, false, false, false, false] (by kernel_rfl) (by kernel_rfl) ((ih ls2 (attB_live hR hL hlwb hwb hls2) (less_dec hls2 (by omega) hex2)) (aH.wide (Nat.zero_le _) (by omega)) (aZ.imp (fun g _ hs => (show bC.heap.size ≤ g from by have := Sx_base hs; omega))) (by omega)) ?_
 rintro e_ eD ⟨B497, d498, B499, d500, x2, y2, rfl, he, eE, eF, hwx2⟩
 have hlx2 := hwx2.la; have hly2 := hwx2.lb
 refine ⟨_, rfl, _, rfl, fun pY jE => ?_⟩
 clear jA; have bI := gr_ext he; have cE := jB.gr bI; have fF := aC.lt; have fG := aX.lt; have lL_ := aZ.lt; have szw505 := bI.size; replace aF := aF.gn bI; replace aH := aH.gn bI
 replace aC : OwnR eD (Sx (b0) [obk (B497), obk (B499), obk (cV), obk (aE), obk (B319), obk (B321), obk (bA), obk (aK), obk (aA), some (w.heap.size)]) A c 4 (li : List Bool) := aC.grA bI (fun _ _ h => by cases h) (fun k hk hs => ⟨(fun e => (eE.inS k e).2.elim (fun h_ => hs.1 h_) (fun h_ => by omega)), (fun e => (eF.inS k e).2.elim (fun h_ => hs.1 h_) (fun h_ => by omega)), hs.1, hs.2.1, hs.2.2.1, hs.2.2.2.1, hs.2.2.2.2.1, hs.2.2.2.2.2.1, hs.2.2.2.2.2.2.1, hs.2.2.2.2.2.2.2.1, hs.2.2.2.2.2.2.2.2⟩)
 replace aL := aL.gn bI; replace aO := aO.gn bI
 replace aX : OwnR eD (Sx (aR.heap.size) [obk (B497), obk (B499), obk (cV), obk (A)]) aE aW 4 (wb : List Bool) := aX.grA bI (fun _ _ h => by cases h) (fun k hk hs => ⟨(fun e => (eE.inS k e).2.elim (fun h_ => hs.1 h_) (fun h_ => by omega)), (fun e => (eF.inS k e).2.elim (fun h_ => hs.1 h_) (fun h_ => by omega)), hs.1, hs.2.1, hs.2.2⟩)
 have jF : OwnR eD (Sx (bC.heap.size) [obk (B499), obk (A), obk (aE)]) B497 d498 4 (x2 : List Bool) := eE.imp (fun g _ hs => ⟨hs.1, (fun e => hs.2.elim (fun h_ => (aZ.inS g h_).1 e) (fun h_ => by have := fF _ e; omega)), (fun e => hs.2.elim (fun h_ => (aZ.inS g h_).2.1 e) (fun h_ => by have := fG _ e; omega)), (hs.2.elim (fun h_ => aZ.ge g h_) (fun h_ => by show bC.heap.size ≤ g; omega))⟩)
 have jG : OwnR eD (Sx (bC.heap.size) [obk (B497), obk (A), obk (aE)]) B499 d500 4 (y2 : List Bool) := eF.imp (fun g _ hs => ⟨hs.1, (fun e => hs.2.elim (fun h_ => (aZ.inS g h_).1 e) (fun h_ => by have := fF _ e; omega)), (fun e => hs.2.elim (fun h_ => (aZ.inS g h_).2.1 e) (fun h_ => by have := fG _ e; omega)), (hs.2.elim (fun h_ => aZ.ge g h_) (fun h_ => by show bC.heap.size ≤ g; omega))⟩)
 clear eE eF aZ lL_ fF fG; clear bI he
 refine ⟨cE, ?_⟩
 refine AtH.rd (by kernel_rfl) (fun d v c a w h => by cases d <;> exact h) cE [5] [[]] [(112, .tuple #[.slice B497 x2.length d498, .slice B499 y2.length d500])] #[true, true, true, true, true, true, false, false, false, false] [] 4 jE (by kernel_rfl) trivial (fun pZ jH => ?_)
 clear jE
 refine AtH.rd (by kernel_rfl) (fun d v c a w h => by cases d <;> exact h) cE [6] [[]] [(118, .slice B497 x2.length d498)] #[true, true, true, true, true, true, true, false, false, false] [] 3 jH (by kernel_rfl) trivial (fun qA jI => ?_)
 clear jH
 refine AtH.rd (by kernel_rfl) (fun d v c a w h => by cases d <;> exact h) cE [7] [[]] [(119, .slice B499 y2.length d500)] #[true, true, true, true, true, true, true, true, false, false] [] 2 jI (by kernel_rfl) trivial (fun qB jJ => ?_)
 clear jI
 refine AtH.rd (by kernel_rfl) (fun d v c a w h => by cases d <;> exact h) cE [8] [[]] [(14, .slice B497 x2.length d498)] #[true, true, true, true, true, true, true, true, true, false] [] 1 jJ (by kernel_rfl) trivial (fun qC jK => ?_)
 clear jJ
 refine AtH.rd (by kernel_rfl) (fun d v c a w h => by cases d <;> exact h) cE [9] [[]] [(15, .slice B499 y2.length d500)] #[true, true, true, true, true, true, true, true, true, true] [] 0 jK (by kernel_rfl) trivial (fun qD jL => ?_)
 clear jK
 refine AtH.done (by kernel_rfl) ?_
 clear cE
 refine t_n ?_
 clear aC; clear aL
 have jM := jL.sub (r := [(15, .slice B499 y2.length d500), (14, .slice B497 x2.length d498), (17, .slice aE wb.length aW), (10, .int .i64 (p)), (6, .int .i64 (((li.length : Nat) : Int))), (5, .slice none 0 0), (4, .slice none 0 0)]) ⟨rfl, rfl, rfl, rfl, rfl, rfl, rfl, trivial⟩
 clear jL
 refine wp_seq ?_
 refine wp_seq ?_
 clear hlol hlls2
 refine At.start ?_
 refine At.rd jM 1 [[]] [(18, .int .i64 (0))] [] (by kernel_rfl) trivial (fun qE jN => ?_)
 clear jM
 refine At.done rfl ?_
 refine t_n ?_
 refine wp_block ?_
 have jO := jN.as 15 (.slice B499 y2.length d500) (.slice B499 ((y2 : List Bool).length) d500) rfl (slice_len (by first | rfl | omega | (simp; done) | (simp; omega)))
 clear jN
 have jP := jO.as 14 (.slice B497 x2.length d498) (.slice B497 ((x2 : List Bool).length) d498) rfl (slice_len (by first | rfl | omega | (simp; done) | (simp; omega)))
 clear jO
 have jQ := jP.sub (r := [(18, .int .i64 (0)), (15, .slice B499 ((y2 : List Bool).length) d500), (14, .slice B497 ((x2 : List Bool).length) d498), (17, .slice aE wb.length aW), (10, .int .i64 (p)), (6, .int .i64 (((li.length : Nat) : Int))), (5, .slice none 0 0), (4, .slice none 0 0)]) ⟨rfl, rfl, rfl, rfl, rfl, rfl, rfl, rfl, trivial⟩
 refine loop_g (fun (m_ : Nat) a_ w_ => ∃ (k2 : Int) (x3 : List Bool) (aI : Option Addr) (aS : Nat) (y3 : List Bool) (aJ : Option Addr) (aT : Nat), m_ = ((li.length : Int) - k2).toNat ∧ (Frm 141 a_ [(18, .int .i64 (k2)), (15, .slice aJ y3.length aT), (14, .slice aI x3.length aS), (17, .slice aE wb.length aW), (10, .int .i64 (p)), (6, .int .i64 (((li.length : Nat) : Int))), (5, .slice none 0 0), (4, .slice none 0 0)]) ∧ (Ext w w_) ∧ (RdG w_ 0 w.heap.size Ag0 Ag1 Ag2 cg0 cg1 cg2 g) ∧ (OwnR w_ (Sx (aR.heap.size) [obk (aI), obk (aJ)]) aE aW 4 (wb : List Bool)) ∧ (OwnR w_ (Sx (bC.heap.size) [obk (aJ), obk (aE)]) aI aS 4 (x3 : List Bool)) ∧ (OwnR w_ (Sx (bC.heap.size) [obk (aI), obk (aE)]) aJ aT 4 (y3 : List Bool)) ∧ (0 ≤ k2) ∧ (k2 ≤ (li.length : Int)) ∧ (GotK wb x2 x3 (p == 1) k2) ∧ (GotK wb y2 y3 (p == 0) k2) ∧ (x3.length = g.ow.length) ∧ (y3.length = g.ow.length) ∧ (aR.heap.size ≤ w_.heap.size) ∧ (bC.heap.size ≤ w_.heap.size)) _ ⟨0, (x2 : List Bool), B497, d498, (y2 : List Bool), B499, d500, rfl, jQ, aF, aH, (aX.imp (fun g _ hs => ⟨hs.1, hs.2.1, hs.2.2.2.2⟩)), (jF.imp (fun g _ hs => ⟨hs.1, hs.2.2.1, hs.2.2.2⟩)), (jG.imp (fun g _ hs => ⟨hs.1, hs.2.2.1, hs.2.2.2⟩)), (by omega), (Int.natCast_nonneg _), got_0, got_0, (by omega), (by omega), (by omega), (by omega)⟩ ?_
 clear jQ jP; clear aH; clear aX; clear jF; clear jG; clear aF
 intro m_ qF jR ⟨k2, x3, aI, aS, y3, aJ, aT, hm542, jS, bR, cW, bS, cF, bJ, i548, i549, hgx, hgy, hx3l, hy3l, i550, i551⟩
 have szw540 := bR.size
 have szc552 : w.heap.size ≤ aR.heap.size := by omega
 have szc553 : aR.heap.size ≤ bC.heap.size := by omega
 have szc554 : bC.heap.size ≤ jR.heap.size := by omega
 clear szc372 szw375 szw449 szw466 szw483 szw505 szw540
 refine wp_seq ?_
 refine wp_seq ?_
 refine At.start ?_
 refine At.rd jS 3 [[], [], []] [(122, .bool (decide ((k2 : Int) < ((li.length : Nat) : Int)))), (121, .int .i64 (((li.length : Nat) : Int))), (120, .int .i64 (k2))] [] (by kernel_rfl) trivial (fun qG dN => ?_)
 clear jS
 refine At.done rfl ?_
 refine t_n ?_
 refine cond_S dN (t := decide ((k2 : Int) < ((li.length : Nat) : Int))) rfl (fun fH => ?_) (fun fH => ?_)
 ·have qH := of_decide_eq_true fH
  refine wp_skip ?_
  refine t_n ?_
  refine wp_seq ?_
  refine wp_block ?_
  refine wp_seq ?_
  have hkl : k2 < (li.length : Int) := by assumption
  have hkw : k2 < (wb.length : Int) := by rw [hlwb, ← hll]; exact hkl
  have hkx : k2 < (x3.length : Int) := by rw [hx3l, ← hll]; exact hkl
  have hky : k2 < (y3.length : Int) := by rw [hy3l, ← hll]; exact hkl
  have hkx2 : k2 < (x2.length : Int) := by rw [hlx2, ← hll]; exact hkl
  have hky2 : k2 < (y2.length : Int) := by rw [hly2, ← hll]; exact hkl
  refine At.start ?_
  obtain ⟨eG, lS, qI, lT, qJ⟩ := bS.get (k2) (by omega) (by omega) (sz := 1) rfl
  refine At.rd dN 4 [[], [], [.ad eG], [.ld (.bool (gB wb k2))]] [(128, .bool (gB wb k2)), (127, .pointer (some (eG.add ((k2 : Int).toNat * 1)))), (126, .int .i64 (k2)), (125, .slice aE wb.length aW)] [(aE = some eG), (0 ≤ (k2 : Int)), ((k2 : Int) < (wb.length : Nat)), (jR.cell? (eG.add ((k2 : Int).toNat * 1)) = some (.bool (gB wb k2)))] (by kernel_rfl) ⟨lS, (by omega), (by omega), lT, trivial⟩ (fun qK dO => ?_)
  clear dN
  refine At.done rfl ?_
  refine t_n ?_
  refine cond_S dO (t := gB wb k2) rfl (fun lU => ?_) (fun lU => ?_)
  ·refine wp_seq ?_
   refine At.start ?_
   obtain ⟨eH, jT, qL, qM, qN⟩ := cF.get (k2) (by omega) (by omega) (sz := 1) rfl
   refine At.rd dO 5 [[], [], [], [], [.ad eH]] [(133, .pointer (some (eH.add ((k2 : Int).toNat * 1)))), (132, .bool ((p : Int) == 1)), (131, .int .i64 (p)), (130, .int .i64 (k2)), (129, .slice aI x3.length aS)] [(aI = some eH), (0 ≤ (k2 : Int)), ((k2 : Int) < (x3.length : Nat))] (by kernel_rfl) ⟨jT, (by omega), (by omega), trivial⟩ (fun qO jU => ?_)
   clear dO
   refine At.act jU (storeR (α := Bool) (t := 4) (i := k2) (ad := eH) (v := .bool ((p : Int) == 1)) ((p : Int) == 1) (by kernel_rfl) rfl rfl (by kernel_rfl) jT cF (by omega) (by omega)) ?_
   rintro d_ v_ qP ⟨rfl, cX, fI⟩
   refine ⟨_, rfl, fun qQ jV => ?_⟩
   clear jU; have qR : ((x3).set (k2 : Int).toNat ((p : Int) == 1)).length = (x3).length := List.length_set; have := cX.size; replace bR := bR.gr cX (fun k hk => by have := cF.ge k hk; omega); replace cW := cW.gr cX (fun k hk => by have := cF.ge k hk; omega); replace bS := bS.gr cX (fun k hk => hk.1); replace bJ := bJ.gr cX (fun k hk => hk.1); clear cF cX
   refine At.done rfl ?_
   refine t_n ?_
   refine At.start ?_
   obtain ⟨eI, jW, qS, qT, qU⟩ := bJ.get (k2) (by omega) (by omega) (sz := 1) rfl
   refine At.rd jV 5 [[], [], [], [], [.ad eI]] [(138, .pointer (some (eI.add ((k2 : Int).toNat * 1)))), (137, .bool ((p : Int) == 0)), (136, .int .i64 (p)), (135, .int .i64 (k2)), (134, .slice aJ y3.length aT)] [(aJ = some eI), (0 ≤ (k2 : Int)), ((k2 : Int) < (y3.length : Nat))] (by kernel_rfl) ⟨jW, (by omega), (by omega), trivial⟩ (fun qV jX => ?_)
   clear jV
   refine At.act jX (storeR (α := Bool) (t := 4) (i := k2) (ad := eI) (v := .bool ((p : Int) == 0)) ((p : Int) == 0) (by kernel_rfl) rfl rfl (by kernel_rfl) jW bJ (by omega) (by omega)) ?_
   rintro d_ v_ qW ⟨rfl, cY, lV⟩
   refine ⟨_, rfl, fun qX jY => ?_⟩
   clear jX; have qY : ((y3).set (k2 : Int).toNat ((p : Int) == 0)).length = (y3).length := List.length_set; have := cY.size; replace bR := bR.gr cY (fun k hk => by have := bJ.ge k hk; omega); replace cW := cW.gr cY (fun k hk => by have := bJ.ge k hk; omega); replace bS := bS.gr cY (fun k hk => hk.2.1); replace fI := fI.gr cY (fun k hk => hk.1); clear bJ cY
   refine At.done rfl ?_
   refine b_n ?_
   refine t_n ?_
   have jZ := jY.sub (r := [(18, .int .i64 (k2)), (15, .slice aJ y3.length aT), (14, .slice aI x3.length aS), (17, .slice aE wb.length aW), (10, .int .i64 (p)), (6, .int .i64 (((li.length : Nat) : Int))), (5, .slice none 0 0), (4, .slice none 0 0)]) ⟨rfl, rfl, rfl, rfl, rfl, rfl, rfl, rfl, trivial⟩
   clear jY
   refine At.start ?_
   refine At.rd jZ 3 [[], [.as_ (.int .i64 (k2 + 1))], []] [(18, .int .i64 (k2 + 1)), (124, .int .i64 (k2 + 1)), (123, .int .i64 (k2))] [((.int .i64 (IntKind.i64.wrap (k2 + 1)) : Value) = .int .i64 (k2 + 1))] (by kernel_rfl) ⟨(w64 (by omega) (by omega)), trivial⟩ (fun qZ kA => ?_)
   clear jZ
   refine At.done rfl ?_
   refine t_n ?_
   have kB := kA.as 15 (.slice aJ y3.length aT) (.slice aJ (((y3).set (k2 : Int).toNat ((p : Int) == 0) : List Bool).length) aT) rfl (slice_len (by first | (simp only [List.length_set]; done) | rfl | omega | (simp; done) | (simp; omega)))
   clear kA
   have lW := kB.as 14 (.slice aI x3.length aS) (.slice aI (((x3).set (k2 : Int).toNat ((p : Int) == 1) : List Bool).length) aS) rfl (slice_len (by first | (simp only [List.length_set]; done) | rfl | omega | (simp; done) | (simp; omega)))
   clear kB
   have lX := lW.sub (r := [(18, .int .i64 (k2 + 1)), (15, .slice aJ (((y3).set (k2 : Int).toNat ((p : Int) == 0) : List Bool).length) aT), (14, .slice aI (((x3).set (k2 : Int).toNat ((p : Int) == 1) : List Bool).length) aS), (17, .slice aE wb.length aW), (10, .int .i64 (p)), (6, .int .i64 (((li.length : Nat) : Int))), (5, .slice none 0 0), (4, .slice none 0 0)]) ⟨rfl, rfl, rfl, rfl, rfl, rfl, rfl, rfl, trivial⟩
   exact ⟨_, (by omega), (k2 + 1), ((x3).set (k2 : Int).toNat ((p : Int) == 1) : List Bool), aI, aS, ((y3).set (k2 : Int).toNat ((p : Int) == 0) : List Bool), aJ, aT, rfl, lX, bR, cW, bS, fI, lV, (by omega), (by omega), (got_yes hgx (by omega) (by omega) (by assumption) rfl), (got_yes hgy (by omega) (by omega) (by assumption) rfl), (by rw [List.length_set]; exact hx3l), (by rw [List.length_set]; exact hy3l), (by omega), (by omega)⟩
  refine wp_skip ?_
  refine b_n ?_
  refine t_n ?_
  refine At.start ?_
  refine At.rd dO 3 [[], [.as_ (.int .i64 (k2 + 1))], []] [(18, .int .i64 (k2 + 1)), (124, .int .i64 (k2 + 1)), (123, .int .i64 (k2))] [((.int .i64 (IntKind.i64.wrap (k2 + 1)) : Value) = .int .i64 (k2 + 1))] (by kernel_rfl) ⟨(w64 (by omega) (by omega)), trivial⟩ (fun rA kC => ?_)
  clear dO
  refine At.done rfl ?_
  refine t_n ?_
  have kD := kC.as 15 (.slice aJ y3.length aT) (.slice aJ ((y3 : List Bool).length) aT) rfl (slice_len (by first | rfl | omega | (simp; done) | (simp; omega))); clear kC; have lY := kD.as 14 (.slice aI x3.length aS) (.slice aI ((x3 : List Bool).length) aS) rfl (slice_len (by first | rfl | omega | (simp; done) | (simp; omega))); clear kD
  have lZ := lY.sub (r := [(18, .int .i64 (k2 + 1)), (15, .slice aJ ((y3 : List Bool).length) aT), (14, .slice aI ((x3 : List Bool).length) aS), (17, .slice aE wb.length aW), (10, .int .i64 (p)), (6, .int .i64 (((li.length : Nat) : Int))), (5, .slice none 0 0), (4, .slice none 0 0)]) ⟨rfl, rfl, rfl, rfl, rfl, rfl, rfl, rfl, trivial⟩
  exact ⟨_, (by omega), (k2 + 1), (x3 : List Bool), aI, aS, (y3 : List Bool), aJ, aT, rfl, lZ, bR, cW, bS, cF, bJ, (by omega), (by omega), (got_no hgx (by assumption)), (got_no hgy (by assumption)), (by omega), (by omega), (by omega), (by omega)⟩
 have rB := of_decide_eq_false fH
 refine wp_exit ?_
 refine t_e ?_
 clear hm542
 refine t_e ?_
 refine b_e ?_
 refine t_n ?_
 clear bS
 refine wp_seq ?_
 refine At.start ?_
 refine At.rd dN 4 [[], [], [], []] [(5, .slice aJ y3.length aT), (4, .slice aI x3.length aS), (140, .slice aJ y3.length aT), (139, .slice aI x3.length aS)] [] (by kernel_rfl) trivial (fun rC mA => ?_)
 clear dN
 refine At.done rfl ?_
 refine t_n ?_
 refine wp_ret ?_
 refine ret_ mA [] [.slice aI x3.length aS, .slice aJ y3.length aT] [] (by kernel_rfl) trivial ?_
 exact ⟨aI, aS, aJ, aT, _, _, rfl, bR, (cF.imp (fun g _ hs => ⟨hs.1, .inr (by have := Sx_base hs; omega)⟩)), (bJ.imp (fun g _ hs => ⟨hs.1, .inr (by have := Sx_base hs; omega)⟩)), (won_fin hR hL hHi hp2 hlwa hwa hls1 hwp hlwb hwb hls2 hwx2 hgx hgy (by omega))⟩

theorem won_any {g : GameL} (hR : isR g = true) (N : Nat) : ∀ l : List Bool, LiveB g l → cT l 256 < (N : Int) → WonOK g l := by
  induction N with
  | zero => intro l _ h; have := (cT_up l 256).1; omega
  | succ N ih =>
    intro l hL h
    unfold WonOK
    intro A0 A1 A2 A c0 c1 c2 c b0 w rg ri hb
    exact won_step hR hL (fun l2 h2 h3 => ih l2 h2 (by omega)) rg ri hb
end Go.Proofs.Ytklbpajmoklheaa
