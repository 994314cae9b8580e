/-
  A walk of a Go function, printed by a program of this repo. Conditions: what the theorems name.
-/
import Derived.Test.YtplpgfcjjnaigaaDoorPureList
import Derived.Test.YtplpgfcjjnaigaaDoorWLen
set_option linter.unusedVariables false
set_option linter.unusedSimpArgs false
namespace Go.Proofs.YtplpgfcjjnaigaaDoor
open Go Go.RowKit

set_option maxHeartbeats 4000000 in
theorem list_any {s : List Int} {w : World} (hs : OkW s) (rT : RdT w 0 w.heap.size) :
    Calls Tryd.prog 43 #[.agg ((s : List Int).map wV).toArray] w fun e w' => ∃ A c, e = .returned (.slice A ((lsD (fromW s) 256)).length c) ∧ Ext w w' ∧ OwnR w' (Sx w.heap.size []) A c 3 ((lsD (fromW s) 256) : List Int) := by
 have hls := hs.1
 refine enter_ (args := [.agg ((s : List Int).map wV).toArray]) Tryd.func43 rfl Tryd.ntmps43 (Nat.le_of_ble_eq_true rfl) (fun act0 f0 => ?_)
 have e0 : Ext w w := Ext.refl w
 refine wp_seq ?_
 refine At.start ?_
 refine At.seq f0 1 [[]] [(1, .pointer (some ⟨w.heap.size, 0, none⟩))] (w.alloc (.cells ((s : List Int).map wV).toArray 44 (0, 0))) [] (by kernel_rfl) trivial (fun act4 w1 hw2 f3 => ?_)
 clear f0; have g5 := gr_alloc hw2; have := g5.size; replace e0 := e0.gn g5; have r8 := rT.gn g5; clear rT; have bx9 : Bx w1 (w.heap.size) ((s : List Int).map wV) 44 := Bx.new hw2; have := bx9.lt; clear g5 hw2
 refine At.rd f3 1 [[]] [(2, .slice none 0 0)] [] (by kernel_rfl) trivial (fun cH bC => ?_)
 clear f3
 refine At.done rfl ?_
 refine t_n ?_
 refine wp_seq ?_
 refine At.start ?_
 refine At.rd bC 1 [[.cs ((s : List Int).map wV)]] [(6, .agg ((s : List Int).map wV).toArray)] [(((s : List Int).map wV).length = 4), (∀ (j : Nat) (v : Value), ((s : List Int).map wV)[j]? = some v → w1.cell? ((⟨w.heap.size, 0, none⟩ : Addr).add j) = some v)] (by kernel_rfl) ⟨((List.length_map _).trans (by assumption)), bx9.whole, trivial⟩ (fun cI bD => ?_)
 clear bC
 refine At.call bD 57 #[.agg ((s : List Int).map wV).toArray] (some 7) (by kernel_rfl) (len_any (s := s) (by assumption)) ?_
 rintro e_ aA ⟨rfl, he⟩
 have := lenW_le s
 refine ⟨_, rfl, _, rfl, fun cJ bE => ?_⟩
 clear bD; have aL := gr_ext he; have := aL.size; replace e0 := e0.gn aL; replace r8 := r8.gn aL; replace bx9 := bx9.gn aL; clear aL he
 refine At.act bE (makeR (k1 := .i64) (k2 := .i64) (α := Int) (e := 3) (bytes := 8) (t := 22) (d := 8) (n := 0) (cap := lenW s) (0) (by kernel_rfl) rfl (by kernel_rfl) (by omega) (by omega) (by omega) (by omega)) ?_
 rintro d_ v_ bZ ⟨rfl, rfl, aM, aS⟩
 refine ⟨_, rfl, fun cK bF => ?_⟩
 clear bE; replace aS := aS (Sx (aA.heap.size) []) (Nat.le_refl _); have := aM.size; replace e0 := e0.gn aM; replace r8 := r8.gn aM; replace bx9 := bx9.gn aM; clear aM
 refine At.rd bF 1 [[]] [(3, .slice (some ⟨aA.heap.size, 0, none⟩) ((([] : List Int)).length) ((lenW s : Int).toNat))] [] (by kernel_rfl) trivial (fun cL bG => ?_)
 clear bF
 refine At.done rfl ?_
 refine t_n ?_
 refine wp_seq ?_
 refine wp_seq ?_
 refine At.start ?_
 refine At.rd bG 2 [[.cs ((s : List Int).map wV)], []] [(10, .int .i64 (0)), (9, .agg ((s : List Int).map wV).toArray)] [(((s : List Int).map wV).length = 4), (∀ (j : Nat) (v : Value), ((s : List Int).map wV)[j]? = some v → bZ.cell? ((⟨w.heap.size, 0, none⟩ : Addr).add j) = some v)] (by kernel_rfl) ⟨((List.length_map _).trans (by assumption)), bx9.whole, trivial⟩ (fun cM bH => ?_)
 clear bG
 refine At.done rfl ?_
 refine t_n ?_
 refine wp_block ?_
 have bI := bH.as 3 (.slice (some ⟨aA.heap.size, 0, none⟩) ((([] : List Int)).length) ((lenW s : Int).toNat)) (.slice (some ⟨aA.heap.size, 0, none⟩) ((([] : List Int) : List Int).length) ((lenW s : Int).toNat)) rfl (slice_len (by first | rfl | omega | (simp; done) | (simp; omega)))
 clear bH
 have bJ := bI.sub (r := [(3, .slice (some ⟨aA.heap.size, 0, none⟩) ((([] : List Int) : List Int).length) ((lenW s : Int).toNat)), (10, .int .i64 (0)), (9, .agg ((s : List Int).map wV).toArray), (2, .slice none 0 0)]) ⟨rfl, rfl, rfl, rfl, trivial⟩
 refine loop_g (fun (m_ : Nat) a_ w_ => ∃ (i : Int) (xs : List Int) (aB : Option Addr) (aC : Nat), m_ = (4 - i).toNat ∧ (Frm 30 a_ [(3, .slice aB xs.length aC), (10, .int .i64 (i)), (9, .agg ((s : List Int).map wV).toArray), (2, .slice none 0 0)]) ∧ (Ext w w_) ∧ (RdT w_ 0 w.heap.size) ∧ (Bx w_ (w.heap.size) ((s : List Int).map wV) 44) ∧ (OwnR w_ (Sx (aA.heap.size) []) aB aC 3 (xs : List Int)) ∧ (0 ≤ i) ∧ (i ≤ 4) ∧ (xs = lsD (fromW s) (64 * i).toNat) ∧ (aA.heap.size ≤ w_.heap.size)) _ ⟨0, (([] : List Int) : List Int), some ⟨aA.heap.size, 0, none⟩, (lenW s : Int).toNat, rfl, bJ, e0, r8, bx9, aS, (by omega), (by omega), rfl, (by omega)⟩ ?_
 clear bJ bI; clear r8; clear bx9; clear aS; clear e0
 intro m_ cN cO ⟨i, xs, aB, aC, hm42, bK, aT, bL, aV, aW, i47, i48, hxs, i49⟩
 have := aT.size; have := aV.lt
 refine wp_seq ?_
 refine At.start ?_
 refine At.rd bK 1 [[]] [(11, .bool (decide ((i : Int) < 4)))] [] (by kernel_rfl) trivial (fun cP aN => ?_)
 clear bK
 refine At.done rfl ?_
 refine t_n ?_
 refine wp_seq ?_
 refine cond_S aN (t := decide ((i : Int) < 4)) rfl (fun aX => ?_) (fun aX => ?_)
 ·have cQ := of_decide_eq_true aX
  refine wp_skip ?_
  refine t_n ?_
  refine wp_seq ?_
  refine wp_block ?_
  refine wp_seq ?_
  refine At.start ?_
  refine At.rd aN 4 [[], [.ld (.int .u64 (gI s i))], [], []] [(5, .int .u64 (gI s i)), (4, .int .i64 (i)), (13, .int .u64 (gI s i)), (12, .int .i64 (i))] [(0 ≤ (i : Int)), ((i : Int) < (4 : Nat)), ((((s : List Int).map wV).toArray : Array Value)[(i : Int).toNat * 1]? = some (.int .u64 (gI s i)))] (by kernel_rfl) ⟨(by omega), (by omega), (idxM wV (0 : Int) i (by omega) (by have := (by first | assumption | exact (okW_with (by assumption)).1 | exact (okW_less (by assumption)).1 | exact (ofW_ok _).1 | exact (fullW_W _).1 | (refine okLen ?_; (repeat (first | assumption | exact ofW_ok _ | exact fullW_W _ | apply okW_with | apply okW_less | refine okW_orS ?_ ?_ | refine okW_andS ?_ ?_ | refine okW_minusS ?_ ?_)); done) | rfl | omega | (simp only [List.length_set]; first | done | assumption | omega) | exact lenW4 _ (by assumption)); omega)), trivial⟩ (fun cR bM => ?_)
  clear aN
  refine At.done rfl ?_
  refine t_n ?_
  refine wp_block ?_
  have bN := bM.as 3 (.slice aB xs.length aC) (.slice aB ((xs : List Int).length) aC) rfl (slice_len (by first | rfl | omega | (simp; done) | (simp; omega))); clear bM
  have bO := bN.sub (r := [(3, .slice aB ((xs : List Int).length) aC), (5, .int .u64 (gI s i)), (4, .int .i64 (i)), (10, .int .i64 (i)), (9, .agg ((s : List Int).map wV).toArray), (2, .slice none 0 0)]) ⟨rfl, rfl, rfl, rfl, rfl, rfl, trivial⟩
  refine loop_g (fun (m_ : Nat) a_ w_ => ∃ (v : Int) (c : Int) (ys : List Int) (aH : Option Addr) (aI : Nat), m_ = (64 - c).toNat ∧ (Frm 30 a_ [(3, .slice aH ys.length aI), (5, .int .u64 (v)), (4, .int .i64 (i)), (10, .int .i64 (i)), (9, .agg ((s : List Int).map wV).toArray), (2, .slice none 0 0)]) ∧ (Ext w w_) ∧ (RdT w_ 0 w.heap.size) ∧ (Bx w_ (w.heap.size) ((s : List Int).map wV) 44) ∧ (OwnR w_ (Sx (aA.heap.size) []) aH aI 3 (ys : List Int)) ∧ (0 ≤ c) ∧ (c ≤ 64) ∧ (RestW s i v c) ∧ (ys = lsD (fromW s) (64 * i + c).toNat) ∧ (aA.heap.size ≤ w_.heap.size)) _ ⟨(gI s i), 0, (xs : List Int), aB, aC, rfl, bO, aT, bL, aV, aW, (by omega), (by omega), (rest_0 hs), (by rw [hxs, Int.add_zero]), (by omega)⟩ ?_
  clear bO bN; clear bL; clear aV; clear aW; clear aT
  intro m_ cS cT ⟨v, c, ys, aH, aI, hm63, bP, aE, aF, aG, aD, i68, i69, hrw, hys, i70⟩
  have := aE.size; have := aG.lt; have hyl := ls_len (fromW s) (64 * i + c).toNat
  rw [← hys] at hyl
  have hrc := fun h_ : ¬ v = 0 => rest_tz hrw h_
  refine wp_seq ?_
  refine wp_seq ?_
  refine At.start ?_
  refine At.rd bP 2 [[], []] [(15, .bool ((v : Int) != 0)), (14, .int .u64 (v))] [] (by kernel_rfl) trivial (fun cU aO => ?_)
  clear bP
  refine At.done rfl ?_
  refine t_n ?_
  refine cond_S aO (t := (v : Int) != 0) rfl (fun aY => ?_) (fun aY => ?_)
  ·have cV := bne_iff_ne.1 aY
   refine wp_skip ?_
   refine t_n ?_
   refine wp_seq ?_
   refine wp_block ?_
   refine At.start ?_
   refine At.rd aO 4 [[], [], [.as_ (.int .i64 (64 * i))], []] [(23, .int .u64 (v)), (22, .int .i64 (64 * i)), (21, .int .i64 (i)), (20, .slice aH ys.length aI)] [((.int .i64 (IntKind.i64.wrap (64 * i)) : Value) = .int .i64 (64 * i))] (by kernel_rfl) ⟨(w64 (by omega) (by omega)), trivial⟩ (fun cW bQ => ?_)
   clear aO
   refine At.call bQ 56 #[.int .u64 (v)] (some 24) (by kernel_rfl) (tzI_any (z := v) (by first | exact hs.2 _ | exact hrw.1 | assumption) (aF.wide (Nat.zero_le _) (by omega))) ?_
   rintro e_ aZ ⟨rfl, he⟩
   have := tz_lt (z := v) (by first | exact hs.2 _ | exact hrw.1 | assumption) (by omega)
   refine ⟨_, rfl, _, rfl, fun cX bR => ?_⟩
   clear bQ; have aJ := gr_ext he; have := aJ.size; replace aE := aE.gn aJ; replace aF := aF.gn aJ; replace aG := aG.gn aJ; replace aD := aD.gn aJ; clear aJ he
   refine At.rd bR 1 [[.as_ (.int .i64 ((64 * i) + (tzI v)))]] [(25, .int .i64 ((64 * i) + (tzI v)))] [((.int .i64 (IntKind.i64.wrap ((64 * i) + (tzI v))) : Value) = .int .i64 ((64 * i) + (tzI v)))] (by kernel_rfl) ⟨(w64 (by omega) (by omega)), trivial⟩ (fun cY bS => ?_)
   clear bR
   refine At.seq bS 1 [[]] [(26, .slice (some ⟨aZ.heap.size, 0, none⟩) 1 1)] (aZ.alloc (.cells #[.int .i64 ((64 * i) + (tzI v))] 3 (0, 0))) [] (by kernel_rfl) trivial (fun cZ bT bA bU => ?_)
   clear bS; have aK := gr_alloc bA; have := aK.size; replace aE := aE.gn aK; replace aF := aF.gn aK; replace aG := aG.gn aK; replace aD := aD.grN aK; have bB : Bx bT (aZ.heap.size) [.int .i64 ((64 * i) + (tzI v))] 3 := Bx.new bA; have := bB.lt; clear aK bA; have cA : (ys ++ ([(64 * i) + (tzI v)])).length = (ys).length + ([(64 * i) + (tzI v)] : List Int).length := List.length_append
   simp only [List.length_cons, List.length_nil] at cA
   refine At.act bU (appendR (α := Int) (t := 22) (d := 27) (n := ys.length) (m := 1) (cc := 1) (xs := ys) (ys := [(64 * i) + (tzI v)]) (bytes := 8) (by first | rfl | omega | (simp; done) | (simp; omega)) (by first | rfl | omega | (simp; done) | (simp; omega)) (by kernel_rfl) rfl (by kernel_rfl) aD (Bx.srcR (l := ([(64 * i) + (tzI v)] : List Int)) bB rfl) (by simp only [List.length_cons, List.length_nil]; omega) (by simp only [List.length_cons, List.length_nil]; omega)) ?_
   rintro d_ v_ dA ⟨rfl, aP, aQ, aU⟩
   obtain rfl := aU.val
   have aR := aU.gr
   refine ⟨_, rfl, fun dB bV => ?_⟩
   clear bU; clear bB; have cB := aU.own (Sx (aA.heap.size) []) (fun g _ hs => hs.2) (show aA.heap.size ≤ bT.heap.size by omega); have := aR.size; replace aE := aE.gr aR (fun k hk => by have := aD.ge k hk; omega); replace aF := aF.gr aR (fun k hk => by have := aD.ge k hk; omega); replace aG := aG.gr aR (fun e => by have := aD.ge _ e; omega); clear aD aR aU
   refine At.rd bV 1 [[]] [(3, .slice aP ((ys ++ ([(64 * i) + (tzI v)])).length) aQ)] [] (by kernel_rfl) trivial (fun dC bW => ?_)
   clear bV
   refine At.done rfl ?_
   refine b_n ?_
   refine t_n ?_
   refine At.start ?_
   refine At.rd bW 5 [[], [], [.as_ (.int .u64 (v - 1))], [.as_ (.int .u64 (clrW v))], []] [(5, .int .u64 (clrW v)), (19, .int .u64 (clrW v)), (18, .int .u64 (v - 1)), (17, .int .u64 (v)), (16, .int .u64 (v))] [((.int .u64 (IntKind.u64.wrap (v - 1)) : Value) = .int .u64 (v - 1)), ((.int .u64 (IntKind.u64.wrap ((BitVec.ofInt 64 v &&& BitVec.ofInt 64 (v - 1)).toNat : Int)) : Value) = .int .u64 (clrW v))] (by kernel_rfl) ⟨(congrArg (Value.int .u64) (sub_W hrw.1 (by omega))), (congrArg (Value.int .u64) (clr_eq hrw.1 (by omega))), trivial⟩ (fun dD bX => ?_)
   clear bW
   refine At.done rfl ?_
   refine t_n ?_
   have cC := bX.as 3 (.slice aP ((ys ++ ([(64 * i) + (tzI v)])).length) aQ) (.slice aP ((ys ++ ([(64 * i) + (tzI v)]) : List Int).length) aQ) rfl (slice_len (by first | rfl | omega | (simp; done) | (simp; omega)))
   clear bX
   have cD := cC.sub (r := [(3, .slice aP ((ys ++ ([(64 * i) + (tzI v)]) : List Int).length) aQ), (5, .int .u64 (clrW v)), (4, .int .i64 (i)), (10, .int .i64 (i)), (9, .agg ((s : List Int).map wV).toArray), (2, .slice none 0 0)]) ⟨rfl, rfl, rfl, rfl, rfl, rfl, trivial⟩
   exact ⟨_, (by omega), (clrW v), (tzI v + 1), (ys ++ ([(64 * i) + (tzI v)]) : List Int), aP, aQ, rfl, cD, aE, aF, aG, cB, (by omega), (by omega), (rest_next hrw (by omega)), (rest_ls hrw (by omega) (by omega) (by omega) (by omega) hys), (by omega)⟩
  have dE := bne_eq_false_iff_eq.1 aY
  refine wp_exit ?_
  refine t_e ?_
  refine t_e ?_
  refine b_e ?_
  refine b_n ?_
  refine t_n ?_
  refine At.start ?_
  refine At.rd aO 2 [[.as_ (.int .i64 (i + 1))], []] [(10, .int .i64 (i + 1)), (28, .int .i64 (i + 1))] [((.int .i64 (IntKind.i64.wrap (i + 1)) : Value) = .int .i64 (i + 1))] (by kernel_rfl) ⟨(w64 (by omega) (by omega)), trivial⟩ (fun dF bY => ?_)
  clear aO
  refine At.done rfl ?_
  refine t_n ?_
  have cE := bY.as 3 (.slice aH ys.length aI) (.slice aH ((ys : List Int).length) aI) rfl (slice_len (by first | rfl | omega | (simp; done) | (simp; omega))); clear bY
  have cF := cE.sub (r := [(3, .slice aH ((ys : List Int).length) aI), (10, .int .i64 (i + 1)), (9, .agg ((s : List Int).map wV).toArray), (2, .slice none 0 0)]) ⟨rfl, rfl, rfl, rfl, trivial⟩
  exact ⟨_, (by omega), (i + 1), (ys : List Int), aH, aI, rfl, cF, aE, aF, aG, aD, (by omega), (by omega), (rest_end hrw (by omega) (by omega) (by omega) (by omega) (by omega) hys), (by omega)⟩
 have dG := of_decide_eq_false aX
 refine wp_exit ?_
 refine t_e ?_
 refine t_e ?_
 refine b_e ?_
 refine t_n ?_
 refine wp_seq ?_
 refine At.start ?_
 refine At.rd aN 2 [[], []] [(2, .slice aB xs.length aC), (29, .slice aB xs.length aC)] [] (by kernel_rfl) trivial (fun dH cG => ?_)
 clear aN
 refine At.done rfl ?_
 refine t_n ?_
 refine wp_ret ?_
 refine ret_ cG [] [.slice aB xs.length aC] [] (by kernel_rfl) trivial ?_
 have hq_ : (xs : List Int) = lsD (fromW s) 256 := list_end hxs (by omega) (by omega)
 exact ⟨aB, aC, ret_eq (slice_len (by first | (rw [← hq_]; done) | (rw [← hq_]; simp) | (rw [← hq_]; omega))), aT, (OwnR.as (aW.imp (fun g _ hs => by have := Sx_base hs; show w.heap.size ≤ g; omega)) hq_)⟩

end Go.Proofs.YtplpgfcjjnaigaaDoor
