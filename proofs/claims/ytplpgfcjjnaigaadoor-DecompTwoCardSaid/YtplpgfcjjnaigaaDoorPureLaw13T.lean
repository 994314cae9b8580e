/-
  Plain: of two games side by side each is told alone (law DecompTwo). No program.
-/
import Derived.Test.YtplpgfcjjnaigaaDoorPureLaw13
import Derived.Test.YtplpgfcjjnaigaaDoorPureDecW
import Derived.Test.YtplpgfcjjnaigaaDoorLem
set_option linter.unusedVariables false
set_option linter.unusedSimpArgs false
namespace Go.Proofs.YtplpgfcjjnaigaaDoor
open Go Go.RowKit
theorem gI_aL {a : List Int} {f : Int → Int} {k i : Int} (h : 0 ≤ i) (b : i < (a.length : Int)) : gI (a ++ limL f k) i = gI a i := by
  rw [gI, gI, List.getD_eq_getElem?_getD, List.getD_eq_getElem?_getD, List.getElem?_append_left (by omega)]
theorem gI_aR {a : List Int} {f : Int → Int} {k i : Int} (h : 0 ≤ i) (b : i < k) : gI (a ++ limL f k) (((a.length : Nat) : Int) + i) = f i := by
  rw [← gI_lim (f := f) h b, gI, gI, List.getD_eq_getElem?_getD, List.getD_eq_getElem?_getD, List.getElem?_append_right (by omega), show (((a.length : Nat) : Int) + i).toNat - a.length = i.toNat by omega]
theorem gL_aL {a : List (List Int)} {f : Int → List Int} {k i : Int} (h : 0 ≤ i) (b : i < (a.length : Int)) : gL (a ++ limL f k) i = gL a i := by
  rw [gL, gL, List.getD_eq_getElem?_getD, List.getD_eq_getElem?_getD, List.getElem?_append_left (by omega)]
theorem gL_aR {a : List (List Int)} {f : Int → List Int} {k i : Int} (h : 0 ≤ i) (b : i < k) : gL (a ++ limL f k) (((a.length : Nat) : Int) + i) = f i := by
  rw [← gL_lim (f := f) h b, gL, gL, List.getD_eq_getElem?_getD, List.getD_eq_getElem?_getD, List.getElem?_append_right (by omega), show (((a.length : Nat) : Int) + i).toNat - a.length = i.toNat by omega]
theorem two_push {α : Type} {f : Int → α} {k : Int} {a xs : List α} {v : α} (h : xs = a ++ limL f k) (h0 : 0 ≤ k) (hv : v = f k) : xs ++ [v] = a ++ limL f (k + 1) := by
  rw [h, hv, List.append_assoc, lim_push rfl h0]
def rowT (h : GameL) (n i : Int) : List Int := limL (fun j => gI (gL h.mv i) j + n) (((gL h.mv i).length : Nat) : Int)
theorem rowT_len (h : GameL) (n i : Int) : (rowT h n i).length = (gL h.mv i).length := by unfold rowT; rw [lim_len]; omega
theorem map_lim {l : List Int} {n : Int} : l.map (fun z => z + n) = limL (fun j => gI l j + n) ((l.length : Nat) : Int) := by
  apply List.ext_getElem
  · rw [List.length_map, lim_len]
    omega
  · intro i a b
    rw [List.length_map] at a
    simp [limL, gI, List.getD_eq_getElem?_getD, List.getElem?_eq_getElem a]
theorem mem_rowT {h : GameL} {n i x : Int} : x ∈ rowT h n i ↔ x - n ∈ gL h.mv i := by
  unfold rowT
  rw [← map_lim, List.mem_map]
  constructor
  · rintro ⟨a, h1, rfl⟩
    rwa [show a + n - n = a by omega]
  · exact fun h1 => ⟨_, h1, by omega⟩
/-- Both games, the second one's positions shifted. -/
structure TwoT (g h : GameL) (xo xp : List Int) (xm : List (List Int)) : Prop where
  o : xo = g.ow ++ limL (fun j => gI h.ow j) ((h.ow.length : Nat) : Int)
  p : xp = g.pr ++ limL (fun j => gI h.pr j) ((h.ow.length : Nat) : Int)
  m : xm = g.mv ++ limL (fun j => rowT h ((g.ow.length : Nat) : Int) j) ((h.ow.length : Nat) : Int)
theorem two_t {g h : GameL} {xo xp : List Int} {xm : List (List Int)} {z : Int} (ho : xo = g.ow ++ limL (fun j => gI h.ow j) z) (hp : xp = g.pr ++ limL (fun j => gI h.pr j) z) (hm : xm = g.mv ++ limL (fun j => rowT h ((g.ow.length : Nat) : Int) j) z) (hz : z = ((h.ow.length : Nat) : Int)) : TwoT g h xo xp xm := by
  subst hz
  exact ⟨ho, hp, hm⟩
section
variable {g h : GameL} {xo xp : List Int} {xm : List (List Int)}
structure TwoA (g h : GameL) (xo xp : List Int) (xm : List (List Int)) : Prop where
  lo : xo.length = g.ow.length + h.ow.length
  lp : xp.length = g.ow.length + h.ow.length
  lm : xm.length = g.ow.length + h.ow.length
  o0 : ∀ i : Int, 0 ≤ i → i < (g.ow.length : Int) → gI xo i = gI g.ow i
  p0 : ∀ i : Int, 0 ≤ i → i < (g.ow.length : Int) → gI xp i = gI g.pr i
  m0 : ∀ i : Int, 0 ≤ i → i < (g.ow.length : Int) → gL xm i = gL g.mv i
  o1 : ∀ i : Int, ((g.ow.length : Nat) : Int) ≤ i → i < (g.ow.length : Int) + (h.ow.length : Int) → gI xo i = gI h.ow (i - ((g.ow.length : Nat) : Int))
  p1 : ∀ i : Int, ((g.ow.length : Nat) : Int) ≤ i → i < (g.ow.length : Int) + (h.ow.length : Int) → gI xp i = gI h.pr (i - ((g.ow.length : Nat) : Int))
  m1 : ∀ i : Int, ((g.ow.length : Nat) : Int) ≤ i → i < (g.ow.length : Int) + (h.ow.length : Int) → gL xm i = rowT h ((g.ow.length : Nat) : Int) (i - ((g.ow.length : Nat) : Int))
theorem two_at (hR : isR g = true) (hT : TwoT g h xo xp xm) : TwoA g h xo xp xm := by
  have hG := isR_ok hR
  have hp := hG.pl
  have hm := hG.ml
  obtain ⟨rfl, rfl, rfl⟩ := hT
  refine ⟨?_, ?_, ?_, fun i a b => gI_aL a b, fun i a b => gI_aL a (by omega), fun i a b => gL_aL a (by omega), fun i a b => ?_, fun i a b => ?_, fun i a b => ?_⟩
  · rw [List.length_append, lim_len]
    omega
  · rw [List.length_append, lim_len]
    omega
  · rw [List.length_append, lim_len]
    omega
  · have := gI_aR (a := g.ow) (f := fun j => gI h.ow j) (k := ((h.ow.length : Nat) : Int)) (i := i - ((g.ow.length : Nat) : Int)) (by omega) (by omega)
    rwa [show ((g.ow.length : Nat) : Int) + (i - ((g.ow.length : Nat) : Int)) = i by omega] at this
  · have := gI_aR (a := g.pr) (f := fun j => gI h.pr j) (k := ((h.ow.length : Nat) : Int)) (i := i - ((g.ow.length : Nat) : Int)) (by omega) (by omega)
    rwa [show ((g.pr.length : Nat) : Int) + (i - ((g.ow.length : Nat) : Int)) = i by omega] at this
  · have := gL_aR (a := g.mv) (f := fun j => rowT h ((g.ow.length : Nat) : Int) j) (k := ((h.ow.length : Nat) : Int)) (i := i - ((g.ow.length : Nat) : Int)) (by omega) (by omega)
    rwa [show ((g.mv.length : Nat) : Int) + (i - ((g.ow.length : Nat) : Int)) = i by omega] at this
theorem two_right (hR : isR g = true) (hR2 : isR h = true) (hn : g.ow.length + h.ow.length ≤ 200) (A : TwoA g h xo xp xm) : isR ⟨xo, xp, xm⟩ = true := by
  have hG := isR_ok hR
  have hH := isR_ok hR2
  have h1 := A.lo
  have h2 := A.lp
  have h3 := A.lm
  have hg0 := hG.n0
  refine isR_of ⟨by dsimp only; omega, by dsimp only; omega, by dsimp only; omega, by dsimp only; omega, fun i a b => ?_, fun i a b => ?_, fun i a b => ?_, fun i a b => ?_, fun i a b => ?_⟩
  · dsimp only at b ⊢
    by_cases e : i < (g.ow.length : Int)
    · rw [A.o0 i a e]
      exact hG.ow i a e
    · rw [A.o1 i (by omega) (by omega)]
      exact hH.ow _ (by omega) (by omega)
  · dsimp only at b ⊢
    by_cases e : i < (g.ow.length : Int)
    · rw [A.p0 i a e]
      exact hG.pr i a e
    · rw [A.p1 i (by omega) (by omega)]
      exact hH.pr _ (by omega) (by omega)
  · dsimp only at b ⊢
    by_cases e : i < (g.ow.length : Int)
    · rw [A.m0 i a e]
      exact hG.ne i a e
    · rw [A.m1 i (by omega) (by omega), rowT_len]
      exact hH.ne _ (by omega) (by omega)
  · dsimp only at b ⊢
    by_cases e : i < (g.ow.length : Int)
    · rw [A.m0 i a e]
      intro k c d
      have := hG.mv i a e k c d
      omega
    · rw [A.m1 i (by omega) (by omega)]
      intro k c d
      rw [rowT_len] at d
      rw [rowT, gI_lim c (by omega)]
      have := hH.mv (i - ((g.ow.length : Nat) : Int)) (by omega) (by omega) k c d
      omega
  · dsimp only at b ⊢
    by_cases e : i < (g.ow.length : Int)
    · rw [A.m0 i a e]
      exact hG.up i a e
    · rw [A.m1 i (by omega) (by omega)]
      intro k c d
      rw [rowT_len] at d
      rw [rowT, gI_lim (by omega) (by omega), gI_lim (by omega) (by omega)]
      have := hH.up (i - ((g.ow.length : Nat) : Int)) (by omega) (by omega) k c d
      omega
theorem two_inner (hR : isR g = true) (hR2 : isR h = true) (A : TwoA g h xo xp xm) : ∀ q, q < xm.length → (xm.getD q []).length * 8 ≤ 140737488351232 := by
  intro q hq
  have hl := A.lm
  have hm := (isR_ok hR).ml
  have e : xm.getD q [] = gL xm (q : Int) := by simp [gL]
  rw [e]
  by_cases e2 : (q : Int) < (g.ow.length : Int)
  · rw [A.m0 _ (by omega) e2]
    have := row_len (isR_ok hR) (i := (q : Int)) (by omega) e2
    have := (isR_ok hR).n1
    omega
  · rw [A.m1 _ (by omega) (by omega), rowT_len]
    have := row_len (isR_ok hR2) (i := (q : Int) - ((g.ow.length : Nat) : Int)) (by omega) (by omega)
    have := (isR_ok hR2).n1
    omega
theorem two_win (hR : isR g = true) (hR2 : isR h = true) (A : TwoA g h xo xp xm) {W V : Int → Prop} {p : Int} {f k : Int → Int} (hw : WinT g (fun i => 0 ≤ i ∧ i < (g.ow.length : Int)) p f W) (hv : WinT h (fun i => 0 ≤ i ∧ i < (h.ow.length : Int)) p k V) :
    WinT ⟨xo, xp, xm⟩ (fun i => 0 ≤ i ∧ i < (xo.length : Int)) p (fun i => if i < (g.ow.length : Int) then f i else k (i - ((g.ow.length : Nat) : Int)) + ((g.ow.length : Nat) : Int)) (fun i => W i ∨ V (i - ((g.ow.length : Nat) : Int))) := by
  have hlo := A.lo
  refine win_or ?_ ?_
  · refine win_tr (fun i => i) hw (fun i hi => by have := hw.sub i hi; omega) (fun i hi => hi) (fun i hi => ?_) (fun i hi m hmm hI => ?_) (fun i hi e => ?_) (fun i hi m hmm hI hWm => hWm) (fun i hi e => ?_) (fun i j hi hj hle => ?_)
    · have h1 := hw.sub i hi
      show gI xo i = p ↔ _
      rw [A.o0 i h1.1 h1.2]
    · have h1 := hw.sub i hi
      have hmm : m ∈ gL xm i := hmm
      rw [A.m0 i h1.1 h1.2] at hmm
      exact ⟨hmm, row_rng hR h1.1 h1.2 hmm⟩
    · have h1 := hw.sub i hi
      have e : gI xo i = p := e
      rw [A.o0 i h1.1 h1.2] at e
      have h2 := hw.own _ hi e
      have h3 := hw.sub _ h2.2
      show (if _ then _ else _) ∈ gL xm i ∧ _ ∧ _
      rw [if_pos h1.2, A.m0 i h1.1 h1.2]
      exact ⟨h2.1, by omega, rfl⟩
    · have h1 := hw.sub i hi
      have e : gI xp i % 2 ≠ p := e
      rwa [A.p0 i h1.1 h1.2] at e
    · have h1 := hw.sub i hi
      have h2 := hw.sub j hj
      have hle : gI xp i ≤ gI xp j := hle
      rwa [A.p0 i h1.1 h1.2, A.p0 j h2.1 h2.2] at hle
  · refine win_tr (fun i => i - ((g.ow.length : Nat) : Int)) hv (fun i hi => by have := hv.sub _ hi; omega) (fun i hi => hi) (fun i hi => ?_) (fun i hi m hmm hI => ?_) (fun i hi e => ?_) (fun i hi m hmm hI hWm => hWm) (fun i hi e => ?_) (fun i j hi hj hle => ?_)
    · have h1 := hv.sub _ hi
      show gI xo i = p ↔ _
      rw [A.o1 i (by omega) (by omega)]
    · have h1 := hv.sub _ hi
      have hmm : m ∈ gL xm i := hmm
      rw [A.m1 i (by omega) (by omega), mem_rowT] at hmm
      exact ⟨hmm, row_rng hR2 h1.1 h1.2 hmm⟩
    · have h1 := hv.sub _ hi
      have e : gI xo i = p := e
      rw [A.o1 i (by omega) (by omega)] at e
      have h2 := hv.own _ hi e
      have h3 := hv.sub _ h2.2
      show (if _ then _ else _) ∈ gL xm i ∧ _ ∧ _
      rw [if_neg (by omega), A.m1 i (by omega) (by omega), mem_rowT]
      refine ⟨?_, by omega, by omega⟩
      rw [show ∀ a b : Int, a + b - b = a from fun a b => by omega]
      exact h2.1
    · have h1 := hv.sub _ hi
      have e : gI xp i % 2 ≠ p := e
      rwa [A.p1 i (by omega) (by omega)] at e
    · have h1 := hv.sub _ hi
      have h2 := hv.sub _ hj
      have hle : gI xp i ≤ gI xp j := hle
      rwa [A.p1 i (by omega) (by omega), A.p1 j (by omega) (by omega)] at hle
end
theorem ls_same2 {l a : List Bool} : ∀ k : Nat, (∀ r : Nat, r < k → gB l (r : Int) = gB a (r : Int)) → lsD l k = lsD a k
  | 0, _ => rfl
  | k + 1, h => by rw [lsD, lsD, h k (by omega), ls_same2 k (fun r hr => h r (by omega))]
theorem ls_sft {l b : List Bool} {n : Nat} : ∀ d : Nat, (∀ r : Nat, r < d → gB l ((n + r : Nat) : Int) = gB b (r : Int)) → lsD l (n + d) = lsD l n ++ (lsD b d).map (fun z => z + (n : Int))
  | 0, _ => by simp [lsD]
  | d + 1, h => by
    rw [← Nat.add_assoc, lsD, lsD, h d (by omega), ls_sft d (fun r hr => h r (by omega))]
    by_cases e : gB b (d : Int) = true
    · rw [if_pos e, if_pos e, List.map_append, List.append_assoc, show ((n + d : Nat) : Int) = (d : Int) + (n : Int) by omega]
      rfl
    · rw [if_neg e, if_neg e]
theorem gB_inP {s t : List Int} {i j : Int} (a : 0 ≤ i) (b : i < 256) (c : 0 ≤ j) (d : j < 256) (h : inP s i ↔ inP t j) : gB (fromW s) i = gB (fromW t) j := by
  rw [Bool.eq_iff_iff]
  exact ⟨fun e => (h.1 ⟨a, b, e⟩).2.2, fun e => (h.2 ⟨c, d, e⟩).2.2⟩
theorem gB_no {s : List Int} {i : Int} (a : 0 ≤ i) (b : i < 256) (h : ¬ inP s i) : gB (fromW s) i = false := by
  cases e : gB (fromW s) i with
  | false => rfl
  | true => exact absurd ⟨a, b, e⟩ h
theorem ls_two {t s r : List Int} {n m : Nat} (hn : n + m ≤ 200) (h : ∀ i, inP t i ↔ inP s i ∨ inP r (i - (n : Int))) (hs : ∀ i, inP s i → i < (n : Int)) (hr : ∀ i, inP r i → i < (m : Int)) :
    lsD (fromW t) 256 = lsD (fromW s) 256 ++ limL (fun j => gI (lsD (fromW r) 256) j + (n : Int)) (((lsD (fromW r) 256).length : Nat) : Int) := by
  have h0 : ∀ i, inP r i → 0 ≤ i := fun i hi => hi.1
  have e1 : lsD (fromW s) 256 = lsD (fromW s) n := by
    have := ls_run (l := fromW s) (a := n) (256 - n) (fun k a b => gB_no (by omega) (by omega) (fun h2 => by have := hs _ h2; omega))
    rwa [show n + (256 - n) = 256 by omega] at this
  have e2 : lsD (fromW r) 256 = lsD (fromW r) (256 - n) := by
    have := ls_run (l := fromW r) (a := 256 - n) n (fun k a b => gB_no (by omega) (by omega) (fun h2 => by have := hr _ h2; omega))
    rwa [show 256 - n + n = 256 by omega] at this
  have e3 : lsD (fromW t) n = lsD (fromW s) n := ls_same2 n (fun k hk => gB_inP (by omega) (by omega) (by omega) (by omega) ⟨fun h2 => ((h _).1 h2).elim id (fun h3 => by have := h0 _ h3; omega), fun h2 => (h _).2 (.inl h2)⟩)
  have e4 := ls_sft (l := fromW t) (b := fromW r) (n := n) (256 - n) (fun k hk => gB_inP (by omega) (by omega) (by omega) (by omega) (by
    have e : ((n + k : Nat) : Int) - (n : Int) = (k : Int) := by omega
    have h4 := h ((n + k : Nat) : Int)
    rw [e] at h4
    exact ⟨fun h2 => (h4.1 h2).elim (fun h3 => by have := hs _ h3; omega) id, fun h2 => h4.2 (.inr h2)⟩))
  rw [show n + (256 - n) = 256 by omega, e3, ← e1, ← e2] at e4
  rw [e4, map_lim]
theorem two_sol {g h : GameL} {xo xp : List Int} {xm : List (List Int)} (hR : isR g = true) (hR2 : isR h = true) (hn : g.ow.length + h.ow.length ≤ 200) (hT : TwoT g h xo xp xm) {la lb ma mb lc ld mc md le lf me mf : List Int} {da db dc : Int} (hA : SolveT g la lb ma mb da) (hB : SolveT h lc ld mc md db) (hC : SolveT ⟨xo, xp, xm⟩ le lf me mf dc) :
    le = la ++ limL (fun j => gI lc j + ((g.ow.length : Nat) : Int)) ((lc.length : Nat) : Int) ∧ lf = lb ++ limL (fun j => gI ld j + ((g.ow.length : Nat) : Int)) ((ld.length : Nat) : Int) := by
  have A := two_at hR hT
  have hR3 := two_right hR hR2 hn A
  obtain ⟨s0, s1, rfl, rfl, hS⟩ := hA.right hR
  obtain ⟨r0, r1, rfl, rfl, hr⟩ := hB.right hR2
  obtain ⟨t0, t1, rfl, rfl, ht⟩ := hC.right hR3
  have hlo := A.lo
  have hal : ∀ i : Int, 0 ≤ i → i < ((xo.length : Nat) : Int) → (inP s0 i ∨ inP r0 (i - ((g.ow.length : Nat) : Int))) ∨ (inP s1 i ∨ inP r1 (i - ((g.ow.length : Nat) : Int))) := fun i a b => by
    by_cases e : i < (g.ow.length : Int)
    · exact (hS.sp.all i a e).elim (fun h => .inl (.inl h)) (fun h => .inr (.inl h))
    · exact (hr.sp.all (i - ((g.ow.length : Nat) : Int)) (by omega) (by omega)).elim (fun h => .inl (.inr h)) (fun h => .inr (.inr h))
  have hsp := split_one (isR_ok hR3) ht.sp ⟨hal, two_win hR hR2 A hS.sp.w0 hr.sp.w0, two_win hR hR2 A hS.sp.w1 hr.sp.w1⟩
  exact ⟨ls_two hn hsp.1 (fun i hi => (hS.sp.w0.sub i hi).2) (fun i hi => (hr.sp.w0.sub i hi).2), ls_two hn hsp.2 (fun i hi => (hS.sp.w1.sub i hi).2) (fun i hi => (hr.sp.w1.sub i hi).2)⟩
theorem solve_rg {g : GameL} {l0 l1 m0 m1 : List Int} {d : Int} (hR : isR g = true) (h : SolveT g l0 l1 m0 m1 d) : (∀ j : Int, 0 ≤ j → j < (l0.length : Int) → 0 ≤ gI l0 j ∧ gI l0 j < 256) ∧ (∀ j : Int, 0 ≤ j → j < (l1.length : Int) → 0 ≤ gI l1 j ∧ gI l1 j < 256) := by
  obtain ⟨s0, s1, rfl, rfl, _⟩ := h.right hR
  exact ⟨fun j a b => ⟨(ls_rg a b).1, (ls_rg a b).2.1⟩, fun j a b => ⟨(ls_rg a b).1, (ls_rg a b).2.1⟩⟩
theorem two_fin {le la wt : List Int} {f : Int → Int} {n j : Int} (h : le = la ++ limL f n) (hw : wt = la ++ limL f j) (e : j = n) : le = wt := by
  subst e
  rw [h, hw]
end Go.Proofs.YtplpgfcjjnaigaaDoor
