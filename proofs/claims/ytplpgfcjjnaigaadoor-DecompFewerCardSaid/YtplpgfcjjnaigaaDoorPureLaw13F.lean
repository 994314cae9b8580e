/-
  Plain: a winner's strategy is enough for it (law DecompFewer). No program.
-/
import Derived.Test.YtplpgfcjjnaigaaDoorPureLaw13
set_option linter.unusedVariables false
set_option linter.unusedSimpArgs false
namespace Go.Proofs.YtplpgfcjjnaigaaDoor
open Go Go.RowKit
/-- Who wins a position. -/
def wonBy (s0 : List Int) (i : Int) : Int := if inP s0 i then 0 else 1
/-- One move is left where c says. -/
structure FewT (g : GameL) (hm : List (List Int)) (c : Int → Prop) (k : Int) : Prop where
  len : hm.length = g.mv.length
  yes : ∀ j : Int, 0 ≤ j → j < (g.mv.length : Int) → j < k → c j → ∃ x ∈ gL g.mv j, gL hm j = [x]
  no : ∀ j : Int, 0 ≤ j → j < (g.mv.length : Int) → ¬ (j < k ∧ c j) → gL hm j = gL g.mv j
section
variable {g : GameL} {hm : List (List Int)} {c : Int → Prop} {k x : Int}
theorem few_0 : FewT g g.mv c 0 := ⟨rfl, fun j a b d => by omega, fun j a b d => rfl⟩
theorem few_no (h : FewT g hm c k) (hk : ¬ c k) : FewT g hm c (k + 1) := ⟨h.len, fun j a b d e => by
  by_cases e1 : j = k
  · subst e1
    exact absurd e hk
  · exact h.yes j a b (by omega) e, fun j a b d => h.no j a b (fun e => d ⟨by omega, e.2⟩)⟩
theorem few_yes (h : FewT g hm c k) (a : 0 ≤ k) (b : k < (g.mv.length : Int)) (hk : c k) (hx : x ∈ gL g.mv k) : FewT g (hm.set k.toNat [x]) c (k + 1) := by
  have hl := h.len
  refine ⟨by rw [List.length_set]; exact hl, fun j a1 b1 d e => ?_, fun j a1 b1 d => ?_⟩
  · rw [gL_set a (by omega) a1]
    by_cases e1 : k = j
    · subst e1
      rw [if_pos rfl]
      exact ⟨x, hx, rfl⟩
    · rw [if_neg e1]
      exact h.yes j a1 b1 (by omega) e
  · rw [gL_set a (by omega) a1]
    by_cases e1 : k = j
    · subst e1
      exact absurd ⟨by omega, hk⟩ d
    · rw [if_neg e1]
      exact h.no j a1 b1 (fun e => d ⟨by omega, e.2⟩)
/-- The one move that is left is what f tells. -/
def FewF (g : GameL) (hm : List (List Int)) (c : Int → Prop) (f : Int → Int) (k : Int) : Prop := ∀ j : Int, 0 ≤ j → j < (g.mv.length : Int) → j < k → c j → gL hm j = [f j]
theorem fewF_0 {f : Int → Int} : FewF g g.mv c f 0 := fun j a b d => by omega
theorem fewF_no {f : Int → Int} (h : FewF g hm c f k) (hk : ¬ c k) : FewF g hm c f (k + 1) := fun j a b d e => by
  by_cases e1 : j = k
  · subst e1
    exact absurd e hk
  · exact h j a b (by omega) e
theorem fewF_yes {f : Int → Int} (hl : hm.length = g.mv.length) (h : FewF g hm c f k) (a : 0 ≤ k) (b : k < (g.mv.length : Int)) (hx : x = f k) : FewF g (hm.set k.toNat [x]) c f (k + 1) := fun j a1 b1 d e => by
  rw [gL_set a (by omega) a1]
  by_cases e1 : k = j
  · subst e1
    rw [if_pos rfl, hx]
  · rw [if_neg e1]
    exact h j a1 b1 (by omega) e
theorem right_few (hR : isR g = true) (h : FewT g hm c k) : isR ⟨g.ow, g.pr, hm⟩ = true := by
  have hG := isR_ok hR
  have hml := hG.ml
  have key : ∀ i : Int, 0 ≤ i → i < (g.ow.length : Int) → gL hm i = gL g.mv i ∨ ∃ x ∈ gL g.mv i, gL hm i = [x] := fun i a b => by
    by_cases e : i < k ∧ c i
    · exact .inr (h.yes i a (by omega) e.1 e.2)
    · exact .inl (h.no i a (by omega) e)
  refine isR_of ⟨hG.pl, h.len.trans hml, hG.n0, hG.n1, hG.ow, hG.pr, fun i a b => ?_, fun i a b j c1 d => ?_, fun i a b j c1 d => ?_⟩
  · show 0 < (gL hm i).length
    rcases key i a b with e | ⟨x, hx, e⟩
    · rw [e]
      exact hG.ne i a b
    · rw [e]
      exact Nat.one_pos
  · have d : j < ((gL hm i).length : Int) := d
    show 0 ≤ gI (gL hm i) j ∧ gI (gL hm i) j < _
    rcases key i a b with e | ⟨x, hx, e⟩
    · rw [e] at d ⊢
      exact hG.mv i a b j c1 d
    · rw [e] at d ⊢
      simp only [List.length_singleton] at d
      obtain rfl : j = 0 := by omega
      exact row_rng hR a b hx
  · have d : j < ((gL hm i).length : Int) := d
    show gI (gL hm i) (j - 1) < gI (gL hm i) j
    rcases key i a b with e | ⟨x, hx, e⟩
    · rw [e] at d ⊢
      exact hG.up i a b j c1 d
    · rw [e] at d
      simp only [List.length_singleton] at d
      omega
theorem few_sub (hR : isR g = true) (h : FewT g hm c k) : ∀ i, 0 ≤ i → i < (g.ow.length : Int) → ∀ m ∈ gL hm i, m ∈ gL g.mv i := fun i a b m hmm => by
  have hml := (isR_ok hR).ml
  by_cases e : i < k ∧ c i
  · obtain ⟨x, hx, e1⟩ := h.yes i a (by omega) e.1 e.2
    rw [e1, List.mem_singleton] at hmm
    rw [hmm]
    exact hx
  · rw [h.no i a (by omega) e] at hmm
    exact hmm
end
section
variable {g : GameL} {hm km : List (List Int)} {s0 s1 m0 m1 l0 l1 k0 k1 n0 n1 : List Int} {d d2 k : Int}
/-- The winner's own move at a position. -/
def stratF (s0 m0 m1 : List Int) (i : Int) : Int := if inP s0 i then gI m0 i else gI m1 i
theorem win_side (hR : isR g = true) (hS : SolT g s0 s1 m0 m1 d) {i : Int} (a : 0 ≤ i) (b : i < (g.ow.length : Int)) : (inP s0 i ∧ ¬ inP s1 i) ∨ (¬ inP s0 i ∧ inP s1 i) := by
  have hG := isR_ok hR
  have e1 := win_one hS.sp.w0 hS.sp.w1 (fun i a b m hm => row_rng hR a b hm) hG.ow
  by_cases h : inP s0 i
  · exact .inl ⟨h, fun k => e1 i h k⟩
  · exact .inr ⟨h, (hS.sp.all i a b).resolve_left h⟩
theorem strat_in (hR : isR g = true) (hS : SolT g s0 s1 m0 m1 d) {i : Int} (a : 0 ≤ i) (b : i < (g.ow.length : Int)) (ho : gI g.ow i = wonBy s0 i) : stratF s0 m0 m1 i ∈ gL g.mv i := by
  unfold wonBy at ho
  unfold stratF
  rcases win_side hR hS a b with ⟨h1, h2⟩ | ⟨h1, h2⟩
  · rw [if_pos h1] at ho ⊢
    exact (hS.sp.w0.own i h1 ho).1
  · rw [if_neg h1] at ho ⊢
    exact (hS.sp.w1.own i h2 ho).1
theorem fewer_h (hR : isR g = true) (hS : SolT g s0 s1 m0 m1 d) (h : FewT g hm (fun i => gI g.ow i = wonBy s0 i) k) (hf : FewF g hm (fun i => gI g.ow i = wonBy s0 i) (stratF s0 m0 m1) k) (hk : (g.ow.length : Int) ≤ k) (hb : SolveT ⟨g.ow, g.pr, hm⟩ k0 k1 n0 n1 d2) : k0 = lsD (fromW s0) 256 ∧ k1 = lsD (fromW s1) 256 := by
  have hR2 := right_few hR h
  have hml := (isR_ok hR).ml
  obtain ⟨t0, t1, rfl, rfl, hT⟩ := hb.right hR2
  have hsp := split_tr (g2 := ⟨g.ow, g.pr, hm⟩) hR hS.sp rfl (fun i a b => rfl) (few_sub hR h) (fun i hi e => by
    have hr := hS.sp.w0.sub i hi
    have h1 := hf i hr.1 (by omega) (by omega) (show gI g.ow i = wonBy s0 i by unfold wonBy; rw [if_pos hi]; exact e)
    show gI m0 i ∈ gL hm i
    rw [h1, stratF, if_pos hi]
    exact List.mem_singleton.2 rfl) (fun i hi e => by
    have hr := hS.sp.w1.sub i hi
    have hn : ¬ inP s0 i := (win_side hR hS hr.1 hr.2).elim (fun h => absurd hi h.2) (fun h => h.1)
    have h1 := hf i hr.1 (by omega) (by omega) (show gI g.ow i = wonBy s0 i by unfold wonBy; rw [if_neg hn]; exact e)
    show gI m1 i ∈ gL hm i
    rw [h1, stratF, if_neg hn]
    exact List.mem_singleton.2 rfl) (fun i a b => rfl) (fun i j a b c d h => h)
  obtain ⟨r0, r1⟩ := sol_same hR2 hT hS.ok0 hS.ok1 hsp
  rw [r0, r1]
  exact ⟨rfl, rfl⟩
theorem fewer_k (hR : isR g = true) (hS : SolT g s0 s1 m0 m1 d) (h : FewT g km (fun i => gI g.ow i ≠ wonBy s0 i) k) (hb : SolveT ⟨g.ow, g.pr, km⟩ k0 k1 n0 n1 d2) : k0 = lsD (fromW s0) 256 ∧ k1 = lsD (fromW s1) 256 := by
  have hR2 := right_few hR h
  have hml := (isR_ok hR).ml
  obtain ⟨t0, t1, rfl, rfl, hT⟩ := hb.right hR2
  have hsp := split_tr (g2 := ⟨g.ow, g.pr, km⟩) hR hS.sp rfl (fun i a b => rfl) (few_sub hR h) (fun i hi e => by
    have hr := hS.sp.w0.sub i hi
    show gI m0 i ∈ gL km i
    rw [h.no i hr.1 (by omega) (fun k => k.2 (show gI g.ow i = wonBy s0 i by unfold wonBy; rw [if_pos hi]; exact e))]
    exact (hS.sp.w0.own i hi e).1) (fun i hi e => by
    have hr := hS.sp.w1.sub i hi
    have hn : ¬ inP s0 i := (win_side hR hS hr.1 hr.2).elim (fun h => absurd hi h.2) (fun h => h.1)
    show gI m1 i ∈ gL km i
    rw [h.no i hr.1 (by omega) (fun k => k.2 (show gI g.ow i = wonBy s0 i by unfold wonBy; rw [if_neg hn]; exact e))]
    exact (hS.sp.w1.own i hi e).1) (fun i a b => rfl) (fun i j a b c d h => h)
  obtain ⟨r0, r1⟩ := sol_same hR2 hT hS.ok0 hS.ok1 hsp
  rw [r0, r1]
  exact ⟨rfl, rfl⟩
theorem won_0 {i : Int} (hs : OkW s0) (hl : l0 = lsD (fromW s0) 256) (h : hasW (ofW l0) i = true) : inP s0 i ∧ wonBy s0 i = 0 := by
  rw [hl, of_list hs] at h
  have := inP_has.1 h
  exact ⟨this, if_pos this⟩
theorem won_1 {i : Int} (hs : OkW s0) (hl : l0 = lsD (fromW s0) 256) (h : hasW (ofW l0) i = false) : ¬ inP s0 i ∧ wonBy s0 i = 1 := by
  rw [hl, of_list hs] at h
  have : ¬ inP s0 i := fun k => by rw [inP_has.2 k] at h; cases h
  exact ⟨this, if_neg this⟩
end
end Go.Proofs.YtplpgfcjjnaigaaDoor
