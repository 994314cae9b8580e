/-
  Plain: what the walks of the document's judge of a strategy (bailiffref13.Wins) lean on. No program.
-/
import Derived.Test.YtklbpajmoklheaaPureWonW
set_option linter.unusedVariables false
set_option linter.unusedSimpArgs false
namespace Go.Proofs.Ytklbpajmoklheaa
open Go Go.RowKit
/-! ### Count -/
theorem count_next {l : List Int} {v k c : Int} (h : c = ((l.take k.toNat).count v : Int)) (h0 : 0 ≤ k) (h1 : k < (l.length : Int)) (he : gI l k = v) : c + 1 = ((l.take (k + 1).toNat).count v : Int) := by
  rw [show (k + 1).toNat = k.toNat + 1 by omega, List.take_succ_eq_append_getElem (by omega), List.count_append, ← gI_eq h0 h1, he]
  simp
  omega
theorem count_skip {l : List Int} {v k c : Int} (h : c = ((l.take k.toNat).count v : Int)) (h0 : 0 ≤ k) (h1 : k < (l.length : Int)) (he : gI l k ≠ v) : c = ((l.take (k + 1).toNat).count v : Int) := by
  rw [show (k + 1).toNat = k.toNat + 1 by omega, List.take_succ_eq_append_getElem (by omega), List.count_append, ← gI_eq h0 h1]
  rw [List.count_singleton, if_neg (by simpa using he)]
  omega
theorem count_end {l : List Int} {v k c : Int} (h : c = ((l.take k.toNat).count v : Int)) (h1 : (l.length : Int) ≤ k) : c = (l.count v : Int) := by rwa [List.take_of_length_le (by omega)] at h
theorem count_b {l : List Int} {v k c : Int} (h : c = ((l.take k.toNat).count v : Int)) (h0 : 0 ≤ k) : 0 ≤ c ∧ c ≤ k := by
  have := List.count_le_length (a := v) (l := l.take k.toNat)
  rw [List.length_take] at this
  omega
theorem count_in {l : List Int} {v : Int} (h : v ∈ l) : ((l.count v : Int) == 0) = false := by
  have := List.count_pos_iff.2 h
  simp
  omega
/-! ### kept -/
def nxL (g : GameL) (p : Int) (lm : List Int) (i : Int) : List Int := if gI g.ow i = p then [gI lm i] else gL g.mv i
theorem nxL_own {g : GameL} {p i : Int} {lm : List Int} (h : gI g.ow i = p) : ([gI lm i] : List Int) = nxL g p lm i := by unfold nxL; rw [if_pos h]
theorem nxL_oth {g : GameL} {p i : Int} {lm : List Int} (h : gI g.ow i ≠ p) : gL g.mv i = nxL g p lm i := by unfold nxL; rw [if_neg h]
theorem mem_at {l : List Int} {k : Int} (h0 : 0 ≤ k) (h1 : k < (l.length : Int)) : gI l k ∈ l := by
  rw [gI_eq h0 h1]
  exact List.getElem_mem _
/-! ### lost -/
def EL (g : GameL) (ls : List (List Int)) (i : Int) (P : Int → Prop) (x y : Int) : Prop := P x ∧ y ∈ gL ls x ∧ gI g.pr x ≤ gI g.pr i ∧ gI g.pr y ≤ gI g.pr i
structure LoT (g : GameL) (ls : List (List Int)) (i : Int) (P : Int → Prop) (iv : List Bool) (op : List Int) : Prop where
  inn : ∀ y, inB iv y → Way (EL g ls i P) i y
  opn : ∀ x ∈ op, P x ∧ gI g.pr x ≤ gI g.pr i ∧ (x = i ∨ Way (EL g ls i P) i x)
section
variable {g : GameL} {ls : List (List Int)} {i x m k : Int} {P : Int → Prop} {iv : List Bool} {op : List Int}
theorem lo_0 {n : Nat} (h : P i) : LoT g ls i P (List.replicate n false) [i] :=
  ⟨fun y hy => absurd hy (rep_in n y), fun x hx => by
    rw [List.mem_singleton] at hx
    subst hx
    exact ⟨h, Int.le_refl _, .inl rfl⟩⟩
theorem lo_pop (h : LoT g ls i P iv op) (h0 : 0 ≤ k) (h1 : k + 1 = (op.length : Int)) : LoT g ls i P iv (op.take k.toNat) ∧ P (gI op k) ∧ gI g.pr (gI op k) ≤ gI g.pr i ∧ (gI op k = i ∨ Way (EL g ls i P) i (gI op k)) :=
  ⟨⟨h.inn, fun x hx => h.opn x (List.mem_of_mem_take hx)⟩, h.opn _ (mem_at h0 (by omega))⟩
theorem lo_push (h : LoT g ls i P iv op) (hx : P x ∧ gI g.pr x ≤ gI g.pr i ∧ (x = i ∨ Way (EL g ls i P) i x)) (hm : m ∈ gL ls x) (hP : P m) (hp : gI g.pr m ≤ gI g.pr i) (h0 : 0 ≤ m) (h1 : m < (iv.length : Int)) : LoT g ls i P (iv.set m.toNat true) (op ++ [m]) := by
  have hw : Way (EL g ls i P) i m := by
    rcases hx.2.2 with e | e
    · rw [e] at hx hm
      exact .one ⟨hx.1, hm, hx.2.1, hp⟩
    · exact e.trans (.one ⟨hx.1, hm, hx.2.1, hp⟩)
  refine ⟨fun y hy => ?_, fun y hy => ?_⟩
  · have h2 := hy.2
    rw [gB_setL h0 h1 hy.1] at h2
    by_cases e : m = y
    · rw [← e]
      exact hw
    · rw [if_neg e] at h2
      exact h.inn y ⟨hy.1, h2⟩
  · rcases List.mem_append.1 hy with hy | hy
    · exact h.opn y hy
    · rw [List.mem_singleton] at hy
      subst hy
      exact ⟨hP, hp, .inr hw⟩
theorem cT_set {l : List Bool} {m : Int} (h0 : 0 ≤ m) (h1 : m < (l.length : Int)) (h2 : m < 256) (hf : gB l m = false) : cT (l.set m.toNat true) 256 = cT l 256 + 1 := by
  have key : ∀ n : Nat, cT (l.set m.toNat true) n = cT l n + (if m < (n : Int) then 1 else 0) := by
    intro n
    induction n with
    | zero => rw [cT_0, cT_0, if_neg (by omega)]; rfl
    | succ n ih =>
      rw [cT_s, cT_s, ih, gB_setL h0 h1 (by omega)]
      by_cases e : m = (n : Int)
      · rw [if_pos e, if_neg (show ¬ m < (n : Int) by omega), if_pos (show m < ((n + 1 : Nat) : Int) by omega), ← e, hf]
        simp
      · rw [if_neg e]
        by_cases e2 : m < (n : Int)
        · rw [if_pos e2, if_pos (show m < ((n + 1 : Nat) : Int) by omega)]
          omega
        · rw [if_neg e2, if_neg (show ¬ m < ((n + 1 : Nat) : Int) by omega)]
          omega
  rw [key 256, if_pos (by omega)]
theorem cT_rep (n : Nat) : ∀ k : Nat, cT (List.replicate n false) k = 0
  | 0 => rfl
  | k + 1 => by rw [cT_s, cT_rep n k, gB_rep]; simp
theorem cT_len (l : List Bool) : cT l 256 ≤ (l.length : Int) := cT_le l l.length 256 fun j a _ h => inB_lt ⟨a, h⟩
end
/-! ### Wins -/
def NxK (g : GameL) (p : Int) (lm lr : List Int) (ls : List (List Int)) (k : Int) : Prop := ∀ j : Int, 0 ≤ j → j < k → gL ls (gI lr j) = nxL g p lm (gI lr j)
section
variable {g : GameL} {p i k : Int} {lm lr : List Int} {ls : List (List Int)}
theorem nx_next (h : NxK g p lm lr ls k) (h0 : 0 ≤ k) (hr : ∀ x ∈ lr, 0 ≤ x ∧ x < (ls.length : Int)) (h1 : k < (lr.length : Int)) : NxK g p lm lr (ls.set (gI lr k).toNat (nxL g p lm (gI lr k))) (k + 1) := fun j a b => by
  have h2 := hr _ (mem_at (l := lr) h0 h1)
  have h3 := hr _ (mem_at (l := lr) a (by omega))
  unfold gL
  simp only [List.getD_eq_getElem?_getD, List.getElem?_set]
  by_cases e : gI lr k = gI lr j
  · rw [e, if_pos rfl, if_pos (by omega)]
    rfl
  · rw [if_neg (by omega)]
    by_cases e2 : j = k
    · rw [e2] at e
      exact absurd rfl e
    · have := h j a (by omega)
      unfold gL at this
      simpa only [List.getD_eq_getElem?_getD] using this
theorem nx_all (h : NxK g p lm lr ls k) (hk : (lr.length : Int) ≤ k) : ∀ x ∈ lr, gL ls x = nxL g p lm x := fun x hx => by
  obtain ⟨j, hj, rfl⟩ := List.mem_iff_getElem.1 hx
  have := h (j : Int) (by omega) (by omega)
  rwa [gI_eq (by omega) (by omega)] at this
/-- A strategy that wins: its region in bounds, its moves there. -/
structure WinsT (g : GameL) (p : Int) (lm lr : List Int) : Prop where
  win : WinT g (fun i => 0 ≤ i ∧ i < (g.ow.length : Int)) p (gI lm) (fun i => i ∈ lr)
  ml : lm.length = g.ow.length
theorem wins_next (hR : isR g = true) (h : WinsT g p lm lr) : ∀ x ∈ lr, (0 ≤ x ∧ x < (g.ow.length : Int)) ∧ (∀ m ∈ nxL g p lm x, m ∈ lr) ∧ (gI g.ow x = p → gI lm x ∈ gL g.mv x) := fun x hx => by
  have hr := h.win.sub x hx
  refine ⟨hr, fun m hm => ?_, fun e => (h.win.own x hx e).1⟩
  unfold nxL at hm
  by_cases e : gI g.ow x = p
  · rw [if_pos e, List.mem_singleton] at hm
    rw [hm]
    exact (h.win.own x hx e).2
  · rw [if_neg e] at hm
    exact h.win.oth x hx e m hm (row_rng hR hr.1 hr.2 hm)
theorem wins_cyc (hR : isR g = true) (h : WinsT g p lm lr) (hn : ∀ x ∈ lr, gL ls x = nxL g p lm x) {i : Int} (hi : i ∈ lr) (hp : gI g.pr i % 2 ≠ p) : ¬ Way (EL g ls i (fun x => x ∈ lr)) i i := fun hw =>
  h.win.cyc i hi hp (hw.mono fun x y hxy => by
    obtain ⟨h1, h2, h3, h4⟩ := hxy
    have h5 := wins_next hR h x h1
    rw [hn x h1] at h2
    have h6 := h5.2.1 y h2
    refine ⟨⟨h1, ?_, (wins_next hR h y h6).1, fun e => ?_⟩, h3, h4⟩
    · unfold nxL at h2
      by_cases e : gI g.ow x = p
      · rw [if_pos e, List.mem_singleton] at h2
        rw [h2]
        exact h5.2.2 e
      · rw [if_neg e] at h2
        exact h2
    · unfold nxL at h2
      rw [if_pos e, List.mem_singleton] at h2
      exact h2)
end
theorem nx_len {g : GameL} {p x : Int} {lm : List Int} (hG : RightG g) (h : 0 ≤ x ∧ x < (g.ow.length : Int)) : (nxL g p lm x).length ≤ 200 := by
  have := row_len hG h.1 h.2
  have := hG.n1
  unfold nxL
  split
  · simp
  · omega
end Go.Proofs.Ytklbpajmoklheaa
