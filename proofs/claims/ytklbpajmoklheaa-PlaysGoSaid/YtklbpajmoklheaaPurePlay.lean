/-
  Plain: a play against a script. No program.
-/
import Derived.Test.YtklbpajmoklheaaFm
import Derived.Test.YtklbpajmoklheaaPureWin
set_option linter.unusedVariables false
set_option linter.unusedSimpArgs false
namespace Go.Proofs.Ytklbpajmoklheaa
open Go Go.RowKit
/-- The stand behind one; none: the player has no such move. -/
def nextS (g : GameL) (p : Int) (mv sc : List Int) (s : Int × Int) : Option (Int × Int) :=
  if gI g.ow s.1 = p then (if (if s.1 < (mv.length : Int) then gI mv s.1 else -1) ∈ gL g.mv s.1 then some (if s.1 < (mv.length : Int) then gI mv s.1 else -1, s.2) else none)
  else some (gI (gL g.mv s.1) (if Int.tmod (gI sc s.2) ((gL g.mv s.1).length : Int) < 0 then Int.tmod (gI sc s.2) ((gL g.mv s.1).length : Int) + ((gL g.mv s.1).length : Int) else Int.tmod (gI sc s.2) ((gL g.mv s.1).length : Int)), (s.2 + 1) % (sc.length : Int))
/-- The stands so far, the one that is next. -/
inductive StandT (g : GameL) (p : Int) (mv sc : List Int) (i : Int) : List (Int × Int) → (Int × Int) → Prop
  | nil : StandT g p mv sc i [] (i, 0)
  | push {l : List (Int × Int)} {s t : Int × Int} : StandT g p mv sc i l s → s ∉ l → nextS g p mv sc s = some t → StandT g p mv sc i (l ++ [s]) t
section
variable {g : GameL} {p i : Int} {mv sc : List Int} {l l2 : List (Int × Int)} {s s2 : Int × Int}
theorem StandT.nodup (h : StandT g p mv sc i l s) : l.Nodup := by
  induction h with
  | nil => exact List.nodup_nil
  | push h hn _ ih =>
    rw [List.nodup_append]
    refine ⟨ih, by simp, fun a ha b hb e => ?_⟩
    rw [List.mem_singleton] at hb
    subst hb
    subst e
    exact hn ha
/-- Of as many stands there is but one way. -/
theorem StandT.one (h : StandT g p mv sc i l s) : ∀ {l2 : List (Int × Int)} {s2 : Int × Int}, StandT g p mv sc i l2 s2 → l.length = l2.length → l = l2 ∧ s = s2 := by
  induction h with
  | nil =>
    intro l2 s2 h2 e
    cases h2 with
    | nil => exact ⟨rfl, rfl⟩
    | push _ _ _ => simp at e
  | push h hn ht ih =>
    intro l2 s2 h2 e
    cases h2 with
    | nil => simp at e
    | push h3 hn3 ht3 =>
      simp only [List.length_append, List.length_singleton, Nat.add_right_cancel_iff] at e
      obtain ⟨rfl, rfl⟩ := ih h3 e
      rw [ht] at ht3
      injection ht3 with e4
      exact ⟨rfl, e4⟩
theorem StandT.pre (h : StandT g p mv sc i l s) : ∀ n, n < l.length → ∃ t u, StandT g p mv sc i (l.take n) t ∧ t ∉ l.take n ∧ nextS g p mv sc t = some u ∧ l[n]? = some t := by
  induction h with
  | nil => intro n hn; simp at hn
  | push h hn ht ih =>
    rename_i l s t
    intro n hlt
    rw [List.length_append, List.length_singleton] at hlt
    by_cases e : n < l.length
    · obtain ⟨a, b, h1, h2, h3, h4⟩ := ih n e
      rw [List.take_append_of_le_length (by omega)]
      exact ⟨a, b, h1, h2, h3, by rw [List.getElem?_append_left e]; exact h4⟩
    · have e2 : n = l.length := by omega
      subst e2
      rw [List.take_left]
      exact ⟨s, t, h, hn, ht, by simp⟩
/-- Where a play stops: at a stand that was there, or where there is no move. -/
def StopT (g : GameL) (p : Int) (mv sc : List Int) (l : List (Int × Int)) (s : Int × Int) : Prop := s ∈ l ∨ nextS g p mv sc s = none
theorem stop_le (h : StandT g p mv sc i l s) (hs : StopT g p mv sc l s) (h2 : StandT g p mv sc i l2 s2) : l2.length ≤ l.length := by
  apply Classical.byContradiction
  intro hlt
  obtain ⟨t, u, h3, h4, h5, _⟩ := h2.pre l.length (by omega)
  obtain ⟨e1, e2⟩ := h.one h3 (by rw [List.length_take]; omega)
  subst e2
  rw [← e1] at h4
  rcases hs with hs | hs
  · exact h4 hs
  · rw [hs] at h5
    cases h5
/-- A play stops in one way. -/
theorem stop_one (h : StandT g p mv sc i l s) (hs : StopT g p mv sc l s) (h2 : StandT g p mv sc i l2 s2) (hs2 : StopT g p mv sc l2 s2) : l = l2 ∧ s = s2 := by
  have := stop_le h hs h2
  have := stop_le h2 hs2 h
  exact h.one h2 (by omega)
theorem next_rng (hG : RightG g) (hsc : 0 < sc.length) (a : 0 ≤ s.1) (b : s.1 < (g.ow.length : Int)) (c : 0 ≤ s.2) (d : s.2 < (sc.length : Int)) (h : nextS g p mv sc s = some s2) : (0 ≤ s2.1 ∧ s2.1 < (g.ow.length : Int)) ∧ 0 ≤ s2.2 ∧ s2.2 < (sc.length : Int) := by
  unfold nextS at h
  have hne := hG.ne s.1 a b
  by_cases e0 : gI g.ow s.1 = p
  · rw [if_pos e0] at h
    generalize (if s.1 < (mv.length : Int) then gI mv s.1 else -1) = m at h
    split at h
    · rename_i hm
      injection h with h
      subst h
      obtain ⟨k, hk, e⟩ := List.mem_iff_getElem.1 hm
      have h2 := hG.mv s.1 a b (k : Int) (by omega) (by omega)
      rw [show gI (gL g.mv s.1) (k : Int) = m by rw [gI, List.getD_eq_getElem?_getD, Int.toNat_natCast, List.getElem?_eq_getElem hk, Option.getD_some, e]] at h2
      exact ⟨h2, c, d⟩
    · cases h
  · rw [if_neg e0] at h
    injection h with h
    subst h
    have h3 : ((gL g.mv s.1).length : Int) ≠ 0 := by omega
    have h4 := Int.lt_tmod_of_pos (gI sc s.2) (show 0 < ((gL g.mv s.1).length : Int) by omega)
    have h5 := Int.tmod_lt_of_pos (gI sc s.2) (show 0 < ((gL g.mv s.1).length : Int) by omega)
    refine ⟨?_, Int.emod_nonneg _ (by omega), Int.emod_lt_of_pos _ (by omega)⟩
    dsimp only
    split
    · exact hG.mv s.1 a b _ (by omega) (by omega)
    · exact hG.mv s.1 a b _ (by omega) (by omega)
theorem StandT.rng (hG : RightG g) (hsc : 0 < sc.length) (a : 0 ≤ i) (b : i < (g.ow.length : Int)) (h : StandT g p mv sc i l s) : (∀ x ∈ l, (0 ≤ x.1 ∧ x.1 < (g.ow.length : Int)) ∧ 0 ≤ x.2 ∧ x.2 < (sc.length : Int)) ∧ (0 ≤ s.1 ∧ s.1 < (g.ow.length : Int)) ∧ 0 ≤ s.2 ∧ s.2 < (sc.length : Int) := by
  induction h with
  | nil => exact ⟨fun x hx => by simp at hx, ⟨a, b⟩, by simp, by simpa using hsc⟩
  | push h hn ht ih =>
    refine ⟨fun x hx => ?_, next_rng hG hsc ih.2.1.1 ih.2.1.2 ih.2.2.1 ih.2.2.2 ht⟩
    rcases List.mem_append.1 hx with hx | hx
    · exact ih.1 x hx
    · rw [List.mem_singleton] at hx
      subst hx
      exact ih.2
theorem StandT.le (hG : RightG g) (hsc : 0 < sc.length) (hs64 : sc.length ≤ 64) (a : 0 ≤ i) (b : i < (g.ow.length : Int)) (h : StandT g p mv sc i l s) : l.length ≤ 12800 := by
  apply Classical.byContradiction
  intro hlt
  have hr := (h.rng hG hsc a b).1
  have hn := hG.n1
  have hk : ∀ k, k ≤ 12800 → ∃ hk : k < l.length, (0 ≤ (l[k]).1 ∧ (l[k]).1 < (g.ow.length : Int)) ∧ 0 ≤ (l[k]).2 ∧ (l[k]).2 < (sc.length : Int) := fun k hk => ⟨by omega, hr _ (List.getElem_mem (by omega))⟩
  obtain ⟨x, y, hxy, hy, e⟩ := pigeon 12800 (fun k => (l.getD k (0, 0)).1 * 64 + (l.getD k (0, 0)).2) (fun k hk2 => by
    obtain ⟨h1, h2⟩ := hk k hk2
    rw [List.getD_eq_getElem?_getD, List.getElem?_eq_getElem h1, Option.getD_some]
    omega)
  obtain ⟨h1, h2⟩ := hk x (by omega)
  obtain ⟨h3, h4⟩ := hk y hy
  rw [List.getD_eq_getElem?_getD, List.getElem?_eq_getElem h1, Option.getD_some, List.getD_eq_getElem?_getD, List.getElem?_eq_getElem h3, Option.getD_some] at e
  have e2 : l[x] = l[y] := Prod.ext (by omega) (by omega)
  exact List.pairwise_iff_getElem.1 h.nodup x y h1 h3 hxy e2
end
end Go.Proofs.Ytklbpajmoklheaa
