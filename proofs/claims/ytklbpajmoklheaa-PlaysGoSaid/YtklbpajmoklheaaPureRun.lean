/-
  Plain: what a play against a script tells (plays.Run). No program.
-/
import Derived.Test.YtklbpajmoklheaaPurePlay
set_option linter.unusedVariables false
set_option linter.unusedSimpArgs false
namespace Go.Proofs.Ytklbpajmoklheaa
open Go Go.RowKit
structure PlayR where
  ah : List Int
  ro : List Int
  win : Int
  err : Int
def okP (g : GameL) (i p : Int) : Prop := isR g = true ∧ 0 ≤ i ∧ i < (g.ow.length : Int) ∧ (p = 0 ∨ p = 1)
def scN (sc : List Int) : List Int := if sc.length = 0 then [0] else sc
def topP (g : GameL) (r : List Int) : Int := r.foldl (fun t x => max t (gI g.pr x)) 0
inductive RunT (g : GameL) (i p : Int) (mv sc : List Int) : PlayR → Prop
  | arg : ¬ okP g i p → RunT g i p mv sc ⟨[], [], 0, 1⟩
  | many : okP g i p → 64 < sc.length → RunT g i p mv sc ⟨[], [], 0, 10⟩
  | move {l : List (Int × Int)} {s : Int × Int} : okP g i p → sc.length ≤ 64 → StandT g p mv (scN sc) i l s → s ∉ l → nextS g p mv (scN sc) s = none → RunT g i p mv sc ⟨[], [], 0, 16⟩
  | play {l : List (Int × Int)} {s : Int × Int} {k : Nat} : okP g i p → sc.length ≤ 64 → StandT g p mv (scN sc) i l s → l[k]? = some s → RunT g i p mv sc ⟨(l.take k).map Prod.fst, (l.drop k).map Prod.fst, topP g ((l.drop k).map Prod.fst) % 2, 0⟩
section
variable {g : GameL} {p i : Int} {mv sc : List Int} {l : List (Int × Int)} {s : Int × Int}
theorem scN_pos (sc : List Int) : 0 < (scN sc).length := by
  unfold scN
  split
  · simp
  · omega
theorem scN_le (h : sc.length ≤ 64) : (scN sc).length ≤ 64 := by
  unfold scN
  split
  · simp
  · omega
theorem run_one {a b : PlayR} (ha : RunT g i p mv sc a) (hb : RunT g i p mv sc b) : a = b := by
  cases ha with
  | arg h => cases hb <;> first | rfl | contradiction
  | many h h2 =>
    cases hb with
    | arg h3 => contradiction
    | many _ _ => rfl
    | move _ _ _ _ _ => omega
    | play _ _ _ _ => omega
  | move h h2 hs hn hx =>
    cases hb with
    | arg h3 => contradiction
    | many _ _ => omega
    | move _ _ _ _ _ => rfl
    | play _ _ hs2 hk =>
      obtain ⟨rfl, rfl⟩ := stop_one hs (.inr hx) hs2 (.inl (List.mem_of_getElem? hk))
      exact absurd (List.mem_of_getElem? hk) hn
  | play h h2 hs hk =>
    cases hb with
    | arg h3 => contradiction
    | many _ _ => omega
    | move _ _ hs2 hn hx =>
      obtain ⟨rfl, rfl⟩ := stop_one hs (.inl (List.mem_of_getElem? hk)) hs2 (.inr hx)
      exact absurd (List.mem_of_getElem? hk) hn
    | play _ _ hs2 hk2 =>
      rename_i l s k l2 s2 k2 _ _
      obtain ⟨rfl, rfl⟩ := stop_one hs (.inl (List.mem_of_getElem? hk)) hs2 (.inl (List.mem_of_getElem? hk2))
      obtain ⟨h3, h4⟩ := List.getElem?_eq_some_iff.1 hk
      obtain ⟨h5, h6⟩ := List.getElem?_eq_some_iff.1 hk2
      have : k = k2 := by
        apply Classical.byContradiction
        intro hne
        rcases Nat.lt_or_gt_of_ne hne with h | h
        · exact List.pairwise_iff_getElem.1 hs.nodup k k2 h3 h5 h (h4.trans h6.symm)
        · exact List.pairwise_iff_getElem.1 hs.nodup k2 k h5 h3 h (h6.trans h4.symm)
      subst this
      rfl
/-! ### The stands one behind another -/
def traj (g : GameL) (p : Int) (mv sc : List Int) (i : Int) : Nat → Option (Int × Int)
  | 0 => some (i, 0)
  | k + 1 => (traj g p mv sc i k).bind (nextS g p mv sc)
theorem stand_traj (h : StandT g p mv sc i l s) : (∀ k, k < l.length → traj g p mv sc i k = l[k]?) ∧ traj g p mv sc i l.length = some s := by
  induction h with
  | nil => exact ⟨fun k hk => by simp at hk, rfl⟩
  | push h hn ht ih =>
    rename_i l s t
    refine ⟨fun k hk => ?_, ?_⟩
    · rw [List.length_append, List.length_singleton] at hk
      by_cases e : k < l.length
      · rw [List.getElem?_append_left e]
        exact ih.1 k e
      · obtain rfl : k = l.length := by omega
        rw [ih.2]
        simp
    · rw [List.length_append, List.length_singleton]
      show (traj g p mv sc i l.length).bind _ = _
      rw [ih.2]
      exact ht
theorem traj_add {a b : Nat} (h : traj g p mv sc i a = traj g p mv sc i b) : ∀ m, traj g p mv sc i (a + m) = traj g p mv sc i (b + m)
  | 0 => h
  | m + 1 => by
    show (traj g p mv sc i (a + m)).bind _ = (traj g p mv sc i (b + m)).bind _
    rw [traj_add h m]
def stepP (r : PlayR) (j : Nat) : Int := if j < r.ah.length then r.ah.getD j 0 else r.ro.getD ((j - r.ah.length) % r.ro.length) 0
/-- A play that goes round, by its stands. -/
structure RoundT (g : GameL) (i p : Int) (mv sc : List Int) (r : PlayR) : Prop where
  ne : 0 < r.ro.length
  st : ∀ j, ∃ y, traj g p mv sc i j = some (stepP r j, y)
  win : r.win = topP g r.ro % 2
theorem getD_map {l : List (Int × Int)} {j : Nat} {a : Int × Int} (h : l[j]? = some a) : (l.map Prod.fst).getD j 0 = a.1 := by
  rw [List.getD_eq_getElem?_getD, List.getElem?_map, h]
  rfl
theorem round_of {k : Nat} (h : StandT g p mv sc i l s) (hk : l[k]? = some s) : RoundT g i p mv sc ⟨(l.take k).map Prod.fst, (l.drop k).map Prod.fst, topP g ((l.drop k).map Prod.fst) % 2, 0⟩ := by
  obtain ⟨hkl, hk2⟩ := List.getElem?_eq_some_iff.1 hk
  have ht := stand_traj h
  have hper : ∀ m, traj g p mv sc i (l.length + m) = traj g p mv sc i (k + m) := traj_add (by rw [ht.2, ht.1 k hkl, hk])
  have hla : ((l.take k).map Prod.fst).length = k := by rw [List.length_map, List.length_take]; omega
  have hlr : ((l.drop k).map Prod.fst).length = l.length - k := by rw [List.length_map, List.length_drop]
  refine ⟨by show 0 < ((l.drop k).map Prod.fst).length; omega, fun j => ?_, rfl⟩
  induction j using Nat.strongRecOn with
  | ind j ih =>
    by_cases hj : j < l.length
    · rw [ht.1 j hj, List.getElem?_eq_getElem hj]
      refine ⟨(l[j]).2, ?_⟩
      unfold stepP
      dsimp only
      rw [hla, hlr]
      split
      · rename_i h2
        rw [getD_map (a := l[j]) (by rw [List.getElem?_take_of_lt h2, List.getElem?_eq_getElem hj])]
      · rename_i h2
        rw [Nat.mod_eq_of_lt (by omega), getD_map (a := l[j]) (by rw [List.getElem?_drop, show k + (j - k) = j by omega, List.getElem?_eq_getElem hj])]
    · obtain ⟨m, rfl⟩ : ∃ m, j = l.length + m := ⟨j - l.length, by omega⟩
      obtain ⟨y, hy⟩ := ih (k + m) (by omega)
      refine ⟨y, ?_⟩
      rw [hper, hy]
      unfold stepP
      dsimp only
      rw [hla, hlr, if_neg (by omega), if_neg (by omega), show l.length + m - k = (k + m - k) + (l.length - k) by omega, Nat.add_mod_right]
theorem run_round {r : PlayR} (h : RunT g i p mv sc r) (he : r.err = 0) : RoundT g i p mv (scN sc) r := by
  cases h with
  | arg _ => simp at he
  | many _ _ => simp at he
  | move _ _ _ _ _ => simp at he
  | play _ _ hs hk => exact round_of hs hk
theorem step_ro {r : PlayR} {j : Nat} (h : r.ah.length ≤ j) (hn : 0 < r.ro.length) : stepP r j ∈ r.ro := by
  unfold stepP
  rw [if_neg (by omega), List.getD_eq_getElem?_getD, List.getElem?_eq_getElem (Nat.mod_lt _ hn)]
  exact List.getElem_mem _
theorem ro_step {r : PlayR} {x : Int} (h : x ∈ r.ro) (n : Nat) : ∃ j, n ≤ j ∧ stepP r j = x := by
  obtain ⟨t, ht, rfl⟩ := List.mem_iff_getElem.1 h
  have h1 : n ≤ n * r.ro.length := Nat.le_mul_of_pos_right _ (by omega)
  refine ⟨r.ah.length + t + n * r.ro.length, by omega, ?_⟩
  unfold stepP
  rw [if_neg (by omega), show r.ah.length + t + n * r.ro.length - r.ah.length = t + n * r.ro.length by omega, Nat.add_mul_mod_self_right, Nat.mod_eq_of_lt ht, List.getD_eq_getElem?_getD, List.getElem?_eq_getElem ht]
  rfl
theorem top_le' (g : GameL) : ∀ (r : List Int) (t : Int), t ≤ r.foldl (fun t x => max t (gI g.pr x)) t ∧ (∀ x ∈ r, gI g.pr x ≤ r.foldl (fun t x => max t (gI g.pr x)) t) ∧ (r.foldl (fun t x => max t (gI g.pr x)) t = t ∨ ∃ x ∈ r, gI g.pr x = r.foldl (fun t x => max t (gI g.pr x)) t)
  | [], t => ⟨Int.le_refl _, fun x hx => by simp at hx, .inl rfl⟩
  | y :: r, t => by
    obtain ⟨h1, h2, h3⟩ := top_le' g r (max t (gI g.pr y))
    simp only [List.foldl_cons]
    refine ⟨by omega, fun x hx => ?_, ?_⟩
    · rcases List.mem_cons.1 hx with rfl | hx
      · omega
      · exact h2 x hx
    · rcases h3 with h3 | ⟨x, hx, h3⟩
      · by_cases e : t ≤ gI g.pr y
        · exact .inr ⟨y, List.mem_cons_self, by rw [h3]; omega⟩
        · exact .inl (by rw [h3]; omega)
      · exact .inr ⟨x, List.mem_cons_of_mem _ hx, h3⟩
theorem top_ge (g : GameL) (r : List Int) : 0 ≤ topP g r := (top_le' g r 0).1
theorem top_mem {g : GameL} {r : List Int} {x : Int} (h : x ∈ r) : gI g.pr x ≤ topP g r := (top_le' g r 0).2.1 x h
theorem top_at (g : GameL) (r : List Int) : topP g r = 0 ∨ ∃ x ∈ r, gI g.pr x = topP g r := (top_le' g r 0).2.2
theorem top_sub {g : GameL} {r q : List Int} (h : ∀ x ∈ r, x ∈ q) : topP g r ≤ topP g q := by
  rcases top_at g r with h1 | ⟨x, hx, h1⟩
  · rw [h1]
    exact top_ge g q
  · rw [← h1]
    exact top_mem (h x hx)
/-! ### A script that is written twice over -/
theorem gI_twice {y : Int} (h0 : 0 ≤ y) (h1 : y < ((sc ++ sc).length : Int)) (hn : 0 < sc.length) : gI (sc ++ sc) y = gI sc (y % (sc.length : Int)) := by
  rw [List.length_append] at h1
  simp only [gI, List.getD_eq_getElem?_getD]
  by_cases e : y < (sc.length : Int)
  · rw [Int.emod_eq_of_lt h0 e, List.getElem?_append_left (by omega)]
  · rw [show y % (sc.length : Int) = y - sc.length by rw [← Int.sub_emod_right, Int.emod_eq_of_lt (by omega) (by omega)], List.getElem?_append_right (by omega)]
    congr 2
    omega
theorem mod_twice {y n : Int} (hn : 0 < n) : ((y + 1) % (n + n)) % n = (y % n + 1) % n := by
  rw [Int.emod_emod_of_dvd _ ⟨2, by omega⟩, Int.emod_add_emod]
theorem next_twice {x y : Int} (hn : 0 < sc.length) (h0 : 0 ≤ y) (h1 : y < ((sc ++ sc).length : Int)) :
    nextS g p mv sc (x, y % (sc.length : Int)) = (nextS g p mv (sc ++ sc) (x, y)).map (fun s => (s.1, s.2 % (sc.length : Int))) := by
  unfold nextS
  dsimp only
  by_cases e0 : gI g.ow x = p
  · rw [if_pos e0, if_pos e0]
    generalize (if x < (mv.length : Int) then gI mv x else -1) = m
    split <;> rfl
  · rw [if_neg e0, if_neg e0, gI_twice h0 h1 hn]
    simp only [Option.map_some]
    rw [List.length_append, Int.natCast_add, mod_twice (by omega)]
theorem next_place {s t : Int × Int} (hn : 0 < sc.length) (h0 : 0 ≤ s.2 ∧ s.2 < (sc.length : Int)) (h : nextS g p mv sc s = some t) : 0 ≤ t.2 ∧ t.2 < (sc.length : Int) := by
  unfold nextS at h
  by_cases e0 : gI g.ow s.1 = p
  · rw [if_pos e0] at h
    generalize (if s.1 < (mv.length : Int) then gI mv s.1 else -1) = m at h
    split at h
    · injection h with h
      subst h
      exact h0
    · cases h
  · rw [if_neg e0] at h
    injection h with h
    subst h
    exact ⟨Int.emod_nonneg _ (by omega), Int.emod_lt_of_pos _ (by omega)⟩
theorem traj_twice (hn : 0 < sc.length) : ∀ j, traj g p mv sc i j = (traj g p mv (sc ++ sc) i j).map (fun s => (s.1, s.2 % (sc.length : Int))) ∧ ∀ s, traj g p mv (sc ++ sc) i j = some s → 0 ≤ s.2 ∧ s.2 < ((sc ++ sc).length : Int)
  | 0 => ⟨by simp [traj], fun s h => by
      injection h with h
      subst h
      rw [List.length_append]
      exact ⟨by simp, by show (0 : Int) < _; omega⟩⟩
  | j + 1 => by
    obtain ⟨h1, h2⟩ := traj_twice hn j
    show (traj g p mv sc i j).bind _ = ((traj g p mv (sc ++ sc) i j).bind _).map _ ∧ ∀ s, (traj g p mv (sc ++ sc) i j).bind _ = some s → _
    rw [h1]
    cases h3 : traj g p mv (sc ++ sc) i j with
    | none => exact ⟨rfl, fun s h => by cases h⟩
    | some s =>
      have h4 := h2 s h3
      exact ⟨next_twice hn h4.1 h4.2, fun t ht => next_place (by rw [List.length_append]; omega) h4 ht⟩
theorem err_traj {r : PlayR} (hok : okP g i p) (hl : sc.length ≤ 64) (h : RunT g i p mv sc r) : (r.err = 0 ∧ RoundT g i p mv (scN sc) r) ∨ (r.err = 16 ∧ ∃ j, traj g p mv (scN sc) i j = none) := by
  cases h with
  | arg h => contradiction
  | many _ _ => omega
  | move h2 h3 hs h4 hx =>
    rename_i l s
    refine .inr ⟨rfl, l.length + 1, ?_⟩
    show (traj g p mv (scN sc) i _).bind _ = none
    rw [(stand_traj hs).2]
    exact hx
  | play _ _ hs hk => exact .inl ⟨rfl, round_of hs hk⟩
/-- What is the same of a play against a script and against one that is written twice over. -/
theorem run_twice {r q : PlayR} (hl : sc.length ≤ 32) (hr : RunT g i p mv sc r) (hq : RunT g i p mv (sc ++ sc) q) : r.err = q.err ∧ (r.err = 0 → 0 < r.ro.length ∧ 0 < q.ro.length ∧ (∀ j, stepP r j = stepP q j) ∧ r.win = q.win) := by
  by_cases hn : sc.length = 0
  · obtain rfl : sc = [] := List.length_eq_zero_iff.1 hn
    obtain rfl := run_one hr hq
    exact ⟨rfl, fun he => ⟨(run_round hr he).ne, (run_round hr he).ne, fun _ => rfl, rfl⟩⟩
  · by_cases hok : okP g i p
    · have hs1 : scN sc = sc := if_neg hn
      have hs2 : scN (sc ++ sc) = sc ++ sc := if_neg (by rw [List.length_append]; omega)
      have ht := fun j => (traj_twice (g := g) (p := p) (mv := mv) (i := i) (sc := sc) (by omega) j).1
      have h1 := err_traj hok (by omega) hr
      have h2 := err_traj hok (by rw [List.length_append]; omega) hq
      rw [hs1] at h1
      rw [hs2] at h2
      rcases h1 with ⟨e1, h1⟩ | ⟨e1, j1, h1⟩
      · rcases h2 with ⟨e2, h2⟩ | ⟨e2, j2, h2⟩
        · have hst : ∀ j, stepP r j = stepP q j := fun j => by
            obtain ⟨y1, a1⟩ := h1.st j
            obtain ⟨y2, a2⟩ := h2.st j
            have := ht j
            rw [a1, a2] at this
            simp only [Option.map_some, Option.some.injEq, Prod.mk.injEq] at this
            exact this.1
          refine ⟨by rw [e1, e2], fun _ => ⟨h1.ne, h2.ne, hst, ?_⟩⟩
          have s1 : ∀ x ∈ r.ro, x ∈ q.ro := fun x hx => by
            obtain ⟨j, hj, rfl⟩ := ro_step hx q.ah.length
            rw [hst]
            exact step_ro hj h2.ne
          have s2 : ∀ x ∈ q.ro, x ∈ r.ro := fun x hx => by
            obtain ⟨j, hj, rfl⟩ := ro_step hx r.ah.length
            rw [← hst]
            exact step_ro hj h1.ne
          have t1 := top_sub (g := g) s1
          have t2 := top_sub (g := g) s2
          rw [h1.win, h2.win, show topP g r.ro = topP g q.ro by omega]
        · obtain ⟨y1, a1⟩ := h1.st j2
          have := ht j2
          rw [a1, h2] at this
          cases this
      · rcases h2 with ⟨e2, h2⟩ | ⟨e2, j2, h2⟩
        · obtain ⟨y1, a1⟩ := h2.st j1
          have := ht j1
          rw [a1, h1] at this
          cases this
        · exact ⟨by rw [e1, e2], fun e => by rw [e1] at e; cases e⟩
    · cases hr with
      | arg _ =>
        cases hq with
        | arg _ => exact ⟨rfl, fun e => by simp at e⟩
        | many h _ => contradiction
        | move h _ _ _ _ => contradiction
        | play h _ _ _ => contradiction
      | many h _ => contradiction
      | move h _ _ _ _ => contradiction
      | play h _ _ _ => contradiction
end
end Go.Proofs.Ytklbpajmoklheaa
