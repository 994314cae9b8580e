/-
  Plain: what the laws of plays lean on. No program.
-/
import Derived.Test.YtklbpajmoklheaaPurePlayW
import Derived.Test.YtklbpajmoklheaaFs
set_option linter.unusedVariables false
set_option linter.unusedSimpArgs false
namespace Go.Proofs.Ytklbpajmoklheaa
open Go Go.RowKit
theorem pneF {a b : Int} (h : a = b) : (a != b) = false := by simp [h]
theorem peqF {a b : Int} (h : a ≠ b) : (a == b) = false := by simp [h]
theorem peqT {a b : Int} (h : a = b) : (a == b) = true := by simp [h]
theorem OwnR.rdIpr {w : World} {base : Nat} {os : List (Option Nat)} {A : Option Addr} {c : Nat} {e : TypeId} {l la m : List Int} (h : OwnR w (Sx base os) A c e l) (he : l = la ++ m) (hl : la.length * 8 ≤ 140737488351232) : RdI w 0 w.heap.size A la := by
  subst he
  refine ⟨hl, fun i q hi hq => ?_⟩
  obtain rfl : q = 0 := by omega
  obtain ⟨ad, hA, hs, _, hc⟩ := h.get (i : Int) (by omega) (by rw [List.length_append]; omega) (sz := 1) rfl
  refine ⟨ad, hA, Nat.zero_le _, hs, ?_⟩
  have := hc 0 (.int .i64 (gA (la ++ m) (i : Int))) rfl
  refine this.trans ?_
  simp only [gA, Int.toNat_natCast, List.getD_eq_getElem?_getD, List.getElem?_append_left hi]
  rfl
section
variable {g : GameL} {p i : Int} {mv sc : List Int} {l : List (Int × Int)} {s t : Int × Int} {r : PlayR}
theorem StandT.le2 (hG : RightG g) (hsc : 0 < sc.length) (hs64 : sc.length ≤ 64) (a : 0 ≤ i) (b : i < (g.ow.length : Int)) (h : StandT g p mv sc i l s) : l.length ≤ 64 * g.ow.length := by
  apply Classical.byContradiction
  intro hlt
  have hr := (h.rng hG hsc a b).1
  have hk : ∀ k, k ≤ 64 * g.ow.length → ∃ hk : k < l.length, (0 ≤ (l[k]).1 ∧ (l[k]).1 < (g.ow.length : Int)) ∧ 0 ≤ (l[k]).2 ∧ (l[k]).2 < (sc.length : Int) := fun k hk => ⟨by omega, hr _ (List.getElem_mem (by omega))⟩
  obtain ⟨x, y, hxy, hy, e⟩ := pigeon (64 * g.ow.length) (fun k => (l.getD k (0, 0)).1 * 64 + (l.getD k (0, 0)).2) (fun k hk2 => by
    obtain ⟨h1, h2⟩ := hk k hk2
    rw [List.getD_eq_getElem?_getD, List.getElem?_eq_getElem h1, Option.getD_some]
    omega)
  obtain ⟨h1, h2⟩ := hk x (by omega)
  obtain ⟨h3, h4⟩ := hk y hy
  rw [List.getD_eq_getElem?_getD, List.getElem?_eq_getElem h1, Option.getD_some, List.getD_eq_getElem?_getD, List.getElem?_eq_getElem h3, Option.getD_some] at e
  have e2 : l[x] = l[y] := Prod.ext (by omega) (by omega)
  exact List.pairwise_iff_getElem.1 h.nodup x y h1 h3 hxy e2
theorem run_len (h : RunT g i p mv sc r) : r.ah.length + r.ro.length ≤ 12800 ∧ r.ah.length + r.ro.length ≤ 64 * g.ow.length := by
  cases h with
  | arg _ => simp
  | many _ _ => simp
  | move _ _ _ _ _ => simp
  | play hok h64 hs hk =>
    have h1 := hs.le (isR_ok hok.1) (scN_pos sc) (scN_le h64) hok.2.1 hok.2.2.1
    have h2 := hs.le2 (isR_ok hok.1) (scN_pos sc) (scN_le h64) hok.2.1 hok.2.2.1
    simp only [List.length_map, List.length_take, List.length_drop]
    omega
theorem run_none (h : RunT g i p mv sc r) (he : r.err ≠ 0) : r.ah.length = 0 ∧ r.ro.length = 0 := by
  cases h with
  | arg _ => exact ⟨rfl, rfl⟩
  | many _ _ => exact ⟨rfl, rfl⟩
  | move _ _ _ _ _ => exact ⟨rfl, rfl⟩
  | play hok h64 hs hk => simp at he
theorem run_ok (h : RunT g i p mv sc r) (he : r.err = 0) : okP g i p := by
  cases h with
  | arg _ => simp at he
  | many _ _ => simp at he
  | move _ _ _ _ _ => simp at he
  | play hok h64 hs hk => exact hok
theorem next_in (hG : RightG g) (a : 0 ≤ s.1) (b : s.1 < (g.ow.length : Int)) (h : nextS g p mv sc s = some t) : t.1 ∈ gL g.mv s.1 ∧ (gI g.ow s.1 = p → s.1 < (mv.length : Int) ∧ gI mv s.1 = t.1) := by
  unfold nextS at h
  have hne := hG.ne s.1 a b
  by_cases e0 : gI g.ow s.1 = p
  · rw [if_pos e0] at h
    generalize hm : (if s.1 < (mv.length : Int) then gI mv s.1 else -1) = m at h
    split at h
    · rename_i hin
      injection h with h
      subst h
      refine ⟨hin, fun _ => ?_⟩
      obtain ⟨k, hk, e⟩ := List.mem_iff_getElem.1 hin
      have h2 := (hG.mv s.1 a b (k : Int) (by omega) (by omega)).1
      rw [show gI (gL g.mv s.1) (k : Int) = m by rw [gI, List.getD_eq_getElem?_getD, Int.toNat_natCast, List.getElem?_eq_getElem hk, Option.getD_some, e]] at h2
      split at hm
      · rename_i h3
        exact ⟨h3, hm⟩
      · omega
    · cases h
  · rw [if_neg e0] at h
    injection h with h
    subst h
    refine ⟨?_, fun h => absurd h e0⟩
    have h4 := Int.lt_tmod_of_pos (gI sc s.2) (show 0 < ((gL g.mv s.1).length : Int) by omega)
    have h5 := Int.tmod_lt_of_pos (gI sc s.2) (show 0 < ((gL g.mv s.1).length : Int) by omega)
    dsimp only
    split
    · exact in_at (by omega) (by omega) rfl
    · exact in_at (by omega) (by omega) rfl
theorem traj_rng (hG : RightG g) (hsc : 0 < sc.length) (a : 0 ≤ i) (b : i < (g.ow.length : Int)) : ∀ (j : Nat) (s : Int × Int), traj g p mv sc i j = some s → (0 ≤ s.1 ∧ s.1 < (g.ow.length : Int)) ∧ 0 ≤ s.2 ∧ s.2 < (sc.length : Int)
  | 0, s, h => by
    injection h with h
    subst h
    exact ⟨⟨a, b⟩, by simp, by simpa using hsc⟩
  | j + 1, s, h => by
    have h : (traj g p mv sc i j).bind (nextS g p mv sc) = some s := h
    cases h2 : traj g p mv sc i j with
    | none => rw [h2] at h; cases h
    | some u =>
      rw [h2] at h
      have h3 := traj_rng hG hsc a b j u h2
      exact next_rng hG hsc h3.1.1 h3.1.2 h3.2.1 h3.2.2 h
/-- What is told, and the round's first position again. -/
def goL (r : PlayR) : List Int := r.ah ++ r.ro ++ [gI r.ro 0]
theorem goL_len : ((goL r).length : Int) = r.ah.length + r.ro.length + 1 := by simp only [goL, List.length_append, List.length_cons, List.length_nil]; omega
theorem goL_at (hn : 0 < r.ro.length) {j : Int} (h0 : 0 ≤ j) (h1 : j < ((goL r).length : Int)) : gI (goL r) j = stepP r j.toNat := by
  rw [goL_len] at h1
  simp only [gI, goL, stepP, List.getD_eq_getElem?_getD]
  by_cases e : j.toNat < r.ah.length
  · rw [if_pos e, List.getElem?_append_left (by rw [List.length_append]; omega), List.getElem?_append_left e]
  · rw [if_neg e]
    by_cases e2 : j.toNat < r.ah.length + r.ro.length
    · rw [List.getElem?_append_left (by rw [List.length_append]; omega), List.getElem?_append_right (by omega), Nat.mod_eq_of_lt (by omega)]
    · rw [List.getElem?_append_right (by rw [List.length_append]; omega), List.length_append, show j.toNat - (r.ah.length + r.ro.length) = 0 by omega, show j.toNat - r.ah.length = r.ro.length by omega, Nat.mod_self]
      rfl
structure GoT (g : GameL) (i p : Int) (mv : List Int) (r : PlayR) : Prop where
  R : RightG g
  ne : 0 < r.ro.length
  first : gI (r.ah ++ r.ro) 0 = i
  rng : ∀ j : Int, 0 ≤ j → j < ((goL r).length : Int) → 0 ≤ gI (goL r) j ∧ gI (goL r) j < (g.ow.length : Int)
  step : ∀ j : Int, 0 ≤ j → j + 1 < ((goL r).length : Int) → gI (goL r) (j + 1) ∈ gL g.mv (gI (goL r) j) ∧ (gI g.ow (gI (goL r) j) = p → gI (goL r) j < (mv.length : Int) ∧ gI mv (gI (goL r) j) = gI (goL r) (j + 1))
  win : r.win = topP g r.ro % 2
theorem go_of (h : RunT g i p mv sc r) (he : r.err = 0) : GoT g i p mv r := by
  have hok := run_ok h he
  have hG := isR_ok hok.1
  have hr := run_round h he
  have hrng := traj_rng (p := p) (mv := mv) hG (scN_pos sc) hok.2.1 hok.2.2.1
  refine ⟨hG, hr.ne, ?_, fun j a b => ?_, fun j a b => ?_, hr.win⟩
  · obtain ⟨y, hy⟩ := hr.st 0
    injection hy with hy
    have h1 : i = stepP r 0 := congrArg Prod.fst hy
    have h2 := goL_at hr.ne (j := 0) (Int.le_refl _) (by rw [goL_len]; omega)
    rw [h1]
    rw [show (0 : Int).toNat = 0 from rfl] at h2
    rw [← h2]
    have := hr.ne
    have e3 : (r.ah ++ r.ro ++ [gI r.ro 0])[(0 : Int).toNat]? = (r.ah ++ r.ro)[(0 : Int).toNat]? := List.getElem?_append_left (by rw [List.length_append]; show 0 < _; omega)
    unfold goL
    simp only [gI, List.getD_eq_getElem?_getD] at e3 ⊢
    rw [e3]
  · rw [goL_at hr.ne a b]
    obtain ⟨y, hy⟩ := hr.st j.toNat
    exact (hrng _ _ hy).1
  · rw [goL_at hr.ne (by omega) b, goL_at hr.ne a (by omega), show (j + 1).toNat = j.toNat + 1 by omega]
    obtain ⟨y, hy⟩ := hr.st j.toNat
    obtain ⟨z, hz⟩ := hr.st (j.toNat + 1)
    have hz : (traj g p mv (scN sc) i j.toNat).bind (nextS g p mv (scN sc)) = _ := hz
    rw [hy] at hz
    have h2 := (hrng _ _ hy).1
    exact next_in hG h2.1 h2.2 hz
/-- The highest priority of what was looked at of the round. -/
def TopT (g : GameL) (r : PlayR) (t j : Int) : Prop := t = topP g (((goL r).take j.toNat).drop r.ah.length)
theorem topT_0 : TopT g r 0 0 := by unfold TopT; simp [topP]
theorem topT_out {t j : Int} (h : TopT g r t j) (h0 : 0 ≤ j) (h1 : j < (r.ah.length : Int)) : TopT g r t (j + 1) := by
  unfold TopT at h ⊢
  rw [h, List.drop_of_length_le (by rw [List.length_take]; omega), List.drop_of_length_le (by rw [List.length_take]; omega)]
theorem topT_in {t j : Int} (h : TopT g r t j) (h0 : 0 ≤ j) (h1 : (r.ah.length : Int) ≤ j) (h2 : j < ((goL r).length : Int)) : TopT g r (max t (gI g.pr (gI (goL r) j))) (j + 1) := by
  unfold TopT at h ⊢
  rw [show (j + 1).toNat = j.toNat + 1 by omega, List.take_succ_eq_append_getElem (by omega), List.drop_append_of_le_length (by rw [List.length_take]; omega)]
  simp only [topP, List.foldl_append, List.foldl_cons, List.foldl_nil]
  rw [show (goL r)[j.toNat]'(by omega) = gI (goL r) j by rw [gI, List.getD_eq_getElem?_getD, List.getElem?_eq_getElem (by omega), Option.getD_some], h]
  rfl
theorem topT_end {t j : Int} (h : TopT g r t j) (h0 : 0 ≤ j) (h1 : j + 1 = ((goL r).length : Int)) : t = topP g r.ro := by
  unfold TopT at h
  rw [goL_len] at h1
  rw [h, show j.toNat = r.ah.length + r.ro.length by omega]
  unfold goL
  rw [List.take_append_of_le_length (by rw [List.length_append]; omega), List.take_of_length_le (by rw [List.length_append]; omega), List.drop_left]
theorem stepI_at {r : PlayR} {j : Int} (h0 : 0 ≤ j) : (if j < (r.ah.length : Int) then gI r.ah j else gI r.ro ((j - r.ah.length) % r.ro.length)) = stepP r j.toNat := by
  unfold stepP
  by_cases e : j < (r.ah.length : Int)
  · rw [if_pos e, if_pos (by omega)]
    rfl
  · rw [if_neg e, if_neg (by omega)]
    simp only [gI]
    congr 1
    rw [show (j - (r.ah.length : Int)) = ((j.toNat - r.ah.length : Nat) : Int) by omega]
    rw [← Int.natCast_emod, Int.toNat_natCast]
def stepI (a b : List Int) (j : Int) : Int := if j < (a.length : Int) then gI a j else gI b ((j - a.length) % b.length)
theorem stepI_eq {r q : PlayR} (h : ∀ j, stepP r j = stepP q j) {j : Int} (h0 : 0 ≤ j) : stepI r.ah r.ro j = stepI q.ah q.ro j := by
  unfold stepI
  rw [stepI_at h0, stepI_at h0, h]
theorem in_next {b : Bool} {row : List Int} {x k : Int} (h : b = decide (x ∈ row.take k.toNat)) (h0 : 0 ≤ k) (h1 : k < (row.length : Int)) : (b || (gI row k == x)) = decide (x ∈ row.take (k + 1).toNat) := by
  rw [show (k + 1).toNat = k.toNat + 1 by omega, List.take_succ_eq_append_getElem (by omega), h, Bool.eq_iff_iff]
  simp only [gI, List.getD_eq_getElem?_getD, List.getElem?_eq_getElem (show k.toNat < row.length by omega), Option.getD_some, Bool.or_eq_true, decide_eq_true_eq, beq_iff_eq, List.mem_append, List.mem_singleton]
  exact ⟨fun h => h.imp id Eq.symm, fun h => h.imp id Eq.symm⟩
theorem in_end {b : Bool} {row : List Int} {x k : Int} (h : b = decide (x ∈ row.take k.toNat)) (h1 : (row.length : Int) ≤ k) (hin : x ∈ row) : b = true := by
  rw [h, List.take_of_length_le (by omega)]
  exact decide_eq_true hin
/-! ### The small case -/
def showG17 : GameL := ⟨[0, 1], [0, 1], [[0, 1], [0, 1]]⟩
theorem shown_run {r : PlayR} (h : RunT showG17 1 0 [0] [1, 1, 0] r) : r = ⟨[1, 1, 1], [0], 0, 0⟩ := by
  refine run_one h ?_
  have h1 : StandT showG17 0 [0] (scN [1, 1, 0]) 1 [(1, 0), (1, 1), (1, 2), (0, 0)] (0, 0) :=
    .push (l := [(1, 0), (1, 1), (1, 2)]) (.push (l := [(1, 0), (1, 1)]) (.push (l := [(1, 0)]) (.push (l := []) .nil (by decide) (by decide)) (by decide) (by decide)) (by decide) (by decide)) (by decide) (by decide)
  exact RunT.play (k := 3) ⟨by decide, by decide, by decide, .inl rfl⟩ (by decide) h1 rfl
end
end Go.Proofs.Ytklbpajmoklheaa
