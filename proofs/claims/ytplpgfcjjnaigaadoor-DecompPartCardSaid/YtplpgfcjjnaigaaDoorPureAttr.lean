/-
  Plain: from where a player can force its way into a set; the work by which it is found. No program. Plain: who leads to whom within a set, and how many moves count. No program. Plain: what the walk of Attract asks beside. No program. Plain: what the laws of attracting ask. No program. Plain: rounds by which what leads into a set is found, where one player alone moves. No program. Plain: one player alone owns all positions. No program.
-/
import Derived.Test.YtplpgfcjjnaigaaDoorPureRight
import Derived.Test.YtplpgfcjjnaigaaDoorPureWays
set_option linter.unusedVariables false
set_option linter.unusedSimpArgs false
namespace Go.Proofs.YtplpgfcjjnaigaaDoor
open Go Go.RowKit
/-- C has what of T lies within, and all from which the player p comes into C by moves within I. -/
structure AttC (g : GameL) (I : List Bool) (p : Int) (T C : List Bool) : Prop where
  base : ∀ j : Int, 0 ≤ j → j < 256 → gB T j = true → gB I j = true → gB C j = true
  own : ∀ i : Int, 0 ≤ i → i < (g.ow.length : Int) → gB I i = true → gI g.ow i = p → ∀ x ∈ gL g.mv i, gB I x = true → gB C x = true → gB C i = true
  oth : ∀ i : Int, 0 ≤ i → i < (g.ow.length : Int) → gB I i = true → gI g.ow i ≠ p → (∃ x ∈ gL g.mv i, gB I x = true) → (∀ x ∈ gL g.mv i, gB I x = true → gB C x = true) → gB C i = true
/-- S is the least such set. -/
structure AttrT (g : GameL) (I : List Bool) (p : Int) (T S : List Bool) : Prop where
  cl : AttC g I p T S
  sub : ∀ j : Int, 0 ≤ j → j < 256 → gB S j = true → gB I j = true
  least : ∀ C, AttC g I p T C → ∀ j : Int, 0 ≤ j → j < 256 → gB S j = true → gB C j = true
/-- The moves are such as A1 says: an order in which the positions came in. -/
def Rank (g : GameL) (I : List Bool) (p : Int) (T : List Bool) (mvs ord : List Int) : Prop :=
  ∀ a j b, ord = a ++ j :: b → gB T j = true ∨ (gI g.ow j = p ∧ gI mvs j ∈ gL g.mv j ∧ gI mvs j ∈ a) ∨ (gI g.ow j ≠ p ∧ ∀ x ∈ gL g.mv j, gB I x = true → x ∈ a)
structure MovA (g : GameL) (I : List Bool) (p : Int) (T S : List Bool) (mvs : List Int) : Prop where
  ml : mvs.length = g.ow.length
  mv : ∀ i : Int, 0 ≤ i → i < (g.ow.length : Int) → (gB S i = true ∧ gB T i = false ∧ gI g.ow i = p) ∨ gI mvs i = -1
  rank : ∃ ord : List Int, (∀ j : Int, 0 ≤ j → j < 256 → (gB S j = true ↔ j ∈ ord)) ∧ (∀ j ∈ ord, 0 ≤ j ∧ j < (g.ow.length : Int) ∧ gB I j = true) ∧ Rank g I p T mvs ord
def cM (l : List Int) (f : Int → Bool) : Int := ((l.filter f).length : Int)
theorem cM_ge (l : List Int) (f : Int → Bool) : 0 ≤ cM l f := Int.natCast_nonneg _
theorem cM_congr {l : List Int} {f f' : Int → Bool} (h : ∀ x ∈ l, f x = f' x) : cM l f = cM l f' := by
  unfold cM
  rw [List.filter_congr h]
theorem cM_pos {l : List Int} {f : Int → Bool} (h : 0 < cM l f) : ∃ x ∈ l, f x = true := by
  unfold cM at h
  obtain ⟨x, hx⟩ := List.exists_mem_of_length_pos (l := l.filter f) (by omega)
  exact ⟨x, (List.mem_filter.1 hx).1, (List.mem_filter.1 hx).2⟩
theorem cM_zero {l : List Int} {f : Int → Bool} (h : cM l f ≤ 0) : ∀ x ∈ l, f x = false := by
  intro x hx
  by_cases hf : f x = true
  · have hm : x ∈ l.filter f := List.mem_filter.2 ⟨hx, hf⟩
    have := List.length_pos_of_mem hm
    unfold cM at h
    omega
  · simpa using hf
theorem cM_one : ∀ {l : List Int} {f : Int → Bool} {m : Int}, l.Nodup → m ∈ l → f m = true → cM l (fun x => f x && !decide (x = m)) = cM l f - 1
  | [], _, _, _, h, _ => by cases h
  | y :: l, f, m, hn, hm, hf => by
    rw [List.nodup_cons] at hn
    unfold cM
    by_cases e : y = m
    · subst e
      have h1 : l.filter (fun x => f x && !decide (x = y)) = l.filter f := List.filter_congr fun x hx => by
        have : ¬ x = y := fun h => hn.1 (h ▸ hx)
        simp [this]
      simp only [List.filter_cons, hf, h1]
      simp
    · have hm' : m ∈ l := (List.mem_cons.1 hm).resolve_left fun h => e h.symm
      have ih := cM_one hn.2 hm' hf
      unfold cM at ih
      simp only [List.filter_cons, e]
      cases hy : f y
      · simpa using ih
      · simp only [decide_false, Bool.not_false, Bool.and_self, if_true, List.length_cons]
        omega
/-- The work: op is open, pr is done, of cur it is not told to rest yet. -/
structure AW (g : GameL) (I : List Bool) (p : Int) (T S : List Bool) (op lf mvs pr cur rest : List Int) : Prop where
  nd : (pr ++ op).Nodup
  mem : ∀ j : Int, 0 ≤ j → j < 256 → (gB S j = true ↔ j ∈ pr ++ op)
  rng : ∀ j ∈ pr ++ op, 0 ≤ j ∧ j < (g.ow.length : Int) ∧ gB I j = true
  ll : lf.length = g.ow.length
  ml : mvs.length = g.ow.length
  left : ∀ i : Int, 0 ≤ i → i < (g.ow.length : Int) → gB I i = true → gI lf i = cM (gL g.mv i) (fun x => gB I x && !decide (x ∈ (if i ∈ rest then pr else pr ++ cur)))
  own : ∀ i : Int, 0 ≤ i → i < (g.ow.length : Int) → gB I i = true → gI g.ow i = p → gB S i = false → ∀ x ∈ gL g.mv i, x ∉ (if i ∈ rest then pr else pr ++ cur)
  oth : ∀ i : Int, 0 ≤ i → i < (g.ow.length : Int) → gB I i = true → gI g.ow i ≠ p → gB S i = false → 0 < gI lf i ∨ ∀ x ∈ gL g.mv i, gB I x = false
  base : ∀ j : Int, 0 ≤ j → j < 256 → gB T j = true → gB I j = true → gB S j = true
  snd : ∀ C, AttC g I p T C → ∀ j ∈ pr ++ op, gB C j = true
  rank : Rank g I p T mvs (pr ++ op)
  mv : ∀ i : Int, 0 ≤ i → i < (g.ow.length : Int) → (gB S i = true ∧ gB T i = false ∧ gI g.ow i = p) ∨ gI mvs i = -1
theorem aw_start {g : GameL} (hG : RightG g) {I T S : List Bool} {p : Int} {lf mvs : List Int} (hI : ∀ j : Int, 0 ≤ j → j < 256 → gB I j = true → j < (g.ow.length : Int))
    (hS : ∀ j : Int, 0 ≤ j → j < 256 → gB S j = (gB T j && gB I j)) (hll : lf.length = g.ow.length) (hml : mvs.length = g.ow.length)
    (hlf : ∀ i : Int, 0 ≤ i → i < (g.ow.length : Int) → gB I i = true → gI lf i = cM (gL g.mv i) (gB I)) (hmv : ∀ i : Int, 0 ≤ i → i < (g.ow.length : Int) → gI mvs i = -1) :
    AW g I p T S (lsD S 256) lf mvs [] [] [] := by
  have hn := hG.n1
  have hb : ∀ j ∈ lsD S 256, 0 ≤ j ∧ j < 256 ∧ gB T j = true ∧ gB I j = true := fun j hj => by
    have h := mem_ls.1 hj
    have h2 := hS j h.1 (by omega)
    rw [h.2.2] at h2
    have h3 : gB T j = true ∧ gB I j = true := by simpa using h2.symm
    exact ⟨h.1, by omega, h3.1, h3.2⟩
  refine ⟨?_, fun j a b => ?_, fun j hj => ?_, hll, hml, fun i a b c => ?_, fun i a b c d e x hx => by simp, fun i a b c d e => ?_, fun j a b c d => ?_, fun C hC j hj => ?_, fun a j b e => ?_, fun i a b => .inr (hmv i a b)⟩
  · rw [List.nil_append]
    exact (ls_lt S 256).imp (fun h => by omega)
  · rw [List.nil_append, mem_ls]
    exact ⟨fun h => ⟨a, by omega, h⟩, fun h => h.2.2⟩
  · have h := hb j (by simpa using hj)
    exact ⟨h.1, hI j h.1 h.2.1 h.2.2.2, h.2.2.2⟩
  · rw [hlf i a b c]
    exact cM_congr fun x _ => by simp
  · rw [hlf i a b c]
    by_cases h : 0 < cM (gL g.mv i) (gB I)
    · exact .inl h
    · exact .inr (cM_zero (by omega))
  · rw [hS j a b, c, d]
    rfl
  · have h := hb j (by simpa using hj)
    exact hC.base j h.1 h.2.1 h.2.2.1 h.2.2.2
  · exact .inl (hb j (by rw [List.nil_append] at e; rw [e]; simp)).2.2.1
/-- Who leads to m within. -/
def LeadsT (g : GameL) (I : List Bool) (m : Int) (r : List Int) : Prop := r.Nodup ∧ ∀ i : Int, i ∈ r ↔ (0 ≤ i ∧ i < (g.ow.length : Int) ∧ gB I i = true ∧ gB I m = true ∧ m ∈ gL g.mv i)
theorem aw_open {g : GameL} {I T S : List Bool} {p m : Int} {op lf mvs pr r : List Int} (h : AW g I p T S (m :: op) lf mvs pr [] []) (hr : LeadsT g I m r) : AW g I p T S (m :: op) lf mvs pr [m] r := by
  have hm := h.rng m (by simp)
  refine ⟨h.nd, h.mem, h.rng, h.ll, h.ml, fun i a b c => ?_, fun i a b c d e x hx => ?_, h.oth, h.base, h.snd, h.rank, h.mv⟩
  · rw [h.left i a b c]
    refine cM_congr fun x hx => ?_
    by_cases hi : i ∈ r
    · simp [hi]
    · have hxm : ¬ (x = m ∧ gB I x = true) := fun hh => hi ((hr.2 i).2 ⟨a, b, c, hm.2.2, hh.1 ▸ hx⟩)
      simp only [List.not_mem_nil, hi, if_false, List.append_nil]
      cases hIx : gB I x
      · rfl
      · have : ¬ x = m := fun hh => hxm ⟨hh, hIx⟩
        simp [this]
  · have h2 := h.own i a b c d e x hx
    simp only [List.not_mem_nil, if_false, List.append_nil] at h2
    by_cases hi : i ∈ r
    · rw [if_pos hi]
      exact h2
    · rw [if_neg hi, List.mem_append, not_or]
      refine ⟨h2, fun hh => ?_⟩
      rw [List.mem_singleton] at hh
      exact hi ((hr.2 i).2 ⟨a, b, c, hm.2.2, hh ▸ hx⟩)
theorem gI_setE {l : List Int} {i j v : Int} (h0 : 0 ≤ i) (h1 : i < l.length) (h2 : 0 ≤ j) : gI (l.set i.toNat v) j = if i = j then v else gI l j := gI_set' h0 h1 h2
theorem aw_left {g : GameL} (hnd : ∀ i : Int, 0 ≤ i → i < (g.ow.length : Int) → (gL g.mv i).Nodup) {I T S : List Bool} {p m i : Int} {op lf mvs pr r : List Int} (h : AW g I p T S (m :: op) lf mvs pr [m] (i :: r)) (hr : LeadsT g I m (i :: r) ∨ True) (hi : 0 ≤ i ∧ i < (g.ow.length : Int) ∧ gB I i = true ∧ gB I m = true ∧ m ∈ gL g.mv i) (hnr : i ∉ r) :
    ∀ j : Int, 0 ≤ j → j < (g.ow.length : Int) → gB I j = true → gI (lf.set i.toNat (gI lf i - 1)) j = cM (gL g.mv j) (fun x => gB I x && !decide (x ∈ (if j ∈ r then pr else pr ++ [m]))) := by
  intro j a b c
  have hll := h.ll
  rw [gI_setE hi.1 (by omega) a]
  by_cases e : i = j
  · subst e
    rw [if_pos rfl, h.left i a b c]
    have hmp : m ∉ pr := fun hm => by
      have := h.nd
      rw [List.nodup_append] at this
      exact this.2.2 m hm m (by simp) rfl
    have := cM_one (f := fun x => gB I x && !decide (x ∈ pr)) (hnd i a b) hi.2.2.2.2 (by simp [hi.2.2.2.1, hmp])
    rw [show cM (gL g.mv i) (fun x => gB I x && !decide (x ∈ (if i ∈ i :: r then pr else pr ++ [m]))) = cM (gL g.mv i) (fun x => gB I x && !decide (x ∈ pr)) from cM_congr fun x _ => by simp]
    rw [← this]
    refine cM_congr fun x _ => ?_
    simp only [hnr, if_false, List.mem_append, List.mem_singleton]
    cases gB I x <;> by_cases h1 : x ∈ pr <;> by_cases h2 : x = m <;> simp [h1, h2]
  · rw [if_neg e, h.left j a b c]
    refine cM_congr fun x _ => ?_
    have : j ∈ i :: r ↔ j ∈ r := by
      rw [List.mem_cons]
      exact ⟨fun hh => hh.resolve_left fun h2 => e h2.symm, .inr⟩
    by_cases hj : j ∈ r
    · rw [if_pos (this.2 hj), if_pos hj]
    · rw [if_neg (fun hh => hj (this.1 hh)), if_neg hj]
theorem in_rest {i j : Int} {r pr : List Int} {m : Int} (e : i ≠ j) {x : Int} : x ∈ (if j ∈ i :: r then pr else pr ++ [m]) ↔ x ∈ (if j ∈ r then pr else pr ++ [m]) := by
  have : j ∈ i :: r ↔ j ∈ r := by
    rw [List.mem_cons]
    exact ⟨fun hh => hh.resolve_left fun h2 => e h2.symm, .inr⟩
  by_cases hj : j ∈ r
  · rw [if_pos (this.2 hj), if_pos hj]
  · rw [if_neg (fun hh => hj (this.1 hh)), if_neg hj]
theorem aw_skip {g : GameL} (hnd : ∀ i : Int, 0 ≤ i → i < (g.ow.length : Int) → (gL g.mv i).Nodup) {I T S : List Bool} {p m i : Int} {op lf mvs pr r : List Int} (h : AW g I p T S (m :: op) lf mvs pr [m] (i :: r)) (hi : 0 ≤ i ∧ i < (g.ow.length : Int) ∧ gB I i = true ∧ gB I m = true ∧ m ∈ gL g.mv i) (hnr : i ∉ r)
    (hs : gB S i = true ∨ (gI g.ow i ≠ p ∧ 0 < gI lf i - 1)) : AW g I p T S (m :: op) (lf.set i.toNat (gI lf i - 1)) mvs pr [m] r := by
  have hll := h.ll
  refine ⟨h.nd, h.mem, h.rng, by rw [List.length_set]; exact hll, h.ml, aw_left hnd h (.inr trivial) hi hnr, fun j a b c d e x hx => ?_, fun j a b c d e => ?_, h.base, h.snd, h.rank, h.mv⟩
  · by_cases hj : i = j
    · subst hj
      rcases hs with hs | hs
      · rw [hs] at e
        cases e
      · exact absurd d hs.1
    · have := h.own j a b c d e x hx
      rwa [in_rest hj] at this
  · rw [gI_setE hi.1 (by omega) a]
    by_cases hj : i = j
    · subst hj
      rw [if_pos rfl]
      rcases hs with hs | hs
      · rw [hs] at e
        cases e
      · exact .inl hs.2
    · rw [if_neg hj]
      exact h.oth j a b c d e
theorem concat_split {l a b : List Int} {i j : Int} (h : l ++ [i] = a ++ j :: b) : (b = [] ∧ j = i ∧ a = l) ∨ ∃ b', l = a ++ j :: b' := by
  rcases List.eq_nil_or_concat b with hb | ⟨b', y, hb⟩
  · subst hb
    have := List.append_inj' h rfl
    refine .inl ⟨rfl, ?_, this.1.symm⟩
    have h2 := this.2
    simp at h2
    exact h2.symm
  · rw [List.concat_eq_append] at hb
    subst hb
    have h2 : l ++ [i] = (a ++ j :: b') ++ [y] := by rw [h]; simp
    exact .inr ⟨b', (List.append_inj' h2 rfl).1⟩
theorem aw_add {g : GameL} (hG : RightG g) (hnd : ∀ i : Int, 0 ≤ i → i < (g.ow.length : Int) → (gL g.mv i).Nodup) {I T S : List Bool} (hSl : S.length = 256) {p m i : Int} {op lf mvs mvs' pr r : List Int} (h : AW g I p T S (m :: op) lf mvs pr [m] (i :: r)) (hi : 0 ≤ i ∧ i < (g.ow.length : Int) ∧ gB I i = true ∧ gB I m = true ∧ m ∈ gL g.mv i) (hnr : i ∉ r)
    (hs : gB S i = false) (hs2 : gI g.ow i = p ∨ gI lf i - 1 ≤ 0) (hmv : (gI g.ow i = p ∧ mvs' = mvs.set i.toNat m) ∨ (gI g.ow i ≠ p ∧ mvs' = mvs)) : AW g I p T (putD S i true) (m :: op ++ [i]) (lf.set i.toNat (gI lf i - 1)) mvs' pr [m] r := by
  have hll := h.ll
  have hml := h.ml
  have hn := hG.n1
  have hni : i ∉ pr ++ m :: op := fun hm => by
    rw [← h.mem i hi.1 (by omega)] at hm
    rw [hm] at hs
    cases hs
  have hml' : mvs'.length = g.ow.length := by
    rcases hmv with ⟨_, rfl⟩ | ⟨_, rfl⟩
    · rw [List.length_set]; exact hml
    · exact hml
  have hne : ∀ j : Int, 0 ≤ j → j ≠ i → gI mvs' j = gI mvs j := fun j a hj => by
    rcases hmv with ⟨_, rfl⟩ | ⟨_, rfl⟩
    · rw [gI_setE hi.1 (by omega) a, if_neg (fun e => hj e.symm)]
    · rfl
  have hleft := aw_left hnd h (.inr trivial) hi hnr
  have hall : gI g.ow i ≠ p → ∀ x ∈ gL g.mv i, gB I x = true → x ∈ pr ++ [m] := fun hp x hx hIx => by
    have h1 := hleft i hi.1 hi.2.1 hi.2.2.1
    rw [gI_setE hi.1 (by omega) hi.1, if_pos rfl] at h1
    have h2 := cM_zero (l := gL g.mv i) (f := fun x => gB I x && !decide (x ∈ (if i ∈ r then pr else pr ++ [m]))) (by rw [← h1]; exact hs2.resolve_left hp) x hx
    rw [hIx] at h2
    simp only [hnr, if_false, Bool.true_and] at h2
    by_cases hx2 : x ∈ pr ++ [m]
    · exact hx2
    · rw [decide_eq_false hx2] at h2
      cases h2
  have el : pr ++ (m :: op ++ [i]) = (pr ++ m :: op) ++ [i] := by simp
  have hput : ∀ j : Int, 0 ≤ j → j < 256 → gB (putD S i true) j = if i = j then true else gB S j := fun j a b => gB_put hSl a b
  refine ⟨?_, fun j a b => ?_, fun j hj => ?_, by rw [List.length_set]; exact hll, hml', hleft, fun j a b c d e x hx => ?_, fun j a b c d e => ?_, fun j a b c d => ?_, fun C hC j hj => ?_, ?_, fun j a b => ?_⟩
  · rw [el, List.nodup_append]
    refine ⟨h.nd, List.nodup_cons.2 ⟨List.not_mem_nil, List.nodup_nil⟩, fun a ha b hb => ?_⟩
    rw [List.mem_singleton] at hb
    subst hb
    exact fun e => hni (e ▸ ha)
  · rw [hput j a b, el, List.mem_append, List.mem_singleton]
    by_cases e : i = j
    · subst e
      simp
    · rw [if_neg e, h.mem j a b]
      exact ⟨.inl, fun hh => hh.resolve_right fun h2 => e h2.symm⟩
  · rw [el, List.mem_append, List.mem_singleton] at hj
    rcases hj with hj | rfl
    · exact h.rng j hj
    · exact ⟨hi.1, hi.2.1, hi.2.2.1⟩
  · rw [hput j a (by omega)] at e
    by_cases hj : i = j
    · rw [if_pos hj] at e
      cases e
    · rw [if_neg hj] at e
      have := h.own j a b c d e x hx
      rwa [in_rest hj] at this
  · rw [hput j a (by omega)] at e
    by_cases hj : i = j
    · rw [if_pos hj] at e
      cases e
    · rw [if_neg hj] at e
      rw [gI_setE hi.1 (by omega) a, if_neg hj]
      exact h.oth j a b c d e
  · rw [hput j a b]
    split
    · rfl
    · exact h.base j a b c d
  · rw [el, List.mem_append, List.mem_singleton] at hj
    rcases hj with hj | rfl
    · exact h.snd C hC j hj
    · by_cases hp : gI g.ow j = p
      · exact hC.own j hi.1 hi.2.1 hi.2.2.1 hp m hi.2.2.2.2 hi.2.2.2.1 (h.snd C hC m (by simp))
      · refine hC.oth j hi.1 hi.2.1 hi.2.2.1 hp ⟨m, hi.2.2.2.2, hi.2.2.2.1⟩ fun x hx hIx => h.snd C hC x ?_
        have := hall hp x hx hIx
        rw [List.mem_append, List.mem_singleton] at this
        rw [List.mem_append, List.mem_cons]
        exact this.imp id .inl
  · intro a j b e
    rw [el] at e
    rcases concat_split e with ⟨rfl, rfl, rfl⟩ | ⟨b', e2⟩
    · by_cases hp : gI g.ow j = p
      · refine .inr (.inl ⟨hp, ?_⟩)
        have hm : gI mvs' j = m := by
          rcases hmv with ⟨_, rfl⟩ | ⟨h2, _⟩
          · rw [gI_setE hi.1 (by omega) hi.1, if_pos rfl]
          · exact absurd hp h2
        rw [hm]
        exact ⟨hi.2.2.2.2, by simp⟩
      · refine .inr (.inr ⟨hp, fun x hx hIx => ?_⟩)
        have := hall hp x hx hIx
        rw [List.mem_append, List.mem_singleton] at this
        rw [List.mem_append, List.mem_cons]
        exact this.imp id .inl
    · have hj : j ∈ pr ++ m :: op := by rw [e2]; simp
      have hji : j ≠ i := fun e3 => hni (e3 ▸ hj)
      have hj0 := (h.rng j hj).1
      rw [hne j hj0 hji]
      exact h.rank a j b' e2
  · rw [hput j a (by omega)]
    by_cases hj : i = j
    · subst hj
      rw [if_pos rfl]
      by_cases hp : gI g.ow i = p
      · by_cases ht : gB T i = true
        · have := h.base i a (by omega) ht hi.2.2.1
          rw [this] at hs
          cases hs
        · exact .inl ⟨rfl, by simpa using ht, hp⟩
      · refine .inr ?_
        rcases hmv with ⟨h2, _⟩ | ⟨_, rfl⟩
        · exact absurd h2 hp
        · rcases h.mv i a b with h3 | h3
          · rw [h3.1] at hs
            cases hs
          · exact h3
    · rw [if_neg hj, hne j a (fun e => hj e.symm)]
      exact h.mv j a b
theorem aw_close {g : GameL} {I T S : List Bool} {p m : Int} {op lf mvs pr : List Int} (h : AW g I p T S (m :: op) lf mvs pr [m] []) : AW g I p T S op lf mvs (pr ++ [m]) [] [] := by
  have e : pr ++ [m] ++ op = pr ++ m :: op := by simp
  refine ⟨by rw [e]; exact h.nd, fun j a b => by rw [e]; exact h.mem j a b, fun j hj => h.rng j (by rw [← e]; exact hj), h.ll, h.ml, fun i a b c => ?_, fun i a b c d f x hx => ?_, h.oth, h.base, fun C hC j hj => h.snd C hC j (by rw [← e]; exact hj), by rw [e]; exact h.rank, h.mv⟩
  · rw [h.left i a b c]
    exact cM_congr fun x _ => by simp
  · have := h.own i a b c d f x hx
    simpa using this
theorem aw_end {g : GameL} (hG : RightG g) {I T S : List Bool} {p : Int} {lf mvs pr : List Int} (h : AW g I p T S [] lf mvs pr [] []) : AttrT g I p T S ∧ MovA g I p T S mvs := by
  have hn := hG.n1
  have hm : ∀ j : Int, 0 ≤ j → j < 256 → (gB S j = true ↔ j ∈ pr) := fun j a b => by simpa using h.mem j a b
  have hr : ∀ j ∈ pr, 0 ≤ j ∧ j < (g.ow.length : Int) ∧ gB I j = true := fun j hj => h.rng j (by simpa using hj)
  refine ⟨⟨⟨h.base, fun i a b c d x hx hIx hSx => ?_, fun i a b c d hex hal => ?_⟩, fun j a b hj => (hr j ((hm j a b).1 hj)).2.2, fun C hC j a b hj => h.snd C hC j (by simpa using (hm j a b).1 hj)⟩, ⟨h.ml, h.mv, pr, hm, hr, by simpa using h.rank⟩⟩
  · by_cases hs : gB S i = true
    · exact hs
    · have h1 := h.own i a b c d (by simpa using hs) x hx
      have hx2 : 0 ≤ x ∧ x < 256 := by
        obtain ⟨k, hk, rfl⟩ := List.mem_iff_getElem.1 hx
        have := hG.mv i a b (k : Int) (by omega) (by omega)
        have e : gI (gL g.mv i) (k : Int) = (gL g.mv i)[k] := by simp only [gI, Int.toNat_natCast, List.getD_eq_getElem?_getD, List.getElem?_eq_getElem hk, Option.getD_some]
        rw [e] at this
        omega
      have h2 := (hm x hx2.1 hx2.2).1 hSx
      simp at h1
      exact absurd h2 h1
  · by_cases hs : gB S i = true
    · exact hs
    · rcases h.oth i a b c d (by simpa using hs) with h1 | h1
      · rw [h.left i a b c] at h1
        obtain ⟨x, hx, hf⟩ := cM_pos h1
        simp only [List.not_mem_nil, if_false, List.append_nil, Bool.and_eq_true, Bool.not_eq_true', decide_eq_false_iff_not] at hf
        have hx2 : 0 ≤ x ∧ x < 256 := by
          obtain ⟨k, hk, rfl⟩ := List.mem_iff_getElem.1 hx
          have := hG.mv i a b (k : Int) (by omega) (by omega)
          have e : gI (gL g.mv i) (k : Int) = (gL g.mv i)[k] := by simp only [gI, Int.toNat_natCast, List.getD_eq_getElem?_getD, List.getElem?_eq_getElem hk, Option.getD_some]
          rw [e] at this
          omega
        exact absurd ((hm x hx2.1 hx2.2).1 (hal x hx hf.1)) hf.2
      · obtain ⟨x, hx, hIx⟩ := hex
        rw [h1 x hx] at hIx
        cases hIx
end Go.Proofs.YtplpgfcjjnaigaaDoor
set_option linter.unusedVariables false
set_option linter.unusedSimpArgs false
namespace Go.Proofs.YtplpgfcjjnaigaaDoor
open Go Go.RowKit
theorem gI_eq {l : List Int} {k : Int} (h0 : 0 ≤ k) (h1 : k < (l.length : Int)) : gI l k = l[k.toNat]'(by omega) := by
  simp only [gI, List.getD_eq_getElem?_getD, List.getElem?_eq_getElem (show k.toNat < l.length by omega), Option.getD_some]
theorem mv_sorted {g : GameL} (hG : RightG g) {i : Int} (a : 0 ≤ i) (b : i < (g.ow.length : Int)) : (gL g.mv i).Pairwise (· < ·) := by
  have hup := hG.up i a b
  generalize gL g.mv i = l at *
  have h2 : ∀ d k : Nat, k + d + 1 < l.length → gI l (k : Int) < gI l ((k + d + 1 : Nat) : Int) := by
    intro d
    induction d with
    | zero =>
      intro k hk
      have := hup ((k + 0 + 1 : Nat) : Int) (by omega) (by omega)
      rwa [show (((k + 0 + 1 : Nat) : Int) - 1) = (k : Int) by omega] at this
    | succ d ih =>
      intro k hk
      have h3 := ih k (by omega)
      have h4 := hup ((k + (d + 1) + 1 : Nat) : Int) (by omega) (by omega)
      rw [show (((k + (d + 1) + 1 : Nat) : Int) - 1) = ((k + d + 1 : Nat) : Int) by omega] at h4
      omega
  rw [List.pairwise_iff_getElem]
  intro x y hx hy hxy
  have := h2 (y - x - 1) x (by omega)
  rw [show x + (y - x - 1) + 1 = y by omega, gI_eq (by omega) (by omega), gI_eq (by omega) (by omega)] at this
  exact this
theorem mv_nd {g : GameL} (hG : RightG g) : ∀ i : Int, 0 ≤ i → i < (g.ow.length : Int) → (gL g.mv i).Nodup := fun i a b =>
  (mv_sorted hG a b).imp (fun h => by omega)
theorem take_cM {l : List Int} {f : Int → Bool} {q : Int} (h0 : 0 ≤ q) (h1 : q < (l.length : Int)) : cM (l.take (q + 1).toNat) f = cM (l.take q.toNat) f + if f (gI l q) = true then 1 else 0 := by
  rw [show (q + 1).toNat = q.toNat + 1 by omega, List.take_succ_eq_append_getElem (show q.toNat < l.length by omega), ← gI_eq h0 h1]
  unfold cM
  rw [List.filter_append]
  cases hf : f (gI l q) <;> simp [hf]
theorem mem_take {l : List Int} {q x : Int} (h0 : 0 ≤ q) (h1 : q < (l.length : Int)) : x ∈ l.take (q + 1).toNat ↔ x ∈ l.take q.toNat ∨ x = gI l q := by
  rw [show (q + 1).toNat = q.toNat + 1 by omega, List.take_succ_eq_append_getElem (show q.toNat < l.length by omega), ← gI_eq h0 h1, List.mem_append, List.mem_singleton]
theorem not_take {l : List Int} (hn : l.Nodup) {q : Int} (h0 : 0 ≤ q) (h1 : q < (l.length : Int)) : gI l q ∉ l.take q.toNat := fun h => by
  obtain ⟨k, hk, e⟩ := List.mem_iff_getElem.1 h
  rw [List.length_take] at hk
  rw [List.getElem_take, gI_eq h0 h1] at e
  have := (List.getElem_inj hn).1 e
  omega
structure FrA (g : GameL) (I : List Bool) (fr : List (List Int)) (lf : List Int) (i q : Int) : Prop where
  len : fr.length = g.ow.length
  ll : lf.length = g.ow.length
  mem : ∀ m j : Int, 0 ≤ m → m < (g.ow.length : Int) → (j ∈ gL fr m ↔ 0 ≤ j ∧ j < (g.ow.length : Int) ∧ gB I j = true ∧ gB I m = true ∧ ((j < i ∧ m ∈ gL g.mv j) ∨ (j = i ∧ m ∈ (gL g.mv i).take q.toNat)))
  nd : ∀ m : Int, 0 ≤ m → m < (g.ow.length : Int) → (gL fr m).Nodup
  lf : ∀ j : Int, 0 ≤ j → j < (g.ow.length : Int) → gI lf j = if j < i then (if gB I j = true then cM (gL g.mv j) (gB I) else 0) else if j = i then cM ((gL g.mv i).take q.toNat) (gB I) else 0
  cnt : ∀ m : Int, 0 ≤ m → m < (g.ow.length : Int) → ((gL fr m).length : Int) ≤ 200 * i + q
theorem gI_rep0 (n : Nat) (m : Int) : gI (List.replicate n 0) m = 0 := by
  simp only [gI, List.getD_eq_getElem?_getD, List.getElem?_replicate]
  split <;> rfl
theorem fra0 {g : GameL} {I : List Bool} : FrA g I (List.replicate g.ow.length []) (List.replicate g.ow.length 0) 0 0 := by
  refine ⟨List.length_replicate, List.length_replicate, fun m j a b => ?_, fun m a b => by rw [gL_rep]; exact List.nodup_nil, fun j a b => ?_, fun m a b => by rw [gL_rep]; simp⟩
  · rw [gL_rep]
    refine ⟨fun h => (List.not_mem_nil h).elim, fun h => ?_⟩
    rcases h.2.2.2.2 with h2 | h2
    · omega
    · simp at h2
  · rw [gI_rep0, if_neg (by omega)]
    split
    · simp [cM]
    · rfl
theorem fra_row {g : GameL} (hG : RightG g) {I : List Bool} {fr : List (List Int)} {lf : List Int} {i q : Int} (h : FrA g I fr lf i q) (h0 : 0 ≤ i) (h1 : i < (g.ow.length : Int)) (hq : ((gL g.mv i).length : Int) ≤ q) (hq2 : q ≤ ((gL g.mv i).length : Int)) (hI : gB I i = true) : FrA g I fr lf (i + 1) 0 := by
  have hr := row_len hG h0 h1
  have hn := hG.n1
  have e : (gL g.mv i).take q.toNat = gL g.mv i := List.take_of_length_le (by omega)
  refine ⟨h.len, h.ll, fun m j a b => ?_, h.nd, fun j a b => ?_, fun m a b => by have := h.cnt m a b; omega⟩
  · rw [h.mem m j a b, e]
    constructor
    · rintro ⟨c, d, f, k, l⟩
      refine ⟨c, d, f, k, ?_⟩
      rcases l with l | l
      · exact .inl ⟨by omega, l.2⟩
      · obtain ⟨rfl, l⟩ := l
        exact .inl ⟨by omega, l⟩
    · rintro ⟨c, d, f, k, l⟩
      refine ⟨c, d, f, k, ?_⟩
      rcases l with l | l
      · by_cases hj : j = i
        · subst hj
          exact .inr ⟨rfl, l.2⟩
        · exact .inl ⟨by omega, l.2⟩
      · simp at l
  · rw [h.lf j a b]
    by_cases hj : j < i
    · rw [if_pos hj, if_pos (show j < i + 1 by omega)]
    · rw [if_neg hj]
      by_cases he : j = i
      · subst he
        rw [if_pos rfl, if_pos (by omega), if_pos hI, e]
      · rw [if_neg he, if_neg (by omega)]
        split
        · simp [cM]
        · rfl
theorem fra_out {g : GameL} (hG : RightG g) {I : List Bool} {fr : List (List Int)} {lf : List Int} {i : Int} (h : FrA g I fr lf i 0) (h0 : 0 ≤ i) (h1 : i < (g.ow.length : Int)) (hI : gB I i = false) : FrA g I fr lf (i + 1) 0 := by
  refine ⟨h.len, h.ll, fun m j a b => ?_, h.nd, fun j a b => ?_, fun m a b => by have := h.cnt m a b; omega⟩
  · rw [h.mem m j a b]
    constructor
    · rintro ⟨c, d, f, k, l⟩
      refine ⟨c, d, f, k, ?_⟩
      rcases l with l | l
      · exact .inl ⟨by omega, l.2⟩
      · simp at l
    · rintro ⟨c, d, f, k, l⟩
      refine ⟨c, d, f, k, ?_⟩
      rcases l with l | l
      · by_cases hj : j = i
        · subst hj
          rw [hI] at f
          cases f
        · exact .inl ⟨by omega, l.2⟩
      · simp at l
  · rw [h.lf j a b]
    by_cases hj : j < i
    · rw [if_pos hj, if_pos (show j < i + 1 by omega)]
    · rw [if_neg hj]
      by_cases he : j = i
      · subst he
        rw [if_pos rfl, if_pos (by omega), if_neg (by rw [hI]; decide)]
        simp [cM]
      · rw [if_neg he, if_neg (by omega)]
        split
        · simp [cM]
        · rfl
theorem fra_skip {g : GameL} (hG : RightG g) {I : List Bool} {fr : List (List Int)} {lf : List Int} {i q : Int} (h : FrA g I fr lf i q) (h0 : 0 ≤ i) (h1 : i < (g.ow.length : Int)) (k0 : 0 ≤ q) (k1 : q < ((gL g.mv i).length : Int)) (hm : gB I (gI (gL g.mv i) q) = false) : FrA g I fr lf i (q + 1) := by
  refine ⟨h.len, h.ll, fun m j a b => ?_, h.nd, fun j a b => ?_, fun m a b => by have := h.cnt m a b; omega⟩
  · rw [h.mem m j a b, mem_take k0 k1]
    constructor
    · rintro ⟨c, d, f, k, l⟩
      exact ⟨c, d, f, k, l.imp id fun x => ⟨x.1, .inl x.2⟩⟩
    · rintro ⟨c, d, f, k, l⟩
      refine ⟨c, d, f, k, l.imp id fun x => ⟨x.1, x.2.resolve_right fun e => ?_⟩⟩
      subst e
      rw [hm] at k
      cases k
  · rw [h.lf j a b, take_cM k0 k1, if_neg (show ¬ gB I (gI (gL g.mv i) q) = true by rw [hm]; decide), Int.add_zero]
theorem fra_push {g : GameL} (hG : RightG g) {I : List Bool} {fr : List (List Int)} {lf : List Int} {i q : Int} (h : FrA g I fr lf i q) (h0 : 0 ≤ i) (h1 : i < (g.ow.length : Int)) (k0 : 0 ≤ q) (k1 : q < ((gL g.mv i).length : Int)) (hI : gB I i = true) (hm : gB I (gI (gL g.mv i) q) = true) :
    FrA g I (fr.set (gI (gL g.mv i) q).toNat (gL fr (gI (gL g.mv i) q) ++ [i])) (lf.set i.toNat (gI lf i + 1)) i (q + 1) := by
  have hr := hG.mv i h0 h1 q k0 k1
  have hl := h.len
  have hll := h.ll
  have hni : i ∉ gL fr (gI (gL g.mv i) q) := fun hh => by
    rcases ((h.mem _ i hr.1 hr.2).1 hh).2.2.2.2 with l | l
    · omega
    · exact not_take (mv_nd hG i h0 h1) k0 k1 l.2
  refine ⟨by rw [List.length_set]; exact hl, by rw [List.length_set]; exact hll, fun m j a b => ?_, fun m a b => ?_, fun j a b => ?_, fun m a b => ?_⟩
  · rw [gL_set hr.1 (by omega) a, mem_take k0 k1]
    by_cases e : gI (gL g.mv i) q = m
    · rw [if_pos e, List.mem_append, List.mem_singleton, e, h.mem m j a b]
      constructor
      · rintro (⟨c, d, f, k, l⟩ | rfl)
        · exact ⟨c, d, f, k, l.imp id fun x => ⟨x.1, .inl x.2⟩⟩
        · exact ⟨h0, h1, hI, e ▸ hm, .inr ⟨rfl, .inr rfl⟩⟩
      · rintro ⟨c, d, f, k, l⟩
        by_cases hj : j = i
        · exact .inr hj
        · refine .inl ⟨c, d, f, k, ?_⟩
          rcases l with l | l
          · exact .inl l
          · exact absurd l.1 hj
    · rw [if_neg e, h.mem m j a b]
      constructor
      · rintro ⟨c, d, f, k, l⟩
        exact ⟨c, d, f, k, l.imp id fun x => ⟨x.1, .inl x.2⟩⟩
      · rintro ⟨c, d, f, k, l⟩
        exact ⟨c, d, f, k, l.imp id fun x => ⟨x.1, x.2.resolve_right fun e2 => e e2.symm⟩⟩
  · rw [gL_set hr.1 (by omega) a]
    by_cases e : gI (gL g.mv i) q = m
    · rw [if_pos e, List.nodup_append]
      refine ⟨h.nd _ hr.1 hr.2, List.nodup_cons.2 ⟨List.not_mem_nil, List.nodup_nil⟩, fun x hx y hy => ?_⟩
      rw [List.mem_singleton] at hy
      subst hy
      exact fun e3 => hni (e3 ▸ hx)
    · rw [if_neg e]
      exact h.nd m a b
  · rw [gI_setE h0 (by omega) a]
    have h5 := h.lf j a b
    by_cases hj : i = j
    · subst hj
      rw [if_pos rfl, if_neg (by omega), if_pos rfl, take_cM k0 k1, if_pos hm]
      rw [if_neg (by omega), if_pos rfl] at h5
      omega
    · rw [if_neg hj, h5]
      by_cases hlt : j < i
      · rw [if_pos hlt, if_pos hlt]
      · rw [if_neg hlt, if_neg hlt, if_neg (fun e => hj e.symm), if_neg (fun e => hj e.symm)]
  · rw [gL_set hr.1 (by omega) a]
    have h3 := h.cnt m a b
    have h4 := h.cnt _ hr.1 hr.2
    split
    · rw [List.length_append]
      simp
      omega
    · omega
theorem fra_leads {g : GameL} {I : List Bool} {fr : List (List Int)} {lf : List Int} (h : FrA g I fr lf (g.ow.length : Int) 0) {m : Int} (a : 0 ≤ m) (b : m < (g.ow.length : Int)) : LeadsT g I m (gL fr m) := by
  refine ⟨h.nd m a b, fun i => ?_⟩
  rw [h.mem m i a b]
  constructor
  · rintro ⟨c, d, f, k, l⟩
    refine ⟨c, d, f, k, ?_⟩
    rcases l with l | l
    · exact l.2
    · simp at l
  · rintro ⟨c, d, f, k, l⟩
    exact ⟨c, d, f, k, .inl ⟨d, l⟩⟩
theorem fra_lf {g : GameL} {I : List Bool} {fr : List (List Int)} {lf : List Int} (h : FrA g I fr lf (g.ow.length : Int) 0) : ∀ i : Int, 0 ≤ i → i < (g.ow.length : Int) → gB I i = true → gI lf i = cM (gL g.mv i) (gB I) := fun i a b c => by
  rw [h.lf i a b, if_pos b, if_pos c]
/-- The positions that count: those of s that the game has. -/
def inS (g : GameL) (s : List Int) : List Int := andS s (fullW ((g.ow.length : Nat) : Int))
def inT (g : GameL) (s : List Int) : List Bool := fromW (inS g s)
theorem inS_ok {g : GameL} {s : List Int} (h : OkW s) : OkW (inS g s) := okW_andS h (fullW_W _)
theorem gB_inT {g : GameL} {s : List Int} {j : Int} (a : 0 ≤ j) (b : j < 256) : gB (inT g s) j = (gB (fromW s) j && decide (j < (g.ow.length : Int))) := by
  rw [inT, inS, from_andS, gB_andD a b, from_full, gB_fullD a b]
theorem inT_lt {g : GameL} {s : List Int} : ∀ j : Int, 0 ≤ j → j < 256 → gB (inT g s) j = true → j < (g.ow.length : Int) := fun j a b h => by
  rw [gB_inT a b, Bool.and_eq_true] at h
  exact of_decide_eq_true h.2
theorem has_inT {g : GameL} {s : List Int} {m : Int} (a : 0 ≤ m) (b : m < 256) : hasW (inS g s) m = gB (inT g s) m := by
  rw [hasW_from, hasD, decide_eq_true ⟨a, b⟩, Bool.true_and, inT]
def AttractT (g : GameL) (s : List Int) (p : Int) (t ss mvs : List Int) : Prop :=
  OkW ss ∧ ((¬ (isR g = true ∧ (p = 0 ∨ p = 1)) ∧ ss = [0, 0, 0, 0] ∧ mvs = []) ∨ (isR g = true ∧ (p = 0 ∨ p = 1) ∧ AttrT g (inT g s) p (fromW t) (fromW ss) ∧ MovA g (inT g s) p (fromW t) (fromW ss) mvs))
end Go.Proofs.YtplpgfcjjnaigaaDoor
set_option linter.unusedVariables false
set_option linter.unusedSimpArgs false
namespace Go.Proofs.YtplpgfcjjnaigaaDoor
open Go Go.RowKit
theorem ms_next {ms : List Int} {i : Int} (h : ∀ j : Int, 0 ≤ j → j < i → gI ms j = -1) (h0 : 0 ≤ i) (h1 : i < (ms.length : Int)) : ∀ j : Int, 0 ≤ j → j < i + 1 → gI (ms.set i.toNat (-1)) j = -1 := fun j a b => by
  rw [gI_setE h0 (by omega) a]
  split
  · rfl
  · exact h j a (by omega)
theorem cM_le (l : List Int) (f : Int → Bool) : cM l f ≤ (l.length : Int) := by
  have := List.length_filter_le f l
  unfold cM
  omega
theorem fra_lb {g : GameL} {I : List Bool} {fr : List (List Int)} {lf : List Int} {i q : Int} (h : FrA g I fr lf i q) (h0 : 0 ≤ i) (h1 : i < (g.ow.length : Int)) (hq : 0 ≤ q) : 0 ≤ gI lf i ∧ gI lf i ≤ q := by
  have e := h.lf i h0 h1
  rw [if_neg (by omega), if_pos rfl] at e
  have h2 := cM_le ((gL g.mv i).take q.toNat) (gB I)
  have h3 := cM_ge ((gL g.mv i).take q.toNat) (gB I)
  rw [List.length_take] at h2
  omega
theorem aw_lb {g : GameL} (hG : RightG g) {I T S : List Bool} {p i : Int} {op lf mvs pr cur rest : List Int} (h : AW g I p T S op lf mvs pr cur rest) (h0 : 0 ≤ i) (h1 : i < (g.ow.length : Int)) (hi : gB I i = true) : 0 ≤ gI lf i ∧ gI lf i ≤ 200 := by
  have e := h.left i h0 h1 hi
  rw [e]
  have h2 := cM_le (gL g.mv i) (fun x => gB I x && !decide (x ∈ (if i ∈ rest then pr else pr ++ cur)))
  have h3 := row_len hG h0 h1
  have h4 := hG.n1
  exact ⟨cM_ge _ _, by omega⟩
theorem aw_len {g : GameL} {I T S : List Bool} {p : Int} {op lf mvs pr cur rest : List Int} (h : AW g I p T S op lf mvs pr cur rest) : op.length ≤ g.ow.length := by
  have h1 : op.Nodup := (List.nodup_append.1 h.nd).2.1
  have hr : ∀ j ∈ op, 0 ≤ j ∧ j < (g.ow.length : Int) := fun j hj => by
    have := h.rng j (List.mem_append.2 (.inr hj))
    exact ⟨this.1, this.2.1⟩
  have h2 : (op.map Int.toNat).Nodup := by
    refine List.pairwise_map.2 (List.Pairwise.imp_of_mem (fun {a b} ha hb hab e => hab ?_) h1)
    have := hr a ha
    have := hr b hb
    omega
  have h3 : (op.map Int.toNat) ⊆ List.range g.ow.length := fun x hx => by
    obtain ⟨y, hy, rfl⟩ := List.mem_map.1 hx
    have := hr y hy
    simp
    omega
  have := List.Nodup.length_le_of_subset h2 h3
  simpa using this
theorem op_cons {op : List Int} (h : 0 < op.length) : op = gI op 0 :: op.drop 1 := by
  cases op with
  | nil => simp at h
  | cons x r => rfl
theorem nd_drop {l : List Int} (h : l.Nodup) {k : Int} (h0 : 0 ≤ k) (h1 : k < (l.length : Int)) : gI l k ∉ l.drop (k + 1).toNat := by
  have h2 : (l.drop k.toNat).Nodup := h.sublist (List.drop_sublist _ _)
  rw [drop_at (r := []) h0 h1, List.nodup_cons] at h2
  exact h2.1
theorem has_W {s : List Int} {i : Int} (a : 0 ≤ i) (b : i < 256) : hasW s i = gB (fromW s) i := by rw [hasW_from, hasD, decide_eq_true ⟨a, b⟩, Bool.true_and]
theorem right_of2 {g : GameL} (h : (rightP g).2 = 0) : isR g = true := by unfold isR; simp [h]
theorem right_no3 {g : GameL} {p : Int} (h : (rightP g).2 ≠ 0 ∨ (p ≠ 0 ∧ p ≠ 1)) : ¬ (isR g = true ∧ (p = 0 ∨ p = 1)) := fun h2 => by
  have h3 := h2.1
  unfold isR at h3
  simp at h3
  omega
end Go.Proofs.YtplpgfcjjnaigaaDoor
set_option linter.unusedVariables false
set_option linter.unusedSimpArgs false
namespace Go.Proofs.YtplpgfcjjnaigaaDoor
open Go Go.RowKit
section
variable {g : GameL} {s t ss mvs : List Int} {p : Int}
theorem att_ok (h : AttractT g s p t ss mvs) : OkW ss := h.1
theorem att_len (h : AttractT g s p t ss mvs) : mvs.length ≤ 200 := by
  rcases h.2 with h2 | h2
  · rw [h2.2.2]
    decide
  · have := h2.2.2.2.ml
    have := (isR_ok h2.1).n1
    omega
theorem eq_00 {x : List Int} (hx : OkW x) (h : ∀ j : Int, 0 ≤ j → j < 256 → gB (fromW x) j = false) : x = [0, 0, 0, 0] :=
  (set_iff hx okW_00).2 fun j a b => by rw [h j a b, from_00, gB_emptyD]
theorem row_rng (hR : isR g = true) {i x : Int} (a : 0 ≤ i) (b : i < (g.ow.length : Int)) (hx : x ∈ gL g.mv i) : 0 ≤ x ∧ x < (g.ow.length : Int) := by
  have hG := isR_ok hR
  obtain ⟨k, hk, rfl⟩ := List.mem_iff_getElem.1 hx
  have := hG.mv i a b (k : Int) (by omega) (by omega)
  rwa [gI_eq (by omega) (by omega)] at this
end
end Go.Proofs.YtplpgfcjjnaigaaDoor
