/-
  Plain: from where a player can force its way into a set; the work by which it is found. No program.
-/
import Derived.Test.YtkpljmalbmcdfaaDoorPureRow
import Derived.Test.YtkpljmalbmcdfaaDoorPureWays
set_option linter.unusedVariables false
set_option linter.unusedSimpArgs false
namespace Go.Proofs.YtkpljmalbmcdfaaDoor
open Go Go.RowKit
/-- C has what of T lies within, and all from which the player p comes into C by moves within I. -/
structure AttC (g : GameL) (I : List Bool) (p : Int) (T C : List Bool) : Prop where
  base : ∀ j : Int, 0 ≤ j → j < 256 → gB T j = true → gB I j = true → gB C j = true
  own : ∀ i : Int, 0 ≤ i → i < (g.ow.length : Int) → gB I i = true → gI g.ow i = p → ∀ x ∈ gL g.mv i, gB I x = true → gB C x = true → gB C i = true
  oth : ∀ i : Int, 0 ≤ i → i < (g.ow.length : Int) → gB I i = true → gI g.ow i ≠ p → (∃ x ∈ gL g.mv i, gB I x = true) → (∀ x ∈ gL g.mv i, gB I x = true → gB C x = true) → gB C i = true
/-- S is the least such set. -/
structure AttrT (g : GameL) (I : List Bool) (p : Int) (T S : List Bool) : Prop where
  cl : AttC g I p T S
  sub : ∀ j : Int, 0 ≤ j → j < 256 → gB S j = true → gB I j = true
  least : ∀ C, AttC g I p T C → ∀ j : Int, 0 ≤ j → j < 256 → gB S j = true → gB C j = true
theorem attr_one {g : GameL} {I T S S' : List Bool} {p : Int} (h : AttrT g I p T S) (h' : AttrT g I p T S') (hl : S.length = 256) (hl' : S'.length = 256) : S = S' :=
  list_ext hl hl' fun j a b => Bool.eq_iff_iff.2 ⟨h.least _ h'.cl j a b, h'.least _ h.cl j a b⟩
/-- The moves are such as A1 says: an order in which the positions came in. -/
def Rank (g : GameL) (I : List Bool) (p : Int) (T : List Bool) (mvs ord : List Int) : Prop :=
  ∀ a j b, ord = a ++ j :: b → gB T j = true ∨ (gI g.ow j = p ∧ gI mvs j ∈ gL g.mv j ∧ gI mvs j ∈ a) ∨ (gI g.ow j ≠ p ∧ ∀ x ∈ gL g.mv j, gB I x = true → x ∈ a)
structure MovA (g : GameL) (I : List Bool) (p : Int) (T S : List Bool) (mvs : List Int) : Prop where
  ml : mvs.length = g.ow.length
  mv : ∀ i : Int, 0 ≤ i → i < (g.ow.length : Int) → (gB S i = true ∧ gB T i = false ∧ gI g.ow i = p) ∨ gI mvs i = -1
  rank : ∃ ord : List Int, (∀ j : Int, 0 ≤ j → j < 256 → (gB S j = true ↔ j ∈ ord)) ∧ (∀ j ∈ ord, 0 ≤ j ∧ j < (g.ow.length : Int) ∧ gB I j = true) ∧ Rank g I p T mvs ord
def cM (l : List Int) (f : Int → Bool) : Int := ((l.filter f).length : Int)
theorem cM_ge (l : List Int) (f : Int → Bool) : 0 ≤ cM l f := Int.natCast_nonneg _
theorem cM_congr {l : List Int} {f f' : Int → Bool} (h : ∀ x ∈ l, f x = f' x) : cM l f = cM l f' := by
  unfold cM
  rw [List.filter_congr h]
theorem cM_pos {l : List Int} {f : Int → Bool} (h : 0 < cM l f) : ∃ x ∈ l, f x = true := by
  unfold cM at h
  obtain ⟨x, hx⟩ := List.exists_mem_of_length_pos (l := l.filter f) (by omega)
  exact ⟨x, (List.mem_filter.1 hx).1, (List.mem_filter.1 hx).2⟩
theorem cM_zero {l : List Int} {f : Int → Bool} (h : cM l f ≤ 0) : ∀ x ∈ l, f x = false := by
  intro x hx
  by_cases hf : f x = true
  · have hm : x ∈ l.filter f := List.mem_filter.2 ⟨hx, hf⟩
    have := List.length_pos_of_mem hm
    unfold cM at h
    omega
  · simpa using hf
theorem cM_of {l : List Int} {f : Int → Bool} {x : Int} (hx : x ∈ l) (hf : f x = true) : 0 < cM l f := by
  have hm : x ∈ l.filter f := List.mem_filter.2 ⟨hx, hf⟩
  have := List.length_pos_of_mem hm
  unfold cM
  omega
theorem cM_one : ∀ {l : List Int} {f : Int → Bool} {m : Int}, l.Nodup → m ∈ l → f m = true → cM l (fun x => f x && !decide (x = m)) = cM l f - 1
  | [], _, _, _, h, _ => by cases h
  | y :: l, f, m, hn, hm, hf => by
    rw [List.nodup_cons] at hn
    unfold cM
    by_cases e : y = m
    · subst e
      have h1 : l.filter (fun x => f x && !decide (x = y)) = l.filter f := List.filter_congr fun x hx => by
        have : ¬ x = y := fun h => hn.1 (h ▸ hx)
        simp [this]
      simp only [List.filter_cons, hf, h1]
      simp
    · have hm' : m ∈ l := (List.mem_cons.1 hm).resolve_left fun h => e h.symm
      have ih := cM_one hn.2 hm' hf
      unfold cM at ih
      simp only [List.filter_cons, e]
      cases hy : f y
      · simpa using ih
      · simp only [decide_false, Bool.not_false, Bool.and_self, if_true, List.length_cons]
        omega
/-- The work: op is open, pr is done, of cur it is not told to rest yet. -/
structure AW (g : GameL) (I : List Bool) (p : Int) (T S : List Bool) (op lf mvs pr cur rest : List Int) : Prop where
  nd : (pr ++ op).Nodup
  mem : ∀ j : Int, 0 ≤ j → j < 256 → (gB S j = true ↔ j ∈ pr ++ op)
  rng : ∀ j ∈ pr ++ op, 0 ≤ j ∧ j < (g.ow.length : Int) ∧ gB I j = true
  ll : lf.length = g.ow.length
  ml : mvs.length = g.ow.length
  left : ∀ i : Int, 0 ≤ i → i < (g.ow.length : Int) → gB I i = true → gI lf i = cM (gL g.mv i) (fun x => gB I x && !decide (x ∈ (if i ∈ rest then pr else pr ++ cur)))
  own : ∀ i : Int, 0 ≤ i → i < (g.ow.length : Int) → gB I i = true → gI g.ow i = p → gB S i = false → ∀ x ∈ gL g.mv i, x ∉ (if i ∈ rest then pr else pr ++ cur)
  oth : ∀ i : Int, 0 ≤ i → i < (g.ow.length : Int) → gB I i = true → gI g.ow i ≠ p → gB S i = false → 0 < gI lf i ∨ ∀ x ∈ gL g.mv i, gB I x = false
  base : ∀ j : Int, 0 ≤ j → j < 256 → gB T j = true → gB I j = true → gB S j = true
  snd : ∀ C, AttC g I p T C → ∀ j ∈ pr ++ op, gB C j = true
  rank : Rank g I p T mvs (pr ++ op)
  mv : ∀ i : Int, 0 ≤ i → i < (g.ow.length : Int) → (gB S i = true ∧ gB T i = false ∧ gI g.ow i = p) ∨ gI mvs i = -1
theorem aw_start {g : GameL} (hG : RightG g) {I T S : List Bool} {p : Int} {lf mvs : List Int} (hI : ∀ j : Int, 0 ≤ j → j < 256 → gB I j = true → j < (g.ow.length : Int))
    (hS : ∀ j : Int, 0 ≤ j → j < 256 → gB S j = (gB T j && gB I j)) (hll : lf.length = g.ow.length) (hml : mvs.length = g.ow.length)
    (hlf : ∀ i : Int, 0 ≤ i → i < (g.ow.length : Int) → gB I i = true → gI lf i = cM (gL g.mv i) (gB I)) (hmv : ∀ i : Int, 0 ≤ i → i < (g.ow.length : Int) → gI mvs i = -1) :
    AW g I p T S (lsD S 256) lf mvs [] [] [] := by
  have hn := hG.n1
  have hb : ∀ j ∈ lsD S 256, 0 ≤ j ∧ j < 256 ∧ gB T j = true ∧ gB I j = true := fun j hj => by
    have h := mem_ls.1 hj
    have h2 := hS j h.1 (by omega)
    rw [h.2.2] at h2
    have h3 : gB T j = true ∧ gB I j = true := by simpa using h2.symm
    exact ⟨h.1, by omega, h3.1, h3.2⟩
  refine ⟨?_, fun j a b => ?_, fun j hj => ?_, hll, hml, fun i a b c => ?_, fun i a b c d e x hx => by simp, fun i a b c d e => ?_, fun j a b c d => ?_, fun C hC j hj => ?_, fun a j b e => ?_, fun i a b => .inr (hmv i a b)⟩
  · rw [List.nil_append]
    exact (ls_lt S 256).imp (fun h => by omega)
  · rw [List.nil_append, mem_ls]
    exact ⟨fun h => ⟨a, by omega, h⟩, fun h => h.2.2⟩
  · have h := hb j (by simpa using hj)
    exact ⟨h.1, hI j h.1 h.2.1 h.2.2.2, h.2.2.2⟩
  · rw [hlf i a b c]
    exact cM_congr fun x _ => by simp
  · rw [hlf i a b c]
    by_cases h : 0 < cM (gL g.mv i) (gB I)
    · exact .inl h
    · exact .inr (cM_zero (by omega))
  · rw [hS j a b, c, d]
    rfl
  · have h := hb j (by simpa using hj)
    exact hC.base j h.1 h.2.1 h.2.2.1 h.2.2.2
  · exact .inl (hb j (by rw [List.nil_append] at e; rw [e]; simp)).2.2.1
/-- Who leads to m within. -/
def LeadsT (g : GameL) (I : List Bool) (m : Int) (r : List Int) : Prop := r.Nodup ∧ ∀ i : Int, i ∈ r ↔ (0 ≤ i ∧ i < (g.ow.length : Int) ∧ gB I i = true ∧ gB I m = true ∧ m ∈ gL g.mv i)
theorem aw_open {g : GameL} {I T S : List Bool} {p m : Int} {op lf mvs pr r : List Int} (h : AW g I p T S (m :: op) lf mvs pr [] []) (hr : LeadsT g I m r) : AW g I p T S (m :: op) lf mvs pr [m] r := by
  have hm := h.rng m (by simp)
  refine ⟨h.nd, h.mem, h.rng, h.ll, h.ml, fun i a b c => ?_, fun i a b c d e x hx => ?_, h.oth, h.base, h.snd, h.rank, h.mv⟩
  · rw [h.left i a b c]
    refine cM_congr fun x hx => ?_
    by_cases hi : i ∈ r
    · simp [hi]
    · have hxm : ¬ (x = m ∧ gB I x = true) := fun hh => hi ((hr.2 i).2 ⟨a, b, c, hm.2.2, hh.1 ▸ hx⟩)
      simp only [List.not_mem_nil, hi, if_false, List.append_nil]
      cases hIx : gB I x
      · rfl
      · have : ¬ x = m := fun hh => hxm ⟨hh, hIx⟩
        simp [this]
  · have h2 := h.own i a b c d e x hx
    simp only [List.not_mem_nil, if_false, List.append_nil] at h2
    by_cases hi : i ∈ r
    · rw [if_pos hi]
      exact h2
    · rw [if_neg hi, List.mem_append, not_or]
      refine ⟨h2, fun hh => ?_⟩
      rw [List.mem_singleton] at hh
      exact hi ((hr.2 i).2 ⟨a, b, c, hm.2.2, hh ▸ hx⟩)
theorem gI_setE {l : List Int} {i j v : Int} (h0 : 0 ≤ i) (h1 : i < l.length) (h2 : 0 ≤ j) : gI (l.set i.toNat v) j = if i = j then v else gI l j := gI_set' h0 h1 h2
theorem aw_left {g : GameL} (hnd : ∀ i : Int, 0 ≤ i → i < (g.ow.length : Int) → (gL g.mv i).Nodup) {I T S : List Bool} {p m i : Int} {op lf mvs pr r : List Int} (h : AW g I p T S (m :: op) lf mvs pr [m] (i :: r)) (hr : LeadsT g I m (i :: r) ∨ True) (hi : 0 ≤ i ∧ i < (g.ow.length : Int) ∧ gB I i = true ∧ gB I m = true ∧ m ∈ gL g.mv i) (hnr : i ∉ r) :
    ∀ j : Int, 0 ≤ j → j < (g.ow.length : Int) → gB I j = true → gI (lf.set i.toNat (gI lf i - 1)) j = cM (gL g.mv j) (fun x => gB I x && !decide (x ∈ (if j ∈ r then pr else pr ++ [m]))) := by
  intro j a b c
  have hll := h.ll
  rw [gI_setE hi.1 (by omega) a]
  by_cases e : i = j
  · subst e
    rw [if_pos rfl, h.left i a b c]
    have hmp : m ∉ pr := fun hm => by
      have := h.nd
      rw [List.nodup_append] at this
      exact this.2.2 m hm m (by simp) rfl
    have := cM_one (f := fun x => gB I x && !decide (x ∈ pr)) (hnd i a b) hi.2.2.2.2 (by simp [hi.2.2.2.1, hmp])
    rw [show cM (gL g.mv i) (fun x => gB I x && !decide (x ∈ (if i ∈ i :: r then pr else pr ++ [m]))) = cM (gL g.mv i) (fun x => gB I x && !decide (x ∈ pr)) from cM_congr fun x _ => by simp]
    rw [← this]
    refine cM_congr fun x _ => ?_
    simp only [hnr, if_false, List.mem_append, List.mem_singleton]
    cases gB I x <;> by_cases h1 : x ∈ pr <;> by_cases h2 : x = m <;> simp [h1, h2]
  · rw [if_neg e, h.left j a b c]
    refine cM_congr fun x _ => ?_
    have : j ∈ i :: r ↔ j ∈ r := by
      rw [List.mem_cons]
      exact ⟨fun hh => hh.resolve_left fun h2 => e h2.symm, .inr⟩
    by_cases hj : j ∈ r
    · rw [if_pos (this.2 hj), if_pos hj]
    · rw [if_neg (fun hh => hj (this.1 hh)), if_neg hj]
theorem in_rest {i j : Int} {r pr : List Int} {m : Int} (e : i ≠ j) {x : Int} : x ∈ (if j ∈ i :: r then pr else pr ++ [m]) ↔ x ∈ (if j ∈ r then pr else pr ++ [m]) := by
  have : j ∈ i :: r ↔ j ∈ r := by
    rw [List.mem_cons]
    exact ⟨fun hh => hh.resolve_left fun h2 => e h2.symm, .inr⟩
  by_cases hj : j ∈ r
  · rw [if_pos (this.2 hj), if_pos hj]
  · rw [if_neg (fun hh => hj (this.1 hh)), if_neg hj]
theorem aw_skip {g : GameL} (hnd : ∀ i : Int, 0 ≤ i → i < (g.ow.length : Int) → (gL g.mv i).Nodup) {I T S : List Bool} {p m i : Int} {op lf mvs pr r : List Int} (h : AW g I p T S (m :: op) lf mvs pr [m] (i :: r)) (hi : 0 ≤ i ∧ i < (g.ow.length : Int) ∧ gB I i = true ∧ gB I m = true ∧ m ∈ gL g.mv i) (hnr : i ∉ r)
    (hs : gB S i = true ∨ (gI g.ow i ≠ p ∧ 0 < gI lf i - 1)) : AW g I p T S (m :: op) (lf.set i.toNat (gI lf i - 1)) mvs pr [m] r := by
  have hll := h.ll
  refine ⟨h.nd, h.mem, h.rng, by rw [List.length_set]; exact hll, h.ml, aw_left hnd h (.inr trivial) hi hnr, fun j a b c d e x hx => ?_, fun j a b c d e => ?_, h.base, h.snd, h.rank, h.mv⟩
  · by_cases hj : i = j
    · subst hj
      rcases hs with hs | hs
      · rw [hs] at e
        cases e
      · exact absurd d hs.1
    · have := h.own j a b c d e x hx
      rwa [in_rest hj] at this
  · rw [gI_setE hi.1 (by omega) a]
    by_cases hj : i = j
    · subst hj
      rw [if_pos rfl]
      rcases hs with hs | hs
      · rw [hs] at e
        cases e
      · exact .inl hs.2
    · rw [if_neg hj]
      exact h.oth j a b c d e
theorem concat_split {l a b : List Int} {i j : Int} (h : l ++ [i] = a ++ j :: b) : (b = [] ∧ j = i ∧ a = l) ∨ ∃ b', l = a ++ j :: b' := by
  rcases List.eq_nil_or_concat b with hb | ⟨b', y, hb⟩
  · subst hb
    have := List.append_inj' h rfl
    refine .inl ⟨rfl, ?_, this.1.symm⟩
    have h2 := this.2
    simp at h2
    exact h2.symm
  · rw [List.concat_eq_append] at hb
    subst hb
    have h2 : l ++ [i] = (a ++ j :: b') ++ [y] := by rw [h]; simp
    exact .inr ⟨b', (List.append_inj' h2 rfl).1⟩
theorem aw_add {g : GameL} (hG : RightG g) (hnd : ∀ i : Int, 0 ≤ i → i < (g.ow.length : Int) → (gL g.mv i).Nodup) {I T S : List Bool} (hSl : S.length = 256) {p m i : Int} {op lf mvs mvs' pr r : List Int} (h : AW g I p T S (m :: op) lf mvs pr [m] (i :: r)) (hi : 0 ≤ i ∧ i < (g.ow.length : Int) ∧ gB I i = true ∧ gB I m = true ∧ m ∈ gL g.mv i) (hnr : i ∉ r)
    (hs : gB S i = false) (hs2 : gI g.ow i = p ∨ gI lf i - 1 ≤ 0) (hmv : (gI g.ow i = p ∧ mvs' = mvs.set i.toNat m) ∨ (gI g.ow i ≠ p ∧ mvs' = mvs)) : AW g I p T (putD S i true) (m :: op ++ [i]) (lf.set i.toNat (gI lf i - 1)) mvs' pr [m] r := by
  have hll := h.ll
  have hml := h.ml
  have hn := hG.n1
  have hni : i ∉ pr ++ m :: op := fun hm => by
    rw [← h.mem i hi.1 (by omega)] at hm
    rw [hm] at hs
    cases hs
  have hml' : mvs'.length = g.ow.length := by
    rcases hmv with ⟨_, rfl⟩ | ⟨_, rfl⟩
    · rw [List.length_set]; exact hml
    · exact hml
  have hne : ∀ j : Int, 0 ≤ j → j ≠ i → gI mvs' j = gI mvs j := fun j a hj => by
    rcases hmv with ⟨_, rfl⟩ | ⟨_, rfl⟩
    · rw [gI_setE hi.1 (by omega) a, if_neg (fun e => hj e.symm)]
    · rfl
  have hleft := aw_left hnd h (.inr trivial) hi hnr
  have hall : gI g.ow i ≠ p → ∀ x ∈ gL g.mv i, gB I x = true → x ∈ pr ++ [m] := fun hp x hx hIx => by
    have h1 := hleft i hi.1 hi.2.1 hi.2.2.1
    rw [gI_setE hi.1 (by omega) hi.1, if_pos rfl] at h1
    have h2 := cM_zero (l := gL g.mv i) (f := fun x => gB I x && !decide (x ∈ (if i ∈ r then pr else pr ++ [m]))) (by rw [← h1]; exact hs2.resolve_left hp) x hx
    rw [hIx] at h2
    simp only [hnr, if_false, Bool.true_and] at h2
    by_cases hx2 : x ∈ pr ++ [m]
    · exact hx2
    · rw [decide_eq_false hx2] at h2
      cases h2
  have el : pr ++ (m :: op ++ [i]) = (pr ++ m :: op) ++ [i] := by simp
  have hput : ∀ j : Int, 0 ≤ j → j < 256 → gB (putD S i true) j = if i = j then true else gB S j := fun j a b => gB_put hSl a b
  refine ⟨?_, fun j a b => ?_, fun j hj => ?_, by rw [List.length_set]; exact hll, hml', hleft, fun j a b c d e x hx => ?_, fun j a b c d e => ?_, fun j a b c d => ?_, fun C hC j hj => ?_, ?_, fun j a b => ?_⟩
  · rw [el, List.nodup_append]
    refine ⟨h.nd, List.nodup_cons.2 ⟨List.not_mem_nil, List.nodup_nil⟩, fun a ha b hb => ?_⟩
    rw [List.mem_singleton] at hb
    subst hb
    exact fun e => hni (e ▸ ha)
  · rw [hput j a b, el, List.mem_append, List.mem_singleton]
    by_cases e : i = j
    · subst e
      simp
    · rw [if_neg e, h.mem j a b]
      exact ⟨.inl, fun hh => hh.resolve_right fun h2 => e h2.symm⟩
  · rw [el, List.mem_append, List.mem_singleton] at hj
    rcases hj with hj | rfl
    · exact h.rng j hj
    · exact ⟨hi.1, hi.2.1, hi.2.2.1⟩
  · rw [hput j a (by omega)] at e
    by_cases hj : i = j
    · rw [if_pos hj] at e
      cases e
    · rw [if_neg hj] at e
      have := h.own j a b c d e x hx
      rwa [in_rest hj] at this
  · rw [hput j a (by omega)] at e
    by_cases hj : i = j
    · rw [if_pos hj] at e
      cases e
    · rw [if_neg hj] at e
      rw [gI_setE hi.1 (by omega) a, if_neg hj]
      exact h.oth j a b c d e
  · rw [hput j a b]
    split
    · rfl
    · exact h.base j a b c d
  · rw [el, List.mem_append, List.mem_singleton] at hj
    rcases hj with hj | rfl
    · exact h.snd C hC j hj
    · by_cases hp : gI g.ow j = p
      · exact hC.own j hi.1 hi.2.1 hi.2.2.1 hp m hi.2.2.2.2 hi.2.2.2.1 (h.snd C hC m (by simp))
      · refine hC.oth j hi.1 hi.2.1 hi.2.2.1 hp ⟨m, hi.2.2.2.2, hi.2.2.2.1⟩ fun x hx hIx => h.snd C hC x ?_
        have := hall hp x hx hIx
        rw [List.mem_append, List.mem_singleton] at this
        rw [List.mem_append, List.mem_cons]
        exact this.imp id .inl
  · intro a j b e
    rw [el] at e
    rcases concat_split e with ⟨rfl, rfl, rfl⟩ | ⟨b', e2⟩
    · by_cases hp : gI g.ow j = p
      · refine .inr (.inl ⟨hp, ?_⟩)
        have hm : gI mvs' j = m := by
          rcases hmv with ⟨_, rfl⟩ | ⟨h2, _⟩
          · rw [gI_setE hi.1 (by omega) hi.1, if_pos rfl]
          · exact absurd hp h2
        rw [hm]
        exact ⟨hi.2.2.2.2, by simp⟩
      · refine .inr (.inr ⟨hp, fun x hx hIx => ?_⟩)
        have := hall hp x hx hIx
        rw [List.mem_append, List.mem_singleton] at this
        rw [List.mem_append, List.mem_cons]
        exact this.imp id .inl
    · have hj : j ∈ pr ++ m :: op := by rw [e2]; simp
      have hji : j ≠ i := fun e3 => hni (e3 ▸ hj)
      have hj0 := (h.rng j hj).1
      rw [hne j hj0 hji]
      exact h.rank a j b' e2
  · rw [hput j a (by omega)]
    by_cases hj : i = j
    · subst hj
      rw [if_pos rfl]
      by_cases hp : gI g.ow i = p
      · by_cases ht : gB T i = true
        · have := h.base i a (by omega) ht hi.2.2.1
          rw [this] at hs
          cases hs
        · exact .inl ⟨rfl, by simpa using ht, hp⟩
      · refine .inr ?_
        rcases hmv with ⟨h2, _⟩ | ⟨_, rfl⟩
        · exact absurd h2 hp
        · rcases h.mv i a b with h3 | h3
          · rw [h3.1] at hs
            cases hs
          · exact h3
    · rw [if_neg hj, hne j a (fun e => hj e.symm)]
      exact h.mv j a b
theorem aw_close {g : GameL} {I T S : List Bool} {p m : Int} {op lf mvs pr : List Int} (h : AW g I p T S (m :: op) lf mvs pr [m] []) : AW g I p T S op lf mvs (pr ++ [m]) [] [] := by
  have e : pr ++ [m] ++ op = pr ++ m :: op := by simp
  refine ⟨by rw [e]; exact h.nd, fun j a b => by rw [e]; exact h.mem j a b, fun j hj => h.rng j (by rw [← e]; exact hj), h.ll, h.ml, fun i a b c => ?_, fun i a b c d f x hx => ?_, h.oth, h.base, fun C hC j hj => h.snd C hC j (by rw [← e]; exact hj), by rw [e]; exact h.rank, h.mv⟩
  · rw [h.left i a b c]
    exact cM_congr fun x _ => by simp
  · have := h.own i a b c d f x hx
    simpa using this
theorem aw_end {g : GameL} (hG : RightG g) {I T S : List Bool} {p : Int} {lf mvs pr : List Int} (h : AW g I p T S [] lf mvs pr [] []) : AttrT g I p T S ∧ MovA g I p T S mvs := by
  have hn := hG.n1
  have hm : ∀ j : Int, 0 ≤ j → j < 256 → (gB S j = true ↔ j ∈ pr) := fun j a b => by simpa using h.mem j a b
  have hr : ∀ j ∈ pr, 0 ≤ j ∧ j < (g.ow.length : Int) ∧ gB I j = true := fun j hj => h.rng j (by simpa using hj)
  refine ⟨⟨⟨h.base, fun i a b c d x hx hIx hSx => ?_, fun i a b c d hex hal => ?_⟩, fun j a b hj => (hr j ((hm j a b).1 hj)).2.2, fun C hC j a b hj => h.snd C hC j (by simpa using (hm j a b).1 hj)⟩, ⟨h.ml, h.mv, pr, hm, hr, by simpa using h.rank⟩⟩
  · by_cases hs : gB S i = true
    · exact hs
    · have h1 := h.own i a b c d (by simpa using hs) x hx
      have hx2 : 0 ≤ x ∧ x < 256 := by
        obtain ⟨k, hk, rfl⟩ := List.mem_iff_getElem.1 hx
        have := hG.mv i a b (k : Int) (by omega) (by omega)
        have e : gI (gL g.mv i) (k : Int) = (gL g.mv i)[k] := by simp only [gI, Int.toNat_natCast, List.getD_eq_getElem?_getD, List.getElem?_eq_getElem hk, Option.getD_some]
        rw [e] at this
        omega
      have h2 := (hm x hx2.1 hx2.2).1 hSx
      simp at h1
      exact absurd h2 h1
  · by_cases hs : gB S i = true
    · exact hs
    · rcases h.oth i a b c d (by simpa using hs) with h1 | h1
      · rw [h.left i a b c] at h1
        obtain ⟨x, hx, hf⟩ := cM_pos h1
        simp only [List.not_mem_nil, if_false, List.append_nil, Bool.and_eq_true, Bool.not_eq_true', decide_eq_false_iff_not] at hf
        have hx2 : 0 ≤ x ∧ x < 256 := by
          obtain ⟨k, hk, rfl⟩ := List.mem_iff_getElem.1 hx
          have := hG.mv i a b (k : Int) (by omega) (by omega)
          have e : gI (gL g.mv i) (k : Int) = (gL g.mv i)[k] := by simp only [gI, Int.toNat_natCast, List.getD_eq_getElem?_getD, List.getElem?_eq_getElem hk, Option.getD_some]
          rw [e] at this
          omega
        exact absurd ((hm x hx2.1 hx2.2).1 (hal x hx hf.1)) hf.2
      · obtain ⟨x, hx, hIx⟩ := hex
        rw [h1 x hx] at hIx
        cases hIx
end Go.Proofs.YtkpljmalbmcdfaaDoor
