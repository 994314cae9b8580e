/-
  Plain: from where a player can force its way into a set; the work by which it is found. No program. Plain: who leads to whom within a set, and how many moves count. No program. Plain: what the walk of Attract asks beside. No program. Plain: what the laws of attracting ask. No program. Plain: rounds by which what leads into a set is found, where one player alone moves. No program. Plain: one player alone owns all positions. No program.
-/
import Derived.Test.YtkkophhnliplhaaDoorPureRight
import Derived.Test.YtkkophhnliplhaaDoorPureWays
set_option linter.unusedVariables false
set_option linter.unusedSimpArgs false
namespace Go.Proofs.YtkkophhnliplhaaDoor
open Go Go.RowKit
/-- C has what of T lies within, and all from which the player p comes into C by moves within I. -/
structure AttC (g : GameL) (I : List Bool) (p : Int) (T C : List Bool) : Prop where
  base : ∀ j : Int, 0 ≤ j → j < 256 → gB T j = true → gB I j = true → gB C j = true
  own : ∀ i : Int, 0 ≤ i → i < (g.ow.length : Int) → gB I i = true → gI g.ow i = p → ∀ x ∈ gL g.mv i, gB I x = true → gB C x = true → gB C i = true
  oth : ∀ i : Int, 0 ≤ i → i < (g.ow.length : Int) → gB I i = true → gI g.ow i ≠ p → (∃ x ∈ gL g.mv i, gB I x = true) → (∀ x ∈ gL g.mv i, gB I x = true → gB C x = true) → gB C i = true
/-- S is the least such set. -/
structure AttrT (g : GameL) (I : List Bool) (p : Int) (T S : List Bool) : Prop where
  cl : AttC g I p T S
  sub : ∀ j : Int, 0 ≤ j → j < 256 → gB S j = true → gB I j = true
  least : ∀ C, AttC g I p T C → ∀ j : Int, 0 ≤ j → j < 256 → gB S j = true → gB C j = true
theorem attr_one {g : GameL} {I T S S' : List Bool} {p : Int} (h : AttrT g I p T S) (h' : AttrT g I p T S') (hl : S.length = 256) (hl' : S'.length = 256) : S = S' :=
  list_ext hl hl' fun j a b => Bool.eq_iff_iff.2 ⟨h.least _ h'.cl j a b, h'.least _ h.cl j a b⟩
/-- The moves are such as A1 says: an order in which the positions came in. -/
def Rank (g : GameL) (I : List Bool) (p : Int) (T : List Bool) (mvs ord : List Int) : Prop :=
  ∀ a j b, ord = a ++ j :: b → gB T j = true ∨ (gI g.ow j = p ∧ gI mvs j ∈ gL g.mv j ∧ gI mvs j ∈ a) ∨ (gI g.ow j ≠ p ∧ ∀ x ∈ gL g.mv j, gB I x = true → x ∈ a)
structure MovA (g : GameL) (I : List Bool) (p : Int) (T S : List Bool) (mvs : List Int) : Prop where
  ml : mvs.length = g.ow.length
  mv : ∀ i : Int, 0 ≤ i → i < (g.ow.length : Int) → (gB S i = true ∧ gB T i = false ∧ gI g.ow i = p) ∨ gI mvs i = -1
  rank : ∃ ord : List Int, (∀ j : Int, 0 ≤ j → j < 256 → (gB S j = true ↔ j ∈ ord)) ∧ (∀ j ∈ ord, 0 ≤ j ∧ j < (g.ow.length : Int) ∧ gB I j = true) ∧ Rank g I p T mvs ord
def cM (l : List Int) (f : Int → Bool) : Int := ((l.filter f).length : Int)
theorem cM_ge (l : List Int) (f : Int → Bool) : 0 ≤ cM l f := Int.natCast_nonneg _
theorem cM_congr {l : List Int} {f f' : Int → Bool} (h : ∀ x ∈ l, f x = f' x) : cM l f = cM l f' := by
  unfold cM
  rw [List.filter_congr h]
theorem cM_pos {l : List Int} {f : Int → Bool} (h : 0 < cM l f) : ∃ x ∈ l, f x = true := by
  unfold cM at h
  obtain ⟨x, hx⟩ := List.exists_mem_of_length_pos (l := l.filter f) (by omega)
  exact ⟨x, (List.mem_filter.1 hx).1, (List.mem_filter.1 hx).2⟩
theorem cM_zero {l : List Int} {f : Int → Bool} (h : cM l f ≤ 0) : ∀ x ∈ l, f x = false := by
  intro x hx
  by_cases hf : f x = true
  · have hm : x ∈ l.filter f := List.mem_filter.2 ⟨hx, hf⟩
    have := List.length_pos_of_mem hm
    unfold cM at h
    omega
  · simpa using hf
theorem cM_of {l : List Int} {f : Int → Bool} {x : Int} (hx : x ∈ l) (hf : f x = true) : 0 < cM l f := by
  have hm : x ∈ l.filter f := List.mem_filter.2 ⟨hx, hf⟩
  have := List.length_pos_of_mem hm
  unfold cM
  omega
theorem cM_one : ∀ {l : List Int} {f : Int → Bool} {m : Int}, l.Nodup → m ∈ l → f m = true → cM l (fun x => f x && !decide (x = m)) = cM l f - 1
  | [], _, _, _, h, _ => by cases h
  | y :: l, f, m, hn, hm, hf => by
    rw [List.nodup_cons] at hn
    unfold cM
    by_cases e : y = m
    · subst e
      have h1 : l.filter (fun x => f x && !decide (x = y)) = l.filter f := List.filter_congr fun x hx => by
        have : ¬ x = y := fun h => hn.1 (h ▸ hx)
        simp [this]
      simp only [List.filter_cons, hf, h1]
      simp
    · have hm' : m ∈ l := (List.mem_cons.1 hm).resolve_left fun h => e h.symm
      have ih := cM_one hn.2 hm' hf
      unfold cM at ih
      simp only [List.filter_cons, e]
      cases hy : f y
      · simpa using ih
      · simp only [decide_false, Bool.not_false, Bool.and_self, if_true, List.length_cons]
        omega
/-- The work: op is open, pr is done, of cur it is not told to rest yet. -/
structure AW (g : GameL) (I : List Bool) (p : Int) (T S : List Bool) (op lf mvs pr cur rest : List Int) : Prop where
  nd : (pr ++ op).Nodup
  mem : ∀ j : Int, 0 ≤ j → j < 256 → (gB S j = true ↔ j ∈ pr ++ op)
  rng : ∀ j ∈ pr ++ op, 0 ≤ j ∧ j < (g.ow.length : Int) ∧ gB I j = true
  ll : lf.length = g.ow.length
  ml : mvs.length = g.ow.length
  left : ∀ i : Int, 0 ≤ i → i < (g.ow.length : Int) → gB I i = true → gI lf i = cM (gL g.mv i) (fun x => gB I x && !decide (x ∈ (if i ∈ rest then pr else pr ++ cur)))
  own : ∀ i : Int, 0 ≤ i → i < (g.ow.length : Int) → gB I i = true → gI g.ow i = p → gB S i = false → ∀ x ∈ gL g.mv i, x ∉ (if i ∈ rest then pr else pr ++ cur)
  oth : ∀ i : Int, 0 ≤ i → i < (g.ow.length : Int) → gB I i = true → gI g.ow i ≠ p → gB S i = false → 0 < gI lf i ∨ ∀ x ∈ gL g.mv i, gB I x = false
  base : ∀ j : Int, 0 ≤ j → j < 256 → gB T j = true → gB I j = true → gB S j = true
  snd : ∀ C, AttC g I p T C → ∀ j ∈ pr ++ op, gB C j = true
  rank : Rank g I p T mvs (pr ++ op)
  mv : ∀ i : Int, 0 ≤ i → i < (g.ow.length : Int) → (gB S i = true ∧ gB T i = false ∧ gI g.ow i = p) ∨ gI mvs i = -1
theorem aw_start {g : GameL} (hG : RightG g) {I T S : List Bool} {p : Int} {lf mvs : List Int} (hI : ∀ j : Int, 0 ≤ j → j < 256 → gB I j = true → j < (g.ow.length : Int))
    (hS : ∀ j : Int, 0 ≤ j → j < 256 → gB S j = (gB T j && gB I j)) (hll : lf.length = g.ow.length) (hml : mvs.length = g.ow.length)
    (hlf : ∀ i : Int, 0 ≤ i → i < (g.ow.length : Int) → gB I i = true → gI lf i = cM (gL g.mv i) (gB I)) (hmv : ∀ i : Int, 0 ≤ i → i < (g.ow.length : Int) → gI mvs i = -1) :
    AW g I p T S (lsD S 256) lf mvs [] [] [] := by
  have hn := hG.n1
  have hb : ∀ j ∈ lsD S 256, 0 ≤ j ∧ j < 256 ∧ gB T j = true ∧ gB I j = true := fun j hj => by
    have h := mem_ls.1 hj
    have h2 := hS j h.1 (by omega)
    rw [h.2.2] at h2
    have h3 : gB T j = true ∧ gB I j = true := by simpa using h2.symm
    exact ⟨h.1, by omega, h3.1, h3.2⟩
  refine ⟨?_, fun j a b => ?_, fun j hj => ?_, hll, hml, fun i a b c => ?_, fun i a b c d e x hx => by simp, fun i a b c d e => ?_, fun j a b c d => ?_, fun C hC j hj => ?_, fun a j b e => ?_, fun i a b => .inr (hmv i a b)⟩
  · rw [List.nil_append]
    exact (ls_lt S 256).imp (fun h => by omega)
  · rw [List.nil_append, mem_ls]
    exact ⟨fun h => ⟨a, by omega, h⟩, fun h => h.2.2⟩
  · have h := hb j (by simpa using hj)
    exact ⟨h.1, hI j h.1 h.2.1 h.2.2.2, h.2.2.2⟩
  · rw [hlf i a b c]
    exact cM_congr fun x _ => by simp
  · rw [hlf i a b c]
    by_cases h : 0 < cM (gL g.mv i) (gB I)
    · exact .inl h
    · exact .inr (cM_zero (by omega))
  · rw [hS j a b, c, d]
    rfl
  · have h := hb j (by simpa using hj)
    exact hC.base j h.1 h.2.1 h.2.2.1 h.2.2.2
  · exact .inl (hb j (by rw [List.nil_append] at e; rw [e]; simp)).2.2.1
/-- Who leads to m within. -/
def LeadsT (g : GameL) (I : List Bool) (m : Int) (r : List Int) : Prop := r.Nodup ∧ ∀ i : Int, i ∈ r ↔ (0 ≤ i ∧ i < (g.ow.length : Int) ∧ gB I i = true ∧ gB I m = true ∧ m ∈ gL g.mv i)
theorem aw_open {g : GameL} {I T S : List Bool} {p m : Int} {op lf mvs pr r : List Int} (h : AW g I p T S (m :: op) lf mvs pr [] []) (hr : LeadsT g I m r) : AW g I p T S (m :: op) lf mvs pr [m] r := by
  have hm := h.rng m (by simp)
  refine ⟨h.nd, h.mem, h.rng, h.ll, h.ml, fun i a b c => ?_, fun i a b c d e x hx => ?_, h.oth, h.base, h.snd, h.rank, h.mv⟩
  · rw [h.left i a b c]
    refine cM_congr fun x hx => ?_
    by_cases hi : i ∈ r
    · simp [hi]
    · have hxm : ¬ (x = m ∧ gB I x = true) := fun hh => hi ((hr.2 i).2 ⟨a, b, c, hm.2.2, hh.1 ▸ hx⟩)
      simp only [List.not_mem_nil, hi, if_false, List.append_nil]
      cases hIx : gB I x
      · rfl
      · have : ¬ x = m := fun hh => hxm ⟨hh, hIx⟩
        simp [this]
  · have h2 := h.own i a b c d e x hx
    simp only [List.not_mem_nil, if_false, List.append_nil] at h2
    by_cases hi : i ∈ r
    · rw [if_pos hi]
      exact h2
    · rw [if_neg hi, List.mem_append, not_or]
      refine ⟨h2, fun hh => ?_⟩
      rw [List.mem_singleton] at hh
      exact hi ((hr.2 i).2 ⟨a, b, c, hm.2.2, hh ▸ hx⟩)
theorem gI_setE {l : List Int} {i j v : Int} (h0 : 0 ≤ i) (h1 : i < l.length) (h2 : 0 ≤ j) : gI (l.set i.toNat v) j = if i = j then v else gI l j := gI_set' h0 h1 h2
theorem aw_left {g : GameL} (hnd : ∀ i : Int, 0 ≤ i → i < (g.ow.length : Int) → (gL g.mv i).Nodup) {I T S : List Bool} {p m i : Int} {op lf mvs pr r : List Int} (h : AW g I p T S (m :: op) lf mvs pr [m] (i :: r)) (hr : LeadsT g I m (i :: r) ∨ True) (hi : 0 ≤ i ∧ i < (g.ow.length : Int) ∧ gB I i = true ∧ gB I m = true ∧ m ∈ gL g.mv i) (hnr : i ∉ r) :
    ∀ j : Int, 0 ≤ j → j < (g.ow.length : Int) → gB I j = true → gI (lf.set i.toNat (gI lf i - 1)) j = cM (gL g.mv j) (fun x => gB I x && !decide (x ∈ (if j ∈ r then pr else pr ++ [m]))) := by
  intro j a b c
  have hll := h.ll
  rw [gI_setE hi.1 (by omega) a]
  by_cases e : i = j
  · subst e
    rw [if_pos rfl, h.left i a b c]
    have hmp : m ∉ pr := fun hm => by
      have := h.nd
      rw [List.nodup_append] at this
      exact this.2.2 m hm m (by simp) rfl
    have := cM_one (f := fun x => gB I x && !decide (x ∈ pr)) (hnd i a b) hi.2.2.2.2 (by simp [hi.2.2.2.1, hmp])
    rw [show cM (gL g.mv i) (fun x => gB I x && !decide (x ∈ (if i ∈ i :: r then pr else pr ++ [m]))) = cM (gL g.mv i) (fun x => gB I x && !decide (x ∈ pr)) from cM_congr fun x _ => by simp]
    rw [← this]
    refine cM_congr fun x _ => ?_
    simp only [hnr, if_false, List.mem_append, List.mem_singleton]
    cases gB I x <;> by_cases h1 : x ∈ pr <;> by_cases h2 : x = m <;> simp [h1, h2]
  · rw [if_neg e, h.left j a b c]
    refine cM_congr fun x _ => ?_
    have : j ∈ i :: r ↔ j ∈ r := by
      rw [List.mem_cons]
      exact ⟨fun hh => hh.resolve_left fun h2 => e h2.symm, .inr⟩
    by_cases hj : j ∈ r
    · rw [if_pos (this.2 hj), if_pos hj]
    · rw [if_neg (fun hh => hj (this.1 hh)), if_neg hj]
theorem in_rest {i j : Int} {r pr : List Int} {m : Int} (e : i ≠ j) {x : Int} : x ∈ (if j ∈ i :: r then pr else pr ++ [m]) ↔ x ∈ (if j ∈ r then pr else pr ++ [m]) := by
  have : j ∈ i :: r ↔ j ∈ r := by
    rw [List.mem_cons]
    exact ⟨fun hh => hh.resolve_left fun h2 => e h2.symm, .inr⟩
  by_cases hj : j ∈ r
  · rw [if_pos (this.2 hj), if_pos hj]
  · rw [if_neg (fun hh => hj (this.1 hh)), if_neg hj]
theorem aw_skip {g : GameL} (hnd : ∀ i : Int, 0 ≤ i → i < (g.ow.length : Int) → (gL g.mv i).Nodup) {I T S : List Bool} {p m i : Int} {op lf mvs pr r : List Int} (h : AW g I p T S (m :: op) lf mvs pr [m] (i :: r)) (hi : 0 ≤ i ∧ i < (g.ow.length : Int) ∧ gB I i = true ∧ gB I m = true ∧ m ∈ gL g.mv i) (hnr : i ∉ r)
    (hs : gB S i = true ∨ (gI g.ow i ≠ p ∧ 0 < gI lf i - 1)) : AW g I p T S (m :: op) (lf.set i.toNat (gI lf i - 1)) mvs pr [m] r := by
  have hll := h.ll
  refine ⟨h.nd, h.mem, h.rng, by rw [List.length_set]; exact hll, h.ml, aw_left hnd h (.inr trivial) hi hnr, fun j a b c d e x hx => ?_, fun j a b c d e => ?_, h.base, h.snd, h.rank, h.mv⟩
  · by_cases hj : i = j
    · subst hj
      rcases hs with hs | hs
      · rw [hs] at e
        cases e
      · exact absurd d hs.1
    · have := h.own j a b c d e x hx
      rwa [in_rest hj] at this
  · rw [gI_setE hi.1 (by omega) a]
    by_cases hj : i = j
    · subst hj
      rw [if_pos rfl]
      rcases hs with hs | hs
      · rw [hs] at e
        cases e
      · exact .inl hs.2
    · rw [if_neg hj]
      exact h.oth j a b c d e
theorem concat_split {l a b : List Int} {i j : Int} (h : l ++ [i] = a ++ j :: b) : (b = [] ∧ j = i ∧ a = l) ∨ ∃ b', l = a ++ j :: b' := by
  rcases List.eq_nil_or_concat b with hb | ⟨b', y, hb⟩
  · subst hb
    have := List.append_inj' h rfl
    refine .inl ⟨rfl, ?_, this.1.symm⟩
    have h2 := this.2
    simp at h2
    exact h2.symm
  · rw [List.concat_eq_append] at hb
    subst hb
    have h2 : l ++ [i] = (a ++ j :: b') ++ [y] := by rw [h]; simp
    exact .inr ⟨b', (List.append_inj' h2 rfl).1⟩
theorem aw_add {g : GameL} (hG : RightG g) (hnd : ∀ i : Int, 0 ≤ i → i < (g.ow.length : Int) → (gL g.mv i).Nodup) {I T S : List Bool} (hSl : S.length = 256) {p m i : Int} {op lf mvs mvs' pr r : List Int} (h : AW g I p T S (m :: op) lf mvs pr [m] (i :: r)) (hi : 0 ≤ i ∧ i < (g.ow.length : Int) ∧ gB I i = true ∧ gB I m = true ∧ m ∈ gL g.mv i) (hnr : i ∉ r)
    (hs : gB S i = false) (hs2 : gI g.ow i = p ∨ gI lf i - 1 ≤ 0) (hmv : (gI g.ow i = p ∧ mvs' = mvs.set i.toNat m) ∨ (gI g.ow i ≠ p ∧ mvs' = mvs)) : AW g I p T (putD S i true) (m :: op ++ [i]) (lf.set i.toNat (gI lf i - 1)) mvs' pr [m] r := by
  have hll := h.ll
  have hml := h.ml
  have hn := hG.n1
  have hni : i ∉ pr ++ m :: op := fun hm => by
    rw [← h.mem i hi.1 (by omega)] at hm
    rw [hm] at hs
    cases hs
  have hml' : mvs'.length = g.ow.length := by
    rcases hmv with ⟨_, rfl⟩ | ⟨_, rfl⟩
    · rw [List.length_set]; exact hml
    · exact hml
  have hne : ∀ j : Int, 0 ≤ j → j ≠ i → gI mvs' j = gI mvs j := fun j a hj => by
    rcases hmv with ⟨_, rfl⟩ | ⟨_, rfl⟩
    · rw [gI_setE hi.1 (by omega) a, if_neg (fun e => hj e.symm)]
    · rfl
  have hleft := aw_left hnd h (.inr trivial) hi hnr
  have hall : gI g.ow i ≠ p → ∀ x ∈ gL g.mv i, gB I x = true → x ∈ pr ++ [m] := fun hp x hx hIx => by
    have h1 := hleft i hi.1 hi.2.1 hi.2.2.1
    rw [gI_setE hi.1 (by omega) hi.1, if_pos rfl] at h1
    have h2 := cM_zero (l := gL g.mv i) (f := fun x => gB I x && !decide (x ∈ (if i ∈ r then pr else pr ++ [m]))) (by rw [← h1]; exact hs2.resolve_left hp) x hx
    rw [hIx] at h2
    simp only [hnr, if_false, Bool.true_and] at h2
    by_cases hx2 : x ∈ pr ++ [m]
    · exact hx2
    · rw [decide_eq_false hx2] at h2
      cases h2
  have el : pr ++ (m :: op ++ [i]) = (pr ++ m :: op) ++ [i] := by simp
  have hput : ∀ j : Int, 0 ≤ j → j < 256 → gB (putD S i true) j = if i = j then true else gB S j := fun j a b => gB_put hSl a b
  refine ⟨?_, fun j a b => ?_, fun j hj => ?_, by rw [List.length_set]; exact hll, hml', hleft, fun j a b c d e x hx => ?_, fun j a b c d e => ?_, fun j a b c d => ?_, fun C hC j hj => ?_, ?_, fun j a b => ?_⟩
  · rw [el, List.nodup_append]
    refine ⟨h.nd, List.nodup_cons.2 ⟨List.not_mem_nil, List.nodup_nil⟩, fun a ha b hb => ?_⟩
    rw [List.mem_singleton] at hb
    subst hb
    exact fun e => hni (e ▸ ha)
  · rw [hput j a b, el, List.mem_append, List.mem_singleton]
    by_cases e : i = j
    · subst e
      simp
    · rw [if_neg e, h.mem j a b]
      exact ⟨.inl, fun hh => hh.resolve_right fun h2 => e h2.symm⟩
  · rw [el, List.mem_append, List.mem_singleton] at hj
    rcases hj with hj | rfl
    · exact h.rng j hj
    · exact ⟨hi.1, hi.2.1, hi.2.2.1⟩
  · rw [hput j a (by omega)] at e
    by_cases hj : i = j
    · rw [if_pos hj] at e
      cases e
    · rw [if_neg hj] at e
      have := h.own j a b c d e x hx
      rwa [in_rest hj] at this
  · rw [hput j a (by omega)] at e
    by_cases hj : i = j
    · rw [if_pos hj] at e
      cases e
    · rw [if_neg hj] at e
      rw [gI_setE hi.1 (by omega) a, if_neg hj]
      exact h.oth j a b c d e
  · rw [hput j a b]
    split
    · rfl
    · exact h.base j a b c d
  · rw [el, List.mem_append, List.mem_singleton] at hj
    rcases hj with hj | rfl
    · exact h.snd C hC j hj
    · by_cases hp : gI g.ow j = p
      · exact hC.own j hi.1 hi.2.1 hi.2.2.1 hp m hi.2.2.2.2 hi.2.2.2.1 (h.snd C hC m (by simp))
      · refine hC.oth j hi.1 hi.2.1 hi.2.2.1 hp ⟨m, hi.2.2.2.2, hi.2.2.2.1⟩ fun x hx hIx => h.snd C hC x ?_
        have := hall hp x hx hIx
        rw [List.mem_append, List.mem_singleton] at this
        rw [List.mem_append, List.mem_cons]
        exact this.imp id .inl
  · intro a j b e
    rw [el] at e
    rcases concat_split e with ⟨rfl, rfl, rfl⟩ | ⟨b', e2⟩
    · by_cases hp : gI g.ow j = p
      · refine .inr (.inl ⟨hp, ?_⟩)
        have hm : gI mvs' j = m := by
          rcases hmv with ⟨_, rfl⟩ | ⟨h2, _⟩
          · rw [gI_setE hi.1 (by omega) hi.1, if_pos rfl]
          · exact absurd hp h2
        rw [hm]
        exact ⟨hi.2.2.2.2, by simp⟩
      · refine .inr (.inr ⟨hp, fun x hx hIx => ?_⟩)
        have := hall hp x hx hIx
        rw [List.mem_append, List.mem_singleton] at this
        rw [List.mem_append, List.mem_cons]
        exact this.imp id .inl
    · have hj : j ∈ pr ++ m :: op := by rw [e2]; simp
      have hji : j ≠ i := fun e3 => hni (e3 ▸ hj)
      have hj0 := (h.rng j hj).1
      rw [hne j hj0 hji]
      exact h.rank a j b' e2
  · rw [hput j a (by omega)]
    by_cases hj : i = j
    · subst hj
      rw [if_pos rfl]
      by_cases hp : gI g.ow i = p
      · by_cases ht : gB T i = true
        · have := h.base i a (by omega) ht hi.2.2.1
          rw [this] at hs
          cases hs
        · exact .inl ⟨rfl, by simpa using ht, hp⟩
      · refine .inr ?_
        rcases hmv with ⟨h2, _⟩ | ⟨_, rfl⟩
        · exact absurd h2 hp
        · rcases h.mv i a b with h3 | h3
          · rw [h3.1] at hs
            cases hs
          · exact h3
    · rw [if_neg hj, hne j a (fun e => hj e.symm)]
      exact h.mv j a b
theorem aw_close {g : GameL} {I T S : List Bool} {p m : Int} {op lf mvs pr : List Int} (h : AW g I p T S (m :: op) lf mvs pr [m] []) : AW g I p T S op lf mvs (pr ++ [m]) [] [] := by
  have e : pr ++ [m] ++ op = pr ++ m :: op := by simp
  refine ⟨by rw [e]; exact h.nd, fun j a b => by rw [e]; exact h.mem j a b, fun j hj => h.rng j (by rw [← e]; exact hj), h.ll, h.ml, fun i a b c => ?_, fun i a b c d f x hx => ?_, h.oth, h.base, fun C hC j hj => h.snd C hC j (by rw [← e]; exact hj), by rw [e]; exact h.rank, h.mv⟩
  · rw [h.left i a b c]
    exact cM_congr fun x _ => by simp
  · have := h.own i a b c d f x hx
    simpa using this
theorem aw_end {g : GameL} (hG : RightG g) {I T S : List Bool} {p : Int} {lf mvs pr : List Int} (h : AW g I p T S [] lf mvs pr [] []) : AttrT g I p T S ∧ MovA g I p T S mvs := by
  have hn := hG.n1
  have hm : ∀ j : Int, 0 ≤ j → j < 256 → (gB S j = true ↔ j ∈ pr) := fun j a b => by simpa using h.mem j a b
  have hr : ∀ j ∈ pr, 0 ≤ j ∧ j < (g.ow.length : Int) ∧ gB I j = true := fun j hj => h.rng j (by simpa using hj)
  refine ⟨⟨⟨h.base, fun i a b c d x hx hIx hSx => ?_, fun i a b c d hex hal => ?_⟩, fun j a b hj => (hr j ((hm j a b).1 hj)).2.2, fun C hC j a b hj => h.snd C hC j (by simpa using (hm j a b).1 hj)⟩, ⟨h.ml, h.mv, pr, hm, hr, by simpa using h.rank⟩⟩
  · by_cases hs : gB S i = true
    · exact hs
    · have h1 := h.own i a b c d (by simpa using hs) x hx
      have hx2 : 0 ≤ x ∧ x < 256 := by
        obtain ⟨k, hk, rfl⟩ := List.mem_iff_getElem.1 hx
        have := hG.mv i a b (k : Int) (by omega) (by omega)
        have e : gI (gL g.mv i) (k : Int) = (gL g.mv i)[k] := by simp only [gI, Int.toNat_natCast, List.getD_eq_getElem?_getD, List.getElem?_eq_getElem hk, Option.getD_some]
        rw [e] at this
        omega
      have h2 := (hm x hx2.1 hx2.2).1 hSx
      simp at h1
      exact absurd h2 h1
  · by_cases hs : gB S i = true
    · exact hs
    · rcases h.oth i a b c d (by simpa using hs) with h1 | h1
      · rw [h.left i a b c] at h1
        obtain ⟨x, hx, hf⟩ := cM_pos h1
        simp only [List.not_mem_nil, if_false, List.append_nil, Bool.and_eq_true, Bool.not_eq_true', decide_eq_false_iff_not] at hf
        have hx2 : 0 ≤ x ∧ x < 256 := by
          obtain ⟨k, hk, rfl⟩ := List.mem_iff_getElem.1 hx
          have := hG.mv i a b (k : Int) (by omega) (by omega)
          have e : gI (gL g.mv i) (k : Int) = (gL g.mv i)[k] := by simp only [gI, Int.toNat_natCast, List.getD_eq_getElem?_getD, List.getElem?_eq_getElem hk, Option.getD_some]
          rw [e] at this
          omega
        exact absurd ((hm x hx2.1 hx2.2).1 (hal x hx hf.1)) hf.2
      · obtain ⟨x, hx, hIx⟩ := hex
        rw [h1 x hx] at hIx
        cases hIx
end Go.Proofs.YtkkophhnliplhaaDoor
set_option linter.unusedVariables false
set_option linter.unusedSimpArgs false
namespace Go.Proofs.YtkkophhnliplhaaDoor
open Go Go.RowKit
theorem gI_eq {l : List Int} {k : Int} (h0 : 0 ≤ k) (h1 : k < (l.length : Int)) : gI l k = l[k.toNat]'(by omega) := by
  simp only [gI, List.getD_eq_getElem?_getD, List.getElem?_eq_getElem (show k.toNat < l.length by omega), Option.getD_some]
theorem mv_sorted {g : GameL} (hG : RightG g) {i : Int} (a : 0 ≤ i) (b : i < (g.ow.length : Int)) : (gL g.mv i).Pairwise (· < ·) := by
  have hup := hG.up i a b
  generalize gL g.mv i = l at *
  have h2 : ∀ d k : Nat, k + d + 1 < l.length → gI l (k : Int) < gI l ((k + d + 1 : Nat) : Int) := by
    intro d
    induction d with
    | zero =>
      intro k hk
      have := hup ((k + 0 + 1 : Nat) : Int) (by omega) (by omega)
      rwa [show (((k + 0 + 1 : Nat) : Int) - 1) = (k : Int) by omega] at this
    | succ d ih =>
      intro k hk
      have h3 := ih k (by omega)
      have h4 := hup ((k + (d + 1) + 1 : Nat) : Int) (by omega) (by omega)
      rw [show (((k + (d + 1) + 1 : Nat) : Int) - 1) = ((k + d + 1 : Nat) : Int) by omega] at h4
      omega
  rw [List.pairwise_iff_getElem]
  intro x y hx hy hxy
  have := h2 (y - x - 1) x (by omega)
  rw [show x + (y - x - 1) + 1 = y by omega, gI_eq (by omega) (by omega), gI_eq (by omega) (by omega)] at this
  exact this
theorem mv_nd {g : GameL} (hG : RightG g) : ∀ i : Int, 0 ≤ i → i < (g.ow.length : Int) → (gL g.mv i).Nodup := fun i a b =>
  (mv_sorted hG a b).imp (fun h => by omega)
theorem take_cM {l : List Int} {f : Int → Bool} {q : Int} (h0 : 0 ≤ q) (h1 : q < (l.length : Int)) : cM (l.take (q + 1).toNat) f = cM (l.take q.toNat) f + if f (gI l q) = true then 1 else 0 := by
  rw [show (q + 1).toNat = q.toNat + 1 by omega, List.take_succ_eq_append_getElem (show q.toNat < l.length by omega), ← gI_eq h0 h1]
  unfold cM
  rw [List.filter_append]
  cases hf : f (gI l q) <;> simp [hf]
theorem mem_take {l : List Int} {q x : Int} (h0 : 0 ≤ q) (h1 : q < (l.length : Int)) : x ∈ l.take (q + 1).toNat ↔ x ∈ l.take q.toNat ∨ x = gI l q := by
  rw [show (q + 1).toNat = q.toNat + 1 by omega, List.take_succ_eq_append_getElem (show q.toNat < l.length by omega), ← gI_eq h0 h1, List.mem_append, List.mem_singleton]
theorem not_take {l : List Int} (hn : l.Nodup) {q : Int} (h0 : 0 ≤ q) (h1 : q < (l.length : Int)) : gI l q ∉ l.take q.toNat := fun h => by
  obtain ⟨k, hk, e⟩ := List.mem_iff_getElem.1 h
  rw [List.length_take] at hk
  rw [List.getElem_take, gI_eq h0 h1] at e
  have := (List.getElem_inj hn).1 e
  omega
structure FrA (g : GameL) (I : List Bool) (fr : List (List Int)) (lf : List Int) (i q : Int) : Prop where
  len : fr.length = g.ow.length
  ll : lf.length = g.ow.length
  mem : ∀ m j : Int, 0 ≤ m → m < (g.ow.length : Int) → (j ∈ gL fr m ↔ 0 ≤ j ∧ j < (g.ow.length : Int) ∧ gB I j = true ∧ gB I m = true ∧ ((j < i ∧ m ∈ gL g.mv j) ∨ (j = i ∧ m ∈ (gL g.mv i).take q.toNat)))
  nd : ∀ m : Int, 0 ≤ m → m < (g.ow.length : Int) → (gL fr m).Nodup
  lf : ∀ j : Int, 0 ≤ j → j < (g.ow.length : Int) → gI lf j = if j < i then (if gB I j = true then cM (gL g.mv j) (gB I) else 0) else if j = i then cM ((gL g.mv i).take q.toNat) (gB I) else 0
  cnt : ∀ m : Int, 0 ≤ m → m < (g.ow.length : Int) → ((gL fr m).length : Int) ≤ 200 * i + q
theorem gI_rep0 (n : Nat) (m : Int) : gI (List.replicate n 0) m = 0 := by
  simp only [gI, List.getD_eq_getElem?_getD, List.getElem?_replicate]
  split <;> rfl
theorem fra0 {g : GameL} {I : List Bool} : FrA g I (List.replicate g.ow.length []) (List.replicate g.ow.length 0) 0 0 := by
  refine ⟨List.length_replicate, List.length_replicate, fun m j a b => ?_, fun m a b => by rw [gL_rep]; exact List.nodup_nil, fun j a b => ?_, fun m a b => by rw [gL_rep]; simp⟩
  · rw [gL_rep]
    refine ⟨fun h => (List.not_mem_nil h).elim, fun h => ?_⟩
    rcases h.2.2.2.2 with h2 | h2
    · omega
    · simp at h2
  · rw [gI_rep0, if_neg (by omega)]
    split
    · simp [cM]
    · rfl
theorem fra_row {g : GameL} (hG : RightG g) {I : List Bool} {fr : List (List Int)} {lf : List Int} {i q : Int} (h : FrA g I fr lf i q) (h0 : 0 ≤ i) (h1 : i < (g.ow.length : Int)) (hq : ((gL g.mv i).length : Int) ≤ q) (hq2 : q ≤ ((gL g.mv i).length : Int)) (hI : gB I i = true) : FrA g I fr lf (i + 1) 0 := by
  have hr := row_len hG h0 h1
  have hn := hG.n1
  have e : (gL g.mv i).take q.toNat = gL g.mv i := List.take_of_length_le (by omega)
  refine ⟨h.len, h.ll, fun m j a b => ?_, h.nd, fun j a b => ?_, fun m a b => by have := h.cnt m a b; omega⟩
  · rw [h.mem m j a b, e]
    constructor
    · rintro ⟨c, d, f, k, l⟩
      refine ⟨c, d, f, k, ?_⟩
      rcases l with l | l
      · exact .inl ⟨by omega, l.2⟩
      · obtain ⟨rfl, l⟩ := l
        exact .inl ⟨by omega, l⟩
    · rintro ⟨c, d, f, k, l⟩
      refine ⟨c, d, f, k, ?_⟩
      rcases l with l | l
      · by_cases hj : j = i
        · subst hj
          exact .inr ⟨rfl, l.2⟩
        · exact .inl ⟨by omega, l.2⟩
      · simp at l
  · rw [h.lf j a b]
    by_cases hj : j < i
    · rw [if_pos hj, if_pos (show j < i + 1 by omega)]
    · rw [if_neg hj]
      by_cases he : j = i
      · subst he
        rw [if_pos rfl, if_pos (by omega), if_pos hI, e]
      · rw [if_neg he, if_neg (by omega)]
        split
        · simp [cM]
        · rfl
theorem fra_out {g : GameL} (hG : RightG g) {I : List Bool} {fr : List (List Int)} {lf : List Int} {i : Int} (h : FrA g I fr lf i 0) (h0 : 0 ≤ i) (h1 : i < (g.ow.length : Int)) (hI : gB I i = false) : FrA g I fr lf (i + 1) 0 := by
  refine ⟨h.len, h.ll, fun m j a b => ?_, h.nd, fun j a b => ?_, fun m a b => by have := h.cnt m a b; omega⟩
  · rw [h.mem m j a b]
    constructor
    · rintro ⟨c, d, f, k, l⟩
      refine ⟨c, d, f, k, ?_⟩
      rcases l with l | l
      · exact .inl ⟨by omega, l.2⟩
      · simp at l
    · rintro ⟨c, d, f, k, l⟩
      refine ⟨c, d, f, k, ?_⟩
      rcases l with l | l
      · by_cases hj : j = i
        · subst hj
          rw [hI] at f
          cases f
        · exact .inl ⟨by omega, l.2⟩
      · simp at l
  · rw [h.lf j a b]
    by_cases hj : j < i
    · rw [if_pos hj, if_pos (show j < i + 1 by omega)]
    · rw [if_neg hj]
      by_cases he : j = i
      · subst he
        rw [if_pos rfl, if_pos (by omega), if_neg (by rw [hI]; decide)]
        simp [cM]
      · rw [if_neg he, if_neg (by omega)]
        split
        · simp [cM]
        · rfl
theorem fra_skip {g : GameL} (hG : RightG g) {I : List Bool} {fr : List (List Int)} {lf : List Int} {i q : Int} (h : FrA g I fr lf i q) (h0 : 0 ≤ i) (h1 : i < (g.ow.length : Int)) (k0 : 0 ≤ q) (k1 : q < ((gL g.mv i).length : Int)) (hm : gB I (gI (gL g.mv i) q) = false) : FrA g I fr lf i (q + 1) := by
  refine ⟨h.len, h.ll, fun m j a b => ?_, h.nd, fun j a b => ?_, fun m a b => by have := h.cnt m a b; omega⟩
  · rw [h.mem m j a b, mem_take k0 k1]
    constructor
    · rintro ⟨c, d, f, k, l⟩
      exact ⟨c, d, f, k, l.imp id fun x => ⟨x.1, .inl x.2⟩⟩
    · rintro ⟨c, d, f, k, l⟩
      refine ⟨c, d, f, k, l.imp id fun x => ⟨x.1, x.2.resolve_right fun e => ?_⟩⟩
      subst e
      rw [hm] at k
      cases k
  · rw [h.lf j a b, take_cM k0 k1, if_neg (show ¬ gB I (gI (gL g.mv i) q) = true by rw [hm]; decide), Int.add_zero]
theorem fra_push {g : GameL} (hG : RightG g) {I : List Bool} {fr : List (List Int)} {lf : List Int} {i q : Int} (h : FrA g I fr lf i q) (h0 : 0 ≤ i) (h1 : i < (g.ow.length : Int)) (k0 : 0 ≤ q) (k1 : q < ((gL g.mv i).length : Int)) (hI : gB I i = true) (hm : gB I (gI (gL g.mv i) q) = true) :
    FrA g I (fr.set (gI (gL g.mv i) q).toNat (gL fr (gI (gL g.mv i) q) ++ [i])) (lf.set i.toNat (gI lf i + 1)) i (q + 1) := by
  have hr := hG.mv i h0 h1 q k0 k1
  have hl := h.len
  have hll := h.ll
  have hni : i ∉ gL fr (gI (gL g.mv i) q) := fun hh => by
    rcases ((h.mem _ i hr.1 hr.2).1 hh).2.2.2.2 with l | l
    · omega
    · exact not_take (mv_nd hG i h0 h1) k0 k1 l.2
  refine ⟨by rw [List.length_set]; exact hl, by rw [List.length_set]; exact hll, fun m j a b => ?_, fun m a b => ?_, fun j a b => ?_, fun m a b => ?_⟩
  · rw [gL_set hr.1 (by omega) a, mem_take k0 k1]
    by_cases e : gI (gL g.mv i) q = m
    · rw [if_pos e, List.mem_append, List.mem_singleton, e, h.mem m j a b]
      constructor
      · rintro (⟨c, d, f, k, l⟩ | rfl)
        · exact ⟨c, d, f, k, l.imp id fun x => ⟨x.1, .inl x.2⟩⟩
        · exact ⟨h0, h1, hI, e ▸ hm, .inr ⟨rfl, .inr rfl⟩⟩
      · rintro ⟨c, d, f, k, l⟩
        by_cases hj : j = i
        · exact .inr hj
        · refine .inl ⟨c, d, f, k, ?_⟩
          rcases l with l | l
          · exact .inl l
          · exact absurd l.1 hj
    · rw [if_neg e, h.mem m j a b]
      constructor
      · rintro ⟨c, d, f, k, l⟩
        exact ⟨c, d, f, k, l.imp id fun x => ⟨x.1, .inl x.2⟩⟩
      · rintro ⟨c, d, f, k, l⟩
        exact ⟨c, d, f, k, l.imp id fun x => ⟨x.1, x.2.resolve_right fun e2 => e e2.symm⟩⟩
  · rw [gL_set hr.1 (by omega) a]
    by_cases e : gI (gL g.mv i) q = m
    · rw [if_pos e, List.nodup_append]
      refine ⟨h.nd _ hr.1 hr.2, List.nodup_cons.2 ⟨List.not_mem_nil, List.nodup_nil⟩, fun x hx y hy => ?_⟩
      rw [List.mem_singleton] at hy
      subst hy
      exact fun e3 => hni (e3 ▸ hx)
    · rw [if_neg e]
      exact h.nd m a b
  · rw [gI_setE h0 (by omega) a]
    have h5 := h.lf j a b
    by_cases hj : i = j
    · subst hj
      rw [if_pos rfl, if_neg (by omega), if_pos rfl, take_cM k0 k1, if_pos hm]
      rw [if_neg (by omega), if_pos rfl] at h5
      omega
    · rw [if_neg hj, h5]
      by_cases hlt : j < i
      · rw [if_pos hlt, if_pos hlt]
      · rw [if_neg hlt, if_neg hlt, if_neg (fun e => hj e.symm), if_neg (fun e => hj e.symm)]
  · rw [gL_set hr.1 (by omega) a]
    have h3 := h.cnt m a b
    have h4 := h.cnt _ hr.1 hr.2
    split
    · rw [List.length_append]
      simp
      omega
    · omega
theorem fra_leads {g : GameL} {I : List Bool} {fr : List (List Int)} {lf : List Int} (h : FrA g I fr lf (g.ow.length : Int) 0) {m : Int} (a : 0 ≤ m) (b : m < (g.ow.length : Int)) : LeadsT g I m (gL fr m) := by
  refine ⟨h.nd m a b, fun i => ?_⟩
  rw [h.mem m i a b]
  constructor
  · rintro ⟨c, d, f, k, l⟩
    refine ⟨c, d, f, k, ?_⟩
    rcases l with l | l
    · exact l.2
    · simp at l
  · rintro ⟨c, d, f, k, l⟩
    exact ⟨c, d, f, k, .inl ⟨d, l⟩⟩
theorem fra_lf {g : GameL} {I : List Bool} {fr : List (List Int)} {lf : List Int} (h : FrA g I fr lf (g.ow.length : Int) 0) : ∀ i : Int, 0 ≤ i → i < (g.ow.length : Int) → gB I i = true → gI lf i = cM (gL g.mv i) (gB I) := fun i a b c => by
  rw [h.lf i a b, if_pos b, if_pos c]
/-- The positions that count: those of s that the game has. -/
def inS (g : GameL) (s : List Int) : List Int := andS s (fullW ((g.ow.length : Nat) : Int))
def inT (g : GameL) (s : List Int) : List Bool := fromW (inS g s)
theorem inS_ok {g : GameL} {s : List Int} (h : OkW s) : OkW (inS g s) := okW_andS h (fullW_W _)
theorem gB_inT {g : GameL} {s : List Int} {j : Int} (a : 0 ≤ j) (b : j < 256) : gB (inT g s) j = (gB (fromW s) j && decide (j < (g.ow.length : Int))) := by
  rw [inT, inS, from_andS, gB_andD a b, from_full, gB_fullD a b]
theorem inT_lt {g : GameL} {s : List Int} : ∀ j : Int, 0 ≤ j → j < 256 → gB (inT g s) j = true → j < (g.ow.length : Int) := fun j a b h => by
  rw [gB_inT a b, Bool.and_eq_true] at h
  exact of_decide_eq_true h.2
theorem has_inT {g : GameL} {s : List Int} {m : Int} (a : 0 ≤ m) (b : m < 256) : hasW (inS g s) m = gB (inT g s) m := by
  rw [hasW_from, hasD, decide_eq_true ⟨a, b⟩, Bool.true_and, inT]
theorem mv_in {g : GameL} (hG : RightG g) {i q : Int} (a : 0 ≤ i) (b : i < (g.ow.length : Int)) (k0 : 0 ≤ q) (k1 : q < ((gL g.mv i).length : Int)) : gI (gL g.mv i) q ∈ gL g.mv i := by
  rw [gI_eq k0 k1]
  exact List.getElem_mem _
def AttractT (g : GameL) (s : List Int) (p : Int) (t ss mvs : List Int) : Prop :=
  OkW ss ∧ ((¬ (isR g = true ∧ (p = 0 ∨ p = 1)) ∧ ss = [0, 0, 0, 0] ∧ mvs = []) ∨ (isR g = true ∧ (p = 0 ∨ p = 1) ∧ AttrT g (inT g s) p (fromW t) (fromW ss) ∧ MovA g (inT g s) p (fromW t) (fromW ss) mvs))
end Go.Proofs.YtkkophhnliplhaaDoor
set_option linter.unusedVariables false
set_option linter.unusedSimpArgs false
namespace Go.Proofs.YtkkophhnliplhaaDoor
open Go Go.RowKit
theorem ms_next {ms : List Int} {i : Int} (h : ∀ j : Int, 0 ≤ j → j < i → gI ms j = -1) (h0 : 0 ≤ i) (h1 : i < (ms.length : Int)) : ∀ j : Int, 0 ≤ j → j < i + 1 → gI (ms.set i.toNat (-1)) j = -1 := fun j a b => by
  rw [gI_setE h0 (by omega) a]
  split
  · rfl
  · exact h j a (by omega)
theorem cM_le (l : List Int) (f : Int → Bool) : cM l f ≤ (l.length : Int) := by
  have := List.length_filter_le f l
  unfold cM
  omega
theorem fra_lb {g : GameL} {I : List Bool} {fr : List (List Int)} {lf : List Int} {i q : Int} (h : FrA g I fr lf i q) (h0 : 0 ≤ i) (h1 : i < (g.ow.length : Int)) (hq : 0 ≤ q) : 0 ≤ gI lf i ∧ gI lf i ≤ q := by
  have e := h.lf i h0 h1
  rw [if_neg (by omega), if_pos rfl] at e
  have h2 := cM_le ((gL g.mv i).take q.toNat) (gB I)
  have h3 := cM_ge ((gL g.mv i).take q.toNat) (gB I)
  rw [List.length_take] at h2
  omega
theorem aw_lb {g : GameL} (hG : RightG g) {I T S : List Bool} {p i : Int} {op lf mvs pr cur rest : List Int} (h : AW g I p T S op lf mvs pr cur rest) (h0 : 0 ≤ i) (h1 : i < (g.ow.length : Int)) (hi : gB I i = true) : 0 ≤ gI lf i ∧ gI lf i ≤ 200 := by
  have e := h.left i h0 h1 hi
  rw [e]
  have h2 := cM_le (gL g.mv i) (fun x => gB I x && !decide (x ∈ (if i ∈ rest then pr else pr ++ cur)))
  have h3 := row_len hG h0 h1
  have h4 := hG.n1
  exact ⟨cM_ge _ _, by omega⟩
theorem aw_len {g : GameL} {I T S : List Bool} {p : Int} {op lf mvs pr cur rest : List Int} (h : AW g I p T S op lf mvs pr cur rest) : op.length ≤ g.ow.length := by
  have h1 : op.Nodup := (List.nodup_append.1 h.nd).2.1
  have hr : ∀ j ∈ op, 0 ≤ j ∧ j < (g.ow.length : Int) := fun j hj => by
    have := h.rng j (List.mem_append.2 (.inr hj))
    exact ⟨this.1, this.2.1⟩
  have h2 : (op.map Int.toNat).Nodup := by
    refine List.pairwise_map.2 (List.Pairwise.imp_of_mem (fun {a b} ha hb hab e => hab ?_) h1)
    have := hr a ha
    have := hr b hb
    omega
  have h3 : (op.map Int.toNat) ⊆ List.range g.ow.length := fun x hx => by
    obtain ⟨y, hy, rfl⟩ := List.mem_map.1 hx
    have := hr y hy
    simp
    omega
  have := List.Nodup.length_le_of_subset h2 h3
  simpa using this
theorem op_cons {op : List Int} (h : 0 < op.length) : op = gI op 0 :: op.drop 1 := by
  cases op with
  | nil => simp at h
  | cons x r => rfl
theorem nd_drop {l : List Int} (h : l.Nodup) {k : Int} (h0 : 0 ≤ k) (h1 : k < (l.length : Int)) : gI l k ∉ l.drop (k + 1).toNat := by
  have h2 : (l.drop k.toNat).Nodup := h.sublist (List.drop_sublist _ _)
  rw [drop_at (r := []) h0 h1, List.nodup_cons] at h2
  exact h2.1
theorem has_W {s : List Int} {i : Int} (a : 0 ≤ i) (b : i < 256) : hasW s i = gB (fromW s) i := by rw [hasW_from, hasD, decide_eq_true ⟨a, b⟩, Bool.true_and]
theorem right_of2 {g : GameL} (h : (rightP g).2 = 0) : isR g = true := by unfold isR; simp [h]
theorem right_no3 {g : GameL} {p : Int} (h : (rightP g).2 ≠ 0 ∨ (p ≠ 0 ∧ p ≠ 1)) : ¬ (isR g = true ∧ (p = 0 ∨ p = 1)) := fun h2 => by
  have h3 := h2.1
  unfold isR at h3
  simp at h3
  omega
theorem nb00 {x y : List Int} (h : x = y) : (!(decide (x = y))) = false := by rw [decide_eq_true h]; rfl
theorem of_nb {x y : List Int} (h : (!(decide (x = y))) = true) : ¬ x = y := by simpa using h
end Go.Proofs.YtkkophhnliplhaaDoor
set_option linter.unusedVariables false
set_option linter.unusedSimpArgs false
namespace Go.Proofs.YtkkophhnliplhaaDoor
open Go Go.RowKit
section
variable {g : GameL} {s t ss mvs : List Int} {p : Int}
theorem att_ok (h : AttractT g s p t ss mvs) : OkW ss := h.1
theorem att_len (h : AttractT g s p t ss mvs) : mvs.length ≤ 200 := by
  rcases h.2 with h2 | h2
  · rw [h2.2.2]
    decide
  · have := h2.2.2.2.ml
    have := (isR_ok h2.1).n1
    omega
theorem att_in (h : AttractT g s p t ss mvs) (hR : isR g = true) (hp : p = 0 ∨ p = 1) : AttrT g (inT g s) p (fromW t) (fromW ss) ∧ MovA g (inT g s) p (fromW t) (fromW ss) mvs := by
  rcases h.2 with h2 | h2
  · exact absurd ⟨hR, hp⟩ h2.1
  · exact h2.2.2
theorem att_out (h : AttractT g s p t ss mvs) (hR : ¬ (isR g = true ∧ (p = 0 ∨ p = 1))) : ss = [0, 0, 0, 0] ∧ mvs = [] := by
  rcases h.2 with h2 | h2
  · exact h2.2
  · exact absurd ⟨h2.1, h2.2.1⟩ hR
theorem inS_inS (hs : OkW s) : inS g (inS g s) = inS g s := by
  refine (set_iff (inS_ok (inS_ok hs)) (inS_ok hs)).2 fun j a b => ?_
  show gB (inT g (inS g s)) j = gB (inT g s) j
  rw [gB_inT a b, show fromW (inS g s) = inT g s from rfl, gB_inT a b]
  cases gB (fromW s) j <;> cases decide (j < (g.ow.length : Int)) <;> rfl
theorem inT_inT (hs : OkW s) : inT g (inS g s) = inT g s := congrArg fromW (inS_inS hs)
/- Again. -/
theorem again_eq {s t a b m1 m2 : List Int} (h1 : AttractT g s p t a m1) (h2 : AttractT g s p a b m2) : a = b := by
  by_cases hR : isR g = true ∧ (p = 0 ∨ p = 1)
  · obtain ⟨ha, _⟩ := att_in h1 hR.1 hR.2
    obtain ⟨hb, _⟩ := att_in h2 hR.1 hR.2
    refine (set_iff h1.1 h2.1).2 fun j x y => Bool.eq_iff_iff.2 ⟨fun hj => hb.cl.base j x y hj (ha.sub j x y hj), fun hj => hb.least _ ⟨fun j _ _ hj _ => hj, ha.cl.own, ha.cl.oth⟩ j x y hj⟩
  · rw [(att_out h1 hR).1, (att_out h2 hR).1]
theorem again_mv {s t a b m1 m2 : List Int} (h1 : AttractT g s p t a m1) (h2 : AttractT g s p a b m2) {i : Int} (i0 : 0 ≤ i) (i1 : i < (m2.length : Int)) : gI m2 i = -1 := by
  have e := again_eq h1 h2
  rcases h2.2 with h3 | h3
  · rw [h3.2.2] at i1
    simp at i1
    omega
  · have hm := h3.2.2.2
    rcases hm.mv i i0 (by rw [hm.ml] at i1; exact i1) with h4 | h4
    · rw [e] at h4
      rw [h4.1] at h4
      cases h4.2.1
    · exact h4
theorem again_in {s t u a c m1 m2 : List Int} (h1 : AttractT g s p t a m1) (h2 : AttractT g s p (orS t u) c m2) : inW a c = true := by
  rw [inW_from h1.1 h2.1, inD_iff]
  by_cases hR : isR g = true ∧ (p = 0 ∨ p = 1)
  · obtain ⟨ha, _⟩ := att_in h1 hR.1 hR.2
    obtain ⟨hc, _⟩ := att_in h2 hR.1 hR.2
    exact ha.least _ ⟨fun j x y hj hI => hc.cl.base j x y (by rw [from_orS, gB_orD x y, hj]; rfl) hI, hc.cl.own, hc.cl.oth⟩
  · intro j x y hj
    rw [(att_out h1 hR).1, from_00, gB_emptyD] at hj
    cases hj
theorem again_none {s d m1 : List Int} (h1 : AttractT g s p [0, 0, 0, 0] d m1) : d = [0, 0, 0, 0] := by
  by_cases hR : isR g = true ∧ (p = 0 ∨ p = 1)
  · obtain ⟨hd, _⟩ := att_in h1 hR.1 hR.2
    refine (set_iff h1.1 okW_00).2 fun j x y => Bool.eq_iff_iff.2 ⟨fun hj => ?_, fun hj => ?_⟩
    · rw [from_00]
      refine hd.least emptyD ⟨fun j _ _ hj _ => ?_, fun i a b c d x hx hI hE => ?_, fun i a b c d he hal => ?_⟩ j x y hj
      · rwa [from_00] at hj
      · rw [gB_emptyD] at hE
        cases hE
      · obtain ⟨x, hx, hI⟩ := he
        have := hal x hx hI
        rw [gB_emptyD] at this
        cases this
    · rw [from_00, gB_emptyD] at hj
      cases hj
  · exact (att_out h1 hR).1
theorem again_out {t e m1 : List Int} (h1 : AttractT g [0, 0, 0, 0] p t e m1) : e = [0, 0, 0, 0] := by
  by_cases hR : isR g = true ∧ (p = 0 ∨ p = 1)
  · obtain ⟨hd, _⟩ := att_in h1 hR.1 hR.2
    refine (set_iff h1.1 okW_00).2 fun j x y => Bool.eq_iff_iff.2 ⟨fun hj => ?_, fun hj => ?_⟩
    · have := hd.sub j x y hj
      rw [gB_inT x y, from_00, gB_emptyD] at this
      cases this
    · rw [from_00, gB_emptyD] at hj
      cases hj
  · exact (att_out h1 hR).1
/- Traps. -/
theorem traps_in (hs : OkW s) (h : AttractT g (inS g s) p t ss mvs) (hR : isR g = true) (hp : p = 0 ∨ p = 1) : inW ss (inS g s) = true := by
  obtain ⟨ha, _⟩ := att_in h hR hp
  rw [inT_inT hs] at ha
  rw [inW_from h.1 (inS_ok hs), inD_iff]
  exact ha.sub
theorem traps_to (hs : OkW s) (ht : OkW t) (h : AttractT g (inS g s) p t ss mvs) (hR : isR g = true) (hp : p = 0 ∨ p = 1) : inW (andS t (inS g s)) ss = true := by
  obtain ⟨ha, _⟩ := att_in h hR hp
  rw [inT_inT hs] at ha
  rw [inW_from (okW_andS ht (inS_ok hs)) h.1, inD_iff]
  intro j a b hj
  rw [from_andS, gB_andD a b, Bool.and_eq_true] at hj
  exact ha.cl.base j a b hj.1 hj.2
/-- The words of a position's moves within. -/
theorem mem_row {l : List Int} {j : Int} (a : 0 ≤ j) (b : j < 256) : gB (fromW (ofW l)) j = decide (j ∈ l) := by rw [from_of, gB_ofD l a b]
theorem ne_00 {x : List Int} (hx : OkW x) {j : Int} (a : 0 ≤ j) (b : j < 256) (h : gB (fromW x) j = true) : decide (x = [0, 0, 0, 0]) = false := by
  refine decide_eq_false fun e => ?_
  rw [e, from_00, gB_emptyD] at h
  cases h
theorem eq_00 {x : List Int} (hx : OkW x) (h : ∀ j : Int, 0 ≤ j → j < 256 → gB (fromW x) j = false) : x = [0, 0, 0, 0] :=
  (set_iff hx okW_00).2 fun j a b => by rw [h j a b, from_00, gB_emptyD]
theorem not_00 {x : List Int} (hx : OkW x) (h : ¬ x = [0, 0, 0, 0]) : ∃ j : Int, 0 ≤ j ∧ j < 256 ∧ gB (fromW x) j = true := by
  have hex : ¬ ∀ j : Int, 0 ≤ j → j < 256 → gB (fromW x) j = false := fun hh => h (eq_00 hx hh)
  obtain ⟨j, hj⟩ := Classical.not_forall.1 hex
  by_cases a : 0 ≤ j
  · by_cases b : j < 256
    · exact ⟨j, a, b, by
        by_cases hb : gB (fromW x) j = true
        · exact hb
        · exact absurd (fun _ _ => by simpa using hb) hj⟩
    · exact absurd (fun _ h2 => absurd h2 b) hj
  · exact absurd (fun h2 => absurd h2 a) hj
theorem row_rng (hR : isR g = true) {i x : Int} (a : 0 ≤ i) (b : i < (g.ow.length : Int)) (hx : x ∈ gL g.mv i) : 0 ≤ x ∧ x < (g.ow.length : Int) := by
  have hG := isR_ok hR
  obtain ⟨k, hk, rfl⟩ := List.mem_iff_getElem.1 hx
  have := hG.mv i a b (k : Int) (by omega) (by omega)
  rwa [gI_eq (by omega) (by omega)] at this
theorem traps_own (hs : OkW s) (h : AttractT g (inS g s) p t ss mvs) (hR : isR g = true) (hp : p = 0 ∨ p = 1) {i : Int} (a : 0 ≤ i) (b : i < (g.ow.length : Int)) (hi : hasW (minusS (inS g s) ss) i = true) (ho : gI g.ow i = p) :
    andS (andS (ofW (gL g.mv i)) (inS g s)) ss = [0, 0, 0, 0] := by
  obtain ⟨ha, _⟩ := att_in h hR hp
  have hn := (isR_ok hR).n1
  rw [inT_inT hs] at ha
  rw [hasW_from, hasD, decide_eq_true ⟨a, by omega⟩, Bool.true_and, from_minusS h.1, gB_minusD a (by omega), Bool.and_eq_true] at hi
  refine eq_00 (okW_andS (okW_andS (ofW_ok _) (inS_ok hs)) h.1) fun j c d => ?_
  rw [from_andS, gB_andD c d, from_andS, gB_andD c d, mem_row c d]
  by_cases hj : j ∈ gL g.mv i
  · cases hI : gB (fromW (inS g s)) j
    · simp
    · cases hS : gB (fromW ss) j
      · simp
      · have := ha.cl.own i a b hi.1 ho j hj hI hS
        rw [this] at hi
        simp at hi
  · simp [hj]
theorem traps_oth (hs : OkW s) (h : AttractT g (inS g s) p t ss mvs) (hR : isR g = true) (hp : p = 0 ∨ p = 1) {i : Int} (a : 0 ≤ i) (b : i < (g.ow.length : Int)) (hi : hasW (minusS (inS g s) ss) i = true) (ho : gI g.ow i ≠ p) (hl : ¬ andS (ofW (gL g.mv i)) (inS g s) = [0, 0, 0, 0]) :
    ¬ andS (andS (ofW (gL g.mv i)) (inS g s)) (minusS (inS g s) ss) = [0, 0, 0, 0] := by
  obtain ⟨ha, _⟩ := att_in h hR hp
  have hn := (isR_ok hR).n1
  rw [inT_inT hs] at ha
  rw [hasW_from, hasD, decide_eq_true ⟨a, by omega⟩, Bool.true_and, from_minusS h.1, gB_minusD a (by omega), Bool.and_eq_true] at hi
  intro e
  obtain ⟨y, y0, y1, hy⟩ := not_00 (okW_andS (ofW_ok _) (inS_ok hs)) hl
  rw [from_andS, gB_andD y0 y1, mem_row y0 y1, Bool.and_eq_true] at hy
  have := ha.cl.oth i a b hi.1 ho ⟨y, of_decide_eq_true hy.1, hy.2⟩ fun x hx hI => by
    have hx2 := row_rng hR a b hx
    have e2 : gB (fromW (andS (andS (ofW (gL g.mv i)) (inS g s)) (minusS (inS g s) ss))) x = false := by rw [e, from_00, gB_emptyD]
    have hI2 : gB (fromW (inS g s)) x = true := hI
    rw [from_andS, gB_andD hx2.1 (by omega), from_andS, gB_andD hx2.1 (by omega), mem_row hx2.1 (by omega), from_minusS h.1, gB_minusD hx2.1 (by omega), hI2, decide_eq_true hx] at e2
    simpa using e2
  rw [this] at hi
  simp at hi
/- Own. -/
theorem own_all {g g1 : GameL} {I T A B : List Bool} {p : Int} (hl : g1.ow.length = g.ow.length) (hm : g1.mv = g.mv) (ho : ∀ i : Int, 0 ≤ i → i < (g.ow.length : Int) → gI g1.ow i = p) (ha : AttrT g I p T A) (hb : AttrT g1 I p T B) : ∀ j : Int, 0 ≤ j → j < 256 → gB A j = true → gB B j = true := by
  refine ha.least B ⟨hb.cl.base, fun i a b c d x hx hI hB => ?_, fun i a b c d he hal => ?_⟩
  · exact hb.cl.own i a (by rw [hl]; exact b) c (ho i a b) x (by rw [hm]; exact hx) hI hB
  · obtain ⟨x, hx, hI⟩ := he
    exact hb.cl.own i a (by rw [hl]; exact b) c (ho i a b) x (by rw [hm]; exact hx) hI (hal x hx hI)
theorem own_none {g g0 : GameL} {I T A C : List Bool} {p : Int} (hl : g0.ow.length = g.ow.length) (hm : g0.mv = g.mv) (ho : ∀ i : Int, 0 ≤ i → i < (g.ow.length : Int) → gI g0.ow i ≠ p) (ha : AttrT g I p T A) (hc : AttrT g0 I p T C) : ∀ j : Int, 0 ≤ j → j < 256 → gB C j = true → gB A j = true := by
  refine hc.least A ⟨ha.cl.base, fun i a b c d x hx hI hB => ?_, fun i a b c d he hal => ?_⟩
  · rw [hl] at b
    exact absurd d (ho i a b)
  · rw [hl] at b
    rw [hm] at he hal
    by_cases hp : gI g.ow i = p
    · obtain ⟨x, hx, hI⟩ := he
      exact ha.cl.own i a b c hp x hx hI (hal x hx hI)
    · exact ha.cl.oth i a b c hp he hal
end
end Go.Proofs.YtkkophhnliplhaaDoor
set_option linter.unusedVariables false
set_option linter.unusedSimpArgs false
namespace Go.Proofs.YtkkophhnliplhaaDoor
open Go Go.RowKit
def OwnAt (g : GameL) (I C : List Bool) (i : Int) : Prop := gB I i = true → ∀ x ∈ gL g.mv i, gB I x = true → gB C x = true → gB C i = true
def StayAt (g : GameL) (I C : List Bool) (i : Int) : Prop := gB C i = true → (∃ x ∈ gL g.mv i, gB I x = true) → ∃ x ∈ gL g.mv i, gB I x = true ∧ gB C x = true
theorem cB_mono {l r : List Bool} : ∀ n : Nat, (∀ j : Int, 0 ≤ j → j < n → gB l j = true → gB r j = true) → cB l n ≤ cB r n
  | 0, _ => by rw [cB_0, cB_0]; omega
  | n + 1, h => by
    have ih := cB_mono n fun j a b => h j a (by omega)
    have h2 := h (n : Int) (by omega) (by omega)
    rw [cB_s, cB_s]
    cases hl : gB l (n : Int)
    · simp only [Bool.false_eq_true, if_false]
      split <;> omega
    · rw [h2 hl]
      omega
theorem cB_le (l : List Bool) (m : Nat) : ∀ n : Nat, (∀ j : Int, 0 ≤ j → j < n → gB l j = true → j < (m : Int)) → cB l n ≤ m
  | 0, _ => by rw [cB_0]; omega
  | n + 1, h => by
    have ih := cB_le l m n fun j a b => h j a (by omega)
    by_cases hn : n < m
    · have h2 : ∀ k : Nat, cB l k ≤ (k : Int) := fun k => by
        have := ls_len l k
        unfold cB
        omega
      have := h2 (n + 1)
      omega
    · have : gB l (n : Int) = false := by
        by_cases hb : gB l (n : Int) = true
        · have := h (n : Int) (by omega) (by omega) hb
          omega
        · simpa using hb
      rw [cB_s, this]
      simp
      omega
structure SomeT (g : GameL) (I T : List Bool) (sm : List Int) : Prop where
  ok : OkW sm
  base : ∀ j : Int, 0 ≤ j → j < 256 → gB T j = true → gB I j = true → gB (fromW sm) j = true
  sub : ∀ j : Int, 0 ≤ j → j < 256 → gB (fromW sm) j = true → gB I j = true
  snd : ∀ C, (∀ j : Int, 0 ≤ j → j < 256 → gB T j = true → gB I j = true → gB C j = true) → (∀ i : Int, 0 ≤ i → i < (g.ow.length : Int) → OwnAt g I C i) → ∀ j : Int, 0 ≤ j → j < 256 → gB (fromW sm) j = true → gB C j = true
def SomeP (g : GameL) (I : List Bool) (sm : List Int) (r : Int) : Prop := r ≤ cB (fromW sm) 256 ∨ ∀ i : Int, 0 ≤ i → i < (g.ow.length : Int) → OwnAt g I (fromW sm) i
def SomeK (g : GameL) (I : List Bool) (sm : List Int) (r k : Int) : Prop := r + 1 ≤ cB (fromW sm) 256 ∨ (SomeP g I sm r ∧ ∀ i : Int, 0 ≤ i → i < k → OwnAt g I (fromW sm) i)
theorem someK_0 {g : GameL} {I : List Bool} {sm : List Int} {r : Int} (h : SomeP g I sm r) : SomeK g I sm r 0 := .inr ⟨h, fun i a b => by omega⟩
theorem someP_0 {g : GameL} {I : List Bool} {sm : List Int} : SomeP g I sm 0 := .inl (cB_ge _ _)
theorem someP_s {g : GameL} {I : List Bool} {sm : List Int} {r k : Int} (h : SomeK g I sm r k) (hk : (g.ow.length : Int) ≤ k) : SomeP g I sm (r + 1) := by
  rcases h with h | h
  · exact .inl h
  · exact .inr fun i a b => h.2 i a (by omega)
section
variable {g : GameL} {s t sm sy : List Int}
theorem some_start (hs : OkW s) (ht : OkW t) : SomeT g (inT g s) (fromW t) (andS t (inS g s)) := by
  have e : ∀ j : Int, 0 ≤ j → j < 256 → gB (fromW (andS t (inS g s))) j = (gB (fromW t) j && gB (inT g s) j) := fun j a b => by
    rw [from_andS, gB_andD a b]
    rfl
  refine ⟨okW_andS ht (inS_ok hs), fun j a b c d => by rw [e j a b, c, d]; rfl, fun j a b h => ?_, fun C hb _ j a b h => ?_⟩
  · rw [e j a b, Bool.and_eq_true] at h
    exact h.2
  · rw [e j a b, Bool.and_eq_true] at h
    exact hb j a b h.1 h.2
/-- The words of the moves of i within. -/
def rowS (g : GameL) (s : List Int) (i : Int) : List Int := andS (ofW (gL g.mv i)) (inS g s)
theorem rowS_ok (hs : OkW s) (i : Int) : OkW (rowS g s i) := okW_andS (ofW_ok _) (inS_ok hs)
theorem gB_rowS {i j : Int} (a : 0 ≤ j) (b : j < 256) : gB (fromW (rowS g s i)) j = (decide (j ∈ gL g.mv i) && gB (inT g s) j) := by
  rw [rowS, from_andS, gB_andD a b, mem_row a b]
  rfl
theorem some_hit (hR : isR g = true) (hs : OkW s) (hm : OkW sm) {i : Int} (a : 0 ≤ i) (b : i < (g.ow.length : Int)) (h : ¬ andS (rowS g s i) sm = [0, 0, 0, 0]) : ∃ x ∈ gL g.mv i, gB (inT g s) x = true ∧ gB (fromW sm) x = true := by
  obtain ⟨x, x0, x1, hx⟩ := not_00 (okW_andS (rowS_ok hs i) hm) h
  rw [from_andS, gB_andD x0 x1, gB_rowS x0 x1, Bool.and_eq_true, Bool.and_eq_true] at hx
  exact ⟨x, of_decide_eq_true hx.1.1, hx.1.2, hx.2⟩
theorem some_miss (hR : isR g = true) (hs : OkW s) (hm : OkW sm) {i : Int} (a : 0 ≤ i) (b : i < (g.ow.length : Int)) (h : andS (rowS g s i) sm = [0, 0, 0, 0]) : ∀ x ∈ gL g.mv i, gB (inT g s) x = true → gB (fromW sm) x = false := by
  intro x hx hI
  have hn := (isR_ok hR).n1
  have h2 := row_rng hR a b hx
  have e : gB (fromW (andS (rowS g s i) sm)) x = false := by rw [h, from_00, gB_emptyD]
  rw [from_andS, gB_andD h2.1 (by omega), gB_rowS h2.1 (by omega), decide_eq_true hx, hI] at e
  simpa using e
theorem row_hit (hR : isR g = true) (hs : OkW s) {i : Int} (h : ¬ rowS g s i = [0, 0, 0, 0]) : ∃ x ∈ gL g.mv i, gB (inT g s) x = true := by
  obtain ⟨x, x0, x1, hx⟩ := not_00 (rowS_ok hs i) h
  rw [gB_rowS x0 x1, Bool.and_eq_true] at hx
  exact ⟨x, of_decide_eq_true hx.1, hx.2⟩
theorem row_miss (hR : isR g = true) (hs : OkW s) {i : Int} (a : 0 ≤ i) (b : i < (g.ow.length : Int)) (h : rowS g s i = [0, 0, 0, 0]) : ∀ x ∈ gL g.mv i, gB (inT g s) x = false := by
  intro x hx
  have hn := (isR_ok hR).n1
  have h2 := row_rng hR a b hx
  have e : gB (fromW (rowS g s i)) x = false := by rw [h, from_00, gB_emptyD]
  rw [gB_rowS h2.1 (by omega), decide_eq_true hx] at e
  simpa using e
theorem gB_withW (hm : OkW sm) {i j : Int} (a : 0 ≤ j) (b : j < 256) : gB (fromW (withW sm i)) j = if i = j then true else gB (fromW sm) j := by rw [from_with hm, gB_put (from_len _) a b]
theorem gB_lessW (hm : OkW sm) {i j : Int} (a : 0 ≤ j) (b : j < 256) : gB (fromW (lessW sm i)) j = if i = j then false else gB (fromW sm) j := by rw [from_less hm, gB_put (from_len _) a b]
theorem some_addT {T : List Bool} (hR : isR g = true) (hs : OkW s) (h : SomeT g (inT g s) T sm) {i : Int} (a : 0 ≤ i) (b : i < (g.ow.length : Int)) (hi : gB (inT g s) i = true) (hx : ∃ x ∈ gL g.mv i, gB (inT g s) x = true ∧ gB (fromW sm) x = true) : SomeT g (inT g s) T (withW sm i) := by
  have hn := (isR_ok hR).n1
  refine ⟨okW_with h.ok, fun j c d e f => ?_, fun j c d e => ?_, fun C hb hc j c d e => ?_⟩
  · rw [gB_withW h.ok c d]
    split
    · rfl
    · exact h.base j c d e f
  · rw [gB_withW h.ok c d] at e
    by_cases hj : i = j
    · subst hj
      exact hi
    · rw [if_neg hj] at e
      exact h.sub j c d e
  · rw [gB_withW h.ok c d] at e
    by_cases hj : i = j
    · subst hj
      obtain ⟨x, hx, hI, hS⟩ := hx
      have h2 := row_rng hR a b hx
      exact hc i a b hi x hx hI (h.snd C hb hc x h2.1 (by omega) hS)
    · rw [if_neg hj] at e
      exact h.snd C hb hc j c d e
theorem some_addK {r : Int} (hR : isR g = true) (hm : OkW sm) {i : Int} (h : SomeK g (inT g s) sm r i) (a : 0 ≤ i) (b : i < (g.ow.length : Int)) (hi : gB (inT g s) i = true) (hx : ∃ x ∈ gL g.mv i, gB (inT g s) x = true ∧ gB (fromW sm) x = true) : SomeK g (inT g s) (withW sm i) r (i + 1) := by
  have hn := (isR_ok hR).n1
  by_cases hin : gB (fromW sm) i = true
  · have e : fromW (withW sm i) = fromW sm := list_ext (from_len _) (from_len _) fun j c d => by
      rw [gB_withW hm c d]
      split
      · rename_i e
        rw [← e, hin]
      · rfl
    unfold SomeK SomeP at h ⊢
    rw [e]
    rcases h with h | h
    · exact .inl h
    · refine .inr ⟨h.1, fun j c d => ?_⟩
      by_cases hj : j = i
      · subst hj
        exact fun _ _ _ _ _ => hin
      · exact h.2 j c (by omega)
  · have hc : cB (fromW (withW sm i)) 256 = cB (fromW sm) 256 + 1 := by
      rw [from_with hm, cB_put (from_len _) i true 256 (by omega), if_pos (by omega), if_pos rfl, if_neg hin]
      omega
    refine .inl ?_
    rcases h with h | h
    · omega
    · rcases h.1 with h1 | h1
      · omega
      · obtain ⟨x, hx, hI, hS⟩ := hx
        exact absurd (h1 i a b hi x hx hI hS) hin
theorem some_skipK {r : Int} {i : Int} (h : SomeK g (inT g s) sm r i) (hx : gB (inT g s) i = true → ∀ x ∈ gL g.mv i, gB (inT g s) x = true → gB (fromW sm) x = false) : SomeK g (inT g s) sm r (i + 1) := by
  rcases h with h | h
  · exact .inl h
  · refine .inr ⟨h.1, fun j c d => ?_⟩
    by_cases hj : j = i
    · subst hj
      intro hI x hm hIx hS
      rw [hx hI x hm hIx] at hS
      cases hS
    · exact h.2 j c (by omega)
theorem some_end {g1 : GameL} {T A : List Bool} {p r : Int} (hR : isR g = true) (hs : OkW s) (hl : g1.ow.length = g.ow.length) (hm : g1.mv = g.mv) (ho : ∀ i : Int, 0 ≤ i → i < (g.ow.length : Int) → gI g1.ow i = p) (hA : AttrT g1 (inT g s) p T A)
    (h : SomeT g (inT g s) T sm) (hp : SomeP g (inT g s) sm r) (hr : (g.ow.length : Int) < r) : ∀ j : Int, 0 ≤ j → j < 256 → gB A j = gB (fromW sm) j := by
  have hcl : ∀ i : Int, 0 ≤ i → i < (g.ow.length : Int) → OwnAt g (inT g s) (fromW sm) i := by
    rcases hp with hp | hp
    · have := cB_le (fromW sm) g.ow.length 256 fun j a b hj => inT_lt j a (by omega) (h.sub j a (by omega) hj)
      omega
    · exact hp
  intro j a b
  refine Bool.eq_iff_iff.2 ⟨hA.least _ ⟨h.base, fun i c d e f x hx hI hS => ?_, fun i c d e f he hal => ?_⟩ j a b, h.snd A hA.cl.base (fun i c d hI x hx hIx hS => ?_) j a b⟩
  · exact hcl i c (by rw [hl] at d; exact d) e x (by rw [hm] at hx; exact hx) hI hS
  · rw [hl] at d
    exact absurd (ho i c d) f
  · exact hA.cl.own i c (by rw [hl]; exact d) hI (ho i c d) x (by rw [hm]; exact hx) hIx hS
/- What stays outside. -/
structure StayT (g : GameL) (I T : List Bool) (sy : List Int) : Prop where
  ok : OkW sy
  base : ∀ j : Int, 0 ≤ j → j < 256 → gB T j = true → gB (fromW sy) j = false
  sub : ∀ j : Int, 0 ≤ j → j < 256 → gB (fromW sy) j = true → gB I j = true
  snd : ∀ C, (∀ j : Int, 0 ≤ j → j < 256 → gB T j = true → gB I j = true → gB C j = true) → (∀ i : Int, 0 ≤ i → i < (g.ow.length : Int) → gB I i = true → (∃ x ∈ gL g.mv i, gB I x = true) → (∀ x ∈ gL g.mv i, gB I x = true → gB C x = true) → gB C i = true) →
    ∀ j : Int, 0 ≤ j → j < 256 → gB I j = true → gB (fromW sy) j = false → gB C j = true
def StayP (g : GameL) (I : List Bool) (sy : List Int) (r : Int) : Prop := cB (fromW sy) 256 ≤ (g.ow.length : Int) - r ∨ ∀ i : Int, 0 ≤ i → i < (g.ow.length : Int) → StayAt g I (fromW sy) i
def StayK (g : GameL) (I : List Bool) (sy : List Int) (r k : Int) : Prop := cB (fromW sy) 256 ≤ (g.ow.length : Int) - (r + 1) ∨ (StayP g I sy r ∧ ∀ i : Int, 0 ≤ i → i < k → StayAt g I (fromW sy) i)
theorem stayK_0 {I : List Bool} {r : Int} (h : StayP g I sy r) : StayK g I sy r 0 := .inr ⟨h, fun i a b => by omega⟩
theorem stayP_s {I : List Bool} {r k : Int} (h : StayK g I sy r k) (hk : (g.ow.length : Int) ≤ k) : StayP g I sy (r + 1) := by
  rcases h with h | h
  · exact .inl h
  · exact .inr fun i a b => h.2 i a (by omega)
theorem stay_start (hs : OkW s) (ht : OkW t) : StayT g (inT g s) (fromW t) (minusS (inS g s) t) := by
  have e : ∀ j : Int, 0 ≤ j → j < 256 → gB (fromW (minusS (inS g s) t)) j = (gB (inT g s) j && !gB (fromW t) j) := fun j a b => by
    rw [from_minusS ht, gB_minusD a b]
    rfl
  refine ⟨okW_minusS (inS_ok hs) ht, fun j a b c => by rw [e j a b, c]; simp, fun j a b h => ?_, fun C hb _ j a b h h2 => ?_⟩
  · rw [e j a b, Bool.and_eq_true] at h
    exact h.1
  · rw [e j a b, h] at h2
    exact hb j a b (by simpa using h2) h
theorem stayP_0 {T : List Bool} (h : StayT g (inT g s) T sy) : StayP g (inT g s) sy 0 :=
  .inl (by have := cB_le (fromW sy) g.ow.length 256 fun j a b hj => inT_lt j a (by omega) (h.sub j a (by omega) hj); omega)
theorem stay_lessT {T : List Bool} (hR : isR g = true) (h : StayT g (inT g s) T sy) {i : Int} (a : 0 ≤ i) (b : i < (g.ow.length : Int)) (hi : gB (inT g s) i = true) (he : ∃ x ∈ gL g.mv i, gB (inT g s) x = true) (hx : ∀ x ∈ gL g.mv i, gB (inT g s) x = true → gB (fromW sy) x = false) : StayT g (inT g s) T (lessW sy i) := by
  have hn := (isR_ok hR).n1
  refine ⟨okW_less h.ok, fun j c d e => ?_, fun j c d e => ?_, fun C hb hc j c d e f => ?_⟩
  · rw [gB_lessW h.ok c d]
    split
    · rfl
    · exact h.base j c d e
  · rw [gB_lessW h.ok c d] at e
    split at e
    · cases e
    · exact h.sub j c d e
  · rw [gB_lessW h.ok c d] at f
    by_cases hj : i = j
    · subst hj
      exact hc i a b hi he fun x hm hI => by
        have h2 := row_rng hR a b hm
        exact h.snd C hb hc x h2.1 (by omega) hI (hx x hm hI)
    · rw [if_neg hj] at f
      exact h.snd C hb hc j c d e f
theorem stay_lessK {r : Int} (hR : isR g = true) (hm : OkW sy) {i : Int} (h : StayK g (inT g s) sy r i) (a : 0 ≤ i) (b : i < (g.ow.length : Int)) (hi : gB (fromW sy) i = true) (he : ∃ x ∈ gL g.mv i, gB (inT g s) x = true) (hx : ∀ x ∈ gL g.mv i, gB (inT g s) x = true → gB (fromW sy) x = false) : StayK g (inT g s) (lessW sy i) r (i + 1) := by
  have hn := (isR_ok hR).n1
  have hc : cB (fromW (lessW sy i)) 256 = cB (fromW sy) 256 - 1 := by
    rw [from_less hm, cB_put (from_len _) i false 256 (by omega), if_pos (by omega), if_neg (by decide), if_pos hi]
    omega
  refine .inl ?_
  rcases h with h | h
  · omega
  · rcases h.1 with h1 | h1
    · omega
    · obtain ⟨x, hm, hI, hS⟩ := h1 i a b hi he
      rw [hx x hm hI] at hS
      cases hS
theorem stay_skipK {r : Int} {i : Int} (h : StayK g (inT g s) sy r i) (hx : StayAt g (inT g s) (fromW sy) i) : StayK g (inT g s) sy r (i + 1) := by
  rcases h with h | h
  · exact .inl h
  · refine .inr ⟨h.1, fun j c d => ?_⟩
    by_cases hj : j = i
    · subst hj
      exact hx
    · exact h.2 j c (by omega)
theorem stayAt_out {i : Int} {I : List Bool} (h : gB (fromW sy) i = false) : StayAt g I (fromW sy) i := fun h2 => by rw [h] at h2; cases h2
theorem stayAt_none (hR : isR g = true) (hs : OkW s) {i : Int} (a : 0 ≤ i) (b : i < (g.ow.length : Int)) (h : rowS g s i = [0, 0, 0, 0]) : StayAt g (inT g s) (fromW sy) i := fun _ ⟨x, hx, hI⟩ => by
  rw [row_miss hR hs a b h x hx] at hI
  cases hI
theorem stayAt_hit (hR : isR g = true) (hs : OkW s) (hm : OkW sy) {i : Int} (a : 0 ≤ i) (b : i < (g.ow.length : Int)) (h : ¬ andS (rowS g s i) sy = [0, 0, 0, 0]) : StayAt g (inT g s) (fromW sy) i := fun _ _ => some_hit hR hs hm a b h
theorem stay_end {g0 : GameL} {T A : List Bool} {p r : Int} (hR : isR g = true) (hs : OkW s) (hl : g0.ow.length = g.ow.length) (hm : g0.mv = g.mv) (ho : ∀ i : Int, 0 ≤ i → i < (g.ow.length : Int) → gI g0.ow i ≠ p) (hA : AttrT g0 (inT g s) p T A)
    (h : StayT g (inT g s) T sy) (hp : StayP g (inT g s) sy r) (hr : (g.ow.length : Int) < r) : ∀ j : Int, 0 ≤ j → j < 256 → gB A j = (gB (inT g s) j && !gB (fromW sy) j) := by
  have hcl : ∀ i : Int, 0 ≤ i → i < (g.ow.length : Int) → StayAt g (inT g s) (fromW sy) i := by
    rcases hp with hp | hp
    · have := cB_ge (fromW sy) 256
      omega
    · exact hp
  have hn := (isR_ok hR).n1
  have e : ∀ j : Int, 0 ≤ j → j < 256 → gB (fromW (minusS (inS g s) sy)) j = (gB (inT g s) j && !gB (fromW sy) j) := fun j a b => by
    rw [from_minusS h.ok, gB_minusD a b]
    rfl
  intro j a b
  rw [← e j a b]
  refine Bool.eq_iff_iff.2 ⟨hA.least _ ⟨fun j a b c d => by rw [e j a b, h.base j a b c, d]; rfl, fun i c d e2 f x hx hI hS => ?_, fun i c d hI f he hal => ?_⟩ j a b, fun hj => ?_⟩
  · rw [hl] at d
    exact absurd f (ho i c d)
  · rw [hl] at d
    rw [hm] at he hal
    rw [e i c (by omega), hI]
    by_cases hs2 : gB (fromW sy) i = true
    · obtain ⟨x, hx, hIx, hSx⟩ := hcl i c d hs2 he
      have h2 := row_rng hR c d hx
      have := hal x hx hIx
      rw [e x h2.1 (by omega), hSx] at this
      simp at this
    · simpa using hs2
  · rw [e j a b, Bool.and_eq_true] at hj
    refine h.snd A hA.cl.base (fun i c d hI he hal => ?_) j a b hj.1 (by simpa using hj.2)
    exact hA.cl.oth i c (by rw [hl]; exact d) hI (ho i c d) (by rw [hm]; exact he) (by rw [hm]; exact hal)
end
end Go.Proofs.YtkkophhnliplhaaDoor
set_option linter.unusedVariables false
set_option linter.unusedSimpArgs false
namespace Go.Proofs.YtkkophhnliplhaaDoor
open Go Go.RowKit
theorem inT_len {g g1 : GameL} (h : g1.ow.length = g.ow.length) (s : List Int) : inT g1 s = inT g s := by unfold inT inS; rw [h]
theorem set_next {xs : List Int} {k p : Int} (h : ∀ j : Int, 0 ≤ j → j < k → gI xs j = p) (h0 : 0 ≤ k) (h1 : k < (xs.length : Int)) : ∀ j : Int, 0 ≤ j → j < k + 1 → gI (xs.set k.toNat p) j = p := fun j a b => by
  rw [gI_set' h0 h1 a]
  split
  · rfl
  · exact h j a (by omega)
section
variable {g : GameL} {s t sa sb sc ma mb mc xa xb : List Int} {p : Int}
theorem all_att (hR : isR g = true) (hp : p = 0 ∨ p = 1) (hl : xa.length = g.ow.length) (hx : ∀ j : Int, 0 ≤ j → j < (g.ow.length : Int) → gI xa j = p) (h : AttractT ⟨xa, g.pr, g.mv⟩ s p t sb mb) : AttrT ⟨xa, g.pr, g.mv⟩ (inT g s) p (fromW t) (fromW sb) := by
  have h2 := (att_in h (isR_of (right_ow (isR_ok hR) hl fun j a b => by rw [hx j a b]; exact hp)) hp).1
  rwa [inT_len (g := g) (g1 := ⟨xa, g.pr, g.mv⟩) hl s] at h2
theorem none_att (hR : isR g = true) (hp : p = 0 ∨ p = 1) (hl : xb.length = g.ow.length) (hx : ∀ j : Int, 0 ≤ j → j < (g.ow.length : Int) → gI xb j = 1 - p) (h : AttractT ⟨xb, g.pr, g.mv⟩ s p t sc mc) : AttrT ⟨xb, g.pr, g.mv⟩ (inT g s) p (fromW t) (fromW sc) := by
  have h2 := (att_in h (isR_of (right_ow (isR_ok hR) hl fun j a b => by rw [hx j a b]; omega)) hp).1
  rwa [inT_len (g := g) (g1 := ⟨xb, g.pr, g.mv⟩) hl s] at h2
theorem own12_b (hR : isR g = true) (hp : p = 0 ∨ p = 1) (hA : AttractT g s p t sa ma) (hl : xa.length = g.ow.length) (hx : ∀ j : Int, 0 ≤ j → j < (g.ow.length : Int) → gI xa j = p) (hB : AttractT ⟨xa, g.pr, g.mv⟩ s p t sb mb) : inW sa sb = true := by
  rw [inW_from hA.1 hB.1, inD_iff]
  exact own_all (g := g) (g1 := ⟨xa, g.pr, g.mv⟩) hl rfl hx (att_in hA hR hp).1 (all_att hR hp hl hx hB)
theorem own12_c (hR : isR g = true) (hp : p = 0 ∨ p = 1) (hA : AttractT g s p t sa ma) (hl : xb.length = g.ow.length) (hx : ∀ j : Int, 0 ≤ j → j < (g.ow.length : Int) → gI xb j = 1 - p) (hC : AttractT ⟨xb, g.pr, g.mv⟩ s p t sc mc) : inW sc sa = true := by
  rw [inW_from hC.1 hA.1, inD_iff]
  exact own_none (g := g) (g0 := ⟨xb, g.pr, g.mv⟩) hl rfl (fun i a b => by show gI xb i ≠ p; rw [hx i a b]; omega) (att_in hA hR hp).1 (none_att hR hp hl hx hC)
theorem ways12_a (hR : isR g = true) (hp : p = 0 ∨ p = 1) (hs : OkW s) (hl : xa.length = g.ow.length) (hx : ∀ j : Int, 0 ≤ j → j < (g.ow.length : Int) → gI xa j = p) (hB : AttractT ⟨xa, g.pr, g.mv⟩ (inS g s) p t sb mb) {sm : List Int} {r : Int} (hT : SomeT g (inT g s) (fromW t) sm) (hP : SomeP g (inT g s) sm r) (hr : (g.ow.length : Int) < r) : sb = sm := by
  have h := all_att hR hp hl hx hB
  rw [inT_inT hs] at h
  exact (set_iff hB.1 hT.ok).2 (some_end (g := g) (g1 := ⟨xa, g.pr, g.mv⟩) hR hs hl rfl hx h hT hP hr)
theorem ways12_b (hR : isR g = true) (hp : p = 0 ∨ p = 1) (hs : OkW s) (hl : xb.length = g.ow.length) (hx : ∀ j : Int, 0 ≤ j → j < (g.ow.length : Int) → gI xb j = 1 - p) (hC : AttractT ⟨xb, g.pr, g.mv⟩ (inS g s) p t sc mc) {sy : List Int} {r : Int} (hT : StayT g (inT g s) (fromW t) sy) (hP : StayP g (inT g s) sy r) (hr : (g.ow.length : Int) < r) : sc = minusS (inS g s) sy := by
  have h := none_att hR hp hl hx hC
  rw [inT_inT hs] at h
  refine (set_iff hC.1 (okW_minusS (inS_ok hs) hT.ok)).2 fun j a b => ?_
  rw [stay_end (g := g) (g0 := ⟨xb, g.pr, g.mv⟩) hR hs hl rfl (fun i a b => by show gI xb i ≠ p; rw [hx i a b]; omega) h hT hP hr j a b, from_minusS hT.ok, gB_minusD a b]
  rfl
theorem some_in {i : Int} (a : 0 ≤ i) (b : i < 256) (h : hasW (inS g s) i = true) : gB (inT g s) i = true := by rwa [has_inT a b] at h
theorem some_no {sm : List Int} (hR : isR g = true) (hs : OkW s) (hm : OkW sm) {i : Int} (a : 0 ≤ i) (b : i < (g.ow.length : Int)) (hI : gB (inT g s) i = true) (h : hasW (inS g s) i = false ∨ (!(decide (andS (rowS g s i) sm = [0, 0, 0, 0]))) = false) : ∀ x ∈ gL g.mv i, gB (inT g s) x = true → gB (fromW sm) x = false := by
  have hn := (isR_ok hR).n1
  rcases h with h | h
  · rw [has_inT a (by omega), hI] at h
    cases h
  · exact some_miss hR hs hm a b (by simpa using h)
theorem has_yes2 {sy : List Int} {i : Int} (a : 0 ≤ i) (b : i < 256) (h : hasW sy i = true) : gB (fromW sy) i = true := by rwa [has_W a b] at h
theorem stay_no {sy : List Int} (hR : isR g = true) (hs : OkW s) (hm : OkW sy) {i : Int} (a : 0 ≤ i) (b : i < (g.ow.length : Int)) (h : hasW sy i = false ∨ (!(decide (rowS g s i = [0, 0, 0, 0]))) = false ∨ decide (andS (rowS g s i) sy = [0, 0, 0, 0]) = false) : StayAt g (inT g s) (fromW sy) i := by
  have hn := (isR_ok hR).n1
  rcases h with h | h | h
  · rw [has_W a (by omega)] at h
    exact stayAt_out h
  · exact stayAt_none hR hs a b (by simpa using h)
  · exact stayAt_hit hR hs hm a b (of_decide_eq_false h)
end
end Go.Proofs.YtkkophhnliplhaaDoor
