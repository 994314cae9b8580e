/-
  Plain: the list of what is to be lifted yet, and who leads to whom. No program.
-/
import Derived.Test.YtklbpajmoklheaaPureRank
import Derived.Test.YtklbpajmoklheaaPureRight
set_option linter.unusedVariables false
namespace Go.Proofs.Ytklbpajmoklheaa
open Go Go.RowKit
/-- Who leads to whom, positions below i and q moves of i having been gone through. -/
structure FromT (g : GameL) (fr : List (List Int)) (i q : Int) : Prop where
  len : fr.length = g.ow.length
  has : ∀ j k : Int, 0 ≤ j → j < g.ow.length → 0 ≤ k → k < (gL g.mv j).length → (j < i ∨ (j = i ∧ k < q)) → j ∈ gL fr (gI (gL g.mv j) k)
  rng : ∀ m j : Int, 0 ≤ m → m < g.ow.length → j ∈ gL fr m → 0 ≤ j ∧ j < g.ow.length
  cnt : ∀ m : Int, 0 ≤ m → m < g.ow.length → ((gL fr m).length : Int) ≤ 200 * i + q
theorem from0 {g : GameL} : FromT g (List.replicate g.ow.length []) 0 0 :=
  ⟨List.length_replicate, fun j k a b c d e => by omega, fun m j a b h => by rw [gL_rep] at h; simp at h, fun m a b => by rw [gL_rep]; simp⟩
theorem from_push {g : GameL} (hG : RightG g) {fr : List (List Int)} {i q : Int} (h : FromT g fr i q) (h0 : 0 ≤ i) (h1 : i < g.ow.length) (k0 : 0 ≤ q) (k1 : q < (gL g.mv i).length) :
    FromT g (fr.set (gI (gL g.mv i) q).toNat (gL fr (gI (gL g.mv i) q) ++ [i])) i (q + 1) := by
  have hm := hG.mv i h0 h1 q k0 k1
  have hl := h.len
  refine ⟨by rw [List.length_set]; exact hl, fun j k a b c d e => ?_, fun m j a b hj => ?_, fun m a b => ?_⟩
  · have hmj := hG.mv j a b k c d
    rw [gL_set hm.1 (by omega) hmj.1]
    by_cases hk : j = i ∧ k = q
    · obtain ⟨rfl, rfl⟩ := hk
      rw [if_pos rfl]
      simp
    · have := h.has j k a b c d (by omega)
      split
      · rename_i e2
        rw [e2]
        exact List.mem_append_left _ this
      · exact this
  · rw [gL_set hm.1 (by omega) a] at hj
    split at hj
    · rcases List.mem_append.1 hj with hj | hj
      · exact h.rng _ j hm.1 hm.2 hj
      · simp at hj
        omega
    · exact h.rng m j a b hj
  · rw [gL_set hm.1 (by omega) a]
    have h3 := h.cnt m a b
    have h4 := h.cnt _ hm.1 hm.2
    split
    · rw [List.length_append]
      simp
      omega
    · omega
theorem from_row {g : GameL} (hG : RightG g) {fr : List (List Int)} {i q : Int} (h : FromT g fr i q) (h0 : 0 ≤ i) (h1 : i < g.ow.length) (hq : ((gL g.mv i).length : Int) ≤ q) (hq2 : q ≤ ((gL g.mv i).length : Int)) : FromT g fr (i + 1) 0 := by
  have hr := row_len hG h0 h1
  have hn := hG.n1
  refine ⟨h.len, fun j k a b c d e => h.has j k a b c d ?_, h.rng, fun m a b => ?_⟩
  · by_cases hj : j = i
    · subst hj
      exact .inr ⟨rfl, by omega⟩
    · exact .inl (by omega)
  · have := h.cnt m a b
    omega
/-- The list of what is to be lifted: all that may not stand are in it, but for those of rest. -/
structure WorkT (g : GameL) (l : List Tup) (todo : List Int) (inn : List Bool) (rest : List Int) : Prop where
  bnd : BndL g l
  low : LowT g l
  rng : ∀ j ∈ todo, 0 ≤ j ∧ j < g.ow.length
  one : todo.Nodup
  il : inn.length = g.ow.length
  mem : ∀ j : Int, 0 ≤ j → j < g.ow.length → (gB inn j = true ↔ j ∈ todo)
  st : ∀ j : Int, 0 ≤ j → j < g.ow.length → j ∉ todo → j ∉ rest → leT (liftT g l j) (gT l j)
theorem gB_set {inn : List Bool} {i j : Int} {v : Bool} (h0 : 0 ≤ i) (h1 : i < inn.length) (h2 : 0 ≤ j) : gB (inn.set i.toNat v) j = if i = j then v else gB inn j := by
  simp only [gB, List.getD_eq_getElem?_getD, List.getElem?_set]
  by_cases h : i = j
  · subst h
    rw [if_pos rfl, if_pos rfl, if_pos (by omega)]
    rfl
  · rw [if_neg h, if_neg (by omega)]
theorem work_push {g : GameL} {l : List Tup} {todo : List Int} {inn : List Bool} {f : Int} {rest : List Int} (h : WorkT g l todo inn (f :: rest)) (h0 : 0 ≤ f) (h1 : f < g.ow.length) (hf : gB inn f = false) : WorkT g l (todo ++ [f]) (inn.set f.toNat true) rest := by
  have hil := h.il
  have hn : f ∉ todo := fun hm => by rw [(h.mem f h0 h1).2 hm] at hf; cases hf
  refine ⟨h.bnd, h.low, fun j hj => ?_, ?_, by rw [List.length_set]; exact hil, fun j a b => ?_, fun j a b c d => ?_⟩
  · rcases List.mem_append.1 hj with hj | hj
    · exact h.rng j hj
    · simp at hj
      omega
  · rw [List.nodup_append]
    refine ⟨h.one, by simp, fun a ha b hb => ?_⟩
    simp at hb
    subst hb
    exact fun e => hn (e ▸ ha)
  · rw [gB_set h0 (by omega) a]
    by_cases e : f = j
    · subst e
      simp
    · rw [if_neg e, h.mem j a b]
      simp [show ¬ j = f by omega]
  · rw [List.mem_append, not_or] at c
    simp at c
    refine h.st j a b c.1 (fun hm => ?_)
    rcases List.mem_cons.1 hm with hm | hm
    · exact c.2 hm
    · exact d hm
theorem work_skip {g : GameL} {l : List Tup} {todo : List Int} {inn : List Bool} {f : Int} {rest : List Int} (h : WorkT g l todo inn (f :: rest)) (h0 : 0 ≤ f) (h1 : f < g.ow.length) (hf : gB inn f = true) : WorkT g l todo inn rest :=
  ⟨h.bnd, h.low, h.rng, h.one, h.il, h.mem, fun j a b c d => h.st j a b c (fun hm => by
    rcases List.mem_cons.1 hm with hm | hm
    · rw [hm] at c
      exact c ((h.mem f h0 h1).1 hf)
    · exact d hm)⟩
theorem bestB_congr {f f' : Int → Tup} {own : Int} {row : List Int} (h : ∀ m ∈ row, f m = f' m) : bestB f own row = bestB f' own row := by
  unfold bestB
  generalize (tup0, (-1 : Int)) = acc
  induction row generalizing acc with
  | nil => rfl
  | cons m row ih =>
    simp only [List.foldl_cons]
    have e : stepB f own acc m = stepB f' own acc m := by
      unfold stepB
      rw [h m List.mem_cons_self]
    rw [e]
    exact ih (fun x hx => h x (List.mem_cons_of_mem _ hx)) _
theorem lift_same {g : GameL} {l l' : List Tup} {i : Int} (h : ∀ m ∈ gL g.mv i, gT l m = gT l' m) : liftT g l i = liftT g l' i := by
  unfold liftT
  rw [bestB_congr (f' := upG g l' i) (fun m hm => by unfold upG; rw [h m hm])]
theorem mem_gI {row : List Int} {m : Int} (h : m ∈ row) : ∃ k : Int, 0 ≤ k ∧ k < row.length ∧ gI row k = m := by
  obtain ⟨k, hk, e⟩ := List.getElem_of_mem h
  refine ⟨k, by omega, by omega, ?_⟩
  simp only [gI, Int.toNat_natCast, List.getD_eq_getElem?_getD, List.getElem?_eq_getElem hk, Option.getD_some, e]
theorem work_pop {g : GameL} {l : List Tup} {init : List Int} {i : Int} {inn : List Bool} (h : WorkT g l (init ++ [i]) inn []) : (0 ≤ i ∧ i < g.ow.length) ∧ i ∉ init ∧ (∀ j ∈ init, 0 ≤ j ∧ j < g.ow.length) ∧ init.Nodup ∧ (inn.set i.toNat false).length = g.ow.length ∧ ∀ j : Int, 0 ≤ j → j < g.ow.length → (gB (inn.set i.toNat false) j = true ↔ j ∈ init) := by
  have hi := h.rng i (by simp)
  have hil := h.il
  have hone := h.one
  rw [List.nodup_append] at hone
  have hni : i ∉ init := fun hm => hone.2.2 i hm i (by simp) rfl
  refine ⟨hi, hni, fun j hj => h.rng j (List.mem_append_left _ hj), hone.1, by rw [List.length_set]; exact hil, fun j a b => ?_⟩
  rw [gB_set hi.1 (by omega) a]
  by_cases e : i = j
  · subst e
    simp [hni]
  · rw [if_neg e, h.mem j a b]
    simp [show ¬ j = i by omega]
theorem work_keep {g : GameL} {l : List Tup} {init : List Int} {i : Int} {inn : List Bool} (h : WorkT g l (init ++ [i]) inn []) (hc : ¬ cmpT (liftT g l i) (gT l i) 0 > 0) : WorkT g l init (inn.set i.toNat false) [] := by
  obtain ⟨hi, hni, hr, ho, hl, hm⟩ := work_pop h
  refine ⟨h.bnd, h.low, hr, ho, hl, hm, fun j a b c _ => ?_⟩
  by_cases e : j = i
  · subst e
    exact leT_of_not_gt hc
  · exact h.st j a b (by simp [c, e]) (by simp)
theorem work_lift {g : GameL} (hG : RightG g) {l : List Tup} {init : List Int} {i : Int} {inn : List Bool} {fr : List (List Int)} (h : WorkT g l (init ++ [i]) inn []) (hf : FromT g fr g.ow.length 0) : WorkT g (l.set i.toNat (liftT g l i)) init (inn.set i.toNat false) (gL fr i) := by
  obtain ⟨hi, hni, hr, ho, hl, hm⟩ := work_pop h
  have hbl := h.bnd.1
  refine ⟨bnd_set hG h.bnd hi.1 hi.2, low_set hG h.bnd h.low hi.1 hi.2, hr, ho, hl, hm, fun j a b c d => ?_⟩
  have hs : liftT g (l.set i.toNat (liftT g l i)) j = liftT g l j := by
    refine lift_same (fun m hmem => ?_)
    obtain ⟨k, k0, k1, rfl⟩ := mem_gI hmem
    have hk := hG.mv j a b k k0 k1
    rw [gT_set hi.1 (by omega) hk.1, if_neg]
    intro e
    refine d ?_
    rw [e]
    exact hf.has j k a b k0 k1 (.inl b)
  rw [hs, gT_set hi.1 (by omega) a]
  by_cases e : i = j
  · subst e
    rw [if_pos rfl]
    exact leT_refl _
  · rw [if_neg e]
    exact h.st j a b (by simp [c]; omega) (by simp)
theorem work_end {g : GameL} {l : List Tup} {inn : List Bool} (h : WorkT g l [] inn []) : LeastT g l := ⟨h.bnd, fun j a b => h.st j a b (by simp) (by simp), h.low⟩
theorem work_start {g : GameL} {l : List Tup} {td : List Int} {inn : List Bool} (hb : BndL g l) (hl : LowT g l) (h1 : td.length = g.ow.length) (h2 : inn.length = g.ow.length) (h3 : ∀ j : Int, 0 ≤ j → j < g.ow.length → gI td j = j ∧ gB inn j = true) : WorkT g l td inn [] := by
  have hget : ∀ k : Nat, k < td.length → td.getD k 0 = (k : Int) := fun k hk => by
    have := (h3 k (by omega) (by omega)).1
    simpa [gI] using this
  have hmem : ∀ j : Int, j ∈ td ↔ 0 ≤ j ∧ j < g.ow.length := fun j => by
    constructor
    · intro h
      obtain ⟨k, k0, k1, e⟩ := mem_gI h
      have := (h3 k k0 (by omega)).1
      omega
    · intro h
      have := (h3 j h.1 h.2).1
      rw [← this]
      simp only [gI, List.getD_eq_getElem?_getD, List.getElem?_eq_getElem (show j.toNat < td.length by omega), Option.getD_some]
      exact List.getElem_mem _
  refine ⟨hb, hl, fun j hj => (hmem j).1 hj, ?_, h2, fun j a b => ⟨fun _ => (hmem j).2 ⟨a, b⟩, fun _ => (h3 j a b).2⟩, fun j a b c => absurd ((hmem j).2 ⟨a, b⟩) c⟩
  refine List.pairwise_iff_getElem.2 (fun i j hi hj hij e => ?_)
  have e1 := hget i hi
  have e2 := hget j hj
  simp only [List.getD_eq_getElem?_getD, List.getElem?_eq_getElem hi, List.getElem?_eq_getElem hj, Option.getD_some] at e1 e2
  rw [e1, e2] at e
  omega
theorem right_no2 {g : GameL} {n m : Nat} (h : (isR g && decide (n = m)) = false) (e : n = m) : isR g = false := by
  rw [decide_eq_true e, Bool.and_true] at h
  exact h
theorem right_yes2 {g : GameL} {n m : Nat} (h : (isR g && decide (n = m)) = true) : isR g = true := by
  simp only [Bool.and_eq_true] at h
  exact h.1
/-- The first k places of todo and of in are filled. -/
def FillT (td : List Int) (nn : List Bool) (i : Int) : Prop := ∀ j : Int, 0 ≤ j → j < i → gI td j = j ∧ gB nn j = true
theorem gI_set {l : List Int} {i j v : Int} (h0 : 0 ≤ i) (h1 : i < l.length) (h2 : 0 ≤ j) : gI (l.set i.toNat v) j = if i = j then v else gI l j := by
  simp only [gI, List.getD_eq_getElem?_getD, List.getElem?_set]
  by_cases h : i = j
  · subst h
    rw [if_pos rfl, if_pos rfl, if_pos (by omega)]
    rfl
  · rw [if_neg h, if_neg (by omega)]
theorem fill_next {td : List Int} {nn : List Bool} {i : Int} (h : FillT td nn i) (h0 : 0 ≤ i) (h1 : i < td.length) (h2 : i < nn.length) : FillT (td.set i.toNat i) (nn.set i.toNat true) (i + 1) := fun j a b => by
  rw [gI_set h0 h1 a, gB_set h0 h2 a]
  by_cases e : i = j
  · subst e
    simp
  · rw [if_neg e, if_neg e]
    exact h j a (by omega)
theorem last_split {l : List Int} (h : 0 < l.length) {k : Int} (hk : k = (l.length : Int) - 1) : l = l.take k.toNat ++ [gI l k] := by
  have e : k.toNat = l.length - 1 := by omega
  have h2 := List.take_append_drop k.toNat l
  rw [List.drop_eq_getElem_cons (show k.toNat < l.length by omega), List.drop_of_length_le (by omega)] at h2
  simp only [gI, List.getD_eq_getElem?_getD, List.getElem?_eq_getElem (show k.toNat < l.length by omega), Option.getD_some]
  exact h2.symm
theorem drop_split {l : List Int} {k : Int} (h0 : 0 ≤ k) (h1 : k < l.length) : l.drop k.toNat = gI l k :: l.drop (k + 1).toNat := by
  rw [List.drop_eq_getElem_cons (show k.toNat < l.length by omega), show (k + 1).toNat = k.toNat + 1 by omega]
  simp only [gI, List.getD_eq_getElem?_getD, List.getElem?_eq_getElem (show k.toNat < l.length by omega), Option.getD_some]
theorem work_len {g : GameL} (hG : RightG g) {l : List Tup} {td : List Int} {nn : List Bool} {rest : List Int} (h : WorkT g l td nn rest) : td.length ≤ g.ow.length := by
  have h1 := h.one
  have h2 : (td.map Int.toNat).Nodup := by
    refine List.pairwise_map.2 (List.Pairwise.imp_of_mem (fun {a b} ha hb hab e => hab ?_) h1)
    have := h.rng a ha
    have := h.rng b hb
    omega
  have h3 : (td.map Int.toNat) ⊆ List.range g.ow.length := fun x hx => by
    obtain ⟨y, hy, rfl⟩ := List.mem_map.1 hx
    have := h.rng y hy
    simp
    omega
  have := List.Nodup.length_le_of_subset h2 h3
  simpa using this
end Go.Proofs.Ytklbpajmoklheaa
