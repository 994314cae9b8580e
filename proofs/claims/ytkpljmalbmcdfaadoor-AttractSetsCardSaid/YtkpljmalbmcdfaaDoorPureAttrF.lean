/-
  Plain: that moves force the way, as the document asks it. No program.
-/
import Derived.Test.YtkpljmalbmcdfaaDoorPureAttrS
set_option linter.unusedVariables false
set_option linter.unusedSimpArgs false
namespace Go.Proofs.YtkpljmalbmcdfaaDoor
open Go Go.RowKit
section
variable {g : GameL} {I T A D E : List Bool} {p k : Int} {ms : List Int} {m v : Bool}
theorem need_yes (h : MovA g I p T A ms) {i : Int} (a : 0 ≤ i) (b : i < 256) (hA : gB A i = true) (hT : gB T i = false) (ho : gI g.ow i = p) : gI ms i ∈ gL g.mv i ∧ 0 ≤ gI ms i ∧ gI ms i < (g.ow.length : Int) ∧ gB I (gI ms i) = true ∧ (gI ms i < 256 → gB A (gI ms i) = true) := by
  obtain ⟨ord, h1, h2, h3⟩ := h.rank
  obtain ⟨x, y, e⟩ := List.append_of_mem ((h1 i a b).1 hA)
  rcases h3 x i y e with h4 | h4 | h4
  · rw [hT] at h4
    cases h4
  · have hm : gI ms i ∈ ord := by rw [e]; exact List.mem_append.2 (.inl h4.2.2)
    have h5 := h2 _ hm
    exact ⟨h4.2.1, h5.1, h5.2.1, h5.2.2, fun hlt => (h1 _ h5.1 hlt).2 hm⟩
  · exact absurd ho h4.1
theorem need_no (h : MovA g I p T A ms) {i : Int} (a : 0 ≤ i) (b : i < (g.ow.length : Int)) (hn : gB A i = false ∨ gB T i = true ∨ gI g.ow i ≠ p) : gI ms i = -1 := by
  rcases h.mv i a b with h2 | h2
  · rcases hn with hn | hn | hn
    · rw [h2.1] at hn; cases hn
    · rw [h2.2.1] at hn; cases hn
    · exact absurd h2.2.2 hn
  · exact h2
structure DonT (g : GameL) (T A D : List Bool) (k : Int) : Prop where
  len : D.length = g.ow.length
  at_ : ∀ j : Int, 0 ≤ j → j < (g.ow.length : Int) → gB D j = if j < k then (!gB A j || gB T j) else false
theorem don_0 : DonT g T A (List.replicate g.ow.length false) 0 := ⟨List.length_replicate, fun j a b => by rw [gB_rep, if_neg (by omega)]⟩
theorem don_next (h : DonT g T A D k) (h0 : 0 ≤ k) (h1 : k < (g.ow.length : Int)) (hv : v = (!gB A k || gB T k)) : DonT g T A (D.set k.toNat v) (k + 1) := by
  have hl := h.len
  refine ⟨by rw [List.length_set]; exact hl, fun j a b => ?_⟩
  rw [gB_setL h0 (by omega) a]
  by_cases e : k = j
  · subst e
    rw [if_pos rfl, if_pos (by omega), hv]
  · rw [if_neg e, h.at_ j a b]
    by_cases e2 : j < k
    · rw [if_pos e2, if_pos (show j < k + 1 by omega)]
    · rw [if_neg e2, if_neg (show ¬ j < k + 1 by omega)]
/-- All ways of i lead to what is done. -/
def EndsT (g : GameL) (I : List Bool) (p : Int) (ms : List Int) (D : List Bool) (i : Int) (l : List Int) : Prop := ∀ x ∈ l, gB I x = true → (gI g.ow i ≠ p ∨ x = gI ms i) → gB D x = true
structure PasT (g : GameL) (T A D : List Bool) : Prop where
  len : D.length = g.ow.length
  in_ : ∀ j : Int, 0 ≤ j → j < (g.ow.length : Int) → gB D j = false → gB A j = true ∧ gB T j = false
theorem pas_0 (h : DonT g T A D k) (hk : (g.ow.length : Int) ≤ k) : PasT g T A D := ⟨h.len, fun j a b hj => by
  rw [h.at_ j a b, if_pos (by omega)] at hj
  simpa using hj⟩
structure PasK (g : GameL) (I : List Bool) (p : Int) (ms : List Int) (T A D E : List Bool) (m : Bool) (k : Int) : Prop where
  pas : PasT g T A E
  len : D.length = g.ow.length
  mono : ∀ j : Int, 0 ≤ j → j < (g.ow.length : Int) → gB D j = true → gB E j = true
  no : m = false → E = D ∧ ∀ i : Int, 0 ≤ i → i < k → gB D i = false → ¬ EndsT g I p ms D i (gL g.mv i)
  yes : m = true → ∃ i : Int, 0 ≤ i ∧ i < (g.ow.length : Int) ∧ gB D i = false ∧ gB E i = true
theorem pasK_0 (h : PasT g T A D) : PasK g I p ms T A D D false 0 := ⟨h, h.len, fun j _ _ c => c, fun _ => ⟨rfl, fun i a b => by omega⟩, fun h => by cases h⟩
theorem pasK_skip (h : PasK g I p ms T A D E m k) (h0 : 0 ≤ k) (hs : gB E k = true ∨ ¬ EndsT g I p ms E k (gL g.mv k)) : PasK g I p ms T A D E m (k + 1) := by
  refine ⟨h.pas, h.len, h.mono, fun hm => ?_, h.yes⟩
  obtain ⟨e, h2⟩ := h.no hm
  refine ⟨e, fun i a b c => ?_⟩
  by_cases hi : i = k
  · subst hi
    rcases hs with hs | hs
    · rw [e, c] at hs
      cases hs
    · rwa [e] at hs
  · exact h2 i a (by omega) c
theorem pasK_put (h : PasK g I p ms T A D E m k) (h0 : 0 ≤ k) (h1 : k < (g.ow.length : Int)) (hE : gB E k = false) : PasK g I p ms T A D (E.set k.toNat true) true (k + 1) := by
  have hl := h.pas.len
  refine ⟨⟨by rw [List.length_set]; exact hl, fun j a b c => ?_⟩, h.len, fun j a b c => ?_, fun hm => (by cases hm), fun _ => ⟨k, h0, h1, ?_, ?_⟩⟩
  · rw [gB_setL h0 (by omega) a] at c
    split at c
    · cases c
    · exact h.pas.in_ j a b c
  · rw [gB_setL h0 (by omega) a]
    split
    · rfl
    · exact h.mono j a b c
  · cases hD : gB D k
    · rfl
    · rw [h.mono k h0 h1 hD] at hE
      cases hE
  · rw [gB_setL h0 (by omega) h0, if_pos rfl]
theorem pas_grow (hn : g.ow.length ≤ 200) (h : PasK g I p ms T A D E m k) : cB E 256 ≤ (g.ow.length : Int) ∧ (if m = true then cB D 256 + 1 else cB D 256) ≤ cB E 256 := by
  have hl := h.pas.len
  have hl2 := h.len
  have hmono : ∀ j : Int, 0 ≤ j → gB D j = true → gB E j = true := fun j a c => by
    by_cases hj : j < (g.ow.length : Int)
    · exact h.mono j a hj c
    · rw [gB_out (by omega)] at c
      cases c
  refine ⟨cB_le E g.ow.length 256 fun j a b c => ?_, ?_⟩
  · by_cases hj : j < (g.ow.length : Int)
    · exact hj
    · rw [gB_out (by omega)] at c
      cases c
  · cases hm : m
    · rw [if_neg (by decide)]
      exact cB_mono 256 fun j a _ c => hmono j a c
    · rw [if_pos rfl]
      obtain ⟨i, a, b, c, d⟩ := h.yes hm
      have h2 : ∀ n : Nat, cB D n + (if i < (n : Int) then 1 else 0) ≤ cB E n := by
        intro n
        induction n with
        | zero => rw [cB_0, cB_0, if_neg (by omega)]; omega
        | succ n ih =>
          rw [cB_s, cB_s]
          by_cases hin : i = (n : Int)
          · rw [← hin, c, d]
            rw [if_neg (by omega)] at ih
            rw [if_pos (show i < ((n + 1 : Nat) : Int) by omega)]
            simp
            omega
          · have h3 := hmono (n : Int) (by omega)
            have e3 : (if i < ((n + 1 : Nat) : Int) then (1 : Int) else 0) = if i < (n : Int) then 1 else 0 := by
              by_cases h5 : i < (n : Int)
              · rw [if_pos h5, if_pos (show i < ((n + 1 : Nat) : Int) by omega)]
              · rw [if_neg h5, if_neg (show ¬ i < ((n + 1 : Nat) : Int) by omega)]
            rw [e3]
            cases h4 : gB D (n : Int)
            · cases gB E (n : Int) <;> simp <;> omega
            · rw [h3 h4]
              simp
              omega
      have := h2 256
      rw [if_pos (show i < ((256 : Nat) : Int) by omega)] at this
      exact this
def PasF (g : GameL) (I : List Bool) (p : Int) (ms : List Int) (D : List Bool) (m : Bool) : Prop := m = false → ∀ i : Int, 0 ≤ i → i < (g.ow.length : Int) → gB D i = false → ¬ EndsT g I p ms D i (gL g.mv i)
theorem pas_fin (h : PasK g I p ms T A D E m k) (hk : (g.ow.length : Int) ≤ k) : PasF g I p ms E m := fun hm => by
  obtain ⟨e, h2⟩ := h.no hm
  subst e
  exact fun i a b => h2 i a (by omega)
theorem pas_all (hn : g.ow.length ≤ 200) (hm : MovA g I p T A ms) (h : PasT g T A D) (hf : PasF g I p ms D false) : ∀ j : Int, 0 ≤ j → j < (g.ow.length : Int) → gB D j = true := by
  obtain ⟨ord, h1, h2, h3⟩ := hm.rank
  have hall : ∀ n : Nat, ∀ x j y, x.length = n → ord = x ++ j :: y → gB D j = true := by
    intro n
    induction n using Nat.strongRecOn with
    | ind n ih =>
      intro x j y hx e
      have hj := h2 j (by rw [e]; simp)
      have hpre : ∀ z ∈ x, gB D z = true := fun z hz => by
        obtain ⟨x1, x2, e2⟩ := List.append_of_mem hz
        refine ih x1.length ?_ x1 z (x2 ++ j :: y) rfl (by rw [e, e2]; simp)
        rw [e2] at hx
        simp at hx
        omega
      cases hD : gB D j
      · exfalso
        obtain ⟨hA, hT⟩ := h.in_ j hj.1 hj.2.1 hD
        refine hf rfl j hj.1 hj.2.1 hD fun z hz hI hor => hpre z ?_
        rcases h3 x j y e with h4 | h4 | h4
        · rw [hT] at h4
          cases h4
        · rcases hor with h5 | h5
          · exact absurd h4.1 h5
          · rw [h5]
            exact h4.2.2
        · exact h4.2 z hz hI
      · rfl
  intro j a b
  cases hD : gB D j
  · obtain ⟨hA, hT⟩ := h.in_ j a b hD
    obtain ⟨x, y, e⟩ := List.append_of_mem ((h1 j a (by omega)).1 hA)
    rw [hall x.length x j y rfl e] at hD
    cases hD
  · rfl
/-- One move looked at. -/
theorem ends_next {row : List Int} {e : Bool} {i q : Int} (h : e = true ↔ EndsT g I p ms D i (row.take q.toNat)) (h0 : 0 ≤ q) (h1 : q < (row.length : Int)) (hv : v = true ↔ (e = true ∧ (gB I (gI row q) = true → (gI g.ow i ≠ p ∨ gI row q = gI ms i) → gB D (gI row q) = true))) : v = true ↔ EndsT g I p ms D i (row.take (q + 1).toNat) := by
  rw [hv, h]
  constructor
  · rintro ⟨h2, h3⟩ x hx hI ho
    rcases (mem_take h0 h1).1 hx with hx | rfl
    · exact h2 x hx hI ho
    · exact h3 hI ho
  · intro h2
    exact ⟨fun x hx hI ho => h2 x ((mem_take h0 h1).2 (.inl hx)) hI ho, fun hI ho => h2 _ ((mem_take h0 h1).2 (.inr rfl)) hI ho⟩
theorem ends_keep {row : List Int} {e : Bool} {i q : Int} (h : e = true ↔ EndsT g I p ms D i (row.take q.toNat)) (h0 : 0 ≤ q) (h1 : q < (row.length : Int)) (hv : gB I (gI row q) = false ∨ (gI g.ow i = p ∧ gI row q ≠ gI ms i) ∨ gB D (gI row q) = true) : e = true ↔ EndsT g I p ms D i (row.take (q + 1).toNat) :=
  ends_next h h0 h1 ⟨fun he => ⟨he, fun hI ho => by
    rcases hv with hv | hv | hv
    · rw [hI] at hv
      cases hv
    · rcases ho with ho | ho
      · exact absurd hv.1 ho
      · exact absurd ho hv.2
    · exact hv⟩, fun hh => hh.1⟩
theorem ends_bad {row : List Int} {e : Bool} {i q : Int} (h : e = true ↔ EndsT g I p ms D i (row.take q.toNat)) (h0 : 0 ≤ q) (h1 : q < (row.length : Int)) (hI : gB I (gI row q) = true) (ho : gI g.ow i ≠ p ∨ gI row q = gI ms i) (hD : gB D (gI row q) = false) : false = true ↔ EndsT g I p ms D i (row.take (q + 1).toNat) :=
  ends_next h h0 h1 ⟨fun he => (by cases he), fun hh => by
    have := hh.2 hI ho
    rw [hD] at this
    cases this⟩
theorem don_v {i : Int} (h : (gB A i = false ∧ v = true) ∨ (gB A i = true ∧ v = gB T i)) : v = (!gB A i || gB T i) := by
  rcases h with ⟨h, rfl⟩ | ⟨h, rfl⟩
  · rw [h]
    rfl
  · rw [h]
    rfl
theorem ends_0 {row : List Int} {i : Int} : true = true ↔ EndsT g I p ms D i (row.take (0 : Int).toNat) := ⟨fun _ x hx => by simp at hx, fun _ => rfl⟩
theorem ends_all {row : List Int} {e : Bool} {i q : Int} (h : e = true ↔ EndsT g I p ms D i (row.take q.toNat)) (h1 : (row.length : Int) ≤ q) : e = true ↔ EndsT g I p ms D i row := by rwa [List.take_of_length_le (by omega)] at h
end
/- The law. -/
theorem attr_congr {g : GameL} {I I' T T' S : List Bool} {p : Int} {ms : List Int} (hn : g.ow.length ≤ 200) (hI : ∀ j : Int, 0 ≤ j → j < 256 → gB I' j = gB I j) (hIn : ∀ j : Int, 0 ≤ j → j < 256 → gB I j = true → j < (g.ow.length : Int)) (hR : ∀ i x : Int, 0 ≤ i → i < (g.ow.length : Int) → x ∈ gL g.mv i → 0 ≤ x ∧ x < (g.ow.length : Int)) (hT : ∀ j : Int, 0 ≤ j → j < (g.ow.length : Int) → gB T' j = gB T j) (h : AttrT g I p T S) : AttrT g I' p T' S := by
  have hc : ∀ C, AttC g I p T C ↔ AttC g I' p T' C := fun C => by
    constructor
    · intro h
      refine ⟨fun j a b c d => ?_, fun i a b c d x hx hX hC => ?_, fun i a b c d he hal => ?_⟩
      · rw [hI j a b] at d
        rw [hT j a (hIn j a b d)] at c
        exact h.base j a b c d
      · have h2 := hR i x a b hx
        rw [hI i a (by omega)] at c
        rw [hI x h2.1 (by omega)] at hX
        exact h.own i a b c d x hx hX hC
      · rw [hI i a (by omega)] at c
        obtain ⟨x, hx, hX⟩ := he
        have h2 := hR i x a b hx
        rw [hI x h2.1 (by omega)] at hX
        refine h.oth i a b c d ⟨x, hx, hX⟩ fun y hy hY => hal y hy ?_
        have h3 := hR i y a b hy
        rwa [hI y h3.1 (by omega)]
    · intro h
      refine ⟨fun j a b c d => ?_, fun i a b c d x hx hX hC => ?_, fun i a b c d he hal => ?_⟩
      · have hj := hIn j a b d
        rw [← hI j a b] at d
        rw [← hT j a hj] at c
        exact h.base j a b c d
      · have h2 := hR i x a b hx
        rw [← hI i a (by omega)] at c
        rw [← hI x h2.1 (by omega)] at hX
        exact h.own i a b c d x hx hX hC
      · rw [← hI i a (by omega)] at c
        obtain ⟨x, hx, hX⟩ := he
        have h2 := hR i x a b hx
        rw [← hI x h2.1 (by omega)] at hX
        refine h.oth i a b c d ⟨x, hx, hX⟩ fun y hy hY => hal y hy ?_
        have h3 := hR i y a b hy
        rwa [← hI y h3.1 (by omega)]
  exact ⟨(hc S).1 h.cl, fun j a b c => by rw [hI j a b]; exact h.sub j a b c, fun C hC => h.least C ((hc C).2 hC)⟩
theorem mov_congr {g : GameL} {I I' T T' S S' : List Bool} {p : Int} {ms : List Int} (hn : g.ow.length ≤ 200) (hI : ∀ j : Int, 0 ≤ j → j < 256 → gB I' j = gB I j) (hR : ∀ i x : Int, 0 ≤ i → i < (g.ow.length : Int) → x ∈ gL g.mv i → 0 ≤ x ∧ x < (g.ow.length : Int)) (hT : ∀ j : Int, 0 ≤ j → j < (g.ow.length : Int) → gB T' j = gB T j) (hS : ∀ j : Int, 0 ≤ j → j < 256 → gB S' j = gB S j) (h : MovA g I p T S ms) : MovA g I' p T' S' ms := by
  obtain ⟨ord, h1, h2, h3⟩ := h.rank
  refine ⟨h.ml, fun i a b => ?_, ord, fun j a b => by rw [hS j a b]; exact h1 j a b, fun j hj => ?_, fun x j y e => ?_⟩
  · rw [hS i a (by omega), hT i a b]
    exact h.mv i a b
  · have h4 := h2 j hj
    exact ⟨h4.1, h4.2.1, by rw [hI j h4.1 (by omega)]; exact h4.2.2⟩
  · have hj := h2 j (by rw [e]; simp)
    rw [hT j hj.1 hj.2.1]
    rcases h3 x j y e with h4 | h4 | h4
    · exact .inl h4
    · exact .inr (.inl h4)
    · refine .inr (.inr ⟨h4.1, fun z hz hZ => h4.2 z hz ?_⟩)
      have h5 := hR j z hj.1 hj.2.1 hz
      rwa [hI z h5.1 (by omega)] at hZ
section
variable {g : GameL} {s t ss ms : List Int} {W : List Bool} {p : Int}
theorem tru_inT (hR : isR g = true) : ∀ j : Int, 0 ≤ j → j < 256 → gB (truL s (g.ow.length : Int)) j = gB (inT g s) j := fun j a b => by
  rw [gB_truL a (by omega), gB_inT a b]
  by_cases h : j < (g.ow.length : Int)
  · rw [if_pos h, decide_eq_true h, Bool.and_true]
  · rw [if_neg h, decide_eq_false h, Bool.and_false]
theorem sets_same (hR : isR g = true) (hp : p = 0 ∨ p = 1) (h : AttractT g s p t ss ms) (hW : AttrT g (truL s (g.ow.length : Int)) p (truL t (g.ow.length : Int)) W) : ∀ j : Int, 0 ≤ j → j < 256 → gB W j = gB (fromW ss) j := by
  have hn := (isR_ok hR).n1
  obtain ⟨ha, _⟩ := att_in h hR hp
  have h2 := attr_congr (g := g) (I' := truL s (g.ow.length : Int)) (T' := truL t (g.ow.length : Int)) (ms := ms) hn (tru_inT hR) inT_lt (fun i x a b hx => row_rng hR a b hx) (fun j a b => by rw [gB_truL a (by omega), if_pos b]) ha
  exact fun j a b => Bool.eq_iff_iff.2 ⟨hW.least _ h2.cl j a b, h2.least _ hW.cl j a b⟩
theorem sets_mov (hR : isR g = true) (hp : p = 0 ∨ p = 1) (h : AttractT g s p t ss ms) (hW : AttrT g (truL s (g.ow.length : Int)) p (truL t (g.ow.length : Int)) W) : MovA g (truL s (g.ow.length : Int)) p (truL t (g.ow.length : Int)) W ms := by
  have hn := (isR_ok hR).n1
  exact mov_congr hn (tru_inT hR) (fun i x a b hx => row_rng hR a b hx) (fun j a b => by rw [gB_truL a (by omega), if_pos b]) (sets_same hR hp h hW) (att_in h hR hp).2
theorem sets_eq (hR : isR g = true) (hp : p = 0 ∨ p = 1) (h : AttractT g s p t ss ms) (hW : AttrT g (truL s (g.ow.length : Int)) p (truL t (g.ow.length : Int)) W) {x : List Int} (hx : OkW x) (hxb : ∀ j : Int, 0 ≤ j → j < 256 → gB (fromW x) j = gB W j) : ss = x :=
  (set_iff h.1 hx).2 fun j a b => by rw [hxb j a b, sets_same hR hp h hW j a b]
end
end Go.Proofs.YtkpljmalbmcdfaaDoor
