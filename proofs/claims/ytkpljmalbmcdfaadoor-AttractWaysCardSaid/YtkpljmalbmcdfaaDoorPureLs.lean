/-
  Plain: the list of a set, rising; the set of a list. No program.
-/
import Derived.Test.YtkpljmalbmcdfaaDoorPureAlg
set_option linter.unusedVariables false
set_option linter.unusedSimpArgs false
namespace Go.Proofs.YtkpljmalbmcdfaaDoor
open Go Go.RowKit
theorem mem_ls {l : List Bool} {z : Int} : ∀ {n : Nat}, z ∈ lsD l n ↔ 0 ≤ z ∧ z < (n : Int) ∧ gB l z = true
  | 0 => by
    refine ⟨fun h => (List.not_mem_nil h).elim, fun h => by omega⟩
  | n + 1 => by
    have ih := mem_ls (l := l) (z := z) (n := n)
    rw [lsD]
    by_cases hb : gB l (n : Int) = true
    · rw [if_pos hb, List.mem_append, ih, List.mem_singleton]
      constructor
      · rintro (h | rfl)
        · exact ⟨h.1, by omega, h.2.2⟩
        · exact ⟨by omega, by omega, hb⟩
      · rintro ⟨h1, h2, h3⟩
        by_cases e : z = (n : Int)
        · exact .inr e
        · exact .inl ⟨h1, by omega, h3⟩
    · rw [if_neg hb, ih]
      constructor
      · rintro ⟨h1, h2, h3⟩
        exact ⟨h1, by omega, h3⟩
      · rintro ⟨h1, h2, h3⟩
        by_cases e : z = (n : Int)
        · subst e
          exact (hb h3).elim
        · exact ⟨h1, by omega, h3⟩
theorem ls_lt (l : List Bool) : ∀ n : Nat, (lsD l n).Pairwise (· < ·)
  | 0 => List.Pairwise.nil
  | n + 1 => by
    rw [lsD]
    split
    · rw [List.pairwise_append]
      refine ⟨ls_lt l n, List.pairwise_singleton _ _, fun a ha b hb => ?_⟩
      rw [List.mem_singleton] at hb
      subst hb
      exact (mem_ls.1 ha).2.1
    · exact ls_lt l n
theorem sorted_ext : ∀ {a b : List Int}, a.Pairwise (· < ·) → b.Pairwise (· < ·) → (∀ z, z ∈ a ↔ z ∈ b) → a = b
  | [], [], _, _, _ => rfl
  | [], y :: b, _, _, h => ((h y).2 List.mem_cons_self |> List.not_mem_nil).elim
  | x :: a, [], _, _, h => ((h x).1 List.mem_cons_self |> List.not_mem_nil).elim
  | x :: a, y :: b, ha, hb, h => by
    rw [List.pairwise_cons] at ha hb
    have e : x = y := by
      rcases List.mem_cons.1 ((h x).1 List.mem_cons_self) with e | e
      · exact e
      · rcases List.mem_cons.1 ((h y).2 List.mem_cons_self) with e2 | e2
        · exact e2.symm
        · have h1 := hb.1 _ e
          have h2 := ha.1 _ e2
          omega
    subst e
    congr 1
    refine sorted_ext ha.2 hb.2 fun z => ⟨fun hz => ?_, fun hz => ?_⟩
    · rcases List.mem_cons.1 ((h z).1 (List.mem_cons_of_mem _ hz)) with e | e
      · have := ha.1 _ hz
        omega
      · exact e
    · rcases List.mem_cons.1 ((h z).2 (List.mem_cons_of_mem _ hz)) with e | e
      · have := hb.1 _ hz
        omega
      · exact e
/-- A set is told by its list. -/
theorem ls_inj {l r : List Bool} (hl : l.length = 256) (hr : r.length = 256) (h : lsD l 256 = lsD r 256) : l = r :=
  list_ext hl hr fun j a b => by
    have h1 : j ∈ lsD l 256 ↔ j ∈ lsD r 256 := by rw [h]
    rw [mem_ls, mem_ls] at h1
    have h2 : gB l j = true ↔ gB r j = true := ⟨fun x => (h1.1 ⟨a, by omega, x⟩).2.2, fun x => (h1.2 ⟨a, by omega, x⟩).2.2⟩
    exact Bool.eq_iff_iff.2 h2
theorem least_ls (l : List Bool) : leastD l = match lsD l 256 with | [] => -1 | a :: _ => a := by
  cases h : lsD l 256 with
  | nil =>
    simp only
    refine (least_no (k := 256) (by omega) fun j a b => ?_).symm
    by_cases hj : gB l j = true
    · have : j ∈ lsD l 256 := mem_ls.2 ⟨a, by omega, hj⟩
      rw [h] at this
      exact (List.not_mem_nil this).elim
    · simpa using hj
  | cons x r =>
    simp only
    have hx : x ∈ lsD l 256 := by rw [h]; exact List.mem_cons_self
    have hx := mem_ls.1 hx
    have hp := ls_lt l 256
    rw [h, List.pairwise_cons] at hp
    refine (least_at hx.1 (by omega) (fun j a b => ?_) hx.2.2).symm
    by_cases hj : gB l j = true
    · have : j ∈ lsD l 256 := mem_ls.2 ⟨a, by omega, hj⟩
      rw [h, List.mem_cons] at this
      rcases this with e | e
      · omega
      · have := hp.1 _ e
        omega
    · simpa using hj
theorem ls_put0 {l : List Bool} (hl : l.length = 256) {x : Int} {r : List Int} (h : lsD l 256 = x :: r) : lsD (putD l x false) 256 = r := by
  have hp := ls_lt l 256
  rw [h, List.pairwise_cons] at hp
  refine sorted_ext (ls_lt _ _) hp.2 fun z => ?_
  rw [mem_ls]
  have hz : z ∈ lsD l 256 ↔ z ∈ x :: r := by rw [h]
  rw [mem_ls, List.mem_cons] at hz
  constructor
  · rintro ⟨h1, h2, h3⟩
    rw [gB_put hl h1 (by omega)] at h3
    by_cases e : x = z
    · rw [if_pos e] at h3
      cases h3
    · rw [if_neg e] at h3
      rcases hz.1 ⟨h1, h2, h3⟩ with e2 | e2
      · exact (e e2.symm).elim
      · exact e2
  · intro hr
    have h1 := hz.2 (.inr hr)
    refine ⟨h1.1, h1.2.1, ?_⟩
    rw [gB_put hl h1.1 (by omega), if_neg (by have := hp.1 _ hr; omega)]
    exact h1.2.2
theorem gB_foldl : ∀ (l : List Int) {s : List Bool} (hs : s.length = 256) {j : Int} (a : 0 ≤ j) (b : j < 256), gB (l.foldl (fun s n => putD s n true) s) j = (gB s j || decide (j ∈ l))
  | [], s, hs, j, a, b => by simp
  | n :: l, s, hs, j, a, b => by
    rw [List.foldl_cons, gB_foldl l (put_len hs) a b, gB_put hs a b]
    by_cases e : n = j
    · subst e
      simp
    · rw [if_neg e]
      have e2 : ¬ j = n := fun h => e h.symm
      simp [List.mem_cons, e2]
theorem gB_ofD (l : List Int) {j : Int} (a : 0 ≤ j) (b : j < 256) : gB (ofD l) j = decide (j ∈ l) := by
  unfold ofD
  rw [gB_foldl l List.length_replicate a b, gB_rep, Bool.false_or]
theorem mem_ls_of {l : List Int} {z : Int} : z ∈ lsD (ofD l) 256 ↔ 0 ≤ z ∧ z < 256 ∧ z ∈ l := by
  rw [mem_ls]
  constructor
  · rintro ⟨h1, h2, h3⟩
    rw [gB_ofD l h1 (by omega)] at h3
    exact ⟨h1, by omega, of_decide_eq_true h3⟩
  · rintro ⟨h1, h2, h3⟩
    refine ⟨h1, by omega, ?_⟩
    rw [gB_ofD l h1 h2]
    exact decide_eq_true h3
theorem ofD_ls {l : List Bool} (hl : l.length = 256) : ofD (lsD l 256) = l :=
  ls_inj (of_len _) hl (sorted_ext (ls_lt _ _) (ls_lt _ _) fun z => by
    rw [mem_ls_of, mem_ls]
    exact ⟨fun h => h.2.2, fun h => ⟨h.1, by omega, h⟩⟩)
/-- A list of numbers from 0 to 255, rising. -/
def FineT (l : List Int) : Prop := (∀ z ∈ l, 0 ≤ z ∧ z ≤ 255) ∧ l.Pairwise (· < ·)
instance (l : List Int) : Decidable (FineT l) := by unfold FineT; exact inferInstance
theorem fine_iff {l : List Int} : lsD (ofD l) 256 = l ↔ FineT l := by
  constructor
  · intro h
    refine ⟨fun z hz => ?_, ?_⟩
    · rw [← h] at hz
      have := mem_ls.1 hz
      omega
    · have := ls_lt (ofD l) 256
      rwa [h] at this
  · intro h
    refine sorted_ext (ls_lt _ _) h.2 fun z => ?_
    rw [mem_ls_of]
    exact ⟨fun x => x.2.2, fun x => by have := h.1 z x; exact ⟨by omega, by omega, x⟩⟩
/- Taking apart. -/
theorem drop_at {l r : List Int} {k : Int} (h0 : 0 ≤ k) (h1 : k < (l.length : Int)) : l.drop k.toNat = gI l k :: l.drop (k + 1).toNat := by
  rw [show (k + 1).toNat = k.toNat + 1 by omega, List.drop_eq_getElem_cons (show k.toNat < l.length by omega)]
  simp only [gI, List.getD_eq_getElem?_getD, List.getElem?_eq_getElem (show k.toNat < l.length by omega), Option.getD_some]
theorem tk_least {xs la : List Int} {k : Int} (h : lsD (fromW xs) 256 = la.drop k.toNat) (h0 : 0 ≤ k) (h1 : k < (la.length : Int)) : leastD (fromW xs) = gI la k := by
  rw [least_ls, h, drop_at (r := []) h0 h1]
theorem tk_len {xs la : List Int} {k : Int} (h : lsD (fromW xs) 256 = la.drop k.toNat) (h0 : 0 ≤ k) (h1 : k ≤ (la.length : Int)) : lenW xs = (la.length : Int) - k := by
  rw [lenW_ls, h, List.length_drop]
  omega
theorem tk_in {s xs : List Int} {k : Int} (hs : OkW s) (hx : OkW xs) (h : lsD (fromW xs) 256 = (lsD (fromW s) 256).drop k.toNat) : inW xs s = true := by
  rw [inW_from hx hs, inD_iff]
  intro j a b hj
  have h1 : j ∈ lsD (fromW xs) 256 := mem_ls.2 ⟨a, by omega, hj⟩
  rw [h] at h1
  exact (mem_ls.1 (List.mem_of_mem_drop h1)).2.2
theorem tk_next {xs la : List Int} {k : Int} (hx : OkW xs) (h : lsD (fromW xs) 256 = la.drop k.toNat) (h0 : 0 ≤ k) (h1 : k < (la.length : Int)) : lsD (fromW (lessW xs (leastD (fromW xs)))) 256 = la.drop (k + 1).toNat := by
  rw [tk_least h h0 h1, from_less hx]
  rw [drop_at (r := []) h0 h1] at h
  exact ls_put0 (from_len _) h
theorem tk_end {xs la : List Int} {k : Int} (hx : OkW xs) (h : lsD (fromW xs) 256 = la.drop k.toNat) (h1 : (la.length : Int) ≤ k) : xs = [0, 0, 0, 0] := by
  refine from_inj hx okW_00 (ls_inj (from_len _) (from_len _) ?_)
  rw [h, from_00, List.drop_eq_nil_of_le (by omega)]
  exact (show lsD emptyD 256 = [] by decide +kernel).symm
theorem ls_00 : lsD (fromW ([0, 0, 0, 0] : List Int)) 256 = [] := by rw [from_00]; decide +kernel
theorem tk_none {xs la : List Int} {k : Int} (h : lsD (fromW xs) 256 = la.drop k.toNat) (h1 : (la.length : Int) ≤ k) : lsD (fromW xs) 256 = [] := by rw [h, List.drop_eq_nil_of_le (by omega)]
theorem none_least {xs : List Int} (h : lsD (fromW xs) 256 = []) : leastD (fromW xs) = -1 := by rw [least_ls, h]
theorem none_len {xs : List Int} (h : lsD (fromW xs) 256 = []) : lenW xs = 0 := by rw [lenW_ls, h]; rfl
/- Full. -/
theorem ls_full (n : Int) : ∀ m : Nat, m ≤ 256 → lsD (fullD n) m = (List.range (min m n.toNat)).map Int.ofNat
  | 0, _ => by rw [Nat.zero_min]; rfl
  | m + 1, h => by
    rw [lsD, ls_full n m (by omega), gB_fullD (by omega) (by omega)]
    by_cases hm : (m : Int) < n
    · rw [if_pos (decide_eq_true hm), show min (m + 1) n.toNat = m + 1 by omega, show min m n.toNat = m by omega, List.range_succ, List.map_append]
      rfl
    · rw [decide_eq_false hm, if_neg (by decide), show min (m + 1) n.toNat = min m n.toNat by omega]
theorem ls_fullW (n : Int) : lsD (fromW (fullW n)) 256 = (List.range (max 0 (min n 256)).toNat).map Int.ofNat := by
  rw [from_full, ls_full n 256 (by omega), show min 256 n.toNat = (max 0 (min n 256)).toNat by omega]
theorem full_len (n : Int) : lenW (fullW n) = max 0 (min n 256) := by
  rw [lenW_ls, ls_fullW, List.length_map, List.length_range]
  omega
theorem full_has (n m : Int) : hasW (fullW n) m = decide (0 ≤ m ∧ m < max 0 (min n 256)) := by
  rw [hasW_from, hasD, from_full]
  by_cases h : 0 ≤ m ∧ m < 256
  · rw [decide_eq_true h, Bool.true_and, gB_fullD h.1 h.2, decide_eq_decide]
    omega
  · rw [decide_eq_false h, Bool.false_and]
    exact (decide_eq_false (by omega)).symm
theorem full_in (n m : Int) : inW (fullW n) (fullW m) = decide (max 0 (min n 256) ≤ max 0 (min m 256)) := by
  rw [inW_from (fullW_W n) (fullW_W m), from_full, from_full, Bool.eq_iff_iff, inD_iff, decide_eq_true_iff]
  constructor
  · intro h
    by_cases hc : max 0 (min n 256) ≤ max 0 (min m 256)
    · exact hc
    · have := h (max 0 (min m 256)) (by omega) (by omega) (by rw [gB_fullD (by omega) (by omega)]; exact decide_eq_true (by omega))
      rw [gB_fullD (by omega) (by omega)] at this
      have := of_decide_eq_true this
      omega
  · intro h j a b hj
    rw [gB_fullD a b] at hj ⊢
    have := of_decide_eq_true hj
    exact decide_eq_true (by omega)
theorem full_at {n k : Int} (h0 : 0 ≤ k) (h1 : k < max 0 (min n 256)) : gI (lsD (fromW (fullW n)) 256) k = k := by
  rw [ls_fullW]
  simp only [gI, List.getD_eq_getElem?_getD, List.getElem?_map, List.getElem?_range (show k.toNat < (max 0 (min n 256)).toNat by omega), Option.map_some, Option.getD_some]
  show ((k.toNat : Nat) : Int) = k
  omega
theorem full_lsl (n : Int) : ((lsD (fromW (fullW n)) 256).length : Int) = max 0 (min n 256) := by
  rw [← lenW_ls, full_len]
theorem nbF {a b : Bool} (h : a = b) : (!(a == b)) = false := by subst h; simp
end Go.Proofs.YtkpljmalbmcdfaaDoor
