/-
  Plain: sets are a lattice; how many are in them. No program. Plain: the list of a set, rising; the set of a list. No program. Plain: what the laws of lists of sets ask. No program.
-/
import Derived.Test.YtkkophhnliplhaaDoorPureSet3
set_option linter.unusedVariables false
set_option linter.unusedSimpArgs false
namespace Go.Proofs.YtkkophhnliplhaaDoor
open Go Go.RowKit
theorem set_iff {a b : List Int} (ha : OkW a) (hb : OkW b) : a = b ↔ ∀ j : Int, 0 ≤ j → j < 256 → gB (fromW a) j = gB (fromW b) j :=
  ⟨fun h j _ _ => by rw [h], fun h => from_inj ha hb (list_ext (from_len _) (from_len _) h)⟩
theorem alg_eq {a b : List Int} (ha : OkW a) (hb : OkW b) (h : ∀ j : Int, 0 ≤ j → j < 256 → gB (fromW a) j = gB (fromW b) j) : decide (a = b) = true := decide_eq_true ((set_iff ha hb).2 h)
theorem inD_iff {l r : List Bool} : inD l r = true ↔ ∀ j : Int, 0 ≤ j → j < 256 → gB l j = true → gB r j = true := by
  constructor
  · intro h j a b hj
    by_cases hr : gB r j = true
    · exact hr
    · have := in_bad a b hj (by simpa using hr)
      rw [← this] at h
      cases h
  · intro h
    exact (in_good (k := 256) (by omega) h).symm
section
variable {s t u : List Int} (hs : OkW s) (ht : OkW t) (hu : OkW u)
include hs ht
theorem alg1 : decide (orS s t = orS t s) = true := alg_eq (okW_orS hs ht) (okW_orS ht hs) fun j a b => by
  simp only [from_orS, gB_orD a b]
  exact Bool.or_comm _ _
theorem alg2 : decide (andS s t = andS t s) = true := alg_eq (okW_andS hs ht) (okW_andS ht hs) fun j a b => by
  simp only [from_andS, gB_andD a b]
  exact Bool.and_comm _ _
theorem alg7 : decide (orS s (andS s t) = s) = true := alg_eq (okW_orS hs (okW_andS hs ht)) hs fun j a b => by
  simp only [from_orS, gB_orD a b, from_andS, gB_andD a b]
  cases gB (fromW s) j <;> cases gB (fromW t) j <;> rfl
theorem alg8 : decide (andS s (orS s t) = s) = true := alg_eq (okW_andS hs (okW_orS hs ht)) hs fun j a b => by
  simp only [from_orS, gB_orD a b, from_andS, gB_andD a b]
  cases gB (fromW s) j <;> cases gB (fromW t) j <;> rfl
theorem alg9 : decide (minusS s t = minusS s (andS s t)) = true := alg_eq (okW_minusS hs ht) (okW_minusS hs (okW_andS hs ht)) fun j a b => by
  simp only [from_minusS ht, from_minusS (okW_andS hs ht), gB_minusD a b, from_andS, gB_andD a b]
  cases gB (fromW s) j <;> cases gB (fromW t) j <;> rfl
theorem alg10 : decide (andS (minusS s t) t = [0, 0, 0, 0]) = true := alg_eq (okW_andS (okW_minusS hs ht) ht) okW_00 fun j a b => by
  simp only [from_minusS ht, gB_minusD a b, from_andS, gB_andD a b, from_00, gB_emptyD]
  cases gB (fromW s) j <;> cases gB (fromW t) j <;> rfl
theorem alg11 : decide (orS (minusS s t) (andS s t) = s) = true := alg_eq (okW_orS (okW_minusS hs ht) (okW_andS hs ht)) hs fun j a b => by
  simp only [from_minusS ht, gB_minusD a b, from_andS, gB_andD a b, from_orS, gB_orD a b]
  cases gB (fromW s) j <;> cases gB (fromW t) j <;> rfl
theorem alg13 : (inW s t == decide (orS s t = t)) = true := by
  rw [beq_iff_eq, inW_from hs ht, Bool.eq_iff_iff, decide_eq_true_iff, inD_iff, set_iff (okW_orS hs ht) ht]
  refine ⟨fun h j a b => ?_, fun h j a b hj => ?_⟩
  · have h1 := h j a b
    simp only [from_orS, gB_orD a b]
    cases h2 : gB (fromW s) j <;> cases h3 : gB (fromW t) j <;> simp_all
  · have h1 := h j a b
    simp only [from_orS, gB_orD a b] at h1
    rw [hj] at h1
    exact h1.symm
theorem alg14 : (inW s t == decide (andS s t = s)) = true := by
  rw [beq_iff_eq, inW_from hs ht, Bool.eq_iff_iff, decide_eq_true_iff, inD_iff, set_iff (okW_andS hs ht) hs]
  refine ⟨fun h j a b => ?_, fun h j a b hj => ?_⟩
  · have h1 := h j a b
    simp only [from_andS, gB_andD a b]
    cases h2 : gB (fromW s) j <;> cases h3 : gB (fromW t) j <;> simp_all
  · have h1 := h j a b
    simp only [from_andS, gB_andD a b] at h1
    rw [hj] at h1
    exact h1
theorem alg15 : inW (andS s t) s = true := by
  rw [inW_from (okW_andS hs ht) hs, inD_iff]
  intro j a b hj
  simp only [from_andS, gB_andD a b] at hj
  cases h2 : gB (fromW s) j <;> simp_all
theorem alg16 : inW s (orS s t) = true := by
  rw [inW_from hs (okW_orS hs ht), inD_iff]
  intro j a b hj
  simp only [from_orS, gB_orD a b, hj, Bool.true_or]
include hu
theorem alg3 : decide (orS s (orS t u) = orS (orS s t) u) = true := alg_eq (okW_orS hs (okW_orS ht hu)) (okW_orS (okW_orS hs ht) hu) fun j a b => by
  simp only [from_orS, gB_orD a b]
  exact (Bool.or_assoc _ _ _).symm
theorem alg4 : decide (andS s (andS t u) = andS (andS s t) u) = true := alg_eq (okW_andS hs (okW_andS ht hu)) (okW_andS (okW_andS hs ht) hu) fun j a b => by
  simp only [from_andS, gB_andD a b]
  exact (Bool.and_assoc _ _ _).symm
theorem alg5 : decide (andS s (orS t u) = orS (andS s t) (andS s u)) = true := alg_eq (okW_andS hs (okW_orS ht hu)) (okW_orS (okW_andS hs ht) (okW_andS hs hu)) fun j a b => by
  simp only [from_andS, gB_andD a b, from_orS, gB_orD a b]
  exact Bool.and_or_distrib_left _ _ _
theorem alg6 : decide (orS s (andS t u) = andS (orS s t) (orS s u)) = true := alg_eq (okW_orS hs (okW_andS ht hu)) (okW_andS (okW_orS hs ht) (okW_orS hs hu)) fun j a b => by
  simp only [from_andS, gB_andD a b, from_orS, gB_orD a b]
  exact Bool.or_and_distrib_left _ _ _
theorem alg12 : decide (minusS s (orS t u) = minusS (minusS s t) u) = true := alg_eq (okW_minusS hs (okW_orS ht hu)) (okW_minusS (okW_minusS hs ht) hu) fun j a b => by
  simp only [from_minusS (okW_orS ht hu), from_minusS ht, from_minusS hu, gB_minusD a b, from_orS, gB_orD a b]
  cases gB (fromW s) j <;> cases gB (fromW t) j <;> cases gB (fromW u) j <;> rfl
end
/-- How many numbers below n are in a set. -/
def cB (l : List Bool) (n : Nat) : Int := ((lsD l n).length : Int)
theorem cB_0 (l : List Bool) : cB l 0 = 0 := rfl
theorem cB_s (l : List Bool) (n : Nat) : cB l (n + 1) = cB l n + (if gB l (n : Int) = true then 1 else 0) := by
  unfold cB
  rw [lsD]
  split <;> simp
theorem cB_ge (l : List Bool) (n : Nat) : 0 ≤ cB l n := Int.natCast_nonneg _
theorem lenW_c (s : List Int) : lenW s = cB (fromW s) 256 := lenW_ls s
theorem cB_or (l r : List Bool) : ∀ n, n ≤ 256 → cB (orD l r) n + cB (andD l r) n = cB l n + cB r n
  | 0, _ => rfl
  | n + 1, h => by
    have ih := cB_or l r n (by omega)
    rw [cB_s, cB_s, cB_s, cB_s, gB_orD (by omega) (by omega), gB_andD (by omega) (by omega)]
    cases gB l (n : Int) <;> cases gB r (n : Int) <;> simp <;> omega
theorem cB_minus (l r : List Bool) : ∀ n, n ≤ 256 → cB (minusD l r) n = cB l n - cB (andD l r) n
  | 0, _ => rfl
  | n + 1, h => by
    have ih := cB_minus l r n (by omega)
    rw [cB_s, cB_s, cB_s, gB_minusD (by omega) (by omega), gB_andD (by omega) (by omega)]
    cases gB l (n : Int) <;> cases gB r (n : Int) <;> simp <;> omega
theorem cB_put {l : List Bool} (hl : l.length = 256) (k : Int) (v : Bool) : ∀ n, n ≤ 256 → cB (putD l k v) n = cB l n + (if 0 ≤ k ∧ k < n then (if v = true then 1 else 0) - (if gB l k = true then 1 else 0) else 0)
  | 0, _ => by rw [if_neg (by omega)]; rfl
  | n + 1, h => by
    have ih := cB_put hl k v n (by omega)
    rw [cB_s, cB_s, gB_put hl (by omega) (by omega), ih]
    by_cases hk : k = (n : Int)
    · subst hk
      rw [if_neg (show ¬ (0 ≤ (n : Int) ∧ (n : Int) < (n : Int)) by omega), if_pos rfl, if_pos (show 0 ≤ (n : Int) ∧ (n : Int) < ((n + 1 : Nat) : Int) by omega)]
      cases v <;> cases gB l (n : Int) <;> simp <;> omega
    · rw [if_neg hk]
      by_cases h1 : 0 ≤ k ∧ k < (n : Int)
      · rw [if_pos h1, if_pos (show 0 ≤ k ∧ k < ((n + 1 : Nat) : Int) by omega)]
        omega
      · rw [if_neg h1, if_neg (show ¬ (0 ≤ k ∧ k < ((n + 1 : Nat) : Int)) by omega)]
        omega
theorem len_or {s t : List Int} : lenW (orS s t) + lenW (andS s t) = lenW s + lenW t := by
  rw [lenW_c, lenW_c, lenW_c, lenW_c, from_orS, from_andS]
  exact cB_or _ _ 256 (by omega)
theorem len_minus {s t : List Int} (ht : OkW t) : lenW (minusS s t) = lenW s - lenW (andS s t) := by
  rw [lenW_c, lenW_c, lenW_c, from_minusS ht, from_andS]
  exact cB_minus _ _ 256 (by omega)
theorem len_with {s : List Int} {n m : Int} (hs : OkW s) (hm : m = if 0 ≤ n ∧ n < 256 ∧ hasW s n = false then 1 else 0) : lenW (withW s n) = lenW s + m := by
  subst hm
  rw [lenW_c, lenW_c, from_with hs, cB_put (from_len _) n true 256 (by omega), hasW_from, hasD]
  by_cases h : 0 ≤ n ∧ n < 256
  · rw [if_pos (show 0 ≤ n ∧ n < ((256 : Nat) : Int) by omega), decide_eq_true h, Bool.true_and]
    cases gB (fromW s) n
    · rw [if_pos (show 0 ≤ n ∧ n < 256 ∧ false = false from ⟨h.1, h.2, rfl⟩)]
      rfl
    · rw [if_neg (show ¬ (0 ≤ n ∧ n < 256 ∧ true = false) from fun hh => by cases hh.2.2)]
      rfl
  · rw [if_neg (show ¬ (0 ≤ n ∧ n < ((256 : Nat) : Int)) by omega), if_neg (fun hh => h ⟨hh.1, hh.2.1⟩)]
theorem len_less {s : List Int} {n m : Int} (hs : OkW s) (hm : m = if hasW s n = true then 1 else 0) : lenW (lessW s n) = lenW s - m := by
  subst hm
  rw [lenW_c, lenW_c, from_less hs, cB_put (from_len _) n false 256 (by omega), hasW_from, hasD]
  by_cases h : 0 ≤ n ∧ n < 256
  · rw [if_pos (show 0 ≤ n ∧ n < ((256 : Nat) : Int) by omega), decide_eq_true h, Bool.true_and]
    cases gB (fromW s) n <;> simp <;> omega
  · rw [if_neg (show ¬ (0 ≤ n ∧ n < ((256 : Nat) : Int)) by omega), decide_eq_false h, Bool.false_and, if_neg (by decide)]
    omega
theorem bneF {a b : Int} (h : a = b) : (a != b) = false := by simp [h]
theorem beqT {a b : Int} (h : a = b) : (a == b) = true := by simp [h]
end Go.Proofs.YtkkophhnliplhaaDoor
set_option linter.unusedVariables false
set_option linter.unusedSimpArgs false
namespace Go.Proofs.YtkkophhnliplhaaDoor
open Go Go.RowKit
theorem mem_ls {l : List Bool} {z : Int} : ∀ {n : Nat}, z ∈ lsD l n ↔ 0 ≤ z ∧ z < (n : Int) ∧ gB l z = true
  | 0 => by
    refine ⟨fun h => (List.not_mem_nil h).elim, fun h => by omega⟩
  | n + 1 => by
    have ih := mem_ls (l := l) (z := z) (n := n)
    rw [lsD]
    by_cases hb : gB l (n : Int) = true
    · rw [if_pos hb, List.mem_append, ih, List.mem_singleton]
      constructor
      · rintro (h | rfl)
        · exact ⟨h.1, by omega, h.2.2⟩
        · exact ⟨by omega, by omega, hb⟩
      · rintro ⟨h1, h2, h3⟩
        by_cases e : z = (n : Int)
        · exact .inr e
        · exact .inl ⟨h1, by omega, h3⟩
    · rw [if_neg hb, ih]
      constructor
      · rintro ⟨h1, h2, h3⟩
        exact ⟨h1, by omega, h3⟩
      · rintro ⟨h1, h2, h3⟩
        by_cases e : z = (n : Int)
        · subst e
          exact (hb h3).elim
        · exact ⟨h1, by omega, h3⟩
theorem ls_lt (l : List Bool) : ∀ n : Nat, (lsD l n).Pairwise (· < ·)
  | 0 => List.Pairwise.nil
  | n + 1 => by
    rw [lsD]
    split
    · rw [List.pairwise_append]
      refine ⟨ls_lt l n, List.pairwise_singleton _ _, fun a ha b hb => ?_⟩
      rw [List.mem_singleton] at hb
      subst hb
      exact (mem_ls.1 ha).2.1
    · exact ls_lt l n
theorem sorted_ext : ∀ {a b : List Int}, a.Pairwise (· < ·) → b.Pairwise (· < ·) → (∀ z, z ∈ a ↔ z ∈ b) → a = b
  | [], [], _, _, _ => rfl
  | [], y :: b, _, _, h => ((h y).2 List.mem_cons_self |> List.not_mem_nil).elim
  | x :: a, [], _, _, h => ((h x).1 List.mem_cons_self |> List.not_mem_nil).elim
  | x :: a, y :: b, ha, hb, h => by
    rw [List.pairwise_cons] at ha hb
    have e : x = y := by
      rcases List.mem_cons.1 ((h x).1 List.mem_cons_self) with e | e
      · exact e
      · rcases List.mem_cons.1 ((h y).2 List.mem_cons_self) with e2 | e2
        · exact e2.symm
        · have h1 := hb.1 _ e
          have h2 := ha.1 _ e2
          omega
    subst e
    congr 1
    refine sorted_ext ha.2 hb.2 fun z => ⟨fun hz => ?_, fun hz => ?_⟩
    · rcases List.mem_cons.1 ((h z).1 (List.mem_cons_of_mem _ hz)) with e | e
      · have := ha.1 _ hz
        omega
      · exact e
    · rcases List.mem_cons.1 ((h z).2 (List.mem_cons_of_mem _ hz)) with e | e
      · have := hb.1 _ hz
        omega
      · exact e
/-- A set is told by its list. -/
theorem ls_inj {l r : List Bool} (hl : l.length = 256) (hr : r.length = 256) (h : lsD l 256 = lsD r 256) : l = r :=
  list_ext hl hr fun j a b => by
    have h1 : j ∈ lsD l 256 ↔ j ∈ lsD r 256 := by rw [h]
    rw [mem_ls, mem_ls] at h1
    have h2 : gB l j = true ↔ gB r j = true := ⟨fun x => (h1.1 ⟨a, by omega, x⟩).2.2, fun x => (h1.2 ⟨a, by omega, x⟩).2.2⟩
    exact Bool.eq_iff_iff.2 h2
theorem least_ls (l : List Bool) : leastD l = match lsD l 256 with | [] => -1 | a :: _ => a := by
  cases h : lsD l 256 with
  | nil =>
    simp only
    refine (least_no (k := 256) (by omega) fun j a b => ?_).symm
    by_cases hj : gB l j = true
    · have : j ∈ lsD l 256 := mem_ls.2 ⟨a, by omega, hj⟩
      rw [h] at this
      exact (List.not_mem_nil this).elim
    · simpa using hj
  | cons x r =>
    simp only
    have hx : x ∈ lsD l 256 := by rw [h]; exact List.mem_cons_self
    have hx := mem_ls.1 hx
    have hp := ls_lt l 256
    rw [h, List.pairwise_cons] at hp
    refine (least_at hx.1 (by omega) (fun j a b => ?_) hx.2.2).symm
    by_cases hj : gB l j = true
    · have : j ∈ lsD l 256 := mem_ls.2 ⟨a, by omega, hj⟩
      rw [h, List.mem_cons] at this
      rcases this with e | e
      · omega
      · have := hp.1 _ e
        omega
    · simpa using hj
theorem ls_put0 {l : List Bool} (hl : l.length = 256) {x : Int} {r : List Int} (h : lsD l 256 = x :: r) : lsD (putD l x false) 256 = r := by
  have hp := ls_lt l 256
  rw [h, List.pairwise_cons] at hp
  refine sorted_ext (ls_lt _ _) hp.2 fun z => ?_
  rw [mem_ls]
  have hz : z ∈ lsD l 256 ↔ z ∈ x :: r := by rw [h]
  rw [mem_ls, List.mem_cons] at hz
  constructor
  · rintro ⟨h1, h2, h3⟩
    rw [gB_put hl h1 (by omega)] at h3
    by_cases e : x = z
    · rw [if_pos e] at h3
      cases h3
    · rw [if_neg e] at h3
      rcases hz.1 ⟨h1, h2, h3⟩ with e2 | e2
      · exact (e e2.symm).elim
      · exact e2
  · intro hr
    have h1 := hz.2 (.inr hr)
    refine ⟨h1.1, h1.2.1, ?_⟩
    rw [gB_put hl h1.1 (by omega), if_neg (by have := hp.1 _ hr; omega)]
    exact h1.2.2
theorem gB_foldl : ∀ (l : List Int) {s : List Bool} (hs : s.length = 256) {j : Int} (a : 0 ≤ j) (b : j < 256), gB (l.foldl (fun s n => putD s n true) s) j = (gB s j || decide (j ∈ l))
  | [], s, hs, j, a, b => by simp
  | n :: l, s, hs, j, a, b => by
    rw [List.foldl_cons, gB_foldl l (put_len hs) a b, gB_put hs a b]
    by_cases e : n = j
    · subst e
      simp
    · rw [if_neg e]
      have e2 : ¬ j = n := fun h => e h.symm
      simp [List.mem_cons, e2]
theorem gB_ofD (l : List Int) {j : Int} (a : 0 ≤ j) (b : j < 256) : gB (ofD l) j = decide (j ∈ l) := by
  unfold ofD
  rw [gB_foldl l List.length_replicate a b, gB_rep, Bool.false_or]
theorem mem_ls_of {l : List Int} {z : Int} : z ∈ lsD (ofD l) 256 ↔ 0 ≤ z ∧ z < 256 ∧ z ∈ l := by
  rw [mem_ls]
  constructor
  · rintro ⟨h1, h2, h3⟩
    rw [gB_ofD l h1 (by omega)] at h3
    exact ⟨h1, by omega, of_decide_eq_true h3⟩
  · rintro ⟨h1, h2, h3⟩
    refine ⟨h1, by omega, ?_⟩
    rw [gB_ofD l h1 h2]
    exact decide_eq_true h3
theorem ofD_ls {l : List Bool} (hl : l.length = 256) : ofD (lsD l 256) = l :=
  ls_inj (of_len _) hl (sorted_ext (ls_lt _ _) (ls_lt _ _) fun z => by
    rw [mem_ls_of, mem_ls]
    exact ⟨fun h => h.2.2, fun h => ⟨h.1, by omega, h⟩⟩)
/-- A list of numbers from 0 to 255, rising. -/
def FineT (l : List Int) : Prop := (∀ z ∈ l, 0 ≤ z ∧ z ≤ 255) ∧ l.Pairwise (· < ·)
instance (l : List Int) : Decidable (FineT l) := by unfold FineT; exact inferInstance
theorem fine_iff {l : List Int} : lsD (ofD l) 256 = l ↔ FineT l := by
  constructor
  · intro h
    refine ⟨fun z hz => ?_, ?_⟩
    · rw [← h] at hz
      have := mem_ls.1 hz
      omega
    · have := ls_lt (ofD l) 256
      rwa [h] at this
  · intro h
    refine sorted_ext (ls_lt _ _) h.2 fun z => ?_
    rw [mem_ls_of]
    exact ⟨fun x => x.2.2, fun x => by have := h.1 z x; exact ⟨by omega, by omega, x⟩⟩
/- Taking apart. -/
theorem drop_at {l r : List Int} {k : Int} (h0 : 0 ≤ k) (h1 : k < (l.length : Int)) : l.drop k.toNat = gI l k :: l.drop (k + 1).toNat := by
  rw [show (k + 1).toNat = k.toNat + 1 by omega, List.drop_eq_getElem_cons (show k.toNat < l.length by omega)]
  simp only [gI, List.getD_eq_getElem?_getD, List.getElem?_eq_getElem (show k.toNat < l.length by omega), Option.getD_some]
theorem tk_least {xs la : List Int} {k : Int} (h : lsD (fromW xs) 256 = la.drop k.toNat) (h0 : 0 ≤ k) (h1 : k < (la.length : Int)) : leastD (fromW xs) = gI la k := by
  rw [least_ls, h, drop_at (r := []) h0 h1]
theorem tk_len {xs la : List Int} {k : Int} (h : lsD (fromW xs) 256 = la.drop k.toNat) (h0 : 0 ≤ k) (h1 : k ≤ (la.length : Int)) : lenW xs = (la.length : Int) - k := by
  rw [lenW_ls, h, List.length_drop]
  omega
theorem tk_in {s xs : List Int} {k : Int} (hs : OkW s) (hx : OkW xs) (h : lsD (fromW xs) 256 = (lsD (fromW s) 256).drop k.toNat) : inW xs s = true := by
  rw [inW_from hx hs, inD_iff]
  intro j a b hj
  have h1 : j ∈ lsD (fromW xs) 256 := mem_ls.2 ⟨a, by omega, hj⟩
  rw [h] at h1
  exact (mem_ls.1 (List.mem_of_mem_drop h1)).2.2
theorem tk_next {xs la : List Int} {k : Int} (hx : OkW xs) (h : lsD (fromW xs) 256 = la.drop k.toNat) (h0 : 0 ≤ k) (h1 : k < (la.length : Int)) : lsD (fromW (lessW xs (leastD (fromW xs)))) 256 = la.drop (k + 1).toNat := by
  rw [tk_least h h0 h1, from_less hx]
  rw [drop_at (r := []) h0 h1] at h
  exact ls_put0 (from_len _) h
theorem tk_end {xs la : List Int} {k : Int} (hx : OkW xs) (h : lsD (fromW xs) 256 = la.drop k.toNat) (h1 : (la.length : Int) ≤ k) : xs = [0, 0, 0, 0] := by
  refine from_inj hx okW_00 (ls_inj (from_len _) (from_len _) ?_)
  rw [h, from_00, List.drop_eq_nil_of_le (by omega)]
  exact (show lsD emptyD 256 = [] by decide +kernel).symm
theorem ls_00 : lsD (fromW ([0, 0, 0, 0] : List Int)) 256 = [] := by rw [from_00]; decide +kernel
theorem tk_none {xs la : List Int} {k : Int} (h : lsD (fromW xs) 256 = la.drop k.toNat) (h1 : (la.length : Int) ≤ k) : lsD (fromW xs) 256 = [] := by rw [h, List.drop_eq_nil_of_le (by omega)]
theorem none_least {xs : List Int} (h : lsD (fromW xs) 256 = []) : leastD (fromW xs) = -1 := by rw [least_ls, h]
theorem none_len {xs : List Int} (h : lsD (fromW xs) 256 = []) : lenW xs = 0 := by rw [lenW_ls, h]; rfl
/- Full. -/
theorem ls_full (n : Int) : ∀ m : Nat, m ≤ 256 → lsD (fullD n) m = (List.range (min m n.toNat)).map Int.ofNat
  | 0, _ => by rw [Nat.zero_min]; rfl
  | m + 1, h => by
    rw [lsD, ls_full n m (by omega), gB_fullD (by omega) (by omega)]
    by_cases hm : (m : Int) < n
    · rw [if_pos (decide_eq_true hm), show min (m + 1) n.toNat = m + 1 by omega, show min m n.toNat = m by omega, List.range_succ, List.map_append]
      rfl
    · rw [decide_eq_false hm, if_neg (by decide), show min (m + 1) n.toNat = min m n.toNat by omega]
theorem ls_fullW (n : Int) : lsD (fromW (fullW n)) 256 = (List.range (max 0 (min n 256)).toNat).map Int.ofNat := by
  rw [from_full, ls_full n 256 (by omega), show min 256 n.toNat = (max 0 (min n 256)).toNat by omega]
theorem full_len (n : Int) : lenW (fullW n) = max 0 (min n 256) := by
  rw [lenW_ls, ls_fullW, List.length_map, List.length_range]
  omega
theorem full_has (n m : Int) : hasW (fullW n) m = decide (0 ≤ m ∧ m < max 0 (min n 256)) := by
  rw [hasW_from, hasD, from_full]
  by_cases h : 0 ≤ m ∧ m < 256
  · rw [decide_eq_true h, Bool.true_and, gB_fullD h.1 h.2, decide_eq_decide]
    omega
  · rw [decide_eq_false h, Bool.false_and]
    exact (decide_eq_false (by omega)).symm
theorem full_in (n m : Int) : inW (fullW n) (fullW m) = decide (max 0 (min n 256) ≤ max 0 (min m 256)) := by
  rw [inW_from (fullW_W n) (fullW_W m), from_full, from_full, Bool.eq_iff_iff, inD_iff, decide_eq_true_iff]
  constructor
  · intro h
    by_cases hc : max 0 (min n 256) ≤ max 0 (min m 256)
    · exact hc
    · have := h (max 0 (min m 256)) (by omega) (by omega) (by rw [gB_fullD (by omega) (by omega)]; exact decide_eq_true (by omega))
      rw [gB_fullD (by omega) (by omega)] at this
      have := of_decide_eq_true this
      omega
  · intro h j a b hj
    rw [gB_fullD a b] at hj ⊢
    have := of_decide_eq_true hj
    exact decide_eq_true (by omega)
theorem full_at {n k : Int} (h0 : 0 ≤ k) (h1 : k < max 0 (min n 256)) : gI (lsD (fromW (fullW n)) 256) k = k := by
  rw [ls_fullW]
  simp only [gI, List.getD_eq_getElem?_getD, List.getElem?_map, List.getElem?_range (show k.toNat < (max 0 (min n 256)).toNat by omega), Option.map_some, Option.getD_some]
  show ((k.toNat : Nat) : Int) = k
  omega
theorem full_lsl (n : Int) : ((lsD (fromW (fullW n)) 256).length : Int) = max 0 (min n 256) := by
  rw [← lenW_ls, full_len]
theorem nbF {a b : Bool} (h : a = b) : (!(a == b)) = false := by subst h; simp
end Go.Proofs.YtkkophhnliplhaaDoor
set_option linter.unusedVariables false
set_option linter.unusedSimpArgs false
namespace Go.Proofs.YtkkophhnliplhaaDoor
open Go Go.RowKit
theorem OwnR.rdIpre {w : World} {base : Nat} {os : List (Option Nat)} {A : Option Addr} {c : Nat} {e : TypeId} {l la m : List Int} (h : OwnR w (Sx base os) A c e l) (he : l = la ++ m) (hl : la.length * 8 ≤ 140737488351232) : RdI w 0 w.heap.size A la := by
  subst he
  refine ⟨hl, fun i q hi hq => ?_⟩
  obtain rfl : q = 0 := by omega
  obtain ⟨ad, hA, hs, _, hc⟩ := h.get (i : Int) (by omega) (by rw [List.length_append]; omega) (sz := 1) rfl
  refine ⟨ad, hA, Nat.zero_le _, hs, ?_⟩
  have := hc 0 (.int .i64 (gA (la ++ m) (i : Int))) rfl
  refine this.trans ?_
  simp only [gA, Int.toNat_natCast, List.getD_eq_getElem?_getD, List.getElem?_append_left hi]
  rfl
theorem gI_app (la m : List Int) (k : Int) (h : 0 ≤ k) : gI (la ++ m) (((la.length : Nat) : Int) + k) = gI m k := by
  simp only [gI, List.getD_eq_getElem?_getD]
  rw [List.getElem?_append_right (by omega), show (((la.length : Nat) : Int) + k).toNat - la.length = k.toNat by omega]
theorem gI_app7 (la : List Int) : gI (la ++ [7, 8]) ((la.length : Nat) : Int) = 7 := by
  have := gI_app la [7, 8] 0 (by omega)
  rw [Int.add_zero] at this
  exact this
theorem gI_app8 (la : List Int) : gI (la ++ [7, 8]) (((la.length : Nat) : Int) + 1) = 8 := gI_app la [7, 8] 1 (by omega)
theorem of_list {s : List Int} (hs : OkW s) : ofW (lsD (fromW s) 256) = s := from_inj (ofW_ok _) hs (by rw [from_of, ofD_ls (from_len _)])
theorem ls_get {l : List Bool} {k : Int} (h0 : 0 ≤ k) (h1 : k < ((lsD l 256).length : Int)) : gI (lsD l 256) k ∈ lsD l 256 := by
  simp only [gI, List.getD_eq_getElem?_getD, List.getElem?_eq_getElem (show k.toNat < (lsD l 256).length by omega), Option.getD_some]
  exact List.getElem_mem _
theorem list_has {s : List Int} {k : Int} (h0 : 0 ≤ k) (h1 : k < ((lsD (fromW s) 256).length : Int)) : hasW s (gI (lsD (fromW s) 256) k) = true := by
  have := mem_ls.1 (ls_get h0 h1)
  rw [hasW_from, hasD, decide_eq_true ⟨this.1, by omega⟩, this.2.2]
  rfl
theorem list_step {l : List Bool} {k : Int} (h0 : 0 < k) (h1 : k < ((lsD l 256).length : Int)) : gI (lsD l 256) (k - 1) < gI (lsD l 256) k := by
  have := List.pairwise_iff_getElem.1 (ls_lt l 256) (k - 1).toNat k.toNat (by omega) (by omega) (by omega)
  simp only [gI, List.getD_eq_getElem?_getD, List.getElem?_eq_getElem (show k.toNat < (lsD l 256).length by omega), List.getElem?_eq_getElem (show (k - 1).toNat < (lsD l 256).length by omega), Option.getD_some]
  exact this
theorem list_first {l : List Bool} (h1 : (0 : Int) < ((lsD l 256).length : Int)) : gI (lsD l 256) 0 = leastD l := by
  rw [least_ls]
  cases h : lsD l 256 with
  | nil => rw [h] at h1; simp at h1
  | cons x r => rfl
theorem list_some (l : List Bool) : (decide (((lsD l 256).length : Int) > 0) == decide (leastD l ≥ 0)) = true := by
  rw [beq_iff_eq, decide_eq_decide, least_ls]
  cases h : lsD l 256 with
  | nil => simp
  | cons x r =>
    have hx : x ∈ lsD l 256 := by rw [h]; exact List.mem_cons_self
    have := (mem_ls.1 hx).1
    simp
    omega
theorem fine_next {la : List Int} {k : Int} (h0 : 0 ≤ k) (h1 : k < (la.length : Int)) : FineT (la.take (k + 1).toNat) ↔ FineT (la.take k.toNat) ∧ 0 ≤ gI la k ∧ gI la k ≤ 255 ∧ (k = 0 ∨ gI la (k - 1) < gI la k) := by
  have hk : k.toNat < la.length := by omega
  have e : gI la k = la[k.toNat] := by simp only [gI, List.getD_eq_getElem?_getD, List.getElem?_eq_getElem hk, Option.getD_some]
  rw [show (k + 1).toNat = k.toNat + 1 by omega, List.take_succ_eq_append_getElem hk, ← e]
  unfold FineT
  rw [List.pairwise_append]
  constructor
  · rintro ⟨h2, h3, _, h4⟩
    refine ⟨⟨fun z hz => h2 z (List.mem_append.2 (.inl hz)), h3⟩, (h2 _ (List.mem_append.2 (.inr (List.mem_singleton.2 rfl)))).1, (h2 _ (List.mem_append.2 (.inr (List.mem_singleton.2 rfl)))).2, ?_⟩
    by_cases hz : k = 0
    · exact .inl hz
    · refine .inr (h4 _ ?_ _ (List.mem_singleton.2 rfl))
      have e2 : gI la (k - 1) = (la.take k.toNat)[(k - 1).toNat]'(by rw [List.length_take]; omega) := by
        rw [List.getElem_take]
        simp only [gI, List.getD_eq_getElem?_getD, List.getElem?_eq_getElem (show (k - 1).toNat < la.length by omega), Option.getD_some]
      rw [e2]
      exact List.getElem_mem _
  · rintro ⟨⟨h2, h3⟩, h4, h5, h6⟩
    refine ⟨fun z hz => ?_, h3, List.pairwise_singleton _ _, fun a ha b hb => ?_⟩
    · rcases List.mem_append.1 hz with hz | hz
      · exact h2 z hz
      · rw [List.mem_singleton] at hz
        subst hz
        exact ⟨h4, h5⟩
    · rw [List.mem_singleton] at hb
      subst hb
      obtain ⟨i, hi, rfl⟩ := List.mem_iff_getElem.1 ha
      have hi2 : i < k.toNat := by rw [List.length_take] at hi; omega
      have h7 : gI la (k - 1) < gI la k := by omega
      have e2 : gI la (k - 1) = (la.take k.toNat)[(k - 1).toNat]'(by rw [List.length_take]; omega) := by
        rw [List.getElem_take]
        simp only [gI, List.getD_eq_getElem?_getD, List.getElem?_eq_getElem (show (k - 1).toNat < la.length by omega), Option.getD_some]
      by_cases he : i = (k - 1).toNat
      · subst he
        rw [← e2]
        exact h7
      · have := List.pairwise_iff_getElem.1 h3 i (k - 1).toNat hi (by rw [List.length_take]; omega) (by omega)
        omega
theorem fine_step {la : List Int} {k : Int} {fi v : Bool} (h : fi = decide (FineT (la.take k.toNat))) (h0 : 0 ≤ k) (h1 : k < (la.length : Int)) (hv : v = true ↔ (fi = true ∧ 0 ≤ gI la k ∧ gI la k ≤ 255 ∧ (k = 0 ∨ gI la (k - 1) < gI la k))) : v = decide (FineT (la.take (k + 1).toNat)) := by
  rw [Bool.eq_iff_iff, hv, decide_eq_true_iff, fine_next h0 h1, h, decide_eq_true_iff]
theorem fine_0 {la : List Int} : true = decide (FineT (la.take (0 : Int).toNat)) := by
  refine (decide_eq_true ?_).symm
  exact ⟨fun z hz => by simp at hz, by simp⟩
theorem back_fine {la : List Int} {k : Int} {fi : Bool} (h : fi = decide (FineT (la.take k.toNat))) (hk : (la.length : Int) ≤ k) : (decide (lsD (fromW (ofW la)) 256 = la) == fi) = true := by
  rw [h, List.take_of_length_le (by omega), from_of, beq_iff_eq, decide_eq_decide]
  exact fine_iff
/- Ways. -/
theorem ofW_app (l : List Int) (a : Int) : ofW (l ++ [a]) = withW (ofW l) a := by
  unfold ofW
  rw [List.foldl_append]
  rfl
theorem ways_y {la ys : List Int} {k : Int} (h : ys = ofW (la.drop (k + 1).toNat).reverse) (h0 : 0 ≤ k) (h1 : k < (la.length : Int)) : withW ys (gI la k) = ofW (la.drop (k - 1 + 1).toNat).reverse := by
  rw [show k - 1 + 1 = k by omega, drop_at (r := []) h0 h1, List.reverse_cons, ofW_app, h]
theorem ways_y0 {la : List Int} : List.replicate 4 (0 : Int) = ofW (la.drop (((la.length : Nat) : Int) - 1 + 1).toNat).reverse := by
  rw [List.drop_eq_nil_of_le (by omega)]
  rfl
theorem of_perm {l r : List Int} (h : ∀ z, z ∈ l ↔ z ∈ r) : ofD l = ofD r :=
  list_ext (of_len _) (of_len _) fun j a b => by
    rw [gB_ofD l a b, gB_ofD r a b, decide_eq_decide]
    exact h j
theorem ways_xy {la ys : List Int} {k : Int} (h : ys = ofW (la.drop (k + 1).toNat).reverse) (h1 : k < 0) : ofW la = ys := by
  subst h
  rw [show (k + 1).toNat = 0 by omega, List.drop_zero]
  refine from_inj (ofW_ok _) (ofW_ok _) ?_
  rw [from_of, from_of]
  exact of_perm fun z => List.mem_reverse.symm
theorem ways_z {la zs : List Int} {k : Int} (h : fromW zs = ofD (la.take k.toNat)) (h0 : 0 ≤ k) (h1 : k < (la.length : Int)) : fromW (orS (ofW [gI la k]) zs) = ofD (la.take (k + 1).toNat) := by
  have hk : k.toNat < la.length := by omega
  have e : gI la k = la[k.toNat] := by simp only [gI, List.getD_eq_getElem?_getD, List.getElem?_eq_getElem hk, Option.getD_some]
  rw [from_orS, from_of, h, show (k + 1).toNat = k.toNat + 1 by omega, List.take_succ_eq_append_getElem hk, ← e]
  refine list_ext (orD_len _ _) (of_len _) fun j a b => ?_
  rw [gB_orD a b, gB_ofD _ a b, gB_ofD _ a b, gB_ofD _ a b, Bool.eq_iff_iff]
  simp [List.mem_append, or_comm]
theorem ways_z0 {la : List Int} : fromW (List.replicate 4 (0 : Int)) = ofD (la.take (0 : Int).toNat) := by
  rw [from_0]
  rfl
theorem ways_xz {la zs : List Int} {k : Int} (hz : OkW zs) (h : fromW zs = ofD (la.take k.toNat)) (h1 : (la.length : Int) ≤ k) : ofW la = zs := by
  refine from_inj (ofW_ok _) hz ?_
  rw [from_of, h, List.take_of_length_le (by omega)]
theorem ways_has (la : List Int) (n : Int) : hasW (ofW la) n = decide (0 ≤ n ∧ n < 256 ∧ n ∈ la) := by
  rw [hasW_from, hasD, from_of]
  by_cases h : 0 ≤ n ∧ n < 256
  · rw [decide_eq_true h, Bool.true_and, gB_ofD la h.1 h.2, decide_eq_decide]
    exact ⟨fun x => ⟨h.1, h.2, x⟩, fun x => x.2.2⟩
  · rw [decide_eq_false h, Bool.false_and]
    exact (decide_eq_false fun x => h ⟨x.1, x.2.1⟩).symm
theorem mem_step {la : List Int} {k n : Int} {b v : Bool} (h : b = decide (n ∈ la.take k.toNat)) (h0 : 0 ≤ k) (h1 : k < (la.length : Int)) (hv : v = true ↔ (b = true ∨ gI la k = n)) : v = decide (n ∈ la.take (k + 1).toNat) := by
  have hk : k.toNat < la.length := by omega
  have e : gI la k = la[k.toNat] := by simp only [gI, List.getD_eq_getElem?_getD, List.getElem?_eq_getElem hk, Option.getD_some]
  rw [Bool.eq_iff_iff, hv, decide_eq_true_iff, show (k + 1).toNat = k.toNat + 1 by omega, List.take_succ_eq_append_getElem hk, ← e, List.mem_append, List.mem_singleton, h, decide_eq_true_iff]
  exact ⟨fun x => x.imp id Eq.symm, fun x => x.imp id Eq.symm⟩
theorem mem_0 {la : List Int} {n : Int} : false = decide (n ∈ la.take (0 : Int).toNat) := by simp
theorem ways_eq {la : List Int} {k n : Int} {b v : Bool} (h : b = decide (n ∈ la.take k.toNat)) (h1 : (la.length : Int) ≤ k) (hv : v = true ↔ (b = true ∧ 0 ≤ n ∧ n ≤ 255)) : (!(hasW (ofW la) n == v)) = false := by
  refine nbF ?_
  rw [ways_has, Bool.eq_iff_iff, hv, decide_eq_true_iff, h, List.take_of_length_le (by omega), decide_eq_true_iff]
  exact ⟨fun x => ⟨x.2.2, x.1, by omega⟩, fun x => ⟨x.2.1, by omega, x.1⟩⟩
end Go.Proofs.YtkkophhnliplhaaDoor
