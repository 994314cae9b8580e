/-
  Plain: sets are a lattice; how many are in them. No program. Plain: the list of a set, rising; the set of a list. No program. Plain: what the laws of lists of sets ask. No program.
-/
import Derived.Test.YtplpgfcjjnaigaaDoorPureSet3
set_option linter.unusedVariables false
set_option linter.unusedSimpArgs false
namespace Go.Proofs.YtplpgfcjjnaigaaDoor
open Go Go.RowKit
theorem set_iff {a b : List Int} (ha : OkW a) (hb : OkW b) : a = b ↔ ∀ j : Int, 0 ≤ j → j < 256 → gB (fromW a) j = gB (fromW b) j :=
  ⟨fun h j _ _ => by rw [h], fun h => from_inj ha hb (list_ext (from_len _) (from_len _) h)⟩
section
variable {s t u : List Int} (hs : OkW s) (ht : OkW t) (hu : OkW u)
include hs ht
end
def cB (l : List Bool) (n : Nat) : Int := ((lsD l n).length : Int)
theorem cB_s (l : List Bool) (n : Nat) : cB l (n + 1) = cB l n + (if gB l (n : Int) = true then 1 else 0) := by
  unfold cB
  rw [lsD]
  split <;> simp
theorem lenW_c (s : List Int) : lenW s = cB (fromW s) 256 := lenW_ls s
theorem cB_minus (l r : List Bool) : ∀ n, n ≤ 256 → cB (minusD l r) n = cB l n - cB (andD l r) n
  | 0, _ => rfl
  | n + 1, h => by
    have ih := cB_minus l r n (by omega)
    rw [cB_s, cB_s, cB_s, gB_minusD (by omega) (by omega), gB_andD (by omega) (by omega)]
    cases gB l (n : Int) <;> cases gB r (n : Int) <;> simp <;> omega
theorem cB_put {l : List Bool} (hl : l.length = 256) (k : Int) (v : Bool) : ∀ n, n ≤ 256 → cB (putD l k v) n = cB l n + (if 0 ≤ k ∧ k < n then (if v = true then 1 else 0) - (if gB l k = true then 1 else 0) else 0)
  | 0, _ => by rw [if_neg (by omega)]; rfl
  | n + 1, h => by
    have ih := cB_put hl k v n (by omega)
    rw [cB_s, cB_s, gB_put hl (by omega) (by omega), ih]
    by_cases hk : k = (n : Int)
    · subst hk
      rw [if_neg (show ¬ (0 ≤ (n : Int) ∧ (n : Int) < (n : Int)) by omega), if_pos rfl, if_pos (show 0 ≤ (n : Int) ∧ (n : Int) < ((n + 1 : Nat) : Int) by omega)]
      cases v <;> cases gB l (n : Int) <;> simp <;> omega
    · rw [if_neg hk]
      by_cases h1 : 0 ≤ k ∧ k < (n : Int)
      · rw [if_pos h1, if_pos (show 0 ≤ k ∧ k < ((n + 1 : Nat) : Int) by omega)]
        omega
      · rw [if_neg h1, if_neg (show ¬ (0 ≤ k ∧ k < ((n + 1 : Nat) : Int)) by omega)]
        omega
theorem len_minus {s t : List Int} (ht : OkW t) : lenW (minusS s t) = lenW s - lenW (andS s t) := by
  rw [lenW_c, lenW_c, lenW_c, from_minusS ht, from_andS]
  exact cB_minus _ _ 256 (by omega)
theorem len_with {s : List Int} {n m : Int} (hs : OkW s) (hm : m = if 0 ≤ n ∧ n < 256 ∧ hasW s n = false then 1 else 0) : lenW (withW s n) = lenW s + m := by
  subst hm
  rw [lenW_c, lenW_c, from_with hs, cB_put (from_len _) n true 256 (by omega), hasW_from, hasD]
  by_cases h : 0 ≤ n ∧ n < 256
  · rw [if_pos (show 0 ≤ n ∧ n < ((256 : Nat) : Int) by omega), decide_eq_true h, Bool.true_and]
    cases gB (fromW s) n
    · rw [if_pos (show 0 ≤ n ∧ n < 256 ∧ false = false from ⟨h.1, h.2, rfl⟩)]
      rfl
    · rw [if_neg (show ¬ (0 ≤ n ∧ n < 256 ∧ true = false) from fun hh => by cases hh.2.2)]
      rfl
  · rw [if_neg (show ¬ (0 ≤ n ∧ n < ((256 : Nat) : Int)) by omega), if_neg (fun hh => h ⟨hh.1, hh.2.1⟩)]
theorem bneF {a b : Int} (h : a = b) : (a != b) = false := by simp [h]
theorem beqT {a b : Int} (h : a = b) : (a == b) = true := by simp [h]
end Go.Proofs.YtplpgfcjjnaigaaDoor
set_option linter.unusedVariables false
set_option linter.unusedSimpArgs false
namespace Go.Proofs.YtplpgfcjjnaigaaDoor
open Go Go.RowKit
theorem mem_ls {l : List Bool} {z : Int} : ∀ {n : Nat}, z ∈ lsD l n ↔ 0 ≤ z ∧ z < (n : Int) ∧ gB l z = true
  | 0 => by
    refine ⟨fun h => (List.not_mem_nil h).elim, fun h => by omega⟩
  | n + 1 => by
    have ih := mem_ls (l := l) (z := z) (n := n)
    rw [lsD]
    by_cases hb : gB l (n : Int) = true
    · rw [if_pos hb, List.mem_append, ih, List.mem_singleton]
      constructor
      · rintro (h | rfl)
        · exact ⟨h.1, by omega, h.2.2⟩
        · exact ⟨by omega, by omega, hb⟩
      · rintro ⟨h1, h2, h3⟩
        by_cases e : z = (n : Int)
        · exact .inr e
        · exact .inl ⟨h1, by omega, h3⟩
    · rw [if_neg hb, ih]
      constructor
      · rintro ⟨h1, h2, h3⟩
        exact ⟨h1, by omega, h3⟩
      · rintro ⟨h1, h2, h3⟩
        by_cases e : z = (n : Int)
        · subst e
          exact (hb h3).elim
        · exact ⟨h1, by omega, h3⟩
theorem ls_lt (l : List Bool) : ∀ n : Nat, (lsD l n).Pairwise (· < ·)
  | 0 => List.Pairwise.nil
  | n + 1 => by
    rw [lsD]
    split
    · rw [List.pairwise_append]
      refine ⟨ls_lt l n, List.pairwise_singleton _ _, fun a ha b hb => ?_⟩
      rw [List.mem_singleton] at hb
      subst hb
      exact (mem_ls.1 ha).2.1
    · exact ls_lt l n
theorem sorted_ext : ∀ {a b : List Int}, a.Pairwise (· < ·) → b.Pairwise (· < ·) → (∀ z, z ∈ a ↔ z ∈ b) → a = b
  | [], [], _, _, _ => rfl
  | [], y :: b, _, _, h => ((h y).2 List.mem_cons_self |> List.not_mem_nil).elim
  | x :: a, [], _, _, h => ((h x).1 List.mem_cons_self |> List.not_mem_nil).elim
  | x :: a, y :: b, ha, hb, h => by
    rw [List.pairwise_cons] at ha hb
    have e : x = y := by
      rcases List.mem_cons.1 ((h x).1 List.mem_cons_self) with e | e
      · exact e
      · rcases List.mem_cons.1 ((h y).2 List.mem_cons_self) with e2 | e2
        · exact e2.symm
        · have h1 := hb.1 _ e
          have h2 := ha.1 _ e2
          omega
    subst e
    congr 1
    refine sorted_ext ha.2 hb.2 fun z => ⟨fun hz => ?_, fun hz => ?_⟩
    · rcases List.mem_cons.1 ((h z).1 (List.mem_cons_of_mem _ hz)) with e | e
      · have := ha.1 _ hz
        omega
      · exact e
    · rcases List.mem_cons.1 ((h z).2 (List.mem_cons_of_mem _ hz)) with e | e
      · have := hb.1 _ hz
        omega
      · exact e
theorem ls_inj {l r : List Bool} (hl : l.length = 256) (hr : r.length = 256) (h : lsD l 256 = lsD r 256) : l = r :=
  list_ext hl hr fun j a b => by
    have h1 : j ∈ lsD l 256 ↔ j ∈ lsD r 256 := by rw [h]
    rw [mem_ls, mem_ls] at h1
    have h2 : gB l j = true ↔ gB r j = true := ⟨fun x => (h1.1 ⟨a, by omega, x⟩).2.2, fun x => (h1.2 ⟨a, by omega, x⟩).2.2⟩
    exact Bool.eq_iff_iff.2 h2
theorem least_ls (l : List Bool) : leastD l = match lsD l 256 with | [] => -1 | a :: _ => a := by
  cases h : lsD l 256 with
  | nil =>
    simp only
    refine (least_no (k := 256) (by omega) fun j a b => ?_).symm
    by_cases hj : gB l j = true
    · have : j ∈ lsD l 256 := mem_ls.2 ⟨a, by omega, hj⟩
      rw [h] at this
      exact (List.not_mem_nil this).elim
    · simpa using hj
  | cons x r =>
    simp only
    have hx : x ∈ lsD l 256 := by rw [h]; exact List.mem_cons_self
    have hx := mem_ls.1 hx
    have hp := ls_lt l 256
    rw [h, List.pairwise_cons] at hp
    refine (least_at hx.1 (by omega) (fun j a b => ?_) hx.2.2).symm
    by_cases hj : gB l j = true
    · have : j ∈ lsD l 256 := mem_ls.2 ⟨a, by omega, hj⟩
      rw [h, List.mem_cons] at this
      rcases this with e | e
      · omega
      · have := hp.1 _ e
        omega
    · simpa using hj
theorem gB_foldl : ∀ (l : List Int) {s : List Bool} (hs : s.length = 256) {j : Int} (a : 0 ≤ j) (b : j < 256), gB (l.foldl (fun s n => putD s n true) s) j = (gB s j || decide (j ∈ l))
  | [], s, hs, j, a, b => by simp
  | n :: l, s, hs, j, a, b => by
    rw [List.foldl_cons, gB_foldl l (put_len hs) a b, gB_put hs a b]
    by_cases e : n = j
    · subst e
      simp
    · rw [if_neg e]
      have e2 : ¬ j = n := fun h => e h.symm
      simp [List.mem_cons, e2]
theorem gB_ofD (l : List Int) {j : Int} (a : 0 ≤ j) (b : j < 256) : gB (ofD l) j = decide (j ∈ l) := by
  unfold ofD
  rw [gB_foldl l List.length_replicate a b, gB_rep, Bool.false_or]
theorem mem_ls_of {l : List Int} {z : Int} : z ∈ lsD (ofD l) 256 ↔ 0 ≤ z ∧ z < 256 ∧ z ∈ l := by
  rw [mem_ls]
  constructor
  · rintro ⟨h1, h2, h3⟩
    rw [gB_ofD l h1 (by omega)] at h3
    exact ⟨h1, by omega, of_decide_eq_true h3⟩
  · rintro ⟨h1, h2, h3⟩
    refine ⟨h1, by omega, ?_⟩
    rw [gB_ofD l h1 h2]
    exact decide_eq_true h3
theorem ofD_ls {l : List Bool} (hl : l.length = 256) : ofD (lsD l 256) = l :=
  ls_inj (of_len _) hl (sorted_ext (ls_lt _ _) (ls_lt _ _) fun z => by
    rw [mem_ls_of, mem_ls]
    exact ⟨fun h => h.2.2, fun h => ⟨h.1, by omega, h⟩⟩)
def FineT (l : List Int) : Prop := (∀ z ∈ l, 0 ≤ z ∧ z ≤ 255) ∧ l.Pairwise (· < ·)
instance (l : List Int) : Decidable (FineT l) := by unfold FineT; exact inferInstance
theorem drop_at {l r : List Int} {k : Int} (h0 : 0 ≤ k) (h1 : k < (l.length : Int)) : l.drop k.toNat = gI l k :: l.drop (k + 1).toNat := by
  rw [show (k + 1).toNat = k.toNat + 1 by omega, List.drop_eq_getElem_cons (show k.toNat < l.length by omega)]
  simp only [gI, List.getD_eq_getElem?_getD, List.getElem?_eq_getElem (show k.toNat < l.length by omega), Option.getD_some]
theorem ls_full (n : Int) : ∀ m : Nat, m ≤ 256 → lsD (fullD n) m = (List.range (min m n.toNat)).map Int.ofNat
  | 0, _ => by rw [Nat.zero_min]; rfl
  | m + 1, h => by
    rw [lsD, ls_full n m (by omega), gB_fullD (by omega) (by omega)]
    by_cases hm : (m : Int) < n
    · rw [if_pos (decide_eq_true hm), show min (m + 1) n.toNat = m + 1 by omega, show min m n.toNat = m by omega, List.range_succ, List.map_append]
      rfl
    · rw [decide_eq_false hm, if_neg (by decide), show min (m + 1) n.toNat = min m n.toNat by omega]
theorem ls_fullW (n : Int) : lsD (fromW (fullW n)) 256 = (List.range (max 0 (min n 256)).toNat).map Int.ofNat := by
  rw [from_full, ls_full n 256 (by omega), show min 256 n.toNat = (max 0 (min n 256)).toNat by omega]
theorem full_len (n : Int) : lenW (fullW n) = max 0 (min n 256) := by
  rw [lenW_ls, ls_fullW, List.length_map, List.length_range]
  omega
end Go.Proofs.YtplpgfcjjnaigaaDoor
set_option linter.unusedVariables false
set_option linter.unusedSimpArgs false
namespace Go.Proofs.YtplpgfcjjnaigaaDoor
open Go Go.RowKit
theorem of_list {s : List Int} (hs : OkW s) : ofW (lsD (fromW s) 256) = s := from_inj (ofW_ok _) hs (by rw [from_of, ofD_ls (from_len _)])
theorem ls_get {l : List Bool} {k : Int} (h0 : 0 ≤ k) (h1 : k < ((lsD l 256).length : Int)) : gI (lsD l 256) k ∈ lsD l 256 := by
  simp only [gI, List.getD_eq_getElem?_getD, List.getElem?_eq_getElem (show k.toNat < (lsD l 256).length by omega), Option.getD_some]
  exact List.getElem_mem _
theorem gB_withW {sm : List Int} (hm : OkW sm) {i j : Int} (a : 0 ≤ j) (b : j < 256) : gB (fromW (withW sm i)) j = if i = j then true else gB (fromW sm) j := by rw [from_with hm, gB_put (from_len _) a b]
end Go.Proofs.YtplpgfcjjnaigaaDoor
