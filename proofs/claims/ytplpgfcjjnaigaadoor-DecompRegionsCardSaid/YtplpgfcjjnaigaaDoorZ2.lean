/-
  Texts of this repo, laid together: the frame of the walks, plain lemmas, walks of Go functions. Conditions: what the theorems name.
-/
import Derived.Test.YtplpgfcjjnaigaaDoorZ1
set_option linter.unusedVariables false
set_option linter.unusedSimpArgs false
namespace Go.Proofs.YtplpgfcjjnaigaaDoor
open Go Go.RowKit
theorem set_iff {a b : List Int} (ha : OkW a) (hb : OkW b) : a = b ↔ ∀ j : Int, 0 ≤ j → j < 256 → gB (fromW a) j = gB (fromW b) j :=
  ⟨fun h j _ _ => by rw [h], fun h => from_inj ha hb (list_ext (from_len _) (from_len _) h)⟩
section
variable {s t u : List Int} (hs : OkW s) (ht : OkW t) (hu : OkW u)
include hs ht
end
def cB (l : List Bool) (n : Nat) : Int := ((lsD l n).length : Int)
theorem cB_s (l : List Bool) (n : Nat) : cB l (n + 1) = cB l n + (if gB l (n : Int) = true then 1 else 0) := by
  unfold cB
  rw [lsD]
  split <;> simp
theorem lenW_c (s : List Int) : lenW s = cB (fromW s) 256 := lenW_ls s
theorem cB_minus (l r : List Bool) : ∀ n, n ≤ 256 → cB (minusD l r) n = cB l n - cB (andD l r) n
  | 0, _ => rfl
  | n + 1, h => by
    have ih := cB_minus l r n (by omega)
    rw [cB_s, cB_s, cB_s, gB_minusD (by omega) (by omega), gB_andD (by omega) (by omega)]
    cases gB l (n : Int) <;> cases gB r (n : Int) <;> simp <;> omega
theorem cB_put {l : List Bool} (hl : l.length = 256) (k : Int) (v : Bool) : ∀ n, n ≤ 256 → cB (putD l k v) n = cB l n + (if 0 ≤ k ∧ k < n then (if v = true then 1 else 0) - (if gB l k = true then 1 else 0) else 0)
  | 0, _ => by rw [if_neg (by omega)]; rfl
  | n + 1, h => by
    have ih := cB_put hl k v n (by omega)
    rw [cB_s, cB_s, gB_put hl (by omega) (by omega), ih]
    by_cases hk : k = (n : Int)
    · subst hk
      rw [if_neg (show ¬ (0 ≤ (n : Int) ∧ (n : Int) < (n : Int)) by omega), if_pos rfl, if_pos (show 0 ≤ (n : Int) ∧ (n : Int) < ((n + 1 : Nat) : Int) by omega)]
      cases v <;> cases gB l (n : Int) <;> simp <;> omega
    · rw [if_neg hk]
      by_cases h1 : 0 ≤ k ∧ k < (n : Int)
      · rw [if_pos h1, if_pos (show 0 ≤ k ∧ k < ((n + 1 : Nat) : Int) by omega)]
        omega
      · rw [if_neg h1, if_neg (show ¬ (0 ≤ k ∧ k < ((n + 1 : Nat) : Int)) by omega)]
        omega
theorem len_minus {s t : List Int} (ht : OkW t) : lenW (minusS s t) = lenW s - lenW (andS s t) := by
  rw [lenW_c, lenW_c, lenW_c, from_minusS ht, from_andS]
  exact cB_minus _ _ 256 (by omega)
theorem len_with {s : List Int} {n m : Int} (hs : OkW s) (hm : m = if 0 ≤ n ∧ n < 256 ∧ hasW s n = false then 1 else 0) : lenW (withW s n) = lenW s + m := by
  subst hm
  rw [lenW_c, lenW_c, from_with hs, cB_put (from_len _) n true 256 (by omega), hasW_from, hasD]
  by_cases h : 0 ≤ n ∧ n < 256
  · rw [if_pos (show 0 ≤ n ∧ n < ((256 : Nat) : Int) by omega), decide_eq_true h, Bool.true_and]
    cases gB (fromW s) n
    · rw [if_pos (show 0 ≤ n ∧ n < 256 ∧ false = false from ⟨h.1, h.2, rfl⟩)]
      rfl
    · rw [if_neg (show ¬ (0 ≤ n ∧ n < 256 ∧ true = false) from fun hh => by cases hh.2.2)]
      rfl
  · rw [if_neg (show ¬ (0 ≤ n ∧ n < ((256 : Nat) : Int)) by omega), if_neg (fun hh => h ⟨hh.1, hh.2.1⟩)]
theorem bneF {a b : Int} (h : a = b) : (a != b) = false := by simp [h]
theorem beqT {a b : Int} (h : a = b) : (a == b) = true := by simp [h]
end Go.Proofs.YtplpgfcjjnaigaaDoor
namespace Go.Proofs.YtplpgfcjjnaigaaDoor
open Go Go.RowKit
theorem mem_ls {l : List Bool} {z : Int} : ∀ {n : Nat}, z ∈ lsD l n ↔ 0 ≤ z ∧ z < (n : Int) ∧ gB l z = true
  | 0 => by
    refine ⟨fun h => (List.not_mem_nil h).elim, fun h => by omega⟩
  | n + 1 => by
    have ih := mem_ls (l := l) (z := z) (n := n)
    rw [lsD]
    by_cases hb : gB l (n : Int) = true
    · rw [if_pos hb, List.mem_append, ih, List.mem_singleton]
      constructor
      · rintro (h | rfl)
        · exact ⟨h.1, by omega, h.2.2⟩
        · exact ⟨by omega, by omega, hb⟩
      · rintro ⟨h1, h2, h3⟩
        by_cases e : z = (n : Int)
        · exact .inr e
        · exact .inl ⟨h1, by omega, h3⟩
    · rw [if_neg hb, ih]
      constructor
      · rintro ⟨h1, h2, h3⟩
        exact ⟨h1, by omega, h3⟩
      · rintro ⟨h1, h2, h3⟩
        by_cases e : z = (n : Int)
        · subst e
          exact (hb h3).elim
        · exact ⟨h1, by omega, h3⟩
theorem ls_lt (l : List Bool) : ∀ n : Nat, (lsD l n).Pairwise (· < ·)
  | 0 => List.Pairwise.nil
  | n + 1 => by
    rw [lsD]
    split
    · rw [List.pairwise_append]
      refine ⟨ls_lt l n, List.pairwise_singleton _ _, fun a ha b hb => ?_⟩
      rw [List.mem_singleton] at hb
      subst hb
      exact (mem_ls.1 ha).2.1
    · exact ls_lt l n
theorem least_ls (l : List Bool) : leastD l = match lsD l 256 with | [] => -1 | a :: _ => a := by
  cases h : lsD l 256 with
  | nil =>
    simp only
    refine (least_no (k := 256) (by omega) fun j a b => ?_).symm
    by_cases hj : gB l j = true
    · have : j ∈ lsD l 256 := mem_ls.2 ⟨a, by omega, hj⟩
      rw [h] at this
      exact (List.not_mem_nil this).elim
    · simpa using hj
  | cons x r =>
    simp only
    have hx : x ∈ lsD l 256 := by rw [h]; exact List.mem_cons_self
    have hx := mem_ls.1 hx
    have hp := ls_lt l 256
    rw [h, List.pairwise_cons] at hp
    refine (least_at hx.1 (by omega) (fun j a b => ?_) hx.2.2).symm
    by_cases hj : gB l j = true
    · have : j ∈ lsD l 256 := mem_ls.2 ⟨a, by omega, hj⟩
      rw [h, List.mem_cons] at this
      rcases this with e | e
      · omega
      · have := hp.1 _ e
        omega
    · simpa using hj
theorem gB_foldl : ∀ (l : List Int) {s : List Bool} (hs : s.length = 256) {j : Int} (a : 0 ≤ j) (b : j < 256), gB (l.foldl (fun s n => putD s n true) s) j = (gB s j || decide (j ∈ l))
  | [], s, hs, j, a, b => by simp
  | n :: l, s, hs, j, a, b => by
    rw [List.foldl_cons, gB_foldl l (put_len hs) a b, gB_put hs a b]
    by_cases e : n = j
    · subst e
      simp
    · rw [if_neg e]
      have e2 : ¬ j = n := fun h => e h.symm
      simp [List.mem_cons, e2]
theorem gB_ofD (l : List Int) {j : Int} (a : 0 ≤ j) (b : j < 256) : gB (ofD l) j = decide (j ∈ l) := by
  unfold ofD
  rw [gB_foldl l List.length_replicate a b, gB_rep, Bool.false_or]
def FineT (l : List Int) : Prop := (∀ z ∈ l, 0 ≤ z ∧ z ≤ 255) ∧ l.Pairwise (· < ·)
instance (l : List Int) : Decidable (FineT l) := by unfold FineT; exact inferInstance
theorem drop_at {l r : List Int} {k : Int} (h0 : 0 ≤ k) (h1 : k < (l.length : Int)) : l.drop k.toNat = gI l k :: l.drop (k + 1).toNat := by
  rw [show (k + 1).toNat = k.toNat + 1 by omega, List.drop_eq_getElem_cons (show k.toNat < l.length by omega)]
  simp only [gI, List.getD_eq_getElem?_getD, List.getElem?_eq_getElem (show k.toNat < l.length by omega), Option.getD_some]
theorem ls_full (n : Int) : ∀ m : Nat, m ≤ 256 → lsD (fullD n) m = (List.range (min m n.toNat)).map Int.ofNat
  | 0, _ => by rw [Nat.zero_min]; rfl
  | m + 1, h => by
    rw [lsD, ls_full n m (by omega), gB_fullD (by omega) (by omega)]
    by_cases hm : (m : Int) < n
    · rw [if_pos (decide_eq_true hm), show min (m + 1) n.toNat = m + 1 by omega, show min m n.toNat = m by omega, List.range_succ, List.map_append]
      rfl
    · rw [decide_eq_false hm, if_neg (by decide), show min (m + 1) n.toNat = min m n.toNat by omega]
theorem ls_fullW (n : Int) : lsD (fromW (fullW n)) 256 = (List.range (max 0 (min n 256)).toNat).map Int.ofNat := by
  rw [from_full, ls_full n 256 (by omega), show min 256 n.toNat = (max 0 (min n 256)).toNat by omega]
theorem full_len (n : Int) : lenW (fullW n) = max 0 (min n 256) := by
  rw [lenW_ls, ls_fullW, List.length_map, List.length_range]
  omega
end Go.Proofs.YtplpgfcjjnaigaaDoor
namespace Go.Proofs.YtplpgfcjjnaigaaDoor
open Go Go.RowKit
theorem ls_get {l : List Bool} {k : Int} (h0 : 0 ≤ k) (h1 : k < ((lsD l 256).length : Int)) : gI (lsD l 256) k ∈ lsD l 256 := by
  simp only [gI, List.getD_eq_getElem?_getD, List.getElem?_eq_getElem (show k.toNat < (lsD l 256).length by omega), Option.getD_some]
  exact List.getElem_mem _
theorem gB_withW {sm : List Int} (hm : OkW sm) {i j : Int} (a : 0 ≤ j) (b : j < 256) : gB (fromW (withW sm i)) j = if i = j then true else gB (fromW sm) j := by rw [from_with hm, gB_put (from_len _) a b]
end Go.Proofs.YtplpgfcjjnaigaaDoor
namespace Go.Proofs.YtplpgfcjjnaigaaDoor
open Go Go.RowKit
def Rank (g : GameL) (I : List Bool) (p : Int) (T : List Bool) (mvs ord : List Int) : Prop :=
  ∀ a j b, ord = a ++ j :: b → gB T j = true ∨ (gI g.ow j = p ∧ gI mvs j ∈ gL g.mv j ∧ gI mvs j ∈ a) ∨ (gI g.ow j ≠ p ∧ ∀ x ∈ gL g.mv j, gB I x = true → x ∈ a)
structure MovA (g : GameL) (I : List Bool) (p : Int) (T S : List Bool) (mvs : List Int) : Prop where
  ml : mvs.length = g.ow.length
  mv : ∀ i : Int, 0 ≤ i → i < (g.ow.length : Int) → (gB S i = true ∧ gB T i = false ∧ gI g.ow i = p) ∨ gI mvs i = -1
  rank : ∃ ord : List Int, (∀ j : Int, 0 ≤ j → j < 256 → (gB S j = true ↔ j ∈ ord)) ∧ (∀ j ∈ ord, 0 ≤ j ∧ j < (g.ow.length : Int) ∧ gB I j = true) ∧ Rank g I p T mvs ord
theorem cM_one : ∀ {l : List Int} {f : Int → Bool} {m : Int}, l.Nodup → m ∈ l → f m = true → cM l (fun x => f x && !decide (x = m)) = cM l f - 1
  | [], _, _, _, h, _ => by cases h
  | y :: l, f, m, hn, hm, hf => by
    rw [List.nodup_cons] at hn
    unfold cM
    by_cases e : y = m
    · subst e
      have h1 : l.filter (fun x => f x && !decide (x = y)) = l.filter f := List.filter_congr fun x hx => by
        have : ¬ x = y := fun h => hn.1 (h ▸ hx)
        simp [this]
      simp only [List.filter_cons, hf, h1]
      simp
    · have hm' : m ∈ l := (List.mem_cons.1 hm).resolve_left fun h => e h.symm
      have ih := cM_one hn.2 hm' hf
      unfold cM at ih
      simp only [List.filter_cons, e]
      cases hy : f y
      · simpa using ih
      · simp only [decide_false, Bool.not_false, Bool.and_self, if_true, List.length_cons]
        omega
structure AW (g : GameL) (I : List Bool) (p : Int) (T S : List Bool) (op lf mvs pr cur rest : List Int) : Prop where
  nd : (pr ++ op).Nodup
  mem : ∀ j : Int, 0 ≤ j → j < 256 → (gB S j = true ↔ j ∈ pr ++ op)
  rng : ∀ j ∈ pr ++ op, 0 ≤ j ∧ j < (g.ow.length : Int) ∧ gB I j = true
  ll : lf.length = g.ow.length
  ml : mvs.length = g.ow.length
  left : ∀ i : Int, 0 ≤ i → i < (g.ow.length : Int) → gB I i = true → gI lf i = cM (gL g.mv i) (fun x => gB I x && !decide (x ∈ (if i ∈ rest then pr else pr ++ cur)))
  own : ∀ i : Int, 0 ≤ i → i < (g.ow.length : Int) → gB I i = true → gI g.ow i = p → gB S i = false → ∀ x ∈ gL g.mv i, x ∉ (if i ∈ rest then pr else pr ++ cur)
  oth : ∀ i : Int, 0 ≤ i → i < (g.ow.length : Int) → gB I i = true → gI g.ow i ≠ p → gB S i = false → 0 < gI lf i ∨ ∀ x ∈ gL g.mv i, gB I x = false
  base : ∀ j : Int, 0 ≤ j → j < 256 → gB T j = true → gB I j = true → gB S j = true
  snd : ∀ C, AttC g I p T C → ∀ j ∈ pr ++ op, gB C j = true
  rank : Rank g I p T mvs (pr ++ op)
  mv : ∀ i : Int, 0 ≤ i → i < (g.ow.length : Int) → (gB S i = true ∧ gB T i = false ∧ gI g.ow i = p) ∨ gI mvs i = -1
theorem aw_start {g : GameL} (hG : RightG g) {I T S : List Bool} {p : Int} {lf mvs : List Int} (hI : ∀ j : Int, 0 ≤ j → j < 256 → gB I j = true → j < (g.ow.length : Int))
    (hS : ∀ j : Int, 0 ≤ j → j < 256 → gB S j = (gB T j && gB I j)) (hll : lf.length = g.ow.length) (hml : mvs.length = g.ow.length)
    (hlf : ∀ i : Int, 0 ≤ i → i < (g.ow.length : Int) → gB I i = true → gI lf i = cM (gL g.mv i) (gB I)) (hmv : ∀ i : Int, 0 ≤ i → i < (g.ow.length : Int) → gI mvs i = -1) :
    AW g I p T S (lsD S 256) lf mvs [] [] [] := by
  have hn := hG.n1
  have hb : ∀ j ∈ lsD S 256, 0 ≤ j ∧ j < 256 ∧ gB T j = true ∧ gB I j = true := fun j hj => by
    have h := mem_ls.1 hj
    have h2 := hS j h.1 (by omega)
    rw [h.2.2] at h2
    have h3 : gB T j = true ∧ gB I j = true := by simpa using h2.symm
    exact ⟨h.1, by omega, h3.1, h3.2⟩
  refine ⟨?_, fun j a b => ?_, fun j hj => ?_, hll, hml, fun i a b c => ?_, fun i a b c d e x hx => by simp, fun i a b c d e => ?_, fun j a b c d => ?_, fun C hC j hj => ?_, fun a j b e => ?_, fun i a b => .inr (hmv i a b)⟩
  · rw [List.nil_append]
    exact (ls_lt S 256).imp (fun h => by omega)
  · rw [List.nil_append, mem_ls]
    exact ⟨fun h => ⟨a, by omega, h⟩, fun h => h.2.2⟩
  · have h := hb j (by simpa using hj)
    exact ⟨h.1, hI j h.1 h.2.1 h.2.2.2, h.2.2.2⟩
  · rw [hlf i a b c]
    exact cM_congr fun x _ => by simp
  · rw [hlf i a b c]
    by_cases h : 0 < cM (gL g.mv i) (gB I)
    · exact .inl h
    · exact .inr (cM_zero (by omega))
  · rw [hS j a b, c, d]
    rfl
  · have h := hb j (by simpa using hj)
    exact hC.base j h.1 h.2.1 h.2.2.1 h.2.2.2
  · exact .inl (hb j (by rw [List.nil_append] at e; rw [e]; simp)).2.2.1
def LeadsT (g : GameL) (I : List Bool) (m : Int) (r : List Int) : Prop := r.Nodup ∧ ∀ i : Int, i ∈ r ↔ (0 ≤ i ∧ i < (g.ow.length : Int) ∧ gB I i = true ∧ gB I m = true ∧ m ∈ gL g.mv i)
theorem aw_open {g : GameL} {I T S : List Bool} {p m : Int} {op lf mvs pr r : List Int} (h : AW g I p T S (m :: op) lf mvs pr [] []) (hr : LeadsT g I m r) : AW g I p T S (m :: op) lf mvs pr [m] r := by
  have hm := h.rng m (by simp)
  refine ⟨h.nd, h.mem, h.rng, h.ll, h.ml, fun i a b c => ?_, fun i a b c d e x hx => ?_, h.oth, h.base, h.snd, h.rank, h.mv⟩
  · rw [h.left i a b c]
    refine cM_congr fun x hx => ?_
    by_cases hi : i ∈ r
    · simp [hi]
    · have hxm : ¬ (x = m ∧ gB I x = true) := fun hh => hi ((hr.2 i).2 ⟨a, b, c, hm.2.2, hh.1 ▸ hx⟩)
      simp only [List.not_mem_nil, hi, if_false, List.append_nil]
      cases hIx : gB I x
      · rfl
      · have : ¬ x = m := fun hh => hxm ⟨hh, hIx⟩
        simp [this]
  · have h2 := h.own i a b c d e x hx
    simp only [List.not_mem_nil, if_false, List.append_nil] at h2
    by_cases hi : i ∈ r
    · rw [if_pos hi]
      exact h2
    · rw [if_neg hi, List.mem_append, not_or]
      refine ⟨h2, fun hh => ?_⟩
      rw [List.mem_singleton] at hh
      exact hi ((hr.2 i).2 ⟨a, b, c, hm.2.2, hh ▸ hx⟩)
theorem gI_setE {l : List Int} {i j v : Int} (h0 : 0 ≤ i) (h1 : i < l.length) (h2 : 0 ≤ j) : gI (l.set i.toNat v) j = if i = j then v else gI l j := gI_set' h0 h1 h2
theorem aw_left {g : GameL} (hnd : ∀ i : Int, 0 ≤ i → i < (g.ow.length : Int) → (gL g.mv i).Nodup) {I T S : List Bool} {p m i : Int} {op lf mvs pr r : List Int} (h : AW g I p T S (m :: op) lf mvs pr [m] (i :: r)) (hr : LeadsT g I m (i :: r) ∨ True) (hi : 0 ≤ i ∧ i < (g.ow.length : Int) ∧ gB I i = true ∧ gB I m = true ∧ m ∈ gL g.mv i) (hnr : i ∉ r) :
    ∀ j : Int, 0 ≤ j → j < (g.ow.length : Int) → gB I j = true → gI (lf.set i.toNat (gI lf i - 1)) j = cM (gL g.mv j) (fun x => gB I x && !decide (x ∈ (if j ∈ r then pr else pr ++ [m]))) := by
  intro j a b c
  have hll := h.ll
  rw [gI_setE hi.1 (by omega) a]
  by_cases e : i = j
  · subst e
    rw [if_pos rfl, h.left i a b c]
    have hmp : m ∉ pr := fun hm => by
      have := h.nd
      rw [List.nodup_append] at this
      exact this.2.2 m hm m (by simp) rfl
    have := cM_one (f := fun x => gB I x && !decide (x ∈ pr)) (hnd i a b) hi.2.2.2.2 (by simp [hi.2.2.2.1, hmp])
    rw [show cM (gL g.mv i) (fun x => gB I x && !decide (x ∈ (if i ∈ i :: r then pr else pr ++ [m]))) = cM (gL g.mv i) (fun x => gB I x && !decide (x ∈ pr)) from cM_congr fun x _ => by simp]
    rw [← this]
    refine cM_congr fun x _ => ?_
    simp only [hnr, if_false, List.mem_append, List.mem_singleton]
    cases gB I x <;> by_cases h1 : x ∈ pr <;> by_cases h2 : x = m <;> simp [h1, h2]
  · rw [if_neg e, h.left j a b c]
    refine cM_congr fun x _ => ?_
    have : j ∈ i :: r ↔ j ∈ r := by
      rw [List.mem_cons]
      exact ⟨fun hh => hh.resolve_left fun h2 => e h2.symm, .inr⟩
    by_cases hj : j ∈ r
    · rw [if_pos (this.2 hj), if_pos hj]
    · rw [if_neg (fun hh => hj (this.1 hh)), if_neg hj]
theorem in_rest {i j : Int} {r pr : List Int} {m : Int} (e : i ≠ j) {x : Int} : x ∈ (if j ∈ i :: r then pr else pr ++ [m]) ↔ x ∈ (if j ∈ r then pr else pr ++ [m]) := by
  have : j ∈ i :: r ↔ j ∈ r := by
    rw [List.mem_cons]
    exact ⟨fun hh => hh.resolve_left fun h2 => e h2.symm, .inr⟩
  by_cases hj : j ∈ r
  · rw [if_pos (this.2 hj), if_pos hj]
  · rw [if_neg (fun hh => hj (this.1 hh)), if_neg hj]
theorem aw_skip {g : GameL} (hnd : ∀ i : Int, 0 ≤ i → i < (g.ow.length : Int) → (gL g.mv i).Nodup) {I T S : List Bool} {p m i : Int} {op lf mvs pr r : List Int} (h : AW g I p T S (m :: op) lf mvs pr [m] (i :: r)) (hi : 0 ≤ i ∧ i < (g.ow.length : Int) ∧ gB I i = true ∧ gB I m = true ∧ m ∈ gL g.mv i) (hnr : i ∉ r)
    (hs : gB S i = true ∨ (gI g.ow i ≠ p ∧ 0 < gI lf i - 1)) : AW g I p T S (m :: op) (lf.set i.toNat (gI lf i - 1)) mvs pr [m] r := by
  have hll := h.ll
  refine ⟨h.nd, h.mem, h.rng, by rw [List.length_set]; exact hll, h.ml, aw_left hnd h (.inr trivial) hi hnr, fun j a b c d e x hx => ?_, fun j a b c d e => ?_, h.base, h.snd, h.rank, h.mv⟩
  · by_cases hj : i = j
    · subst hj
      rcases hs with hs | hs
      · rw [hs] at e
        cases e
      · exact absurd d hs.1
    · have := h.own j a b c d e x hx
      rwa [in_rest hj] at this
  · rw [gI_setE hi.1 (by omega) a]
    by_cases hj : i = j
    · subst hj
      rw [if_pos rfl]
      rcases hs with hs | hs
      · rw [hs] at e
        cases e
      · exact .inl hs.2
    · rw [if_neg hj]
      exact h.oth j a b c d e
theorem concat_split {l a b : List Int} {i j : Int} (h : l ++ [i] = a ++ j :: b) : (b = [] ∧ j = i ∧ a = l) ∨ ∃ b', l = a ++ j :: b' := by
  rcases List.eq_nil_or_concat b with hb | ⟨b', y, hb⟩
  · subst hb
    have := List.append_inj' h rfl
    refine .inl ⟨rfl, ?_, this.1.symm⟩
    have h2 := this.2
    simp at h2
    exact h2.symm
  · rw [List.concat_eq_append] at hb
    subst hb
    have h2 : l ++ [i] = (a ++ j :: b') ++ [y] := by rw [h]; simp
    exact .inr ⟨b', (List.append_inj' h2 rfl).1⟩
theorem aw_add {g : GameL} (hG : RightG g) (hnd : ∀ i : Int, 0 ≤ i → i < (g.ow.length : Int) → (gL g.mv i).Nodup) {I T S : List Bool} (hSl : S.length = 256) {p m i : Int} {op lf mvs mvs' pr r : List Int} (h : AW g I p T S (m :: op) lf mvs pr [m] (i :: r)) (hi : 0 ≤ i ∧ i < (g.ow.length : Int) ∧ gB I i = true ∧ gB I m = true ∧ m ∈ gL g.mv i) (hnr : i ∉ r)
    (hs : gB S i = false) (hs2 : gI g.ow i = p ∨ gI lf i - 1 ≤ 0) (hmv : (gI g.ow i = p ∧ mvs' = mvs.set i.toNat m) ∨ (gI g.ow i ≠ p ∧ mvs' = mvs)) : AW g I p T (putD S i true) (m :: op ++ [i]) (lf.set i.toNat (gI lf i - 1)) mvs' pr [m] r := by
  have hll := h.ll
  have hml := h.ml
  have hn := hG.n1
  have hni : i ∉ pr ++ m :: op := fun hm => by
    rw [← h.mem i hi.1 (by omega)] at hm
    rw [hm] at hs
    cases hs
  have hml' : mvs'.length = g.ow.length := by
    rcases hmv with ⟨_, rfl⟩ | ⟨_, rfl⟩
    · rw [List.length_set]; exact hml
    · exact hml
  have hne : ∀ j : Int, 0 ≤ j → j ≠ i → gI mvs' j = gI mvs j := fun j a hj => by
    rcases hmv with ⟨_, rfl⟩ | ⟨_, rfl⟩
    · rw [gI_setE hi.1 (by omega) a, if_neg (fun e => hj e.symm)]
    · rfl
  have hleft := aw_left hnd h (.inr trivial) hi hnr
  have hall : gI g.ow i ≠ p → ∀ x ∈ gL g.mv i, gB I x = true → x ∈ pr ++ [m] := fun hp x hx hIx => by
    have h1 := hleft i hi.1 hi.2.1 hi.2.2.1
    rw [gI_setE hi.1 (by omega) hi.1, if_pos rfl] at h1
    have h2 := cM_zero (l := gL g.mv i) (f := fun x => gB I x && !decide (x ∈ (if i ∈ r then pr else pr ++ [m]))) (by rw [← h1]; exact hs2.resolve_left hp) x hx
    rw [hIx] at h2
    simp only [hnr, if_false, Bool.true_and] at h2
    by_cases hx2 : x ∈ pr ++ [m]
    · exact hx2
    · rw [decide_eq_false hx2] at h2
      cases h2
  have el : pr ++ (m :: op ++ [i]) = (pr ++ m :: op) ++ [i] := by simp
  have hput : ∀ j : Int, 0 ≤ j → j < 256 → gB (putD S i true) j = if i = j then true else gB S j := fun j a b => gB_put hSl a b
  refine ⟨?_, fun j a b => ?_, fun j hj => ?_, by rw [List.length_set]; exact hll, hml', hleft, fun j a b c d e x hx => ?_, fun j a b c d e => ?_, fun j a b c d => ?_, fun C hC j hj => ?_, ?_, fun j a b => ?_⟩
  · rw [el, List.nodup_append]
    refine ⟨h.nd, List.nodup_cons.2 ⟨List.not_mem_nil, List.nodup_nil⟩, fun a ha b hb => ?_⟩
    rw [List.mem_singleton] at hb
    subst hb
    exact fun e => hni (e ▸ ha)
  · rw [hput j a b, el, List.mem_append, List.mem_singleton]
    by_cases e : i = j
    · subst e
      simp
    · rw [if_neg e, h.mem j a b]
      exact ⟨.inl, fun hh => hh.resolve_right fun h2 => e h2.symm⟩
  · rw [el, List.mem_append, List.mem_singleton] at hj
    rcases hj with hj | rfl
    · exact h.rng j hj
    · exact ⟨hi.1, hi.2.1, hi.2.2.1⟩
  · rw [hput j a (by omega)] at e
    by_cases hj : i = j
    · rw [if_pos hj] at e
      cases e
    · rw [if_neg hj] at e
      have := h.own j a b c d e x hx
      rwa [in_rest hj] at this
  · rw [hput j a (by omega)] at e
    by_cases hj : i = j
    · rw [if_pos hj] at e
      cases e
    · rw [if_neg hj] at e
      rw [gI_setE hi.1 (by omega) a, if_neg hj]
      exact h.oth j a b c d e
  · rw [hput j a b]
    split
    · rfl
    · exact h.base j a b c d
  · rw [el, List.mem_append, List.mem_singleton] at hj
    rcases hj with hj | rfl
    · exact h.snd C hC j hj
    · by_cases hp : gI g.ow j = p
      · exact hC.own j hi.1 hi.2.1 hi.2.2.1 hp m hi.2.2.2.2 hi.2.2.2.1 (h.snd C hC m (by simp))
      · refine hC.oth j hi.1 hi.2.1 hi.2.2.1 hp ⟨m, hi.2.2.2.2, hi.2.2.2.1⟩ fun x hx hIx => h.snd C hC x ?_
        have := hall hp x hx hIx
        rw [List.mem_append, List.mem_singleton] at this
        rw [List.mem_append, List.mem_cons]
        exact this.imp id .inl
  · intro a j b e
    rw [el] at e
    rcases concat_split e with ⟨rfl, rfl, rfl⟩ | ⟨b', e2⟩
    · by_cases hp : gI g.ow j = p
      · refine .inr (.inl ⟨hp, ?_⟩)
        have hm : gI mvs' j = m := by
          rcases hmv with ⟨_, rfl⟩ | ⟨h2, _⟩
          · rw [gI_setE hi.1 (by omega) hi.1, if_pos rfl]
          · exact absurd hp h2
        rw [hm]
        exact ⟨hi.2.2.2.2, by simp⟩
      · refine .inr (.inr ⟨hp, fun x hx hIx => ?_⟩)
        have := hall hp x hx hIx
        rw [List.mem_append, List.mem_singleton] at this
        rw [List.mem_append, List.mem_cons]
        exact this.imp id .inl
    · have hj : j ∈ pr ++ m :: op := by rw [e2]; simp
      have hji : j ≠ i := fun e3 => hni (e3 ▸ hj)
      have hj0 := (h.rng j hj).1
      rw [hne j hj0 hji]
      exact h.rank a j b' e2
  · rw [hput j a (by omega)]
    by_cases hj : i = j
    · subst hj
      rw [if_pos rfl]
      by_cases hp : gI g.ow i = p
      · by_cases ht : gB T i = true
        · have := h.base i a (by omega) ht hi.2.2.1
          rw [this] at hs
          cases hs
        · exact .inl ⟨rfl, by simpa using ht, hp⟩
      · refine .inr ?_
        rcases hmv with ⟨h2, _⟩ | ⟨_, rfl⟩
        · exact absurd h2 hp
        · rcases h.mv i a b with h3 | h3
          · rw [h3.1] at hs
            cases hs
          · exact h3
    · rw [if_neg hj, hne j a (fun e => hj e.symm)]
      exact h.mv j a b
theorem aw_close {g : GameL} {I T S : List Bool} {p m : Int} {op lf mvs pr : List Int} (h : AW g I p T S (m :: op) lf mvs pr [m] []) : AW g I p T S op lf mvs (pr ++ [m]) [] [] := by
  have e : pr ++ [m] ++ op = pr ++ m :: op := by simp
  refine ⟨by rw [e]; exact h.nd, fun j a b => by rw [e]; exact h.mem j a b, fun j hj => h.rng j (by rw [← e]; exact hj), h.ll, h.ml, fun i a b c => ?_, fun i a b c d f x hx => ?_, h.oth, h.base, fun C hC j hj => h.snd C hC j (by rw [← e]; exact hj), by rw [e]; exact h.rank, h.mv⟩
  · rw [h.left i a b c]
    exact cM_congr fun x _ => by simp
  · have := h.own i a b c d f x hx
    simpa using this
theorem aw_end {g : GameL} (hG : RightG g) {I T S : List Bool} {p : Int} {lf mvs pr : List Int} (h : AW g I p T S [] lf mvs pr [] []) : AttrT g I p T S ∧ MovA g I p T S mvs := by
  have hn := hG.n1
  have hm : ∀ j : Int, 0 ≤ j → j < 256 → (gB S j = true ↔ j ∈ pr) := fun j a b => by simpa using h.mem j a b
  have hr : ∀ j ∈ pr, 0 ≤ j ∧ j < (g.ow.length : Int) ∧ gB I j = true := fun j hj => h.rng j (by simpa using hj)
  refine ⟨⟨⟨h.base, fun i a b c d x hx hIx hSx => ?_, fun i a b c d hex hal => ?_⟩, fun j a b hj => (hr j ((hm j a b).1 hj)).2.2, fun C hC j a b hj => h.snd C hC j (by simpa using (hm j a b).1 hj)⟩, ⟨h.ml, h.mv, pr, hm, hr, by simpa using h.rank⟩⟩
  · by_cases hs : gB S i = true
    · exact hs
    · have h1 := h.own i a b c d (by simpa using hs) x hx
      have hx2 : 0 ≤ x ∧ x < 256 := by
        obtain ⟨k, hk, rfl⟩ := List.mem_iff_getElem.1 hx
        have := hG.mv i a b (k : Int) (by omega) (by omega)
        have e : gI (gL g.mv i) (k : Int) = (gL g.mv i)[k] := by simp only [gI, Int.toNat_natCast, List.getD_eq_getElem?_getD, List.getElem?_eq_getElem hk, Option.getD_some]
        rw [e] at this
        omega
      have h2 := (hm x hx2.1 hx2.2).1 hSx
      simp at h1
      exact absurd h2 h1
  · by_cases hs : gB S i = true
    · exact hs
    · rcases h.oth i a b c d (by simpa using hs) with h1 | h1
      · rw [h.left i a b c] at h1
        obtain ⟨x, hx, hf⟩ := cM_pos h1
        simp only [List.not_mem_nil, if_false, List.append_nil, Bool.and_eq_true, Bool.not_eq_true', decide_eq_false_iff_not] at hf
        have hx2 : 0 ≤ x ∧ x < 256 := by
          obtain ⟨k, hk, rfl⟩ := List.mem_iff_getElem.1 hx
          have := hG.mv i a b (k : Int) (by omega) (by omega)
          have e : gI (gL g.mv i) (k : Int) = (gL g.mv i)[k] := by simp only [gI, Int.toNat_natCast, List.getD_eq_getElem?_getD, List.getElem?_eq_getElem hk, Option.getD_some]
          rw [e] at this
          omega
        exact absurd ((hm x hx2.1 hx2.2).1 (hal x hx hf.1)) hf.2
      · obtain ⟨x, hx, hIx⟩ := hex
        rw [h1 x hx] at hIx
        cases hIx
end Go.Proofs.YtplpgfcjjnaigaaDoor
namespace Go.Proofs.YtplpgfcjjnaigaaDoor
open Go Go.RowKit
theorem mv_sorted {g : GameL} (hG : RightG g) {i : Int} (a : 0 ≤ i) (b : i < (g.ow.length : Int)) : (gL g.mv i).Pairwise (· < ·) := by
  have hup := hG.up i a b
  generalize gL g.mv i = l at *
  have h2 : ∀ d k : Nat, k + d + 1 < l.length → gI l (k : Int) < gI l ((k + d + 1 : Nat) : Int) := by
    intro d
    induction d with
    | zero =>
      intro k hk
      have := hup ((k + 0 + 1 : Nat) : Int) (by omega) (by omega)
      rwa [show (((k + 0 + 1 : Nat) : Int) - 1) = (k : Int) by omega] at this
    | succ d ih =>
      intro k hk
      have h3 := ih k (by omega)
      have h4 := hup ((k + (d + 1) + 1 : Nat) : Int) (by omega) (by omega)
      rw [show (((k + (d + 1) + 1 : Nat) : Int) - 1) = ((k + d + 1 : Nat) : Int) by omega] at h4
      omega
  rw [List.pairwise_iff_getElem]
  intro x y hx hy hxy
  have := h2 (y - x - 1) x (by omega)
  rw [show x + (y - x - 1) + 1 = y by omega, gI_eq (by omega) (by omega), gI_eq (by omega) (by omega)] at this
  exact this
theorem mv_nd {g : GameL} (hG : RightG g) : ∀ i : Int, 0 ≤ i → i < (g.ow.length : Int) → (gL g.mv i).Nodup := fun i a b =>
  (mv_sorted hG a b).imp (fun h => by omega)
theorem mem_take {l : List Int} {q x : Int} (h0 : 0 ≤ q) (h1 : q < (l.length : Int)) : x ∈ l.take (q + 1).toNat ↔ x ∈ l.take q.toNat ∨ x = gI l q := by
  rw [show (q + 1).toNat = q.toNat + 1 by omega, List.take_succ_eq_append_getElem (show q.toNat < l.length by omega), ← gI_eq h0 h1, List.mem_append, List.mem_singleton]
theorem not_take {l : List Int} (hn : l.Nodup) {q : Int} (h0 : 0 ≤ q) (h1 : q < (l.length : Int)) : gI l q ∉ l.take q.toNat := fun h => by
  obtain ⟨k, hk, e⟩ := List.mem_iff_getElem.1 h
  rw [List.length_take] at hk
  rw [List.getElem_take, gI_eq h0 h1] at e
  have := (List.getElem_inj hn).1 e
  omega
structure FrA (g : GameL) (I : List Bool) (fr : List (List Int)) (lf : List Int) (i q : Int) : Prop where
  len : fr.length = g.ow.length
  ll : lf.length = g.ow.length
  mem : ∀ m j : Int, 0 ≤ m → m < (g.ow.length : Int) → (j ∈ gL fr m ↔ 0 ≤ j ∧ j < (g.ow.length : Int) ∧ gB I j = true ∧ gB I m = true ∧ ((j < i ∧ m ∈ gL g.mv j) ∨ (j = i ∧ m ∈ (gL g.mv i).take q.toNat)))
  nd : ∀ m : Int, 0 ≤ m → m < (g.ow.length : Int) → (gL fr m).Nodup
  lf : ∀ j : Int, 0 ≤ j → j < (g.ow.length : Int) → gI lf j = if j < i then (if gB I j = true then cM (gL g.mv j) (gB I) else 0) else if j = i then cM ((gL g.mv i).take q.toNat) (gB I) else 0
  cnt : ∀ m : Int, 0 ≤ m → m < (g.ow.length : Int) → ((gL fr m).length : Int) ≤ 200 * i + q
theorem gI_rep0 (n : Nat) (m : Int) : gI (List.replicate n 0) m = 0 := by
  simp only [gI, List.getD_eq_getElem?_getD, List.getElem?_replicate]
  split <;> rfl
theorem fra0 {g : GameL} {I : List Bool} : FrA g I (List.replicate g.ow.length []) (List.replicate g.ow.length 0) 0 0 := by
  refine ⟨List.length_replicate, List.length_replicate, fun m j a b => ?_, fun m a b => by rw [gL_rep]; exact List.nodup_nil, fun j a b => ?_, fun m a b => by rw [gL_rep]; simp⟩
  · rw [gL_rep]
    refine ⟨fun h => (List.not_mem_nil h).elim, fun h => ?_⟩
    rcases h.2.2.2.2 with h2 | h2
    · omega
    · simp at h2
  · rw [gI_rep0, if_neg (by omega)]
    split
    · simp [cM]
    · rfl
theorem fra_row {g : GameL} (hG : RightG g) {I : List Bool} {fr : List (List Int)} {lf : List Int} {i q : Int} (h : FrA g I fr lf i q) (h0 : 0 ≤ i) (h1 : i < (g.ow.length : Int)) (hq : ((gL g.mv i).length : Int) ≤ q) (hq2 : q ≤ ((gL g.mv i).length : Int)) (hI : gB I i = true) : FrA g I fr lf (i + 1) 0 := by
  have hr := row_len hG h0 h1
  have hn := hG.n1
  have e : (gL g.mv i).take q.toNat = gL g.mv i := List.take_of_length_le (by omega)
  refine ⟨h.len, h.ll, fun m j a b => ?_, h.nd, fun j a b => ?_, fun m a b => by have := h.cnt m a b; omega⟩
  · rw [h.mem m j a b, e]
    constructor
    · rintro ⟨c, d, f, k, l⟩
      refine ⟨c, d, f, k, ?_⟩
      rcases l with l | l
      · exact .inl ⟨by omega, l.2⟩
      · obtain ⟨rfl, l⟩ := l
        exact .inl ⟨by omega, l⟩
    · rintro ⟨c, d, f, k, l⟩
      refine ⟨c, d, f, k, ?_⟩
      rcases l with l | l
      · by_cases hj : j = i
        · subst hj
          exact .inr ⟨rfl, l.2⟩
        · exact .inl ⟨by omega, l.2⟩
      · simp at l
  · rw [h.lf j a b]
    by_cases hj : j < i
    · rw [if_pos hj, if_pos (show j < i + 1 by omega)]
    · rw [if_neg hj]
      by_cases he : j = i
      · subst he
        rw [if_pos rfl, if_pos (by omega), if_pos hI, e]
      · rw [if_neg he, if_neg (by omega)]
        split
        · simp [cM]
        · rfl
theorem fra_out {g : GameL} (hG : RightG g) {I : List Bool} {fr : List (List Int)} {lf : List Int} {i : Int} (h : FrA g I fr lf i 0) (h0 : 0 ≤ i) (h1 : i < (g.ow.length : Int)) (hI : gB I i = false) : FrA g I fr lf (i + 1) 0 := by
  refine ⟨h.len, h.ll, fun m j a b => ?_, h.nd, fun j a b => ?_, fun m a b => by have := h.cnt m a b; omega⟩
  · rw [h.mem m j a b]
    constructor
    · rintro ⟨c, d, f, k, l⟩
      refine ⟨c, d, f, k, ?_⟩
      rcases l with l | l
      · exact .inl ⟨by omega, l.2⟩
      · simp at l
    · rintro ⟨c, d, f, k, l⟩
      refine ⟨c, d, f, k, ?_⟩
      rcases l with l | l
      · by_cases hj : j = i
        · subst hj
          rw [hI] at f
          cases f
        · exact .inl ⟨by omega, l.2⟩
      · simp at l
  · rw [h.lf j a b]
    by_cases hj : j < i
    · rw [if_pos hj, if_pos (show j < i + 1 by omega)]
    · rw [if_neg hj]
      by_cases he : j = i
      · subst he
        rw [if_pos rfl, if_pos (by omega), if_neg (by rw [hI]; decide)]
        simp [cM]
      · rw [if_neg he, if_neg (by omega)]
        split
        · simp [cM]
        · rfl
theorem fra_skip {g : GameL} (hG : RightG g) {I : List Bool} {fr : List (List Int)} {lf : List Int} {i q : Int} (h : FrA g I fr lf i q) (h0 : 0 ≤ i) (h1 : i < (g.ow.length : Int)) (k0 : 0 ≤ q) (k1 : q < ((gL g.mv i).length : Int)) (hm : gB I (gI (gL g.mv i) q) = false) : FrA g I fr lf i (q + 1) := by
  refine ⟨h.len, h.ll, fun m j a b => ?_, h.nd, fun j a b => ?_, fun m a b => by have := h.cnt m a b; omega⟩
  · rw [h.mem m j a b, mem_take k0 k1]
    constructor
    · rintro ⟨c, d, f, k, l⟩
      exact ⟨c, d, f, k, l.imp id fun x => ⟨x.1, .inl x.2⟩⟩
    · rintro ⟨c, d, f, k, l⟩
      refine ⟨c, d, f, k, l.imp id fun x => ⟨x.1, x.2.resolve_right fun e => ?_⟩⟩
      subst e
      rw [hm] at k
      cases k
  · rw [h.lf j a b, take_cM k0 k1, if_neg (show ¬ gB I (gI (gL g.mv i) q) = true by rw [hm]; decide), Int.add_zero]
theorem fra_push {g : GameL} (hG : RightG g) {I : List Bool} {fr : List (List Int)} {lf : List Int} {i q : Int} (h : FrA g I fr lf i q) (h0 : 0 ≤ i) (h1 : i < (g.ow.length : Int)) (k0 : 0 ≤ q) (k1 : q < ((gL g.mv i).length : Int)) (hI : gB I i = true) (hm : gB I (gI (gL g.mv i) q) = true) :
    FrA g I (fr.set (gI (gL g.mv i) q).toNat (gL fr (gI (gL g.mv i) q) ++ [i])) (lf.set i.toNat (gI lf i + 1)) i (q + 1) := by
  have hr := hG.mv i h0 h1 q k0 k1
  have hl := h.len
  have hll := h.ll
  have hni : i ∉ gL fr (gI (gL g.mv i) q) := fun hh => by
    rcases ((h.mem _ i hr.1 hr.2).1 hh).2.2.2.2 with l | l
    · omega
    · exact not_take (mv_nd hG i h0 h1) k0 k1 l.2
  refine ⟨by rw [List.length_set]; exact hl, by rw [List.length_set]; exact hll, fun m j a b => ?_, fun m a b => ?_, fun j a b => ?_, fun m a b => ?_⟩
  · rw [gL_set hr.1 (by omega) a, mem_take k0 k1]
    by_cases e : gI (gL g.mv i) q = m
    · rw [if_pos e, List.mem_append, List.mem_singleton, e, h.mem m j a b]
      constructor
      · rintro (⟨c, d, f, k, l⟩ | rfl)
        · exact ⟨c, d, f, k, l.imp id fun x => ⟨x.1, .inl x.2⟩⟩
        · exact ⟨h0, h1, hI, e ▸ hm, .inr ⟨rfl, .inr rfl⟩⟩
      · rintro ⟨c, d, f, k, l⟩
        by_cases hj : j = i
        · exact .inr hj
        · refine .inl ⟨c, d, f, k, ?_⟩
          rcases l with l | l
          · exact .inl l
          · exact absurd l.1 hj
    · rw [if_neg e, h.mem m j a b]
      constructor
      · rintro ⟨c, d, f, k, l⟩
        exact ⟨c, d, f, k, l.imp id fun x => ⟨x.1, .inl x.2⟩⟩
      · rintro ⟨c, d, f, k, l⟩
        exact ⟨c, d, f, k, l.imp id fun x => ⟨x.1, x.2.resolve_right fun e2 => e e2.symm⟩⟩
  · rw [gL_set hr.1 (by omega) a]
    by_cases e : gI (gL g.mv i) q = m
    · rw [if_pos e, List.nodup_append]
      refine ⟨h.nd _ hr.1 hr.2, List.nodup_cons.2 ⟨List.not_mem_nil, List.nodup_nil⟩, fun x hx y hy => ?_⟩
      rw [List.mem_singleton] at hy
      subst hy
      exact fun e3 => hni (e3 ▸ hx)
    · rw [if_neg e]
      exact h.nd m a b
  · rw [gI_setE h0 (by omega) a]
    have h5 := h.lf j a b
    by_cases hj : i = j
    · subst hj
      rw [if_pos rfl, if_neg (by omega), if_pos rfl, take_cM k0 k1, if_pos hm]
      rw [if_neg (by omega), if_pos rfl] at h5
      omega
    · rw [if_neg hj, h5]
      by_cases hlt : j < i
      · rw [if_pos hlt, if_pos hlt]
      · rw [if_neg hlt, if_neg hlt, if_neg (fun e => hj e.symm), if_neg (fun e => hj e.symm)]
  · rw [gL_set hr.1 (by omega) a]
    have h3 := h.cnt m a b
    have h4 := h.cnt _ hr.1 hr.2
    split
    · rw [List.length_append]
      simp
      omega
    · omega
theorem fra_leads {g : GameL} {I : List Bool} {fr : List (List Int)} {lf : List Int} (h : FrA g I fr lf (g.ow.length : Int) 0) {m : Int} (a : 0 ≤ m) (b : m < (g.ow.length : Int)) : LeadsT g I m (gL fr m) := by
  refine ⟨h.nd m a b, fun i => ?_⟩
  rw [h.mem m i a b]
  constructor
  · rintro ⟨c, d, f, k, l⟩
    refine ⟨c, d, f, k, ?_⟩
    rcases l with l | l
    · exact l.2
    · simp at l
  · rintro ⟨c, d, f, k, l⟩
    exact ⟨c, d, f, k, .inl ⟨d, l⟩⟩
theorem fra_lf {g : GameL} {I : List Bool} {fr : List (List Int)} {lf : List Int} (h : FrA g I fr lf (g.ow.length : Int) 0) : ∀ i : Int, 0 ≤ i → i < (g.ow.length : Int) → gB I i = true → gI lf i = cM (gL g.mv i) (gB I) := fun i a b c => by
  rw [h.lf i a b, if_pos b, if_pos c]
def inS (g : GameL) (s : List Int) : List Int := andS s (fullW ((g.ow.length : Nat) : Int))
def inT (g : GameL) (s : List Int) : List Bool := fromW (inS g s)
theorem inS_ok {g : GameL} {s : List Int} (h : OkW s) : OkW (inS g s) := okW_andS h (fullW_W _)
theorem gB_inT {g : GameL} {s : List Int} {j : Int} (a : 0 ≤ j) (b : j < 256) : gB (inT g s) j = (gB (fromW s) j && decide (j < (g.ow.length : Int))) := by
  rw [inT, inS, from_andS, gB_andD a b, from_full, gB_fullD a b]
theorem inT_lt {g : GameL} {s : List Int} : ∀ j : Int, 0 ≤ j → j < 256 → gB (inT g s) j = true → j < (g.ow.length : Int) := fun j a b h => by
  rw [gB_inT a b, Bool.and_eq_true] at h
  exact of_decide_eq_true h.2
theorem has_inT {g : GameL} {s : List Int} {m : Int} (a : 0 ≤ m) (b : m < 256) : hasW (inS g s) m = gB (inT g s) m := by
  rw [hasW_from, hasD, decide_eq_true ⟨a, b⟩, Bool.true_and, inT]
def AttractT (g : GameL) (s : List Int) (p : Int) (t ss mvs : List Int) : Prop :=
  OkW ss ∧ ((¬ (isR g = true ∧ (p = 0 ∨ p = 1)) ∧ ss = [0, 0, 0, 0] ∧ mvs = []) ∨ (isR g = true ∧ (p = 0 ∨ p = 1) ∧ AttrT g (inT g s) p (fromW t) (fromW ss) ∧ MovA g (inT g s) p (fromW t) (fromW ss) mvs))
end Go.Proofs.YtplpgfcjjnaigaaDoor
namespace Go.Proofs.YtplpgfcjjnaigaaDoor
open Go Go.RowKit
theorem ms_next {ms : List Int} {i : Int} (h : ∀ j : Int, 0 ≤ j → j < i → gI ms j = -1) (h0 : 0 ≤ i) (h1 : i < (ms.length : Int)) : ∀ j : Int, 0 ≤ j → j < i + 1 → gI (ms.set i.toNat (-1)) j = -1 := fun j a b => by
  rw [gI_setE h0 (by omega) a]
  split
  · rfl
  · exact h j a (by omega)
theorem cM_le (l : List Int) (f : Int → Bool) : cM l f ≤ (l.length : Int) := by
  have := List.length_filter_le f l
  unfold cM
  omega
theorem fra_lb {g : GameL} {I : List Bool} {fr : List (List Int)} {lf : List Int} {i q : Int} (h : FrA g I fr lf i q) (h0 : 0 ≤ i) (h1 : i < (g.ow.length : Int)) (hq : 0 ≤ q) : 0 ≤ gI lf i ∧ gI lf i ≤ q := by
  have e := h.lf i h0 h1
  rw [if_neg (by omega), if_pos rfl] at e
  have h2 := cM_le ((gL g.mv i).take q.toNat) (gB I)
  have h3 := cM_ge ((gL g.mv i).take q.toNat) (gB I)
  rw [List.length_take] at h2
  omega
theorem aw_lb {g : GameL} (hG : RightG g) {I T S : List Bool} {p i : Int} {op lf mvs pr cur rest : List Int} (h : AW g I p T S op lf mvs pr cur rest) (h0 : 0 ≤ i) (h1 : i < (g.ow.length : Int)) (hi : gB I i = true) : 0 ≤ gI lf i ∧ gI lf i ≤ 200 := by
  have e := h.left i h0 h1 hi
  rw [e]
  have h2 := cM_le (gL g.mv i) (fun x => gB I x && !decide (x ∈ (if i ∈ rest then pr else pr ++ cur)))
  have h3 := row_len hG h0 h1
  have h4 := hG.n1
  exact ⟨cM_ge _ _, by omega⟩
theorem aw_len {g : GameL} {I T S : List Bool} {p : Int} {op lf mvs pr cur rest : List Int} (h : AW g I p T S op lf mvs pr cur rest) : op.length ≤ g.ow.length := by
  have h1 : op.Nodup := (List.nodup_append.1 h.nd).2.1
  have hr : ∀ j ∈ op, 0 ≤ j ∧ j < (g.ow.length : Int) := fun j hj => by
    have := h.rng j (List.mem_append.2 (.inr hj))
    exact ⟨this.1, this.2.1⟩
  have h2 : (op.map Int.toNat).Nodup := by
    refine List.pairwise_map.2 (List.Pairwise.imp_of_mem (fun {a b} ha hb hab e => hab ?_) h1)
    have := hr a ha
    have := hr b hb
    omega
  have h3 : (op.map Int.toNat) ⊆ List.range g.ow.length := fun x hx => by
    obtain ⟨y, hy, rfl⟩ := List.mem_map.1 hx
    have := hr y hy
    simp
    omega
  have := List.Nodup.length_le_of_subset h2 h3
  simpa using this
theorem op_cons {op : List Int} (h : 0 < op.length) : op = gI op 0 :: op.drop 1 := by
  cases op with
  | nil => simp at h
  | cons x r => rfl
theorem nd_drop {l : List Int} (h : l.Nodup) {k : Int} (h0 : 0 ≤ k) (h1 : k < (l.length : Int)) : gI l k ∉ l.drop (k + 1).toNat := by
  have h2 : (l.drop k.toNat).Nodup := h.sublist (List.drop_sublist _ _)
  rw [drop_at (r := []) h0 h1, List.nodup_cons] at h2
  exact h2.1
theorem has_W {s : List Int} {i : Int} (a : 0 ≤ i) (b : i < 256) : hasW s i = gB (fromW s) i := by rw [hasW_from, hasD, decide_eq_true ⟨a, b⟩, Bool.true_and]
theorem right_of2 {g : GameL} (h : (rightP g).2 = 0) : isR g = true := by unfold isR; simp [h]
theorem right_no3 {g : GameL} {p : Int} (h : (rightP g).2 ≠ 0 ∨ (p ≠ 0 ∧ p ≠ 1)) : ¬ (isR g = true ∧ (p = 0 ∨ p = 1)) := fun h2 => by
  have h3 := h2.1
  unfold isR at h3
  simp at h3
  omega
end Go.Proofs.YtplpgfcjjnaigaaDoor
namespace Go.Proofs.YtplpgfcjjnaigaaDoor
open Go Go.RowKit
section
variable {g : GameL} {s t ss mvs : List Int} {p : Int}
theorem att_ok (h : AttractT g s p t ss mvs) : OkW ss := h.1
theorem att_len (h : AttractT g s p t ss mvs) : mvs.length ≤ 200 := by
  rcases h.2 with h2 | h2
  · rw [h2.2.2]
    decide
  · have := h2.2.2.2.ml
    have := (isR_ok h2.1).n1
    omega
theorem eq_00 {x : List Int} (hx : OkW x) (h : ∀ j : Int, 0 ≤ j → j < 256 → gB (fromW x) j = false) : x = [0, 0, 0, 0] :=
  (set_iff hx okW_00).2 fun j a b => by rw [h j a b, from_00, gB_emptyD]
end
end Go.Proofs.YtplpgfcjjnaigaaDoor
namespace Go.Proofs.YtplpgfcjjnaigaaDoor
open Go Go.RowKit
def inP (s : List Int) (i : Int) : Prop := 0 ≤ i ∧ i < 256 ∧ gB (fromW s) i = true
instance (s : List Int) (i : Int) : Decidable (inP s i) := by unfold inP; exact inferInstance
structure LiveT (g : GameL) (s : List Int) : Prop where
  lt : ∀ i, inP s i → i < (g.ow.length : Int)
  mv : ∀ i, inP s i → ∃ x ∈ gL g.mv i, inP s x
theorem inP_00 (i : Int) : ¬ inP [0, 0, 0, 0] i := fun h => by
  have := h.2.2
  rw [from_00, gB_emptyD] at this
  cases this
theorem inP_minus {s t : List Int} (ht : OkW t) (i : Int) : inP (minusS s t) i ↔ inP s i ∧ ¬ inP t i := by
  unfold inP
  constructor
  · rintro ⟨a, b, c⟩
    rw [from_minusS ht, gB_minusD a b, Bool.and_eq_true] at c
    exact ⟨⟨a, b, c.1⟩, fun h => by rw [h.2.2] at c; cases c.2⟩
  · rintro ⟨⟨a, b, c⟩, d⟩
    refine ⟨a, b, ?_⟩
    rw [from_minusS ht, gB_minusD a b, c, Bool.true_and]
    cases h : gB (fromW t) i with
    | false => rfl
    | true => exact absurd ⟨a, b, h⟩ d
theorem inP_or {s t : List Int} (i : Int) : inP (orS s t) i ↔ inP s i ∨ inP t i := by
  unfold inP
  constructor
  · rintro ⟨a, b, c⟩
    rw [from_orS, gB_orD a b, Bool.or_eq_true] at c
    exact c.elim (fun h => .inl ⟨a, b, h⟩) (fun h => .inr ⟨a, b, h⟩)
  · rintro (⟨a, b, c⟩ | ⟨a, b, c⟩)
    · exact ⟨a, b, by rw [from_orS, gB_orD a b, c]; rfl⟩
    · exact ⟨a, b, by rw [from_orS, gB_orD a b, c, Bool.or_true]⟩
theorem inP_has {s : List Int} {i : Int} : hasW s i = true ↔ inP s i := by
  unfold inP
  rw [hasW_from, hasD, Bool.and_eq_true, decide_eq_true_iff]
  constructor
  · rintro ⟨⟨a, b⟩, c⟩
    exact ⟨a, b, c⟩
  · rintro ⟨a, b, c⟩
    exact ⟨⟨a, b⟩, c⟩
theorem inP_none {s : List Int} (hs : OkW s) (h : ¬ s = [0, 0, 0, 0]) : ∃ i, inP s i := by
  by_cases h2 : ∃ i, inP s i
  · exact h2
  · exact absurd (eq_00 hs fun j a b => by
      cases hc : gB (fromW s) j with
      | false => rfl
      | true => exact absurd ⟨j, a, b, hc⟩ h2) h
theorem inP_ls {s : List Int} {i : Int} : i ∈ lsD (fromW s) 256 ↔ inP s i := mem_ls
theorem least_inP {s : List Int} (h : ∃ i, inP s i) : inP s (leastD (fromW s)) := by
  obtain ⟨i, hi⟩ := h
  have hm := inP_ls.2 hi
  rw [least_ls]
  cases hl : lsD (fromW s) 256 with
  | nil => rw [hl] at hm; cases hm
  | cons a r => exact inP_ls.1 (by rw [hl]; exact List.mem_cons_self)
theorem inT_inP {g : GameL} {s : List Int} (hl : ∀ i, inP s i → i < (g.ow.length : Int)) {i : Int} (a : 0 ≤ i) (b : i < 256) : gB (inT g s) i = true ↔ inP s i := by
  rw [gB_inT a b, Bool.and_eq_true, decide_eq_true_iff]
  exact ⟨fun h => ⟨a, b, h.1⟩, fun h => ⟨h.2.2, hl i h⟩⟩
theorem draw_of {g : GameL} {s t ss ms : List Int} {p : Int} (hR : isR g = true) (hl : ∀ i, inP s i → i < (g.ow.length : Int)) (h : AttractT g s p t ss ms) {f : Int → Int} (hf : ∀ i, inP ss i → ¬ inP t i → gI g.ow i = p → f i = gI ms i) : ∃ rk, Draw g (inP s) p f (inP t) (inP ss) rk := by
  have hn := (isR_ok hR).n1
  rcases h.2 with h2 | ⟨_, hp, hA, hM⟩
  · exact ⟨fun _ => 0, by rw [h2.2.1]; exact ⟨fun i hi => absurd hi (inP_00 i), fun i hi => absurd hi (inP_00 i), fun i hi => absurd hi (inP_00 i)⟩⟩
  · obtain ⟨ord, h1, h3, h4⟩ := hM.rank
    have hA1 : ∀ x, inP ss x ↔ x ∈ ord := fun x => ⟨fun hx => (h1 x hx.1 hx.2.1).1 hx.2.2, fun hx => by
      have := h3 x hx
      exact ⟨this.1, by omega, (h1 x this.1 (by omega)).2 hx⟩⟩
    have hsub : ∀ x, inP ss x → inP s x := fun x hx => (inT_inP hl hx.1 hx.2.1).1 (hA.sub x hx.1 hx.2.1 hx.2.2)
    have hsp : ∀ j ∈ ord, ord = ord.take (ord.idxOf j) ++ j :: ord.drop (ord.idxOf j + 1) := fun j hj => by
      have hlt := List.idxOf_lt_length_of_mem hj
      have e1 := List.getElem_idxOf hlt
      conv => lhs; rw [← List.take_append_drop (ord.idxOf j) ord, List.drop_eq_getElem_cons hlt, e1]
    have hbef : ∀ (x : Int) (k : Nat), x ∈ ord.take k → ord.idxOf x < k := fun x k hx => by
      rw [← List.take_append_drop k ord, List.idxOf_append, if_pos hx]
      have := List.idxOf_lt_length_of_mem hx
      rw [List.length_take] at this
      omega
    refine ⟨fun x => ord.idxOf x, hsub, fun i hi ht e => ?_, fun i hi ht e m hm hI => ?_⟩
    · have hj := (hA1 i).1 hi
      rw [hf i hi ht e]
      rcases h4 _ _ _ (hsp i hj) with h5 | ⟨_, h6, h7⟩ | ⟨h6, _⟩
      · exact absurd ⟨hi.1, hi.2.1, h5⟩ ht
      · exact ⟨h6, (hA1 _).2 (List.mem_of_mem_take h7), hbef _ _ h7⟩
      · exact absurd e h6
    · have hj := (hA1 i).1 hi
      rcases h4 _ _ _ (hsp i hj) with h5 | ⟨h6, _⟩ | ⟨_, h6⟩
      · exact absurd ⟨hi.1, hi.2.1, h5⟩ ht
      · exact absurd h6 e
      · have := h6 m hm ((inT_inP hl hI.1 hI.2.1).2 hI)
        exact ⟨(hA1 _).2 (List.mem_of_mem_take this), hbef _ _ this⟩
section
variable {g : GameL} {s t ss ms : List Int} {p : Int}
theorem att_inT (hR : isR g = true) (hp : p = 0 ∨ p = 1) (h : AttractT g s p t ss ms) : AttrT g (inT g s) p (fromW t) (fromW ss) ∧ MovA g (inT g s) p (fromW t) (fromW ss) ms := by
  rcases h.2 with h2 | h2
  · exact absurd ⟨hR, hp⟩ h2.1
  · exact h2.2.2
theorem att_sub (hR : isR g = true) (hp : p = 0 ∨ p = 1) (hl : ∀ i, inP s i → i < (g.ow.length : Int)) (h : AttractT g s p t ss ms) : ∀ i, inP ss i → inP s i := fun i hi =>
  (inT_inP hl hi.1 hi.2.1).1 ((att_inT hR hp h).1.sub i hi.1 hi.2.1 hi.2.2)
theorem att_base (hR : isR g = true) (hp : p = 0 ∨ p = 1) (hl : ∀ i, inP s i → i < (g.ow.length : Int)) (h : AttractT g s p t ss ms) : ∀ i, inP t i → inP s i → inP ss i := fun i hi hs =>
  ⟨hi.1, hi.2.1, (att_inT hR hp h).1.cl.base i hi.1 hi.2.1 hi.2.2 ((inT_inP hl hi.1 hi.2.1).2 hs)⟩
theorem att_own (hR : isR g = true) (hp : p = 0 ∨ p = 1) (hl : ∀ i, inP s i → i < (g.ow.length : Int)) (h : AttractT g s p t ss ms) : ∀ i, inP s i → ¬ inP ss i → gI g.ow i = p → ∀ m ∈ gL g.mv i, inP s m → ¬ inP ss m := fun i hi ha e m hm hI hc =>
  ha ⟨hi.1, hi.2.1, (att_inT hR hp h).1.cl.own i hi.1 (hl i hi) ((inT_inP hl hi.1 hi.2.1).2 hi) e m hm ((inT_inP hl hI.1 hI.2.1).2 hI) hc.2.2⟩
theorem att_live (hR : isR g = true) (hp : p = 0 ∨ p = 1) (hL : LiveT g s) (h : AttractT g s p t ss ms) : LiveT g (minusS s ss) := by
  have hok := h.1
  refine ⟨fun i hi => hL.lt i ((inP_minus hok i).1 hi).1, fun i hi => ?_⟩
  obtain ⟨h1, h2⟩ := (inP_minus hok i).1 hi
  by_cases e : gI g.ow i = p
  · obtain ⟨x, hx, hxs⟩ := hL.mv i h1
    exact ⟨x, hx, (inP_minus hok x).2 ⟨hxs, att_own hR hp hL.lt h i h1 h2 e x hx hxs⟩⟩
  · by_cases hall : ∀ x ∈ gL g.mv i, inP s x → inP ss x
    · refine absurd ⟨h1.1, h1.2.1, (att_inT hR hp h).1.cl.oth i h1.1 (hL.lt i h1) ((inT_inP hL.lt h1.1 h1.2.1).2 h1) e ?_ ?_⟩ h2
      · obtain ⟨x, hx, hxs⟩ := hL.mv i h1
        exact ⟨x, hx, (inT_inP hL.lt hxs.1 hxs.2.1).2 hxs⟩
      · intro x hx hxs
        have hr := row_rng hR h1.1 (hL.lt i h1) hx
        have hn := (isR_ok hR).n1
        exact (hall x hx ((inT_inP hL.lt hr.1 (by omega)).1 hxs)).2.2
    · have : ∃ x ∈ gL g.mv i, inP s x ∧ ¬ inP ss x := by
        refine Classical.byContradiction fun hc => hall fun x hx hxs => Classical.byContradiction fun hn => hc ⟨x, hx, hxs, hn⟩
      obtain ⟨x, hx, hxs, hn⟩ := this
      exact ⟨x, hx, (inP_minus hok x).2 ⟨hxs, hn⟩⟩
theorem att_mv (hR : isR g = true) (hp : p = 0 ∨ p = 1) (h : AttractT g s p t ss ms) {i : Int} (a : 0 ≤ i) (b : i < (g.ow.length : Int)) : (inP ss i ∧ ¬ inP t i ∧ gI g.ow i = p) ∨ gI ms i = -1 := by
  have hn := (isR_ok hR).n1
  rcases (att_inT hR hp h).2.mv i a b with ⟨h1, h2, h3⟩ | h1
  · exact .inl ⟨⟨a, by omega, h1⟩, (fun h => by rw [h.2.2] at h2; cases h2), h3⟩
  · exact .inr h1
end
theorem len_sub {s t : List Int} (ht : OkW t) (h : ∃ i, inP s i ∧ inP t i) : lenW (minusS s t) < lenW s := by
  rw [len_minus ht]
  obtain ⟨i, h1, h2⟩ := h
  have : 0 < lenW (andS s t) := by
    rw [lenW_ls]
    have hm : i ∈ lsD (fromW (andS s t)) 256 := mem_ls.2 ⟨h1.1, h1.2.1, by rw [from_andS, gB_andD h1.1 h1.2.1, h1.2.2, h2.2.2]; rfl⟩
    have := List.length_pos_of_mem hm
    omega
  omega
def KeepT (l m m' : List Int) : Prop := m'.length = m.length ∧ ∀ i : Int, 0 ≤ i → i < (m.length : Int) → gI m' i = if i < (l.length : Int) ∧ 0 ≤ gI l i then gI l i else gI m i
structure PartS (g : GameL) (s : List Int) (p : Int) (sp sq mp mq mp' mq' : List Int) : Prop where
  okp : OkW sp
  okq : OkW sq
  lp : mp'.length = mp.length
  lq : mq'.length = mq.length
  all : ∀ i, inP s i ↔ inP sp i ∨ inP sq i
  wp : WinT g (inP s) p (gI mp') (inP sp)
  wq : WinT g (inP s) (1 - p) (gI mq') (inP sq)
  outp : ∀ i, 0 ≤ i → ¬ inP s i → gI mp' i = gI mp i
  outq : ∀ i, 0 ≤ i → ¬ inP s i → gI mq' i = gI mq i
theorem PartS.swap {g : GameL} {s : List Int} {p : Int} {sp sq mp mq mp' mq' : List Int} (h : PartS g s p sp sq mp mq mp' mq') : PartS g s (1 - p) sq sp mq mp mq' mp' :=
  ⟨h.okq, h.okp, h.lq, h.lp, fun i => (h.all i).trans or_comm, h.wq, by rw [show 1 - (1 - p) = p by omega]; exact h.wp, h.outq, h.outp⟩
theorem part_empty {g : GameL} {p : Int} {mp mq : List Int} : PartS g [0, 0, 0, 0] p [0, 0, 0, 0] [0, 0, 0, 0] mp mq mp mq := by
  refine ⟨okW_00, okW_00, rfl, rfl, fun i => ⟨fun h => .inl h, fun h => h.elim id id⟩, ?_, ?_, fun _ _ _ => rfl, fun _ _ _ => rfl⟩
  · exact win_none.iff (fun i => ⟨fun h => inP_00 i h, fun h => h.elim⟩)
  · exact win_none.iff (fun i => ⟨fun h => inP_00 i h, fun h => h.elim⟩)
structure TopT (g : GameL) (s t : List Int) (h : Int) : Prop where
  ok : OkW t
  at_ : ∀ i, inP t i ↔ inP s i ∧ gI g.pr i = h
  le : ∀ i, inP s i → gI g.pr i ≤ h
  ex : ∃ i, inP t i
def MostT (g : GameL) (s t : List Int) (p : Int) (m m' : List Int) : Prop := m'.length = m.length ∧ ∀ i : Int, 0 ≤ i → i < (m.length : Int) → gI m' i = if inP t i ∧ gI g.ow i = p then leastD (fromW (andS (ofW (gL g.mv i)) s)) else gI m i
section
variable {g : GameL} {s t ss ms rp rq mp mq mp1 mq1 mp2 mp3 gs ls tp tq mq2 mq3 : List Int} {p h : Int}
theorem most_mv (hR : isR g = true) (hL : LiveT g s) {i : Int} (hi : inP s i) : leastD (fromW (andS (ofW (gL g.mv i)) s)) ∈ gL g.mv i ∧ inP s (leastD (fromW (andS (ofW (gL g.mv i)) s))) := by
  have hn := (isR_ok hR).n1
  have key : ∀ x, inP (andS (ofW (gL g.mv i)) s) x ↔ x ∈ gL g.mv i ∧ inP s x := fun x => by
    unfold inP
    constructor
    · rintro ⟨a, b, c⟩
      rw [from_andS, gB_andD a b, from_of, gB_ofD _ a b, Bool.and_eq_true, decide_eq_true_iff] at c
      exact ⟨c.1, a, b, c.2⟩
    · rintro ⟨h1, a, b, c⟩
      exact ⟨a, b, by rw [from_andS, gB_andD a b, from_of, gB_ofD _ a b, Bool.and_eq_true, decide_eq_true_iff]; exact ⟨h1, c⟩⟩
  obtain ⟨x, hx, hxs⟩ := hL.mv i hi
  exact (key _).1 (least_inP ⟨x, (key x).2 ⟨hx, hxs⟩⟩)
theorem part_win (hR : isR g = true) (hp : p = 0 ∨ p = 1) (hL : LiveT g s) (hs : OkW s) (hl : mp.length = g.ow.length) (hT : TopT g s t h) (hpt : h % 2 = p) (hA : AttractT g s p t ss ms) (hr : PartS g (minusS s ss) p rp rq mp mq mp1 mq1) (he : rq = [0, 0, 0, 0]) (hK : KeepT ms mp1 mp2) (hM : MostT g s t p mp2 mp3) :
    PartS g s p s [0, 0, 0, 0] mp mq mp3 mq1 := by
  have hok := hA.1
  have hsub := att_sub hR hp hL.lt hA
  have hts : ∀ i, inP t i → inP s i := fun i hi => ((hT.at_ i).1 hi).1
  have htA : ∀ i, inP t i → inP ss i := fun i hi => att_base hR hp hL.lt hA i hi (hts i hi)
  have lp1 := hr.lp
  have lp2 := hK.1
  have lp3 := hM.1
  have e3 : ∀ i, 0 ≤ i → i < (g.ow.length : Int) → ¬ inP t i → gI mp3 i = gI mp2 i := fun i a b ht => by
    rw [hM.2 i a (by omega), if_neg (fun k => ht k.1)]
  have e2 : ∀ i, 0 ≤ i → i < (g.ow.length : Int) → ¬ inP ss i → gI mp2 i = gI mp1 i := fun i a b ha => by
    rw [hK.2 i a (by omega), if_neg]
    rintro ⟨_, h2⟩
    rcases att_mv hR hp hA a b with h3 | h3
    · exact ha h3.1
    · omega
  have hml : ms.length = g.ow.length := (att_inT hR hp hA).2.ml
  obtain ⟨rk, hd⟩ := draw_of hR hL.lt hA (f := gI mp3) (fun i hi ht e => by
    have hlt := hL.lt i (hsub i hi)
    rw [e3 i hi.1 hlt ht, hK.2 i hi.1 (by omega), if_pos]
    obtain ⟨rk0, hd0⟩ := draw_of hR hL.lt hA (f := gI ms) (fun _ _ _ _ => rfl)
    have h1 := (hd0.own i hi ht e).1
    exact ⟨by omega, (row_rng hR hi.1 hlt h1).1⟩)
  refine ⟨hs, okW_00, by omega, hr.lq, fun i => ⟨.inl, fun h => h.elim id (fun h => absurd h (inP_00 i))⟩, ?_, win_none.iff (fun i => ⟨fun h => inP_00 i h, fun h => h.elim⟩), fun i a hi => ?_, fun i a hi => ?_⟩
  · refine win_top (A := inP ss) (M := inP t) (t := h) (rk := rk) hT.at_ hT.le hpt hd htA (fun i hi e => ?_) ?_
    · rw [hM.2 i hi.1 (by have := hL.lt i (hts i hi); omega), if_pos ⟨hi, e⟩]
      exact most_mv hR hL (hts i hi)
    · have h1 := hr.wp
      have h2 : WinT g (fun i => inP s i ∧ ¬ inP ss i) p (gI mp1) (fun i => inP s i ∧ ¬ inP ss i) :=
        (h1.iffI (fun i => (inP_minus hok i).symm)).iff (fun i => by
          rw [← inP_minus hok i, hr.all i, he]
          exact ⟨fun k => k.elim id (fun k => absurd k (inP_00 i)), .inl⟩)
      refine h2.congr fun i hi e => ?_
      have hlt := hL.lt i hi.1
      rw [e3 i hi.1.1 hlt (fun k => hi.2 (htA i k)), e2 i hi.1.1 hlt hi.2]
  · by_cases b : i < (g.ow.length : Int)
    · rw [e3 i a b (fun k => hi (hts i k)), e2 i a b (fun k => hi (hsub i k))]
      exact hr.outp i a (fun k => hi ((inP_minus hok i).1 k).1)
    · have h1 : ∀ l : List Int, l.length = g.ow.length → gI l i = 0 := fun l hl' => by
        simp only [gI, List.getD_eq_getElem?_getD]
        rw [List.getElem?_eq_none (by omega)]
        rfl
      rw [h1 mp3 (by omega), h1 mp hl]
  · exact hr.outq i a (fun k => hi ((inP_minus hok i).1 k).1)
def ResT (s gs rq m m' : List Int) : Prop := m'.length = m.length ∧ ∀ i : Int, 0 ≤ i → i < (m.length : Int) → gI m' i = if inP gs i ∨ (inP s i ∧ ¬ inP rq i) then -1 else gI m i
theorem part_two (hR : isR g = true) (hp : p = 0 ∨ p = 1) (hL : LiveT g s) (hl : mp.length = g.ow.length) (hlq : mq.length = g.ow.length) (hA : AttractT g s p t ss ms) (hr : PartS g (minusS s ss) p rp rq mp mq mp1 mq1) (hB : AttractT g s (1 - p) rq gs ls) (hK : KeepT ls mq1 mq2) (hX : ResT s gs rq mp1 mp2)
    (h2 : PartS g (minusS s gs) p tp tq mp2 mq2 mp3 mq3) : PartS g s p tp (orS tq gs) mp mq mp3 mq3 := by
  have hq : 1 - p = 0 ∨ 1 - p = 1 := by omega
  have hok := hA.1
  have hog := hB.1
  have hsubA := att_sub hR hp hL.lt hA
  have hsubB := att_sub hR hq hL.lt hB
  have hrs : ∀ i, inP rq i → inP s i ∧ ¬ inP ss i := fun i hi => (inP_minus hok i).1 ((hr.all i).2 (.inr hi))
  have hrB : ∀ i, inP rq i → inP gs i := fun i hi => att_base hR hq hL.lt hB i hi (hrs i hi).1
  have lp1 := hr.lp
  have lq1 := hr.lq
  have lq2 := hK.1
  have lp2 := hX.1
  have lp3 := h2.lp
  have lq3 := h2.lq
  have hml : ls.length = g.ow.length := (att_inT hR hq hB).2.ml
  -- the other one's moves in gs: as they were kept
  have e3 : ∀ i, inP gs i → gI mq3 i = gI mq2 i := fun i hi => h2.outq i hi.1 (fun k => ((inP_minus hog i).1 k).2 hi)
  have e2 : ∀ i, 0 ≤ i → i < (g.ow.length : Int) → (inP rq i ∨ ¬ inP gs i) → gI mq2 i = gI mq1 i := fun i a b ht => by
    rw [hK.2 i a (by omega), if_neg]
    rintro ⟨_, h3⟩
    rcases att_mv hR hq hB a b with h4 | h4
    · rcases ht with ht | ht
      · exact h4.2.1 ht
      · exact ht h4.1
    · omega
  obtain ⟨rk, hd⟩ := draw_of hR hL.lt hB (f := gI mq3) (fun i hi ht e => by
    have hlt := hL.lt i (hsubB i hi)
    rw [e3 i hi, hK.2 i hi.1 (by omega), if_pos]
    obtain ⟨rk0, hd0⟩ := draw_of hR hL.lt hB (f := gI ls) (fun _ _ _ _ => rfl)
    have h1 := (hd0.own i hi ht e).1
    exact ⟨by omega, (row_rng hR hi.1 hlt h1).1⟩)
  have hw1 : WinT g (inP s) (1 - p) (gI mq3) (inP rq) := by
    have h1 : WinT g (fun i => inP s i ∧ ¬ inP ss i) (1 - p) (gI mq1) (inP rq) := hr.wq.iffI (fun i => (inP_minus hok i).symm)
    have h3 : WinT g (inP s) (1 - p) (gI mq1) (inP rq) := win_part h1 (fun i hi => hi.1) (fun i hi e m hm hI => ⟨hI, att_own hR hp hL.lt hA i (hrs i hi).1 (hrs i hi).2 (by
      have := (isR_ok hR).ow i hi.1 (hL.lt i (hrs i hi).1)
      omega) m hm hI⟩)
    refine h3.congr fun i hi e => ?_
    rw [e3 i (hrB i hi), e2 i hi.1 (hL.lt i (hrs i hi).1) (.inl hi)]
  have hw2 : WinT g (inP s) (1 - p) (gI mq3) (inP gs) := win_draw (r := fun n => n) hw1 hd hrB
  refine ⟨h2.okp, okW_orS h2.okq hog, by omega, by omega, fun i => ?_, ?_, ?_, fun i a hi => ?_, fun i a hi => ?_⟩
  · rw [inP_or]
    have h3 := h2.all i
    rw [inP_minus hog i] at h3
    constructor
    · intro hi
      by_cases hg : inP gs i
      · exact .inr (.inr hg)
      · exact (h3.1 ⟨hi, hg⟩).elim .inl (fun k => .inr (.inl k))
    · rintro (k | k | k)
      · exact (h3.2 (.inl k)).1
      · exact (h3.2 (.inr k)).1
      · exact hsubB i k
  · have h3 : WinT g (fun i => inP s i ∧ ¬ inP gs i) p (gI mp3) (inP tp) := h2.wp.iffI (fun i => (inP_minus hog i).symm)
    refine win_part h3 (fun i hi => hi.1) (fun i hi e m hm hI => ⟨hI, ?_⟩)
    have h4 := h3.sub i hi
    have := (isR_ok hR).ow i hi.1 (hL.lt i h4.1)
    exact att_own hR hq hL.lt hB i h4.1 h4.2 (by omega) m hm hI
  · have h3 : WinT g (fun i => inP s i ∧ ¬ inP gs i) (1 - p) (gI mq3) (inP tq) := h2.wq.iffI (fun i => (inP_minus hog i).symm)
    exact (win_both hw2 h3).iff (fun i => by rw [inP_or]; exact or_comm)
  · have h3 : ¬ inP (minusS s gs) i := fun k => hi ((inP_minus hog i).1 k).1
    have h4 : ¬ inP (minusS s ss) i := fun k => hi ((inP_minus hok i).1 k).1
    rw [h2.outp i a h3, ← hr.outp i a h4]
    by_cases b : i < (g.ow.length : Int)
    · rw [hX.2 i a (by omega), if_neg]
      rintro (k | k)
      · exact hi (hsubB i k)
      · exact hi k.1
    · have h1 : ∀ l : List Int, l.length = g.ow.length → gI l i = 0 := fun l hl' => by
        simp only [gI, List.getD_eq_getElem?_getD]
        rw [List.getElem?_eq_none (by omega)]
        rfl
      rw [h1 mp2 (by omega), h1 mp1 (by omega)]
  · have h3 : ¬ inP (minusS s gs) i := fun k => hi ((inP_minus hog i).1 k).1
    have h4 : ¬ inP (minusS s ss) i := fun k => hi ((inP_minus hok i).1 k).1
    rw [h2.outq i a h3, ← hr.outq i a h4]
    by_cases b : i < (g.ow.length : Int)
    · exact e2 i a b (.inr (fun k => hi (hsubB i k)))
    · have h1 : ∀ l : List Int, l.length = g.ow.length → gI l i = 0 := fun l hl' => by
        simp only [gI, List.getD_eq_getElem?_getD]
        rw [List.getElem?_eq_none (by omega)]
        rfl
      rw [h1 mq2 (by omega), h1 mq1 (by omega)]
end
end Go.Proofs.YtplpgfcjjnaigaaDoor
namespace Go.Proofs.YtplpgfcjjnaigaaDoor
open Go Go.RowKit
structure DecS where
  bd : Nat
  bg : Nat
  bp : Nat
  bk : Nat
  bm : Nat
  bn : Nat
  M0 : Option Addr
  M1 : Option Addr
  c0 : Nat
  c1 : Nat
  A0 : Option Addr
  A1 : Option Addr
  A2 : Option Addr
  k0 : Nat
  k1 : Nat
  k2 : Nat
  hi : Nat
  g : GameL
def DecS.T (x : DecS) (k : Nat) : Prop := obk x.M0 = some k ∨ obk x.M1 = some k ∨ k = x.bd
structure DecK (x : DecS) : Prop where
  hR : isR x.g = true
  dg : x.bd ≠ x.bg ∧ x.bd ≠ x.bp ∧ x.bd ≠ x.bk ∧ x.bd ≠ x.bm ∧ x.bd ≠ x.bn
  hd : x.hi ≤ x.bd
  hT : ∀ k, x.T k → x.hi ≤ k
def partV (x : DecS) : Value := .func (.func 38) #[] #[.pointer (some ⟨x.bd, 0, none⟩), .pointer (some ⟨x.bg, 0, none⟩), .pointer (some ⟨x.bp, 0, none⟩), .pointer (some ⟨x.bk, 0, none⟩), .pointer (some ⟨x.bm, 0, none⟩), .pointer (some ⟨x.bn, 0, none⟩)]
def keepV (x : DecS) : Value := .func (.func 37) #[] #[.pointer (some ⟨x.bm, 0, none⟩)]
structure DecW (w : World) (x : DecS) (d : Int) (m0 m1 : List Int) : Prop where
  wd : Bx w x.bd [.int .i64 d] 3
  wg : Bx w x.bg [.slice x.A0 x.g.ow.length x.k0, .slice x.A1 x.g.pr.length x.k1, .slice x.A2 x.g.mv.length x.k2] 25
  wp : Bx w x.bp [partV x] 65
  wk : Bx w x.bk [keepV x] 64
  wm : Bx w x.bm [.slice x.M0 x.g.ow.length x.c0, .slice x.M1 x.g.ow.length x.c1] 29
  wn : Bx w x.bn [.int .i64 ((x.g.ow.length : Nat) : Int)] 3
  r0 : OwnR w (SxP x.T [obk x.M1, some x.bd, some x.bg, some x.bp, some x.bk, some x.bm, some x.bn]) x.M0 x.c0 3 m0
  r1 : OwnR w (SxP x.T [obk x.M0, some x.bd, some x.bg, some x.bp, some x.bk, some x.bm, some x.bn]) x.M1 x.c1 3 m1
  rg : RdG w 0 x.hi x.A0 x.A1 x.A2 x.k0 x.k1 x.k2 x.g
  rt : RdT w 0 x.hi
def DecR (x : DecS) (s m0 m1 : List Int) (d depth : Int) (w : World) (e : Ending) (w' : World) : Prop :=
  ∃ s0 s1 n0 n1 d', e = .returned (.agg ((s0 ++ s1 : List Int).map wV).toArray) ∧ Tch x.T w w' ∧ Bx w' x.bd [.int .i64 d'] 3 ∧ OwnR w' (fun _ => True) x.M0 x.c0 3 (n0 : List Int) ∧ OwnR w' (fun _ => True) x.M1 x.c1 3 (n1 : List Int) ∧
    PartS x.g s 0 s0 s1 m0 m1 n0 n1 ∧ d ≤ d' ∧ depth ≤ d' ∧ d' ≤ max d (depth + lenW s)
structure DecB (x : DecS) (s m0 m1 : List Int) (d depth : Int) : Prop where
  ok : OkW s
  live : LiveT x.g s
  l0 : m0.length = x.g.ow.length
  l1 : m1.length = x.g.ow.length
  d0 : 0 ≤ d
  d1 : d ≤ 1000
  e0 : 0 ≤ depth
  e1 : depth + lenW s ≤ 1000
def partArgs (x : DecS) (s : List Int) (depth : Int) : Array Value := #[.agg ((s : List Int).map wV).toArray, .int .i64 depth, .pointer (some ⟨x.bd, 0, none⟩), .pointer (some ⟨x.bg, 0, none⟩), .pointer (some ⟨x.bp, 0, none⟩), .pointer (some ⟨x.bk, 0, none⟩), .pointer (some ⟨x.bm, 0, none⟩), .pointer (some ⟨x.bn, 0, none⟩)]
def PartOK (x : DecS) (s : List Int) : Prop := ∀ (m0 m1 : List Int) (d depth : Int) (w : World), DecW w x d m0 m1 → DecB x s m0 m1 d depth → Calls Tryd.prog 38 (partArgs x s depth) w (DecR x s m0 m1 d depth w)
theorem DecS.not {x : DecS} {b : Nat} (h0 : obk x.M0 ≠ some b) (h1 : obk x.M1 ≠ some b) (h2 : x.bd ≠ b) : ¬ x.T b := fun h => h.elim h0 (fun h => h.elim h1 (fun h => h2 h.symm))
theorem orN_hi {T : Nat → Prop} {n hi k : Nat} (hT : ∀ k, T k → hi ≤ k) (hn : hi ≤ n) (h : orN T n k) : hi ≤ k := h.elim (hT k) (fun h => by omega)
theorem ls_rg {l : List Bool} {k : Int} (a : 0 ≤ k) (b : k < ((lsD l 256).length : Int)) : 0 ≤ gI (lsD l 256) k ∧ gI (lsD l 256) k < 256 ∧ gB l (gI (lsD l 256) k) = true := by
  have := mem_ls.1 (ls_get a b)
  exact ⟨this.1, by omega, this.2.2⟩
structure TopK (g : GameL) (s ts : List Int) (hh k : Int) : Prop where
  ok : OkW ts
  ge : -1 ≤ hh
  le : ∀ i ∈ (lsD (fromW s) 256).take k.toNat, gI g.pr i ≤ hh
  at_ : ∀ i, inP ts i ↔ i ∈ (lsD (fromW s) 256).take k.toNat ∧ gI g.pr i = hh
  ex : 0 < k → ∃ i, inP ts i
  z : k = 0 → hh = -1
theorem topK_0 {g : GameL} {s : List Int} : TopK g s [0, 0, 0, 0] (-1) 0 := ⟨okW_00, Int.le_refl _, fun i hi => by simp at hi, fun i => ⟨fun h => absurd h (inP_00 i), fun h => by simp at h⟩, fun h => by omega, fun _ => rfl⟩
theorem take_mem {l : List Int} {k i : Int} (a : 0 ≤ k) (b : k < (l.length : Int)) : i ∈ l.take (k + 1).toNat ↔ i ∈ l.take k.toNat ∨ i = gI l k := by
  rw [show (k + 1).toNat = k.toNat + 1 by omega, List.take_succ_eq_append_getElem (show k.toNat < l.length by omega), List.mem_append, List.mem_singleton, gI_eq a b]
theorem inP_with {ts : List Int} (h : OkW ts) {n : Int} (a : 0 ≤ n) (b : n < 256) (i : Int) : inP (withW ts n) i ↔ inP ts i ∨ i = n := by
  unfold inP
  constructor
  · rintro ⟨c, d, e⟩
    rw [gB_withW h c d] at e
    split at e
    · rename_i h2
      exact .inr h2.symm
    · exact .inl ⟨c, d, e⟩
  · rintro (⟨c, d, e⟩ | rfl)
    · refine ⟨c, d, ?_⟩
      rw [gB_withW h c d]
      split
      · rfl
      · exact e
    · refine ⟨a, b, ?_⟩
      rw [gB_withW h a b, if_pos rfl]
theorem inP_of {n : Int} (a : 0 ≤ n) (b : n < 256) (i : Int) : inP (ofW [n]) i ↔ i = n := by
  unfold inP
  constructor
  · rintro ⟨c, d, e⟩
    rw [from_of, gB_ofD _ c d, decide_eq_true_iff, List.mem_singleton] at e
    exact e
  · rintro rfl
    exact ⟨a, b, by rw [from_of, gB_ofD _ a b, decide_eq_true_iff, List.mem_singleton]⟩
section
variable {g : GameL} {s ts : List Int} {hh k : Int}
theorem topK_new (h : TopK g s ts hh k) (a : 0 ≤ k) (b : k < ((lsD (fromW s) 256).length : Int)) (hp : gI g.pr (gI (lsD (fromW s) 256) k) > hh) : TopK g s (ofW [gI (lsD (fromW s) 256) k]) (gI g.pr (gI (lsD (fromW s) 256) k)) (k + 1) := by
  have hr := ls_rg a b
  refine ⟨ofW_ok _, by have := h.ge; omega, fun i hi => ?_, fun i => ?_, fun _ => ⟨_, (inP_of hr.1 hr.2.1 _).2 rfl⟩, fun e => by omega⟩
  · rcases (take_mem a b).1 hi with h1 | rfl
    · have := h.le i h1
      omega
    · exact Int.le_refl _
  · rw [inP_of hr.1 hr.2.1, take_mem a b]
    constructor
    · rintro rfl
      exact ⟨.inr rfl, rfl⟩
    · rintro ⟨h1 | h1, h2⟩
      · have := h.le i h1
        omega
      · exact h1
theorem topK_more (h : TopK g s ts hh k) (a : 0 ≤ k) (b : k < ((lsD (fromW s) 256).length : Int)) (hp : gI g.pr (gI (lsD (fromW s) 256) k) = hh) : TopK g s (withW ts (gI (lsD (fromW s) 256) k)) hh (k + 1) := by
  have hr := ls_rg a b
  refine ⟨okW_with h.ok, h.ge, fun i hi => ?_, fun i => ?_, fun _ => ⟨_, (inP_with h.ok hr.1 hr.2.1 _).2 (.inr rfl)⟩, fun e => by omega⟩
  · rcases (take_mem a b).1 hi with h1 | rfl
    · exact h.le i h1
    · omega
  · rw [inP_with h.ok hr.1 hr.2.1, take_mem a b, h.at_ i]
    constructor
    · rintro (⟨h1, h2⟩ | rfl)
      · exact ⟨.inl h1, h2⟩
      · exact ⟨.inr rfl, hp⟩
    · rintro ⟨h1 | h1, h2⟩
      · exact .inl ⟨h1, h2⟩
      · exact .inr h1
theorem topK_skip (hG : RightG g) (hlt : ∀ i, inP s i → i < (g.ow.length : Int)) (h : TopK g s ts hh k) (a : 0 ≤ k) (b : k < ((lsD (fromW s) 256).length : Int)) (hp : ¬ gI g.pr (gI (lsD (fromW s) 256) k) > hh) (hp2 : gI g.pr (gI (lsD (fromW s) 256) k) ≠ hh) : TopK g s ts hh (k + 1) := by
  have hr := ls_rg a b
  have hpos := hG.pr _ hr.1 (hlt _ hr)
  refine ⟨h.ok, h.ge, fun i hi => ?_, fun i => ?_, fun _ => ?_, fun e => by omega⟩
  · rcases (take_mem a b).1 hi with h1 | rfl
    · exact h.le i h1
    · omega
  · rw [take_mem a b, h.at_ i]
    constructor
    · rintro ⟨h1, h2⟩
      exact ⟨.inl h1, h2⟩
    · rintro ⟨h1 | rfl, h2⟩
      · exact ⟨h1, h2⟩
      · omega
  · by_cases hk : 0 < k
    · exact h.ex hk
    · have := h.z (by omega)
      omega
end
theorem top_end {g : GameL} {s ts : List Int} {hh k : Int} (h : TopK g s ts hh k) (hk : ((lsD (fromW s) 256).length : Int) ≤ k) (he : ∃ i, inP s i) : TopT g s ts hh := by
  have e : (lsD (fromW s) 256).take k.toNat = lsD (fromW s) 256 := List.take_of_length_le (by omega)
  obtain ⟨i, hi⟩ := he
  have := List.length_pos_of_mem (inP_ls.2 hi)
  refine ⟨h.ok, fun i => ?_, fun i hi => ?_, h.ex (by omega)⟩
  · rw [h.at_ i, e, inP_ls]
  · exact h.le i (by rw [e]; exact inP_ls.2 hi)
def KeepK (l m xs : List Int) (k : Int) : Prop := xs.length = m.length ∧ ∀ i : Int, 0 ≤ i → i < (m.length : Int) → gI xs i = if i < k ∧ 0 ≤ gI l i then gI l i else gI m i
theorem keepK_0 {l m : List Int} : KeepK l m m 0 := ⟨rfl, fun i a b => by rw [if_neg (by omega)]⟩
theorem keepK_no {l m xs : List Int} {k : Int} (h : KeepK l m xs k) (hk : gI l k < 0) : KeepK l m xs (k + 1) := ⟨h.1, fun i a b => by
  rw [h.2 i a b]
  by_cases e : i = k
  · subst e
    rw [if_neg (by omega), if_neg (by omega)]
  · by_cases h2 : i < k ∧ 0 ≤ gI l i
    · rw [if_pos h2, if_pos (by omega)]
    · rw [if_neg h2, if_neg (by omega)]⟩
theorem keepK_yes {l m xs : List Int} {k : Int} (h : KeepK l m xs k) (a0 : 0 ≤ k) (b0 : k < (m.length : Int)) (hk : 0 ≤ gI l k) : KeepK l m (xs.set k.toNat (gI l k)) (k + 1) := ⟨by rw [List.length_set]; exact h.1, fun i a b => by
  have hl := h.1
  rw [gI_setE a0 (by omega) a]
  by_cases e : k = i
  · subst e
    rw [if_pos rfl, if_pos (by omega)]
  · rw [if_neg e, h.2 i a b]
    by_cases h2 : i < k ∧ 0 ≤ gI l i
    · rw [if_pos h2, if_pos (by omega)]
    · rw [if_neg h2, if_neg (by omega)]⟩
theorem keepK_end {l m xs : List Int} {k : Int} (h : KeepK l m xs k) (hk : k = (l.length : Int)) : KeepT l m xs := by subst hk; exact h
def MostK (g : GameL) (s t : List Int) (p : Int) (m xs : List Int) (k : Int) : Prop := xs.length = m.length ∧ ∀ i : Int, 0 ≤ i → i < (m.length : Int) → gI xs i = if i ∈ (lsD (fromW t) 256).take k.toNat ∧ gI g.ow i = p then leastD (fromW (andS (ofW (gL g.mv i)) s)) else gI m i
section
variable {g : GameL} {s t m xs gs rq : List Int} {p k : Int}
theorem mostK_0 : MostK g s t p m m 0 := ⟨rfl, fun i a b => by rw [if_neg (by simp)]⟩
theorem mostK_no (h : MostK g s t p m xs k) (a0 : 0 ≤ k) (b0 : k < ((lsD (fromW t) 256).length : Int)) (hk : gI g.ow (gI (lsD (fromW t) 256) k) ≠ p) : MostK g s t p m xs (k + 1) := ⟨h.1, fun i a b => by
  rw [h.2 i a b]
  by_cases h2 : i ∈ (lsD (fromW t) 256).take k.toNat ∧ gI g.ow i = p
  · rw [if_pos h2, if_pos ⟨(take_mem a0 b0).2 (.inl h2.1), h2.2⟩]
  · rw [if_neg h2, if_neg]
    rintro ⟨h3, h4⟩
    rcases (take_mem a0 b0).1 h3 with h5 | rfl
    · exact h2 ⟨h5, h4⟩
    · exact hk h4⟩
theorem mostK_yes (h : MostK g s t p m xs k) (a0 : 0 ≤ k) (b0 : k < ((lsD (fromW t) 256).length : Int)) (hm : gI (lsD (fromW t) 256) k < (m.length : Int)) (hk : gI g.ow (gI (lsD (fromW t) 256) k) = p) : MostK g s t p m (xs.set (gI (lsD (fromW t) 256) k).toNat (leastD (fromW (andS (ofW (gL g.mv (gI (lsD (fromW t) 256) k))) s)))) (k + 1) := ⟨by rw [List.length_set]; exact h.1, fun i a b => by
  have hl := h.1
  have hr := ls_rg a0 b0
  rw [gI_setE hr.1 (by omega) a]
  by_cases e : gI (lsD (fromW t) 256) k = i
  · rw [if_pos e, if_pos ⟨(take_mem a0 b0).2 (.inr e.symm), by rw [← e]; exact hk⟩, e]
  · rw [if_neg e, h.2 i a b]
    by_cases h2 : i ∈ (lsD (fromW t) 256).take k.toNat ∧ gI g.ow i = p
    · rw [if_pos h2, if_pos ⟨(take_mem a0 b0).2 (.inl h2.1), h2.2⟩]
    · rw [if_neg h2, if_neg]
      rintro ⟨h3, h4⟩
      rcases (take_mem a0 b0).1 h3 with h5 | h5
      · exact h2 ⟨h5, h4⟩
      · exact e h5.symm⟩
theorem mostK_end (h : MostK g s t p m xs k) (hk : ((lsD (fromW t) 256).length : Int) ≤ k) : MostT g s t p m xs := ⟨h.1, fun i a b => by
  rw [h.2 i a b, List.take_of_length_le (by omega)]
  by_cases h2 : inP t i ∧ gI g.ow i = p
  · rw [if_pos h2, if_pos ⟨inP_ls.2 h2.1, h2.2⟩]
  · rw [if_neg h2, if_neg (fun h3 => h2 ⟨inP_ls.1 h3.1, h3.2⟩)]⟩
def ResK (s gs rq m xs : List Int) (k : Int) : Prop := xs.length = m.length ∧ ∀ i : Int, 0 ≤ i → i < (m.length : Int) → gI xs i = if i < k ∧ (inP gs i ∨ (inP s i ∧ ¬ inP rq i)) then -1 else gI m i
theorem resK_0 : ResK s gs rq m m 0 := ⟨rfl, fun i a b => by rw [if_neg (by omega)]⟩
theorem resK_no (h : ResK s gs rq m xs k) (hk : ¬ (inP gs k ∨ (inP s k ∧ ¬ inP rq k))) : ResK s gs rq m xs (k + 1) := ⟨h.1, fun i a b => by
  rw [h.2 i a b]
  by_cases e : i = k
  · subst e
    rw [if_neg (fun h2 => hk h2.2), if_neg (fun h2 => hk h2.2)]
  · by_cases h2 : i < k ∧ (inP gs i ∨ (inP s i ∧ ¬ inP rq i))
    · rw [if_pos h2, if_pos ⟨by omega, h2.2⟩]
    · rw [if_neg h2, if_neg (fun h3 => h2 ⟨by omega, h3.2⟩)]⟩
theorem resK_yes (h : ResK s gs rq m xs k) (a0 : 0 ≤ k) (b0 : k < (m.length : Int)) (hk : inP gs k ∨ (inP s k ∧ ¬ inP rq k)) : ResK s gs rq m (xs.set k.toNat (-1)) (k + 1) := ⟨by rw [List.length_set]; exact h.1, fun i a b => by
  have hl := h.1
  rw [gI_setE a0 (by omega) a]
  by_cases e : k = i
  · subst e
    rw [if_pos rfl, if_pos ⟨by omega, hk⟩]
  · rw [if_neg e, h.2 i a b]
    by_cases h2 : i < k ∧ (inP gs i ∨ (inP s i ∧ ¬ inP rq i))
    · rw [if_pos h2, if_pos ⟨by omega, h2.2⟩]
    · rw [if_neg h2, if_neg (fun h3 => h2 ⟨by omega, h3.2⟩)]⟩
theorem resK_end (h : ResK s gs rq m xs k) (hk : (m.length : Int) ≤ k) : ResT s gs rq m xs := ⟨h.1, fun i a b => by
  rw [h.2 i a b]
  by_cases h2 : inP gs i ∨ (inP s i ∧ ¬ inP rq i)
  · rw [if_pos ⟨by omega, h2⟩, if_pos h2]
  · rw [if_neg (fun h3 => h2 h3.2), if_neg h2]⟩
theorem has_nP {s : List Int} {i : Int} (h : hasW s i = false) : ¬ inP s i := fun h2 => by rw [inP_has.2 h2] at h; cases h
end
end Go.Proofs.YtplpgfcjjnaigaaDoor
namespace Go.Proofs.YtplpgfcjjnaigaaDoor
open Go Go.RowKit
set_option maxHeartbeats 4000000 in
theorem with_any {s : List Int} {n : Int} {w : World} (hs : OkW s) :
    Calls Tryd.prog 25 #[.agg ((s : List Int).map wV).toArray, .int .i64 (n)] w fun e w' => e = .returned (.agg (((withW s n : List Int)).map wV).toArray) ∧ Ext w w' := by
 have hls := hs.1
 refine enter_ (args := [.agg ((s : List Int).map wV).toArray, .int .i64 (n)]) Tryd.func25 rfl Tryd.ntmps25 (Nat.le_of_ble_eq_true rfl) (fun act0 f0 => ?_)
 have e0 : Ext w w := Ext.refl w
 refine sqs ?_
 refine At.bx f0 2 ((s : List Int).map wV) 44 (fun w1 g5 bx6 act4 f3 => ?_)
 clear f0; have := g5.size; replace e0 := e0.gn g5; have := bx6.lt; clear g5
 refine At.bx f3 4 ((List.replicate 4 (0 : Int) : List Int).map wV) 44 (fun w9 aD aA aX aE => ?_)
 clear f3; have := aD.size; replace e0 := e0.gn aD; replace bx6 := bx6.gn aD; have := aA.lt; clear aD
 refine At.dn ?_
 refine wp_seq ?_
 refine sqs ?_
 rcases Bool.eq_false_or_eq_true (decide ((n : Int) ≥ 0)) with aB | aB
 ·have aY := of_decide_eq_true aB
  refine At.rk aE 6 [(10, .bool (decide ((n : Int) < 256)))] (.e 7 aB <| .n) (fun aZ aC => ?_)
  clear aE
  refine At.dn ?_
  refine cond_S aC (t := decide ((n : Int) < 256)) rfl (fun aJ => ?_) (fun aJ => ?_)
  ·have bA := of_decide_eq_true aJ
   refine At.start ?_
   refine At.rk aC 10 [(20, .pointer (some ((⟨w.heap.size, 0, none⟩ : Addr).add (((n : Int) / 64 : Int).toNat * 1)))), (19, .int .u64 (orW (gI s ((n : Int) / 64)) (oneW ((n : Int) % 64))))] (.p (show 0 ≤ (6 : Int) from ω) <| .v 12 (show (.int .i64 ((n : Int).fdiv (2 ^ (min (6 : Int).toNat IntKind.i64.bits))) : Value) = .int .i64 ((n : Int) / 64) from (congrArg (Value.int .i64) (shr6 _))) <| .b ((n : Int) / 64) 4 <| .l (Bx.arrM (f := wV) (0 : Int) bx6 ((n : Int) / 64) ω ω) <| .v 16 (show (.int .i64 (IntKind.i64.wrap ((BitVec.ofInt 64 n &&& BitVec.ofInt 64 63).toNat : Int)) : Value) = .int .i64 ((n : Int) % 64) from (congrArg (Value.int .i64) (and63 ω ω))) <| .v 17 (show (.int .u64 (IntKind.u64.wrap ((n : Int) % 64)) : Value) = .int .u64 ((n : Int) % 64) from (wu64 ω ω)) <| .p (show 0 ≤ ((n : Int) % 64 : Int) from ω) <| .v 18 (show (.int .u64 (IntKind.u64.wrap (1 * (2 ^ (min ((n : Int) % 64 : Int).toNat IntKind.u64.bits)))) : Value) = .int .u64 (oneW ((n : Int) % 64)) from (congrArg (Value.int .u64) (shl_one ω ω))) <| .v 19 (show (.int .u64 (IntKind.u64.wrap ((BitVec.ofInt 64 (gI s ((n : Int) / 64)) ||| BitVec.ofInt 64 (oneW ((n : Int) % 64))).toNat : Int)) : Value) = .int .u64 (orW (gI s ((n : Int) / 64)) (oneW ((n : Int) % 64))) from (congrArg (Value.int .u64) (or64 (by first | exact hs.2 _ | exact ht.2 _ | exact oneW_W ω ω | exact mixW_W hmx ω ω hs) (by first | exact hs.2 _ | exact ht.2 _ | exact oneW_W ω ω | exact mixW_W hmx ω ω hs)))) <| .b ((n : Int) / 64) 4 <| .n) (fun bB aM => ?_)
   clear aC
   refine At.act aM (storeArrM (f := wV) (t := 42) (b := w.heap.size) (i := (n : Int) / 64) (x := orW (gI s ((n : Int) / 64)) (oneW ((n : Int) % 64))) (v := .int .u64 (orW (gI s ((n : Int) / 64)) (oneW ((n : Int) % 64)))) κ rfl rfl κ bx6 ω ω) ?_
   rintro d_ v_ bC ⟨rfl, aF, aK⟩
   refine ⟨_, rfl, fun bD aN => ?_⟩
   clear aM; have bE : ((s).set ((n : Int) / 64 : Int).toNat (orW (gI s ((n : Int) / 64)) (oneW ((n : Int) % 64)))).length = (s : List Int).length := List.length_set; have := aF.size; replace e0 := e0.gr aF (fun k h => by injection h; omega); replace aA := aA.gb aF ω; clear bx6 aF
   refine At.dn ?_
   refine sqs ?_
   refine At.rk aN 1 [(21, .agg (((s).set ((n : Int) / 64 : Int).toNat (orW (gI s ((n : Int) / 64)) (oneW ((n : Int) % 64))) : List Int).map wV).toArray)] (.p (show (((s).set ((n : Int) / 64 : Int).toNat (orW (gI s ((n : Int) / 64)) (oneW ((n : Int) % 64))) : List Int).map wV).length = 4 from len_P) <| .p aK.whole <| .o (.cs (((s).set ((n : Int) / 64 : Int).toNat (orW (gI s ((n : Int) / 64)) (oneW ((n : Int) % 64))) : List Int).map wV)) <| .n) (fun bF aO => ?_)
   clear aN
   refine At.act aO (storeBlk (t := 44) (b := w1.heap.size) (n := 4) (cs' := (((s).set ((n : Int) / 64 : Int).toNat (orW (gI s ((n : Int) / 64)) (oneW ((n : Int) % 64))) : List Int).map wV)) κ κ len_P oneW_ ((show (((s).set ((n : Int) / 64 : Int).toNat (orW (gI s ((n : Int) / 64)) (oneW ((n : Int) % 64))) : List Int).map wV).length = 4 from len_P).trans (show ((List.replicate 4 (0 : Int) : List Int).map wV).length = 4 from len_P).symm) aA) ?_
   rintro d_ v_ bG ⟨rfl, aG, aR⟩
   refine ⟨_, rfl, fun bH aS => ?_⟩
   clear aO; have := aG.size; replace e0 := e0.gr aG (fun k h => by injection h; omega); replace aK := aK.gb aG ω; clear aA aG
   refine At.dn ?_
   refine wp_ret ?_
   refine retB_ aS (sl := 4) (cs := (((s).set ((n : Int) / 64 : Int).toNat (orW (gI s ((n : Int) / 64)) (oneW ((n : Int) % 64))) : List Int).map wV)) (m := 4) rfl κ κ len_P aR ?_
   exact ⟨ret_map (by first | rw [withW, if_pos ⟨by omega, by omega⟩] | rw [withW, if_neg ω]), e0⟩
  have bI := of_decide_eq_false aJ
  refine wp_skip ?_
  refine t_n ?_
  refine sqs ?_
  refine At.rk aC 1 [(21, .agg ((s : List Int).map wV).toArray)] (.p (show ((s : List Int).map wV).length = 4 from ((List.length_map _).trans σ)) <| .p bx6.whole <| .o (.cs ((s : List Int).map wV)) <| .n) (fun bJ aP => ?_)
  clear aC
  refine At.act aP (storeBlk (t := 44) (b := w1.heap.size) (n := 4) (cs' := ((s : List Int).map wV)) κ κ ((List.length_map _).trans σ) oneW_ ((show ((s : List Int).map wV).length = 4 from ((List.length_map _).trans σ)).trans (show ((List.replicate 4 (0 : Int) : List Int).map wV).length = 4 from len_P).symm) aA) ?_
  rintro d_ v_ bK ⟨rfl, aH, aT⟩
  refine ⟨_, rfl, fun bL aU => ?_⟩
  clear aP; have := aH.size; replace e0 := e0.gr aH (fun k h => by injection h; omega); replace bx6 := bx6.gb aH ω; clear aA aH
  refine At.dn ?_
  refine wp_ret ?_
  refine retB_ aU (sl := 4) (cs := ((s : List Int).map wV)) (m := 4) rfl κ κ ((List.length_map _).trans σ) aT ?_
  exact ⟨ret_map (by first | rw [withW, if_pos ⟨by omega, by omega⟩] | rw [withW, if_neg ω]), e0⟩
 have bM := of_decide_eq_false aB
 refine At.rk aE 6 [(10, .bool false)] (.e 7 aB <| .n) (fun bN aL => ?_)
 clear aE
 refine At.dn ?_
 refine cond_F aL rfl ?_
 refine wp_skip ?_
 refine t_n ?_
 refine sqs ?_
 refine At.rk aL 1 [(21, .agg ((s : List Int).map wV).toArray)] (.p (show ((s : List Int).map wV).length = 4 from ((List.length_map _).trans σ)) <| .p bx6.whole <| .o (.cs ((s : List Int).map wV)) <| .n) (fun bO aQ => ?_)
 clear aL
 refine At.act aQ (storeBlk (t := 44) (b := w1.heap.size) (n := 4) (cs' := ((s : List Int).map wV)) κ κ ((List.length_map _).trans σ) oneW_ ((show ((s : List Int).map wV).length = 4 from ((List.length_map _).trans σ)).trans (show ((List.replicate 4 (0 : Int) : List Int).map wV).length = 4 from len_P).symm) aA) ?_
 rintro d_ v_ bP ⟨rfl, aI, aV⟩
 refine ⟨_, rfl, fun bQ aW => ?_⟩
 clear aQ; have := aI.size; replace e0 := e0.gr aI (fun k h => by injection h; omega); replace bx6 := bx6.gb aI ω; clear aA aI
 refine At.dn ?_
 refine wp_ret ?_
 refine retB_ aW (sl := 4) (cs := ((s : List Int).map wV)) (m := 4) rfl κ κ ((List.length_map _).trans σ) aV ?_
 exact ⟨ret_map (by first | rw [withW, if_pos ⟨by omega, by omega⟩] | rw [withW, if_neg ω]), e0⟩
set_option maxHeartbeats 4000000 in
theorem or_any {s : List Int} {t : List Int} {w : World} (hs : OkW s) (ht : OkW t) :
    Calls Tryd.prog 32 #[.agg ((s : List Int).map wV).toArray, .agg ((t : List Int).map wV).toArray] w fun e w' => e = .returned (.agg (((ofZW (fun j => orW (gI s j) (gI t j)) : List Int)).map wV).toArray) ∧ Ext w w' := by
 have hls := hs.1; have hlt := ht.1
 refine enter_ (args := [.agg ((s : List Int).map wV).toArray, .agg ((t : List Int).map wV).toArray]) Tryd.func32 rfl Tryd.ntmps32 (Nat.le_of_ble_eq_true rfl) (fun act0 f0 => ?_)
 have e0 : Ext w w := Ext.refl w
 refine sqs ?_
 refine At.bx f0 2 ((s : List Int).map wV) 44 (fun w1 g5 bx6 act4 f3 => ?_)
 clear f0; have := g5.size; replace e0 := e0.gn g5; have := bx6.lt; clear g5
 refine At.bx f3 3 ((t : List Int).map wV) 44 (fun w9 aL aG bM aQ => ?_)
 clear f3; have := aL.size; replace e0 := e0.gn aL; replace bx6 := bx6.gn aL; have := aG.lt; clear aL
 refine At.bx aQ 4 ((List.replicate 4 (0 : Int) : List Int).map wV) 44 (fun bN aH aM bO aR => ?_)
 clear aQ; have := aH.size; replace e0 := e0.gn aH; replace bx6 := bx6.gn aH; replace aG := aG.gn aH; have := aM.lt; clear aH
 refine At.dn ?_
 refine wp_seq ?_
 refine sqs ?_
 refine At.rk aR 1 [(6, .int .i64 (0))] .n (fun bP aS => ?_)
 clear aR
 refine At.dn ?_
 refine wp_block ?_
 refine loop_g (fun (m_ : Nat) a_ w_ => ∃ (k : Int) (xs : List Int), m_ = (4 - k).toNat ∧ (Frm 19 a_ [(6, .int .i64 (k)), (4, pt w9.heap.size 0), (3, pt w1.heap.size 0), (2, pt w.heap.size 0)]) ∧ (Ext w w_) ∧ (Bx w_ (w.heap.size) ((xs : List Int).map wV) 44) ∧ (Bx w_ (w1.heap.size) ((t : List Int).map wV) 44) ∧ (Bx w_ (w9.heap.size) ((List.replicate 4 (0 : Int) : List Int).map wV) 44) ∧ (0 ≤ k) ∧ (k ≤ 4) ∧ (xs.length = 4) ∧ (MixW s xs (fun j => orW (gI s j) (gI t j)) k)) _ ⟨0, s, rfl, aS.sb, e0, bx6, aG, aM, ω, ω, ω, (mixW_0 hls)⟩ ?_
 clear aS; clear bx6; clear aG; clear aM; clear e0
 intro m_ bQ bF ⟨k, xs, hm34, aT, aA, aB, aC, aD, i39, i40, i41, hmx⟩
 have := aA.size; have := aB.lt; have := aC.lt; have := aD.lt
 refine sqs ?_
 refine At.rk aT 1 [(7, .bool (decide ((k : Int) < 4)))] .n (fun bR aI => ?_)
 clear aT
 refine At.dn ?_
 refine wp_seq ?_
 refine cond_S aI (t := decide ((k : Int) < 4)) rfl (fun aN => ?_) (fun aN => ?_)
 ·have bS := of_decide_eq_true aN
  refine wp_skip ?_
  refine t_n ?_
  refine wp_seq ?_
  refine wp_block ?_
  refine sqs ?_
  refine At.rk aI 2 [(5, .int .i64 (k))] .n (fun bT aU => ?_)
  clear aI
  refine At.dn ?_
  obtain ⟨aV, aO⟩ : ∃ c : List (Addr × Value), c = [(((⟨w1.heap.size, 0, none⟩ : Addr).add ((k : Int).toNat * 1)), (.int .u64 (gI t k)))] := ⟨_, rfl⟩
  have aW : HoldsC aV bF := by rw [aO]; exact ⟨(Bx.arrM (f := wV) (0 : Int) aC k ω ω), trivial⟩
  refine AtH.start aV 9 _ κ rfl rfl (fun aP aX => ?_)
  have aE := gr_drew aX; have aJ := aW.gr aE; have := aE.size; replace aA := aA.gn aE; replace aB := aB.gn aE; replace aC := aC.gn aE; replace aD := aD.gn aE; clear aE aX aW
  refine AtH.rk aJ aU [0, 1, 3, 4, 5] 4 [(14, .int .u64 (gI t k)), (10, .pointer (some ((⟨w.heap.size, 0, none⟩ : Addr).add ((k : Int).toNat * 1)))), (9, .int .i64 (k))] (.b k 4 <| .b k 4 <| .l (CsC_at aO 0 rfl) <| .n) (fun bU aY => ?_)
  clear aU
  refine AtH.all [2] 3 κ (by simp) ⟨?_, trivial⟩
  refine OneH.seq aY [[.ld (.int .u64 (gI xs k))]] [(11, .int .u64 (gI xs k))] aP [(aP.cell? ((⟨w.heap.size, 0, none⟩ : Addr).add ((k : Int).toNat * 1)) = some (.int .u64 (gI xs k)))] _ rfl κ κ ⟨(Bx.arrM (f := wV) (0 : Int) aB k ω ω), trivial⟩ (fun bV bG bH aZ => ?_)
  obtain rfl : aP = bG := bH.symm
  clear aY
  refine ⟨aJ, ?_⟩
  refine AtH.rk aJ aZ [6] 2 [(15, .int .u64 (orW (gI xs k) (gI t k)))] (.v 15 (show (.int .u64 (IntKind.u64.wrap ((BitVec.ofInt 64 (gI xs k) ||| BitVec.ofInt 64 (gI t k)).toNat : Int)) : Value) = .int .u64 (orW (gI xs k) (gI t k)) from (congrArg (Value.int .u64) (or64 (by first | exact hs.2 _ | exact ht.2 _ | exact oneW_W ω ω | exact mixW_W hmx ω ω hs) (by first | exact hs.2 _ | exact ht.2 _ | exact oneW_W ω ω | exact mixW_W hmx ω ω hs)))) <| .n) (fun bW bA => ?_)
  clear aZ
  refine AtH.rk aJ bA [7] 1 [(16, .pointer (some ((⟨w.heap.size, 0, none⟩ : Addr).add ((k : Int).toNat * 1))))] (.b k 4 <| .n) (fun bX bB => ?_)
  clear bA
  refine AtH.all [8] 0 κ (by simp) ⟨?_, trivial⟩
  refine OneH.act bB _ rfl (storeArrM (f := wV) (t := 42) (b := w.heap.size) (i := k) (x := orW (gI xs k) (gI t k)) (v := .int .u64 (orW (gI xs k) (gI t k))) κ rfl rfl κ aB ω ω) ?_
  rintro d_ v_ bY ⟨rfl, aF, bI⟩
  have bC := aJ.gr' aF (by rw [aO]; exact ⟨(by simp only [add_block]; omega), trivial⟩)
  refine ⟨_, rfl, fun bZ bD => ⟨bC, ?_⟩⟩
  clear bB; have cA : ((xs).set (k : Int).toNat (orW (gI xs k) (gI t k))).length = (xs : List Int).length := List.length_set; have := aF.size; replace aA := aA.gr aF (fun k h => by injection h; omega); replace aC := aC.gb aF ω; replace aD := aD.gb aF ω; clear aB aF
  refine AtH.done κ ?_
  clear bC
  refine b_n ?_
  refine t_n ?_
  refine At.start ?_
  refine At.rk bD 2 [(6, .int .i64 (k + 1))] (.w 17 (k + 1) <| .n) (fun cB bJ => ?_)
  clear bD
  refine At.dn ?_
  exact ⟨_, ω, (k + 1), (xs).set (k : Int).toNat (orW (gI xs k) (gI t k)), rfl, bJ.sb, aA, bI, aC, aD, ω, ω, ω, (mixW_next hmx ω ω (by rw [mixW_at hmx ω ω]))⟩
 have cC := of_decide_eq_false aN
 refine wp_exit ?_
 refine t_e ?_
 clear hm34
 refine t_e ?_
 refine b_e ?_
 refine t_n ?_
 refine sqs ?_
 refine At.rk aI 1 [(18, .agg ((xs : List Int).map wV).toArray)] (.p (show ((xs : List Int).map wV).length = 4 from ((List.length_map _).trans σ)) <| .p aB.whole <| .o (.cs ((xs : List Int).map wV)) <| .n) (fun cD bE => ?_)
 clear aI
 refine At.act bE (storeBlk (t := 44) (b := w9.heap.size) (n := 4) (cs' := ((xs : List Int).map wV)) κ κ ((List.length_map _).trans σ) oneW_ ((show ((xs : List Int).map wV).length = 4 from ((List.length_map _).trans σ)).trans (show ((List.replicate 4 (0 : Int) : List Int).map wV).length = 4 from len_P).symm) aD) ?_
 rintro d_ v_ cE ⟨rfl, aK, bK⟩
 refine ⟨_, rfl, fun cF bL => ?_⟩
 clear bE; have := aK.size; replace aA := aA.gr aK (fun k h => by injection h; omega); replace aB := aB.gb aK ω; replace aC := aC.gb aK ω; clear aD aK
 refine At.dn ?_
 refine wp_ret ?_
 refine retB_ bL (sl := 4) (cs := ((xs : List Int).map wV)) (m := 4) rfl κ κ ((List.length_map _).trans σ) bK ?_
 exact ⟨ret_map (mixW_end hmx ω), aA⟩
set_option maxHeartbeats 4000000 in
theorem and_any {s : List Int} {t : List Int} {w : World} (hs : OkW s) (ht : OkW t) :
    Calls Tryd.prog 26 #[.agg ((s : List Int).map wV).toArray, .agg ((t : List Int).map wV).toArray] w fun e w' => e = .returned (.agg (((ofZW (fun j => andW (gI s j) (gI t j)) : List Int)).map wV).toArray) ∧ Ext w w' := by
 have hls := hs.1; have hlt := ht.1
 refine enter_ (args := [.agg ((s : List Int).map wV).toArray, .agg ((t : List Int).map wV).toArray]) Tryd.func26 rfl Tryd.ntmps26 (Nat.le_of_ble_eq_true rfl) (fun act0 f0 => ?_)
 have e0 : Ext w w := Ext.refl w
 refine sqs ?_
 refine At.bx f0 2 ((s : List Int).map wV) 44 (fun w1 g5 bx6 act4 f3 => ?_)
 clear f0; have := g5.size; replace e0 := e0.gn g5; have := bx6.lt; clear g5
 refine At.bx f3 3 ((t : List Int).map wV) 44 (fun w9 aL aG bM aQ => ?_)
 clear f3; have := aL.size; replace e0 := e0.gn aL; replace bx6 := bx6.gn aL; have := aG.lt; clear aL
 refine At.bx aQ 4 ((List.replicate 4 (0 : Int) : List Int).map wV) 44 (fun bN aH aM bO aR => ?_)
 clear aQ; have := aH.size; replace e0 := e0.gn aH; replace bx6 := bx6.gn aH; replace aG := aG.gn aH; have := aM.lt; clear aH
 refine At.dn ?_
 refine wp_seq ?_
 refine sqs ?_
 refine At.rk aR 1 [(6, .int .i64 (0))] .n (fun bP aS => ?_)
 clear aR
 refine At.dn ?_
 refine wp_block ?_
 refine loop_g (fun (m_ : Nat) a_ w_ => ∃ (k : Int) (xs : List Int), m_ = (4 - k).toNat ∧ (Frm 19 a_ [(6, .int .i64 (k)), (4, pt w9.heap.size 0), (3, pt w1.heap.size 0), (2, pt w.heap.size 0)]) ∧ (Ext w w_) ∧ (Bx w_ (w.heap.size) ((xs : List Int).map wV) 44) ∧ (Bx w_ (w1.heap.size) ((t : List Int).map wV) 44) ∧ (Bx w_ (w9.heap.size) ((List.replicate 4 (0 : Int) : List Int).map wV) 44) ∧ (0 ≤ k) ∧ (k ≤ 4) ∧ (xs.length = 4) ∧ (MixW s xs (fun j => andW (gI s j) (gI t j)) k)) _ ⟨0, s, rfl, aS.sb, e0, bx6, aG, aM, ω, ω, ω, (mixW_0 hls)⟩ ?_
 clear aS; clear bx6; clear aG; clear aM; clear e0
 intro m_ bQ bF ⟨k, xs, hm34, aT, aA, aB, aC, aD, i39, i40, i41, hmx⟩
 have := aA.size; have := aB.lt; have := aC.lt; have := aD.lt
 refine sqs ?_
 refine At.rk aT 1 [(7, .bool (decide ((k : Int) < 4)))] .n (fun bR aI => ?_)
 clear aT
 refine At.dn ?_
 refine wp_seq ?_
 refine cond_S aI (t := decide ((k : Int) < 4)) rfl (fun aN => ?_) (fun aN => ?_)
 ·have bS := of_decide_eq_true aN
  refine wp_skip ?_
  refine t_n ?_
  refine wp_seq ?_
  refine wp_block ?_
  refine sqs ?_
  refine At.rk aI 2 [(5, .int .i64 (k))] .n (fun bT aU => ?_)
  clear aI
  refine At.dn ?_
  obtain ⟨aV, aO⟩ : ∃ c : List (Addr × Value), c = [(((⟨w1.heap.size, 0, none⟩ : Addr).add ((k : Int).toNat * 1)), (.int .u64 (gI t k)))] := ⟨_, rfl⟩
  have aW : HoldsC aV bF := by rw [aO]; exact ⟨(Bx.arrM (f := wV) (0 : Int) aC k ω ω), trivial⟩
  refine AtH.start aV 9 _ κ rfl rfl (fun aP aX => ?_)
  have aE := gr_drew aX; have aJ := aW.gr aE; have := aE.size; replace aA := aA.gn aE; replace aB := aB.gn aE; replace aC := aC.gn aE; replace aD := aD.gn aE; clear aE aX aW
  refine AtH.rk aJ aU [0, 1, 3, 4, 5] 4 [(14, .int .u64 (gI t k)), (10, .pointer (some ((⟨w.heap.size, 0, none⟩ : Addr).add ((k : Int).toNat * 1)))), (9, .int .i64 (k))] (.b k 4 <| .b k 4 <| .l (CsC_at aO 0 rfl) <| .n) (fun bU aY => ?_)
  clear aU
  refine AtH.all [2] 3 κ (by simp) ⟨?_, trivial⟩
  refine OneH.seq aY [[.ld (.int .u64 (gI xs k))]] [(11, .int .u64 (gI xs k))] aP [(aP.cell? ((⟨w.heap.size, 0, none⟩ : Addr).add ((k : Int).toNat * 1)) = some (.int .u64 (gI xs k)))] _ rfl κ κ ⟨(Bx.arrM (f := wV) (0 : Int) aB k ω ω), trivial⟩ (fun bV bG bH aZ => ?_)
  obtain rfl : aP = bG := bH.symm
  clear aY
  refine ⟨aJ, ?_⟩
  refine AtH.rk aJ aZ [6] 2 [(15, .int .u64 (andW (gI xs k) (gI t k)))] (.v 15 (show (.int .u64 (IntKind.u64.wrap ((BitVec.ofInt 64 (gI xs k) &&& BitVec.ofInt 64 (gI t k)).toNat : Int)) : Value) = .int .u64 (andW (gI xs k) (gI t k)) from (congrArg (Value.int .u64) (and64 (by first | exact hs.2 _ | exact ht.2 _ | exact oneW_W ω ω | exact mixW_W hmx ω ω hs) (by first | exact hs.2 _ | exact ht.2 _ | exact oneW_W ω ω | exact mixW_W hmx ω ω hs)))) <| .n) (fun bW bA => ?_)
  clear aZ
  refine AtH.rk aJ bA [7] 1 [(16, .pointer (some ((⟨w.heap.size, 0, none⟩ : Addr).add ((k : Int).toNat * 1))))] (.b k 4 <| .n) (fun bX bB => ?_)
  clear bA
  refine AtH.all [8] 0 κ (by simp) ⟨?_, trivial⟩
  refine OneH.act bB _ rfl (storeArrM (f := wV) (t := 42) (b := w.heap.size) (i := k) (x := andW (gI xs k) (gI t k)) (v := .int .u64 (andW (gI xs k) (gI t k))) κ rfl rfl κ aB ω ω) ?_
  rintro d_ v_ bY ⟨rfl, aF, bI⟩
  have bC := aJ.gr' aF (by rw [aO]; exact ⟨(by simp only [add_block]; omega), trivial⟩)
  refine ⟨_, rfl, fun bZ bD => ⟨bC, ?_⟩⟩
  clear bB; have cA : ((xs).set (k : Int).toNat (andW (gI xs k) (gI t k))).length = (xs : List Int).length := List.length_set; have := aF.size; replace aA := aA.gr aF (fun k h => by injection h; omega); replace aC := aC.gb aF ω; replace aD := aD.gb aF ω; clear aB aF
  refine AtH.done κ ?_
  clear bC
  refine b_n ?_
  refine t_n ?_
  refine At.start ?_
  refine At.rk bD 2 [(6, .int .i64 (k + 1))] (.w 17 (k + 1) <| .n) (fun cB bJ => ?_)
  clear bD
  refine At.dn ?_
  exact ⟨_, ω, (k + 1), (xs).set (k : Int).toNat (andW (gI xs k) (gI t k)), rfl, bJ.sb, aA, bI, aC, aD, ω, ω, ω, (mixW_next hmx ω ω (by rw [mixW_at hmx ω ω]))⟩
 have cC := of_decide_eq_false aN
 refine wp_exit ?_
 refine t_e ?_
 clear hm34
 refine t_e ?_
 refine b_e ?_
 refine t_n ?_
 refine sqs ?_
 refine At.rk aI 1 [(18, .agg ((xs : List Int).map wV).toArray)] (.p (show ((xs : List Int).map wV).length = 4 from ((List.length_map _).trans σ)) <| .p aB.whole <| .o (.cs ((xs : List Int).map wV)) <| .n) (fun cD bE => ?_)
 clear aI
 refine At.act bE (storeBlk (t := 44) (b := w9.heap.size) (n := 4) (cs' := ((xs : List Int).map wV)) κ κ ((List.length_map _).trans σ) oneW_ ((show ((xs : List Int).map wV).length = 4 from ((List.length_map _).trans σ)).trans (show ((List.replicate 4 (0 : Int) : List Int).map wV).length = 4 from len_P).symm) aD) ?_
 rintro d_ v_ cE ⟨rfl, aK, bK⟩
 refine ⟨_, rfl, fun cF bL => ?_⟩
 clear bE; have := aK.size; replace aA := aA.gr aK (fun k h => by injection h; omega); replace aB := aB.gb aK ω; replace aC := aC.gb aK ω; clear aD aK
 refine At.dn ?_
 refine wp_ret ?_
 refine retB_ bL (sl := 4) (cs := ((xs : List Int).map wV)) (m := 4) rfl κ κ ((List.length_map _).trans σ) bK ?_
 exact ⟨ret_map (mixW_end hmx ω), aA⟩
set_option maxHeartbeats 4000000 in
theorem minus_any {s : List Int} {t : List Int} {w : World} (hs : OkW s) (ht : OkW t) :
    Calls Tryd.prog 42 #[.agg ((s : List Int).map wV).toArray, .agg ((t : List Int).map wV).toArray] w fun e w' => e = .returned (.agg (((ofZW (fun j => notW (gI s j) (gI t j)) : List Int)).map wV).toArray) ∧ Ext w w' := by
 have hls := hs.1; have hlt := ht.1
 refine enter_ (args := [.agg ((s : List Int).map wV).toArray, .agg ((t : List Int).map wV).toArray]) Tryd.func42 rfl Tryd.ntmps42 (Nat.le_of_ble_eq_true rfl) (fun act0 f0 => ?_)
 have e0 : Ext w w := Ext.refl w
 refine sqs ?_
 refine At.bx f0 2 ((s : List Int).map wV) 44 (fun w1 g5 bx6 act4 f3 => ?_)
 clear f0; have := g5.size; replace e0 := e0.gn g5; have := bx6.lt; clear g5
 refine At.bx f3 3 ((t : List Int).map wV) 44 (fun w9 aL aG bM aQ => ?_)
 clear f3; have := aL.size; replace e0 := e0.gn aL; replace bx6 := bx6.gn aL; have := aG.lt; clear aL
 refine At.bx aQ 4 ((List.replicate 4 (0 : Int) : List Int).map wV) 44 (fun bN aH aM bO aR => ?_)
 clear aQ; have := aH.size; replace e0 := e0.gn aH; replace bx6 := bx6.gn aH; replace aG := aG.gn aH; have := aM.lt; clear aH
 refine At.dn ?_
 refine wp_seq ?_
 refine sqs ?_
 refine At.rk aR 1 [(6, .int .i64 (0))] .n (fun bP aS => ?_)
 clear aR
 refine At.dn ?_
 refine wp_block ?_
 refine loop_g (fun (m_ : Nat) a_ w_ => ∃ (k : Int) (xs : List Int), m_ = (4 - k).toNat ∧ (Frm 19 a_ [(6, .int .i64 (k)), (4, pt w9.heap.size 0), (3, pt w1.heap.size 0), (2, pt w.heap.size 0)]) ∧ (Ext w w_) ∧ (Bx w_ (w.heap.size) ((xs : List Int).map wV) 44) ∧ (Bx w_ (w1.heap.size) ((t : List Int).map wV) 44) ∧ (Bx w_ (w9.heap.size) ((List.replicate 4 (0 : Int) : List Int).map wV) 44) ∧ (0 ≤ k) ∧ (k ≤ 4) ∧ (xs.length = 4) ∧ (MixW s xs (fun j => notW (gI s j) (gI t j)) k)) _ ⟨0, s, rfl, aS.sb, e0, bx6, aG, aM, ω, ω, ω, (mixW_0 hls)⟩ ?_
 clear aS; clear bx6; clear aG; clear aM; clear e0
 intro m_ bQ bF ⟨k, xs, hm34, aT, aA, aB, aC, aD, i39, i40, i41, hmx⟩
 have := aA.size; have := aB.lt; have := aC.lt; have := aD.lt
 refine sqs ?_
 refine At.rk aT 1 [(7, .bool (decide ((k : Int) < 4)))] .n (fun bR aI => ?_)
 clear aT
 refine At.dn ?_
 refine wp_seq ?_
 refine cond_S aI (t := decide ((k : Int) < 4)) rfl (fun aN => ?_) (fun aN => ?_)
 ·have bS := of_decide_eq_true aN
  refine wp_skip ?_
  refine t_n ?_
  refine wp_seq ?_
  refine wp_block ?_
  refine sqs ?_
  refine At.rk aI 2 [(5, .int .i64 (k))] .n (fun bT aU => ?_)
  clear aI
  refine At.dn ?_
  obtain ⟨aV, aO⟩ : ∃ c : List (Addr × Value), c = [(((⟨w1.heap.size, 0, none⟩ : Addr).add ((k : Int).toNat * 1)), (.int .u64 (gI t k)))] := ⟨_, rfl⟩
  have aW : HoldsC aV bF := by rw [aO]; exact ⟨(Bx.arrM (f := wV) (0 : Int) aC k ω ω), trivial⟩
  refine AtH.start aV 9 _ κ rfl rfl (fun aP aX => ?_)
  have aE := gr_drew aX; have aJ := aW.gr aE; have := aE.size; replace aA := aA.gn aE; replace aB := aB.gn aE; replace aC := aC.gn aE; replace aD := aD.gn aE; clear aE aX aW
  refine AtH.rk aJ aU [0, 1, 3, 4, 5] 4 [(14, .int .u64 (gI t k)), (10, .pointer (some ((⟨w.heap.size, 0, none⟩ : Addr).add ((k : Int).toNat * 1)))), (9, .int .i64 (k))] (.b k 4 <| .b k 4 <| .l (CsC_at aO 0 rfl) <| .n) (fun bU aY => ?_)
  clear aU
  refine AtH.all [2] 3 κ (by simp) ⟨?_, trivial⟩
  refine OneH.seq aY [[.ld (.int .u64 (gI xs k))]] [(11, .int .u64 (gI xs k))] aP [(aP.cell? ((⟨w.heap.size, 0, none⟩ : Addr).add ((k : Int).toNat * 1)) = some (.int .u64 (gI xs k)))] _ rfl κ κ ⟨(Bx.arrM (f := wV) (0 : Int) aB k ω ω), trivial⟩ (fun bV bG bH aZ => ?_)
  obtain rfl : aP = bG := bH.symm
  clear aY
  refine ⟨aJ, ?_⟩
  refine AtH.rk aJ aZ [6] 2 [(15, .int .u64 (notW (gI xs k) (gI t k)))] (.v 15 (show (.int .u64 (IntKind.u64.wrap ((BitVec.ofInt 64 (gI xs k) &&& ~~~ (BitVec.ofInt 64 (gI t k))).toNat : Int)) : Value) = .int .u64 (notW (gI xs k) (gI t k)) from (congrArg (Value.int .u64) (andNot64 (by first | exact hs.2 _ | exact ht.2 _ | exact oneW_W ω ω | exact mixW_W hmx ω ω hs) (by first | exact hs.2 _ | exact ht.2 _ | exact oneW_W ω ω | exact mixW_W hmx ω ω hs)))) <| .n) (fun bW bA => ?_)
  clear aZ
  refine AtH.rk aJ bA [7] 1 [(16, .pointer (some ((⟨w.heap.size, 0, none⟩ : Addr).add ((k : Int).toNat * 1))))] (.b k 4 <| .n) (fun bX bB => ?_)
  clear bA
  refine AtH.all [8] 0 κ (by simp) ⟨?_, trivial⟩
  refine OneH.act bB _ rfl (storeArrM (f := wV) (t := 42) (b := w.heap.size) (i := k) (x := notW (gI xs k) (gI t k)) (v := .int .u64 (notW (gI xs k) (gI t k))) κ rfl rfl κ aB ω ω) ?_
  rintro d_ v_ bY ⟨rfl, aF, bI⟩
  have bC := aJ.gr' aF (by rw [aO]; exact ⟨(by simp only [add_block]; omega), trivial⟩)
  refine ⟨_, rfl, fun bZ bD => ⟨bC, ?_⟩⟩
  clear bB; have cA : ((xs).set (k : Int).toNat (notW (gI xs k) (gI t k))).length = (xs : List Int).length := List.length_set; have := aF.size; replace aA := aA.gr aF (fun k h => by injection h; omega); replace aC := aC.gb aF ω; replace aD := aD.gb aF ω; clear aB aF
  refine AtH.done κ ?_
  clear bC
  refine b_n ?_
  refine t_n ?_
  refine At.start ?_
  refine At.rk bD 2 [(6, .int .i64 (k + 1))] (.w 17 (k + 1) <| .n) (fun cB bJ => ?_)
  clear bD
  refine At.dn ?_
  exact ⟨_, ω, (k + 1), (xs).set (k : Int).toNat (notW (gI xs k) (gI t k)), rfl, bJ.sb, aA, bI, aC, aD, ω, ω, ω, (mixW_next hmx ω ω (by rw [mixW_at hmx ω ω]))⟩
 have cC := of_decide_eq_false aN
 refine wp_exit ?_
 refine t_e ?_
 clear hm34
 refine t_e ?_
 refine b_e ?_
 refine t_n ?_
 refine sqs ?_
 refine At.rk aI 1 [(18, .agg ((xs : List Int).map wV).toArray)] (.p (show ((xs : List Int).map wV).length = 4 from ((List.length_map _).trans σ)) <| .p aB.whole <| .o (.cs ((xs : List Int).map wV)) <| .n) (fun cD bE => ?_)
 clear aI
 refine At.act bE (storeBlk (t := 44) (b := w9.heap.size) (n := 4) (cs' := ((xs : List Int).map wV)) κ κ ((List.length_map _).trans σ) oneW_ ((show ((xs : List Int).map wV).length = 4 from ((List.length_map _).trans σ)).trans (show ((List.replicate 4 (0 : Int) : List Int).map wV).length = 4 from len_P).symm) aD) ?_
 rintro d_ v_ cE ⟨rfl, aK, bK⟩
 refine ⟨_, rfl, fun cF bL => ?_⟩
 clear bE; have := aK.size; replace aA := aA.gr aK (fun k h => by injection h; omega); replace aB := aB.gb aK ω; replace aC := aC.gb aK ω; clear aD aK
 refine At.dn ?_
 refine wp_ret ?_
 refine retB_ bL (sl := 4) (cs := ((xs : List Int).map wV)) (m := 4) rfl κ κ ((List.length_map _).trans σ) bK ?_
 exact ⟨ret_map (mixW_end hmx ω), aA⟩
set_option maxHeartbeats 4000000 in
theorem has_any {s : List Int} {n : Int} {w : World} (hs : OkW s) :
    Calls Tryd.prog 23 #[.agg ((s : List Int).map wV).toArray, .int .i64 (n)] w fun e w' => e = .returned (.bool (hasW s n)) ∧ Ext w w' := by
 have hls := hs.1
 refine enter_ (args := [.agg ((s : List Int).map wV).toArray, .int .i64 (n)]) Tryd.func23 rfl Tryd.ntmps23 (Nat.le_of_ble_eq_true rfl) (fun act0 f0 => ?_)
 have e0 : Ext w w := Ext.refl w
 refine sqs ?_
 refine At.bx f0 2 ((s : List Int).map wV) 44 (fun w1 g5 bx6 act4 f3 => ?_)
 clear f0; have := g5.size; replace e0 := e0.gn g5; have := bx6.lt; clear g5
 refine At.rk f3 1 [] .n (fun aF f9 => ?_)
 clear f3
 refine At.dn ?_
 refine sqs ?_
 rcases Bool.eq_false_or_eq_true (decide ((n : Int) ≥ 0)) with aA | aA
 ·have aG := of_decide_eq_true aA
  rcases Bool.eq_false_or_eq_true (decide ((n : Int) < 256)) with aB | aB
  ·have aH := of_decide_eq_true aB
   refine At.rk f9 19 [(4, .bool ((IntKind.u64.wrap ((BitVec.ofInt 64 ((gI s ((n : Int) / 64) : Int).fdiv (2 ^ (min ((n : Int) % 64 : Int).toNat IntKind.u64.bits))) &&& BitVec.ofInt 64 1).toNat : Int) : Int) == 1))] (.e 7 aA <| .e 11 aB <| .p (show 0 ≤ (6 : Int) from ω) <| .v 13 (show (.int .i64 ((n : Int).fdiv (2 ^ (min (6 : Int).toNat IntKind.i64.bits))) : Value) = .int .i64 ((n : Int) / 64) from (congrArg (Value.int .i64) (shr6 _))) <| .b ((n : Int) / 64) 4 <| .l (Bx.arrM (f := wV) (0 : Int) bx6 ((n : Int) / 64) ω ω) <| .v 17 (show (.int .i64 (IntKind.i64.wrap ((BitVec.ofInt 64 n &&& BitVec.ofInt 64 63).toNat : Int)) : Value) = .int .i64 ((n : Int) % 64) from (congrArg (Value.int .i64) (and63 ω ω))) <| .v 18 (show (.int .u64 (IntKind.u64.wrap ((n : Int) % 64)) : Value) = .int .u64 ((n : Int) % 64) from (wu64 ω ω)) <| .p (show 0 ≤ ((n : Int) % 64 : Int) from ω) <| .n) (fun aI aC => ?_)
   clear f9
   refine At.dn ?_
   refine wp_ret ?_
   refine ret_ aC [] [.bool ((IntKind.u64.wrap ((BitVec.ofInt 64 ((gI s ((n : Int) / 64) : Int).fdiv (2 ^ (min ((n : Int) % 64 : Int).toNat IntKind.u64.bits))) &&& BitVec.ofInt 64 1).toNat : Int) : Int) == 1)] [] κ trivial ?_
   exact ⟨ret_eq (congrArg Value.bool (by first | exact hasW_yes hs ω ω | exact hasW_no ω)), e0⟩
  have aJ := of_decide_eq_false aB
  refine At.rk f9 19 [(4, .bool false)] (.e 7 aA <| .e 11 aB <| .n) (fun aK aD => ?_)
  clear f9
  refine At.dn ?_
  refine wp_ret ?_
  refine ret_ aD [] [.bool false] [] κ trivial ?_
  exact ⟨ret_eq (congrArg Value.bool (by first | exact hasW_yes hs ω ω | exact hasW_no ω)), e0⟩
 have aL := of_decide_eq_false aA
 refine At.rk f9 19 [(4, .bool false)] (.e 7 aA <| .n) (fun aM aE => ?_)
 clear f9
 refine At.dn ?_
 refine wp_ret ?_
 refine ret_ aE [] [.bool false] [] κ trivial ?_
 exact ⟨ret_eq (congrArg Value.bool (by first | exact hasW_yes hs ω ω | exact hasW_no ω)), e0⟩
end Go.Proofs.YtplpgfcjjnaigaaDoor
namespace Go.Proofs.YtplpgfcjjnaigaaDoor
open Go Go.RowKit
set_option maxHeartbeats 4000000 in
theorem of_any {Aa : Option Addr} {ca : Nat} {la : List Int} {w : World} (ra : RdI w 0 w.heap.size Aa la) :
    Calls Tryd.prog 22 #[.slice Aa la.length ca] w fun e w' => e = .returned (.agg (((ofW la : List Int)).map wV).toArray) ∧ Ext w w' := by
 have hla := ra.len
 refine enter_ (args := [.slice Aa la.length ca]) Tryd.func22 rfl Tryd.ntmps22 (Nat.le_of_ble_eq_true rfl) (fun act0 f0 => ?_)
 have e0 : Ext w w := Ext.refl w
 refine sqs ?_
 refine At.bx f0 2 ((List.replicate 4 (0 : Int) : List Int).map wV) 44 (fun w1 g5 bx6 act4 f3 => ?_)
 clear f0; have := g5.size; replace e0 := e0.gn g5; have r9 := ra.gn g5; clear ra; have := bx6.lt; clear g5
 refine At.dn ?_
 refine sqs ?_
 refine At.bx f3 3 ((List.replicate 4 (0 : Int) : List Int).map wV) 44 (fun aZ aF aJ bA aL => ?_)
 clear f3; have := aF.size; replace e0 := e0.gn aF; replace r9 := r9.gn aF; replace bx6 := bx6.gn aF; have := aJ.lt; clear aF
 refine At.dn ?_
 refine wp_seq ?_
 refine sqs ?_
 refine At.rk aL 3 [(8, .int .i64 (0)), (7, .int .i64 (((la.length : Nat) : Int))), (6, .slice Aa la.length ca)] .n (fun bB aM => ?_)
 clear aL
 refine At.dn ?_
 refine wp_block ?_
 refine loop_g (fun (m_ : Nat) a_ w_ => ∃ (k : Int) (xs : List Int), m_ = ((la.length : Int) - k).toNat ∧ (Frm 17 a_ [(8, .int .i64 (k)), (7, .int .i64 (((la.length : Nat) : Int))), (6, .slice Aa la.length ca), (3, pt w1.heap.size 0), (2, pt w.heap.size 0)]) ∧ (Ext w w_) ∧ (RdI w_ 0 w.heap.size Aa la) ∧ (Bx w_ (w.heap.size) ((List.replicate 4 (0 : Int) : List Int).map wV) 44) ∧ (Bx w_ (w1.heap.size) ((xs : List Int).map wV) 44) ∧ (0 ≤ k) ∧ (k ≤ (la.length : Int)) ∧ (OkW xs) ∧ (xs = ofW (la.take k.toNat)) ∧ (xs.length = 4)) _ ⟨0, List.replicate 4 (0 : Int), rfl, aM.sb, e0, r9, bx6, aJ, ω, ω, okW_0, rfl, rfl⟩ ?_
 clear aM; clear r9; clear bx6; clear aJ; clear e0
 intro m_ bC bD ⟨k, xs, hm26, aN, aA, aC, aD, aB, i31, i32, hok, hxs, i33⟩
 have := aA.size; have := aD.lt; have := aB.lt
 refine sqs ?_
 refine At.rk aN 1 [(9, .bool (decide ((k : Int) < ((la.length : Nat) : Int))))] .n (fun bE aG => ?_)
 clear aN
 refine At.dn ?_
 refine wp_seq ?_
 refine cond_S aG (t := decide ((k : Int) < ((la.length : Nat) : Int))) rfl (fun aK => ?_) (fun aK => ?_)
 ·have bF := of_decide_eq_true aK
  refine wp_skip ?_
  refine t_n ?_
  refine wp_seq ?_
  refine wp_block ?_
  refine sqs ?_
  obtain ⟨bG, aT, _, _, aU⟩ := RdI.get aC (k) ω ω
  refine At.rk aG 3 [(5, .int .i64 (gI la (k)))] (.a k la.length aT <| .l aU <| .n) (fun bH aO => ?_)
  clear aG
  refine At.dn ?_
  refine At.start ?_
  refine At.rk aO 2 [(13, .int .i64 (gI la (k))), (12, .agg ((xs : List Int).map wV).toArray)] (.p (show ((xs : List Int).map wV).length = 4 from ((List.length_map _).trans σ)) <| .p aB.whole <| .o (.cs ((xs : List Int).map wV)) <| .n) (fun bI aP => ?_)
  clear aO
  refine At.cl aP (some 14) (with_any (s := xs) (n := gI la (k)) σ) ?_
  rintro e_ bJ ⟨rfl, he⟩
  refine ⟨_, rfl, _, rfl, fun bK aQ => ?_⟩
  clear aP; have aE := gr_ext he; have := aE.size; replace aA := aA.gn aE; replace aC := aC.gn aE; replace aD := aD.gn aE; replace aB := aB.gn aE; clear aE he
  refine At.act aQ (storeBlk (t := 44) (b := w1.heap.size) (n := 4) (cs' := ((withW xs (gI la (k)) : List Int).map wV)) κ κ ((List.length_map _).trans (okLen (okW_with σ))) oneW_ ((show ((withW xs (gI la (k)) : List Int).map wV).length = 4 from ((List.length_map _).trans (okLen (okW_with σ)))).trans (show ((xs : List Int).map wV).length = 4 from ((List.length_map _).trans σ)).symm) aB) ?_
  rintro d_ v_ bL ⟨rfl, aH, aV⟩
  refine ⟨_, rfl, fun bM aR => ?_⟩
  clear aQ; have := aH.size; replace aA := aA.gr aH (fun k h => by injection h; omega); replace aC := aC.gb aH ω; replace aD := aD.gb aH ω; clear aB aH
  refine At.done rfl ?_
  refine b_n ?_
  refine t_n ?_
  refine At.start ?_
  refine At.rk aR 2 [(8, .int .i64 (k + 1))] (.w 15 (k + 1) <| .n) (fun bN aW => ?_)
  clear aR
  refine At.dn ?_
  exact ⟨_, ω, (k + 1), withW xs (gI la (k)), rfl, aW.sb, aA, aC, aD, aV, ω, ω, (okW_with hok), (ofW_next hxs ω ω), (okW_with hok).1⟩
 have q63 := of_decide_eq_false aK
 refine wp_exit ?_
 refine t_e ?_
 clear hm26
 refine t_e ?_
 refine b_e ?_
 refine t_n ?_
 refine sqs ?_
 refine At.rk aG 1 [(16, .agg ((xs : List Int).map wV).toArray)] (.p (show ((xs : List Int).map wV).length = 4 from ((List.length_map _).trans σ)) <| .p aB.whole <| .o (.cs ((xs : List Int).map wV)) <| .n) (fun bO aS => ?_)
 clear aG
 refine At.act aS (storeBlk (t := 44) (b := w.heap.size) (n := 4) (cs' := ((xs : List Int).map wV)) κ κ ((List.length_map _).trans σ) oneW_ ((show ((xs : List Int).map wV).length = 4 from ((List.length_map _).trans σ)).trans (show ((List.replicate 4 (0 : Int) : List Int).map wV).length = 4 from len_P).symm) aD) ?_
 rintro d_ v_ bP ⟨rfl, aI, aX⟩
 refine ⟨_, rfl, fun bQ aY => ?_⟩
 clear aS; have := aI.size; replace aA := aA.gr aI (fun k h => by injection h; omega); replace aC := aC.gb aI ω; replace aB := aB.gb aI ω; clear aD aI
 refine At.dn ?_
 refine wp_ret ?_
 refine retB_ aY (sl := 2) (cs := ((xs : List Int).map wV)) (m := 4) rfl κ κ ((List.length_map _).trans σ) aX ?_
 exact ⟨ret_map (by rw [hxs, List.take_of_length_le ω]), aA⟩
end Go.Proofs.YtplpgfcjjnaigaaDoor
namespace Go.Proofs.YtplpgfcjjnaigaaDoor
open Go Go.RowKit
set_option maxHeartbeats 4000000 in
theorem full_any {n : Int} {w : World} (hn : -9223372036854775808 ≤ n ∧ n ≤ 9223372036854775807) :
    Calls Tryd.prog 44 #[.int .i64 (n)] w fun e w' => e = .returned (.agg (((fullW n : List Int)).map wV).toArray) ∧ Ext w w' := by
 refine enter_ (args := [.int .i64 (n)]) Tryd.func44 rfl Tryd.ntmps44 (Nat.le_of_ble_eq_true rfl) (fun act0 f0 => ?_)
 have e0 : Ext w w := Ext.refl w
 refine sqs ?_
 refine At.bx f0 2 ((List.replicate 4 (0 : Int) : List Int).map wV) 44 (fun w1 g5 bx6 act4 f3 => ?_)
 clear f0; have := g5.size; replace e0 := e0.gn g5; have := bx6.lt; clear g5
 refine At.dn ?_
 refine sqs ?_
 refine At.bx f3 3 ((List.replicate 4 (0 : Int) : List Int).map wV) 44 (fun w9 aF aJ bE aM => ?_)
 clear f3; have := aF.size; replace e0 := e0.gn aF; replace bx6 := bx6.gn aF; have := aJ.lt; clear aF
 refine At.dn ?_
 refine sqs ?_
 refine At.rk aM 3 [(0, .int .i64 (max n 0))] (.v 7 (show (.int .i64 (if 0 > n then 0 else n) : Value) = .int .i64 (max n 0) from (congrArg (Value.int .i64) (max_if _ _))) <| .n) (fun bF aN => ?_)
 clear aM
 refine At.dn ?_
 refine wp_seq ?_
 refine sqs ?_
 refine At.rk aN 1 [(8, .int .i64 (0))] .n (fun bG aO => ?_)
 clear aN
 refine At.dn ?_
 refine wp_block ?_
 refine loop_g (fun (m_ : Nat) a_ w_ => ∃ (k : Int) (xs : List Int), m_ = (4 - k).toNat ∧ (Frm 27 a_ [(8, .int .i64 (k)), (0, .int .i64 (max n 0)), (3, pt w1.heap.size 0), (2, pt w.heap.size 0)]) ∧ (Ext w w_) ∧ (Bx w_ (w.heap.size) ((List.replicate 4 (0 : Int) : List Int).map wV) 44) ∧ (Bx w_ (w1.heap.size) ((xs : List Int).map wV) 44) ∧ (0 ≤ k) ∧ (k ≤ 4) ∧ (xs.length = 4) ∧ (MixW (List.replicate 4 (0 : Int)) xs (fun j => lowW (if max n 0 > 256 then 64 else min (max (max n 0 - 64 * j) 0) 64)) k)) _ ⟨0, List.replicate 4 (0 : Int), rfl, aO.sb, e0, bx6, aJ, ω, ω, rfl, (mixW_0 rfl)⟩ ?_
 clear aO; clear bx6; clear aJ; clear e0
 intro m_ bH bI ⟨k, xs, hm26, aP, aA, aB, aC, i30, i31, i32, hmx⟩
 have := aA.size; have := aB.lt; have := aC.lt
 refine sqs ?_
 refine At.rk aP 1 [(9, .bool (decide ((k : Int) < 4)))] .n (fun bJ aD => ?_)
 clear aP
 refine At.dn ?_
 refine wp_seq ?_
 refine cond_S aD (t := decide ((k : Int) < 4)) rfl (fun aK => ?_) (fun aK => ?_)
 ·have bK := of_decide_eq_true aK
  refine wp_skip ?_
  refine t_n ?_
  refine wp_seq ?_
  refine wp_block ?_
  refine sqs ?_
  refine At.rk aD 2 [(4, .int .i64 (k))] .n (fun bL aQ => ?_)
  clear aD
  refine At.dn ?_
  refine sqs ?_
  refine At.rk aQ 7 [(5, .int .i64 (min (max ((max n 0) - (64 * k)) 0) 64))] (.w 13 (64 * k) <| .w 14 ((max n 0) - (64 * k)) <| .v 15 (show (.int .i64 (if 0 > ((max n 0) - (64 * k)) then 0 else ((max n 0) - (64 * k))) : Value) = .int .i64 (max ((max n 0) - (64 * k)) 0) from (congrArg (Value.int .i64) (max_if _ _))) <| .v 16 (show (.int .i64 (if 64 < (max ((max n 0) - (64 * k)) 0) then 64 else (max ((max n 0) - (64 * k)) 0)) : Value) = .int .i64 (min (max ((max n 0) - (64 * k)) 0) 64) from (congrArg (Value.int .i64) (min_if _ _))) <| .n) (fun bM aR => ?_)
  clear aQ
  refine At.dn ?_
  refine wp_seq ?_
  refine sqs ?_
  refine At.rk aR 2 [(18, .bool (decide ((max n 0 : Int) > 256)))] .n (fun bN aE => ?_)
  clear aR
  refine At.dn ?_
  refine cond_S aE (t := decide ((max n 0 : Int) > 256)) rfl (fun aL => ?_) (fun aL => ?_)
  ·have bO := of_decide_eq_true aL
   refine At.start ?_
   refine At.rk aE 1 [(5, .int .i64 (64))] .n (fun bP aS => ?_)
   clear aE
   refine At.dn ?_
   refine At.start ?_
   refine At.rk aS 6 [(24, .pointer (some ((⟨w1.heap.size, 0, none⟩ : Addr).add ((k : Int).toNat * 1)))), (23, .int .u64 (IntKind.u64.wrap ((IntKind.u64.wrap (1 * (2 ^ (min (64 : Int).toNat IntKind.u64.bits)))) - 1)))] (.v 21 (show (.int .u64 (IntKind.u64.wrap (64)) : Value) = .int .u64 (64) from (wu64 ω ω)) <| .p (show 0 ≤ (64 : Int) from ω) <| .b k 4 <| .n) (fun bQ aT => ?_)
   clear aS
   refine At.act aT (storeArrM (f := wV) (t := 42) (b := w1.heap.size) (i := k) (x := IntKind.u64.wrap ((IntKind.u64.wrap (1 * (2 ^ (min (64 : Int).toNat IntKind.u64.bits)))) - 1)) (v := .int .u64 (IntKind.u64.wrap ((IntKind.u64.wrap (1 * (2 ^ (min (64 : Int).toNat IntKind.u64.bits)))) - 1))) κ rfl rfl κ aC ω ω) ?_
   rintro d_ v_ bR ⟨rfl, aG, aY⟩
   refine ⟨_, rfl, fun bS aU => ?_⟩
   clear aT
   have bT : ((xs).set (k : Int).toNat (IntKind.u64.wrap ((IntKind.u64.wrap (1 * (2 ^ (min (64 : Int).toNat IntKind.u64.bits)))) - 1))).length = (xs : List Int).length := List.length_set
   have := aG.size; replace aA := aA.gr aG (fun k h => by injection h; omega); replace aB := aB.gb aG ω; clear aC aG
   refine At.done rfl ?_
   refine b_n ?_
   refine t_n ?_
   refine At.start ?_
   refine At.rk aU 2 [(8, .int .i64 (k + 1))] (.w 25 (k + 1) <| .n) (fun bU aZ => ?_)
   clear aU
   refine At.dn ?_
   exact ⟨_, ω, (k + 1), (xs).set (k : Int).toNat (IntKind.u64.wrap ((IntKind.u64.wrap (1 * (2 ^ (min (64 : Int).toNat IntKind.u64.bits)))) - 1)), rfl, aZ.sb, aA, aB, aY, ω, ω, ω, (mixW_next hmx ω ω ((shl_low ω ω).trans (congrArg lowW (by first | rw [if_pos ω] | rw [if_neg ω]))))⟩
  have bV := of_decide_eq_false aL
  refine wp_skip ?_
  refine t_n ?_
  refine At.start ?_
  refine At.rk aE 6 [(24, .pointer (some ((⟨w1.heap.size, 0, none⟩ : Addr).add ((k : Int).toNat * 1)))), (23, .int .u64 (IntKind.u64.wrap ((IntKind.u64.wrap (1 * (2 ^ (min (min (max ((max n 0) - (64 * k)) 0) 64 : Int).toNat IntKind.u64.bits)))) - 1)))] (.v 21 (show (.int .u64 (IntKind.u64.wrap (min (max ((max n 0) - (64 * k)) 0) 64)) : Value) = .int .u64 (min (max ((max n 0) - (64 * k)) 0) 64) from (wu64 ω ω)) <| .p (show 0 ≤ (min (max ((max n 0) - (64 * k)) 0) 64 : Int) from ω) <| .b k 4 <| .n) (fun bW aV => ?_)
  clear aE
  refine At.act aV (storeArrM (f := wV) (t := 42) (b := w1.heap.size) (i := k) (x := IntKind.u64.wrap ((IntKind.u64.wrap (1 * (2 ^ (min (min (max ((max n 0) - (64 * k)) 0) 64 : Int).toNat IntKind.u64.bits)))) - 1)) (v := .int .u64 (IntKind.u64.wrap ((IntKind.u64.wrap (1 * (2 ^ (min (min (max ((max n 0) - (64 * k)) 0) 64 : Int).toNat IntKind.u64.bits)))) - 1))) κ rfl rfl κ aC ω ω) ?_
  rintro d_ v_ bX ⟨rfl, aH, bA⟩
  refine ⟨_, rfl, fun bY aW => ?_⟩
  clear aV
  have bZ : ((xs).set (k : Int).toNat (IntKind.u64.wrap ((IntKind.u64.wrap (1 * (2 ^ (min (min (max ((max n 0) - (64 * k)) 0) 64 : Int).toNat IntKind.u64.bits)))) - 1))).length = (xs : List Int).length := List.length_set
  have := aH.size; replace aA := aA.gr aH (fun k h => by injection h; omega); replace aB := aB.gb aH ω; clear aC aH
  refine At.done rfl ?_
  refine b_n ?_
  refine t_n ?_
  refine At.start ?_
  refine At.rk aW 2 [(8, .int .i64 (k + 1))] (.w 25 (k + 1) <| .n) (fun cA bB => ?_)
  clear aW
  refine At.dn ?_
  exact ⟨_, ω, (k + 1), (xs).set (k : Int).toNat (IntKind.u64.wrap ((IntKind.u64.wrap (1 * (2 ^ (min (min (max ((max n 0) - (64 * k)) 0) 64 : Int).toNat IntKind.u64.bits)))) - 1)), rfl, bB.sb, aA, aB, bA, ω, ω, ω, (mixW_next hmx ω ω ((shl_low ω ω).trans (congrArg lowW (by first | rw [if_pos ω] | rw [if_neg ω]))))⟩
 have cB := of_decide_eq_false aK
 refine wp_exit ?_
 refine t_e ?_
 clear hm26
 refine t_e ?_
 refine b_e ?_
 refine t_n ?_
 refine sqs ?_
 refine At.rk aD 1 [(26, .agg ((xs : List Int).map wV).toArray)] (.p (show ((xs : List Int).map wV).length = 4 from ((List.length_map _).trans σ)) <| .p aC.whole <| .o (.cs ((xs : List Int).map wV)) <| .n) (fun cC aX => ?_)
 clear aD
 refine At.act aX (storeBlk (t := 44) (b := w.heap.size) (n := 4) (cs' := ((xs : List Int).map wV)) κ κ ((List.length_map _).trans σ) oneW_ ((show ((xs : List Int).map wV).length = 4 from ((List.length_map _).trans σ)).trans (show ((List.replicate 4 (0 : Int) : List Int).map wV).length = 4 from len_P).symm) aB) ?_
 rintro d_ v_ cD ⟨rfl, aI, bC⟩
 refine ⟨_, rfl, fun cE bD => ?_⟩
 clear aX; have := aI.size; replace aA := aA.gr aI (fun k h => by injection h; omega); replace aC := aC.gb aI ω; clear aB aI
 refine At.dn ?_
 refine wp_ret ?_
 refine retB_ bD (sl := 2) (cs := ((xs : List Int).map wV)) (m := 4) rfl κ κ ((List.length_map _).trans σ) bC ?_
 exact ⟨ret_map (mixW_end hmx ω), aA⟩
end Go.Proofs.YtplpgfcjjnaigaaDoor
namespace Go.Proofs.YtplpgfcjjnaigaaDoor
open Go Go.RowKit
set_option maxHeartbeats 4000000 in
theorem len_any {s : List Int} {w : World} (hs : OkW s) :
    Calls Tryd.prog 57 #[.agg ((s : List Int).map wV).toArray] w fun e w' => e = .returned (.int .i64 (lenW s)) ∧ Ext w w' := by
 have hls := hs.1
 refine enter_ (args := [.agg ((s : List Int).map wV).toArray]) Tryd.func57 rfl Tryd.ntmps57 (Nat.le_of_ble_eq_true rfl) (fun act0 f0 => ?_)
 have e0 : Ext w w := Ext.refl w
 refine sqs ?_
 refine At.bx f0 1 ((s : List Int).map wV) 44 (fun w1 g5 bx6 act4 f3 => ?_)
 clear f0; have := g5.size; replace e0 := e0.gn g5; have := bx6.lt; clear g5
 refine At.rk f3 1 [(2, .int .i64 (0))] .n (fun aO f9 => ?_)
 clear f3
 refine At.dn ?_
 refine sqs ?_
 refine At.rk f9 1 [(3, .int .i64 (0))] .n (fun aP aF => ?_)
 clear f9
 refine At.dn ?_
 refine wp_seq ?_
 refine sqs ?_
 refine At.rk aF 2 [(7, .int .i64 (0)), (6, .agg ((s : List Int).map wV).toArray)] (.p (show ((s : List Int).map wV).length = 4 from ((List.length_map _).trans σ)) <| .p bx6.whole <| .o (.cs ((s : List Int).map wV)) <| .n) (fun aQ aG => ?_)
 clear aF
 refine At.dn ?_
 refine wp_block ?_
 refine loop_g (fun (m_ : Nat) a_ w_ => ∃ (k : Int) (r : Int), m_ = (4 - k).toNat ∧ (Frm 16 a_ [(7, .int .i64 (k)), (3, .int .i64 (r)), (6, .agg ((s : List Int).map wV).toArray), (2, .int .i64 (0))]) ∧ (Ext w w_) ∧ (Bx w_ (w.heap.size) ((s : List Int).map wV) 44) ∧ (0 ≤ k) ∧ (k ≤ 4) ∧ (r = lenN s k.toNat) ∧ (0 ≤ r) ∧ (r ≤ 64 * k)) _ ⟨0, 0, rfl, aG.sb, e0, bx6, ω, ω, rfl, ω, ω⟩ ?_
 clear aG; clear bx6; clear e0
 intro m_ aR aS ⟨k, r, hm19, aH, aA, aC, i22, i23, hr, i24, i25⟩
 have := aA.size; have := aC.lt
 refine sqs ?_
 refine At.rk aH 1 [(8, .bool (decide ((k : Int) < 4)))] .n (fun aT aB => ?_)
 clear aH
 refine At.dn ?_
 refine wp_seq ?_
 refine cond_S aB (t := decide ((k : Int) < 4)) rfl (fun aE => ?_) (fun aE => ?_)
 ·have aU := of_decide_eq_true aE
  refine wp_skip ?_
  refine t_n ?_
  refine wp_seq ?_
  refine wp_block ?_
  refine sqs ?_
  refine At.rk aB 2 [(5, .int .u64 (gI s k))] (.b k 4 <| .p (show (((s : List Int).map wV).toArray : Array Value)[(k : Int).toNat * 1]? = some (.int .u64 (gI s k)) from (idxM wV (0 : Int) k ω (by have := len_4; omega))) <| .o (.ld (.int .u64 (gI s k))) <| .n) (fun aV aI => ?_)
  clear aB
  refine At.dn ?_
  refine At.start ?_
  refine At.rk aI 2 [(11, .int .u64 (gI s k)), (10, .int .i64 (r))] .n (fun aW aJ => ?_)
  clear aI
  refine At.cl aJ (some 12) (onesI (z := gI s k) (hs.2 _)) ?_
  rintro e_ aX ⟨rfl, he⟩
  have := onI_le (gI s k)
  refine ⟨_, rfl, _, rfl, fun aY aK => ?_⟩
  clear aJ; have aD := gr_ext he; have := aD.size; replace aA := aA.gn aD; replace aC := aC.gn aD; clear aD he
  refine At.rk aK 2 [(3, .int .i64 (r + (onI (gI s k))))] (.w 13 (r + (onI (gI s k))) <| .n) (fun aZ aL => ?_)
  clear aK
  refine At.done rfl ?_
  refine b_n ?_
  refine t_n ?_
  refine At.start ?_
  refine At.rk aL 2 [(7, .int .i64 (k + 1))] (.w 14 (k + 1) <| .n) (fun bA aM => ?_)
  clear aL
  refine At.dn ?_
  exact ⟨_, ω, (k + 1), (r + onI (gI s k)), rfl, aM.sb, aA, aC, ω, ω, (len_next hr ω), ω, ω⟩
 have bB := of_decide_eq_false aE
 refine wp_exit ?_
 refine t_e ?_
 clear hm19
 refine t_e ?_
 refine b_e ?_
 refine t_n ?_
 refine sqs ?_
 refine At.rk aB 2 [(2, .int .i64 (r))] .n (fun bC aN => ?_)
 clear aB
 refine At.dn ?_
 refine wp_ret ?_
 refine ret_ aN [] [.int .i64 (r)] [] κ trivial ?_
 exact ⟨ret_eq (congrArg (Value.int .i64) (len_end hr ω ω)), aA⟩
end Go.Proofs.YtplpgfcjjnaigaaDoor
namespace Go.Proofs.YtplpgfcjjnaigaaDoor
open Go Go.RowKit
set_option maxHeartbeats 4000000 in
theorem list_any {s : List Int} {w : World} (hs : OkW s) (rT : RdT w 0 w.heap.size) :
    Calls Tryd.prog 43 #[.agg ((s : List Int).map wV).toArray] w fun e w' => ∃ A c, e = .returned (.slice A ((lsD (fromW s) 256)).length c) ∧ Ext w w' ∧ OwnR w' (Sx w.heap.size []) A c 3 ((lsD (fromW s) 256) : List Int) := by
 have hls := hs.1
 refine enter_ (args := [.agg ((s : List Int).map wV).toArray]) Tryd.func43 rfl Tryd.ntmps43 (Nat.le_of_ble_eq_true rfl) (fun act0 f0 => ?_)
 have e0 : Ext w w := Ext.refl w
 refine sqs ?_
 refine At.bx f0 1 ((s : List Int).map wV) 44 (fun w1 g5 bx6 act4 f3 => ?_)
 clear f0; have := g5.size; replace e0 := e0.gn g5; have r9 := rT.gn g5; clear rT; have := bx6.lt; clear g5
 refine At.rk f3 1 [(2, .slice none 0 0)] .n (fun cC bC => ?_)
 clear f3
 refine At.dn ?_
 refine sqs ?_
 refine At.rk bC 1 [(6, .agg ((s : List Int).map wV).toArray)] (.p (show ((s : List Int).map wV).length = 4 from ((List.length_map _).trans σ)) <| .p bx6.whole <| .o (.cs ((s : List Int).map wV)) <| .n) (fun cD bD => ?_)
 clear bC
 refine At.cl bD (some 7) (len_any (s := s) σ) ?_
 rintro e_ aA ⟨rfl, he⟩
 have := lenW_le s
 refine ⟨_, rfl, _, rfl, fun cE bE => ?_⟩
 clear bD; have aL := gr_ext he; have := aL.size; replace e0 := e0.gn aL; replace r9 := r9.gn aL; replace bx6 := bx6.gn aL; clear aL he
 refine At.act bE (makeR (k1 := .i64) (k2 := .i64) (α := Int) (e := 3) (bytes := 8) (t := 22) (d := 8) (n := 0) (cap := lenW s) (0) κ rfl κ ω ω ω ω) ?_
 rintro d_ v_ cF ⟨rfl, rfl, aM, aQ⟩
 refine ⟨_, rfl, fun cG bF => ?_⟩
 clear bE; replace aQ := aQ (Sx (aA.heap.size) []) (Nat.le_refl _); have := aM.size; replace e0 := e0.gn aM; replace r9 := r9.gn aM; replace bx6 := bx6.gn aM; clear aM
 refine At.rk bF 1 [(3, .slice (some ⟨aA.heap.size, 0, none⟩) ((([] : List Int)).length) ((lenW s : Int).toNat))] .n (fun cH bG => ?_)
 clear bF
 refine At.dn ?_
 refine wp_seq ?_
 refine sqs ?_
 refine At.rk bG 2 [(10, .int .i64 (0)), (9, .agg ((s : List Int).map wV).toArray)] (.p (show ((s : List Int).map wV).length = 4 from ((List.length_map _).trans σ)) <| .p bx6.whole <| .o (.cs ((s : List Int).map wV)) <| .n) (fun cI bH => ?_)
 clear bG
 refine At.dn ?_
 refine wp_block ?_
 have bI := bH.as 3 (.slice (some ⟨aA.heap.size, 0, none⟩) ((([] : List Int)).length) ((lenW s : Int).toNat)) (.slice (some ⟨aA.heap.size, 0, none⟩) ((([] : List Int) : List Int).length) ((lenW s : Int).toNat)) rfl (slice_len (by first | rfl | omega | (simp; done) | (simp; omega)))
 clear bH
 refine loop_g (fun (m_ : Nat) a_ w_ => ∃ (i : Int) (xs : List Int) (aC : Option Addr) (aD : Nat), m_ = (4 - i).toNat ∧ (Frm 30 a_ [(3, .slice aC xs.length aD), (10, .int .i64 (i)), (9, .agg ((s : List Int).map wV).toArray), (2, .slice none 0 0)]) ∧ (Ext w w_) ∧ (RdT w_ 0 w.heap.size) ∧ (Bx w_ (w.heap.size) ((s : List Int).map wV) 44) ∧ (OwnR w_ (Sx (aA.heap.size) []) aC aD 3 (xs : List Int)) ∧ (0 ≤ i) ∧ (i ≤ 4) ∧ (xs = lsD (fromW s) (64 * i).toNat) ∧ (aA.heap.size ≤ w_.heap.size)) _ ⟨0, (([] : List Int) : List Int), some ⟨aA.heap.size, 0, none⟩, (lenW s : Int).toNat, rfl, bI.sb, e0, r9, bx6, aQ, ω, ω, rfl, ω⟩ ?_
 clear bI; clear r9; clear bx6; clear aQ; clear e0
 intro m_ cJ cK ⟨i, xs, aC, aD, hm42, bJ, aR, bK, aV, aW, i47, i48, hxs, i49⟩
 have := aR.size; have := aV.lt
 refine sqs ?_
 refine At.rk bJ 1 [(11, .bool (decide ((i : Int) < 4)))] .n (fun cL aN => ?_)
 clear bJ
 refine At.dn ?_
 refine wp_seq ?_
 refine cond_S aN (t := decide ((i : Int) < 4)) rfl (fun aX => ?_) (fun aX => ?_)
 ·have cM := of_decide_eq_true aX
  refine wp_skip ?_
  refine t_n ?_
  refine wp_seq ?_
  refine wp_block ?_
  refine sqs ?_
  refine At.rk aN 4 [(5, .int .u64 (gI s i)), (4, .int .i64 (i))] (.b i 4 <| .p (show (((s : List Int).map wV).toArray : Array Value)[(i : Int).toNat * 1]? = some (.int .u64 (gI s i)) from (idxM wV (0 : Int) i ω (by have := len_4; omega))) <| .o (.ld (.int .u64 (gI s i))) <| .n) (fun cN bL => ?_)
  clear aN
  refine At.dn ?_
  refine wp_block ?_
  have bM := bL.as 3 (.slice aC xs.length aD) (.slice aC ((xs : List Int).length) aD) rfl (slice_len (by first | rfl | omega | (simp; done) | (simp; omega))); clear bL
  refine loop_g (fun (m_ : Nat) a_ w_ => ∃ (v : Int) (c : Int) (ys : List Int) (aH : Option Addr) (aI : Nat), m_ = (64 - c).toNat ∧ (Frm 30 a_ [(3, .slice aH ys.length aI), (5, .int .u64 (v)), (4, .int .i64 (i)), (10, .int .i64 (i)), (9, .agg ((s : List Int).map wV).toArray), (2, .slice none 0 0)]) ∧ (Ext w w_) ∧ (RdT w_ 0 w.heap.size) ∧ (Bx w_ (w.heap.size) ((s : List Int).map wV) 44) ∧ (OwnR w_ (Sx (aA.heap.size) []) aH aI 3 (ys : List Int)) ∧ (0 ≤ c) ∧ (c ≤ 64) ∧ (RestW s i v c) ∧ (ys = lsD (fromW s) (64 * i + c).toNat) ∧ (aA.heap.size ≤ w_.heap.size)) _ ⟨(gI s i), 0, (xs : List Int), aC, aD, rfl, bM.sb, aR, bK, aV, aW, ω, ω, (rest_0 hs), (by rw [hxs, Int.add_zero]), ω⟩ ?_
  clear bM; clear bK; clear aV; clear aW; clear aR
  intro m_ cO cP ⟨v, c, ys, aH, aI, hm63, bN, aE, aF, aG, aB, i68, i69, hrw, hys, i70⟩
  have := aE.size; have := aG.lt; have hyl := ls_len (fromW s) (64 * i + c).toNat
  rw [← hys] at hyl
  have hrc := fun h_ : ¬ v = 0 => rest_tz hrw h_
  refine wp_seq ?_
  refine sqs ?_
  refine At.rk bN 2 [(15, .bool ((v : Int) != 0))] .n (fun cQ aO => ?_)
  clear bN
  refine At.dn ?_
  refine cond_S aO (t := (v : Int) != 0) rfl (fun aY => ?_) (fun aY => ?_)
  ·have cR := bne_iff_ne.1 aY
   refine wp_skip ?_
   refine t_n ?_
   refine wp_seq ?_
   refine wp_block ?_
   refine At.start ?_
   refine At.rk aO 4 [(23, .int .u64 (v)), (22, .int .i64 (64 * i)), (20, .slice aH ys.length aI)] (.w 22 (64 * i) <| .n) (fun cS bO => ?_)
   clear aO
   refine At.cl bO (some 24) (tzI_any (z := v) (by first | exact hs.2 _ | exact hrw.1 | assumption) (aF.wide (Nat.zero_le _) ω)) ?_
   rintro e_ aZ ⟨rfl, he⟩
   have := tz_lt (z := v) (by first | exact hs.2 _ | exact hrw.1 | assumption) ω
   refine ⟨_, rfl, _, rfl, fun cT bP => ?_⟩
   clear bO; have aJ := gr_ext he; have := aJ.size; replace aE := aE.gn aJ; replace aF := aF.gn aJ; replace aG := aG.gn aJ; replace aB := aB.gn aJ; clear aJ he
   refine At.rk bP 1 [(25, .int .i64 ((64 * i) + (tzI v)))] (.w 25 ((64 * i) + (tzI v)) <| .n) (fun cU bQ => ?_)
   clear bP
   refine At.seq bQ 1 [[]] [(26, .slice (some ⟨aZ.heap.size, 0, none⟩) 1 1)] (aZ.alloc (.cells #[.int .i64 ((64 * i) + (tzI v))] 3 (0, 0))) [] κ trivial (fun cV bR bA bS => ?_)
   clear bQ; have aK := gr_alloc bA; have := aK.size; replace aE := aE.gn aK; replace aF := aF.gn aK; replace aG := aG.gn aK; replace aB := aB.grN aK; have bB : Bx bR (aZ.heap.size) [.int .i64 ((64 * i) + (tzI v))] 3 := Bx.new bA; have := bB.lt; clear aK bA; have bX : (ys ++ ([(64 * i) + (tzI v)])).length = (ys).length + ([(64 * i) + (tzI v)] : List Int).length := List.length_append
   simp only [List.length_cons, List.length_nil] at bX
   refine At.act bS (appendR (α := Int) (t := 22) (d := 27) (n := ys.length) (m := 1) (cc := 1) (xs := ys) (ys := [(64 * i) + (tzI v)]) (bytes := 8) (by first | rfl | omega | (simp; done) | (simp; omega)) (by first | rfl | omega | (simp; done) | (simp; omega)) κ rfl κ aB (Bx.srcR (l := ([(64 * i) + (tzI v)] : List Int)) bB rfl) (by simp only [List.length_cons, List.length_nil]; omega) (by simp only [List.length_cons, List.length_nil]; omega)) ?_
   rintro d_ v_ cW ⟨rfl, aS, aT, aU⟩
   obtain rfl := aU.val
   have aP := aU.gr
   refine ⟨_, rfl, fun cX bT => ?_⟩
   clear bS; clear bB; have bY := aU.own (Sx (aA.heap.size) []) (fun g _ hs => hs.2) (show aA.heap.size ≤ bR.heap.size by omega); have := aP.size; replace aE := aE.gr aP (fun k hk => by have := aB.ge k hk; omega); replace aF := aF.gr aP (fun k hk => by have := aB.ge k hk; omega); replace aG := aG.gr aP (fun e => by have := aB.ge _ e; omega); clear aB aP aU
   refine At.rk bT 1 [(3, .slice aS ((ys ++ ([(64 * i) + (tzI v)])).length) aT)] .n (fun cY bU => ?_)
   clear bT
   refine At.done rfl ?_
   refine b_n ?_
   refine t_n ?_
   refine At.start ?_
   refine At.rk bU 5 [(5, .int .u64 (clrW v))] (.v 18 (show (.int .u64 (IntKind.u64.wrap (v - 1)) : Value) = .int .u64 (v - 1) from (congrArg (Value.int .u64) (sub_W hrw.1 ω))) <| .v 19 (show (.int .u64 (IntKind.u64.wrap ((BitVec.ofInt 64 v &&& BitVec.ofInt 64 (v - 1)).toNat : Int)) : Value) = .int .u64 (clrW v) from (congrArg (Value.int .u64) (clr_eq hrw.1 ω))) <| .n) (fun cZ bV => ?_)
   clear bU
   refine At.dn ?_
   have bZ := bV.as 3 (.slice aS ((ys ++ ([(64 * i) + (tzI v)])).length) aT) (.slice aS ((ys ++ ([(64 * i) + (tzI v)]) : List Int).length) aT) rfl (slice_len (by first | rfl | omega | (simp; done) | (simp; omega)))
   clear bV
   exact ⟨_, ω, (clrW v), (tzI v + 1), (ys ++ ([(64 * i) + (tzI v)]) : List Int), aS, aT, rfl, bZ.sb, aE, aF, aG, bY, ω, ω, (rest_next hrw ω), (rest_ls hrw ω ω ω ω hys), ω⟩
  have dA := bne_eq_false_iff_eq.1 aY
  refine wp_exit ?_
  refine t_e ?_
  clear hm63
  refine t_e ?_
  refine b_e ?_
  refine b_n ?_
  refine t_n ?_
  refine At.start ?_
  refine At.rk aO 2 [(10, .int .i64 (i + 1))] (.w 28 (i + 1) <| .n) (fun dB bW => ?_)
  clear aO
  refine At.dn ?_
  have cA := bW.as 3 (.slice aH ys.length aI) (.slice aH ((ys : List Int).length) aI) rfl (slice_len (by first | rfl | omega | (simp; done) | (simp; omega))); clear bW
  exact ⟨_, ω, (i + 1), (ys : List Int), aH, aI, rfl, cA.sb, aE, aF, aG, aB, ω, ω, (rest_end hrw ω ω ω ω ω hys), ω⟩
 have dC := of_decide_eq_false aX
 refine wp_exit ?_
 refine t_e ?_
 clear hm42
 refine t_e ?_
 refine b_e ?_
 refine t_n ?_
 refine sqs ?_
 refine At.rk aN 2 [(2, .slice aC xs.length aD)] .n (fun dD cB => ?_)
 clear aN
 refine At.dn ?_
 refine wp_ret ?_
 refine ret_ cB [] [.slice aC xs.length aD] [] κ trivial ?_
 have hq_ : (xs : List Int) = lsD (fromW s) 256 := list_end hxs ω ω
 exact ⟨aC, aD, ret_eq (slice_len (by first | (rw [← hq_]; done) | (rw [← hq_]; simp) | (rw [← hq_]; omega))), aR, (OwnR.as (aW.imp (fun g _ hs => by have := Sx_base hs; show w.heap.size ≤ g; omega)) hq_)⟩
end Go.Proofs.YtplpgfcjjnaigaaDoor
namespace Go.Proofs.YtplpgfcjjnaigaaDoor
open Go Go.RowKit
set_option maxHeartbeats 4000000 in
theorem least_any {s : List Int} {w : World} (hs : OkW s) (rT : RdT w 0 w.heap.size) :
    Calls Tryd.prog 40 #[.agg ((s : List Int).map wV).toArray] w fun e w' => e = .returned (.int .i64 (leastD (fromW s))) ∧ Ext w w' := by
 have hls := hs.1
 refine enter_ (args := [.agg ((s : List Int).map wV).toArray]) Tryd.func40 rfl Tryd.ntmps40 (Nat.le_of_ble_eq_true rfl) (fun act0 f0 => ?_)
 have e0 : Ext w w := Ext.refl w
 refine sqs ?_
 refine At.bx f0 1 ((s : List Int).map wV) 44 (fun w1 g5 bx6 act4 f3 => ?_)
 clear f0; have := g5.size; replace e0 := e0.gn g5; have r9 := rT.gn g5; clear rT; have := bx6.lt; clear g5
 refine At.rk f3 1 [(2, .int .i64 (0))] .n (fun aR aI => ?_)
 clear f3
 refine At.dn ?_
 refine wp_seq ?_
 refine sqs ?_
 refine At.rk aI 2 [(6, .int .i64 (0)), (5, .agg ((s : List Int).map wV).toArray)] (.p (show ((s : List Int).map wV).length = 4 from ((List.length_map _).trans σ)) <| .p bx6.whole <| .o (.cs ((s : List Int).map wV)) <| .n) (fun aS aJ => ?_)
 clear aI
 refine At.dn ?_
 refine wp_block ?_
 refine loop_g (fun (m_ : Nat) a_ w_ => ∃ (k : Int), m_ = (4 - k).toNat ∧ (Frm 18 a_ [(6, .int .i64 (k)), (5, .agg ((s : List Int).map wV).toArray)]) ∧ (Ext w w_) ∧ (RdT w_ 0 w.heap.size) ∧ (Bx w_ (w.heap.size) ((s : List Int).map wV) 44) ∧ (0 ≤ k) ∧ (k ≤ 4) ∧ (∀ j : Int, 0 ≤ j → j < 64 * k → gB (fromW s) j = false)) _ ⟨0, rfl, aJ.sb, e0, r9, bx6, ω, ω, (fun j a b => by omega)⟩ ?_
 clear aJ; clear r9; clear bx6; clear e0
 intro m_ aT aU ⟨k, hm18, aK, aA, aE, aF, i22, i23, hno⟩
 have := aA.size; have := aF.lt
 refine sqs ?_
 refine At.rk aK 1 [(7, .bool (decide ((k : Int) < 4)))] .n (fun aV aB => ?_)
 clear aK
 refine At.dn ?_
 refine wp_seq ?_
 refine cond_S aB (t := decide ((k : Int) < 4)) rfl (fun aG => ?_) (fun aG => ?_)
 ·have aW := of_decide_eq_true aG
  refine wp_skip ?_
  refine t_n ?_
  refine wp_seq ?_
  refine wp_block ?_
  refine sqs ?_
  refine At.rk aB 4 [(4, .int .u64 (gI s k)), (3, .int .i64 (k))] (.b k 4 <| .p (show (((s : List Int).map wV).toArray : Array Value)[(k : Int).toNat * 1]? = some (.int .u64 (gI s k)) from (idxM wV (0 : Int) k ω (by have := len_4; omega))) <| .o (.ld (.int .u64 (gI s k))) <| .n) (fun aX aL => ?_)
  clear aB
  refine At.dn ?_
  refine sqs ?_
  refine At.rk aL 2 [(11, .bool ((gI s k : Int) != 0))] .n (fun aY aC => ?_)
  clear aL
  refine At.dn ?_
  refine cond_S aC (t := (gI s k : Int) != 0) rfl (fun aH => ?_) (fun aH => ?_)
  ·have aZ := bne_iff_ne.1 aH
   refine sqs ?_
   refine At.rk aC 3 [(14, .int .u64 (gI s k)), (13, .int .i64 (64 * k))] (.w 13 (64 * k) <| .n) (fun bA aM => ?_)
   clear aC
   refine At.cl aM (some 15) (tzI_any (z := gI s k) (by first | exact hs.2 _ | exact hrw.1 | assumption) (aE.wide (Nat.zero_le _) ω)) ?_
   rintro e_ bB ⟨rfl, he⟩
   have := tz_lt (z := gI s k) (by first | exact hs.2 _ | exact hrw.1 | assumption) ω
   refine ⟨_, rfl, _, rfl, fun bC aN => ?_⟩
   clear aM; have aD := gr_ext he; have := aD.size; replace aA := aA.gn aD; replace aE := aE.gn aD; replace aF := aF.gn aD; clear aD he
   refine At.rk aN 2 [(2, .int .i64 ((64 * k) + (tzI (gI s k))))] (.w 16 ((64 * k) + (tzI (gI s k))) <| .n) (fun bD aO => ?_)
   clear aN
   refine At.dn ?_
   refine wp_ret ?_
   refine b_r ?_
   refine t_r ?_
   refine t_r ?_
   refine b_r ?_
   refine t_r ?_
   refine ret_ aO [] [.int .i64 ((64 * k) + (tzI (gI s k)))] [] κ trivial ?_
   exact ⟨ret_eq (congrArg (Value.int .i64) (by first | exact least_hit hs hno ω ω ω | exact least_no (k := 256) ω (fun j a b => hno j a ω))), aA⟩
  have bE := bne_eq_false_iff_eq.1 aH
  refine wp_skip ?_
  refine b_n ?_
  refine t_n ?_
  refine At.start ?_
  refine At.rk aC 2 [(6, .int .i64 (k + 1))] (.w 17 (k + 1) <| .n) (fun bF aP => ?_)
  clear aC
  refine At.dn ?_
  exact ⟨_, ω, (k + 1), rfl, aP.sb, aA, aE, aF, ω, ω, (least_skip hno ω ω ω)⟩
 have bG := of_decide_eq_false aG
 refine wp_exit ?_
 refine t_e ?_
 clear hm18
 refine t_e ?_
 refine b_e ?_
 refine t_n ?_
 refine sqs ?_
 refine At.rk aB 1 [(2, .int .i64 (-1))] .n (fun bH aQ => ?_)
 clear aB
 refine At.dn ?_
 refine wp_ret ?_
 refine ret_ aQ [] [.int .i64 (-1)] [] κ trivial ?_
 exact ⟨ret_eq (congrArg (Value.int .i64) (by first | exact least_hit hs hno ω ω ω | exact least_no (k := 256) ω (fun j a b => hno j a ω))), aA⟩
end Go.Proofs.YtplpgfcjjnaigaaDoor
namespace Go.Proofs.YtplpgfcjjnaigaaDoor
open Go Go.RowKit
theorem orS_any {s t : List Int} {w : World} (hs : OkW s) (ht : OkW t) : Calls Tryd.prog 32 #[.agg (s.map wV).toArray, .agg (t.map wV).toArray] w fun e w' => e = .returned (.agg ((orS s t).map wV).toArray) ∧ Ext w w' := or_any hs ht
theorem andS_any {s t : List Int} {w : World} (hs : OkW s) (ht : OkW t) : Calls Tryd.prog 26 #[.agg (s.map wV).toArray, .agg (t.map wV).toArray] w fun e w' => e = .returned (.agg ((andS s t).map wV).toArray) ∧ Ext w w' := and_any hs ht
theorem minusS_any {s t : List Int} {w : World} (hs : OkW s) (ht : OkW t) : Calls Tryd.prog 42 #[.agg (s.map wV).toArray, .agg (t.map wV).toArray] w fun e w' => e = .returned (.agg ((minusS s t).map wV).toArray) ∧ Ext w w' := minus_any hs ht
end Go.Proofs.YtplpgfcjjnaigaaDoor
namespace Go.Proofs.YtplpgfcjjnaigaaDoor
open Go Go.RowKit
set_option maxHeartbeats 4000000 in
theorem right_any {Ag0 Ag1 Ag2 : Option Addr} {cg0 cg1 cg2 : Nat} {g : GameL} {w : World} (rg : RdG w 0 w.heap.size Ag0 Ag1 Ag2 cg0 cg1 cg2 g) :
    Calls Tryd.prog 21 #[.agg #[.slice Ag0 g.ow.length cg0, .slice Ag1 g.pr.length cg1, .slice Ag2 g.mv.length cg2]] w fun e w' => e = .returned (.tuple #[.int .i64 (rightP g).1, .int .i64 (rightP g).2]) ∧ Ext w w' := by
 have hlg0 := rg.ow.len; have hlg1 := rg.pr.len; have hlg2 := rg.mv.len; have hkg0 := rg.k0; have hkg1 := rg.k1; have hkg2 := rg.k2
 refine enter_ (args := [.agg #[.slice Ag0 g.ow.length cg0, .slice Ag1 g.pr.length cg1, .slice Ag2 g.mv.length cg2]]) Tryd.func21 rfl Tryd.ntmps21 (Nat.le_of_ble_eq_true rfl) (fun act0 f0 => ?_)
 have e0 : Ext w w := Ext.refl w
 refine sqs ?_
 refine At.bx f0 1 [.slice Ag0 g.ow.length cg0, .slice Ag1 g.pr.length cg1, .slice Ag2 g.mv.length cg2] 25 (fun w1 g5 bx6 act4 f3 => ?_)
 clear f0; have := g5.size; replace e0 := e0.gn g5; have r9 := rg.gn g5; clear rg; have := bx6.lt; clear g5
 refine At.rk f3 2 [(3, .int .i64 (0)), (2, .int .i64 (0))] .n (fun dJ bR => ?_)
 clear f3
 refine At.dn ?_
 refine sqs ?_
 refine At.rk bR 4 [(4, .int .i64 (((g.mv.length : Nat) : Int)))] (.l (bx6.cell (i := 2) rfl) <| .n) (fun dK aW => ?_)
 clear bR
 refine At.dn ?_
 refine wp_seq ?_
 refine wp_block ?_
 refine sqs ?_
 rcases Bool.eq_false_or_eq_true ((((g.ow.length : Nat) : Int) : Int) != ((g.mv.length : Nat) : Int)) with aK | aK
 ·have dL := bne_iff_ne.1 aK
  refine At.rk aW 13 [(12, .bool true)] (.l (bx6.cell (i := 0) rfl) <| .e 18 aK <| .n) (fun dM bA => ?_)
  clear aW
  refine At.dn ?_
  refine cond_T bA rfl ?_
  refine sqs ?_
  refine At.rk bA 2 [(3, .int .i64 (1)), (2, .int .i64 (0))] .n (fun dN cI => ?_)
  clear bA
  refine At.dn ?_
  refine wp_ret ?_
  refine b_r ?_
  refine t_r ?_
  refine ret_ cI [] [.int .i64 (0), .int .i64 (1)] [] κ trivial ?_
  exact ⟨ret2_ii (right_lens ω) rfl rfl, e0⟩
 have dO := bne_eq_false_iff_eq.1 aK
 refine At.rk aW 13 [(12, .bool ((((g.pr.length : Nat) : Int) : Int) != ((g.mv.length : Nat) : Int)))] (.l (bx6.cell (i := 0) rfl) <| .e 18 aK <| .l (bx6.cell (i := 1) rfl) <| .n) (fun dP aD => ?_)
 clear aW
 refine At.dn ?_
 refine cond_S aD (t := (((g.pr.length : Nat) : Int) : Int) != ((g.mv.length : Nat) : Int)) rfl (fun bB => ?_) (fun bB => ?_)
 ·have dQ := bne_iff_ne.1 bB
  refine sqs ?_
  refine At.rk aD 2 [(3, .int .i64 (1)), (2, .int .i64 (0))] .n (fun dR cJ => ?_)
  clear aD
  refine At.dn ?_
  refine wp_ret ?_
  refine b_r ?_
  refine t_r ?_
  refine ret_ cJ [] [.int .i64 (0), .int .i64 (1)] [] κ trivial ?_
  exact ⟨ret2_ii (right_lens ω) rfl rfl, e0⟩
 have dS := bne_eq_false_iff_eq.1 bB
 refine sqs ?_
 rcases Bool.eq_false_or_eq_true (decide ((((g.mv.length : Nat) : Int) : Int) < 1)) with aL | aL
 ·have dT := of_decide_eq_true aL
  refine At.rk aD 7 [(25, .bool true)] (.e 28 aL <| .n) (fun dU bC => ?_)
  clear aD
  refine At.dn ?_
  refine cond_T bC rfl ?_
  refine sqs ?_
  refine At.rk bC 2 [(3, .int .i64 (10)), (2, .int .i64 (0))] .n (fun dV cK => ?_)
  clear bC
  refine At.dn ?_
  refine wp_ret ?_
  refine b_r ?_
  refine t_r ?_
  refine ret_ cK [] [.int .i64 (0), .int .i64 (10)] [] κ trivial ?_
  exact ⟨ret2_ii (right_many ω ω) rfl rfl, e0⟩
 have dW := of_decide_eq_false aL
 refine At.rk aD 7 [(25, .bool (decide ((((g.mv.length : Nat) : Int) : Int) > 200)))] (.e 28 aL <| .n) (fun dX aM => ?_)
 clear aD
 refine At.dn ?_
 refine cond_S aM (t := decide ((((g.mv.length : Nat) : Int) : Int) > 200)) rfl (fun bD => ?_) (fun bD => ?_)
 ·have dY := of_decide_eq_true bD
  refine sqs ?_
  refine At.rk aM 2 [(3, .int .i64 (10)), (2, .int .i64 (0))] .n (fun dZ cL => ?_)
  clear aM
  refine At.dn ?_
  refine wp_ret ?_
  refine b_r ?_
  refine t_r ?_
  refine ret_ cL [] [.int .i64 (0), .int .i64 (10)] [] κ trivial ?_
  exact ⟨ret2_ii (right_many ω ω) rfl rfl, e0⟩
 have eA := of_decide_eq_false bD
 refine wp_skip ?_
 refine b_n ?_
 refine t_n ?_
 refine wp_seq ?_
 refine sqs ?_
 refine At.rk aM 4 [(35, .int .i64 (0)), (34, .int .i64 (((g.mv.length : Nat) : Int))), (33, .slice Ag2 g.mv.length cg2)] (.l (bx6.cell (i := 2) rfl) <| .n) (fun eB bS => ?_)
 clear aM
 refine At.dn ?_
 refine wp_block ?_
 refine loop_g (fun (m_ : Nat) a_ w_ => ∃ (k : Int), m_ = ((g.ow.length : Int) - k).toNat ∧ (Frm 107 a_ [(35, .int .i64 (k)), (34, .int .i64 (((g.mv.length : Nat) : Int))), (33, .slice Ag2 g.mv.length cg2), (4, .int .i64 (((g.mv.length : Nat) : Int))), (1, pt w.heap.size 0)]) ∧ (Ext w w_) ∧ (RdG w_ 0 w.heap.size Ag0 Ag1 Ag2 cg0 cg1 cg2 g) ∧ (Bx w_ (w.heap.size) [.slice Ag0 g.ow.length cg0, .slice Ag1 g.pr.length cg1, .slice Ag2 g.mv.length cg2] 25) ∧ (0 ≤ k) ∧ (k ≤ (g.ow.length : Int)) ∧ (∀ j : Nat, (j : Int) < k → g.err j = 0)) _ ⟨0, rfl, bS.sb, e0, r9, bx6, ω, ω, (fun j hj => by omega)⟩ ?_
 clear bS; clear r9; clear bx6; clear e0
 intro m_ eC eD ⟨k, hm48, bT, aA, aE, aB, i52, i53, hp⟩
 have := aA.size; have := aB.lt
 refine sqs ?_
 refine At.rk bT 1 [(36, .bool (decide ((k : Int) < ((g.mv.length : Nat) : Int))))] .n (fun eE aN => ?_)
 clear bT
 refine At.dn ?_
 refine wp_seq ?_
 refine cond_S aN (t := decide ((k : Int) < ((g.mv.length : Nat) : Int))) rfl (fun bE => ?_) (fun bE => ?_)
 ·have eF := of_decide_eq_true bE
  refine wp_skip ?_
  refine t_n ?_
  refine wp_seq ?_
  refine wp_block ?_
  refine sqs ?_
  obtain ⟨eG, aI, aO, cM, _, _, cN, eH, bF⟩ := RdII.get aE.mv (k) ω ω
  have eI := bF.len
  refine At.rk aN 5 [(6, .slice aI ((gL g.mv (k)).length) aO), (5, .int .i64 (k))] (.a k g.mv.length cM <| .l cN <| .n) (fun eJ aX => ?_)
  clear aN
  refine At.dn ?_
  refine wp_seq ?_
  refine wp_block ?_
  refine sqs ?_
  obtain ⟨eK, bU, _, _, bV⟩ := RdI.get aE.ow (k) ω ω
  rcases Bool.eq_false_or_eq_true (decide ((gI g.ow (k) : Int) < 0)) with aP | aP
  ·have eL := of_decide_eq_true aP
   refine At.rk aX 15 [(40, .bool true)] (.l (aB.cell (i := 0) rfl) <| .a k g.ow.length bU <| .l bV <| .e 47 aP <| .n) (fun eM bG => ?_)
   clear aX
   refine At.dn ?_
   refine cond_T bG rfl ?_
   refine sqs ?_
   refine At.rk bG 3 [(3, .int .i64 (14)), (2, .int .i64 (k))] .n (fun eN cO => ?_)
   clear bG
   refine At.dn ?_
   refine wp_ret ?_
   refine b_r ?_
   refine t_r ?_
   refine b_r ?_
   refine t_r ?_
   refine t_r ?_
   refine b_r ?_
   refine t_r ?_
   refine ret_ cO [] [.int .i64 (k), .int .i64 (14)] [] κ trivial ?_
   exact ⟨ret2_ii (right_at' ω ω ω ω σ (err_14 ω ω) (by decide)) rfl rfl, aA⟩
  have eO := of_decide_eq_false aP
  obtain ⟨bW, cP, _, _, cQ⟩ := RdI.get aE.ow (k) ω ω
  refine At.rk aX 15 [(40, .bool (decide ((gI g.ow (k) : Int) > 1))), (53, .bool (decide ((gI g.ow (k) : Int) > 1))), (52, .int .i64 (gI g.ow (k))), (51, .pointer (some (bW.add ((k : Int).toNat * 1)))), (50, .int .i64 (k)), (49, .slice Ag0 g.ow.length cg0), (48, pt w.heap.size 0)] (.l (aB.cell (i := 0) rfl) <| .a k g.ow.length bU <| .l bV <| .e 47 aP <| .l (aB.cell (i := 0) rfl) <| .a k g.ow.length cP <| .l cQ <| .n) (fun eP aF => ?_)
  clear aX
  refine At.dn ?_
  refine cond_S aF (t := decide ((gI g.ow (k) : Int) > 1)) rfl (fun bH => ?_) (fun bH => ?_)
  ·have eQ := of_decide_eq_true bH
   refine sqs ?_
   refine At.rk aF 3 [(3, .int .i64 (14)), (2, .int .i64 (k))] .n (fun eR cR => ?_)
   clear aF
   refine At.dn ?_
   refine wp_ret ?_
   refine b_r ?_
   refine t_r ?_
   refine b_r ?_
   refine t_r ?_
   refine t_r ?_
   refine b_r ?_
   refine t_r ?_
   refine ret_ cR [] [.int .i64 (k), .int .i64 (14)] [] κ trivial ?_
   exact ⟨ret2_ii (right_at' ω ω ω ω σ (err_14 ω ω) (by decide)) rfl rfl, aA⟩
  have eS := of_decide_eq_false bH
  refine sqs ?_
  obtain ⟨eT, bX, _, _, bY⟩ := RdI.get aE.pr (k) ω ω
  rcases Bool.eq_false_or_eq_true (decide ((gI g.pr (k) : Int) < 0)) with aQ | aQ
  ·have eU := of_decide_eq_true aQ
   refine At.rk aF 15 [(56, .bool true)] (.l (aB.cell (i := 1) rfl) <| .a k g.pr.length bX <| .l bY <| .e 63 aQ <| .n) (fun eV bI => ?_)
   clear aF
   refine At.dn ?_
   refine cond_T bI rfl ?_
   refine sqs ?_
   refine At.rk bI 3 [(3, .int .i64 (15)), (2, .int .i64 (k))] .n (fun eW bZ => ?_)
   clear bI
   refine At.dn ?_
   have cS := bZ.sb (r := [(3, .int .i64 (15)), (2, .int .i64 (k))]); clear bZ
   refine wp_ret ?_
   refine b_r ?_
   refine t_r ?_
   refine b_r ?_
   refine t_r ?_
   refine t_r ?_
   refine b_r ?_
   refine t_r ?_
   refine ret_ cS [] [.int .i64 (k), .int .i64 (15)] [] κ trivial ?_
   exact ⟨ret2_ii (right_at' ω ω ω ω σ (err_15 ω ω) (by decide)) rfl rfl, aA⟩
  have eX := of_decide_eq_false aQ
  obtain ⟨cA, cT, _, _, cU⟩ := RdI.get aE.pr (k) ω ω
  refine At.rk aF 15 [(56, .bool (decide ((gI g.pr (k) : Int) > 7))), (69, .bool (decide ((gI g.pr (k) : Int) > 7))), (68, .int .i64 (gI g.pr (k))), (67, .pointer (some (cA.add ((k : Int).toNat * 1)))), (66, .int .i64 (k)), (65, .slice Ag1 g.pr.length cg1), (64, pt w.heap.size 1)] (.l (aB.cell (i := 1) rfl) <| .a k g.pr.length bX <| .l bY <| .e 63 aQ <| .l (aB.cell (i := 1) rfl) <| .a k g.pr.length cT <| .l cU <| .n) (fun eY aR => ?_)
  clear aF
  refine At.dn ?_
  refine cond_S aR (t := decide ((gI g.pr (k) : Int) > 7)) rfl (fun bJ => ?_) (fun bJ => ?_)
  ·have eZ := of_decide_eq_true bJ
   refine sqs ?_
   refine At.rk aR 3 [(3, .int .i64 (15)), (2, .int .i64 (k))] .n (fun fA cB => ?_)
   clear aR
   refine At.dn ?_
   have cV := cB.sb (r := [(3, .int .i64 (15)), (2, .int .i64 (k))]); clear cB
   refine wp_ret ?_
   refine b_r ?_
   refine t_r ?_
   refine b_r ?_
   refine t_r ?_
   refine t_r ?_
   refine b_r ?_
   refine t_r ?_
   refine ret_ cV [] [.int .i64 (k), .int .i64 (15)] [] κ trivial ?_
   exact ⟨ret2_ii (right_at' ω ω ω ω σ (err_15 ω ω) (by decide)) rfl rfl, aA⟩
  have fB := of_decide_eq_false bJ
  refine sqs ?_
  refine At.rk aR 4 [(72, .bool (((((gL g.mv (k)).length : Nat) : Int) : Int) == 0))] .n (fun fC aS => ?_)
  clear aR
  refine At.dn ?_
  refine cond_S aS (t := ((((gL g.mv (k)).length : Nat) : Int) : Int) == 0) rfl (fun bK => ?_) (fun bK => ?_)
  ·have fD := eq_of_beq bK
   refine sqs ?_
   refine At.rk aS 3 [(3, .int .i64 (17)), (2, .int .i64 (k))] .n (fun fE cC => ?_)
   clear aS
   refine At.dn ?_
   have cW := cC.sb (r := [(3, .int .i64 (17)), (2, .int .i64 (k))]); clear cC
   refine wp_ret ?_
   refine b_r ?_
   refine t_r ?_
   refine b_r ?_
   refine t_r ?_
   refine t_r ?_
   refine b_r ?_
   refine t_r ?_
   refine ret_ cW [] [.int .i64 (k), .int .i64 (17)] [] κ trivial ?_
   exact ⟨ret2_ii (right_at' ω ω ω ω σ (err_17 ω ω ω) (by decide)) rfl rfl, aA⟩
  have fF := ne_of_beq_false bK
  refine wp_skip ?_
  refine b_n ?_
  refine t_n ?_
  refine sqs ?_
  refine At.rk aS 3 [(79, .int .i64 (0)), (78, .int .i64 ((((gL g.mv (k)).length : Nat) : Int))), (77, .slice aI ((gL g.mv (k)).length) aO)] .n (fun fG cD => ?_)
  clear aS
  refine At.dn ?_
  refine wp_block ?_
  refine loop_g (fun (m_ : Nat) a_ w_ => ∃ (q : Int), m_ = (((gL g.mv k).length : Int) - q).toNat ∧ (Frm 107 a_ [(79, .int .i64 (q)), (78, .int .i64 ((((gL g.mv (k)).length : Nat) : Int))), (77, .slice aI ((gL g.mv (k)).length) aO), (69, .bool (decide ((gI g.pr (k) : Int) > 7))), (68, .int .i64 (gI g.pr (k))), (67, .pointer (some (cA.add ((k : Int).toNat * 1)))), (66, .int .i64 (k)), (65, .slice Ag1 g.pr.length cg1), (64, pt w.heap.size 1), (53, .bool (decide ((gI g.ow (k) : Int) > 1))), (52, .int .i64 (gI g.ow (k))), (51, .pointer (some (bW.add ((k : Int).toNat * 1)))), (50, .int .i64 (k)), (49, .slice Ag0 g.ow.length cg0), (48, pt w.heap.size 0), (6, .slice aI ((gL g.mv (k)).length) aO), (5, .int .i64 (k)), (35, .int .i64 (k)), (34, .int .i64 (((g.mv.length : Nat) : Int))), (33, .slice Ag2 g.mv.length cg2), (4, .int .i64 (((g.mv.length : Nat) : Int))), (1, pt w.heap.size 0)]) ∧ (Ext w w_) ∧ (RdG w_ 0 w.heap.size Ag0 Ag1 Ag2 cg0 cg1 cg2 g) ∧ (Bx w_ (w.heap.size) [.slice Ag0 g.ow.length cg0, .slice Ag1 g.pr.length cg1, .slice Ag2 g.mv.length cg2] 25) ∧ (RdI w_ 0 w.heap.size aI (gL g.mv (k))) ∧ (0 ≤ q) ∧ (q ≤ ((gL g.mv k).length : Int)) ∧ (rowBad g.ow.length (-1) ((gL g.mv k).take q.toNat) = false)) _ ⟨0, rfl, cD.sb, aA, aE, aB, bF, ω, ω, rfl⟩ ?_
  clear cD; clear aE; clear aB; clear bF; clear aA
  intro m_ fH fI ⟨q, hm125, cE, aG, bL, aY, aZ, i130, i131, i132⟩
  have := aG.size; have := aY.lt
  refine sqs ?_
  refine At.rk cE 1 [(80, .bool (decide ((q : Int) < (((gL g.mv (k)).length : Nat) : Int))))] .n (fun fJ aT => ?_)
  clear cE
  refine At.dn ?_
  refine wp_seq ?_
  refine cond_S aT (t := decide ((q : Int) < (((gL g.mv (k)).length : Nat) : Int))) rfl (fun bM => ?_) (fun bM => ?_)
  ·have fK := of_decide_eq_true bM
   refine wp_skip ?_
   refine t_n ?_
   refine wp_seq ?_
   refine wp_block ?_
   refine sqs ?_
   obtain ⟨fL, cX, _, _, cY⟩ := RdI.get aZ (q) ω ω
   refine At.rk aT 5 [(8, .int .i64 (gI (gL g.mv (k)) (q))), (7, .int .i64 (q))] (.a q ((gL g.mv (k)).length) cX <| .l cY <| .n) (fun fM aC => ?_)
   clear aT
   refine At.dn ?_
   refine sqs ?_
   rcases Bool.eq_false_or_eq_true (decide ((gI (gL g.mv (k)) (q) : Int) < 0)) with aH | aH
   ·have fN := of_decide_eq_true aH
    refine At.rk aC 20 [(103, .bool true)] (.e 86 aH <| .n) (fun fO bN => ?_)
    clear aC
    refine At.dn ?_
    refine cond_T bN rfl ?_
    refine sqs ?_
    refine At.rk bN 3 [(3, .int .i64 (16)), (2, .int .i64 (k))] .n (fun fP cF => ?_)
    clear bN
    refine At.dn ?_
    have cZ := cF.sb (r := [(3, .int .i64 (16)), (2, .int .i64 (k))]); clear cF
    refine wp_ret ?_
    refine b_r ?_
    refine t_r ?_
    refine t_r ?_
    refine b_r ?_
    refine b_r ?_
    refine t_r ?_
    refine t_r ?_
    refine b_r ?_
    refine t_r ?_
    refine ret_ cZ [] [.int .i64 (k), .int .i64 (16)] [] κ trivial ?_
    exact ⟨ret2_ii (right_at' ω ω ω ω σ (err_16 ω ω ω (bad_at2 (q := q) ω ω σ ω)) (by decide)) rfl rfl, aG⟩
   have fQ := of_decide_eq_false aH
   rcases Bool.eq_false_or_eq_true (decide ((gI (gL g.mv (k)) (q) : Int) ≥ ((g.mv.length : Nat) : Int))) with aJ | aJ
   ·have fR := of_decide_eq_true aJ
    refine At.rk aC 20 [(103, .bool true), (89, .bool (decide ((gI (gL g.mv (k)) (q) : Int) ≥ ((g.mv.length : Nat) : Int)))), (88, .int .i64 (((g.mv.length : Nat) : Int))), (87, .int .i64 (gI (gL g.mv (k)) (q)))] (.e 86 aH <| .e 91 aJ <| .n) (fun fS bO => ?_)
    clear aC
    refine At.dn ?_
    refine cond_T bO rfl ?_
    refine sqs ?_
    refine At.rk bO 3 [(3, .int .i64 (16)), (2, .int .i64 (k))] .n (fun fT cG => ?_)
    clear bO
    refine At.dn ?_
    have dA := cG.sb (r := [(3, .int .i64 (16)), (2, .int .i64 (k))]); clear cG
    refine wp_ret ?_
    refine b_r ?_
    refine t_r ?_
    refine t_r ?_
    refine b_r ?_
    refine b_r ?_
    refine t_r ?_
    refine t_r ?_
    refine b_r ?_
    refine t_r ?_
    refine ret_ dA [] [.int .i64 (k), .int .i64 (16)] [] κ trivial ?_
    exact ⟨ret2_ii (right_at' ω ω ω ω σ (err_16 ω ω ω (bad_at2 (q := q) ω ω σ ω)) (by decide)) rfl rfl, aG⟩
   have fU := of_decide_eq_false aJ
   rcases Bool.eq_false_or_eq_true (decide ((q : Int) > 0)) with aU | aU
   ·have fV := of_decide_eq_true aU
    obtain ⟨dB, dC, _, _, dD⟩ := RdI.get aZ (q - 1) ω ω
    refine At.rk aC 20 [(103, .bool (decide ((gI (gL g.mv (k)) (q) : Int) ≤ (gI (gL g.mv (k)) (q - 1))))), (102, .bool (decide ((gI (gL g.mv (k)) (q) : Int) ≤ (gI (gL g.mv (k)) (q - 1))))), (101, .bool (decide ((gI (gL g.mv (k)) (q) : Int) ≤ (gI (gL g.mv (k)) (q - 1))))), (100, .int .i64 (gI (gL g.mv (k)) (q - 1))), (99, .pointer (some (dB.add ((q - 1 : Int).toNat * 1)))), (98, .int .i64 (q - 1)), (97, .int .i64 (q)), (96, .slice aI ((gL g.mv (k)).length) aO), (95, .int .i64 (gI (gL g.mv (k)) (q))), (94, .bool true), (93, .bool (decide ((q : Int) > 0))), (92, .int .i64 (q)), (89, .bool (decide ((gI (gL g.mv (k)) (q) : Int) ≥ ((g.mv.length : Nat) : Int)))), (88, .int .i64 (((g.mv.length : Nat) : Int))), (87, .int .i64 (gI (gL g.mv (k)) (q)))] (.e 86 aH <| .e 91 aJ <| .e 94 aU <| .w 98 (q - 1) <| .a (q - 1) ((gL g.mv (k)).length) dC <| .l dD <| .n) (fun fW aV => ?_)
    clear aC
    refine At.dn ?_
    refine cond_S aV (t := decide ((gI (gL g.mv (k)) (q) : Int) ≤ (gI (gL g.mv (k)) (q - 1)))) rfl (fun bP => ?_) (fun bP => ?_)
    ·have fX := of_decide_eq_true bP
     refine sqs ?_
     refine At.rk aV 3 [(3, .int .i64 (16)), (2, .int .i64 (k))] .n (fun fY cH => ?_)
     clear aV
     refine At.dn ?_
     have dE := cH.sb (r := [(3, .int .i64 (16)), (2, .int .i64 (k))]); clear cH
     refine wp_ret ?_
     refine b_r ?_
     refine t_r ?_
     refine t_r ?_
     refine b_r ?_
     refine b_r ?_
     refine t_r ?_
     refine t_r ?_
     refine b_r ?_
     refine t_r ?_
     refine ret_ dE [] [.int .i64 (k), .int .i64 (16)] [] κ trivial ?_
     exact ⟨ret2_ii (right_at' ω ω ω ω σ (err_16 ω ω ω (bad_at2 (q := q) ω ω σ ω)) (by decide)) rfl rfl, aG⟩
    have fZ := of_decide_eq_false bP
    refine wp_skip ?_
    refine b_n ?_
    refine t_n ?_
    refine At.start ?_
    refine At.rk aV 2 [(79, .int .i64 (q + 1))] (.w 105 (q + 1) <| .n) (fun gA dF => ?_)
    clear aV
    refine At.dn ?_
    exact ⟨_, ω, (q + 1), rfl, dF.sb, aG, bL, aY, aZ, ω, ω, (bad_next2 ω ω σ ω ω ω)⟩
   have gB := of_decide_eq_false aU
   refine At.rk aC 20 [(103, .bool false), (102, .bool false), (94, .bool false), (93, .bool (decide ((q : Int) > 0))), (92, .int .i64 (q)), (89, .bool (decide ((gI (gL g.mv (k)) (q) : Int) ≥ ((g.mv.length : Nat) : Int)))), (88, .int .i64 (((g.mv.length : Nat) : Int))), (87, .int .i64 (gI (gL g.mv (k)) (q)))] (.e 86 aH <| .e 91 aJ <| .e 94 aU <| .n) (fun gC bQ => ?_)
   clear aC
   refine At.dn ?_
   refine cond_F bQ rfl ?_
   refine wp_skip ?_
   refine b_n ?_
   refine t_n ?_
   refine At.start ?_
   refine At.rk bQ 2 [(79, .int .i64 (q + 1))] (.w 105 (q + 1) <| .n) (fun gD dG => ?_)
   clear bQ
   refine At.dn ?_
   exact ⟨_, ω, (q + 1), rfl, dG.sb, aG, bL, aY, aZ, ω, ω, (bad_next2 ω ω σ ω ω ω)⟩
  have gE := of_decide_eq_false bM
  refine wp_exit ?_
  refine t_e ?_
  clear hm125
  refine t_e ?_
  refine b_e ?_
  refine b_n ?_
  refine t_n ?_
  refine At.start ?_
  refine At.rk aT 2 [(35, .int .i64 (k + 1))] (.w 106 (k + 1) <| .n) (fun gF dH => ?_)
  clear aT
  refine At.dn ?_
  exact ⟨_, ω, (k + 1), rfl, dH.sb, aG, bL, aY, ω, ω, (err_next ω hp (err_0 ω ω ω (bad_all σ ω)))⟩
 have gG := of_decide_eq_false bE
 refine wp_exit ?_
 refine t_e ?_
 clear hm48
 refine t_e ?_
 refine b_e ?_
 refine t_n ?_
 refine sqs ?_
 refine At.rk aN 2 [(3, .int .i64 (0)), (2, .int .i64 (0))] .n (fun gH dI => ?_)
 clear aN
 refine At.dn ?_
 refine wp_ret ?_
 refine ret_ dI [] [.int .i64 (0), .int .i64 (0)] [] κ trivial ?_
 exact ⟨ret2_ii (right_ok' (k := k) ω ω ω σ) rfl rfl, aA⟩
end Go.Proofs.YtplpgfcjjnaigaaDoor
