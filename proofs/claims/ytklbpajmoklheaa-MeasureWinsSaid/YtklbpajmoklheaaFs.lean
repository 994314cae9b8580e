/-
  The frame of the walks: own rows of own rows; calls that turn what they were handed. Conditions: none; plain lemmas, over any program.
-/
import Derived.Test.YtklbpajmoklheaaFq
set_option linter.unusedVariables false
namespace Go.Proofs.Ytklbpajmoklheaa
open Go Go.RowKit
def gS (rs : List SliceV) (i : Nat) : SliceV := rs.getD i ⟨none, 0, 0⟩
/-- An own row of slices, each of an own row of ints, no two in one block. -/
def OwnLLP (w : World) (T_ : Nat → Prop) (os : List (Option Nat)) (A : Option Addr) (c : Nat) (e e2 : TypeId) (ls : List (List Int)) : Prop :=
  ∃ rs : List SliceV, rs.length = ls.length ∧ OwnR w (SxP T_ os) A c e rs ∧
    (∀ i, i < ls.length → (gS rs i).n = (ls.getD i []).length ∧ OwnR w (SxP T_ (obk A :: os)) (gS rs i).A (gS rs i).c e2 (ls.getD i [])) ∧
    ∀ i j, i < ls.length → j < ls.length → i ≠ j → ∀ k, obk (gS rs i).A = some k → obk (gS rs j).A ≠ some k
/-- Where a row's block may lie. -/
structure RowSP (T_ : Nat → Prop) (os : List (Option Nat)) (A : Option Addr) : Prop where
  inS : ∀ k, obk A = some k → SxP T_ os k
theorem RowSP.neb {T_ : Nat → Prop} {os : List (Option Nat)} {A : Option Addr} (h : RowSP T_ os A) {b : Nat} (hb : ∀ g, SxP T_ os g → some b ≠ some g) : obk A ≠ some b := fun e => hb b (h.inS b e) rfl
section
variable {w w1 : World} {T_ : Nat → Prop} {os : List (Option Nat)} {A : Option Addr} {c : Nat} {e e2 : TypeId} {ls : List (List Int)}
theorem OwnLLP.gr {row : Option Nat} (h : OwnLLP w T_ os A c e e2 ls) (g : w.grownBy w1 row) (hr : ∀ k, SxP T_ os k → row ≠ some k) : OwnLLP w1 T_ os A c e e2 ls := by
  obtain ⟨rs, hl, ho, hi, hd⟩ := h
  exact ⟨rs, hl, ho.gr g hr, fun i hi' => ⟨(hi i hi').1, (hi i hi').2.gr g (fun k hk => hr k hk.2)⟩, hd⟩
theorem OwnLLP.grA {row : Option Nat} {os' : List (Option Nat)} (h : OwnLLP w T_ os A c e e2 ls) (g : w.grownBy w1 row) (hr : ∀ k, SxP T_ os k → row ≠ some k) (hi : ∀ k, k < w.heap.size → SxP T_ os k → SxP T_ os' k) : OwnLLP w1 T_ os' A c e e2 ls := by
  obtain ⟨rs, hl, ho, hin, hd⟩ := h
  exact ⟨rs, hl, ho.grA g hr hi, fun i hi' => ⟨(hin i hi').1, (hin i hi').2.grA g (fun k hk => hr k hk.2) (fun k hk hs => ⟨hs.1, hi k hk hs.2⟩)⟩, hd⟩
theorem OwnLLP.imp {T' : Nat → Prop} {os' : List (Option Nat)} (h : OwnLLP w T_ os A c e e2 ls) (hi : ∀ k, k < w.heap.size → SxP T_ os k → SxP T' os' k) : OwnLLP w T' os' A c e e2 ls := by
  obtain ⟨rs, hl, ho, hin, hd⟩ := h
  exact ⟨rs, hl, ho.imp hi, fun i hi' => ⟨(hin i hi').1, (hin i hi').2.imp (fun k hk hs => ⟨hs.1, hi k hk hs.2⟩)⟩, hd⟩
theorem OwnLLP.ne_new (h : OwnLLP w T_ os A c e e2 ls) : obk A ≠ some w.heap.size := by
  obtain ⟨rs, hl, ho, hin, hd⟩ := h
  exact ho.ne_new
theorem OwnLLP.neb (h : OwnLLP w T_ os A c e e2 ls) {b : Nat} (hb : ∀ g, SxP T_ os g → some b ≠ some g) : obk A ≠ some b := by
  obtain ⟨rs, hl, ho, hin, hd⟩ := h
  exact ho.neb hb
theorem OwnLLP.inS (h : OwnLLP w T_ os A c e e2 ls) : ∀ k, obk A = some k → SxP T_ os k := by
  obtain ⟨rs, hl, ho, hin, hd⟩ := h
  exact ho.inS
theorem OwnLLP.nil : OwnLLP w T_ os none 0 e e2 [] := ⟨[], rfl, OwnR.nil, fun i hi => by simp at hi, fun i j hi => by simp at hi⟩
theorem gS_set {rs : List SliceV} {i j : Nat} {v : SliceV} (hi : i < rs.length) : gS (rs.set i v) j = if i = j then v else gS rs j := by
  simp only [gS, List.getD_eq_getElem?_getD, List.getElem?_set]
  by_cases h : i = j
  · subst h
    rw [if_pos rfl, if_pos rfl, if_pos hi]
    rfl
  · rw [if_neg h, if_neg h]
theorem getD_setL {ls : List (List Int)} {i j : Nat} {v : List Int} (hi : i < ls.length) : (ls.set i v).getD j [] = if i = j then v else ls.getD j [] := by
  simp only [List.getD_eq_getElem?_getD, List.getElem?_set]
  by_cases h : i = j
  · subst h
    rw [if_pos rfl, if_pos rfl, if_pos hi]
    rfl
  · rw [if_neg h, if_neg h]
/-- One inner slice is turned by itself: what is left of the rest. -/
def HoleLLP (w : World) (T_ : Nat → Prop) (os : List (Option Nat)) (A : Option Addr) (c : Nat) (e e2 : TypeId) (ls : List (List Int)) (i : Nat) (B : Option Addr) : Prop :=
  ∃ rs : List SliceV, rs.length = ls.length ∧ OwnR w (SxP T_ (obk B :: os)) A c e rs ∧
    (∀ j, j < ls.length → j ≠ i → (gS rs j).n = (ls.getD j []).length ∧ OwnR w (SxP T_ (obk B :: obk A :: os)) (gS rs j).A (gS rs j).c e2 (ls.getD j [])) ∧
    ∀ j k, j < ls.length → k < ls.length → j ≠ i → k ≠ i → j ≠ k → ∀ b, obk (gS rs j).A = some b → obk (gS rs k).A ≠ some b
theorem OwnLLP.get (h : OwnLLP w T_ os A c e e2 ls) (i : Int) (h0 : 0 ≤ i) (h1 : i < (ls.length : Int)) :
    ∃ ad R C, A = some ad ∧ ad.block < w.heap.size ∧ w.cell? (ad.add (i.toNat * 1)) = some (.slice R (gL ls i).length C) ∧ OwnR w (SxP T_ (obk A :: os)) R C e2 (gL ls i) ∧ HoleLLP w T_ os A c e e2 ls i.toNat R := by
  obtain ⟨rs, hl, ho, hi, hd⟩ := h
  have hlt : i.toNat < ls.length := by omega
  obtain ⟨ad, hA, hb, hc, _⟩ := ho.get i h0 (by omega) (sz := 1) rfl
  obtain ⟨hn, hR⟩ := hi i.toNat hlt
  have hne : obk A ≠ none → True := fun _ => trivial
  refine ⟨ad, (gS rs i.toNat).A, (gS rs i.toNat).c, hA, hb, ?_, hR, rs, hl, ?_, fun j hj hji => ?_, fun j k hj hk hji hki hjk => hd j k hj hk hjk⟩
  · rw [hc]
    show some (Value.slice (gS rs i.toNat).A (gS rs i.toNat).n (gS rs i.toNat).c) = _
    rw [hn]
    rfl
  · have hA' := ho.inS
    have h2 : OwnR w (fun k => SxP T_ os k ∧ obk A = some k) A c e rs := by
      refine ⟨ho.1, ?_⟩
      rcases ho.2 with h2 | ⟨g, o, cur, e1, hS, r⟩
      · exact .inl h2
      · exact .inr ⟨g, o, cur, e1, ⟨hS, by rw [e1]; rfl⟩, r⟩
    refine h2.imp (fun k hk hs => ⟨fun e => ?_, hs.1⟩)
    exact (hR.inS k e).1 hs.2
  · have hj' := (hi j hj).2
    have h2 : OwnR w (fun k => SxP T_ (obk A :: os) k ∧ obk (gS rs j).A = some k) (gS rs j).A (gS rs j).c e2 (ls.getD j []) := by
      refine ⟨hj'.1, ?_⟩
      rcases hj'.2 with h2 | ⟨g, o, cur, e1, hS, r⟩
      · exact .inl h2
      · exact .inr ⟨g, o, cur, e1, ⟨hS, by rw [e1]; rfl⟩, r⟩
    exact ⟨(hi j hj).1, h2.imp (fun k hk hs => ⟨fun e => hd i.toNat j hlt hj (fun e' => hji e'.symm) k e hs.2, hs.1⟩)⟩
/-- Over a change of which it is known that it is not the row's own block. -/
theorem OwnR.gr2 {α : Type} [Enc α] {S : Nat → Prop} {l : List α} {row : Option Nat} (h : OwnR w S A c e l) (g : w.grownBy w1 row) (hr : ∀ k, obk A = some k → row ≠ some k) : OwnR w1 S A c e l := by
  refine ⟨h.1, ?_⟩
  rcases h.2 with h2 | ⟨b, o, cur, e1, hS, hg, r⟩
  · exact .inl h2
  · exact .inr ⟨b, o, cur, e1, hS, by rw [g.block b (Array.getElem?_eq_some_iff.1 hg).1 (fun e' => hr b (by rw [e1]; rfl) e'.symm)]; exact hg, r⟩
theorem HoleLLP.moved {i : Nat} {R R' : Option Addr} (h : HoleLLP w T_ os A c e e2 ls i R) (g : w.grownBy w1 (obk R)) (hA : R' = R ∨ R' = some ⟨w.heap.size, 0, none⟩) : HoleLLP w1 T_ os A c e e2 ls i R' := by
  obtain ⟨rs, hl, ho, hi, hd⟩ := h
  exact ⟨rs, hl, ho.grA g (fun k hk => hk.1) (fun k hk hs => ⟨own_repl hA hs.1 hk, hs.2⟩), fun j hj hji => ⟨(hi j hj hji).1, (hi j hj hji).2.grA g (fun k hk => hk.1) (fun k hk hs => ⟨own_repl hA hs.1 hk, hs.2⟩)⟩, hd⟩
theorem HoleLLP.gr {i : Nat} {R : Option Addr} {row : Option Nat} (h : HoleLLP w T_ os A c e e2 ls i R) (g : w.grownBy w1 row) (hr : ∀ k, SxP T_ os k → row ≠ some k) : HoleLLP w1 T_ os A c e e2 ls i R := by
  obtain ⟨rs, hl, ho, hi, hd⟩ := h
  exact ⟨rs, hl, ho.gr g (fun k hk => hr k hk.2), fun j hj hji => ⟨(hi j hj hji).1, (hi j hj hji).2.gr g (fun k hk => hr k hk.2.2)⟩, hd⟩
theorem HoleLLP.row {i : Nat} {R : Option Addr} (h : HoleLLP w T_ os A c e e2 ls i R) : RowSP T_ os A := by
  obtain ⟨rs, hl, ho, hin, hd⟩ := h
  exact ⟨fun k hk => (ho.inS k hk).2⟩
theorem HoleLLP.grA {i : Nat} {R : Option Addr} {row : Option Nat} {os' : List (Option Nat)} (h : HoleLLP w T_ os A c e e2 ls i R) (g : w.grownBy w1 row) (hr : ∀ k, SxP T_ os k → row ≠ some k) (hi : ∀ k, k < w.heap.size → SxP T_ os k → SxP T_ os' k) : HoleLLP w1 T_ os' A c e e2 ls i R := by
  obtain ⟨rs, hl, ho, hin, hd⟩ := h
  exact ⟨rs, hl, ho.grA g (fun k hk => hr k hk.2) (fun k hk hs => ⟨hs.1, hi k hk hs.2⟩), fun j hj hji => ⟨(hin j hj hji).1, (hin j hj hji).2.grA g (fun k hk => hr k hk.2.2) (fun k hk hs => ⟨hs.1, hs.2.1, hi k hk hs.2.2⟩)⟩, hd⟩
theorem HoleLLP.imp {i : Nat} {R : Option Addr} {os' : List (Option Nat)} (h : HoleLLP w T_ os A c e e2 ls i R) (hi : ∀ k, k < w.heap.size → SxP T_ os k → SxP T_ os' k) : HoleLLP w T_ os' A c e e2 ls i R := h.grA (row := none) (gr_refl w none) (fun _ _ h => by cases h) hi
theorem storeLL {P : Program} {l : List (Nat × Value)} {ops : List Oper} {k : Nat} {t : TypeId} {i : Int} {ad : Addr} {R : Option Addr} {n C : Nat} {xs : List Int} (ha : storeAtL l ops k = some (t, .pointer (some (ad.add (i.toNat * 1))), .slice R n C)) (hok : storeOkX P t [.slice R n C] = true) (hA : A = some ad)
    (h : HoleLLP w T_ os A c e e2 ls i.toNat R) (hR : OwnR w (SxP T_ (obk A :: os)) R C e2 xs) (hn : n = xs.length) (h0 : 0 ≤ i) (h1 : i < (ls.length : Int)) :
    ActOp P l ops k w fun d' v' w1 => d' = none ∧ w.grownBy w1 (obk A) ∧ OwnLLP w1 T_ os A c e e2 (ls.set i.toNat xs) := by
  subst hn
  have hlt : i.toNat < ls.length := by omega
  obtain ⟨rs, hl, ho, hi, hd⟩ := h
  obtain ⟨o, ho1, ho2, nx, v, w1, hr, hg, hdst, hgr, hO⟩ := storeR (α := SliceV) (x := ⟨R, xs.length, C⟩) ha rfl rfl hok hA ho h0 (by omega)
  refine ⟨o, ho1, ho2, nx, v, w1, hr, hg, hdst, hgr, rs.set i.toNat ⟨R, xs.length, C⟩, by rw [List.length_set, List.length_set]; exact hl, hO.imp (fun k hk hs => hs.2), fun j hj => ?_, fun j k hj hk hjk b hb => ?_⟩
  · rw [List.length_set] at hj
    rw [gS_set (by omega), getD_setL hlt]
    by_cases hji : i.toNat = j
    · rw [if_pos hji, if_pos hji]
      exact ⟨rfl, hR.gr hgr (fun k hk => hk.1)⟩
    · rw [if_neg hji, if_neg hji]
      have := hi j hj (fun e => hji e.symm)
      exact ⟨this.1, (this.2.gr hgr (fun k hk => hk.2.1)).imp (fun k hk hs => hs.2)⟩
  · rw [List.length_set] at hj hk
    rw [gS_set (by omega)] at hb ⊢
    by_cases hji : i.toNat = j
    · rw [if_pos hji] at hb
      rw [if_neg (fun e => hjk (hji.symm.trans e))]
      intro hk2
      exact ((hi k hk (fun e => hjk (hji.symm.trans e.symm))).2.inS b hk2).1 hb
    · rw [if_neg hji] at hb
      by_cases hki : i.toNat = k
      · rw [if_pos hki]
        intro hk2
        exact ((hi j hj (fun e => hji e.symm)).2.inS b hb).1 hk2
      · rw [if_neg hki]
        exact hd j k hj hk (fun e => hji e.symm) (fun e => hki e.symm) hjk b hb
theorem gS_append {rs : List SliceV} {v : SliceV} {j : Nat} (hj : j < rs.length + 1) : gS (rs ++ [v]) j = if j < rs.length then gS rs j else v := by
  simp only [gS, List.getD_eq_getElem?_getD]
  by_cases h : j < rs.length
  · rw [if_pos h, List.getElem?_append_left h]
  · rw [if_neg h, List.getElem?_append_right (by omega), show j - rs.length = 0 by omega]
    rfl
theorem getD_appendL {ls : List (List Int)} {v : List Int} {j : Nat} (hj : j < ls.length + 1) : (ls ++ [v]).getD j [] = if j < ls.length then ls.getD j [] else v := by
  simp only [List.getD_eq_getElem?_getD]
  by_cases h : j < ls.length
  · rw [if_pos h, List.getElem?_append_left h]
  · rw [if_neg h, List.getElem?_append_right (by omega), show j - ls.length = 0 by omega]
    rfl
/-- A row of slices that are all nil. -/
theorem OwnR.ll {n : Nat} (h : OwnR w (SxP T_ os) A c e (List.replicate n (⟨none, 0, 0⟩ : SliceV))) : OwnLLP w T_ os A c e e2 (List.replicate n []) := by
  refine ⟨_, by rw [List.length_replicate, List.length_replicate], h, fun i hi => ?_, fun i j hi hj hij k hk => ?_⟩
  · have e1 : gS (List.replicate n (⟨none, 0, 0⟩ : SliceV)) i = ⟨none, 0, 0⟩ := by simp only [gS, List.getD_eq_getElem?_getD, List.getElem?_replicate]; split <;> rfl
    have e2 : (List.replicate n ([] : List Int)).getD i [] = [] := by simp only [List.getD_eq_getElem?_getD, List.getElem?_replicate]; split <;> rfl
    rw [e1, e2]
    exact ⟨rfl, OwnR.nil⟩
  · have e1 : gS (List.replicate n (⟨none, 0, 0⟩ : SliceV)) i = ⟨none, 0, 0⟩ := by simp only [gS, List.getD_eq_getElem?_getD, List.getElem?_replicate]; split <;> rfl
    rw [e1] at hk
    cases hk
theorem appendLL {P : Program} {l : List (Nat × Value)} {ops : List Oper} {k d : Nat} {t n m cc bytes b2 : Nat} {X : Option Addr} {C : Nat} {xs : List Int} (hn : n = ls.length) (ha : appAt l ops k = some (t, .slice A n c, .slice (some ⟨b2, 0, none⟩) 1 cc, some d)) (hok : elemOk P t e 1 bytes = true) {T : TypeId}
    (hs : Bx w b2 [.slice X xs.length C] T) (h : OwnLLP w T_ (obk X :: os) A c e e2 ls) (hX : OwnR w (SxP T_ os) X C e2 xs) (hos : SxP T_ os w.heap.size) (hb : (ls.length + 1) * bytes ≤ 140737488355328) (h63 : ls.length + 1 ≤ 9223372036854775807) :
    ActOp P l ops k w fun d' v w1 => d' = some d ∧ ∃ A' c', v = .slice A' (ls ++ [xs]).length c' ∧ w.grownBy w1 (obk A) ∧ (A' = A ∨ A' = some ⟨w.heap.size, 0, none⟩) ∧ OwnLLP w1 T_ os A' c' e e2 (ls ++ [xs]) := by
  obtain ⟨rs, hrl, ho, hin, hd⟩ := h
  obtain ⟨o, ho1, ho2, nx, v, w1, hr, hg, hdst, A', c', hap⟩ := appendR (α := SliceV) (xs := rs) (ys := [⟨X, xs.length, C⟩]) (by rw [hn, hrl]) rfl ha rfl hok ho (Bx.srcR hs rfl) (by rw [hrl]; exact hb) (by rw [hrl]; exact h63)
  have hXne : obk X ≠ some w.heap.size := hX.ne_new
  have hXA : ∀ k, obk X = some k → obk A ≠ some k := fun k hk hA => (ho.inS k hA).1 hk
  refine ⟨o, ho1, ho2, nx, v, w1, hr, hg, hdst, A', c', ?_, hap.gr, hap.at_, rs ++ [⟨X, xs.length, C⟩], by simp [hrl], ?_, fun j hj => ?_, fun i j hi hj hij k hk => ?_⟩
  · rw [hap.val]
    simp [hrl]
  · exact hap.own (SxP T_ os) (fun g _ hs => hs.2) hos
  · rw [List.length_append, List.length_singleton] at hj
    rw [gS_append (by omega), getD_appendL hj, hrl]
    by_cases hjl : j < ls.length
    · rw [if_pos hjl, if_pos hjl]
      obtain ⟨h1, h2⟩ := hin j hjl
      exact ⟨h1, h2.grA hap.gr (fun k hk => hk.1) (fun k hk hs => ⟨own_repl hap.at_ hs.1 hk, hs.2.2⟩)⟩
    · rw [if_neg hjl, if_neg hjl]
      refine ⟨rfl, ?_⟩
      have h2 : OwnR w (fun k => SxP T_ os k ∧ obk X = some k) X C e2 xs := by
        refine ⟨hX.1, ?_⟩
        rcases hX.2 with h2 | ⟨g, o, cur, e1, hS, r⟩
        · exact .inl h2
        · exact .inr ⟨g, o, cur, e1, ⟨hS, by rw [e1]; rfl⟩, r⟩
      exact h2.grA hap.gr (fun k hk => hXA k hk.2) (fun k hk hs => ⟨own_repl hap.at_ (hXA k hs.2) hk, hs.1⟩)
  · rw [List.length_append, List.length_singleton] at hi hj
    rw [gS_append (by omega), hrl] at hk ⊢
    by_cases hil : i < ls.length
    · rw [if_pos hil] at hk
      by_cases hjl : j < ls.length
      · rw [if_pos hjl]
        exact hd i j hil hjl hij k hk
      · rw [if_neg hjl]
        exact ((hin i hil).2.inS k hk).2.1
    · rw [if_neg hil] at hk
      rw [if_pos (by omega)]
      intro hk2
      exact ((hin j (by omega)).2.inS k hk2).2.1 hk
end
abbrev OwnLL (w : World) (base : Nat) := OwnLLP w (fun g => base ≤ g)
abbrev HoleLL (w : World) (base : Nat) := HoleLLP w (fun g => base ≤ g)
abbrev RowS (base : Nat) := RowSP (fun g => base ≤ g)
theorem RowSP.ge {base : Nat} {os : List (Option Nat)} {A : Option Addr} (h : RowS base os A) : ∀ k, obk A = some k → base ≤ k := fun k hk => Sx_base (h.inS k hk)
section
variable {w w1 : World} {base : Nat} {os : List (Option Nat)} {A : Option Addr} {c : Nat} {e e2 : TypeId} {ls : List (List Int)}
theorem OwnLL.nil : OwnLL w base os none 0 e e2 [] := OwnLLP.nil
theorem OwnLLP.ge (h : OwnLL w base os A c e e2 ls) : ∀ k, obk A = some k → base ≤ k := by
  obtain ⟨rs, hl, ho, hin, hd⟩ := h
  exact ho.ge
theorem OwnLLP.rdII (h : OwnLL w base os A c e e2 ls) (hl : ls.length * 24 ≤ 140737488351232) (hi : ∀ i, i < ls.length → (ls.getD i []).length * 8 ≤ 140737488351232) : RdII w base w.heap.size A ls := by
  obtain ⟨rs, hrl, ho, hin, hd⟩ := h
  refine ⟨hl, fun i => (gS rs i).A, fun i => (gS rs i).c, fun i q hi' hq => ?_, fun i hi' => ?_⟩
  · have hr := ho.rdR (by rw [hrl]; exact hl)
    have := hr.row i q (by omega) hq
    obtain rfl : q = 0 := by omega
    obtain ⟨ad, hA, h1, h2, hc⟩ := this
    refine ⟨ad, hA, h1, h2, ?_⟩
    have e1 : (fun i q => (Enc.enc (rs.getD i Enc.d)).getD q undef) i 0 = Value.slice (gS rs i).A (gS rs i).n (gS rs i).c := rfl
    rw [e1, (hin i hi').1] at hc
    exact hc
  · exact ⟨(hin i hi').2.cap, ((hin i hi').2.rdR (hi i hi')).rdI⟩
end
end Go.Proofs.Ytklbpajmoklheaa
set_option linter.unusedVariables false
namespace Go.Proofs.Ytklbpajmoklheaa
open Go Go.RowKit
theorem rdI_nil {w : World} {lo hi : Nat} : RdI w lo hi none [] := ⟨by simp, fun i q hi' hq => by simp at hi'⟩
theorem rdI_isNone {w : World} {lo hi : Nat} {A : Option Addr} {l : List Int} (h : RdI w lo hi A l) (hA : A.isNone = true) : l = [] := by
  cases l with
  | nil => rfl
  | cons x l =>
    obtain ⟨ad, e, _⟩ := h.row 0 0 (by simp) (by omega)
    rw [e] at hA
    cases hA
theorem rdII_nil {w : World} {lo hi : Nat} : RdII w lo hi none [] := ⟨by simp, fun _ => none, fun _ => 0, fun i q hi' hq => by simp at hi', fun i hi' => by simp at hi'⟩
theorem rdR_nil {α : Type} [Enc α] {w : World} {lo hi : Nat} : RdR w lo hi none ([] : List α) := ⟨by simp, fun i q hi' hq => by simp at hi'⟩
theorem Bx.rdI {w : World} {b : Nat} {cs : List Value} {T : TypeId} {l : List Int} (h : Bx w b cs T) (e : cs = ints l) (hl : l.length * 8 ≤ 140737488351232) : RdI w 0 w.heap.size (some ⟨b, 0, none⟩) l := by
  subst e
  refine ⟨hl, fun i q hi hq => ⟨_, rfl, Nat.zero_le _, h.lt, ?_⟩⟩
  obtain rfl : q = 0 := by omega
  rw [add_zero, Nat.mul_one, add_plain]
  refine h.cell ?_
  simp only [ints, List.getElem?_map, List.getElem?_eq_getElem hi, List.getD_eq_getElem?_getD, Option.map_some, Option.getD_some]
theorem Bx.rdR {α : Type} [Enc α] {w : World} {b : Nat} {cs : List Value} {T : TypeId} {l : List α} (h : Bx w b cs T) (e : rows l = cs) (hl : l.length * Enc.bytes α ≤ 140737488351232) : RdR w 0 w.heap.size (some ⟨b, 0, none⟩) l := by
  refine ⟨hl, fun i q hi hq => ⟨_, rfl, Nat.zero_le _, h.lt, ?_⟩⟩
  rw [add_add', add_plain]
  refine h.cell ?_
  rw [← e, rows_get l hi hq]
  exact getD_some (by rw [Enc.len]; exact hq)
def RowsC (w : World) : List Value → List (List Int) → Prop
  | [], [] => True
  | v :: cs, l :: ls => (∃ R C, v = .slice R l.length C ∧ l.length ≤ C ∧ RdI w 0 w.heap.size R l) ∧ RowsC w cs ls
  | _, _ => False
theorem RowsC.at_ {w : World} : ∀ {cs : List Value} {ls : List (List Int)}, RowsC w cs ls → ∀ i, i < ls.length → ∃ R C, cs[i]? = some (.slice R (ls.getD i []).length C) ∧ (ls.getD i []).length ≤ C ∧ RdI w 0 w.heap.size R (ls.getD i [])
  | [], [], _, i, hi => by simp at hi
  | [], _ :: _, h, _, _ => h.elim
  | _ :: _, [], h, _, _ => h.elim
  | v :: cs, l :: ls, h, 0, _ => by
    obtain ⟨⟨R, C, rfl, h1, h2⟩, _⟩ := h
    exact ⟨R, C, rfl, h1, h2⟩
  | v :: cs, l :: ls, h, i + 1, hi => by
    have := RowsC.at_ h.2 i (by simp at hi; omega)
    simpa using this
theorem Bx.rdII {w : World} {b : Nat} {cs : List Value} {T : TypeId} {ls : List (List Int)} (h : Bx w b cs T) (hr : RowsC w cs ls) (hl : ls.length * 24 ≤ 140737488351232) : RdII w 0 w.heap.size (some ⟨b, 0, none⟩) ls := by
  have hx : ∀ i, ∃ R C, i < ls.length → cs[i]? = some (.slice R (ls.getD i []).length C) ∧ (ls.getD i []).length ≤ C ∧ RdI w 0 w.heap.size R (ls.getD i []) := fun i => by
    by_cases hi : i < ls.length
    · obtain ⟨R, C, h1⟩ := hr.at_ i hi
      exact ⟨R, C, fun _ => h1⟩
    · exact ⟨none, 0, fun h => absurd h hi⟩
  refine ⟨hl, fun i => Classical.choose (hx i), fun i => Classical.choose (Classical.choose_spec (hx i)), fun i q hi hq => ⟨_, rfl, Nat.zero_le _, h.lt, ?_⟩, fun i hi => (Classical.choose_spec (Classical.choose_spec (hx i)) hi).2⟩
  obtain rfl : q = 0 := by omega
  rw [add_zero, Nat.mul_one, add_plain]
  exact h.cell (Classical.choose_spec (Classical.choose_spec (hx i)) hi).1
theorem OwnR.rdI0 {w : World} {base : Nat} {os : List (Option Nat)} {A : Option Addr} {c : Nat} {e : TypeId} {l : List Int} (h : OwnR w (Sx base os) A c e l) (hl : l.length * 8 ≤ 140737488351232) : RdI w 0 w.heap.size A l := (h.rdR hl).rdI.wide (Nat.zero_le _) (Nat.le_refl _)
theorem OwnLLP.rdII0 {w : World} {base : Nat} {os : List (Option Nat)} {A : Option Addr} {c : Nat} {e e2 : TypeId} {ls : List (List Int)} (h : OwnLL w base os A c e e2 ls) (hl : ls.length * 24 ≤ 140737488351232) (hi : ∀ i, i < ls.length → (ls.getD i []).length * 8 ≤ 140737488351232) : RdII w 0 w.heap.size A ls := (h.rdII hl hi).wide (Nat.zero_le _) (Nat.le_refl _)
theorem OwnLLP.cap {w : World} {T_ : Nat → Prop} {os : List (Option Nat)} {A : Option Addr} {c : Nat} {e e2 : TypeId} {ls : List (List Int)} (h : OwnLLP w T_ os A c e e2 ls) : ls.length ≤ c := by
  obtain ⟨rs, hl, ho, _⟩ := h
  rw [← hl]
  exact ho.cap
theorem OwnLLP.lt {w : World} {T_ : Nat → Prop} {os : List (Option Nat)} {A : Option Addr} {c : Nat} {e e2 : TypeId} {ls : List (List Int)} (h : OwnLLP w T_ os A c e e2 ls) : ∀ k, obk A = some k → k < w.heap.size := by
  obtain ⟨rs, hl, ho, _⟩ := h
  exact ho.lt
theorem OwnLLP.as {w : World} {T_ : Nat → Prop} {os : List (Option Nat)} {A : Option Addr} {c : Nat} {e e2 : TypeId} {ls ls' : List (List Int)} (h : OwnLLP w T_ os A c e e2 ls) (q : ls = ls') : OwnLLP w T_ os A c e e2 ls' := q ▸ h
theorem inner_len {w : World} {lo hi : Nat} {A : Option Addr} {ls : List (List Int)} (h : RdII w lo hi A ls) : ∀ i, i < ls.length → (ls.getD i []).length * 8 ≤ 140737488351232 := by
  obtain ⟨_, R, C, _, h2⟩ := h
  exact fun i hi => (h2 i hi).2.len
theorem takeLL_push {xs l : List (List Int)} {k : Int} (h : xs = l.take k.toNat) (h0 : 0 ≤ k) (h1 : k < (l.length : Int)) : xs ++ [gL l k] = l.take (k + 1).toNat := by
  subst h
  rw [show (k + 1).toNat = k.toNat + 1 by omega, List.take_succ_eq_append_getElem (by omega)]
  simp only [gL, List.getD_eq_getElem?_getD, List.getElem?_eq_getElem (show k.toNat < l.length by omega), Option.getD_some]
theorem takeLL_end {xs l : List (List Int)} {k : Int} (h : xs = l.take k.toNat) (h1 : (l.length : Int) ≤ k) : xs = l := by rw [h, List.take_of_length_le (by omega)]
theorem Bx.own0 {α : Type} [Enc α] {w : World} {b : Nat} {T : TypeId} {S : Nat → Prop} (h : Bx w b [] T) (hS : S b) : OwnR w S (some ⟨b, 0, none⟩) 0 T ([] : List α) := h.ownR (n := 0) (l := ([] : List α)) rfl hS (Nat.zero_le _)
end Go.Proofs.Ytklbpajmoklheaa
set_option linter.unusedVariables false
namespace Go.Proofs.Ytklbpajmoklheaa
open Go Go.RowKit
/-- T, or new. -/
def orN (T : Nat → Prop) (n : Nat) (g : Nat) : Prop := T g ∨ n ≤ g
/-- w1 is w, but for blocks of which T holds, and new ones. -/
structure Tch (T : Nat → Prop) (w w1 : World) : Prop where
  os : w1.os = w.os
  tape : w1.tape = w.tape
  output : w1.output = w.output
  size : w.heap.size ≤ w1.heap.size
  block : ∀ k, k < w.heap.size → ¬ T k → w1.heap[k]? = w.heap[k]?
theorem Tch.refl {T : Nat → Prop} (w : World) : Tch T w w := ⟨rfl, rfl, rfl, Nat.le_refl _, fun _ _ _ => rfl⟩
theorem Tch.gr {T : Nat → Prop} {w0 w w1 : World} {row : Option Nat} (h : Tch T w0 w) (g : w.grownBy w1 row) (hr : ∀ k, row = some k → orN T w0.heap.size k) : Tch T w0 w1 :=
  ⟨g.os.trans h.os, g.tape.trans h.tape, g.output.trans h.output, Nat.le_trans h.size g.size, fun k hk hT => by
    rw [← h.block k hk hT]
    refine g.block k (by have := h.size; omega) (fun e => ?_)
    rcases hr k e.symm with h1 | h1
    · exact hT h1
    · omega⟩
theorem Tch.tch {T T2 : Nat → Prop} {w0 w w1 : World} (h : Tch T w0 w) (g : Tch T2 w w1) (hr : ∀ k, T2 k → orN T w0.heap.size k) : Tch T w0 w1 :=
  ⟨g.os.trans h.os, g.tape.trans h.tape, g.output.trans h.output, Nat.le_trans h.size g.size, fun k hk hT => by
    rw [← h.block k hk hT]
    refine g.block k (by have := h.size; omega) (fun e => ?_)
    rcases hr k e with h1 | h1
    · exact hT h1
    · omega⟩
theorem Tch.mono {T T2 : Nat → Prop} {w w1 : World} (h : Tch T w w1) (hi : ∀ k, k < w.heap.size → T k → T2 k) : Tch T2 w w1 :=
  ⟨h.os, h.tape, h.output, h.size, fun k hk hT => h.block k hk (fun e => hT (hi k hk e))⟩
theorem Tch.ext {T : Nat → Prop} {w0 w w1 : World} (h : Tch T w0 w) (g : Ext w w1) : Tch T w0 w1 := h.gr (gr_ext g) (fun _ h => by cases h)
theorem Ext.tch {T : Nat → Prop} {w0 w w1 : World} (h : Ext w0 w) (g : Tch T w w1) (hr : ∀ k, T k → w0.heap.size ≤ k) : Ext w0 w1 :=
  ⟨g.os.trans h.os, g.tape.trans h.tape, g.output.trans h.output, Nat.le_trans h.size g.size, fun k hk => by
    rw [← h.block k hk]
    exact g.block k (by have := h.size; omega) (fun e => by have := hr k e; omega)⟩
theorem Tch.cell {T : Nat → Prop} {w w1 : World} (g : Tch T w w1) {p : Addr} {v : Value} (hc : w.cell? p = some v) (hn : ¬ T p.block) : w1.cell? p = some v :=
  (World.cell?_of_block (w := w) (g.block p.block (World.block_lt_of_cell? _ _ hc) hn)).trans hc
theorem Bx.tch {T : Nat → Prop} {w w1 : World} {b : Nat} {cs : List Value} {t : TypeId} (h : Bx w b cs t) (g : Tch T w w1) (hn : ¬ T b) : Bx w1 b cs t := by
  have := g.block b h.lt hn
  unfold Bx at h ⊢
  rw [this]
  exact h
theorem Own.tch {T : Nat → Prop} {w w1 : World} {S : Nat → Prop} {A : Option Addr} {n c : Nat} {e : TypeId} {sz : Nat} {xs : List Value} (h : Own w S A n c e sz xs) (g : Tch T w w1) (hr : ∀ k, S k → obk A = some k → ¬ T k) : Own w1 S A n c e sz xs := by
  refine ⟨h.1, ?_⟩
  rcases h.2 with h2 | ⟨b, o, cur, hA, hS, hg, r⟩
  · exact .inl h2
  · exact .inr ⟨b, o, cur, hA, hS, by rw [g.block b (Array.getElem?_eq_some_iff.1 hg).1 (hr b hS (by rw [hA]; rfl))]; exact hg, r⟩
theorem OwnR.tch {α : Type} [Enc α] {T : Nat → Prop} {w w1 : World} {S : Nat → Prop} {A : Option Addr} {c : Nat} {e : TypeId} {l : List α} (h : OwnR w S A c e l) (g : Tch T w w1) (hr : ∀ k, S k → obk A = some k → ¬ T k) : OwnR w1 S A c e l := Own.tch h g hr
theorem OwnR.self {α : Type} [Enc α] {w : World} {S : Nat → Prop} {A : Option Addr} {c : Nat} {e : TypeId} {l : List α} (h : OwnR w S A c e l) : OwnR w (fun k => S k ∧ obk A = some k) A c e l := by
  refine ⟨h.1, ?_⟩
  rcases h.2 with h2 | ⟨g, o, cur, e1, hS, r⟩
  · exact .inl h2
  · exact .inr ⟨g, o, cur, e1, ⟨hS, by rw [e1]; rfl⟩, r⟩
theorem OwnLLP.tch {T U : Nat → Prop} {w w1 : World} {os : List (Option Nat)} {A : Option Addr} {c : Nat} {e e2 : TypeId} {ls : List (List Int)} (h : OwnLLP w U os A c e e2 ls) (g : Tch T w w1) (hr : ∀ k, SxP U os k → ¬ T k) : OwnLLP w1 U os A c e e2 ls := by
  obtain ⟨rs, hl, ho, hin, hd⟩ := h
  exact ⟨rs, hl, ho.tch g (fun k hk _ => hr k hk), fun i hi => ⟨(hin i hi).1, (hin i hi).2.tch g (fun k hk _ => hr k hk.2)⟩, hd⟩
theorem RdV.tch {T : Nat → Prop} {w w1 : World} {lo hi : Nat} {A : Option Addr} {n sz : Nat} {f : Nat → Nat → Value} (h : RdV w lo hi A n sz f) (g : Tch T w w1) (hr : ∀ k, T k → k < lo ∨ hi ≤ k) : RdV w1 lo hi A n sz f := fun i q hi' hq => by
  obtain ⟨ad, e, h1, h2, hc⟩ := h i q hi' hq
  refine ⟨ad, e, h1, h2, g.cell hc (fun e => ?_)⟩
  rw [add_block, add_block] at e
  have := hr _ e
  omega
theorem RdI.tch {T : Nat → Prop} {w w1 : World} {lo hi : Nat} {A : Option Addr} {l : List Int} (h : RdI w lo hi A l) (g : Tch T w w1) (hr : ∀ k, T k → k < lo ∨ hi ≤ k) : RdI w1 lo hi A l := ⟨h.len, h.row.tch g hr⟩
theorem RdB.tch {T : Nat → Prop} {w w1 : World} {lo hi : Nat} {A : Option Addr} {l : List Bool} (h : RdB w lo hi A l) (g : Tch T w w1) (hr : ∀ k, T k → k < lo ∨ hi ≤ k) : RdB w1 lo hi A l := ⟨h.len, h.row.tch g hr⟩
theorem RdR.tch {α : Type} [Enc α] {T : Nat → Prop} {w w1 : World} {lo hi : Nat} {A : Option Addr} {l : List α} (h : RdR w lo hi A l) (g : Tch T w w1) (hr : ∀ k, T k → k < lo ∨ hi ≤ k) : RdR w1 lo hi A l := ⟨h.len, h.row.tch g hr⟩
theorem RdII.tch {T : Nat → Prop} {w w1 : World} {lo hi : Nat} {A : Option Addr} {l : List (List Int)} (h : RdII w lo hi A l) (g : Tch T w w1) (hr : ∀ k, T k → k < lo ∨ hi ≤ k) : RdII w1 lo hi A l := by
  obtain ⟨hl, R, C, h1, h2⟩ := h
  exact ⟨hl, R, C, h1.tch g hr, fun i hi => ⟨(h2 i hi).1, (h2 i hi).2.tch g hr⟩⟩
theorem RdG.tch {T : Nat → Prop} {w w1 : World} {lo hi : Nat} {A0 A1 A2 : Option Addr} {c0 c1 c2 : Nat} {G : GameL} (h : RdG w lo hi A0 A1 A2 c0 c1 c2 G) (g : Tch T w w1) (hr : ∀ k, T k → k < lo ∨ hi ≤ k) : RdG w1 lo hi A0 A1 A2 c0 c1 c2 G :=
  ⟨h.ow.tch g hr, h.pr.tch g hr, h.mv.tch g hr, h.k0, h.k1, h.k2⟩
theorem orN_mono {T : Nat → Prop} {n m k : Nat} (h : orN T n k) (hm : m ≤ n) : orN T m k := h.elim .inl (fun h => .inr (by omega))
/-- Rows that a call makes, as rows that one may turn: where they lie is told by T. -/
theorem OwnR.toP {α : Type} [Enc α] {w : World} {S T : Nat → Prop} {os : List (Option Nat)} {n : Nat} {A : Option Addr} {c : Nat} {e : TypeId} {l : List α} (h : OwnR w S A c e l) (hi : ∀ g, g < w.heap.size → S g → SxP T os g) : OwnR w (SxP (orN T n) os) A c e l :=
  h.imp (fun g hg hs => by
    have h2 := hi g hg hs
    clear hi hs h
    induction os with
    | nil => exact .inl h2
    | cons o os ih => exact ⟨h2.1, ih h2.2⟩)
theorem SxP.toN {T : Nat → Prop} {n g : Nat} : ∀ {os : List (Option Nat)}, SxP T os g → SxP (orN T n) os g
  | [], h => .inl h
  | _ :: _, h => ⟨h.1, SxP.toN h.2⟩
theorem OwnLLP.toP {w : World} {U T : Nat → Prop} {os os' : List (Option Nat)} {n : Nat} {A : Option Addr} {c : Nat} {e e2 : TypeId} {ls : List (List Int)} (h : OwnLLP w U os' A c e e2 ls) (hi : ∀ g, g < w.heap.size → SxP U os' g → SxP T os g) : OwnLLP w (orN T n) os A c e e2 ls :=
  h.imp (fun g hg hs => SxP.toN (hi g hg hs))
/-- Another row takes the place of one. -/
theorem storeLLn {w : World} {T_ : Nat → Prop} {os : List (Option Nat)} {A : Option Addr} {c : Nat} {e e2 : TypeId} {ls : List (List Int)} {P : Program} {l : List (Nat × Value)} {ops : List Oper} {k : Nat} {t : TypeId} {i : Int} {ad : Addr} {X : Option Addr} {n C : Nat} {xs : List Int}
    (ha : storeAtL l ops k = some (t, .pointer (some (ad.add (i.toNat * 1))), .slice X n C)) (hok : storeOkX P t [.slice X n C] = true) (hA : A = some ad) (h : OwnLLP w T_ (obk X :: os) A c e e2 ls) (hX : OwnR w (SxP T_ os) X C e2 xs) (hn : n = xs.length) (h0 : 0 ≤ i) (h1 : i < (ls.length : Int)) :
    ActOp P l ops k w fun d' v' w1 => d' = none ∧ w.grownBy w1 (obk A) ∧ OwnLLP w1 T_ os A c e e2 (ls.set i.toNat xs) := by
  subst hn
  have hlt : i.toNat < ls.length := by omega
  obtain ⟨rs, hl, ho, hi, hd⟩ := h
  obtain ⟨o, ho1, ho2, nx, v, w1, hr, hg, hdst, hgr, hO⟩ := storeR (α := SliceV) (x := ⟨X, xs.length, C⟩) ha rfl rfl hok hA ho h0 (by omega)
  have hXA : ∀ b, obk X = some b → obk A ≠ some b := fun b hb hA' => (ho.inS b hA').1 hb
  refine ⟨o, ho1, ho2, nx, v, w1, hr, hg, hdst, hgr, rs.set i.toNat ⟨X, xs.length, C⟩, by rw [List.length_set, List.length_set]; exact hl, hO.imp (fun k hk hs => hs.2), fun j hj => ?_, fun j k hj hk hjk b hb => ?_⟩
  · rw [List.length_set] at hj
    rw [gS_set (by omega), getD_setL hlt]
    by_cases hji : i.toNat = j
    · rw [if_pos hji, if_pos hji]
      refine ⟨rfl, ?_⟩
      exact (hX.self.gr hgr (fun k hk => hXA k hk.2)).imp (fun k hk hs => ⟨hXA k hs.2, hs.1⟩)
    · rw [if_neg hji, if_neg hji]
      have := hi j hj
      exact ⟨this.1, (this.2.gr hgr (fun k hk => hk.1)).imp (fun k hk hs => ⟨hs.1, hs.2.2⟩)⟩
  · rw [List.length_set] at hj hk
    rw [gS_set (by omega)] at hb ⊢
    by_cases hji : i.toNat = j
    · rw [if_pos hji] at hb
      rw [if_neg (fun e => hjk (hji.symm.trans e))]
      intro hk2
      exact ((hi k hk).2.inS b hk2).2.1 hb
    · rw [if_neg hji] at hb
      by_cases hki : i.toNat = k
      · rw [if_pos hki]
        intro hk2
        exact ((hi j hj).2.inS b hb).2.1 hk2
      · rw [if_neg hki]
        exact hd j k hj hk hjk b hb
theorem OwnR.reS {α : Type} [Enc α] {w w1 : World} {S : Nat → Prop} {A : Option Addr} {c : Nat} {e : TypeId} {l l' : List α} (h : OwnR w S A c e l) (h' : OwnR w1 (fun _ => True) A c e l') : OwnR w1 S A c e l' := h'.self.imp (fun g hg hs => h.inS g hs.2)
theorem HoldsC.tch {T : Nat → Prop} {Cs : List (Addr × Value)} {w w1 : World} (h : HoldsC Cs w) (g : Tch T w w1) (hne : AllP (Cs.map fun p => ¬ T p.1.block)) : HoldsC Cs w1 :=
  AllP_map (fun p hp hc => g.cell hc (AllP_mem hne p hp)) h
theorem Tch.gn {T : Nat → Prop} {w0 w w1 : World} (h : Tch T w0 w) (g : w.grownBy w1 none) : Tch T w0 w1 := h.gr g (fun _ h => by cases h)
theorem OwnR.gn {α : Type} [Enc α] {w w1 : World} {S : Nat → Prop} {A : Option Addr} {c : Nat} {e : TypeId} {l : List α} (h : OwnR w S A c e l) (g : w.grownBy w1 none) : OwnR w1 S A c e l := h.gr g (fun _ _ h => by cases h)
theorem OwnR.grN {α : Type} [Enc α] {w w1 : World} {T : Nat → Prop} {os : List (Option Nat)} {A : Option Addr} {c : Nat} {e : TypeId} {l : List α} (h : OwnR w (SxP T os) A c e l) (g : w.grownBy w1 none) : OwnR w1 (SxP T (some w.heap.size :: os)) A c e l :=
  h.grA g (fun _ _ h => by cases h) (fun k hk hs => ⟨fun e => by injection e; omega, hs⟩)
theorem OwnLLP.gn {w w1 : World} {U : Nat → Prop} {os : List (Option Nat)} {A : Option Addr} {c : Nat} {e e2 : TypeId} {ls : List (List Int)} (h : OwnLLP w U os A c e e2 ls) (g : w.grownBy w1 none) : OwnLLP w1 U os A c e e2 ls := h.gr g (fun _ _ h => by cases h)
theorem OwnLLP.grN {w w1 : World} {U : Nat → Prop} {os : List (Option Nat)} {A : Option Addr} {c : Nat} {e e2 : TypeId} {ls : List (List Int)} (h : OwnLLP w U os A c e e2 ls) (g : w.grownBy w1 none) : OwnLLP w1 U (some w.heap.size :: os) A c e e2 ls :=
  h.grA g (fun _ _ h => by cases h) (fun k hk hs => ⟨fun e => by injection e; omega, hs⟩)
theorem HoleLLP.gn {w w1 : World} {U : Nat → Prop} {os : List (Option Nat)} {A : Option Addr} {c : Nat} {e e2 : TypeId} {ls : List (List Int)} {i : Nat} {R : Option Addr} (h : HoleLLP w U os A c e e2 ls i R) (g : w.grownBy w1 none) : HoleLLP w1 U os A c e e2 ls i R := h.gr g (fun _ _ h => by cases h)
theorem HoleLLP.grN {w w1 : World} {U : Nat → Prop} {os : List (Option Nat)} {A : Option Addr} {c : Nat} {e e2 : TypeId} {ls : List (List Int)} {i : Nat} {R : Option Addr} (h : HoleLLP w U os A c e e2 ls i R) (g : w.grownBy w1 none) : HoleLLP w1 U (some w.heap.size :: os) A c e e2 ls i R :=
  h.grA g (fun _ _ h => by cases h) (fun k hk hs => ⟨fun e => by injection e; omega, hs⟩)
theorem inner_set {ls : List (List Int)} {k : Nat} {xs : List Int} (h : ∀ i, i < ls.length → (ls.getD i []).length * 8 ≤ 140737488351232) (hx : xs.length * 8 ≤ 140737488351232) : ∀ i, i < (ls.set k xs).length → ((ls.set k xs).getD i []).length * 8 ≤ 140737488351232 := by
  intro i hi
  rw [List.length_set] at hi
  simp only [List.getD_eq_getElem?_getD, List.getElem?_set]
  split
  · split
    · simpa using hx
    · simp
  · have := h i hi
    simpa [List.getD_eq_getElem?_getD] using this
end Go.Proofs.Ytklbpajmoklheaa
