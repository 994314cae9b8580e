/-
  Texts of this repo, laid together: the frame of the walks, plain lemmas, walks of Go functions. Conditions: what the theorems name.
-/
import Derived.Laws.Cells
import Derived.Lib.TrailingZeros
import Derived.Test.YtkkophhnliplhaaDoorZ0
set_option linter.unusedVariables false
set_option linter.unusedSimpArgs false
namespace Go.Proofs.YtkkophhnliplhaaDoor
open Go Go.RowKit
def gS (rs : List SliceV) (i : Nat) : SliceV := rs.getD i ⟨none, 0, 0⟩
def OwnLLP (w : World) (T_ : Nat → Prop) (os : List (Option Nat)) (A : Option Addr) (c : Nat) (e e2 : TypeId) (ls : List (List Int)) : Prop :=
  ∃ rs : List SliceV, rs.length = ls.length ∧ OwnR w (SxP T_ os) A c e rs ∧
    (∀ i, i < ls.length → (gS rs i).n = (ls.getD i []).length ∧ OwnR w (SxP T_ (obk A :: os)) (gS rs i).A (gS rs i).c e2 (ls.getD i [])) ∧
    ∀ i j, i < ls.length → j < ls.length → i ≠ j → ∀ k, obk (gS rs i).A = some k → obk (gS rs j).A ≠ some k
structure RowSP (T_ : Nat → Prop) (os : List (Option Nat)) (A : Option Addr) : Prop where
  inS : ∀ k, obk A = some k → SxP T_ os k
theorem RowSP.neb {T_ : Nat → Prop} {os : List (Option Nat)} {A : Option Addr} (h : RowSP T_ os A) {b : Nat} (hb : ∀ g, SxP T_ os g → some b ≠ some g) : obk A ≠ some b := fun e => hb b (h.inS b e) rfl
section
variable {w w1 : World} {T_ : Nat → Prop} {os : List (Option Nat)} {A : Option Addr} {c : Nat} {e e2 : TypeId} {ls : List (List Int)}
theorem OwnLLP.gr {row : Option Nat} (h : OwnLLP w T_ os A c e e2 ls) (g : w.grownBy w1 row) (hr : ∀ k, SxP T_ os k → row ≠ some k) : OwnLLP w1 T_ os A c e e2 ls := by
  obtain ⟨rs, hl, ho, hi, hd⟩ := h
  exact ⟨rs, hl, ho.gr g hr, fun i hi' => ⟨(hi i hi').1, (hi i hi').2.gr g (fun k hk => hr k hk.2)⟩, hd⟩
theorem OwnLLP.grA {row : Option Nat} {os' : List (Option Nat)} (h : OwnLLP w T_ os A c e e2 ls) (g : w.grownBy w1 row) (hr : ∀ k, SxP T_ os k → row ≠ some k) (hi : ∀ k, k < w.heap.size → SxP T_ os k → SxP T_ os' k) : OwnLLP w1 T_ os' A c e e2 ls := by
  obtain ⟨rs, hl, ho, hin, hd⟩ := h
  exact ⟨rs, hl, ho.grA g hr hi, fun i hi' => ⟨(hin i hi').1, (hin i hi').2.grA g (fun k hk => hr k hk.2) (fun k hk hs => ⟨hs.1, hi k hk hs.2⟩)⟩, hd⟩
theorem OwnLLP.imp {T' : Nat → Prop} {os' : List (Option Nat)} (h : OwnLLP w T_ os A c e e2 ls) (hi : ∀ k, k < w.heap.size → SxP T_ os k → SxP T' os' k) : OwnLLP w T' os' A c e e2 ls := by
  obtain ⟨rs, hl, ho, hin, hd⟩ := h
  exact ⟨rs, hl, ho.imp hi, fun i hi' => ⟨(hin i hi').1, (hin i hi').2.imp (fun k hk hs => ⟨hs.1, hi k hk hs.2⟩)⟩, hd⟩
theorem OwnLLP.ne_new (h : OwnLLP w T_ os A c e e2 ls) : obk A ≠ some w.heap.size := by
  obtain ⟨rs, hl, ho, hin, hd⟩ := h
  exact ho.ne_new
theorem OwnLLP.neb (h : OwnLLP w T_ os A c e e2 ls) {b : Nat} (hb : ∀ g, SxP T_ os g → some b ≠ some g) : obk A ≠ some b := by
  obtain ⟨rs, hl, ho, hin, hd⟩ := h
  exact ho.neb hb
theorem OwnLLP.inS (h : OwnLLP w T_ os A c e e2 ls) : ∀ k, obk A = some k → SxP T_ os k := by
  obtain ⟨rs, hl, ho, hin, hd⟩ := h
  exact ho.inS
theorem OwnLLP.nil : OwnLLP w T_ os none 0 e e2 [] := ⟨[], rfl, OwnR.nil, fun i hi => by simp at hi, fun i j hi => by simp at hi⟩
theorem gS_set {rs : List SliceV} {i j : Nat} {v : SliceV} (hi : i < rs.length) : gS (rs.set i v) j = if i = j then v else gS rs j := by
  simp only [gS, List.getD_eq_getElem?_getD, List.getElem?_set]
  by_cases h : i = j
  · subst h
    rw [if_pos rfl, if_pos rfl, if_pos hi]
    rfl
  · rw [if_neg h, if_neg h]
theorem getD_setL {ls : List (List Int)} {i j : Nat} {v : List Int} (hi : i < ls.length) : (ls.set i v).getD j [] = if i = j then v else ls.getD j [] := by
  simp only [List.getD_eq_getElem?_getD, List.getElem?_set]
  by_cases h : i = j
  · subst h
    rw [if_pos rfl, if_pos rfl, if_pos hi]
    rfl
  · rw [if_neg h, if_neg h]
def HoleLLP (w : World) (T_ : Nat → Prop) (os : List (Option Nat)) (A : Option Addr) (c : Nat) (e e2 : TypeId) (ls : List (List Int)) (i : Nat) (B : Option Addr) : Prop :=
  ∃ rs : List SliceV, rs.length = ls.length ∧ OwnR w (SxP T_ (obk B :: os)) A c e rs ∧
    (∀ j, j < ls.length → j ≠ i → (gS rs j).n = (ls.getD j []).length ∧ OwnR w (SxP T_ (obk B :: obk A :: os)) (gS rs j).A (gS rs j).c e2 (ls.getD j [])) ∧
    ∀ j k, j < ls.length → k < ls.length → j ≠ i → k ≠ i → j ≠ k → ∀ b, obk (gS rs j).A = some b → obk (gS rs k).A ≠ some b
theorem OwnLLP.get (h : OwnLLP w T_ os A c e e2 ls) (i : Int) (h0 : 0 ≤ i) (h1 : i < (ls.length : Int)) :
    ∃ ad R C, A = some ad ∧ ad.block < w.heap.size ∧ w.cell? (ad.add (i.toNat * 1)) = some (.slice R (gL ls i).length C) ∧ OwnR w (SxP T_ (obk A :: os)) R C e2 (gL ls i) ∧ HoleLLP w T_ os A c e e2 ls i.toNat R := by
  obtain ⟨rs, hl, ho, hi, hd⟩ := h
  have hlt : i.toNat < ls.length := by omega
  obtain ⟨ad, hA, hb, hc, _⟩ := ho.get i h0 (by omega) (sz := 1) rfl
  obtain ⟨hn, hR⟩ := hi i.toNat hlt
  have hne : obk A ≠ none → True := fun _ => trivial
  refine ⟨ad, (gS rs i.toNat).A, (gS rs i.toNat).c, hA, hb, ?_, hR, rs, hl, ?_, fun j hj hji => ?_, fun j k hj hk hji hki hjk => hd j k hj hk hjk⟩
  · rw [hc]
    show some (Value.slice (gS rs i.toNat).A (gS rs i.toNat).n (gS rs i.toNat).c) = _
    rw [hn]
    rfl
  · have hA' := ho.inS
    have h2 : OwnR w (fun k => SxP T_ os k ∧ obk A = some k) A c e rs := by
      refine ⟨ho.1, ?_⟩
      rcases ho.2 with h2 | ⟨g, o, cur, e1, hS, r⟩
      · exact .inl h2
      · exact .inr ⟨g, o, cur, e1, ⟨hS, by rw [e1]; rfl⟩, r⟩
    refine h2.imp (fun k hk hs => ⟨fun e => ?_, hs.1⟩)
    exact (hR.inS k e).1 hs.2
  · have hj' := (hi j hj).2
    have h2 : OwnR w (fun k => SxP T_ (obk A :: os) k ∧ obk (gS rs j).A = some k) (gS rs j).A (gS rs j).c e2 (ls.getD j []) := by
      refine ⟨hj'.1, ?_⟩
      rcases hj'.2 with h2 | ⟨g, o, cur, e1, hS, r⟩
      · exact .inl h2
      · exact .inr ⟨g, o, cur, e1, ⟨hS, by rw [e1]; rfl⟩, r⟩
    exact ⟨(hi j hj).1, h2.imp (fun k hk hs => ⟨fun e => hd i.toNat j hlt hj (fun e' => hji e'.symm) k e hs.2, hs.1⟩)⟩
theorem OwnR.gr2 {α : Type} [Enc α] {S : Nat → Prop} {l : List α} {row : Option Nat} (h : OwnR w S A c e l) (g : w.grownBy w1 row) (hr : ∀ k, obk A = some k → row ≠ some k) : OwnR w1 S A c e l := by
  refine ⟨h.1, ?_⟩
  rcases h.2 with h2 | ⟨b, o, cur, e1, hS, hg, r⟩
  · exact .inl h2
  · exact .inr ⟨b, o, cur, e1, hS, by rw [g.block b (Array.getElem?_eq_some_iff.1 hg).1 (fun e' => hr b (by rw [e1]; rfl) e'.symm)]; exact hg, r⟩
theorem HoleLLP.moved {i : Nat} {R R' : Option Addr} (h : HoleLLP w T_ os A c e e2 ls i R) (g : w.grownBy w1 (obk R)) (hA : R' = R ∨ R' = some ⟨w.heap.size, 0, none⟩) : HoleLLP w1 T_ os A c e e2 ls i R' := by
  obtain ⟨rs, hl, ho, hi, hd⟩ := h
  exact ⟨rs, hl, ho.grA g (fun k hk => hk.1) (fun k hk hs => ⟨own_repl hA hs.1 hk, hs.2⟩), fun j hj hji => ⟨(hi j hj hji).1, (hi j hj hji).2.grA g (fun k hk => hk.1) (fun k hk hs => ⟨own_repl hA hs.1 hk, hs.2⟩)⟩, hd⟩
theorem HoleLLP.gr {i : Nat} {R : Option Addr} {row : Option Nat} (h : HoleLLP w T_ os A c e e2 ls i R) (g : w.grownBy w1 row) (hr : ∀ k, SxP T_ os k → row ≠ some k) : HoleLLP w1 T_ os A c e e2 ls i R := by
  obtain ⟨rs, hl, ho, hi, hd⟩ := h
  exact ⟨rs, hl, ho.gr g (fun k hk => hr k hk.2), fun j hj hji => ⟨(hi j hj hji).1, (hi j hj hji).2.gr g (fun k hk => hr k hk.2.2)⟩, hd⟩
theorem HoleLLP.row {i : Nat} {R : Option Addr} (h : HoleLLP w T_ os A c e e2 ls i R) : RowSP T_ os A := by
  obtain ⟨rs, hl, ho, hin, hd⟩ := h
  exact ⟨fun k hk => (ho.inS k hk).2⟩
theorem HoleLLP.grA {i : Nat} {R : Option Addr} {row : Option Nat} {os' : List (Option Nat)} (h : HoleLLP w T_ os A c e e2 ls i R) (g : w.grownBy w1 row) (hr : ∀ k, SxP T_ os k → row ≠ some k) (hi : ∀ k, k < w.heap.size → SxP T_ os k → SxP T_ os' k) : HoleLLP w1 T_ os' A c e e2 ls i R := by
  obtain ⟨rs, hl, ho, hin, hd⟩ := h
  exact ⟨rs, hl, ho.grA g (fun k hk => hr k hk.2) (fun k hk hs => ⟨hs.1, hi k hk hs.2⟩), fun j hj hji => ⟨(hin j hj hji).1, (hin j hj hji).2.grA g (fun k hk => hr k hk.2.2) (fun k hk hs => ⟨hs.1, hs.2.1, hi k hk hs.2.2⟩)⟩, hd⟩
theorem HoleLLP.imp {i : Nat} {R : Option Addr} {os' : List (Option Nat)} (h : HoleLLP w T_ os A c e e2 ls i R) (hi : ∀ k, k < w.heap.size → SxP T_ os k → SxP T_ os' k) : HoleLLP w T_ os' A c e e2 ls i R := h.grA (row := none) (gr_refl w none) (fun _ _ h => by cases h) hi
theorem storeLL {P : Program} {l : List (Nat × Value)} {ops : List Oper} {k : Nat} {t : TypeId} {i : Int} {ad : Addr} {R : Option Addr} {n C : Nat} {xs : List Int} (ha : storeAtL l ops k = some (t, .pointer (some (ad.add (i.toNat * 1))), .slice R n C)) (hok : storeOkX P t [.slice R n C] = true) (hA : A = some ad)
    (h : HoleLLP w T_ os A c e e2 ls i.toNat R) (hR : OwnR w (SxP T_ (obk A :: os)) R C e2 xs) (hn : n = xs.length) (h0 : 0 ≤ i) (h1 : i < (ls.length : Int)) :
    ActOp P l ops k w fun d' v' w1 => d' = none ∧ w.grownBy w1 (obk A) ∧ OwnLLP w1 T_ os A c e e2 (ls.set i.toNat xs) := by
  subst hn
  have hlt : i.toNat < ls.length := by omega
  obtain ⟨rs, hl, ho, hi, hd⟩ := h
  obtain ⟨o, ho1, ho2, nx, v, w1, hr, hg, hdst, hgr, hO⟩ := storeR (α := SliceV) (x := ⟨R, xs.length, C⟩) ha rfl rfl hok hA ho h0 (by omega)
  refine ⟨o, ho1, ho2, nx, v, w1, hr, hg, hdst, hgr, rs.set i.toNat ⟨R, xs.length, C⟩, by rw [List.length_set, List.length_set]; exact hl, hO.imp (fun k hk hs => hs.2), fun j hj => ?_, fun j k hj hk hjk b hb => ?_⟩
  · rw [List.length_set] at hj
    rw [gS_set (by omega), getD_setL hlt]
    by_cases hji : i.toNat = j
    · rw [if_pos hji, if_pos hji]
      exact ⟨rfl, hR.gr hgr (fun k hk => hk.1)⟩
    · rw [if_neg hji, if_neg hji]
      have := hi j hj (fun e => hji e.symm)
      exact ⟨this.1, (this.2.gr hgr (fun k hk => hk.2.1)).imp (fun k hk hs => hs.2)⟩
  · rw [List.length_set] at hj hk
    rw [gS_set (by omega)] at hb ⊢
    by_cases hji : i.toNat = j
    · rw [if_pos hji] at hb
      rw [if_neg (fun e => hjk (hji.symm.trans e))]
      intro hk2
      exact ((hi k hk (fun e => hjk (hji.symm.trans e.symm))).2.inS b hk2).1 hb
    · rw [if_neg hji] at hb
      by_cases hki : i.toNat = k
      · rw [if_pos hki]
        intro hk2
        exact ((hi j hj (fun e => hji e.symm)).2.inS b hb).1 hk2
      · rw [if_neg hki]
        exact hd j k hj hk (fun e => hji e.symm) (fun e => hki e.symm) hjk b hb
theorem storeIn {P : Program} {l : List (Nat × Value)} {ops : List Oper} {k : Nat} {t : TypeId} {i j : Int} {ad adO : Addr} {R : Option Addr} {n C : Nat} {x : Int} (ha : storeAtL l ops k = some (t, .pointer (some (ad.add (j.toNat * 1))), .int .i64 x)) (hok : storeOkX P t [.int .i64 x] = true) (hA : R = some ad)
    (h : OwnLLP w T_ os A c e e2 ls) (hAO : A = some adO) (hc : w.cell? (adO.add (i.toNat * 1)) = some (.slice R n C)) (h0 : 0 ≤ i) (h1 : i < (ls.length : Int)) (j0 : 0 ≤ j) (j1 : j < ((gL ls i).length : Int)) :
    ActOp P l ops k w fun d' v' w1 => d' = none ∧ w.grownBy w1 (obk R) ∧ OwnLLP w1 T_ os A c e e2 (ls.set i.toNat ((gL ls i).set j.toNat x)) := by
  have hlt : i.toNat < ls.length := by omega
  obtain ⟨rs, hl, ho, hi, hd⟩ := h
  obtain ⟨ad2, hA2, _, hc2, _⟩ := ho.get i h0 (by omega) (sz := 1) rfl
  obtain rfl : adO = ad2 := Option.some.inj (hAO.symm.trans hA2)
  have hv : (Value.slice R n C) = Value.slice (gS rs i.toNat).A (gS rs i.toNat).n (gS rs i.toNat).c := Option.some.inj (hc.symm.trans hc2)
  injection hv with hv1 hv2 hv3
  obtain ⟨hn, hR⟩ := hi i.toNat hlt
  rw [← hv1] at hR
  obtain ⟨o, ho1, ho2, nx, v, w1, hr, hg, hdst, hgr, hO⟩ := storeR (α := Int) (x := x) ha rfl rfl hok hA hR j0 j1
  refine ⟨o, ho1, ho2, nx, v, w1, hr, hg, hdst, hgr, rs, by rw [List.length_set]; exact hl, ho.gr2 hgr (fun q e e2 => (hR.inS q e2).1 e), fun q hq => ?_, fun q s hq hs hqs b hb => ?_⟩
  · rw [List.length_set] at hq
    rw [getD_setL hlt]
    by_cases hqi : i.toNat = q
    · subst hqi
      rw [if_pos rfl]
      refine ⟨by rw [List.length_set]; exact hn, ?_⟩
      rw [← hv1]
      exact hO
    · rw [if_neg hqi]
      refine ⟨(hi q hq).1, (hi q hq).2.gr2 hgr (fun b e e2 => ?_)⟩
      rw [hv1] at e2
      exact hd i.toNat q hlt hq hqi b e2 e
  · rw [List.length_set] at hq hs
    exact hd q s hq hs hqs b hb
theorem gS_append {rs : List SliceV} {v : SliceV} {j : Nat} (hj : j < rs.length + 1) : gS (rs ++ [v]) j = if j < rs.length then gS rs j else v := by
  simp only [gS, List.getD_eq_getElem?_getD]
  by_cases h : j < rs.length
  · rw [if_pos h, List.getElem?_append_left h]
  · rw [if_neg h, List.getElem?_append_right (by omega), show j - rs.length = 0 by omega]
    rfl
theorem getD_appendL {ls : List (List Int)} {v : List Int} {j : Nat} (hj : j < ls.length + 1) : (ls ++ [v]).getD j [] = if j < ls.length then ls.getD j [] else v := by
  simp only [List.getD_eq_getElem?_getD]
  by_cases h : j < ls.length
  · rw [if_pos h, List.getElem?_append_left h]
  · rw [if_neg h, List.getElem?_append_right (by omega), show j - ls.length = 0 by omega]
    rfl
theorem OwnR.ll {n : Nat} (h : OwnR w (SxP T_ os) A c e (List.replicate n (⟨none, 0, 0⟩ : SliceV))) : OwnLLP w T_ os A c e e2 (List.replicate n []) := by
  refine ⟨_, by rw [List.length_replicate, List.length_replicate], h, fun i hi => ?_, fun i j hi hj hij k hk => ?_⟩
  · have e1 : gS (List.replicate n (⟨none, 0, 0⟩ : SliceV)) i = ⟨none, 0, 0⟩ := by simp only [gS, List.getD_eq_getElem?_getD, List.getElem?_replicate]; split <;> rfl
    have e2 : (List.replicate n ([] : List Int)).getD i [] = [] := by simp only [List.getD_eq_getElem?_getD, List.getElem?_replicate]; split <;> rfl
    rw [e1, e2]
    exact ⟨rfl, OwnR.nil⟩
  · have e1 : gS (List.replicate n (⟨none, 0, 0⟩ : SliceV)) i = ⟨none, 0, 0⟩ := by simp only [gS, List.getD_eq_getElem?_getD, List.getElem?_replicate]; split <;> rfl
    rw [e1] at hk
    cases hk
theorem appendLL {P : Program} {l : List (Nat × Value)} {ops : List Oper} {k d : Nat} {t n m cc bytes b2 : Nat} {X : Option Addr} {C : Nat} {xs : List Int} (hn : n = ls.length) (ha : appAt l ops k = some (t, .slice A n c, .slice (some ⟨b2, 0, none⟩) 1 cc, some d)) (hok : elemOk P t e 1 bytes = true) {T : TypeId}
    (hs : Bx w b2 [.slice X xs.length C] T) (h : OwnLLP w T_ (obk X :: os) A c e e2 ls) (hX : OwnR w (SxP T_ os) X C e2 xs) (hos : SxP T_ os w.heap.size) (hb : (ls.length + 1) * bytes ≤ 140737488355328) (h63 : ls.length + 1 ≤ 9223372036854775807) :
    ActOp P l ops k w fun d' v w1 => d' = some d ∧ ∃ A' c', v = .slice A' (ls ++ [xs]).length c' ∧ w.grownBy w1 (obk A) ∧ (A' = A ∨ A' = some ⟨w.heap.size, 0, none⟩) ∧ OwnLLP w1 T_ os A' c' e e2 (ls ++ [xs]) := by
  obtain ⟨rs, hrl, ho, hin, hd⟩ := h
  obtain ⟨o, ho1, ho2, nx, v, w1, hr, hg, hdst, A', c', hap⟩ := appendR (α := SliceV) (xs := rs) (ys := [⟨X, xs.length, C⟩]) (by rw [hn, hrl]) rfl ha rfl hok ho (Bx.srcR hs rfl) (by rw [hrl]; exact hb) (by rw [hrl]; exact h63)
  have hXne : obk X ≠ some w.heap.size := hX.ne_new
  have hXA : ∀ k, obk X = some k → obk A ≠ some k := fun k hk hA => (ho.inS k hA).1 hk
  refine ⟨o, ho1, ho2, nx, v, w1, hr, hg, hdst, A', c', ?_, hap.gr, hap.at_, rs ++ [⟨X, xs.length, C⟩], by simp [hrl], ?_, fun j hj => ?_, fun i j hi hj hij k hk => ?_⟩
  · rw [hap.val]
    simp [hrl]
  · exact hap.own (SxP T_ os) (fun g _ hs => hs.2) hos
  · rw [List.length_append, List.length_singleton] at hj
    rw [gS_append (by omega), getD_appendL hj, hrl]
    by_cases hjl : j < ls.length
    · rw [if_pos hjl, if_pos hjl]
      obtain ⟨h1, h2⟩ := hin j hjl
      exact ⟨h1, h2.grA hap.gr (fun k hk => hk.1) (fun k hk hs => ⟨own_repl hap.at_ hs.1 hk, hs.2.2⟩)⟩
    · rw [if_neg hjl, if_neg hjl]
      refine ⟨rfl, ?_⟩
      have h2 : OwnR w (fun k => SxP T_ os k ∧ obk X = some k) X C e2 xs := by
        refine ⟨hX.1, ?_⟩
        rcases hX.2 with h2 | ⟨g, o, cur, e1, hS, r⟩
        · exact .inl h2
        · exact .inr ⟨g, o, cur, e1, ⟨hS, by rw [e1]; rfl⟩, r⟩
      exact h2.grA hap.gr (fun k hk => hXA k hk.2) (fun k hk hs => ⟨own_repl hap.at_ (hXA k hs.2) hk, hs.1⟩)
  · rw [List.length_append, List.length_singleton] at hi hj
    rw [gS_append (by omega), hrl] at hk ⊢
    by_cases hil : i < ls.length
    · rw [if_pos hil] at hk
      by_cases hjl : j < ls.length
      · rw [if_pos hjl]
        exact hd i j hil hjl hij k hk
      · rw [if_neg hjl]
        exact ((hin i hil).2.inS k hk).2.1
    · rw [if_neg hil] at hk
      rw [if_pos (by omega)]
      intro hk2
      exact ((hin j (by omega)).2.inS k hk2).2.1 hk
end
abbrev OwnLL (w : World) (base : Nat) := OwnLLP w (fun g => base ≤ g)
abbrev HoleLL (w : World) (base : Nat) := HoleLLP w (fun g => base ≤ g)
abbrev RowS (base : Nat) := RowSP (fun g => base ≤ g)
theorem RowSP.ge {base : Nat} {os : List (Option Nat)} {A : Option Addr} (h : RowS base os A) : ∀ k, obk A = some k → base ≤ k := fun k hk => Sx_base (h.inS k hk)
section
variable {w w1 : World} {base : Nat} {os : List (Option Nat)} {A : Option Addr} {c : Nat} {e e2 : TypeId} {ls : List (List Int)}
theorem OwnLL.nil : OwnLL w base os none 0 e e2 [] := OwnLLP.nil
theorem OwnLLP.ge (h : OwnLL w base os A c e e2 ls) : ∀ k, obk A = some k → base ≤ k := by
  obtain ⟨rs, hl, ho, hin, hd⟩ := h
  exact ho.ge
theorem OwnLLP.rdII (h : OwnLL w base os A c e e2 ls) (hl : ls.length * 24 ≤ 140737488351232) (hi : ∀ i, i < ls.length → (ls.getD i []).length * 8 ≤ 140737488351232) : RdII w base w.heap.size A ls := by
  obtain ⟨rs, hrl, ho, hin, hd⟩ := h
  refine ⟨hl, fun i => (gS rs i).A, fun i => (gS rs i).c, fun i q hi' hq => ?_, fun i hi' => ?_⟩
  · have hr := ho.rdR (by rw [hrl]; exact hl)
    have := hr.row i q (by omega) hq
    obtain rfl : q = 0 := by omega
    obtain ⟨ad, hA, h1, h2, hc⟩ := this
    refine ⟨ad, hA, h1, h2, ?_⟩
    have e1 : (fun i q => (Enc.enc (rs.getD i Enc.d)).getD q undef) i 0 = Value.slice (gS rs i).A (gS rs i).n (gS rs i).c := rfl
    rw [e1, (hin i hi').1] at hc
    exact hc
  · exact ⟨(hin i hi').2.cap, ((hin i hi').2.rdR (hi i hi')).rdI⟩
end
end Go.Proofs.YtkkophhnliplhaaDoor
namespace Go.Proofs.YtkkophhnliplhaaDoor
open Go Go.RowKit
theorem rdI_nil {w : World} {lo hi : Nat} : RdI w lo hi none [] := ⟨by simp, fun i q hi' hq => by simp at hi'⟩
theorem rdI_isNone {w : World} {lo hi : Nat} {A : Option Addr} {l : List Int} (h : RdI w lo hi A l) (hA : A.isNone = true) : l = [] := by
  cases l with
  | nil => rfl
  | cons x l =>
    obtain ⟨ad, e, _⟩ := h.row 0 0 (by simp) (by omega)
    rw [e] at hA
    cases hA
theorem rdII_nil {w : World} {lo hi : Nat} : RdII w lo hi none [] := ⟨by simp, fun _ => none, fun _ => 0, fun i q hi' hq => by simp at hi', fun i hi' => by simp at hi'⟩
theorem Bx.rdI {w : World} {b : Nat} {cs : List Value} {T : TypeId} {l : List Int} (h : Bx w b cs T) (e : cs = ints l) (hl : l.length * 8 ≤ 140737488351232) : RdI w 0 w.heap.size (some ⟨b, 0, none⟩) l := by
  subst e
  refine ⟨hl, fun i q hi hq => ⟨_, rfl, Nat.zero_le _, h.lt, ?_⟩⟩
  obtain rfl : q = 0 := by omega
  rw [add_zero, Nat.mul_one, add_plain]
  refine h.cell ?_
  simp only [ints, List.getElem?_map, List.getElem?_eq_getElem hi, List.getD_eq_getElem?_getD, Option.map_some, Option.getD_some]
theorem Bx.rdR {α : Type} [Enc α] {w : World} {b : Nat} {cs : List Value} {T : TypeId} {l : List α} (h : Bx w b cs T) (e : rows l = cs) (hl : l.length * Enc.bytes α ≤ 140737488351232) : RdR w 0 w.heap.size (some ⟨b, 0, none⟩) l := by
  refine ⟨hl, fun i q hi hq => ⟨_, rfl, Nat.zero_le _, h.lt, ?_⟩⟩
  rw [add_add', add_plain]
  refine h.cell ?_
  rw [← e, rows_get l hi hq]
  exact getD_some (by rw [Enc.len]; exact hq)
def RowsC (w : World) : List Value → List (List Int) → Prop
  | [], [] => True
  | v :: cs, l :: ls => (∃ R C, v = .slice R l.length C ∧ l.length ≤ C ∧ RdI w 0 w.heap.size R l) ∧ RowsC w cs ls
  | _, _ => False
theorem RowsC.at_ {w : World} : ∀ {cs : List Value} {ls : List (List Int)}, RowsC w cs ls → ∀ i, i < ls.length → ∃ R C, cs[i]? = some (.slice R (ls.getD i []).length C) ∧ (ls.getD i []).length ≤ C ∧ RdI w 0 w.heap.size R (ls.getD i [])
  | [], [], _, i, hi => by simp at hi
  | [], _ :: _, h, _, _ => h.elim
  | _ :: _, [], h, _, _ => h.elim
  | v :: cs, l :: ls, h, 0, _ => by
    obtain ⟨⟨R, C, rfl, h1, h2⟩, _⟩ := h
    exact ⟨R, C, rfl, h1, h2⟩
  | v :: cs, l :: ls, h, i + 1, hi => by
    have := RowsC.at_ h.2 i (by simp at hi; omega)
    simpa using this
theorem Bx.rdII {w : World} {b : Nat} {cs : List Value} {T : TypeId} {ls : List (List Int)} (h : Bx w b cs T) (hr : RowsC w cs ls) (hl : ls.length * 24 ≤ 140737488351232) : RdII w 0 w.heap.size (some ⟨b, 0, none⟩) ls := by
  have hx : ∀ i, ∃ R C, i < ls.length → cs[i]? = some (.slice R (ls.getD i []).length C) ∧ (ls.getD i []).length ≤ C ∧ RdI w 0 w.heap.size R (ls.getD i []) := fun i => by
    by_cases hi : i < ls.length
    · obtain ⟨R, C, h1⟩ := hr.at_ i hi
      exact ⟨R, C, fun _ => h1⟩
    · exact ⟨none, 0, fun h => absurd h hi⟩
  refine ⟨hl, fun i => Classical.choose (hx i), fun i => Classical.choose (Classical.choose_spec (hx i)), fun i q hi hq => ⟨_, rfl, Nat.zero_le _, h.lt, ?_⟩, fun i hi => (Classical.choose_spec (Classical.choose_spec (hx i)) hi).2⟩
  obtain rfl : q = 0 := by omega
  rw [add_zero, Nat.mul_one, add_plain]
  exact h.cell (Classical.choose_spec (Classical.choose_spec (hx i)) hi).1
theorem OwnR.rdI0 {w : World} {base : Nat} {os : List (Option Nat)} {A : Option Addr} {c : Nat} {e : TypeId} {l : List Int} (h : OwnR w (Sx base os) A c e l) (hl : l.length * 8 ≤ 140737488351232) : RdI w 0 w.heap.size A l := (h.rdR hl).rdI.wide (Nat.zero_le _) (Nat.le_refl _)
theorem OwnLLP.rdII0 {w : World} {base : Nat} {os : List (Option Nat)} {A : Option Addr} {c : Nat} {e e2 : TypeId} {ls : List (List Int)} (h : OwnLL w base os A c e e2 ls) (hl : ls.length * 24 ≤ 140737488351232) (hi : ∀ i, i < ls.length → (ls.getD i []).length * 8 ≤ 140737488351232) : RdII w 0 w.heap.size A ls := (h.rdII hl hi).wide (Nat.zero_le _) (Nat.le_refl _)
theorem OwnLLP.cap {w : World} {T_ : Nat → Prop} {os : List (Option Nat)} {A : Option Addr} {c : Nat} {e e2 : TypeId} {ls : List (List Int)} (h : OwnLLP w T_ os A c e e2 ls) : ls.length ≤ c := by
  obtain ⟨rs, hl, ho, _⟩ := h
  rw [← hl]
  exact ho.cap
theorem OwnLLP.lt {w : World} {T_ : Nat → Prop} {os : List (Option Nat)} {A : Option Addr} {c : Nat} {e e2 : TypeId} {ls : List (List Int)} (h : OwnLLP w T_ os A c e e2 ls) : ∀ k, obk A = some k → k < w.heap.size := by
  obtain ⟨rs, hl, ho, _⟩ := h
  exact ho.lt
theorem OwnLLP.as {w : World} {T_ : Nat → Prop} {os : List (Option Nat)} {A : Option Addr} {c : Nat} {e e2 : TypeId} {ls ls' : List (List Int)} (h : OwnLLP w T_ os A c e e2 ls) (q : ls = ls') : OwnLLP w T_ os A c e e2 ls' := q ▸ h
theorem inner_len {w : World} {lo hi : Nat} {A : Option Addr} {ls : List (List Int)} (h : RdII w lo hi A ls) : ∀ i, i < ls.length → (ls.getD i []).length * 8 ≤ 140737488351232 := by
  obtain ⟨_, R, C, _, h2⟩ := h
  exact fun i hi => (h2 i hi).2.len
theorem takeLL_push {xs l : List (List Int)} {k : Int} (h : xs = l.take k.toNat) (h0 : 0 ≤ k) (h1 : k < (l.length : Int)) : xs ++ [gL l k] = l.take (k + 1).toNat := by
  subst h
  rw [show (k + 1).toNat = k.toNat + 1 by omega, List.take_succ_eq_append_getElem (by omega)]
  simp only [gL, List.getD_eq_getElem?_getD, List.getElem?_eq_getElem (show k.toNat < l.length by omega), Option.getD_some]
theorem takeLL_end {xs l : List (List Int)} {k : Int} (h : xs = l.take k.toNat) (h1 : (l.length : Int) ≤ k) : xs = l := by rw [h, List.take_of_length_le (by omega)]
theorem Bx.own0 {α : Type} [Enc α] {w : World} {b : Nat} {T : TypeId} {S : Nat → Prop} (h : Bx w b [] T) (hS : S b) : OwnR w S (some ⟨b, 0, none⟩) 0 T ([] : List α) := h.ownR (n := 0) (l := ([] : List α)) rfl hS (Nat.zero_le _)
end Go.Proofs.YtkkophhnliplhaaDoor
namespace Go.Proofs.YtkkophhnliplhaaDoor
open Go Go.RowKit
def orN (T : Nat → Prop) (n : Nat) (g : Nat) : Prop := T g ∨ n ≤ g
structure Tch (T : Nat → Prop) (w w1 : World) : Prop where
  os : w1.os = w.os
  tape : w1.tape = w.tape
  output : w1.output = w.output
  size : w.heap.size ≤ w1.heap.size
  block : ∀ k, k < w.heap.size → ¬ T k → w1.heap[k]? = w.heap[k]?
theorem Tch.refl {T : Nat → Prop} (w : World) : Tch T w w := ⟨rfl, rfl, rfl, Nat.le_refl _, fun _ _ _ => rfl⟩
theorem Tch.gr {T : Nat → Prop} {w0 w w1 : World} {row : Option Nat} (h : Tch T w0 w) (g : w.grownBy w1 row) (hr : ∀ k, row = some k → orN T w0.heap.size k) : Tch T w0 w1 :=
  ⟨g.os.trans h.os, g.tape.trans h.tape, g.output.trans h.output, Nat.le_trans h.size g.size, fun k hk hT => by
    rw [← h.block k hk hT]
    refine g.block k (by have := h.size; omega) (fun e => ?_)
    rcases hr k e.symm with h1 | h1
    · exact hT h1
    · omega⟩
theorem Tch.tch {T T2 : Nat → Prop} {w0 w w1 : World} (h : Tch T w0 w) (g : Tch T2 w w1) (hr : ∀ k, T2 k → orN T w0.heap.size k) : Tch T w0 w1 :=
  ⟨g.os.trans h.os, g.tape.trans h.tape, g.output.trans h.output, Nat.le_trans h.size g.size, fun k hk hT => by
    rw [← h.block k hk hT]
    refine g.block k (by have := h.size; omega) (fun e => ?_)
    rcases hr k e with h1 | h1
    · exact hT h1
    · omega⟩
theorem Tch.mono {T T2 : Nat → Prop} {w w1 : World} (h : Tch T w w1) (hi : ∀ k, k < w.heap.size → T k → T2 k) : Tch T2 w w1 :=
  ⟨h.os, h.tape, h.output, h.size, fun k hk hT => h.block k hk (fun e => hT (hi k hk e))⟩
theorem Tch.ext {T : Nat → Prop} {w0 w w1 : World} (h : Tch T w0 w) (g : Ext w w1) : Tch T w0 w1 := h.gr (gr_ext g) (fun _ h => by cases h)
theorem Ext.tch {T : Nat → Prop} {w0 w w1 : World} (h : Ext w0 w) (g : Tch T w w1) (hr : ∀ k, T k → w0.heap.size ≤ k) : Ext w0 w1 :=
  ⟨g.os.trans h.os, g.tape.trans h.tape, g.output.trans h.output, Nat.le_trans h.size g.size, fun k hk => by
    rw [← h.block k hk]
    exact g.block k (by have := h.size; omega) (fun e => by have := hr k e; omega)⟩
theorem Tch.cell {T : Nat → Prop} {w w1 : World} (g : Tch T w w1) {p : Addr} {v : Value} (hc : w.cell? p = some v) (hn : ¬ T p.block) : w1.cell? p = some v :=
  (World.cell?_of_block (w := w) (g.block p.block (World.block_lt_of_cell? _ _ hc) hn)).trans hc
theorem Bx.tch {T : Nat → Prop} {w w1 : World} {b : Nat} {cs : List Value} {t : TypeId} (h : Bx w b cs t) (g : Tch T w w1) (hn : ¬ T b) : Bx w1 b cs t := by
  have := g.block b h.lt hn
  unfold Bx at h ⊢
  rw [this]
  exact h
theorem Own.tch {T : Nat → Prop} {w w1 : World} {S : Nat → Prop} {A : Option Addr} {n c : Nat} {e : TypeId} {sz : Nat} {xs : List Value} (h : Own w S A n c e sz xs) (g : Tch T w w1) (hr : ∀ k, S k → obk A = some k → ¬ T k) : Own w1 S A n c e sz xs := by
  refine ⟨h.1, ?_⟩
  rcases h.2 with h2 | ⟨b, o, cur, hA, hS, hg, r⟩
  · exact .inl h2
  · exact .inr ⟨b, o, cur, hA, hS, by rw [g.block b (Array.getElem?_eq_some_iff.1 hg).1 (hr b hS (by rw [hA]; rfl))]; exact hg, r⟩
theorem OwnR.tch {α : Type} [Enc α] {T : Nat → Prop} {w w1 : World} {S : Nat → Prop} {A : Option Addr} {c : Nat} {e : TypeId} {l : List α} (h : OwnR w S A c e l) (g : Tch T w w1) (hr : ∀ k, S k → obk A = some k → ¬ T k) : OwnR w1 S A c e l := Own.tch h g hr
theorem OwnLLP.tch {T U : Nat → Prop} {w w1 : World} {os : List (Option Nat)} {A : Option Addr} {c : Nat} {e e2 : TypeId} {ls : List (List Int)} (h : OwnLLP w U os A c e e2 ls) (g : Tch T w w1) (hr : ∀ k, SxP U os k → ¬ T k) : OwnLLP w1 U os A c e e2 ls := by
  obtain ⟨rs, hl, ho, hin, hd⟩ := h
  exact ⟨rs, hl, ho.tch g (fun k hk _ => hr k hk), fun i hi => ⟨(hin i hi).1, (hin i hi).2.tch g (fun k hk _ => hr k hk.2)⟩, hd⟩
theorem RdV.tch {T : Nat → Prop} {w w1 : World} {lo hi : Nat} {A : Option Addr} {n sz : Nat} {f : Nat → Nat → Value} (h : RdV w lo hi A n sz f) (g : Tch T w w1) (hr : ∀ k, T k → k < lo ∨ hi ≤ k) : RdV w1 lo hi A n sz f := fun i q hi' hq => by
  obtain ⟨ad, e, h1, h2, hc⟩ := h i q hi' hq
  refine ⟨ad, e, h1, h2, g.cell hc (fun e => ?_)⟩
  rw [add_block, add_block] at e
  have := hr _ e
  omega
theorem RdI.tch {T : Nat → Prop} {w w1 : World} {lo hi : Nat} {A : Option Addr} {l : List Int} (h : RdI w lo hi A l) (g : Tch T w w1) (hr : ∀ k, T k → k < lo ∨ hi ≤ k) : RdI w1 lo hi A l := ⟨h.len, h.row.tch g hr⟩
theorem RdB.tch {T : Nat → Prop} {w w1 : World} {lo hi : Nat} {A : Option Addr} {l : List Bool} (h : RdB w lo hi A l) (g : Tch T w w1) (hr : ∀ k, T k → k < lo ∨ hi ≤ k) : RdB w1 lo hi A l := ⟨h.len, h.row.tch g hr⟩
theorem RdR.tch {α : Type} [Enc α] {T : Nat → Prop} {w w1 : World} {lo hi : Nat} {A : Option Addr} {l : List α} (h : RdR w lo hi A l) (g : Tch T w w1) (hr : ∀ k, T k → k < lo ∨ hi ≤ k) : RdR w1 lo hi A l := ⟨h.len, h.row.tch g hr⟩
theorem RdII.tch {T : Nat → Prop} {w w1 : World} {lo hi : Nat} {A : Option Addr} {l : List (List Int)} (h : RdII w lo hi A l) (g : Tch T w w1) (hr : ∀ k, T k → k < lo ∨ hi ≤ k) : RdII w1 lo hi A l := by
  obtain ⟨hl, R, C, h1, h2⟩ := h
  exact ⟨hl, R, C, h1.tch g hr, fun i hi => ⟨(h2 i hi).1, (h2 i hi).2.tch g hr⟩⟩
theorem RdG.tch {T : Nat → Prop} {w w1 : World} {lo hi : Nat} {A0 A1 A2 : Option Addr} {c0 c1 c2 : Nat} {G : GameL} (h : RdG w lo hi A0 A1 A2 c0 c1 c2 G) (g : Tch T w w1) (hr : ∀ k, T k → k < lo ∨ hi ≤ k) : RdG w1 lo hi A0 A1 A2 c0 c1 c2 G :=
  ⟨h.ow.tch g hr, h.pr.tch g hr, h.mv.tch g hr, h.k0, h.k1, h.k2⟩
theorem OwnR.toP {α : Type} [Enc α] {w : World} {S T : Nat → Prop} {os : List (Option Nat)} {n : Nat} {A : Option Addr} {c : Nat} {e : TypeId} {l : List α} (h : OwnR w S A c e l) (hi : ∀ g, g < w.heap.size → S g → SxP T os g) : OwnR w (SxP (orN T n) os) A c e l :=
  h.imp (fun g hg hs => by
    have h2 := hi g hg hs
    clear hi hs h
    induction os with
    | nil => exact .inl h2
    | cons o os ih => exact ⟨h2.1, ih h2.2⟩)
theorem SxP.toN {T : Nat → Prop} {n g : Nat} : ∀ {os : List (Option Nat)}, SxP T os g → SxP (orN T n) os g
  | [], h => .inl h
  | _ :: _, h => ⟨h.1, SxP.toN h.2⟩
theorem OwnLLP.toP {w : World} {U T : Nat → Prop} {os os' : List (Option Nat)} {n : Nat} {A : Option Addr} {c : Nat} {e e2 : TypeId} {ls : List (List Int)} (h : OwnLLP w U os' A c e e2 ls) (hi : ∀ g, g < w.heap.size → SxP U os' g → SxP T os g) : OwnLLP w (orN T n) os A c e e2 ls :=
  h.imp (fun g hg hs => SxP.toN (hi g hg hs))
theorem HoldsC.tch {T : Nat → Prop} {Cs : List (Addr × Value)} {w w1 : World} (h : HoldsC Cs w) (g : Tch T w w1) (hne : AllP (Cs.map fun p => ¬ T p.1.block)) : HoldsC Cs w1 :=
  AllP_map (fun p hp hc => g.cell hc (AllP_mem hne p hp)) h
theorem Tch.gn {T : Nat → Prop} {w0 w w1 : World} (h : Tch T w0 w) (g : w.grownBy w1 none) : Tch T w0 w1 := h.gr g (fun _ h => by cases h)
theorem OwnR.gn {α : Type} [Enc α] {w w1 : World} {S : Nat → Prop} {A : Option Addr} {c : Nat} {e : TypeId} {l : List α} (h : OwnR w S A c e l) (g : w.grownBy w1 none) : OwnR w1 S A c e l := h.gr g (fun _ _ h => by cases h)
theorem OwnR.grN {α : Type} [Enc α] {w w1 : World} {T : Nat → Prop} {os : List (Option Nat)} {A : Option Addr} {c : Nat} {e : TypeId} {l : List α} (h : OwnR w (SxP T os) A c e l) (g : w.grownBy w1 none) : OwnR w1 (SxP T (some w.heap.size :: os)) A c e l :=
  h.grA g (fun _ _ h => by cases h) (fun k hk hs => ⟨fun e => by injection e; omega, hs⟩)
theorem OwnLLP.gn {w w1 : World} {U : Nat → Prop} {os : List (Option Nat)} {A : Option Addr} {c : Nat} {e e2 : TypeId} {ls : List (List Int)} (h : OwnLLP w U os A c e e2 ls) (g : w.grownBy w1 none) : OwnLLP w1 U os A c e e2 ls := h.gr g (fun _ _ h => by cases h)
theorem OwnLLP.grN {w w1 : World} {U : Nat → Prop} {os : List (Option Nat)} {A : Option Addr} {c : Nat} {e e2 : TypeId} {ls : List (List Int)} (h : OwnLLP w U os A c e e2 ls) (g : w.grownBy w1 none) : OwnLLP w1 U (some w.heap.size :: os) A c e e2 ls :=
  h.grA g (fun _ _ h => by cases h) (fun k hk hs => ⟨fun e => by injection e; omega, hs⟩)
theorem HoleLLP.gn {w w1 : World} {U : Nat → Prop} {os : List (Option Nat)} {A : Option Addr} {c : Nat} {e e2 : TypeId} {ls : List (List Int)} {i : Nat} {R : Option Addr} (h : HoleLLP w U os A c e e2 ls i R) (g : w.grownBy w1 none) : HoleLLP w1 U os A c e e2 ls i R := h.gr g (fun _ _ h => by cases h)
theorem HoleLLP.grN {w w1 : World} {U : Nat → Prop} {os : List (Option Nat)} {A : Option Addr} {c : Nat} {e e2 : TypeId} {ls : List (List Int)} {i : Nat} {R : Option Addr} (h : HoleLLP w U os A c e e2 ls i R) (g : w.grownBy w1 none) : HoleLLP w1 U (some w.heap.size :: os) A c e e2 ls i R :=
  h.grA g (fun _ _ h => by cases h) (fun k hk hs => ⟨fun e => by injection e; omega, hs⟩)
theorem OwnR.rdIA {w : World} {S : Nat → Prop} {A : Option Addr} {c : Nat} {e : TypeId} {l : List Int} (h : OwnR w S A c e l) (hl : l.length * 8 ≤ 140737488351232) : RdI w 0 w.heap.size A l :=
  OwnR.rdI0 (base := 0) (os := []) (h.imp (fun _ _ _ => Nat.zero_le _)) hl
theorem OwnLLP.rdIIA {w : World} {T : Nat → Prop} {os : List (Option Nat)} {A : Option Addr} {c : Nat} {e e2 : TypeId} {ls : List (List Int)} (h : OwnLLP w T os A c e e2 ls) (hl : ls.length * 24 ≤ 140737488351232) (hi : ∀ i, i < ls.length → (ls.getD i []).length * 8 ≤ 140737488351232) : RdII w 0 w.heap.size A ls :=
  OwnLLP.rdII0 (base := 0) (os := []) (h.imp (fun _ _ _ => Nat.zero_le _)) hl hi
end Go.Proofs.YtkkophhnliplhaaDoor
namespace Go.Proofs.YtkkophhnliplhaaDoor
open Go Go.RowKit
def wV (z : Int) : Value := .int .u64 z
def iV (z : Int) : Value := .int .i64 z
section
variable {P : Program} {lst : List (Nat × Value)} {ops : List Oper} {k : Nat} {w : World} {b : Nat} {T t : TypeId} {α : Type}
theorem map_get {f : α → Value} {d : α} {l : List α} {i : Nat} (hi : i < l.length) : (l.map f)[i]? = some (f (l.getD i d)) := by
  simp only [List.getElem?_map, List.getElem?_eq_getElem hi, Option.map_some, List.getD_eq_getElem?_getD, Option.getD_some]
theorem Bx.arrM {f : α → Value} {l : List α} (d : α) (h : Bx w b (l.map f) T) (i : Int) (h0 : 0 ≤ i) (h1 : i < (l.length : Int)) : w.cell? ((⟨b, 0, none⟩ : Addr).add (i.toNat * 1)) = some (f (l.getD i.toNat d)) := by
  rw [add_off, Nat.zero_add, Nat.mul_one]
  exact h.cell (map_get (by omega))
theorem Bx.whole {cs : List Value} (h : Bx w b cs T) : ∀ (j : Nat) (v : Value), cs[j]? = some v → w.cell? ((⟨b, 0, none⟩ : Addr).add j) = some v := fun j v hv => by
  rw [add_off, Nat.zero_add]
  exact h.cell hv
theorem storeArrM {f : α → Value} {l : List α} {x : α} {v : Value} {i : Int} (ha : storeAtL lst ops k = some (t, .pointer (some ((⟨b, 0, none⟩ : Addr).add (i.toNat * 1))), v)) (hv : v = f x) (hcl : v.cells.toList = [v]) (hok : storeOkX P t [v] = true) (h : Bx w b (l.map f) T) (h0 : 0 ≤ i) (h1 : i < (l.length : Int)) :
    ActOp P lst ops k w fun d' v' w1 => d' = none ∧ w.grownBy w1 (some b) ∧ Bx w1 b ((l.set i.toNat x).map f) T := by
  have hlt : i.toNat < l.length := by omega
  have hrl : (l.map f).length = l.length := List.length_map f
  unfold storeAtL at ha
  cases hop' : ops[k]? with
  | none => rw [hop'] at ha; simp at ha
  | some o =>
    rw [hop'] at ha
    simp only at ha
    split at ha
    · rename_i t' a b' hok' hop hdst
      simp only [Option.some.injEq, Prod.mk.injEq] at ha
      obtain ⟨rfl, ha1, ha2⟩ := ha
      simp only [storeOkX, Bool.and_eq_true] at hok
      obtain ⟨hk1, hk2⟩ := hok
      split at hk1
      · rename_i inf hinf
        have hk1 : inf.size = 1 := by simpa using hk1
        obtain ⟨w1, hr, hgr, hO⟩ := run_storeCells (P := P) [v] (i.toNat * 1) 0 h (by simp only [hrl, List.length_cons, List.length_nil]; omega) (fun u hu => List.all_eq_true.1 hk2 u hu)
        refine ⟨o, hop', hok', .skip, undef, w1, ?_, .inr ⟨rfl, rfl⟩, hdst, hgr, ?_⟩
        · rw [add_off, Nat.zero_add] at ha1
          have hcs : v.cells.size = 1 := by
            have := congrArg List.length hcl
            simpa using this
          simp only [execOp, hop, ha1, ha2, Instr.storeAt, Instr.sureAddr]
          simp [storeVar, sizeOf, typeInfo, hinf, hk1, hcs, hcl]
          simp only [Nat.mul_one] at hr
          rw [hr]
          rfl
        · refine hO.as ?_
          rw [List.map_set, ← hv, List.set_eq_take_append_cons_drop, if_pos (by rw [hrl]; exact hlt)]
          simp
      · simp at hk1
    · simp at ha
theorem storeBlk {cs cs' : List Value} {n : Nat} (ha : storeAtL lst ops k = some (t, .pointer (some ⟨b, 0, none⟩), .agg cs'.toArray)) (hok : (match P.info? t with | some i => Nat.beq i.size n | none => false) = true) (hn : cs'.length = n) (h1 : ∀ v ∈ cs', oneC v = true) (hl : cs'.length = cs.length) (h : Bx w b cs T) :
    ActOp P lst ops k w fun d' v' w1 => d' = none ∧ w.grownBy w1 (some b) ∧ Bx w1 b cs' T := by
  subst hn
  unfold storeAtL at ha
  cases hop' : ops[k]? with
  | none => rw [hop'] at ha; simp at ha
  | some o =>
    rw [hop'] at ha
    simp only at ha
    split at ha
    · rename_i t' a b' hok' hop hdst
      simp only [Option.some.injEq, Prod.mk.injEq] at ha
      obtain ⟨rfl, ha1, ha2⟩ := ha
      split at hok
      · rename_i inf hinf
        have hk1 : inf.size = cs'.length := by simpa using hok
        obtain ⟨w1, hr, hgr, hO⟩ := run_storeCells (P := P) cs' 0 0 h (by omega) h1
        refine ⟨o, hop', hok', .skip, undef, w1, ?_, .inr ⟨rfl, rfl⟩, hdst, hgr, ?_⟩
        · simp only [execOp, hop, ha1, ha2, Instr.storeAt, Instr.sureAddr]
          simp [storeVar, sizeOf, typeInfo, hinf, hk1, Value.cells, hr]
        · refine hO.as ?_
          simp [hl]
      · simp at hok
    · simp at ha
theorem oneB {l : List Bool} : ∀ v ∈ l.map Value.bool, oneC v = true := fun v hv => by
  obtain ⟨x, _, rfl⟩ := List.mem_map.1 hv
  rfl
theorem oneW_ {l : List Int} : ∀ v ∈ l.map wV, oneC v = true := fun v hv => by
  obtain ⟨x, _, rfl⟩ := List.mem_map.1 hv
  rfl
def wholeOk (P : Program) (t n : Nat) : Bool := (match P.info? t with | some i => Nat.beq i.size n | none => false) && aggB P t
theorem results_of {fn : Func} {tmps : Array Value} {vs : List Value} (h1 : (fn.results.toList.mapM (resF tmps)).run P w = .ok vs w) : (results fn tmps).run P w = .ok (packL vs) w := by
  have e : results fn tmps = (do let vs ← fn.results.mapM (resF tmps); pure (if h : vs.size = 1 then vs[0] else .tuple vs)) := by
    unfold results
    congr 1
  rw [e, Array.mapM_eq_mapM_toList]
  have h2 : ∀ (s : Sem (List Value)) (f : List Value → Array Value), (f <$> s).run P w = (s.run P w).andThen fun a w' => .ok (f a) w' := fun s f => by
    rw [← bind_pure_comp]
    simp only [Sem.run_bind, Sem.run_pure]
  simp only [Sem.run_bind]
  rw [h2, h1]
  simp only [Result.andThen_ok, Sem.run_pure]
  congr 1
  match vs with
  | [] => rfl
  | [v] => rfl
  | u :: v :: r => simp [packL]
theorem res_blk {fn : Func} {n m : Nat} {a : Act} {l : List (Nat × Value)} (hf : Frm n a l) {sl : Nat} {cs : List Value} (hres : fn.results.toList = [.cell sl t]) (hl : look l sl = some (.pointer (some ⟨b, 0, none⟩))) (hok : wholeOk P t m = true) (hn : cs.length = m) (hb : Bx w b cs T) : (results fn a.tmps).run P w = .ok (.agg cs.toArray) w := by
  subst hn
  refine results_of (vs := [.agg cs.toArray]) ?_
  rw [hres]
  simp only [wholeOk, Bool.and_eq_true] at hok
  obtain ⟨hk1, hk2⟩ := hok
  split at hk1
  · rename_i inf hinf
    have hk1 : inf.size = cs.length := by simpa using hk1
    have hr := run_loadCells_list (P := P) w ⟨b, 0, none⟩ cs hb.whole
    have hld : (loadVar t ⟨b, 0, none⟩).run P w = .ok (.agg cs.toArray) w := by
      unfold aggB at hk2
      split at hk2
      · rename_i hu
        simp [loadVar, isAgg, sizeOf, typeInfo, hinf, hk1, run_some_underlying hu, hr]
      · rename_i hu
        simp [loadVar, isAgg, sizeOf, typeInfo, hinf, hk1, run_some_underlying hu, hr]
      · cases hk2
    simp only [List.mapM_cons, List.mapM_nil, Sem.run_bind, resF, hf.val sl _ hl, asAddr, Sem.run_pure, Result.andThen_ok]
    rw [hld]
    rfl
  · simp at hk1
theorem retB_ {fn : Func} {R : Ending → World → Prop} {n m : Nat} {a : Act} {l : List (Nat × Value)} (hf : Frm n a l) {sl : Nat} {cs : List Value} (hres : fn.results.toList = [.cell sl t]) (hl : look l sl = some (.pointer (some ⟨b, 0, none⟩))) (hok : wholeOk P t m = true) (hn : cs.length = m) (hb : Bx w b cs T) (hR : R (.returned (.agg cs.toArray)) w) : bodyPost P fn R .ret a w := ⟨hf.defs, _, res_blk hf hres hl hok hn hb, hR⟩
end
end Go.Proofs.YtkkophhnliplhaaDoor
namespace Go.Proofs.YtkkophhnliplhaaDoor
open Go Go.RowKit
theorem idxM {α : Type} (f : α → Value) {l : List α} (d : α) (i : Int) (h0 : 0 ≤ i) (h1 : i < (l.length : Int)) : ((l.map f).toArray : Array Value)[i.toNat * 1]? = some (f (l.getD i.toNat d)) := by
  have h : i.toNat < l.length := by omega
  simp [h, List.getD]
theorem rows_bools : ∀ l : List Bool, rows l = l.map Value.bool
  | [] => rfl
  | b :: r => by
    have h := rows_bools r
    simp only [rows, List.flatMap_cons, List.map_cons] at h ⊢
    rw [h]
    rfl
theorem Bx.rdBl {w : World} {b : Nat} {T : TypeId} {l : List Bool} (h : Bx w b (l.map Value.bool) T) (hl : l.length ≤ 1000) : RdR w 0 w.heap.size (some ⟨b, 0, none⟩) l :=
  (OwnR.rdR (base := 0) (os := []) (h.ownR (n := 0) (S := Sx 0 []) (rows_bools l) (Nat.zero_le _) (Nat.le_trans hl (by decide))) (by show _ * 1 ≤ _; omega)).wide (Nat.zero_le _) (Nat.le_refl _)
theorem len_P {p : Prop} (h : p := by simp only [List.length_map, List.length_set, List.length_replicate, List.length_cons, List.length_nil]; first | done | assumption | exact from_len _ | exact of_len _ | exact ofZ_len _ | exact (ofW_ok _).1 | exact (fullW_W _).1 | exact (okW_with (by assumption)).1 | exact (okW_less (by assumption)).1 | exact put_len (from_len _) | exact orD_len _ _ | exact andD_len _ _ | exact minusD_len _ _ | exact fullD_len _ | (refine okLen ?_; (repeat (first | assumption | exact ofW_ok _ | exact fullW_W _ | apply okW_with | apply okW_less | refine okW_orS ?_ ?_ | refine okW_andS ?_ ?_ | refine okW_minusS ?_ ?_)); done) | omega | rfl) : p := h
theorem len_4 {p : Prop} (h : p := by first | assumption | exact (okW_with (by assumption)).1 | exact (okW_less (by assumption)).1 | exact (ofW_ok _).1 | exact (fullW_W _).1 | (refine okLen ?_; (repeat (first | assumption | exact ofW_ok _ | exact fullW_W _ | apply okW_with | apply okW_less | refine okW_orS ?_ ?_ | refine okW_andS ?_ ?_ | refine okW_minusS ?_ ?_)); done) | rfl | omega | (simp only [List.length_set]; first | done | assumption | omega) | exact lenW4 _ (by assumption)) : p := h
end Go.Proofs.YtkkophhnliplhaaDoor
namespace Go.Proofs.YtkkophhnliplhaaDoor
open Go Go.RowKit
def W64 (a : Int) : Prop := 0 ≤ a ∧ a < 18446744073709551616
def bitI (a : Int) (k : Int) : Bool := a.toNat.testBit k.toNat
theorem wrapU {a : Int} (h : W64 a) : IntKind.u64.wrap a = a := by
  obtain ⟨h0, h1⟩ := h
  simp only [IntKind.wrap, IntKind.signed, IntKind.bits]
  simp
  omega
theorem ofInt_nat {a : Int} (h : W64 a) : (BitVec.ofInt 64 a).toNat = a.toNat := by
  obtain ⟨h0, h1⟩ := h
  rw [BitVec.toNat_ofInt]
  congr 1
  omega
theorem natW {n : Nat} (h : n < 18446744073709551616) : W64 (n : Int) := ⟨by omega, by omega⟩
theorem or64 {a b : Int} (ha : W64 a) (hb : W64 b) : IntKind.u64.wrap (((BitVec.ofInt 64 a ||| BitVec.ofInt 64 b).toNat : Nat) : Int) = ((a.toNat ||| b.toNat : Nat) : Int) := by
  rw [BitVec.toNat_or, ofInt_nat ha, ofInt_nat hb]
  refine wrapU (natW ?_)
  have := Nat.or_lt_two_pow (n := 64) (x := a.toNat) (y := b.toNat) (by have := ha.2; omega) (by have := hb.2; omega)
  simpa using this
theorem and64 {a b : Int} (ha : W64 a) (hb : W64 b) : IntKind.u64.wrap (((BitVec.ofInt 64 a &&& BitVec.ofInt 64 b).toNat : Nat) : Int) = ((a.toNat &&& b.toNat : Nat) : Int) := by
  rw [BitVec.toNat_and, ofInt_nat ha, ofInt_nat hb]
  refine wrapU (natW ?_)
  have := Nat.and_lt_two_pow (n := 64) a.toNat (y := b.toNat) (by have := hb.2; omega)
  simpa using this
def orW (a b : Int) : Int := ((a.toNat ||| b.toNat : Nat) : Int)
def andW (a b : Int) : Int := ((a.toNat &&& b.toNat : Nat) : Int)
def notW (a b : Int) : Int := ((a.toNat &&& (18446744073709551615 - b.toNat) : Nat) : Int)
theorem orW_W {a b : Int} (ha : W64 a) (hb : W64 b) : W64 (orW a b) := by
  refine natW ?_
  have := Nat.or_lt_two_pow (n := 64) (x := a.toNat) (y := b.toNat) (by have := ha.2; omega) (by have := hb.2; omega)
  simpa using this
theorem andW_W {a b : Int} (ha : W64 a) (hb : W64 b) : W64 (andW a b) := by
  refine natW ?_
  have := Nat.and_lt_two_pow (n := 64) a.toNat (y := b.toNat) (by have := hb.2; omega)
  simpa using this
theorem notW_W {a b : Int} (ha : W64 a) (hb : W64 b) : W64 (notW a b) := by
  refine natW ?_
  have := Nat.and_lt_two_pow (n := 64) a.toNat (y := 18446744073709551615 - b.toNat) (by omega)
  simpa using this
theorem tmodE {x : Int} (h : 0 ≤ x) (y : Int) : x.tmod y = x % y := Int.tmod_eq_emod_of_nonneg h
theorem w64q {x y : Int} (h0 : 0 ≤ x) (h1 : x ≤ 9223372036854775807) (hy : 0 < y) : IntKind.i64.wrap (x.tdiv y) = x / y := by
  rw [Int.tdiv_eq_ediv_of_nonneg h0]
  have h2 := Int.ediv_nonneg h0 (Int.le_of_lt hy)
  have h3 := Int.ediv_le_self y h0
  simp only [IntKind.wrap, IntKind.signed, IntKind.bits]
  simp
  omega
theorem shr6 (x : Int) : x.fdiv (2 ^ (min (6 : Int).toNat IntKind.i64.bits)) = x / 64 := by
  have e : (2 : Int) ^ (min (6 : Int).toNat IntKind.i64.bits) = 64 := by decide
  rw [e, Int.fdiv_eq_ediv_of_nonneg _ (by decide)]
theorem and63 {x : Int} (h0 : 0 ≤ x) (h1 : x < 256) : IntKind.i64.wrap (((BitVec.ofInt 64 x &&& BitVec.ofInt 64 63).toNat : Nat) : Int) = x % 64 := by
  have e : (BitVec.ofInt 64 x).toNat = x.toNat := by rw [BitVec.toNat_ofInt]; congr 1; omega
  have e2 : (BitVec.ofInt 64 63).toNat = 63 := by decide
  rw [BitVec.toNat_and, e, e2]
  have e3 : x.toNat &&& 63 = x.toNat % 64 := Nat.and_two_pow_sub_one_eq_mod x.toNat 6
  rw [e3]
  simp only [IntKind.wrap, IntKind.signed, IntKind.bits]
  simp
  omega
theorem bit_mod {a k : Int} (ha : W64 a) (h0 : 0 ≤ k) (h1 : k < 64) : (((a.fdiv (2 ^ (min k.toNat IntKind.u64.bits))).tmod 2 : Int) == 1) = bitI a k := by
  have e : min k.toNat IntKind.u64.bits = k.toNat := by simp only [IntKind.bits]; omega
  obtain ⟨a0, a1⟩ := ha
  have e2 : a.fdiv (2 ^ k.toNat) = ((a.toNat / 2 ^ k.toNat : Nat) : Int) := by
    obtain ⟨n, rfl⟩ := Int.eq_ofNat_of_zero_le a0
    rw [Int.fdiv_eq_ediv_of_nonneg _ (by exact Int.le_of_lt (Int.pow_pos (by omega)))]
    simp
  rw [e, e2, tmodE (Int.natCast_nonneg _), bitI, Nat.testBit_eq_decide_div_mod_eq, Bool.eq_iff_iff, beq_iff_eq, decide_eq_true_eq]
  omega
theorem bit_or {a b k : Int} : bitI ((a.toNat ||| b.toNat : Nat) : Int) k = (bitI a k || bitI b k) := by simp [bitI, Nat.testBit_or]
theorem bit_and {a b k : Int} : bitI ((a.toNat &&& b.toNat : Nat) : Int) k = (bitI a k && bitI b k) := by simp [bitI, Nat.testBit_and]
theorem word_ext {a b : Int} (ha : W64 a) (hb : W64 b) (h : ∀ k : Int, 0 ≤ k → k < 64 → bitI a k = bitI b k) : a = b := by
  have e : a.toNat = b.toNat := by
    refine Nat.eq_of_testBit_eq fun i => ?_
    by_cases hi : i < 64
    · have := h i (by omega) (by omega)
      simpa [bitI] using this
    · have h1 := ha.1
      have h2 := ha.2
      have h3 := hb.1
      have h4 := hb.2
      rw [Nat.testBit_lt_two_pow, Nat.testBit_lt_two_pow]
      · exact Nat.lt_of_lt_of_le (by omega) (Nat.pow_le_pow_right (n := 2) (by omega) (show 64 ≤ i by omega))
      · exact Nat.lt_of_lt_of_le (by omega) (Nat.pow_le_pow_right (n := 2) (by omega) (show 64 ≤ i by omega))
  have h1 := ha.1
  have h3 := hb.1
  omega
theorem bit_zero (k : Int) : bitI 0 k = false := by simp [bitI]
def oneW (k : Int) : Int := ((2 ^ k.toNat : Nat) : Int)
theorem oneW_W {k : Int} (h0 : 0 ≤ k) (h1 : k < 64) : W64 (oneW k) := by
  refine natW ?_
  exact Nat.lt_of_lt_of_le (Nat.pow_lt_pow_right (a := 2) (by omega) (show k.toNat < 64 by omega)) (by decide)
theorem shl_one {k : Int} (h0 : 0 ≤ k) (h1 : k < 64) : IntKind.u64.wrap (1 * 2 ^ (min k.toNat IntKind.u64.bits)) = oneW k := by
  have e : min k.toNat IntKind.u64.bits = k.toNat := by simp only [IntKind.bits]; omega
  rw [e, Int.one_mul]
  have h := oneW_W h0 h1
  have e2 : ((2 : Int) ^ k.toNat) = oneW k := by simp [oneW]
  rw [e2]
  exact wrapU h
theorem bit_one {k j : Int} (h0 : 0 ≤ k) (j0 : 0 ≤ j) : bitI (oneW k) j = decide (k = j) := by
  simp only [bitI, oneW, Int.toNat_natCast, Nat.testBit_two_pow]
  rw [Bool.eq_iff_iff]
  simp
  omega
def lowW (k : Int) : Int := ((2 ^ k.toNat - 1 : Nat) : Int)
theorem lowW_W {k : Int} (h0 : 0 ≤ k) (h1 : k ≤ 64) : W64 (lowW k) := by
  refine natW ?_
  have := Nat.pow_le_pow_right (n := 2) (by omega) (show k.toNat ≤ 64 by omega)
  have : (2 : Nat) ^ 64 = 18446744073709551616 := by decide
  have := Nat.two_pow_pos k.toNat
  omega
theorem shl_low {k : Int} (h0 : 0 ≤ k) (h1 : k ≤ 64) : IntKind.u64.wrap (IntKind.u64.wrap (1 * 2 ^ (min k.toNat IntKind.u64.bits)) - 1) = lowW k := by
  by_cases hk : k = 64
  · subst hk
    decide
  · rw [shl_one h0 (by omega)]
    have e : oneW k - 1 = lowW k := by
      have := Nat.two_pow_pos k.toNat
      simp only [oneW, lowW]
      omega
    rw [e]
    exact wrapU (lowW_W h0 h1)
theorem bit_low {k j : Int} (h0 : 0 ≤ k) (j0 : 0 ≤ j) : bitI (lowW k) j = decide (j < k) := by
  simp only [bitI, lowW, Int.toNat_natCast, Nat.testBit_two_pow_sub_one]
  rw [Bool.eq_iff_iff]
  simp
  omega
theorem bit_test {a k : Int} (ha : W64 a) (h0 : 0 ≤ k) (h1 : k < 64) : ((IntKind.u64.wrap (((BitVec.ofInt 64 (a.fdiv (2 ^ (min k.toNat IntKind.u64.bits))) &&& BitVec.ofInt 64 1).toNat : Nat) : Int) : Int) == 1) = bitI a k := by
  have e : min k.toNat IntKind.u64.bits = k.toNat := by simp only [IntKind.bits]; omega
  obtain ⟨a0, a1⟩ := ha
  have e2 : a.fdiv (2 ^ k.toNat) = ((a.toNat / 2 ^ k.toNat : Nat) : Int) := by
    obtain ⟨n, rfl⟩ := Int.eq_ofNat_of_zero_le a0
    rw [Int.fdiv_eq_ediv_of_nonneg _ (by exact Int.le_of_lt (Int.pow_pos (by omega)))]
    simp
  rw [e, e2]
  have hw : W64 ((a.toNat / 2 ^ k.toNat : Nat) : Int) := natW (Nat.lt_of_le_of_lt (Nat.div_le_self _ _) (by omega))
  rw [and64 hw (b := 1) ⟨by omega, by omega⟩]
  simp only [Int.toNat_natCast, bitI]
  rw [show (1 : Int).toNat = 1 from rfl, Nat.and_one_is_mod, Nat.testBit_eq_decide_div_mod_eq]
  rw [Bool.eq_iff_iff, beq_iff_eq, decide_eq_true_eq]
  omega
end Go.Proofs.YtkkophhnliplhaaDoor
namespace Go.Proofs.YtkkophhnliplhaaDoor
open Go Go.RowKit
def putD (l : List Bool) (n : Int) (v : Bool) : List Bool := if 0 ≤ n ∧ n < 256 then l.set n.toNat v else l
theorem gB_set' {l : List Bool} {i j : Int} {v : Bool} (h0 : 0 ≤ i) (h1 : i < l.length) (h2 : 0 ≤ j) : gB (l.set i.toNat v) j = if i = j then v else gB l j := by
  simp only [gB, List.getD_eq_getElem?_getD, List.getElem?_set]
  by_cases h : i = j
  · subst h
    rw [if_pos rfl, if_pos rfl, if_pos (by omega)]
    rfl
  · rw [if_neg h, if_neg (by omega)]
theorem gI_set' {l : List Int} {i j v : Int} (h0 : 0 ≤ i) (h1 : i < l.length) (h2 : 0 ≤ j) : gI (l.set i.toNat v) j = if i = j then v else gI l j := by
  simp only [gI, List.getD_eq_getElem?_getD, List.getElem?_set]
  by_cases h : i = j
  · subst h
    rw [if_pos rfl, if_pos rfl, if_pos (by omega)]
    rfl
  · rw [if_neg h, if_neg (by omega)]
def MixL (l xs : List Bool) (z : Int → Bool) (k : Int) : Prop := xs.length = 256 ∧ ∀ j : Int, 0 ≤ j → j < 256 → gB xs j = if j < k then z j else gB l j
theorem mix_0 {l : List Bool} {z : Int → Bool} (h : l.length = 256) : MixL l l z 0 := ⟨h, fun j a b => by rw [if_neg (by omega)]⟩
theorem mix_next {l xs : List Bool} {z : Int → Bool} {k : Int} {v : Bool} (h : MixL l xs z k) (h0 : 0 ≤ k) (h1 : k < 256) (hv : v = z k) : MixL l (xs.set k.toNat v) z (k + 1) := by
  have hl := h.1
  refine ⟨by rw [List.length_set]; exact hl, fun j a b => ?_⟩
  rw [gB_set' h0 (by omega) a]
  by_cases e : k = j
  · subst e
    rw [if_pos rfl, if_pos (by omega), hv]
  · rw [if_neg e, h.2 j a b]
    by_cases e2 : j < k
    · rw [if_pos e2, if_pos (by omega)]
    · rw [if_neg e2, if_neg (by omega)]
def ofZ (z : Int → Bool) : List Bool := (List.range 256).map fun (i : Nat) => z (i : Int)
theorem ofZ_len (z : Int → Bool) : (ofZ z).length = 256 := by simp [ofZ]
theorem gB_ofZ {z : Int → Bool} {j : Int} (h0 : 0 ≤ j) (h1 : j < 256) : gB (ofZ z) j = z j := by
  simp only [gB, ofZ, List.getD_eq_getElem?_getD, List.getElem?_map, List.getElem?_range (show j.toNat < 256 by omega), Option.map_some, Option.getD_some]
  congr 1
  omega
theorem list_ext {l r : List Bool} (hl : l.length = 256) (hr : r.length = 256) (h : ∀ j : Int, 0 ≤ j → j < 256 → gB l j = gB r j) : l = r := by
  refine List.ext_getElem (by rw [hl, hr]) fun i h1 h2 => ?_
  have := h i (by omega) (by omega)
  simp only [gB, Int.toNat_natCast, List.getD_eq_getElem?_getD, List.getElem?_eq_getElem h1, List.getElem?_eq_getElem h2, Option.getD_some] at this
  exact this
theorem mix_end {l xs : List Bool} {z : Int → Bool} {k : Int} (h : MixL l xs z k) (hk : 256 ≤ k) : xs = ofZ z :=
  list_ext h.1 (ofZ_len z) fun j a b => by rw [h.2 j a b, if_pos (by omega), gB_ofZ a b]
theorem put_len {l : List Bool} {n : Int} {v : Bool} (h : l.length = 256) : (putD l n v).length = 256 := by
  unfold putD
  split
  · rw [List.length_set]; exact h
  · exact h
def hasD (l : List Bool) (n : Int) : Bool := decide (0 ≤ n ∧ n < 256) && gB l n
theorem gB_rep (n : Nat) (j : Int) : gB (List.replicate n false) j = false := by
  simp only [gB, List.getD_eq_getElem?_getD, List.getElem?_replicate]
  split <;> rfl
def ofD (l : List Int) : List Bool := l.foldl (fun s n => putD s n true) (List.replicate 256 false)
theorem of_len (l : List Int) : (ofD l).length = 256 := by
  unfold ofD
  have : ∀ (l : List Int) (s : List Bool), s.length = 256 → (l.foldl (fun s n => putD s n true) s).length = 256 := by
    intro l
    induction l with
    | nil => intro s h; exact h
    | cons n l ih => intro s h; exact ih _ (put_len h)
  exact this l _ List.length_replicate
def lsD (l : List Bool) : Nat → List Int
  | 0 => []
  | n + 1 => if gB l (n : Int) = true then lsD l n ++ [(n : Int)] else lsD l n
theorem ls_yes {l : List Bool} {xs : List Int} {k : Int} (h : xs = lsD l k.toNat) (h0 : 0 ≤ k) (hb : gB l k = true) : xs ++ [k] = lsD l (k + 1).toNat := by
  rw [show (k + 1).toNat = k.toNat + 1 by omega, lsD, show ((k.toNat : Nat) : Int) = k by omega, if_pos hb, h]
theorem ls_no {l : List Bool} {xs : List Int} {k : Int} (h : xs = lsD l k.toNat) (h0 : 0 ≤ k) (hb : gB l k = false) : xs = lsD l (k + 1).toNat := by
  rw [show (k + 1).toNat = k.toNat + 1 by omega, lsD, show ((k.toNat : Nat) : Int) = k by omega, if_neg (by rw [hb]; decide), h]
theorem ls_len (l : List Bool) : ∀ n, (lsD l n).length ≤ n
  | 0 => Nat.le_refl _
  | n + 1 => by
    have := ls_len l n
    rw [lsD]
    split
    · rw [List.length_append]; simp; omega
    · omega
def leastD (l : List Bool) : Int := match (List.range 256).find? (fun i => gB l ((i : Nat) : Int)) with | some i => (i : Int) | none => -1
def inD (l r : List Bool) : Bool := (List.range 256).all fun i => !gB l ((i : Nat) : Int) || gB r ((i : Nat) : Int)
def OkW (s : List Int) : Prop := s.length = 4 ∧ ∀ j : Int, W64 (gI s j)
theorem okLen {s : List Int} (h : OkW s) : s.length = 4 := h.1
def fromW (s : List Int) : List Bool := ofZ (fun j => bitI (gI s (j / 64)) (j % 64))
def MixW (l xs : List Int) (z : Int → Int) (k : Int) : Prop := xs.length = 4 ∧ ∀ j : Int, 0 ≤ j → j < 4 → gI xs j = if j < k then z j else gI l j
theorem mixW_0 {l : List Int} {z : Int → Int} (h : l.length = 4) : MixW l l z 0 := ⟨h, fun j a b => by rw [if_neg (by omega)]⟩
theorem mixW_next {l xs : List Int} {z : Int → Int} {k v : Int} (h : MixW l xs z k) (h0 : 0 ≤ k) (h1 : k < 4) (hv : v = z k) : MixW l (xs.set k.toNat v) z (k + 1) := by
  have hl := h.1
  refine ⟨by rw [List.length_set]; exact hl, fun j a b => ?_⟩
  rw [gI_set' h0 (by omega) a]
  by_cases e : k = j
  · subst e
    rw [if_pos rfl, if_pos (by omega), hv]
  · rw [if_neg e, h.2 j a b]
    by_cases e2 : j < k
    · rw [if_pos e2, if_pos (by omega)]
    · rw [if_neg e2, if_neg (by omega)]
theorem mixW_at {l xs : List Int} {z : Int → Int} {k : Int} (h : MixW l xs z k) (h0 : 0 ≤ k) (h1 : k < 4) : gI xs k = gI l k := by
  rw [h.2 k h0 h1, if_neg (by omega)]
def ofZW (z : Int → Int) : List Int := [z 0, z 1, z 2, z 3]
theorem gI_ofZW {z : Int → Int} {j : Int} (h0 : 0 ≤ j) (h1 : j < 4) : gI (ofZW z) j = z j := by
  obtain rfl | rfl | rfl | rfl : j = 0 ∨ j = 1 ∨ j = 2 ∨ j = 3 := by omega
  all_goals rfl
theorem words_ext {l r : List Int} (hl : l.length = 4) (hr : r.length = 4) (h : ∀ j : Int, 0 ≤ j → j < 4 → gI l j = gI r j) : l = r := by
  refine List.ext_getElem (by rw [hl, hr]) fun i h1 h2 => ?_
  have := h i (by omega) (by omega)
  simp only [gI, Int.toNat_natCast, List.getD_eq_getElem?_getD, List.getElem?_eq_getElem h1, List.getElem?_eq_getElem h2, Option.getD_some] at this
  exact this
theorem mixW_end {l xs : List Int} {z : Int → Int} {k : Int} (h : MixW l xs z k) (hk : 4 ≤ k) : xs = ofZW z :=
  words_ext h.1 rfl fun j a b => by rw [h.2 j a b, if_pos (by omega), gI_ofZW a b]
theorem mixW_W {l xs : List Int} {z : Int → Int} {k : Int} (h : MixW l xs z k) (h0 : 0 ≤ k) (h1 : k < 4) (hl : OkW l) : W64 (gI xs k) := by
  rw [mixW_at h h0 h1]
  exact hl.2 k
def withW (s : List Int) (n : Int) : List Int := if 0 ≤ n ∧ n < 256 then s.set (n / 64).toNat (orW (gI s (n / 64)) (oneW (n % 64))) else s
def lessW (s : List Int) (n : Int) : List Int := if 0 ≤ n ∧ n < 256 then s.set (n / 64).toNat (notW (gI s (n / 64)) (oneW (n % 64))) else s
def hasW (s : List Int) (n : Int) : Bool := decide (0 ≤ n ∧ n < 256) && bitI (gI s (n / 64)) (n % 64)
theorem hasW_yes {s : List Int} {n : Int} (h : OkW s) (h0 : 0 ≤ n) (h1 : n < 256) : ((IntKind.u64.wrap (((BitVec.ofInt 64 ((gI s (n / 64)).fdiv (2 ^ (min (n % 64).toNat IntKind.u64.bits))) &&& BitVec.ofInt 64 1).toNat : Nat) : Int) : Int) == 1) = hasW s n := by
  rw [bit_test (h.2 _) (by omega) (by omega), hasW, decide_eq_true ⟨h0, h1⟩, Bool.true_and]
theorem hasW_no {s : List Int} {n : Int} (h : ¬ (0 ≤ n ∧ n < 256)) : false = hasW s n := by rw [hasW, decide_eq_false h, Bool.false_and]
theorem gI_set_W {s : List Int} {i v : Int} (h : OkW s) (hv : W64 v) : OkW (s.set i.toNat v) := ⟨by rw [List.length_set]; exact h.1, fun j => by
  simp only [gI, List.getD_eq_getElem?_getD, List.getElem?_set]
  split
  · split
    · exact hv
    · exact ⟨by show (0 : Int) ≤ 0; omega, by show (0 : Int) < _; omega⟩
  · exact h.2 j⟩
theorem okW_with {s : List Int} {n : Int} (h : OkW s) : OkW (withW s n) := by
  unfold withW
  split
  · exact gI_set_W h (orW_W (h.2 _) (oneW_W (by omega) (by omega)))
  · exact h
theorem okW_less {s : List Int} {n : Int} (h : OkW s) : OkW (lessW s n) := by
  unfold lessW
  split
  · exact gI_set_W h (notW_W (h.2 _) (oneW_W (by omega) (by omega)))
  · exact h
theorem okW_lit {a b c d : Int} (ha : W64 a) (hb : W64 b) (hc : W64 c) (hd : W64 d) : OkW [a, b, c, d] := ⟨rfl, fun j => by
  by_cases h : 0 ≤ j ∧ j < 4
  · obtain rfl | rfl | rfl | rfl : j = 0 ∨ j = 1 ∨ j = 2 ∨ j = 3 := by omega
    · exact ha
    · exact hb
    · exact hc
    · exact hd
  · by_cases h0 : 0 ≤ j
    · have e : gI [a, b, c, d] j = 0 := by
        simp only [gI, List.getD_eq_getElem?_getD]
        rw [List.getElem?_eq_none (show ([a, b, c, d] : List Int).length ≤ j.toNat by show 4 ≤ j.toNat; omega)]
        rfl
      rw [e]
      exact ⟨by omega, by omega⟩
    · have e : gI [a, b, c, d] j = a := by
        simp only [gI]
        rw [show j.toNat = 0 by omega]
        rfl
      rw [e]
      exact ha⟩
theorem okW_of4 {z : Int → Int} (h : ∀ j : Int, 0 ≤ j → j < 4 → W64 (z j)) : OkW (ofZW z) := okW_lit (h 0 (by omega) (by omega)) (h 1 (by omega) (by omega)) (h 2 (by omega) (by omega)) (h 3 (by omega) (by omega))
theorem okW_or {s t : List Int} (h : OkW s) (h2 : OkW t) : OkW (ofZW (fun j => orW (gI s j) (gI t j))) := okW_of4 fun j _ _ => orW_W (h.2 j) (h2.2 j)
theorem okW_and {s t : List Int} (h : OkW s) (h2 : OkW t) : OkW (ofZW (fun j => andW (gI s j) (gI t j))) := okW_of4 fun j _ _ => andW_W (h.2 j) (h2.2 j)
theorem okW_minus {s t : List Int} (h : OkW s) (h2 : OkW t) : OkW (ofZW (fun j => notW (gI s j) (gI t j))) := okW_of4 fun j _ _ => notW_W (h.2 j) (h2.2 j)
theorem okW_0 : OkW (List.replicate 4 (0 : Int)) := okW_lit ⟨by omega, by omega⟩ ⟨by omega, by omega⟩ ⟨by omega, by omega⟩ ⟨by omega, by omega⟩
def ofW (l : List Int) : List Int := l.foldl withW (List.replicate 4 0)
theorem ofW_ok (l : List Int) : OkW (ofW l) := by
  unfold ofW
  have : ∀ (l : List Int) (s : List Int), OkW s → OkW (l.foldl withW s) := by
    intro l
    induction l with
    | nil => intro s h; exact h
    | cons n l ih => intro s h; exact ih _ (okW_with h)
  exact this l _ okW_0
theorem ofW_next {l : List Int} {xs : List Int} {k : Int} (h : xs = ofW (l.take k.toNat)) (h0 : 0 ≤ k) (h1 : k < l.length) : withW xs (gI l k) = ofW (l.take (k + 1).toNat) := by
  subst h
  rw [show (k + 1).toNat = k.toNat + 1 by omega, List.take_succ_eq_append_getElem (by omega), ofW, ofW, List.foldl_append]
  simp only [List.foldl_cons, List.foldl_nil, gI, List.getD_eq_getElem?_getD, List.getElem?_eq_getElem (show k.toNat < l.length by omega), Option.getD_some]
def inW (s t : List Int) : Bool := decide (ofZW (fun j => notW (gI s j) (gI t j)) = ([0, 0, 0, 0] : List Int))
theorem map4 {s : List Int} (h : s.length = 4) : (s.map wV).toArray = ([wV (gI s 0), wV (gI s 1), wV (gI s 2), wV (gI s 3)] : List Value).toArray := by
  match s, h with
  | [a, b, c, d], _ => rfl
theorem w4_eq {s t : List Int} (h : s.length = 4) (h2 : t.length = 4) : (((gI s 0 : Int) == gI t 0) && (((gI s 1 : Int) == gI t 1) && (((gI s 2 : Int) == gI t 2) && (((gI s 3 : Int) == gI t 3) && true)))) = decide (s = t) := by
  match s, t, h, h2 with
  | [a, b, c, d], [a', b', c', d'], _, _ =>
    show ((a == a') && ((b == b') && ((c == c') && ((d == d') && true)))) = _
    rw [Bool.eq_iff_iff]
    simp
def wP (l : List Bool) (j : Int) : Nat → Nat
  | 0 => 0
  | n + 1 => wP l j n + (if gB l (64 * j + n) = true then 2 ^ n else 0)
theorem wP_lt (l : List Bool) (j : Int) : ∀ n, wP l j n < 2 ^ n
  | 0 => (Nat.zero_lt_one : 0 < 1)
  | n + 1 => by
    have := wP_lt l j n
    rw [wP, Nat.pow_succ]
    split <;> omega
theorem wP_bit (l : List Bool) (j : Int) : ∀ n i, (wP l j n).testBit i = (decide (i < n) && gB l (64 * j + i))
  | 0, i => by simp [wP]
  | n + 1, i => by
    have hlt := wP_lt l j n
    have ih := wP_bit l j n i
    rw [wP]
    by_cases hb : gB l (64 * j + n) = true
    · rw [if_pos hb, Nat.add_comm]
      by_cases hi : i < n
      · rw [Nat.testBit_two_pow_add_gt hi, ih, decide_eq_true hi, decide_eq_true (by omega)]
      · by_cases he : i = n
        · subst he
          rw [Nat.testBit_two_pow_add_eq, Nat.testBit_lt_two_pow hlt, decide_eq_true (by omega), hb]
          rfl
        · rw [decide_eq_false (by omega), Bool.false_and]
          refine Nat.testBit_lt_two_pow ?_
          have h1 := Nat.pow_le_pow_right (n := 2) (by omega) (show n + 1 ≤ i by omega)
          rw [Nat.pow_succ] at h1
          omega
    · rw [if_neg hb, Nat.add_zero, ih]
      by_cases hi : i < n
      · rw [decide_eq_true hi, decide_eq_true (by omega)]
      · by_cases he : i = n
        · subst he
          have : gB l (64 * j + (i : Int)) = false := by simpa using hb
          rw [decide_eq_false (by omega), this]
          simp
        · rw [decide_eq_false (by omega), decide_eq_false (by omega)]
def wordsD (l : List Bool) : List Int := ofZW (fun j => ((wP l j 64 : Nat) : Int))
theorem wordsD_W (l : List Bool) : OkW (wordsD l) := ⟨rfl, fun j => by
  have h64 : (2 : Nat) ^ 64 = 18446744073709551616 := by decide
  by_cases h : 0 ≤ j ∧ j < 4
  · rw [wordsD, gI_ofZW h.1 h.2]
    exact natW (by have := wP_lt l j 64; omega)
  · have e : gI (wordsD l) j = gI (wordsD l) 0 ∨ gI (wordsD l) j = 0 := by
      by_cases h0 : 0 ≤ j
      · right
        simp only [gI, List.getD_eq_getElem?_getD]
        rw [List.getElem?_eq_none (show (wordsD l).length ≤ j.toNat by show 4 ≤ j.toNat; omega)]
        rfl
      · left
        simp only [gI]
        rw [show j.toNat = (0 : Int).toNat by omega]
    rcases e with e | e
    · rw [e, wordsD, gI_ofZW (by omega) (by omega)]
      exact natW (by have := wP_lt l 0 64; omega)
    · rw [e]
      exact ⟨by omega, by omega⟩⟩
theorem ret_map {α : Type} {f : α → Value} {l r : List α} (h : l = r) : Ending.returned (.agg (l.map f).toArray) = .returned (.agg (r.map f).toArray) := by rw [h]
end Go.Proofs.YtkkophhnliplhaaDoor
namespace Go.Proofs.YtkkophhnliplhaaDoor
open Go Go.RowKit
theorem from_len (s : List Int) : (fromW s).length = 256 := ofZ_len _
theorem gB_from {s : List Int} {j : Int} (h0 : 0 ≤ j) (h1 : j < 256) : gB (fromW s) j = bitI (gI s (j / 64)) (j % 64) := gB_ofZ h0 h1
theorem bits_ext {s t : List Int} (hs : OkW s) (ht : OkW t) (h : ∀ j : Int, 0 ≤ j → j < 256 → bitI (gI s (j / 64)) (j % 64) = bitI (gI t (j / 64)) (j % 64)) : s = t :=
  words_ext hs.1 ht.1 fun q a b => word_ext (hs.2 q) (ht.2 q) fun r c d => by
    have := h (64 * q + r) (by omega) (by omega)
    rwa [show (64 * q + r) / 64 = q by omega, show (64 * q + r) % 64 = r by omega] at this
theorem from_inj {s t : List Int} (hs : OkW s) (ht : OkW t) (h : fromW s = fromW t) : s = t :=
  bits_ext hs ht fun j a b => by rw [← gB_from a b, ← gB_from a b, h]
theorem bit_words {l : List Bool} {q r : Int} (q0 : 0 ≤ q) (q1 : q < 4) (r0 : 0 ≤ r) (r1 : r < 64) : bitI (gI (wordsD l) q) r = gB l (64 * q + r) := by
  rw [wordsD, gI_ofZW q0 q1, bitI, Int.toNat_natCast, wP_bit, decide_eq_true (by omega), Bool.true_and]
  congr 1
  omega
theorem from_words {l : List Bool} (h : l.length = 256) : fromW (wordsD l) = l :=
  list_ext (from_len _) h fun j a b => by
    rw [gB_from a b, bit_words (by omega) (by omega) (by omega) (by omega)]
    congr 1
    omega
theorem same_iff {s : List Int} {l : List Bool} (hs : OkW s) (hl : l.length = 256) : s = wordsD l ↔ fromW s = l :=
  ⟨fun h => by rw [h, from_words hl], fun h => from_inj hs (wordsD_W l) (by rw [from_words hl, h])⟩
theorem gB_put {l : List Bool} {n j : Int} {v : Bool} (hl : l.length = 256) (h0 : 0 ≤ j) (h1 : j < 256) : gB (putD l n v) j = if n = j then v else gB l j := by
  unfold putD
  by_cases h : 0 ≤ n ∧ n < 256
  · rw [if_pos h, gB_set' h.1 (by omega) h0]
  · rw [if_neg h, if_neg (by omega)]
theorem bit_set {s : List Int} {n v : Int} {j : Int} (hs : OkW s) (h0 : 0 ≤ n) (h1 : n < 256) (j0 : 0 ≤ j) (j1 : j < 256) : bitI (gI (s.set (n / 64).toNat v) (j / 64)) (j % 64) = if n / 64 = j / 64 then bitI v (j % 64) else bitI (gI s (j / 64)) (j % 64) := by
  have := hs.1
  rw [gI_set' (by omega) (by omega) (by omega)]
  split <;> rfl
theorem from_with {s : List Int} {n : Int} (hs : OkW s) : fromW (withW s n) = putD (fromW s) n true :=
  list_ext (from_len _) (put_len (from_len _)) fun j a b => by
    rw [gB_from a b, gB_put (from_len _) a b]
    unfold withW
    by_cases h : 0 ≤ n ∧ n < 256
    · rw [if_pos h, bit_set hs h.1 h.2 a b, gB_from a b]
      by_cases e : n / 64 = j / 64
      · rw [if_pos e, orW, bit_or, bit_one (by omega) (by omega), e]
        by_cases e2 : n = j
        · rw [if_pos e2, decide_eq_true (by omega), Bool.or_true]
        · rw [if_neg e2, decide_eq_false (by omega), Bool.or_false]
      · rw [if_neg e, if_neg (by omega)]
    · rw [if_neg h, if_neg (by omega), gB_from a b]
theorem from_and {s t : List Int} : fromW (ofZW (fun j => andW (gI s j) (gI t j))) = ofZ (fun j => gB (fromW s) j && gB (fromW t) j) :=
  list_ext (from_len _) (ofZ_len _) fun j a b => by
    rw [gB_from a b, gB_ofZ a b, gI_ofZW (by omega) (by omega), andW, bit_and, gB_from a b, gB_from a b]
theorem hasW_from (s : List Int) (n : Int) : hasW s n = hasD (fromW s) n := by
  unfold hasW hasD
  by_cases h : 0 ≤ n ∧ n < 256
  · rw [decide_eq_true h, gB_from h.1 h.2]
  · rw [decide_eq_false h, Bool.false_and, Bool.false_and]
theorem from_0 : fromW (List.replicate 4 (0 : Int)) = List.replicate 256 false :=
  list_ext (from_len _) List.length_replicate fun j a b => by
    rw [gB_from a b, gB_rep]
    have e : gI (List.replicate 4 (0 : Int)) (j / 64) = 0 := by
      obtain h | h | h | h : j / 64 = 0 ∨ j / 64 = 1 ∨ j / 64 = 2 ∨ j / 64 = 3 := by omega
      all_goals rw [h]; rfl
    rw [e, bit_zero]
end Go.Proofs.YtkkophhnliplhaaDoor
namespace Go.Proofs.YtkkophhnliplhaaDoor
open Go Go.RowKit
structure AttC (g : GameL) (I : List Bool) (p : Int) (T C : List Bool) : Prop where
  base : ∀ j : Int, 0 ≤ j → j < 256 → gB T j = true → gB I j = true → gB C j = true
  own : ∀ i : Int, 0 ≤ i → i < (g.ow.length : Int) → gB I i = true → gI g.ow i = p → ∀ x ∈ gL g.mv i, gB I x = true → gB C x = true → gB C i = true
  oth : ∀ i : Int, 0 ≤ i → i < (g.ow.length : Int) → gB I i = true → gI g.ow i ≠ p → (∃ x ∈ gL g.mv i, gB I x = true) → (∀ x ∈ gL g.mv i, gB I x = true → gB C x = true) → gB C i = true
structure AttrT (g : GameL) (I : List Bool) (p : Int) (T S : List Bool) : Prop where
  cl : AttC g I p T S
  sub : ∀ j : Int, 0 ≤ j → j < 256 → gB S j = true → gB I j = true
  least : ∀ C, AttC g I p T C → ∀ j : Int, 0 ≤ j → j < 256 → gB S j = true → gB C j = true
def cM (l : List Int) (f : Int → Bool) : Int := ((l.filter f).length : Int)
theorem gI_eq {l : List Int} {k : Int} (h0 : 0 ≤ k) (h1 : k < (l.length : Int)) : gI l k = l[k.toNat]'(by omega) := by
  simp only [gI, List.getD_eq_getElem?_getD, List.getElem?_eq_getElem (show k.toNat < l.length by omega), Option.getD_some]
def cT (l : List Bool) : Nat → Int
  | 0 => 0
  | n + 1 => cT l n + (if gB l (n : Int) = true then 1 else 0)
def stpB (g : GameL) (I : List Bool) (p : Int) (A : List Bool) (i : Int) : Bool :=
  if gI g.ow i = p then decide (0 < cM (gL g.mv i) (fun x => gB I x && gB A x)) else decide (0 < cM (gL g.mv i) (gB I)) && decide (cM (gL g.mv i) (fun x => gB I x && gB A x) = cM (gL g.mv i) (gB I))
structure AndT (g : GameL) (I T xs : List Bool) (k : Int) : Prop where
  len : xs.length = g.ow.length
  at_ : ∀ j : Int, 0 ≤ j → j < (g.ow.length : Int) → gB xs j = if j < k then (gB I j && gB T j) else false
structure RefT (g : GameL) (I : List Bool) (p : Int) (T A : List Bool) : Prop where
  len : A.length = g.ow.length
  base : ∀ j : Int, 0 ≤ j → j < 256 → gB T j = true → gB I j = true → gB A j = true
  sub : ∀ j : Int, 0 ≤ j → j < 256 → gB A j = true → gB I j = true
  snd : ∀ C, AttC g I p T C → ∀ j : Int, 0 ≤ j → j < 256 → gB A j = true → gB C j = true
structure RefK (g : GameL) (I : List Bool) (p : Int) (A nx : List Bool) (m : Bool) (k : Int) : Prop where
  len : nx.length = g.ow.length
  at_ : ∀ j : Int, 0 ≤ j → j < (g.ow.length : Int) → gB nx j = (gB A j || (decide (j < k) && (gB I j && stpB g I p A j)))
  no : m = false → ∀ j : Int, 0 ≤ j → j < k → gB I j = true → gB A j = false → stpB g I p A j = false
  yes : m = true → ∃ j : Int, 0 ≤ j ∧ j < k ∧ gB I j = true ∧ gB A j = false ∧ stpB g I p A j = true
section
variable {g : GameL} {I T A nx : List Bool} {p k : Int} {m v : Bool}
end
end Go.Proofs.YtkkophhnliplhaaDoor
namespace Go.Proofs.YtkkophhnliplhaaDoor
open Go Go.RowKit
theorem and_byte (z a m : Nat) (ha : a < 256) : z &&& (a + 256 * m) = ((z % 256) &&& a) + 256 * ((z / 256) &&& m) := by
  have hz : z = 2 ^ 8 * (z / 256) + z % 256 := by omega
  have hlt : (z % 256) &&& a < 2 ^ 8 := Nat.and_lt_two_pow _ (by omega)
  refine Nat.eq_of_testBit_eq fun i => ?_
  rw [Nat.testBit_and]
  conv => lhs; rw [hz, show a + 256 * m = 2 ^ 8 * m + a by omega]
  rw [show ((z % 256) &&& a) + 256 * ((z / 256) &&& m) = 2 ^ 8 * ((z / 256) &&& m) + ((z % 256) &&& a) by omega]
  rw [Nat.testBit_two_pow_mul_add _ (by omega), Nat.testBit_two_pow_mul_add _ (by omega), Nat.testBit_two_pow_mul_add _ hlt]
  split <;> simp [Nat.testBit_and]
def mkB (a : Nat) : Nat → Nat
  | 0 => 0
  | n + 1 => a + 256 * mkB a n
def fmB (f : Nat → Nat) : Nat → Nat → Nat
  | 0, _ => 0
  | n + 1, x => f (x % 256) + 256 * fmB f n (x / 256)
theorem d1 : ∀ r, r < 256 → ∀ b, b < 2 → (r / 2 + 128 * b) &&& 85 = (r / 2) &&& 85 := by decide +kernel
theorem d2 : ∀ r, r < 256 → ∀ b, b < 4 → (r / 4 + 64 * b) &&& 51 = (r / 4) &&& 51 := by decide +kernel
theorem d3 : ∀ r, r < 256 → ∀ b, b < 16 → r / 16 ≤ 4 → r % 16 ≤ 4 → ((r / 16 + 16 * b + r) % 256) &&& 15 = r / 16 + r % 16 := by decide +kernel
def f1 (r : Nat) : Nat := ((r / 2) &&& 85) + (r &&& 85)
def f2 (r : Nat) : Nat := ((r / 4) &&& 51) + (r &&& 51)
def f3 (r : Nat) : Nat := r / 16 + r % 16
theorem step1 : ∀ n x, ((x / 2) &&& mkB 85 n) + (x &&& mkB 85 n) = fmB f1 n x
  | 0, x => by simp [mkB, fmB]
  | n + 1, x => by
    have ih := step1 n (x / 256)
    have h := d1 (x % 256) (by omega) (x / 256 % 2) (by omega)
    rw [mkB, fmB, and_byte _ _ _ (by omega), and_byte _ _ _ (by omega), ← ih, f1, ← h]
    rw [show x / 2 % 256 = x % 256 / 2 + 128 * (x / 256 % 2) by omega, show x / 2 / 256 = x / 256 / 2 by omega]
    omega
theorem step2 : ∀ n x, ((x / 4) &&& mkB 51 n) + (x &&& mkB 51 n) = fmB f2 n x
  | 0, x => by simp [mkB, fmB]
  | n + 1, x => by
    have ih := step2 n (x / 256)
    have h := d2 (x % 256) (by omega) (x / 256 % 4) (by omega)
    rw [mkB, fmB, and_byte _ _ _ (by omega), and_byte _ _ _ (by omega), ← ih, f2, ← h]
    rw [show x / 4 % 256 = x % 256 / 4 + 64 * (x / 256 % 4) by omega, show x / 4 / 256 = x / 256 / 4 by omega]
    omega
def okB : Nat → Nat → Prop
  | 0, _ => True
  | n + 1, x => x % 256 / 16 ≤ 4 ∧ x % 256 % 16 ≤ 4 ∧ okB n (x / 256)
theorem step3 : ∀ n x, okB n x → (x / 16 + x) &&& mkB 15 n = fmB f3 n x
  | 0, x, _ => by simp [mkB, fmB]
  | n + 1, x, h => by
    have h3 := d3 (x % 256) (by omega) (x / 256 % 16) (by omega) h.1 h.2.1
    rw [mkB, fmB, and_byte _ _ _ (by omega), f3, ← h3]
    rw [show (x / 16 + x) % 256 = (x % 256 / 16 + 16 * (x / 256 % 16) + x % 256) % 256 by omega]
    cases n with
    | zero => simp [mkB, fmB]
    | succ n =>
      have ih := step3 (n + 1) (x / 256) h.2.2
      have hy := h.2.2.2.1
      have k1 := h.1
      have k2 := h.2.1
      have hz : (x / 16 + x) / 256 = x / 256 / 16 + x / 256 := by
        have e1 : x / 256 % 16 ≤ 4 := by
          have : x / 256 % 256 % 16 = x / 256 % 16 := Nat.mod_mod_of_dvd _ (by decide)
          omega
        clear ih h3 h
        generalize hy2 : x / 256 = y at *
        generalize hr : x % 256 = r at *
        have hx : x = r + 256 * y := by omega
        subst hx
        clear hy2 hr hy
        have e2 : (r + 256 * y) / 16 = r / 16 + 16 * y := by omega
        rw [e2]
        omega
      rw [← ih, hz]
theorem fm_fm (f g : Nat → Nat) (hf : ∀ r, r < 256 → f r < 256) : ∀ n x, fmB g n (fmB f n x) = fmB (fun r => g (f r)) n x
  | 0, x => rfl
  | n + 1, x => by
    have h := hf (x % 256) (by omega)
    rw [fmB, fmB, fmB, show (f (x % 256) + 256 * fmB f n (x / 256)) % 256 = f (x % 256) by omega, show (f (x % 256) + 256 * fmB f n (x / 256)) / 256 = fmB f n (x / 256) by omega, fm_fm f g hf n]
theorem ok_fm (f : Nat → Nat) (hf : ∀ r, r < 256 → f r < 256 ∧ f r / 16 ≤ 4 ∧ f r % 16 ≤ 4) : ∀ n x, okB n (fmB f n x)
  | 0, x => trivial
  | n + 1, x => by
    have h := hf (x % 256) (by omega)
    rw [fmB, okB, show (f (x % 256) + 256 * fmB f n (x / 256)) % 256 = f (x % 256) by omega, show (f (x % 256) + 256 * fmB f n (x / 256)) / 256 = fmB f n (x / 256) by omega]
    exact ⟨h.2.1, h.2.2, ok_fm f hf n _⟩
def popN (x : Nat) : Nat → Nat
  | 0 => 0
  | n + 1 => popN x n + (if x.testBit n = true then 1 else 0)
def pop8 (r : Nat) : Nat := f3 (f2 (f1 r))
theorem d4 : ∀ r, r < 256 → f1 r < 256 ∧ f2 (f1 r) < 256 ∧ f2 (f1 r) / 16 ≤ 4 ∧ f2 (f1 r) % 16 ≤ 4 ∧ pop8 r ≤ 8 ∧ pop8 r = popN r 8 := by decide +kernel
theorem pop_add (x n : Nat) : ∀ m, popN x (n + m) = popN x n + popN (x / 2 ^ n) m
  | 0 => rfl
  | m + 1 => by
    rw [← Nat.add_assoc, popN, popN, pop_add x n m, Nat.testBit_div_two_pow, Nat.add_comm m n, Nat.add_assoc]
theorem pop_mod (x : Nat) : popN x 8 = popN (x % 256) 8 := by
  have : ∀ n, n ≤ 8 → popN x n = popN (x % 256) n := by
    intro n
    induction n with
    | zero => intro _; rfl
    | succ n ih =>
      intro h
      rw [popN, popN, ih (by omega), show x % 256 = x % 2 ^ 8 from rfl, Nat.testBit_mod_two_pow, decide_eq_true (by omega), Bool.true_and]
  exact this 8 (Nat.le_refl _)
theorem ones_sum {x : Nat} (h : x < 18446744073709551616) : let x3 := fmB pop8 8 x
    let x4 := (x3 + x3 / 256) % 18446744073709551616
    let x5 := (x4 + x4 / 65536) % 18446744073709551616
    ((x5 + x5 / 4294967296) % 18446744073709551616) % 128 = popN x 64 := by
  intro x3 x4 x5
  have e : popN x 64 = pop8 (x % 256) + (pop8 (x / 256 % 256) + (pop8 (x / 65536 % 256) + (pop8 (x / 16777216 % 256) + (pop8 (x / 4294967296 % 256) + (pop8 (x / 1099511627776 % 256) + (pop8 (x / 281474976710656 % 256) + pop8 (x / 72057594037927936 % 256))))))) := by
    have hb : ∀ y, pop8 (y % 256) = popN y 8 := fun y => by rw [(d4 (y % 256) (by omega)).2.2.2.2.2, ← pop_mod]
    rw [hb, hb, hb, hb, hb, hb, hb, hb]
    rw [show (64 : Nat) = 8 + 56 from rfl, pop_add, show (56 : Nat) = 8 + 48 from rfl, pop_add, show (48 : Nat) = 8 + 40 from rfl, pop_add, show (40 : Nat) = 8 + 32 from rfl, pop_add, show (32 : Nat) = 8 + 24 from rfl, pop_add, show (24 : Nat) = 8 + 16 from rfl, pop_add, show (16 : Nat) = 8 + 8 from rfl, pop_add]
    simp only [Nat.div_div_eq_div_mul]
  have hx3 : x3 = pop8 (x % 256) + 256 * (pop8 (x / 256 % 256) + 256 * (pop8 (x / 65536 % 256) + 256 * (pop8 (x / 16777216 % 256) + 256 * (pop8 (x / 4294967296 % 256) + 256 * (pop8 (x / 1099511627776 % 256) + 256 * (pop8 (x / 281474976710656 % 256) + 256 * pop8 (x / 72057594037927936 % 256))))))) := by
    show fmB pop8 8 x = _
    simp only [fmB, Nat.div_div_eq_div_mul, Nat.mul_zero, Nat.add_zero]
  have b0 := (d4 (x % 256) (by omega)).2.2.2.2.1
  have b1 := (d4 (x / 256 % 256) (by omega)).2.2.2.2.1
  have b2 := (d4 (x / 65536 % 256) (by omega)).2.2.2.2.1
  have b3 := (d4 (x / 16777216 % 256) (by omega)).2.2.2.2.1
  have b4 := (d4 (x / 4294967296 % 256) (by omega)).2.2.2.2.1
  have b5 := (d4 (x / 1099511627776 % 256) (by omega)).2.2.2.2.1
  have b6 := (d4 (x / 281474976710656 % 256) (by omega)).2.2.2.2.1
  have b7 := (d4 (x / 72057594037927936 % 256) (by omega)).2.2.2.2.1
  rw [e]
  show ((x5 + x5 / 4294967296) % 18446744073709551616) % 128 = _
  have h4 : x4 = (x3 + x3 / 256) % 18446744073709551616 := rfl
  have h5 : x5 = (x4 + x4 / 65536) % 18446744073709551616 := rfl
  clear_value x3 x4 x5
  generalize pop8 (x % 256) = p0 at *
  generalize pop8 (x / 256 % 256) = p1 at *
  generalize pop8 (x / 65536 % 256) = p2 at *
  generalize pop8 (x / 16777216 % 256) = p3 at *
  generalize pop8 (x / 4294967296 % 256) = p4 at *
  generalize pop8 (x / 1099511627776 % 256) = p5 at *
  generalize pop8 (x / 281474976710656 % 256) = p6 at *
  generalize pop8 (x / 72057594037927936 % 256) = p7 at *
  clear e
  have q3 : x3 / 256 = p1 + 256 * (p2 + 256 * (p3 + 256 * (p4 + 256 * (p5 + 256 * (p6 + 256 * p7))))) := by omega
  rw [q3] at h4
  have e4 : x4 = (p0 + p1) + 256 * ((p1 + p2) + 256 * ((p2 + p3) + 256 * ((p3 + p4) + 256 * ((p4 + p5) + 256 * ((p5 + p6) + 256 * ((p6 + p7) + 256 * p7)))))) := by omega
  clear h4 hx3 q3
  have q4 : x4 / 65536 = (p2 + p3) + 256 * ((p3 + p4) + 256 * ((p4 + p5) + 256 * ((p5 + p6) + 256 * ((p6 + p7) + 256 * p7)))) := by omega
  rw [q4] at h5
  have e5 : x5 = (p0 + p1 + p2 + p3) + 256 * ((p1 + p2 + p3 + p4) + 256 * ((p2 + p3 + p4 + p5) + 256 * ((p3 + p4 + p5 + p6) + 256 * ((p4 + p5 + p6 + p7) + 256 * ((p5 + p6 + p7) + 256 * ((p6 + p7) + 256 * p7)))))) := by omega
  clear h5 e4 q4
  have q5 : x5 / 4294967296 = (p4 + p5 + p6 + p7) + 256 * ((p5 + p6 + p7) + 256 * ((p6 + p7) + 256 * p7)) := by omega
  rw [q5]
  omega
theorem fdN {a : Int} (h : 0 ≤ a) (m : Nat) : a.fdiv (2 ^ m) = ((a.toNat / 2 ^ m : Nat) : Int) := by
  obtain ⟨n, rfl⟩ := Int.eq_ofNat_of_zero_le h
  rw [Int.fdiv_eq_ediv_of_nonneg _ (by exact Int.le_of_lt (Int.pow_pos (by omega)))]
  simp
theorem shN {a : Int} {k d : Nat} (h : 0 ≤ a) {j : Int} (hj : min j.toNat IntKind.u64.bits = k) (hd : 2 ^ k = d) : a.fdiv (2 ^ (min j.toNat IntKind.u64.bits)) = ((a.toNat / d : Nat) : Int) := by
  rw [hj, fdN h, hd]
theorem fm_lt (f : Nat → Nat) (hf : ∀ r, r < 256 → f r < 256) : ∀ n x, fmB f n x < 256 ^ n
  | 0, x => by simp [fmB]
  | n + 1, x => by
    have h1 := hf (x % 256) (by omega)
    have h2 := fm_lt f hf n (x / 256)
    rw [fmB, Nat.pow_succ]
    omega
theorem lt8 {f : Nat → Nat} (hf : ∀ r, r < 256 → f r < 256) (x : Nat) : fmB f 8 x < 18446744073709551616 := by
  have := fm_lt f hf 8 x
  have e : (256 : Nat) ^ 8 = 18446744073709551616 := by decide
  omega
theorem f1_lt : ∀ r, r < 256 → f1 r < 256 := fun r h => (d4 r h).1
theorem f21_lt : ∀ r, r < 256 → f2 (f1 r) < 256 := fun r h => (d4 r h).2.1
theorem m85 : mkB 85 8 = 6148914691236517205 := by decide
theorem m51 : mkB 51 8 = 3689348814741910323 := by decide
theorem m15 : mkB 15 8 = 1085102592571150095 := by decide
theorem sum1 (x : Nat) : IntKind.u64.wrap (((x / 2 &&& 6148914691236517205 : Nat) : Int) + ((x &&& 6148914691236517205 : Nat) : Int)) = ((fmB f1 8 x : Nat) : Int) := by
  have h := step1 8 x
  rw [m85] at h
  have hl := lt8 f1_lt x
  rw [wrapU ⟨by omega, by omega⟩]
  omega
theorem sum2 (x : Nat) : IntKind.u64.wrap (((fmB f1 8 x / 4 &&& 3689348814741910323 : Nat) : Int) + ((fmB f1 8 x &&& 3689348814741910323 : Nat) : Int)) = ((fmB (fun r => f2 (f1 r)) 8 x : Nat) : Int) := by
  have h := step2 8 (fmB f1 8 x)
  rw [m51, fm_fm f1 f2 f1_lt] at h
  have hl := lt8 f21_lt x
  rw [wrapU ⟨by omega, by omega⟩]
  omega
theorem add2_lt (x : Nat) : fmB (fun r => f2 (f1 r)) 8 x / 16 + fmB (fun r => f2 (f1 r)) 8 x < 18446744073709551616 := by
  have d : ∀ r, r < 256 → f2 (f1 r) ≤ 68 := fun r h => by have := (d4 r h).2.2; omega
  have e : fmB (fun r => f2 (f1 r)) 8 x = f2 (f1 (x % 256)) + 256 * (f2 (f1 (x / 256 % 256)) + 256 * (f2 (f1 (x / 65536 % 256)) + 256 * (f2 (f1 (x / 16777216 % 256)) + 256 * (f2 (f1 (x / 4294967296 % 256)) + 256 * (f2 (f1 (x / 1099511627776 % 256)) + 256 * (f2 (f1 (x / 281474976710656 % 256)) + 256 * f2 (f1 (x / 72057594037927936 % 256)))))))) := by
    simp only [fmB, Nat.div_div_eq_div_mul, Nat.mul_zero, Nat.add_zero]
  have b7 := d (x / 72057594037927936 % 256) (by omega)
  have hl := fm_lt (fun r => f2 (f1 r)) f21_lt 7 (x / 256)
  have b0 := d (x % 256) (by omega)
  have b1 := d (x / 256 % 256) (by omega)
  have b2 := d (x / 65536 % 256) (by omega)
  have b3 := d (x / 16777216 % 256) (by omega)
  have b4 := d (x / 4294967296 % 256) (by omega)
  have b5 := d (x / 1099511627776 % 256) (by omega)
  have b6 := d (x / 281474976710656 % 256) (by omega)
  clear hl
  rw [e]
  omega
theorem sum3 (x : Nat) : IntKind.u64.wrap (((fmB (fun r => f2 (f1 r)) 8 x / 16 : Nat) : Int) + ((fmB (fun r => f2 (f1 r)) 8 x : Nat) : Int)) = ((fmB (fun r => f2 (f1 r)) 8 x / 16 + fmB (fun r => f2 (f1 r)) 8 x : Nat) : Int) := by
  have := add2_lt x
  rw [wrapU ⟨by omega, by omega⟩]
  omega
theorem and3 (x : Nat) : (fmB (fun r => f2 (f1 r)) 8 x / 16 + fmB (fun r => f2 (f1 r)) 8 x) &&& 1085102592571150095 = fmB pop8 8 x := by
  rw [← m15, step3 8 _ (ok_fm (fun r => f2 (f1 r)) (fun r h => ⟨(d4 r h).2.1, (d4 r h).2.2.1, (d4 r h).2.2.2.1⟩) 8 x), fm_fm (fun r => f2 (f1 r)) f3 f21_lt]
  rfl
theorem sumM (a b : Nat) : IntKind.u64.wrap ((a : Int) + (b : Int)) = (((a + b) % 18446744073709551616 : Nat) : Int) := by
  simp only [IntKind.wrap, IntKind.signed, IntKind.bits]
  simp
def o3 (x : Nat) : Nat := fmB pop8 8 x
def o4 (x : Nat) : Nat := (o3 x + o3 x / 256) % 18446744073709551616
def o5 (x : Nat) : Nat := (o4 x + o4 x / 65536) % 18446744073709551616
def o6 (x : Nat) : Nat := (o5 x + o5 x / 4294967296) % 18446744073709551616
theorem o6_lt (x : Nat) : o6 x < 18446744073709551616 := Nat.mod_lt _ (by decide)
theorem o6_pop {x : Nat} (h : x < 18446744073709551616) : o6 x % 128 = popN x 64 := ones_sum h
theorem ofI_nat (b n : Nat) : BitVec.ofInt b ((n : Nat) : Int) = BitVec.ofNat b n := by simp
theorem andNN {a b : Nat} {z : Int} (ha : a < 18446744073709551616) (hb : b < 18446744073709551616) (hz : z = (b : Int)) : IntKind.u64.wrap (((BitVec.ofInt 64 ((a : Nat) : Int) &&& BitVec.ofInt 64 z).toNat : Nat) : Int) = ((a &&& b : Nat) : Int) := by
  subst hz
  rw [ofI_nat, ofI_nat, BitVec.toNat_and, BitVec.toNat_ofNat, BitVec.toNat_ofNat, Nat.mod_eq_of_lt (by omega), Nat.mod_eq_of_lt (by omega)]
  have : a &&& b ≤ a := Nat.and_le_left
  rw [wrapU ⟨by omega, by omega⟩]
theorem and127 {a : Nat} (h : a < 18446744073709551616) : IntKind.i64.wrap (((BitVec.ofInt 64 (IntKind.i64.wrap ((a : Nat) : Int)) &&& BitVec.ofInt 64 127).toNat : Nat) : Int) = ((a % 128 : Nat) : Int) := by
  have e : BitVec.ofInt 64 (IntKind.i64.wrap ((a : Nat) : Int)) = BitVec.ofNat 64 a := by
    rw [← ofI_nat]
    apply BitVec.eq_of_toInt_eq
    rw [BitVec.toInt_ofInt, BitVec.toInt_ofInt]
    simp only [IntKind.wrap, IntKind.signed, IntKind.bits]
    simp only [Int.bmod_def]
    simp
    split <;> split <;> split <;> omega
  have e2 : (BitVec.ofNat 64 a).toNat = a := by rw [BitVec.toNat_ofNat]; exact Nat.mod_eq_of_lt (by omega)
  rw [e, BitVec.toNat_and, e2, show (BitVec.ofInt 64 127).toNat = 2 ^ 7 - 1 by decide, Nat.and_two_pow_sub_one_eq_mod]
  have : a % 2 ^ 7 < 128 := Nat.mod_lt _ (by decide)
  have h7 : (a % 128 : Nat) = a % 2 ^ 7 := rfl
  rw [h7]
  generalize a % 2 ^ 7 = r at *
  simp only [IntKind.wrap, IntKind.signed, IntKind.bits]
  simp
  rw [if_neg (by omega)]
  omega
theorem half_lt {x : Nat} (h : x < 18446744073709551616) : x / 2 < 18446744073709551616 := by omega
def o1 (x : Nat) : Nat := fmB f1 8 x
def o2 (x : Nat) : Nat := fmB (fun r => f2 (f1 r)) 8 x
theorem o1_lt (x : Nat) : o1 x < 18446744073709551616 := lt8 f1_lt x
theorem o1q_lt (x : Nat) : o1 x / 4 < 18446744073709551616 := by have := o1_lt x; omega
theorem o2s_lt (x : Nat) : o2 x / 16 + o2 x < 18446744073709551616 := add2_lt x
theorem sumO1 (x : Nat) : IntKind.u64.wrap (((x / 2 &&& 6148914691236517205 : Nat) : Int) + ((x &&& 6148914691236517205 : Nat) : Int)) = ((o1 x : Nat) : Int) := sum1 x
theorem sumO2 (x : Nat) : IntKind.u64.wrap (((o1 x / 4 &&& 3689348814741910323 : Nat) : Int) + ((o1 x &&& 3689348814741910323 : Nat) : Int)) = ((o2 x : Nat) : Int) := sum2 x
theorem sumO3 (x : Nat) : IntKind.u64.wrap (((o2 x / 16 : Nat) : Int) + ((o2 x : Nat) : Int)) = ((o2 x / 16 + o2 x : Nat) : Int) := sum3 x
theorem andO3 (x : Nat) : IntKind.u64.wrap (((BitVec.ofInt 64 ((o2 x / 16 + o2 x : Nat) : Int) &&& BitVec.ofInt 64 1085102592571150095).toNat : Nat) : Int) = ((o3 x : Nat) : Int) :=
  (andNN (b := 1085102592571150095) (o2s_lt x) (by decide) rfl).trans (congrArg Nat.cast (and3 x))
theorem sumO4 (x : Nat) : IntKind.u64.wrap (((o3 x : Nat) : Int) + ((o3 x / 256 : Nat) : Int)) = ((o4 x : Nat) : Int) := sumM _ _
theorem sumO5 (x : Nat) : IntKind.u64.wrap (((o4 x : Nat) : Int) + ((o4 x / 65536 : Nat) : Int)) = ((o5 x : Nat) : Int) := sumM _ _
theorem sumO6 (x : Nat) : IntKind.u64.wrap (((o5 x : Nat) : Int) + ((o5 x / 4294967296 : Nat) : Int)) = ((o6 x : Nat) : Int) := sumM _ _
theorem andO6 {x : Nat} (hx : x < 18446744073709551616) : IntKind.i64.wrap (((BitVec.ofInt 64 (IntKind.i64.wrap ((o6 x : Nat) : Int)) &&& BitVec.ofInt 64 127).toNat : Nat) : Int) = ((popN x 64 : Nat) : Int) :=
  (and127 (o6_lt x)).trans (congrArg Nat.cast (o6_pop hx))
theorem and85 {a : Nat} (ha : a < 18446744073709551616) : IntKind.u64.wrap (((BitVec.ofInt 64 ((a : Nat) : Int) &&& BitVec.ofInt 64 6148914691236517205).toNat : Nat) : Int) = ((a &&& 6148914691236517205 : Nat) : Int) := andNN ha (by decide) rfl
theorem and51 {a : Nat} (ha : a < 18446744073709551616) : IntKind.u64.wrap (((BitVec.ofInt 64 ((a : Nat) : Int) &&& BitVec.ofInt 64 3689348814741910323).toNat : Nat) : Int) = ((a &&& 3689348814741910323 : Nat) : Int) := andNN ha (by decide) rfl
theorem sh1 (a : Nat) : ((a : Nat) : Int).fdiv (2 ^ (min (1 : Int).toNat IntKind.u64.bits)) = ((a / 2 : Nat) : Int) := shN (k := 1) (d := 2) (Int.natCast_nonneg _) (by decide) (by decide)
theorem sh2 (a : Nat) : ((a : Nat) : Int).fdiv (2 ^ (min (2 : Int).toNat IntKind.u64.bits)) = ((a / 4 : Nat) : Int) := shN (k := 2) (d := 4) (Int.natCast_nonneg _) (by decide) (by decide)
theorem sh4 (a : Nat) : ((a : Nat) : Int).fdiv (2 ^ (min (4 : Int).toNat IntKind.u64.bits)) = ((a / 16 : Nat) : Int) := shN (k := 4) (d := 16) (Int.natCast_nonneg _) (by decide) (by decide)
theorem sh8 (a : Nat) : ((a : Nat) : Int).fdiv (2 ^ (min (8 : Int).toNat IntKind.u64.bits)) = ((a / 256 : Nat) : Int) := shN (k := 8) (d := 256) (Int.natCast_nonneg _) (by decide) (by decide)
theorem sh16 (a : Nat) : ((a : Nat) : Int).fdiv (2 ^ (min (16 : Int).toNat IntKind.u64.bits)) = ((a / 65536 : Nat) : Int) := shN (k := 16) (d := 65536) (Int.natCast_nonneg _) (by decide) (by decide)
theorem sh32 (a : Nat) : ((a : Nat) : Int).fdiv (2 ^ (min (32 : Int).toNat IntKind.u64.bits)) = ((a / 4294967296 : Nat) : Int) := shN (k := 32) (d := 4294967296) (Int.natCast_nonneg _) (by decide) (by decide)
def c6 (x : Nat) : Int := IntKind.i64.wrap ((o6 x : Nat) : Int)
theorem c6_eq (x : Nat) : IntKind.i64.wrap ((o6 x : Nat) : Int) = c6 x := rfl
theorem andC6 {x : Nat} (hx : x < 18446744073709551616) : IntKind.i64.wrap (((BitVec.ofInt 64 (c6 x) &&& BitVec.ofInt 64 127).toNat : Nat) : Int) = ((popN x 64 : Nat) : Int) := andO6 hx
attribute [irreducible] o1 o2 o3 o4 o5 o6 c6 fmB popN mkB
end Go.Proofs.YtkkophhnliplhaaDoor
namespace Go.Proofs.YtkkophhnliplhaaDoor
open Go Go.RowKit
set_option maxHeartbeats 4000000 in
theorem ones_any {x : Nat} {w : World} (hx : x < 18446744073709551616) :
    Calls Tryd.prog 48 #[.int .u64 (((x : Nat) : Int))] w fun e w' => e = .returned (.int .i64 ((popN x 64 : Nat) : Int)) ∧ Ext w w' := by
 refine enter_ (args := [.int .u64 (((x : Nat) : Int))]) Tryd.func48 rfl Tryd.ntmps48 (Nat.le_of_ble_eq_true rfl) (fun act0 f0 => ?_)
 have e0 : Ext w w := Ext.refl w
 refine sqs ?_
 refine At.rk f0 1 [] .n (fun act2 f1 => ?_)
 clear f0
 refine At.dn ?_
 refine sqs ?_
 refine At.rk f1 7 [(0, .int .u64 (((o1 x : Nat) : Int)))] (.p (show 0 ≤ (1 : Int) from ω) <| .v 4 (show (.int .u64 ((((x : Nat) : Int) : Int).fdiv (2 ^ (min (1 : Int).toNat IntKind.u64.bits))) : Value) = .int .u64 (((x / 2 : Nat) : Int)) from (congrArg (Value.int .u64) (sh1 x))) <| .v 5 (show (.int .u64 (IntKind.u64.wrap ((BitVec.ofInt 64 ((x / 2 : Nat) : Int) &&& BitVec.ofInt 64 6148914691236517205).toNat : Int)) : Value) = .int .u64 (((x / 2 &&& 6148914691236517205 : Nat) : Int)) from (congrArg (Value.int .u64) (and85 (half_lt hx)))) <| .v 7 (show (.int .u64 (IntKind.u64.wrap ((BitVec.ofInt 64 ((x : Nat) : Int) &&& BitVec.ofInt 64 6148914691236517205).toNat : Int)) : Value) = .int .u64 (((x &&& 6148914691236517205 : Nat) : Int)) from (congrArg (Value.int .u64) (and85 hx))) <| .v 8 (show (.int .u64 (IntKind.u64.wrap (((x / 2 &&& 6148914691236517205 : Nat) : Int) + ((x &&& 6148914691236517205 : Nat) : Int))) : Value) = .int .u64 (((o1 x : Nat) : Int)) from (congrArg (Value.int .u64) (sumO1 x))) <| .n) (fun act4 f3 => ?_)
 clear f1
 refine At.dn ?_
 have f5 := f3.sb (r := [(0, .int .u64 (((o1 x : Nat) : Int)))]); clear f3
 refine sqs ?_
 refine At.rk f5 7 [(0, .int .u64 (((o2 x : Nat) : Int)))] (.p (show 0 ≤ (2 : Int) from ω) <| .v 10 (show (.int .u64 ((((o1 x : Nat) : Int) : Int).fdiv (2 ^ (min (2 : Int).toNat IntKind.u64.bits))) : Value) = .int .u64 (((o1 x / 4 : Nat) : Int)) from (congrArg (Value.int .u64) (sh2 (o1 x)))) <| .v 11 (show (.int .u64 (IntKind.u64.wrap ((BitVec.ofInt 64 ((o1 x / 4 : Nat) : Int) &&& BitVec.ofInt 64 3689348814741910323).toNat : Int)) : Value) = .int .u64 (((o1 x / 4 &&& 3689348814741910323 : Nat) : Int)) from (congrArg (Value.int .u64) (and51 (o1q_lt x)))) <| .v 13 (show (.int .u64 (IntKind.u64.wrap ((BitVec.ofInt 64 ((o1 x : Nat) : Int) &&& BitVec.ofInt 64 3689348814741910323).toNat : Int)) : Value) = .int .u64 (((o1 x &&& 3689348814741910323 : Nat) : Int)) from (congrArg (Value.int .u64) (and51 (o1_lt x)))) <| .v 14 (show (.int .u64 (IntKind.u64.wrap (((o1 x / 4 &&& 3689348814741910323 : Nat) : Int) + ((o1 x &&& 3689348814741910323 : Nat) : Int))) : Value) = .int .u64 (((o2 x : Nat) : Int)) from (congrArg (Value.int .u64) (sumO2 x))) <| .n) (fun act7 f6 => ?_)
 clear f5
 refine At.dn ?_
 have f8 := f6.sb (r := [(0, .int .u64 (((o2 x : Nat) : Int)))]); clear f6
 refine sqs ?_
 refine At.rk f8 6 [(0, .int .u64 (((o3 x : Nat) : Int)))] (.p (show 0 ≤ (4 : Int) from ω) <| .v 16 (show (.int .u64 ((((o2 x : Nat) : Int) : Int).fdiv (2 ^ (min (4 : Int).toNat IntKind.u64.bits))) : Value) = .int .u64 (((o2 x / 16 : Nat) : Int)) from (congrArg (Value.int .u64) (sh4 (o2 x)))) <| .v 18 (show (.int .u64 (IntKind.u64.wrap (((o2 x / 16 : Nat) : Int) + ((o2 x : Nat) : Int))) : Value) = .int .u64 (((o2 x / 16 + o2 x : Nat) : Int)) from (congrArg (Value.int .u64) (sumO3 x))) <| .v 19 (show (.int .u64 (IntKind.u64.wrap ((BitVec.ofInt 64 ((o2 x / 16 + o2 x : Nat) : Int) &&& BitVec.ofInt 64 1085102592571150095).toNat : Int)) : Value) = .int .u64 (((o3 x : Nat) : Int)) from (congrArg (Value.int .u64) (andO3 x))) <| .n) (fun aJ f9 => ?_)
 clear f8
 refine At.dn ?_
 have aA := f9.sb (r := [(0, .int .u64 (((o3 x : Nat) : Int)))]); clear f9
 refine sqs ?_
 refine At.rk aA 5 [(0, .int .u64 (((o4 x : Nat) : Int)))] (.p (show 0 ≤ (8 : Int) from ω) <| .v 22 (show (.int .u64 ((((o3 x : Nat) : Int) : Int).fdiv (2 ^ (min (8 : Int).toNat IntKind.u64.bits))) : Value) = .int .u64 (((o3 x / 256 : Nat) : Int)) from (congrArg (Value.int .u64) (sh8 (o3 x)))) <| .v 23 (show (.int .u64 (IntKind.u64.wrap (((o3 x : Nat) : Int) + ((o3 x / 256 : Nat) : Int))) : Value) = .int .u64 (((o4 x : Nat) : Int)) from (congrArg (Value.int .u64) (sumO4 x))) <| .n) (fun aK aB => ?_)
 clear aA
 refine At.dn ?_
 have aC := aB.sb (r := [(0, .int .u64 (((o4 x : Nat) : Int)))]); clear aB
 refine sqs ?_
 refine At.rk aC 5 [(0, .int .u64 (((o5 x : Nat) : Int)))] (.p (show 0 ≤ (16 : Int) from ω) <| .v 26 (show (.int .u64 ((((o4 x : Nat) : Int) : Int).fdiv (2 ^ (min (16 : Int).toNat IntKind.u64.bits))) : Value) = .int .u64 (((o4 x / 65536 : Nat) : Int)) from (congrArg (Value.int .u64) (sh16 (o4 x)))) <| .v 27 (show (.int .u64 (IntKind.u64.wrap (((o4 x : Nat) : Int) + ((o4 x / 65536 : Nat) : Int))) : Value) = .int .u64 (((o5 x : Nat) : Int)) from (congrArg (Value.int .u64) (sumO5 x))) <| .n) (fun aL aD => ?_)
 clear aC
 refine At.dn ?_
 have aE := aD.sb (r := [(0, .int .u64 (((o5 x : Nat) : Int)))]); clear aD
 refine sqs ?_
 refine At.rk aE 5 [(0, .int .u64 (((o6 x : Nat) : Int)))] (.p (show 0 ≤ (32 : Int) from ω) <| .v 30 (show (.int .u64 ((((o5 x : Nat) : Int) : Int).fdiv (2 ^ (min (32 : Int).toNat IntKind.u64.bits))) : Value) = .int .u64 (((o5 x / 4294967296 : Nat) : Int)) from (congrArg (Value.int .u64) (sh32 (o5 x)))) <| .v 31 (show (.int .u64 (IntKind.u64.wrap (((o5 x : Nat) : Int) + ((o5 x / 4294967296 : Nat) : Int))) : Value) = .int .u64 (((o6 x : Nat) : Int)) from (congrArg (Value.int .u64) (sumO6 x))) <| .n) (fun aM aF => ?_)
 clear aE
 refine At.dn ?_
 have aG := aF.sb (r := [(0, .int .u64 (((o6 x : Nat) : Int)))]); clear aF
 refine sqs ?_
 refine At.rk aG 4 [(2, .int .i64 (((popN x 64 : Nat) : Int)))] (.v 33 (show (.int .i64 (IntKind.i64.wrap (((o6 x : Nat) : Int))) : Value) = .int .i64 (c6 x) from (congrArg (Value.int .i64) (c6_eq x))) <| .v 34 (show (.int .i64 (IntKind.i64.wrap ((BitVec.ofInt 64 (c6 x) &&& BitVec.ofInt 64 127).toNat : Int)) : Value) = .int .i64 (((popN x 64 : Nat) : Int)) from (congrArg (Value.int .i64) (andC6 hx))) <| .n) (fun aN aH => ?_)
 clear aG
 refine At.dn ?_
 have aI := aH.sb (r := [(2, .int .i64 (((popN x 64 : Nat) : Int)))]); clear aH
 refine wp_ret ?_
 refine ret_ aI [] [.int .i64 (((popN x 64 : Nat) : Int))] [] κ trivial ?_
 exact ⟨rfl, e0⟩
end Go.Proofs.YtkkophhnliplhaaDoor
namespace Go.Proofs.YtkkophhnliplhaaDoor
open Go Go.RowKit
def onI (z : Int) : Int := ((popN z.toNat 64 : Nat) : Int)
def lenN (s : List Int) : Nat → Int
  | 0 => 0
  | n + 1 => lenN s n + onI (gI s (n : Int))
def lenW (s : List Int) : Int := lenN s 4
theorem pop_le (x : Nat) : ∀ n, popN x n ≤ n
  | 0 => by unfold popN; exact Nat.le_refl _
  | n + 1 => by have := pop_le x n; unfold popN; split <;> omega
theorem onI_le (z : Int) : 0 ≤ onI z ∧ onI z ≤ 64 := by
  have := pop_le z.toNat 64
  unfold onI
  omega
theorem len_next {s : List Int} {k r : Int} (h : r = lenN s k.toNat) (h0 : 0 ≤ k) : r + onI (gI s k) = lenN s (k + 1).toNat := by
  obtain ⟨n, rfl⟩ := Int.eq_ofNat_of_zero_le h0
  subst h
  rfl
theorem len_end {s : List Int} {k r : Int} (h : r = lenN s k.toNat) (h0 : 4 ≤ k) (h1 : k ≤ 4) : r = lenW s := by
  have : k = 4 := by omega
  subst this
  exact h
theorem onesI {z : Int} {w : World} (h : W64 z) : Calls Tryd.prog 48 #[.int .u64 z] w fun e w' => e = .returned (.int .i64 (onI z)) ∧ Ext w w' := by
  have h2 : z = ((z.toNat : Nat) : Int) := by have := h.1; omega
  have h3 : z.toNat < 18446744073709551616 := by have := h.1; have := h.2; omega
  have := ones_any (x := z.toNat) (w := w) h3
  rw [← h2] at this
  exact this
end Go.Proofs.YtkkophhnliplhaaDoor
namespace Go.Proofs.YtkkophhnliplhaaDoor
open Go Go.RowKit
def deI (i : Int) : Int := ((Lib.deBruijn64tab.getD i.toNat 0 : Nat) : Int)
def RdT (w : World) (lo hi : Nat) : Prop := RdV w lo hi (some ⟨0, 0, none⟩) 64 1 (fun i _ => .int .u8 (deI i))
theorem RdT.gr {w w1 : World} {lo hi : Nat} {row : Option Nat} (h : RdT w lo hi) (g : w.grownBy w1 row) (hr : ∀ k, row = some k → k < lo ∨ hi ≤ k) : RdT w1 lo hi := RdV.gr h g hr
theorem RdT.gn {w w1 : World} {lo hi : Nat} (h : RdT w lo hi) (g : w.grownBy w1 none) : RdT w1 lo hi := RdV.gn h g
theorem RdT.gb {w w1 : World} {lo hi b : Nat} (h : RdT w lo hi) (g : w.grownBy w1 (some b)) (hb : b < lo ∨ hi ≤ b) : RdT w1 lo hi := RdV.gb h g hb
theorem RdT.wide {w : World} {lo hi lo' hi' : Nat} (h : RdT w lo hi) (h1 : lo' ≤ lo) (h2 : hi ≤ hi') : RdT w lo' hi' := RdV.wide h h1 h2
theorem RdT.get {w : World} {lo hi : Nat} (h : RdT w lo hi) (i : Int) (h0 : 0 ≤ i) (h1 : i < 64) : w.cell? ((⟨0, 0, none⟩ : Addr).add (i.toNat * 1)) = some (.int .u8 (deI i)) := by
  obtain ⟨ad, e, h2, h3, hc⟩ := h i.toNat 0 (by omega) (by omega)
  injection e with e
  subst e
  rw [add_zero] at hc
  rw [hc]
  show some (Value.int IntKind.u8 (deI ((i.toNat : Nat) : Int))) = _
  rw [Int.toNat_of_nonneg h0]
def lowB (x : Nat) : Nat := 2 ^ Lib.ctz 64 x
def mulB (x : Nat) : Nat := lowB x * 285870213051353865 % 18446744073709551616
def idxB (x : Nat) : Nat := mulB x / 288230376151711744
theorem negB {x : Nat} (h0 : ¬ ((x : Nat) : Int) = 0) (h : x < 18446744073709551616) : IntKind.u64.wrap (0 - ((x : Nat) : Int)) = ((18446744073709551616 - x : Nat) : Int) := by
  simp only [IntKind.wrap, IntKind.signed, IntKind.bits]
  simp
  omega
theorem andB {x : Nat} (h0 : ¬ ((x : Nat) : Int) = 0) (h : x < 18446744073709551616) : IntKind.u64.wrap (((BitVec.ofInt 64 ((x : Nat) : Int) &&& BitVec.ofInt 64 ((18446744073709551616 - x : Nat) : Int)).toNat : Nat) : Int) = ((lowB x : Nat) : Int) := by
  refine (andNN (b := 18446744073709551616 - x) h (by omega) rfl).trans (congrArg Nat.cast ?_)
  exact (Lib.lowest_bit 64 x (by omega) (by omega)).1
theorem mulB_eq (x : Nat) : IntKind.u64.wrap (((lowB x : Nat) : Int) * 285870213051353865) = ((mulB x : Nat) : Int) := by
  unfold mulB
  generalize lowB x = b
  simp only [IntKind.wrap, IntKind.signed, IntKind.bits]
  simp
theorem sh58 (a : Nat) : ((a : Nat) : Int).fdiv (2 ^ (min (58 : Int).toNat IntKind.u64.bits)) = ((a / 288230376151711744 : Nat) : Int) := shN (k := 58) (d := 288230376151711744) (Int.natCast_nonneg _) (by decide) (by decide)
theorem shB (x : Nat) : ((mulB x : Nat) : Int).fdiv (2 ^ (min (58 : Int).toNat IntKind.u64.bits)) = ((idxB x : Nat) : Int) := sh58 _
theorem idxB_lt (x : Nat) : idxB x < 64 := by
  have : mulB x < 18446744073709551616 := Nat.mod_lt _ (by decide)
  unfold idxB
  omega
theorem ctz_at {x : Nat} (h0 : ¬ ((x : Nat) : Int) = 0) (h : x < 18446744073709551616) : IntKind.i64.wrap (deI ((idxB x : Nat) : Int)) = ((Lib.ctz 64 x : Nat) : Int) := by
  have h1 := (Lib.lowest_bit 64 x (by omega) (by omega)).2
  have h2 : Lib.deBruijn64tab.getD (idxB x) 0 = Lib.ctz 64 x := by
    unfold idxB mulB lowB
    generalize Lib.ctz 64 x = k at h1
    exact (Lib.deBruijn64_at k h1).2
  have h3 : deI ((idxB x : Nat) : Int) = ((Lib.ctz 64 x : Nat) : Int) := by
    unfold deI
    rw [Int.toNat_natCast, h2]
  rw [h3]
  generalize Lib.ctz 64 x = r at *
  simp only [IntKind.wrap, IntKind.signed, IntKind.bits]
  simp
  rw [if_neg (by omega)]
  omega
theorem ctz_0 {x : Nat} (h : ((x : Nat) : Int) = 0) : (64 : Int) = ((Lib.ctz 64 x : Nat) : Int) := by
  have : x = 0 := by omega
  subst this
  rfl
end Go.Proofs.YtkkophhnliplhaaDoor
namespace Go.Proofs.YtkkophhnliplhaaDoor
open Go Go.RowKit
set_option maxHeartbeats 4000000 in
theorem tz_any {x : Nat} {w : World} (hx : x < 18446744073709551616) (rT : RdT w 0 w.heap.size) :
    Calls Tryd.prog 45 #[.int .u64 (((x : Nat) : Int))] w fun e w' => e = .returned (.int .i64 ((Lib.ctz 64 x : Nat) : Int)) ∧ Ext w w' := by
 have hib := idxB_lt x
 refine enter_ (args := [.int .u64 (((x : Nat) : Int))]) Tryd.func45 rfl Tryd.ntmps45 (Nat.le_of_ble_eq_true rfl) (fun act0 f0 => ?_)
 have e0 : Ext w w := Ext.refl w
 refine sqs ?_
 refine At.rk f0 1 [] .n (fun act2 f1 => ?_)
 clear f0
 refine At.dn ?_
 refine wp_seq ?_
 refine sqs ?_
 refine At.rk f1 2 [(4, .bool ((((x : Nat) : Int) : Int) == 0))] .n (fun act4 f3 => ?_)
 clear f1
 refine At.dn ?_
 refine cond_S f3 (t := (((x : Nat) : Int) : Int) == 0) rfl (fun h5 => ?_) (fun h5 => ?_)
 ·have q6 := eq_of_beq h5
  refine sqs ?_
  refine At.rk f3 1 [(2, .int .i64 (64))] .n (fun act8 f7 => ?_)
  clear f3
  refine At.dn ?_
  have f9 := f7.sb (r := [(2, .int .i64 (64))]); clear f7
  refine wp_ret ?_
  refine t_r ?_
  refine ret_ f9 [] [.int .i64 (64)] [] κ trivial ?_
  exact ⟨ret_eq (congrArg (Value.int .i64) (by first | rfl | exact ctz_0 σ)), e0⟩
 have aD := ne_of_beq_false h5
 refine wp_skip ?_
 refine t_n ?_
 have aA := f3.sb (r := [(0, .int .u64 (((x : Nat) : Int)))]); clear f3
 refine sqs ?_
 refine At.rk aA 10 [(2, .int .i64 (((Lib.ctz 64 x : Nat) : Int)))] (.v 7 (show (.int .u64 (IntKind.u64.wrap (0 - ((x : Nat) : Int))) : Value) = .int .u64 (((18446744073709551616 - x : Nat) : Int)) from (congrArg (Value.int .u64) (negB σ hx))) <| .v 8 (show (.int .u64 (IntKind.u64.wrap ((BitVec.ofInt 64 ((x : Nat) : Int) &&& BitVec.ofInt 64 ((18446744073709551616 - x : Nat) : Int)).toNat : Int)) : Value) = .int .u64 (((lowB x : Nat) : Int)) from (congrArg (Value.int .u64) (andB σ hx))) <| .v 9 (show (.int .u64 (IntKind.u64.wrap (((lowB x : Nat) : Int) * 285870213051353865)) : Value) = .int .u64 (((mulB x : Nat) : Int)) from (congrArg (Value.int .u64) (mulB_eq x))) <| .p (show 0 ≤ (58 : Int) from ω) <| .v 10 (show (.int .u64 ((((mulB x : Nat) : Int) : Int).fdiv (2 ^ (min (58 : Int).toNat IntKind.u64.bits))) : Value) = .int .u64 (((idxB x : Nat) : Int)) from (congrArg (Value.int .u64) (shB x))) <| .b ((idxB x : Nat) : Int) 64 <| .l (RdT.get rT ((idxB x : Nat) : Int) ω ω) <| .v 13 (show (.int .i64 (IntKind.i64.wrap (deI ((idxB x : Nat) : Int))) : Value) = .int .i64 (((Lib.ctz 64 x : Nat) : Int)) from (congrArg (Value.int .i64) (ctz_at σ hx))) <| .n) (fun aE aB => ?_)
 clear aA
 refine At.dn ?_
 have aC := aB.sb (r := [(2, .int .i64 (((Lib.ctz 64 x : Nat) : Int)))]); clear aB
 refine wp_ret ?_
 refine ret_ aC [] [.int .i64 (((Lib.ctz 64 x : Nat) : Int))] [] κ trivial ?_
 exact ⟨ret_eq (congrArg (Value.int .i64) (by first | rfl | exact ctz_0 σ)), e0⟩
end Go.Proofs.YtkkophhnliplhaaDoor
namespace Go.Proofs.YtkkophhnliplhaaDoor
open Go Go.RowKit
def tzI (z : Int) : Int := ((Lib.ctz 64 z.toNat : Nat) : Int)
theorem tzI_any {z : Int} {w : World} (h : W64 z) (rT : RdT w 0 w.heap.size) : Calls Tryd.prog 45 #[.int .u64 z] w fun e w' => e = .returned (.int .i64 (tzI z)) ∧ Ext w w' := by
  have h2 : z = ((z.toNat : Nat) : Int) := by have := h.1; omega
  have h3 : z.toNat < 18446744073709551616 := by have := h.1; have := h.2; omega
  have := tz_any (x := z.toNat) (w := w) h3 rT
  rw [← h2] at this
  exact this
theorem ctz_bits {x : Nat} (h0 : x ≠ 0) (h : x < 18446744073709551616) : Lib.ctz 64 x < 64 ∧ x.testBit (Lib.ctz 64 x) = true ∧ (∀ r, r < Lib.ctz 64 x → x.testBit r = false) ∧ ∀ r, (x &&& (x - 1)).testBit r = (x.testBit r && !decide (r = Lib.ctz 64 x)) := by
  have e : Lib.ctz 64 x = Lib.ctzFrom 64 x := by simp [Lib.ctz, h0]
  rw [e]
  obtain ⟨m, hm, hk⟩ := Lib.ctzFrom_spec 64 x (by omega) (by simpa using h)
  generalize Lib.ctzFrom 64 x = t at *
  have hp := Nat.two_pow_pos t
  have h1 : x - 1 = 2 ^ t * (2 * m) + (2 ^ t - 1) := by
    rw [hm, Nat.mul_add, Nat.mul_one]
    omega
  have hx : ∀ r, x.testBit r = if r < t then false else (2 * m + 1).testBit (r - t) := fun r => by
    have := Nat.testBit_two_pow_mul_add (2 * m + 1) (b := 0) (i := t) hp r
    rw [Nat.add_zero, ← hm] at this
    rw [this]
    simp
  have hy : ∀ r, (x - 1).testBit r = if r < t then true else (2 * m).testBit (r - t) := fun r => by
    rw [h1, Nat.testBit_two_pow_mul_add (2 * m) (b := 2 ^ t - 1) (i := t) (by omega) r]
    split
    · rw [Nat.testBit_two_pow_sub_one, decide_eq_true (by omega)]
    · rfl
  refine ⟨hk, ?_, fun r hr => ?_, fun r => ?_⟩
  · rw [hx, if_neg (by omega), Nat.sub_self]
    simp
  · rw [hx, if_pos hr]
  · rw [Nat.testBit_and, hx, hy]
    by_cases hr : r < t
    · rw [if_pos hr, if_pos hr]
      simp
    · rw [if_neg hr, if_neg hr]
      by_cases he : r = t
      · subst he
        simp
      · rw [decide_eq_false he]
        obtain ⟨j, hj⟩ : ∃ j, r - t = j + 1 := ⟨r - t - 1, by omega⟩
        rw [hj, Nat.testBit_succ, Nat.testBit_succ, show (2 * m + 1) / 2 = m by omega, show 2 * m / 2 = m by omega]
        cases m.testBit j <;> rfl
theorem tz_lt {z : Int} (h : W64 z) (h0 : ¬ z = 0) : 0 ≤ tzI z ∧ tzI z < 64 := by
  have h1 := h.1
  have h2 := h.2
  have := (ctz_bits (x := z.toNat) (by omega) (by omega)).1
  unfold tzI
  omega
theorem tz_bit {z : Int} (h : W64 z) (h0 : ¬ z = 0) : bitI z (tzI z) = true := by
  have h1 := h.1
  have h2 := h.2
  have := (ctz_bits (x := z.toNat) (by omega) (by omega)).2.1
  rw [bitI, tzI, Int.toNat_natCast]
  exact this
theorem tz_low {z : Int} (h : W64 z) (h0 : ¬ z = 0) {r : Int} (r0 : 0 ≤ r) (r1 : r < tzI z) : bitI z r = false := by
  have h1 := h.1
  have h2 := h.2
  have := (ctz_bits (x := z.toNat) (by omega) (by omega)).2.2.1 r.toNat (by unfold tzI at r1; omega)
  rw [bitI]
  exact this
def clrW (z : Int) : Int := andW z (z - 1)
theorem clr_bit {z : Int} (h : W64 z) (h0 : ¬ z = 0) {r : Int} (r0 : 0 ≤ r) : bitI (clrW z) r = (bitI z r && !decide (r = tzI z)) := by
  have h1 := h.1
  have h2 := h.2
  have := (ctz_bits (x := z.toNat) (by omega) (by omega)).2.2.2 r.toNat
  rw [clrW, andW, bitI, Int.toNat_natCast, show (z - 1).toNat = z.toNat - 1 by omega, this, bitI]
  congr 2
  unfold tzI
  rw [decide_eq_decide]
  omega
theorem clr_W {z : Int} (h : W64 z) (h0 : ¬ z = 0) : W64 (clrW z) := by
  have h1 := h.1
  have h2 := h.2
  exact andW_W h ⟨by omega, by omega⟩
theorem sub_W {z : Int} (h : W64 z) (h0 : ¬ z = 0) : IntKind.u64.wrap (z - 1) = z - 1 := by
  have h1 := h.1
  have h2 := h.2
  exact wrapU ⟨by omega, by omega⟩
theorem clr_eq {z : Int} (h : W64 z) (h0 : ¬ z = 0) : IntKind.u64.wrap (((BitVec.ofInt 64 z &&& BitVec.ofInt 64 (z - 1)).toNat : Nat) : Int) = clrW z := by
  have h1 := h.1
  have h2 := h.2
  exact and64 h ⟨by omega, by omega⟩
theorem ls_run {l : List Bool} {a : Nat} : ∀ d : Nat, (∀ r : Nat, a ≤ r → r < a + d → gB l (r : Int) = false) → lsD l (a + d) = lsD l a
  | 0, _ => rfl
  | d + 1, h => by
    rw [← Nat.add_assoc, lsD, if_neg (by rw [h (a + d) (by omega) (by omega)]; decide)]
    exact ls_run d fun r h1 h2 => h r h1 (by omega)
theorem ls_to {l : List Bool} {a b : Int} (h0 : 0 ≤ a) (h1 : a ≤ b) (h : ∀ r : Int, a ≤ r → r < b → gB l r = false) : lsD l b.toNat = lsD l a.toNat := by
  have := ls_run (l := l) (a := a.toNat) (b - a).toNat fun r x y => h r (by omega) (by omega)
  rw [show a.toNat + (b - a).toNat = b.toNat by omega] at this
  exact this
def RestW (s : List Int) (i v c : Int) : Prop := W64 v ∧ ∀ r : Int, 0 ≤ r → r < 64 → bitI v r = (decide (c ≤ r) && bitI (gI s i) r)
theorem rest_0 {s : List Int} {i : Int} (h : OkW s) : RestW s i (gI s i) 0 := ⟨h.2 i, fun r a b => by rw [decide_eq_true (by omega), Bool.true_and]⟩
theorem rest_tz {s : List Int} {i v c : Int} (h : RestW s i v c) (h0 : ¬ v = 0) : c ≤ tzI v := by
  have h1 := tz_lt h.1 h0
  have h2 := h.2 _ h1.1 h1.2
  rw [tz_bit h.1 h0] at h2
  by_cases hc : c ≤ tzI v
  · exact hc
  · rw [decide_eq_false hc] at h2
    cases h2
theorem rest_next {s : List Int} {i v c : Int} (h : RestW s i v c) (h0 : ¬ v = 0) : RestW s i (clrW v) (tzI v + 1) := by
  have h1 := tz_lt h.1 h0
  refine ⟨clr_W h.1 h0, fun r a b => ?_⟩
  rw [clr_bit h.1 h0 a]
  by_cases hr : tzI v + 1 ≤ r
  · rw [h.2 r a b, decide_eq_true hr, decide_eq_true (by have := rest_tz h h0; omega), decide_eq_false (by omega)]
    simp
  · rw [decide_eq_false hr]
    by_cases he : r = tzI v
    · rw [decide_eq_true he]
      simp
    · rw [tz_low h.1 h0 a (by omega)]
      simp
theorem rest_ls {s : List Int} {i v c : Int} {xs : List Int} (h : RestW s i v c) (h0 : ¬ v = 0) (i0 : 0 ≤ i) (i1 : i < 4) (c0 : 0 ≤ c) (hx : xs = lsD (fromW s) (64 * i + c).toNat) : xs ++ [64 * i + tzI v] = lsD (fromW s) (64 * i + (tzI v + 1)).toNat := by
  have h1 := tz_lt h.1 h0
  have h2 := rest_tz h h0
  have e : xs = lsD (fromW s) (64 * i + tzI v).toNat := by
    rw [hx]
    refine (ls_to (by omega) (by omega) fun r a b => ?_).symm
    rw [gB_from (by omega) (by omega), show r / 64 = i by omega]
    have h3 := h.2 (r % 64) (by omega) (by omega)
    rw [tz_low h.1 h0 (by omega) (by omega), decide_eq_true (by omega), Bool.true_and] at h3
    exact h3.symm
  rw [← Int.add_assoc]
  refine ls_yes e (by omega) ?_
  rw [gB_from (by omega) (by omega), show (64 * i + tzI v) / 64 = i by omega, show (64 * i + tzI v) % 64 = tzI v by omega]
  have h3 := h.2 _ h1.1 h1.2
  rw [tz_bit h.1 h0, decide_eq_true h2, Bool.true_and] at h3
  exact h3.symm
theorem rest_end {s : List Int} {i v c : Int} {xs : List Int} (h : RestW s i v c) (h0 : v = 0) (i0 : 0 ≤ i) (i1 : i < 4) (c0 : 0 ≤ c) (c1 : c ≤ 64) (hx : xs = lsD (fromW s) (64 * i + c).toNat) : xs = lsD (fromW s) (64 * (i + 1)).toNat := by
  subst h0
  rw [hx]
  refine (ls_to (by omega) (by omega) fun r a b => ?_).symm
  rw [gB_from (by omega) (by omega), show r / 64 = i by omega]
  have h3 := h.2 (r % 64) (by omega) (by omega)
  rw [bit_zero, decide_eq_true (by omega), Bool.true_and] at h3
  exact h3.symm
theorem list_end {s : List Int} {k : Int} {xs : List Int} (hx : xs = lsD (fromW s) (64 * k).toNat) (h0 : 4 ≤ k) (h1 : k ≤ 4) : xs = lsD (fromW s) 256 := by
  rw [hx, show (64 * k).toNat = 256 by omega]
/- Least. -/
theorem ls_count {s : List Int} {q : Nat} (hq : q < 4) : ∀ n, n ≤ 64 → (lsD (fromW s) (64 * q + n)).length = (lsD (fromW s) (64 * q)).length + popN (gI s (q : Int)).toNat n
  | 0, _ => by unfold popN; rfl
  | n + 1, h => by
    have ih := ls_count (s := s) hq n (by omega)
    have e : gB (fromW s) ((64 * q + n : Nat) : Int) = (gI s (q : Int)).toNat.testBit n := by
      rw [gB_from (by omega) (by omega), show ((64 * q + n : Nat) : Int) / 64 = (q : Int) by omega, show ((64 * q + n : Nat) : Int) % 64 = (n : Int) by omega]
      rfl
    rw [← Nat.add_assoc, lsD, e]
    unfold popN
    split
    · rw [List.length_append, ih]
      simp
      omega
    · rw [ih]
      omega
theorem lenN_ls {s : List Int} : ∀ q, q ≤ 4 → lenN s q = ((lsD (fromW s) (64 * q)).length : Int)
  | 0, _ => rfl
  | q + 1, h => by
    rw [lenN, lenN_ls q (by omega), onI, show 64 * (q + 1) = 64 * q + 64 by omega, ls_count (by omega) 64 (by omega)]
    omega
theorem lenW_ls (s : List Int) : lenW s = ((lsD (fromW s) 256).length : Int) := lenN_ls 4 (by omega)
theorem lenW_le (s : List Int) : 0 ≤ lenW s ∧ lenW s ≤ 256 := by
  rw [lenW_ls]
  have := ls_len (fromW s) 256
  omega
end Go.Proofs.YtkkophhnliplhaaDoor
namespace Go.Proofs.YtkkophhnliplhaaDoor
open Go Go.RowKit
def fullW (n : Int) : List Int := ofZW (fun j => lowW (if max n 0 > 256 then 64 else min (max (max n 0 - 64 * j) 0) 64))
theorem fullW_W (n : Int) : OkW (fullW n) := okW_of4 fun j _ _ => lowW_W (by split <;> omega) (by split <;> omega)
def orS (s t : List Int) : List Int := ofZW (fun j => orW (gI s j) (gI t j))
def andS (s t : List Int) : List Int := ofZW (fun j => andW (gI s j) (gI t j))
def minusS (s t : List Int) : List Int := ofZW (fun j => notW (gI s j) (gI t j))
def orD (l r : List Bool) : List Bool := ofZ (fun j => gB l j || gB r j)
def andD (l r : List Bool) : List Bool := ofZ (fun j => gB l j && gB r j)
def minusD (l r : List Bool) : List Bool := ofZ (fun j => gB l j && !gB r j)
def fullD (n : Int) : List Bool := ofZ (fun j => decide (j < n))
def emptyD : List Bool := List.replicate 256 false
theorem okW_orS {s t : List Int} (h : OkW s) (h2 : OkW t) : OkW (orS s t) := okW_or h h2
theorem okW_andS {s t : List Int} (h : OkW s) (h2 : OkW t) : OkW (andS s t) := okW_and h h2
theorem okW_minusS {s t : List Int} (h : OkW s) (h2 : OkW t) : OkW (minusS s t) := okW_minus h h2
theorem orD_len (l r : List Bool) : (orD l r).length = 256 := ofZ_len _
theorem andD_len (l r : List Bool) : (andD l r).length = 256 := ofZ_len _
theorem minusD_len (l r : List Bool) : (minusD l r).length = 256 := ofZ_len _
theorem fullD_len (n : Int) : (fullD n).length = 256 := ofZ_len _
theorem from_andS {s t : List Int} : fromW (andS s t) = andD (fromW s) (fromW t) := from_and
theorem gB_andD {l r : List Bool} {j : Int} (h0 : 0 ≤ j) (h1 : j < 256) : gB (andD l r) j = (gB l j && gB r j) := gB_ofZ h0 h1
theorem gB_fullD {n j : Int} (h0 : 0 ≤ j) (h1 : j < 256) : gB (fullD n) j = decide (j < n) := gB_ofZ h0 h1
theorem from_full {n : Int} : fromW (fullW n) = fullD n :=
  list_ext (from_len _) (fullD_len n) fun j a b => by
    rw [gB_from a b, gB_fullD a b, fullW, gI_ofZW (by omega) (by omega), bit_low (by split <;> omega) (by omega), decide_eq_decide]
    split <;> omega
end Go.Proofs.YtkkophhnliplhaaDoor
namespace Go.Proofs.YtkkophhnliplhaaDoor
open Go Go.RowKit
section
variable {s t u : List Int} (hs : OkW s) (ht : OkW t) (hu : OkW u)
include hs ht
end
def cB (l : List Bool) (n : Nat) : Int := ((lsD l n).length : Int)
end Go.Proofs.YtkkophhnliplhaaDoor
namespace Go.Proofs.YtkkophhnliplhaaDoor
open Go Go.RowKit
theorem mem_ls {l : List Bool} {z : Int} : ∀ {n : Nat}, z ∈ lsD l n ↔ 0 ≤ z ∧ z < (n : Int) ∧ gB l z = true
  | 0 => by
    refine ⟨fun h => (List.not_mem_nil h).elim, fun h => by omega⟩
  | n + 1 => by
    have ih := mem_ls (l := l) (z := z) (n := n)
    rw [lsD]
    by_cases hb : gB l (n : Int) = true
    · rw [if_pos hb, List.mem_append, ih, List.mem_singleton]
      constructor
      · rintro (h | rfl)
        · exact ⟨h.1, by omega, h.2.2⟩
        · exact ⟨by omega, by omega, hb⟩
      · rintro ⟨h1, h2, h3⟩
        by_cases e : z = (n : Int)
        · exact .inr e
        · exact .inl ⟨h1, by omega, h3⟩
    · rw [if_neg hb, ih]
      constructor
      · rintro ⟨h1, h2, h3⟩
        exact ⟨h1, by omega, h3⟩
      · rintro ⟨h1, h2, h3⟩
        by_cases e : z = (n : Int)
        · subst e
          exact (hb h3).elim
        · exact ⟨h1, by omega, h3⟩
theorem ls_lt (l : List Bool) : ∀ n : Nat, (lsD l n).Pairwise (· < ·)
  | 0 => List.Pairwise.nil
  | n + 1 => by
    rw [lsD]
    split
    · rw [List.pairwise_append]
      refine ⟨ls_lt l n, List.pairwise_singleton _ _, fun a ha b hb => ?_⟩
      rw [List.mem_singleton] at hb
      subst hb
      exact (mem_ls.1 ha).2.1
    · exact ls_lt l n
def FineT (l : List Int) : Prop := (∀ z ∈ l, 0 ≤ z ∧ z ≤ 255) ∧ l.Pairwise (· < ·)
instance (l : List Int) : Decidable (FineT l) := by unfold FineT; exact inferInstance
end Go.Proofs.YtkkophhnliplhaaDoor
namespace Go.Proofs.YtkkophhnliplhaaDoor
open Go Go.RowKit
theorem ls_get {l : List Bool} {k : Int} (h0 : 0 ≤ k) (h1 : k < ((lsD l 256).length : Int)) : gI (lsD l 256) k ∈ lsD l 256 := by
  simp only [gI, List.getD_eq_getElem?_getD, List.getElem?_eq_getElem (show k.toNat < (lsD l 256).length by omega), Option.getD_some]
  exact List.getElem_mem _
theorem gB_withW {sm : List Int} (hm : OkW sm) {i j : Int} (a : 0 ≤ j) (b : j < 256) : gB (fromW (withW sm i)) j = if i = j then true else gB (fromW sm) j := by rw [from_with hm, gB_put (from_len _) a b]
end Go.Proofs.YtkkophhnliplhaaDoor
namespace Go.Proofs.YtkkophhnliplhaaDoor
open Go Go.RowKit
def Rank (g : GameL) (I : List Bool) (p : Int) (T : List Bool) (mvs ord : List Int) : Prop :=
  ∀ a j b, ord = a ++ j :: b → gB T j = true ∨ (gI g.ow j = p ∧ gI mvs j ∈ gL g.mv j ∧ gI mvs j ∈ a) ∨ (gI g.ow j ≠ p ∧ ∀ x ∈ gL g.mv j, gB I x = true → x ∈ a)
structure MovA (g : GameL) (I : List Bool) (p : Int) (T S : List Bool) (mvs : List Int) : Prop where
  ml : mvs.length = g.ow.length
  mv : ∀ i : Int, 0 ≤ i → i < (g.ow.length : Int) → (gB S i = true ∧ gB T i = false ∧ gI g.ow i = p) ∨ gI mvs i = -1
  rank : ∃ ord : List Int, (∀ j : Int, 0 ≤ j → j < 256 → (gB S j = true ↔ j ∈ ord)) ∧ (∀ j ∈ ord, 0 ≤ j ∧ j < (g.ow.length : Int) ∧ gB I j = true) ∧ Rank g I p T mvs ord
structure AW (g : GameL) (I : List Bool) (p : Int) (T S : List Bool) (op lf mvs pr cur rest : List Int) : Prop where
  nd : (pr ++ op).Nodup
  mem : ∀ j : Int, 0 ≤ j → j < 256 → (gB S j = true ↔ j ∈ pr ++ op)
  rng : ∀ j ∈ pr ++ op, 0 ≤ j ∧ j < (g.ow.length : Int) ∧ gB I j = true
  ll : lf.length = g.ow.length
  ml : mvs.length = g.ow.length
  left : ∀ i : Int, 0 ≤ i → i < (g.ow.length : Int) → gB I i = true → gI lf i = cM (gL g.mv i) (fun x => gB I x && !decide (x ∈ (if i ∈ rest then pr else pr ++ cur)))
  own : ∀ i : Int, 0 ≤ i → i < (g.ow.length : Int) → gB I i = true → gI g.ow i = p → gB S i = false → ∀ x ∈ gL g.mv i, x ∉ (if i ∈ rest then pr else pr ++ cur)
  oth : ∀ i : Int, 0 ≤ i → i < (g.ow.length : Int) → gB I i = true → gI g.ow i ≠ p → gB S i = false → 0 < gI lf i ∨ ∀ x ∈ gL g.mv i, gB I x = false
  base : ∀ j : Int, 0 ≤ j → j < 256 → gB T j = true → gB I j = true → gB S j = true
  snd : ∀ C, AttC g I p T C → ∀ j ∈ pr ++ op, gB C j = true
  rank : Rank g I p T mvs (pr ++ op)
  mv : ∀ i : Int, 0 ≤ i → i < (g.ow.length : Int) → (gB S i = true ∧ gB T i = false ∧ gI g.ow i = p) ∨ gI mvs i = -1
end Go.Proofs.YtkkophhnliplhaaDoor
namespace Go.Proofs.YtkkophhnliplhaaDoor
open Go Go.RowKit
structure FrA (g : GameL) (I : List Bool) (fr : List (List Int)) (lf : List Int) (i q : Int) : Prop where
  len : fr.length = g.ow.length
  ll : lf.length = g.ow.length
  mem : ∀ m j : Int, 0 ≤ m → m < (g.ow.length : Int) → (j ∈ gL fr m ↔ 0 ≤ j ∧ j < (g.ow.length : Int) ∧ gB I j = true ∧ gB I m = true ∧ ((j < i ∧ m ∈ gL g.mv j) ∨ (j = i ∧ m ∈ (gL g.mv i).take q.toNat)))
  nd : ∀ m : Int, 0 ≤ m → m < (g.ow.length : Int) → (gL fr m).Nodup
  lf : ∀ j : Int, 0 ≤ j → j < (g.ow.length : Int) → gI lf j = if j < i then (if gB I j = true then cM (gL g.mv j) (gB I) else 0) else if j = i then cM ((gL g.mv i).take q.toNat) (gB I) else 0
  cnt : ∀ m : Int, 0 ≤ m → m < (g.ow.length : Int) → ((gL fr m).length : Int) ≤ 200 * i + q
def inS (g : GameL) (s : List Int) : List Int := andS s (fullW ((g.ow.length : Nat) : Int))
def inT (g : GameL) (s : List Int) : List Bool := fromW (inS g s)
theorem inS_ok {g : GameL} {s : List Int} (h : OkW s) : OkW (inS g s) := okW_andS h (fullW_W _)
theorem gB_inT {g : GameL} {s : List Int} {j : Int} (a : 0 ≤ j) (b : j < 256) : gB (inT g s) j = (gB (fromW s) j && decide (j < (g.ow.length : Int))) := by
  rw [inT, inS, from_andS, gB_andD a b, from_full, gB_fullD a b]
theorem inT_lt {g : GameL} {s : List Int} : ∀ j : Int, 0 ≤ j → j < 256 → gB (inT g s) j = true → j < (g.ow.length : Int) := fun j a b h => by
  rw [gB_inT a b, Bool.and_eq_true] at h
  exact of_decide_eq_true h.2
theorem has_inT {g : GameL} {s : List Int} {m : Int} (a : 0 ≤ m) (b : m < 256) : hasW (inS g s) m = gB (inT g s) m := by
  rw [hasW_from, hasD, decide_eq_true ⟨a, b⟩, Bool.true_and, inT]
end Go.Proofs.YtkkophhnliplhaaDoor
namespace Go.Proofs.YtkkophhnliplhaaDoor
open Go Go.RowKit
end Go.Proofs.YtkkophhnliplhaaDoor
namespace Go.Proofs.YtkkophhnliplhaaDoor
open Go Go.RowKit
section
variable {g : GameL} {s t ss mvs : List Int} {p : Int}
end
end Go.Proofs.YtkkophhnliplhaaDoor
namespace Go.Proofs.YtkkophhnliplhaaDoor
open Go Go.RowKit
def posI (I : List Bool) (m : Int) : Int := ((lsD I m.toNat).length : Int)
def subR (g : GameL) (I : List Bool) (i : Int) : List Int := ((gL g.mv i).filter (fun m => gB I m)).map (posI I)
def subAll (g : GameL) (I : List Bool) : Bool := (lsD I 256).all (fun i => !(subR g I i).isEmpty)
def subOk (g : GameL) (I : List Bool) : Bool := isR g && subAll g I
def subG (g : GameL) (I : List Bool) : GameL := if subOk g I = true then ⟨(lsD I 256).map (gI g.ow), (lsD I 256).map (gI g.pr), (lsD I 256).map (subR g I)⟩ else ⟨[], [], []⟩
def subO (g : GameL) (I : List Bool) : List Int := if subOk g I = true then lsD I 256 else []
def subB (g : GameL) (I : List Bool) : Bool := subOk g I && decide (((lsD I 256).length : Int) > 0)
theorem ls_pre (l : List Bool) (n : Nat) : ∀ d, (lsD l n).length ≤ (lsD l (n + d)).length ∧ ∀ k : Nat, k < (lsD l n).length → (lsD l (n + d))[k]? = (lsD l n)[k]?
  | 0 => ⟨Nat.le_refl _, fun k _ => rfl⟩
  | d + 1 => by
    obtain ⟨h1, h2⟩ := ls_pre l n d
    rw [← Nat.add_assoc, lsD]
    split
    · refine ⟨by rw [List.length_append]; omega, fun k hk => ?_⟩
      rw [List.getElem?_append_left (by omega)]
      exact h2 k hk
    · exact ⟨h1, h2⟩
theorem pos_at {l : List Bool} {m : Int} (a : 0 ≤ m) (b : m < 256) (h : gB l m = true) : 0 ≤ posI l m ∧ posI l m < ((lsD l 256).length : Int) ∧ gI (lsD l 256) (posI l m) = m := by
  have e : lsD l (m.toNat + 1) = lsD l m.toNat ++ [m] := by
    rw [lsD, show ((m.toNat : Nat) : Int) = m by omega, if_pos h]
  obtain ⟨h1, h2⟩ := ls_pre l (m.toNat + 1) (255 - m.toNat)
  rw [show m.toNat + 1 + (255 - m.toNat) = 256 by omega, e, List.length_append] at h1
  rw [show m.toNat + 1 + (255 - m.toNat) = 256 by omega, e] at h2
  have h3 := h2 (lsD l m.toNat).length (by rw [List.length_append]; simp)
  simp only [List.length_singleton] at h1
  refine ⟨Int.natCast_nonneg _, by unfold posI; omega, ?_⟩
  simp only [posI, gI, Int.toNat_natCast, List.getD_eq_getElem?_getD, h3]
  simp
theorem ls_rng {l : List Bool} {k : Int} (a : 0 ≤ k) (b : k < ((lsD l 256).length : Int)) : 0 ≤ gI (lsD l 256) k ∧ gI (lsD l 256) k < 256 ∧ gB l (gI (lsD l 256) k) = true := by
  have := mem_ls.1 (ls_get a b)
  exact ⟨this.1, by omega, this.2.2⟩
structure NowT (I : List Bool) (nw : List Int) (k : Int) : Prop where
  len : nw.length = 256
  at_ : ∀ j : Int, 0 ≤ j → j < k → gI nw (gI (lsD I 256) j) = j
theorem now_0 {I : List Bool} : NowT I (List.replicate 256 (0 : Int)) 0 := ⟨List.length_replicate, fun j a b => by omega⟩
theorem ls_ne {l : List Bool} {i j : Int} (a : 0 ≤ i) (b : i < j) (c : j < ((lsD l 256).length : Int)) : gI (lsD l 256) i < gI (lsD l 256) j := by
  have := List.pairwise_iff_getElem.1 (ls_lt l 256) i.toNat j.toNat (by omega) (by omega) (by omega)
  rw [gI_eq a (by omega), gI_eq (by omega) c]
  exact this
theorem now_next {I : List Bool} {nw : List Int} {k : Int} (h : NowT I nw k) (a : 0 ≤ k) (b : k < ((lsD I 256).length : Int)) : NowT I (nw.set (gI (lsD I 256) k).toNat k) (k + 1) := by
  have hr := ls_rng a b
  have hl := h.len
  refine ⟨by rw [List.length_set]; exact hl, fun j c d => ?_⟩
  have hj := ls_rng (l := I) (k := j) c (by omega)
  rw [gI_set' hr.1 (by omega) hj.1]
  by_cases e : j = k
  · subst e
    rw [if_pos rfl]
  · have := ls_ne (l := I) c (show j < k by omega) b
    rw [if_neg (by omega)]
    exact h.at_ j c (by omega)
theorem now_pos {I : List Bool} {nw : List Int} {k m : Int} (h : NowT I nw k) (hk : ((lsD I 256).length : Int) ≤ k) (a : 0 ≤ m) (b : m < 256) (hm : gB I m = true) : gI nw m = posI I m := by
  obtain ⟨h1, h2, h3⟩ := pos_at a b hm
  have := h.at_ (posI I m) h1 (by omega)
  rwa [h3] at this
theorem row_push {g : GameL} {I : List Bool} {i q v : Int} {xs : List Int} (h : xs = (((gL g.mv i).take q.toNat).filter (fun m => gB I m)).map (posI I)) (a : 0 ≤ q) (b : q < ((gL g.mv i).length : Int)) (hm : gB I (gI (gL g.mv i) q) = true) (hv : v = posI I (gI (gL g.mv i) q)) :
    xs ++ [v] = (((gL g.mv i).take (q + 1).toNat).filter (fun m => gB I m)).map (posI I) := by
  rw [show (q + 1).toNat = q.toNat + 1 by omega, List.take_succ_eq_append_getElem (show q.toNat < (gL g.mv i).length by omega), ← gI_eq a b, List.filter_append, List.map_append, ← h, hv]
  simp [hm]
theorem row_skip {g : GameL} {I : List Bool} {i q : Int} {xs : List Int} (h : xs = (((gL g.mv i).take q.toNat).filter (fun m => gB I m)).map (posI I)) (a : 0 ≤ q) (b : q < ((gL g.mv i).length : Int)) (hm : gB I (gI (gL g.mv i) q) = false) :
    xs = (((gL g.mv i).take (q + 1).toNat).filter (fun m => gB I m)).map (posI I) := by
  rw [show (q + 1).toNat = q.toNat + 1 by omega, List.take_succ_eq_append_getElem (show q.toNat < (gL g.mv i).length by omega), ← gI_eq a b, List.filter_append, List.map_append, ← h]
  simp [hm]
theorem row_0 {g : GameL} {I : List Bool} {i : Int} : ([] : List Int) = (((gL g.mv i).take (0 : Int).toNat).filter (fun m => gB I m)).map (posI I) := by simp
theorem row_end {g : GameL} {I : List Bool} {i q : Int} {xs : List Int} (h : xs = (((gL g.mv i).take q.toNat).filter (fun m => gB I m)).map (posI I)) (hq : ((gL g.mv i).length : Int) ≤ q) : xs = subR g I i := by
  rw [h, List.take_of_length_le (by omega)]
  rfl
theorem row_lenS {g : GameL} {I : List Bool} {i q : Int} {xs : List Int} (h : xs = (((gL g.mv i).take q.toNat).filter (fun m => gB I m)).map (posI I)) (a : 0 ≤ q) : (xs.length : Int) ≤ q := by
  have h1 := List.length_filter_le (fun m => gB I m) ((gL g.mv i).take q.toNat)
  have h2 := congrArg List.length h
  rw [List.length_map] at h2
  rw [List.length_take] at h1
  omega
def GoneT (g : GameL) (I : List Bool) (k : Int) : Prop := ∀ j : Int, 0 ≤ j → j < k → subR g I (gI (lsD I 256) j) ≠ []
theorem gone_next {g : GameL} {I : List Bool} {k : Int} (h : GoneT g I k) (hk : subR g I (gI (lsD I 256) k) ≠ []) : GoneT g I (k + 1) := fun j a b => by
  by_cases e : j = k
  · subst e
    exact hk
  · exact h j a (by omega)
theorem gone_all {g : GameL} {I : List Bool} {k : Int} (h : GoneT g I k) (hk : ((lsD I 256).length : Int) ≤ k) : subAll g I = true := by
  unfold subAll
  rw [List.all_eq_true]
  intro x hx
  obtain ⟨j, hj, rfl⟩ := List.mem_iff_getElem.1 hx
  have := h (j : Int) (by omega) (by omega)
  rw [gI_eq (by omega) (by omega)] at this
  simp only [Int.toNat_natCast] at this
  simpa [List.isEmpty_iff] using this
theorem gone_bad {g : GameL} {I : List Bool} {k : Int} (a : 0 ≤ k) (b : k < ((lsD I 256).length : Int)) (hk : subR g I (gI (lsD I 256) k) = []) : subAll g I = false := by
  unfold subAll
  rw [List.all_eq_false]
  refine ⟨_, ls_get a b, ?_⟩
  rw [hk]
  simp
theorem map_push {α : Type} {f : Int → α} {la : List Int} {k : Int} {xs : List α} (h : xs = (la.take k.toNat).map f) (a : 0 ≤ k) (b : k < (la.length : Int)) : xs ++ [f (gI la k)] = (la.take (k + 1).toNat).map f := by
  rw [show (k + 1).toNat = k.toNat + 1 by omega, List.take_succ_eq_append_getElem (show k.toNat < la.length by omega), ← gI_eq a b, List.map_append, ← h]
  rfl
theorem map_all {α : Type} {f : Int → α} {la : List Int} {k : Int} {xs : List α} (h : xs = (la.take k.toNat).map f) (b : (la.length : Int) ≤ k) : xs = la.map f := by rw [h, List.take_of_length_le (by omega)]
theorem sub_yes {g : GameL} {I : List Bool} (hR : isR g = true) (h : subAll g I = true) : subG g I = ⟨(lsD I 256).map (gI g.ow), (lsD I 256).map (gI g.pr), (lsD I 256).map (subR g I)⟩ ∧ subO g I = lsD I 256 ∧ subB g I = decide (((lsD I 256).length : Int) > 0) := by
  have e : subOk g I = true := by rw [subOk, hR, h]; rfl
  refine ⟨by rw [subG, if_pos e], by rw [subO, if_pos e], by rw [subB, e, Bool.true_and]⟩
theorem sub_no {g : GameL} {I : List Bool} (h : isR g = false ∨ subAll g I = false) : subG g I = ⟨[], [], []⟩ ∧ subO g I = [] ∧ subB g I = false := by
  have e : subOk g I = false := by
    rcases h with h | h
    · rw [subOk, h]; rfl
    · rw [subOk, h, Bool.and_false]
  refine ⟨by rw [subG, if_neg (by rw [e]; decide)], by rw [subO, if_neg (by rw [e]; decide)], by rw [subB, e, Bool.false_and]⟩
theorem sub_lens (g : GameL) (I : List Bool) : (subG g I).ow.length ≤ 256 ∧ (subG g I).pr.length ≤ 256 ∧ (subG g I).mv.length ≤ 256 ∧ (subO g I).length ≤ 256 := by
  have h := ls_len I 256
  unfold subG subO
  split
  · simp only [List.length_map]
    omega
  · simp
theorem sub_inner (g : GameL) (s : List Int) : ∀ i, i < (subG g (inT g s)).mv.length → ((subG g (inT g s)).mv.getD i []).length * 8 ≤ 140737488351232 := by
  unfold subG
  split
  · rename_i h
    unfold subOk at h
    rw [Bool.and_eq_true] at h
    have hG := isR_ok h.1
    intro i hi
    simp only [List.length_map] at hi
    have hr := ls_rng (l := inT g s) (k := (i : Int)) (by omega) (by omega)
    have hlt := inT_lt _ hr.1 hr.2.1 hr.2.2
    have h2 := row_len hG hr.1 hlt
    have hn := hG.n1
    have h3 := List.length_filter_le (fun m => gB (inT g s) m) (gL g.mv (gI (lsD (inT g s) 256) (i : Int)))
    rw [gI_eq (by omega) (by omega)] at h2 h3
    simp only [Int.toNat_natCast] at h2 h3
    simp only [List.getD_eq_getElem?_getD, List.getElem?_map, List.getElem?_eq_getElem hi, Option.map_some, Option.getD_some, subR, List.length_map]
    omega
  · intro i hi
    simp at hi
/- Where a number stands in a list. -/
structure AmoT (l : List Int) (n : Int) (xs : List Int) (k : Int) : Prop where
  ok : OkW xs
  at_ : ∀ j : Int, 0 ≤ j → j < 256 → gB (fromW xs) j = (decide (j < k) && (decide (j < (l.length : Int)) && decide (gI l j = n)))
theorem amo_0 {l : List Int} {n : Int} : AmoT l n (List.replicate 4 (0 : Int)) 0 := ⟨okW_0, fun j a b => by rw [from_0, gB_rep, decide_eq_false (by omega), Bool.false_and]⟩
theorem amo_no {l : List Int} {n : Int} {xs : List Int} {k : Int} (h : AmoT l n xs k) (hk : gI l k ≠ n) : AmoT l n xs (k + 1) := ⟨h.ok, fun j a b => by
  rw [h.at_ j a b]
  by_cases e : j = k
  · subst e
    rw [decide_eq_false hk, Bool.and_false, Bool.and_false, Bool.and_false]
  · congr 1
    rw [decide_eq_decide]
    omega⟩
theorem amo_yes {l : List Int} {n : Int} {xs : List Int} {k : Int} (h : AmoT l n xs k) (a : 0 ≤ k) (b : k < (l.length : Int)) (hk : gI l k = n) : AmoT l n (withW xs k) (k + 1) := ⟨okW_with h.ok, fun j c d => by
  rw [gB_withW h.ok c d]
  by_cases e : k = j
  · subst e
    rw [if_pos rfl, decide_eq_true hk, decide_eq_true b, decide_eq_true (by omega)]
    rfl
  · rw [if_neg e, h.at_ j c d]
    congr 1
    rw [decide_eq_decide]
    omega⟩
def amoD (l : List Int) (n : Int) : List Bool := ofZ (fun j => decide (j < (l.length : Int)) && decide (gI l j = n))
theorem amo_end {l : List Int} {n : Int} {xs : List Int} {k : Int} (h : AmoT l n xs k) (hk : (l.length : Int) ≤ k) : xs = wordsD (amoD l n) :=
  (same_iff h.ok (ofZ_len _)).2 (list_ext (from_len _) (ofZ_len _) fun j a b => by
    rw [h.at_ j a b, gB_ofZ a b]
    by_cases e : j < (l.length : Int)
    · rw [decide_eq_true (show j < k by omega), Bool.true_and]
    · rw [decide_eq_false e, Bool.false_and, Bool.and_false])
end Go.Proofs.YtkkophhnliplhaaDoor
namespace Go.Proofs.YtkkophhnliplhaaDoor
open Go Go.RowKit
set_option maxHeartbeats 4000000 in
theorem with_any {s : List Int} {n : Int} {w : World} (hs : OkW s) :
    Calls Tryd.prog 44 #[.agg ((s : List Int).map wV).toArray, .int .i64 (n)] w fun e w' => e = .returned (.agg (((withW s n : List Int)).map wV).toArray) ∧ Ext w w' := by
 have hls := hs.1
 refine enter_ (args := [.agg ((s : List Int).map wV).toArray, .int .i64 (n)]) Tryd.func44 rfl Tryd.ntmps44 (Nat.le_of_ble_eq_true rfl) (fun act0 f0 => ?_)
 have e0 : Ext w w := Ext.refl w
 refine sqs ?_
 refine At.bx f0 2 ((s : List Int).map wV) 47 (fun w1 g5 bx6 act4 f3 => ?_)
 clear f0; have := g5.size; replace e0 := e0.gn g5; have := bx6.lt; clear g5
 refine At.bx f3 4 ((List.replicate 4 (0 : Int) : List Int).map wV) 47 (fun w9 aD aA aX aE => ?_)
 clear f3; have := aD.size; replace e0 := e0.gn aD; replace bx6 := bx6.gn aD; have := aA.lt; clear aD
 refine At.dn ?_
 refine wp_seq ?_
 refine sqs ?_
 rcases Bool.eq_false_or_eq_true (decide ((n : Int) ≥ 0)) with aB | aB
 ·have aY := of_decide_eq_true aB
  refine At.rk aE 6 [(10, .bool (decide ((n : Int) < 256)))] (.e 7 aB <| .n) (fun aZ aC => ?_)
  clear aE
  refine At.dn ?_
  refine cond_S aC (t := decide ((n : Int) < 256)) rfl (fun aJ => ?_) (fun aJ => ?_)
  ·have bA := of_decide_eq_true aJ
   refine At.start ?_
   refine At.rk aC 10 [(20, .pointer (some ((⟨w.heap.size, 0, none⟩ : Addr).add (((n : Int) / 64 : Int).toNat * 1)))), (19, .int .u64 (orW (gI s ((n : Int) / 64)) (oneW ((n : Int) % 64))))] (.p (show 0 ≤ (6 : Int) from ω) <| .v 12 (show (.int .i64 ((n : Int).fdiv (2 ^ (min (6 : Int).toNat IntKind.i64.bits))) : Value) = .int .i64 ((n : Int) / 64) from (congrArg (Value.int .i64) (shr6 _))) <| .b ((n : Int) / 64) 4 <| .l (Bx.arrM (f := wV) (0 : Int) bx6 ((n : Int) / 64) ω ω) <| .v 16 (show (.int .i64 (IntKind.i64.wrap ((BitVec.ofInt 64 n &&& BitVec.ofInt 64 63).toNat : Int)) : Value) = .int .i64 ((n : Int) % 64) from (congrArg (Value.int .i64) (and63 ω ω))) <| .v 17 (show (.int .u64 (IntKind.u64.wrap ((n : Int) % 64)) : Value) = .int .u64 ((n : Int) % 64) from (wu64 ω ω)) <| .p (show 0 ≤ ((n : Int) % 64 : Int) from ω) <| .v 18 (show (.int .u64 (IntKind.u64.wrap (1 * (2 ^ (min ((n : Int) % 64 : Int).toNat IntKind.u64.bits)))) : Value) = .int .u64 (oneW ((n : Int) % 64)) from (congrArg (Value.int .u64) (shl_one ω ω))) <| .v 19 (show (.int .u64 (IntKind.u64.wrap ((BitVec.ofInt 64 (gI s ((n : Int) / 64)) ||| BitVec.ofInt 64 (oneW ((n : Int) % 64))).toNat : Int)) : Value) = .int .u64 (orW (gI s ((n : Int) / 64)) (oneW ((n : Int) % 64))) from (congrArg (Value.int .u64) (or64 (by first | exact hs.2 _ | exact ht.2 _ | exact oneW_W ω ω | exact mixW_W hmx ω ω hs) (by first | exact hs.2 _ | exact ht.2 _ | exact oneW_W ω ω | exact mixW_W hmx ω ω hs)))) <| .b ((n : Int) / 64) 4 <| .n) (fun bB aM => ?_)
   clear aC
   refine At.act aM (storeArrM (f := wV) (t := 34) (b := w.heap.size) (i := (n : Int) / 64) (x := orW (gI s ((n : Int) / 64)) (oneW ((n : Int) % 64))) (v := .int .u64 (orW (gI s ((n : Int) / 64)) (oneW ((n : Int) % 64)))) κ rfl rfl κ bx6 ω ω) ?_
   rintro d_ v_ bC ⟨rfl, aF, aK⟩
   refine ⟨_, rfl, fun bD aN => ?_⟩
   clear aM; have bE : ((s).set ((n : Int) / 64 : Int).toNat (orW (gI s ((n : Int) / 64)) (oneW ((n : Int) % 64)))).length = (s : List Int).length := List.length_set; have := aF.size; replace e0 := e0.gr aF (fun k h => by injection h; omega); replace aA := aA.gb aF ω; clear bx6 aF
   refine At.dn ?_
   refine sqs ?_
   refine At.rk aN 1 [(21, .agg (((s).set ((n : Int) / 64 : Int).toNat (orW (gI s ((n : Int) / 64)) (oneW ((n : Int) % 64))) : List Int).map wV).toArray)] (.p (show (((s).set ((n : Int) / 64 : Int).toNat (orW (gI s ((n : Int) / 64)) (oneW ((n : Int) % 64))) : List Int).map wV).length = 4 from len_P) <| .p aK.whole <| .o (.cs (((s).set ((n : Int) / 64 : Int).toNat (orW (gI s ((n : Int) / 64)) (oneW ((n : Int) % 64))) : List Int).map wV)) <| .n) (fun bF aO => ?_)
   clear aN
   refine At.act aO (storeBlk (t := 47) (b := w1.heap.size) (n := 4) (cs' := (((s).set ((n : Int) / 64 : Int).toNat (orW (gI s ((n : Int) / 64)) (oneW ((n : Int) % 64))) : List Int).map wV)) κ κ len_P oneW_ ((show (((s).set ((n : Int) / 64 : Int).toNat (orW (gI s ((n : Int) / 64)) (oneW ((n : Int) % 64))) : List Int).map wV).length = 4 from len_P).trans (show ((List.replicate 4 (0 : Int) : List Int).map wV).length = 4 from len_P).symm) aA) ?_
   rintro d_ v_ bG ⟨rfl, aG, aR⟩
   refine ⟨_, rfl, fun bH aS => ?_⟩
   clear aO; have := aG.size; replace e0 := e0.gr aG (fun k h => by injection h; omega); replace aK := aK.gb aG ω; clear aA aG
   refine At.dn ?_
   refine wp_ret ?_
   refine retB_ aS (sl := 4) (cs := (((s).set ((n : Int) / 64 : Int).toNat (orW (gI s ((n : Int) / 64)) (oneW ((n : Int) % 64))) : List Int).map wV)) (m := 4) rfl κ κ len_P aR ?_
   exact ⟨ret_map (by first | rw [withW, if_pos ⟨by omega, by omega⟩] | rw [withW, if_neg ω]), e0⟩
  have bI := of_decide_eq_false aJ
  refine wp_skip ?_
  refine t_n ?_
  refine sqs ?_
  refine At.rk aC 1 [(21, .agg ((s : List Int).map wV).toArray)] (.p (show ((s : List Int).map wV).length = 4 from ((List.length_map _).trans σ)) <| .p bx6.whole <| .o (.cs ((s : List Int).map wV)) <| .n) (fun bJ aP => ?_)
  clear aC
  refine At.act aP (storeBlk (t := 47) (b := w1.heap.size) (n := 4) (cs' := ((s : List Int).map wV)) κ κ ((List.length_map _).trans σ) oneW_ ((show ((s : List Int).map wV).length = 4 from ((List.length_map _).trans σ)).trans (show ((List.replicate 4 (0 : Int) : List Int).map wV).length = 4 from len_P).symm) aA) ?_
  rintro d_ v_ bK ⟨rfl, aH, aT⟩
  refine ⟨_, rfl, fun bL aU => ?_⟩
  clear aP; have := aH.size; replace e0 := e0.gr aH (fun k h => by injection h; omega); replace bx6 := bx6.gb aH ω; clear aA aH
  refine At.dn ?_
  refine wp_ret ?_
  refine retB_ aU (sl := 4) (cs := ((s : List Int).map wV)) (m := 4) rfl κ κ ((List.length_map _).trans σ) aT ?_
  exact ⟨ret_map (by first | rw [withW, if_pos ⟨by omega, by omega⟩] | rw [withW, if_neg ω]), e0⟩
 have bM := of_decide_eq_false aB
 refine At.rk aE 6 [(10, .bool false)] (.e 7 aB <| .n) (fun bN aL => ?_)
 clear aE
 refine At.dn ?_
 refine cond_F aL rfl ?_
 refine wp_skip ?_
 refine t_n ?_
 refine sqs ?_
 refine At.rk aL 1 [(21, .agg ((s : List Int).map wV).toArray)] (.p (show ((s : List Int).map wV).length = 4 from ((List.length_map _).trans σ)) <| .p bx6.whole <| .o (.cs ((s : List Int).map wV)) <| .n) (fun bO aQ => ?_)
 clear aL
 refine At.act aQ (storeBlk (t := 47) (b := w1.heap.size) (n := 4) (cs' := ((s : List Int).map wV)) κ κ ((List.length_map _).trans σ) oneW_ ((show ((s : List Int).map wV).length = 4 from ((List.length_map _).trans σ)).trans (show ((List.replicate 4 (0 : Int) : List Int).map wV).length = 4 from len_P).symm) aA) ?_
 rintro d_ v_ bP ⟨rfl, aI, aV⟩
 refine ⟨_, rfl, fun bQ aW => ?_⟩
 clear aQ; have := aI.size; replace e0 := e0.gr aI (fun k h => by injection h; omega); replace bx6 := bx6.gb aI ω; clear aA aI
 refine At.dn ?_
 refine wp_ret ?_
 refine retB_ aW (sl := 4) (cs := ((s : List Int).map wV)) (m := 4) rfl κ κ ((List.length_map _).trans σ) aV ?_
 exact ⟨ret_map (by first | rw [withW, if_pos ⟨by omega, by omega⟩] | rw [withW, if_neg ω]), e0⟩
set_option maxHeartbeats 4000000 in
theorem and_any {s : List Int} {t : List Int} {w : World} (hs : OkW s) (ht : OkW t) :
    Calls Tryd.prog 31 #[.agg ((s : List Int).map wV).toArray, .agg ((t : List Int).map wV).toArray] w fun e w' => e = .returned (.agg (((ofZW (fun j => andW (gI s j) (gI t j)) : List Int)).map wV).toArray) ∧ Ext w w' := by
 have hls := hs.1; have hlt := ht.1
 refine enter_ (args := [.agg ((s : List Int).map wV).toArray, .agg ((t : List Int).map wV).toArray]) Tryd.func31 rfl Tryd.ntmps31 (Nat.le_of_ble_eq_true rfl) (fun act0 f0 => ?_)
 have e0 : Ext w w := Ext.refl w
 refine sqs ?_
 refine At.bx f0 2 ((s : List Int).map wV) 47 (fun w1 g5 bx6 act4 f3 => ?_)
 clear f0; have := g5.size; replace e0 := e0.gn g5; have := bx6.lt; clear g5
 refine At.bx f3 3 ((t : List Int).map wV) 47 (fun w9 aL aG bM aQ => ?_)
 clear f3; have := aL.size; replace e0 := e0.gn aL; replace bx6 := bx6.gn aL; have := aG.lt; clear aL
 refine At.bx aQ 4 ((List.replicate 4 (0 : Int) : List Int).map wV) 47 (fun bN aH aM bO aR => ?_)
 clear aQ; have := aH.size; replace e0 := e0.gn aH; replace bx6 := bx6.gn aH; replace aG := aG.gn aH; have := aM.lt; clear aH
 refine At.dn ?_
 refine wp_seq ?_
 refine sqs ?_
 refine At.rk aR 1 [(6, .int .i64 (0))] .n (fun bP aS => ?_)
 clear aR
 refine At.dn ?_
 refine wp_block ?_
 refine loop_g (fun (m_ : Nat) a_ w_ => ∃ (k : Int) (xs : List Int), m_ = (4 - k).toNat ∧ (Frm 19 a_ [(6, .int .i64 (k)), (4, pt w9.heap.size 0), (3, pt w1.heap.size 0), (2, pt w.heap.size 0)]) ∧ (Ext w w_) ∧ (Bx w_ (w.heap.size) ((xs : List Int).map wV) 47) ∧ (Bx w_ (w1.heap.size) ((t : List Int).map wV) 47) ∧ (Bx w_ (w9.heap.size) ((List.replicate 4 (0 : Int) : List Int).map wV) 47) ∧ (0 ≤ k) ∧ (k ≤ 4) ∧ (xs.length = 4) ∧ (MixW s xs (fun j => andW (gI s j) (gI t j)) k)) _ ⟨0, s, rfl, aS.sb, e0, bx6, aG, aM, ω, ω, ω, (mixW_0 hls)⟩ ?_
 clear aS; clear bx6; clear aG; clear aM; clear e0
 intro m_ bQ bF ⟨k, xs, hm34, aT, aA, aB, aC, aD, i39, i40, i41, hmx⟩
 have := aA.size; have := aB.lt; have := aC.lt; have := aD.lt
 refine sqs ?_
 refine At.rk aT 1 [(7, .bool (decide ((k : Int) < 4)))] .n (fun bR aI => ?_)
 clear aT
 refine At.dn ?_
 refine wp_seq ?_
 refine cond_S aI (t := decide ((k : Int) < 4)) rfl (fun aN => ?_) (fun aN => ?_)
 ·have bS := of_decide_eq_true aN
  refine wp_skip ?_
  refine t_n ?_
  refine wp_seq ?_
  refine wp_block ?_
  refine sqs ?_
  refine At.rk aI 2 [(5, .int .i64 (k))] .n (fun bT aU => ?_)
  clear aI
  refine At.dn ?_
  obtain ⟨aV, aO⟩ : ∃ c : List (Addr × Value), c = [(((⟨w1.heap.size, 0, none⟩ : Addr).add ((k : Int).toNat * 1)), (.int .u64 (gI t k)))] := ⟨_, rfl⟩
  have aW : HoldsC aV bF := by rw [aO]; exact ⟨(Bx.arrM (f := wV) (0 : Int) aC k ω ω), trivial⟩
  refine AtH.start aV 9 _ κ rfl rfl (fun aP aX => ?_)
  have aE := gr_drew aX; have aJ := aW.gr aE; have := aE.size; replace aA := aA.gn aE; replace aB := aB.gn aE; replace aC := aC.gn aE; replace aD := aD.gn aE; clear aE aX aW
  refine AtH.rk aJ aU [0, 1, 3, 4, 5] 4 [(14, .int .u64 (gI t k)), (10, .pointer (some ((⟨w.heap.size, 0, none⟩ : Addr).add ((k : Int).toNat * 1)))), (9, .int .i64 (k))] (.b k 4 <| .b k 4 <| .l (CsC_at aO 0 rfl) <| .n) (fun bU aY => ?_)
  clear aU
  refine AtH.all [2] 3 κ (by simp) ⟨?_, trivial⟩
  refine OneH.seq aY [[.ld (.int .u64 (gI xs k))]] [(11, .int .u64 (gI xs k))] aP [(aP.cell? ((⟨w.heap.size, 0, none⟩ : Addr).add ((k : Int).toNat * 1)) = some (.int .u64 (gI xs k)))] _ rfl κ κ ⟨(Bx.arrM (f := wV) (0 : Int) aB k ω ω), trivial⟩ (fun bV bG bH aZ => ?_)
  obtain rfl : aP = bG := bH.symm
  clear aY
  refine ⟨aJ, ?_⟩
  refine AtH.rk aJ aZ [6] 2 [(15, .int .u64 (andW (gI xs k) (gI t k)))] (.v 15 (show (.int .u64 (IntKind.u64.wrap ((BitVec.ofInt 64 (gI xs k) &&& BitVec.ofInt 64 (gI t k)).toNat : Int)) : Value) = .int .u64 (andW (gI xs k) (gI t k)) from (congrArg (Value.int .u64) (and64 (by first | exact hs.2 _ | exact ht.2 _ | exact oneW_W ω ω | exact mixW_W hmx ω ω hs) (by first | exact hs.2 _ | exact ht.2 _ | exact oneW_W ω ω | exact mixW_W hmx ω ω hs)))) <| .n) (fun bW bA => ?_)
  clear aZ
  refine AtH.rk aJ bA [7] 1 [(16, .pointer (some ((⟨w.heap.size, 0, none⟩ : Addr).add ((k : Int).toNat * 1))))] (.b k 4 <| .n) (fun bX bB => ?_)
  clear bA
  refine AtH.all [8] 0 κ (by simp) ⟨?_, trivial⟩
  refine OneH.act bB _ rfl (storeArrM (f := wV) (t := 34) (b := w.heap.size) (i := k) (x := andW (gI xs k) (gI t k)) (v := .int .u64 (andW (gI xs k) (gI t k))) κ rfl rfl κ aB ω ω) ?_
  rintro d_ v_ bY ⟨rfl, aF, bI⟩
  have bC := aJ.gr' aF (by rw [aO]; exact ⟨(by simp only [add_block]; omega), trivial⟩)
  refine ⟨_, rfl, fun bZ bD => ⟨bC, ?_⟩⟩
  clear bB; have cA : ((xs).set (k : Int).toNat (andW (gI xs k) (gI t k))).length = (xs : List Int).length := List.length_set; have := aF.size; replace aA := aA.gr aF (fun k h => by injection h; omega); replace aC := aC.gb aF ω; replace aD := aD.gb aF ω; clear aB aF
  refine AtH.done κ ?_
  clear bC
  refine b_n ?_
  refine t_n ?_
  refine At.start ?_
  refine At.rk bD 2 [(6, .int .i64 (k + 1))] (.w 17 (k + 1) <| .n) (fun cB bJ => ?_)
  clear bD
  refine At.dn ?_
  exact ⟨_, ω, (k + 1), (xs).set (k : Int).toNat (andW (gI xs k) (gI t k)), rfl, bJ.sb, aA, bI, aC, aD, ω, ω, ω, (mixW_next hmx ω ω (by rw [mixW_at hmx ω ω]))⟩
 have cC := of_decide_eq_false aN
 refine wp_exit ?_
 refine t_e ?_
 clear hm34
 refine t_e ?_
 refine b_e ?_
 refine t_n ?_
 refine sqs ?_
 refine At.rk aI 1 [(18, .agg ((xs : List Int).map wV).toArray)] (.p (show ((xs : List Int).map wV).length = 4 from ((List.length_map _).trans σ)) <| .p aB.whole <| .o (.cs ((xs : List Int).map wV)) <| .n) (fun cD bE => ?_)
 clear aI
 refine At.act bE (storeBlk (t := 47) (b := w9.heap.size) (n := 4) (cs' := ((xs : List Int).map wV)) κ κ ((List.length_map _).trans σ) oneW_ ((show ((xs : List Int).map wV).length = 4 from ((List.length_map _).trans σ)).trans (show ((List.replicate 4 (0 : Int) : List Int).map wV).length = 4 from len_P).symm) aD) ?_
 rintro d_ v_ cE ⟨rfl, aK, bK⟩
 refine ⟨_, rfl, fun cF bL => ?_⟩
 clear bE; have := aK.size; replace aA := aA.gr aK (fun k h => by injection h; omega); replace aB := aB.gb aK ω; replace aC := aC.gb aK ω; clear aD aK
 refine At.dn ?_
 refine wp_ret ?_
 refine retB_ bL (sl := 4) (cs := ((xs : List Int).map wV)) (m := 4) rfl κ κ ((List.length_map _).trans σ) bK ?_
 exact ⟨ret_map (mixW_end hmx ω), aA⟩
set_option maxHeartbeats 4000000 in
theorem has_any {s : List Int} {n : Int} {w : World} (hs : OkW s) :
    Calls Tryd.prog 33 #[.agg ((s : List Int).map wV).toArray, .int .i64 (n)] w fun e w' => e = .returned (.bool (hasW s n)) ∧ Ext w w' := by
 have hls := hs.1
 refine enter_ (args := [.agg ((s : List Int).map wV).toArray, .int .i64 (n)]) Tryd.func33 rfl Tryd.ntmps33 (Nat.le_of_ble_eq_true rfl) (fun act0 f0 => ?_)
 have e0 : Ext w w := Ext.refl w
 refine sqs ?_
 refine At.bx f0 2 ((s : List Int).map wV) 47 (fun w1 g5 bx6 act4 f3 => ?_)
 clear f0; have := g5.size; replace e0 := e0.gn g5; have := bx6.lt; clear g5
 refine At.rk f3 1 [] .n (fun aF f9 => ?_)
 clear f3
 refine At.dn ?_
 refine sqs ?_
 rcases Bool.eq_false_or_eq_true (decide ((n : Int) ≥ 0)) with aA | aA
 ·have aG := of_decide_eq_true aA
  rcases Bool.eq_false_or_eq_true (decide ((n : Int) < 256)) with aB | aB
  ·have aH := of_decide_eq_true aB
   refine At.rk f9 19 [(4, .bool ((IntKind.u64.wrap ((BitVec.ofInt 64 ((gI s ((n : Int) / 64) : Int).fdiv (2 ^ (min ((n : Int) % 64 : Int).toNat IntKind.u64.bits))) &&& BitVec.ofInt 64 1).toNat : Int) : Int) == 1))] (.e 7 aA <| .e 11 aB <| .p (show 0 ≤ (6 : Int) from ω) <| .v 13 (show (.int .i64 ((n : Int).fdiv (2 ^ (min (6 : Int).toNat IntKind.i64.bits))) : Value) = .int .i64 ((n : Int) / 64) from (congrArg (Value.int .i64) (shr6 _))) <| .b ((n : Int) / 64) 4 <| .l (Bx.arrM (f := wV) (0 : Int) bx6 ((n : Int) / 64) ω ω) <| .v 17 (show (.int .i64 (IntKind.i64.wrap ((BitVec.ofInt 64 n &&& BitVec.ofInt 64 63).toNat : Int)) : Value) = .int .i64 ((n : Int) % 64) from (congrArg (Value.int .i64) (and63 ω ω))) <| .v 18 (show (.int .u64 (IntKind.u64.wrap ((n : Int) % 64)) : Value) = .int .u64 ((n : Int) % 64) from (wu64 ω ω)) <| .p (show 0 ≤ ((n : Int) % 64 : Int) from ω) <| .n) (fun aI aC => ?_)
   clear f9
   refine At.dn ?_
   refine wp_ret ?_
   refine ret_ aC [] [.bool ((IntKind.u64.wrap ((BitVec.ofInt 64 ((gI s ((n : Int) / 64) : Int).fdiv (2 ^ (min ((n : Int) % 64 : Int).toNat IntKind.u64.bits))) &&& BitVec.ofInt 64 1).toNat : Int) : Int) == 1)] [] κ trivial ?_
   exact ⟨ret_eq (congrArg Value.bool (by first | exact hasW_yes hs ω ω | exact hasW_no ω)), e0⟩
  have aJ := of_decide_eq_false aB
  refine At.rk f9 19 [(4, .bool false)] (.e 7 aA <| .e 11 aB <| .n) (fun aK aD => ?_)
  clear f9
  refine At.dn ?_
  refine wp_ret ?_
  refine ret_ aD [] [.bool false] [] κ trivial ?_
  exact ⟨ret_eq (congrArg Value.bool (by first | exact hasW_yes hs ω ω | exact hasW_no ω)), e0⟩
 have aL := of_decide_eq_false aA
 refine At.rk f9 19 [(4, .bool false)] (.e 7 aA <| .n) (fun aM aE => ?_)
 clear f9
 refine At.dn ?_
 refine wp_ret ?_
 refine ret_ aE [] [.bool false] [] κ trivial ?_
 exact ⟨ret_eq (congrArg Value.bool (by first | exact hasW_yes hs ω ω | exact hasW_no ω)), e0⟩
end Go.Proofs.YtkkophhnliplhaaDoor
namespace Go.Proofs.YtkkophhnliplhaaDoor
open Go Go.RowKit
set_option maxHeartbeats 4000000 in
theorem of_any {Aa : Option Addr} {ca : Nat} {la : List Int} {w : World} (ra : RdI w 0 w.heap.size Aa la) :
    Calls Tryd.prog 34 #[.slice Aa la.length ca] w fun e w' => e = .returned (.agg (((ofW la : List Int)).map wV).toArray) ∧ Ext w w' := by
 have hla := ra.len
 refine enter_ (args := [.slice Aa la.length ca]) Tryd.func34 rfl Tryd.ntmps34 (Nat.le_of_ble_eq_true rfl) (fun act0 f0 => ?_)
 have e0 : Ext w w := Ext.refl w
 refine sqs ?_
 refine At.bx f0 2 ((List.replicate 4 (0 : Int) : List Int).map wV) 47 (fun w1 g5 bx6 act4 f3 => ?_)
 clear f0; have := g5.size; replace e0 := e0.gn g5; have r9 := ra.gn g5; clear ra; have := bx6.lt; clear g5
 refine At.dn ?_
 refine sqs ?_
 refine At.bx f3 3 ((List.replicate 4 (0 : Int) : List Int).map wV) 47 (fun aZ aF aJ bA aL => ?_)
 clear f3; have := aF.size; replace e0 := e0.gn aF; replace r9 := r9.gn aF; replace bx6 := bx6.gn aF; have := aJ.lt; clear aF
 refine At.dn ?_
 refine wp_seq ?_
 refine sqs ?_
 refine At.rk aL 3 [(8, .int .i64 (0)), (7, .int .i64 (((la.length : Nat) : Int))), (6, .slice Aa la.length ca)] .n (fun bB aM => ?_)
 clear aL
 refine At.dn ?_
 refine wp_block ?_
 refine loop_g (fun (m_ : Nat) a_ w_ => ∃ (k : Int) (xs : List Int), m_ = ((la.length : Int) - k).toNat ∧ (Frm 17 a_ [(8, .int .i64 (k)), (7, .int .i64 (((la.length : Nat) : Int))), (6, .slice Aa la.length ca), (3, pt w1.heap.size 0), (2, pt w.heap.size 0)]) ∧ (Ext w w_) ∧ (RdI w_ 0 w.heap.size Aa la) ∧ (Bx w_ (w.heap.size) ((List.replicate 4 (0 : Int) : List Int).map wV) 47) ∧ (Bx w_ (w1.heap.size) ((xs : List Int).map wV) 47) ∧ (0 ≤ k) ∧ (k ≤ (la.length : Int)) ∧ (OkW xs) ∧ (xs = ofW (la.take k.toNat)) ∧ (xs.length = 4)) _ ⟨0, List.replicate 4 (0 : Int), rfl, aM.sb, e0, r9, bx6, aJ, ω, ω, okW_0, rfl, rfl⟩ ?_
 clear aM; clear r9; clear bx6; clear aJ; clear e0
 intro m_ bC bD ⟨k, xs, hm26, aN, aA, aC, aD, aB, i31, i32, hok, hxs, i33⟩
 have := aA.size; have := aD.lt; have := aB.lt
 refine sqs ?_
 refine At.rk aN 1 [(9, .bool (decide ((k : Int) < ((la.length : Nat) : Int))))] .n (fun bE aG => ?_)
 clear aN
 refine At.dn ?_
 refine wp_seq ?_
 refine cond_S aG (t := decide ((k : Int) < ((la.length : Nat) : Int))) rfl (fun aK => ?_) (fun aK => ?_)
 ·have bF := of_decide_eq_true aK
  refine wp_skip ?_
  refine t_n ?_
  refine wp_seq ?_
  refine wp_block ?_
  refine sqs ?_
  obtain ⟨bG, aT, _, _, aU⟩ := RdI.get aC (k) ω ω
  refine At.rk aG 3 [(5, .int .i64 (gI la (k)))] (.a k la.length aT <| .l aU <| .n) (fun bH aO => ?_)
  clear aG
  refine At.dn ?_
  refine At.start ?_
  refine At.rk aO 2 [(13, .int .i64 (gI la (k))), (12, .agg ((xs : List Int).map wV).toArray)] (.p (show ((xs : List Int).map wV).length = 4 from ((List.length_map _).trans σ)) <| .p aB.whole <| .o (.cs ((xs : List Int).map wV)) <| .n) (fun bI aP => ?_)
  clear aO
  refine At.cl aP (some 14) (with_any (s := xs) (n := gI la (k)) σ) ?_
  rintro e_ bJ ⟨rfl, he⟩
  refine ⟨_, rfl, _, rfl, fun bK aQ => ?_⟩
  clear aP; have aE := gr_ext he; have := aE.size; replace aA := aA.gn aE; replace aC := aC.gn aE; replace aD := aD.gn aE; replace aB := aB.gn aE; clear aE he
  refine At.act aQ (storeBlk (t := 47) (b := w1.heap.size) (n := 4) (cs' := ((withW xs (gI la (k)) : List Int).map wV)) κ κ ((List.length_map _).trans (okLen (okW_with σ))) oneW_ ((show ((withW xs (gI la (k)) : List Int).map wV).length = 4 from ((List.length_map _).trans (okLen (okW_with σ)))).trans (show ((xs : List Int).map wV).length = 4 from ((List.length_map _).trans σ)).symm) aB) ?_
  rintro d_ v_ bL ⟨rfl, aH, aV⟩
  refine ⟨_, rfl, fun bM aR => ?_⟩
  clear aQ; have := aH.size; replace aA := aA.gr aH (fun k h => by injection h; omega); replace aC := aC.gb aH ω; replace aD := aD.gb aH ω; clear aB aH
  refine At.done rfl ?_
  refine b_n ?_
  refine t_n ?_
  refine At.start ?_
  refine At.rk aR 2 [(8, .int .i64 (k + 1))] (.w 15 (k + 1) <| .n) (fun bN aW => ?_)
  clear aR
  refine At.dn ?_
  exact ⟨_, ω, (k + 1), withW xs (gI la (k)), rfl, aW.sb, aA, aC, aD, aV, ω, ω, (okW_with hok), (ofW_next hxs ω ω), (okW_with hok).1⟩
 have q63 := of_decide_eq_false aK
 refine wp_exit ?_
 refine t_e ?_
 clear hm26
 refine t_e ?_
 refine b_e ?_
 refine t_n ?_
 refine sqs ?_
 refine At.rk aG 1 [(16, .agg ((xs : List Int).map wV).toArray)] (.p (show ((xs : List Int).map wV).length = 4 from ((List.length_map _).trans σ)) <| .p aB.whole <| .o (.cs ((xs : List Int).map wV)) <| .n) (fun bO aS => ?_)
 clear aG
 refine At.act aS (storeBlk (t := 47) (b := w.heap.size) (n := 4) (cs' := ((xs : List Int).map wV)) κ κ ((List.length_map _).trans σ) oneW_ ((show ((xs : List Int).map wV).length = 4 from ((List.length_map _).trans σ)).trans (show ((List.replicate 4 (0 : Int) : List Int).map wV).length = 4 from len_P).symm) aD) ?_
 rintro d_ v_ bP ⟨rfl, aI, aX⟩
 refine ⟨_, rfl, fun bQ aY => ?_⟩
 clear aS; have := aI.size; replace aA := aA.gr aI (fun k h => by injection h; omega); replace aC := aC.gb aI ω; replace aB := aB.gb aI ω; clear aD aI
 refine At.dn ?_
 refine wp_ret ?_
 refine retB_ aY (sl := 2) (cs := ((xs : List Int).map wV)) (m := 4) rfl κ κ ((List.length_map _).trans σ) aX ?_
 exact ⟨ret_map (by rw [hxs, List.take_of_length_le ω]), aA⟩
end Go.Proofs.YtkkophhnliplhaaDoor
namespace Go.Proofs.YtkkophhnliplhaaDoor
open Go Go.RowKit
set_option maxHeartbeats 4000000 in
theorem full_any {n : Int} {w : World} (hn : -9223372036854775808 ≤ n ∧ n ≤ 9223372036854775807) :
    Calls Tryd.prog 30 #[.int .i64 (n)] w fun e w' => e = .returned (.agg (((fullW n : List Int)).map wV).toArray) ∧ Ext w w' := by
 refine enter_ (args := [.int .i64 (n)]) Tryd.func30 rfl Tryd.ntmps30 (Nat.le_of_ble_eq_true rfl) (fun act0 f0 => ?_)
 have e0 : Ext w w := Ext.refl w
 refine sqs ?_
 refine At.bx f0 2 ((List.replicate 4 (0 : Int) : List Int).map wV) 47 (fun w1 g5 bx6 act4 f3 => ?_)
 clear f0; have := g5.size; replace e0 := e0.gn g5; have := bx6.lt; clear g5
 refine At.dn ?_
 refine sqs ?_
 refine At.bx f3 3 ((List.replicate 4 (0 : Int) : List Int).map wV) 47 (fun w9 aF aJ bE aM => ?_)
 clear f3; have := aF.size; replace e0 := e0.gn aF; replace bx6 := bx6.gn aF; have := aJ.lt; clear aF
 refine At.dn ?_
 refine sqs ?_
 refine At.rk aM 3 [(0, .int .i64 (max n 0))] (.v 7 (show (.int .i64 (if 0 > n then 0 else n) : Value) = .int .i64 (max n 0) from (congrArg (Value.int .i64) (max_if _ _))) <| .n) (fun bF aN => ?_)
 clear aM
 refine At.dn ?_
 refine wp_seq ?_
 refine sqs ?_
 refine At.rk aN 1 [(8, .int .i64 (0))] .n (fun bG aO => ?_)
 clear aN
 refine At.dn ?_
 refine wp_block ?_
 refine loop_g (fun (m_ : Nat) a_ w_ => ∃ (k : Int) (xs : List Int), m_ = (4 - k).toNat ∧ (Frm 27 a_ [(8, .int .i64 (k)), (0, .int .i64 (max n 0)), (3, pt w1.heap.size 0), (2, pt w.heap.size 0)]) ∧ (Ext w w_) ∧ (Bx w_ (w.heap.size) ((List.replicate 4 (0 : Int) : List Int).map wV) 47) ∧ (Bx w_ (w1.heap.size) ((xs : List Int).map wV) 47) ∧ (0 ≤ k) ∧ (k ≤ 4) ∧ (xs.length = 4) ∧ (MixW (List.replicate 4 (0 : Int)) xs (fun j => lowW (if max n 0 > 256 then 64 else min (max (max n 0 - 64 * j) 0) 64)) k)) _ ⟨0, List.replicate 4 (0 : Int), rfl, aO.sb, e0, bx6, aJ, ω, ω, rfl, (mixW_0 rfl)⟩ ?_
 clear aO; clear bx6; clear aJ; clear e0
 intro m_ bH bI ⟨k, xs, hm26, aP, aA, aB, aC, i30, i31, i32, hmx⟩
 have := aA.size; have := aB.lt; have := aC.lt
 refine sqs ?_
 refine At.rk aP 1 [(9, .bool (decide ((k : Int) < 4)))] .n (fun bJ aD => ?_)
 clear aP
 refine At.dn ?_
 refine wp_seq ?_
 refine cond_S aD (t := decide ((k : Int) < 4)) rfl (fun aK => ?_) (fun aK => ?_)
 ·have bK := of_decide_eq_true aK
  refine wp_skip ?_
  refine t_n ?_
  refine wp_seq ?_
  refine wp_block ?_
  refine sqs ?_
  refine At.rk aD 2 [(4, .int .i64 (k))] .n (fun bL aQ => ?_)
  clear aD
  refine At.dn ?_
  refine sqs ?_
  refine At.rk aQ 7 [(5, .int .i64 (min (max ((max n 0) - (64 * k)) 0) 64))] (.w 13 (64 * k) <| .w 14 ((max n 0) - (64 * k)) <| .v 15 (show (.int .i64 (if 0 > ((max n 0) - (64 * k)) then 0 else ((max n 0) - (64 * k))) : Value) = .int .i64 (max ((max n 0) - (64 * k)) 0) from (congrArg (Value.int .i64) (max_if _ _))) <| .v 16 (show (.int .i64 (if 64 < (max ((max n 0) - (64 * k)) 0) then 64 else (max ((max n 0) - (64 * k)) 0)) : Value) = .int .i64 (min (max ((max n 0) - (64 * k)) 0) 64) from (congrArg (Value.int .i64) (min_if _ _))) <| .n) (fun bM aR => ?_)
  clear aQ
  refine At.dn ?_
  refine wp_seq ?_
  refine sqs ?_
  refine At.rk aR 2 [(18, .bool (decide ((max n 0 : Int) > 256)))] .n (fun bN aE => ?_)
  clear aR
  refine At.dn ?_
  refine cond_S aE (t := decide ((max n 0 : Int) > 256)) rfl (fun aL => ?_) (fun aL => ?_)
  ·have bO := of_decide_eq_true aL
   refine At.start ?_
   refine At.rk aE 1 [(5, .int .i64 (64))] .n (fun bP aS => ?_)
   clear aE
   refine At.dn ?_
   refine At.start ?_
   refine At.rk aS 6 [(24, .pointer (some ((⟨w1.heap.size, 0, none⟩ : Addr).add ((k : Int).toNat * 1)))), (23, .int .u64 (IntKind.u64.wrap ((IntKind.u64.wrap (1 * (2 ^ (min (64 : Int).toNat IntKind.u64.bits)))) - 1)))] (.v 21 (show (.int .u64 (IntKind.u64.wrap (64)) : Value) = .int .u64 (64) from (wu64 ω ω)) <| .p (show 0 ≤ (64 : Int) from ω) <| .b k 4 <| .n) (fun bQ aT => ?_)
   clear aS
   refine At.act aT (storeArrM (f := wV) (t := 34) (b := w1.heap.size) (i := k) (x := IntKind.u64.wrap ((IntKind.u64.wrap (1 * (2 ^ (min (64 : Int).toNat IntKind.u64.bits)))) - 1)) (v := .int .u64 (IntKind.u64.wrap ((IntKind.u64.wrap (1 * (2 ^ (min (64 : Int).toNat IntKind.u64.bits)))) - 1))) κ rfl rfl κ aC ω ω) ?_
   rintro d_ v_ bR ⟨rfl, aG, aY⟩
   refine ⟨_, rfl, fun bS aU => ?_⟩
   clear aT
   have bT : ((xs).set (k : Int).toNat (IntKind.u64.wrap ((IntKind.u64.wrap (1 * (2 ^ (min (64 : Int).toNat IntKind.u64.bits)))) - 1))).length = (xs : List Int).length := List.length_set
   have := aG.size; replace aA := aA.gr aG (fun k h => by injection h; omega); replace aB := aB.gb aG ω; clear aC aG
   refine At.done rfl ?_
   refine b_n ?_
   refine t_n ?_
   refine At.start ?_
   refine At.rk aU 2 [(8, .int .i64 (k + 1))] (.w 25 (k + 1) <| .n) (fun bU aZ => ?_)
   clear aU
   refine At.dn ?_
   exact ⟨_, ω, (k + 1), (xs).set (k : Int).toNat (IntKind.u64.wrap ((IntKind.u64.wrap (1 * (2 ^ (min (64 : Int).toNat IntKind.u64.bits)))) - 1)), rfl, aZ.sb, aA, aB, aY, ω, ω, ω, (mixW_next hmx ω ω ((shl_low ω ω).trans (congrArg lowW (by first | rw [if_pos ω] | rw [if_neg ω]))))⟩
  have bV := of_decide_eq_false aL
  refine wp_skip ?_
  refine t_n ?_
  refine At.start ?_
  refine At.rk aE 6 [(24, .pointer (some ((⟨w1.heap.size, 0, none⟩ : Addr).add ((k : Int).toNat * 1)))), (23, .int .u64 (IntKind.u64.wrap ((IntKind.u64.wrap (1 * (2 ^ (min (min (max ((max n 0) - (64 * k)) 0) 64 : Int).toNat IntKind.u64.bits)))) - 1)))] (.v 21 (show (.int .u64 (IntKind.u64.wrap (min (max ((max n 0) - (64 * k)) 0) 64)) : Value) = .int .u64 (min (max ((max n 0) - (64 * k)) 0) 64) from (wu64 ω ω)) <| .p (show 0 ≤ (min (max ((max n 0) - (64 * k)) 0) 64 : Int) from ω) <| .b k 4 <| .n) (fun bW aV => ?_)
  clear aE
  refine At.act aV (storeArrM (f := wV) (t := 34) (b := w1.heap.size) (i := k) (x := IntKind.u64.wrap ((IntKind.u64.wrap (1 * (2 ^ (min (min (max ((max n 0) - (64 * k)) 0) 64 : Int).toNat IntKind.u64.bits)))) - 1)) (v := .int .u64 (IntKind.u64.wrap ((IntKind.u64.wrap (1 * (2 ^ (min (min (max ((max n 0) - (64 * k)) 0) 64 : Int).toNat IntKind.u64.bits)))) - 1))) κ rfl rfl κ aC ω ω) ?_
  rintro d_ v_ bX ⟨rfl, aH, bA⟩
  refine ⟨_, rfl, fun bY aW => ?_⟩
  clear aV
  have bZ : ((xs).set (k : Int).toNat (IntKind.u64.wrap ((IntKind.u64.wrap (1 * (2 ^ (min (min (max ((max n 0) - (64 * k)) 0) 64 : Int).toNat IntKind.u64.bits)))) - 1))).length = (xs : List Int).length := List.length_set
  have := aH.size; replace aA := aA.gr aH (fun k h => by injection h; omega); replace aB := aB.gb aH ω; clear aC aH
  refine At.done rfl ?_
  refine b_n ?_
  refine t_n ?_
  refine At.start ?_
  refine At.rk aW 2 [(8, .int .i64 (k + 1))] (.w 25 (k + 1) <| .n) (fun cA bB => ?_)
  clear aW
  refine At.dn ?_
  exact ⟨_, ω, (k + 1), (xs).set (k : Int).toNat (IntKind.u64.wrap ((IntKind.u64.wrap (1 * (2 ^ (min (min (max ((max n 0) - (64 * k)) 0) 64 : Int).toNat IntKind.u64.bits)))) - 1)), rfl, bB.sb, aA, aB, bA, ω, ω, ω, (mixW_next hmx ω ω ((shl_low ω ω).trans (congrArg lowW (by first | rw [if_pos ω] | rw [if_neg ω]))))⟩
 have cB := of_decide_eq_false aK
 refine wp_exit ?_
 refine t_e ?_
 clear hm26
 refine t_e ?_
 refine b_e ?_
 refine t_n ?_
 refine sqs ?_
 refine At.rk aD 1 [(26, .agg ((xs : List Int).map wV).toArray)] (.p (show ((xs : List Int).map wV).length = 4 from ((List.length_map _).trans σ)) <| .p aC.whole <| .o (.cs ((xs : List Int).map wV)) <| .n) (fun cC aX => ?_)
 clear aD
 refine At.act aX (storeBlk (t := 47) (b := w.heap.size) (n := 4) (cs' := ((xs : List Int).map wV)) κ κ ((List.length_map _).trans σ) oneW_ ((show ((xs : List Int).map wV).length = 4 from ((List.length_map _).trans σ)).trans (show ((List.replicate 4 (0 : Int) : List Int).map wV).length = 4 from len_P).symm) aB) ?_
 rintro d_ v_ cD ⟨rfl, aI, bC⟩
 refine ⟨_, rfl, fun cE bD => ?_⟩
 clear aX; have := aI.size; replace aA := aA.gr aI (fun k h => by injection h; omega); replace aC := aC.gb aI ω; clear aB aI
 refine At.dn ?_
 refine wp_ret ?_
 refine retB_ bD (sl := 2) (cs := ((xs : List Int).map wV)) (m := 4) rfl κ κ ((List.length_map _).trans σ) bC ?_
 exact ⟨ret_map (mixW_end hmx ω), aA⟩
end Go.Proofs.YtkkophhnliplhaaDoor
namespace Go.Proofs.YtkkophhnliplhaaDoor
open Go Go.RowKit
set_option maxHeartbeats 4000000 in
theorem len_any {s : List Int} {w : World} (hs : OkW s) :
    Calls Tryd.prog 47 #[.agg ((s : List Int).map wV).toArray] w fun e w' => e = .returned (.int .i64 (lenW s)) ∧ Ext w w' := by
 have hls := hs.1
 refine enter_ (args := [.agg ((s : List Int).map wV).toArray]) Tryd.func47 rfl Tryd.ntmps47 (Nat.le_of_ble_eq_true rfl) (fun act0 f0 => ?_)
 have e0 : Ext w w := Ext.refl w
 refine sqs ?_
 refine At.bx f0 1 ((s : List Int).map wV) 47 (fun w1 g5 bx6 act4 f3 => ?_)
 clear f0; have := g5.size; replace e0 := e0.gn g5; have := bx6.lt; clear g5
 refine At.rk f3 1 [(2, .int .i64 (0))] .n (fun aO f9 => ?_)
 clear f3
 refine At.dn ?_
 refine sqs ?_
 refine At.rk f9 1 [(3, .int .i64 (0))] .n (fun aP aF => ?_)
 clear f9
 refine At.dn ?_
 refine wp_seq ?_
 refine sqs ?_
 refine At.rk aF 2 [(7, .int .i64 (0)), (6, .agg ((s : List Int).map wV).toArray)] (.p (show ((s : List Int).map wV).length = 4 from ((List.length_map _).trans σ)) <| .p bx6.whole <| .o (.cs ((s : List Int).map wV)) <| .n) (fun aQ aG => ?_)
 clear aF
 refine At.dn ?_
 refine wp_block ?_
 refine loop_g (fun (m_ : Nat) a_ w_ => ∃ (k : Int) (r : Int), m_ = (4 - k).toNat ∧ (Frm 16 a_ [(7, .int .i64 (k)), (3, .int .i64 (r)), (6, .agg ((s : List Int).map wV).toArray), (2, .int .i64 (0))]) ∧ (Ext w w_) ∧ (Bx w_ (w.heap.size) ((s : List Int).map wV) 47) ∧ (0 ≤ k) ∧ (k ≤ 4) ∧ (r = lenN s k.toNat) ∧ (0 ≤ r) ∧ (r ≤ 64 * k)) _ ⟨0, 0, rfl, aG.sb, e0, bx6, ω, ω, rfl, ω, ω⟩ ?_
 clear aG; clear bx6; clear e0
 intro m_ aR aS ⟨k, r, hm19, aH, aA, aC, i22, i23, hr, i24, i25⟩
 have := aA.size; have := aC.lt
 refine sqs ?_
 refine At.rk aH 1 [(8, .bool (decide ((k : Int) < 4)))] .n (fun aT aB => ?_)
 clear aH
 refine At.dn ?_
 refine wp_seq ?_
 refine cond_S aB (t := decide ((k : Int) < 4)) rfl (fun aE => ?_) (fun aE => ?_)
 ·have aU := of_decide_eq_true aE
  refine wp_skip ?_
  refine t_n ?_
  refine wp_seq ?_
  refine wp_block ?_
  refine sqs ?_
  refine At.rk aB 2 [(5, .int .u64 (gI s k))] (.b k 4 <| .p (show (((s : List Int).map wV).toArray : Array Value)[(k : Int).toNat * 1]? = some (.int .u64 (gI s k)) from (idxM wV (0 : Int) k ω (by have := len_4; omega))) <| .o (.ld (.int .u64 (gI s k))) <| .n) (fun aV aI => ?_)
  clear aB
  refine At.dn ?_
  refine At.start ?_
  refine At.rk aI 2 [(11, .int .u64 (gI s k)), (10, .int .i64 (r))] .n (fun aW aJ => ?_)
  clear aI
  refine At.cl aJ (some 12) (onesI (z := gI s k) (hs.2 _)) ?_
  rintro e_ aX ⟨rfl, he⟩
  have := onI_le (gI s k)
  refine ⟨_, rfl, _, rfl, fun aY aK => ?_⟩
  clear aJ; have aD := gr_ext he; have := aD.size; replace aA := aA.gn aD; replace aC := aC.gn aD; clear aD he
  refine At.rk aK 2 [(3, .int .i64 (r + (onI (gI s k))))] (.w 13 (r + (onI (gI s k))) <| .n) (fun aZ aL => ?_)
  clear aK
  refine At.done rfl ?_
  refine b_n ?_
  refine t_n ?_
  refine At.start ?_
  refine At.rk aL 2 [(7, .int .i64 (k + 1))] (.w 14 (k + 1) <| .n) (fun bA aM => ?_)
  clear aL
  refine At.dn ?_
  exact ⟨_, ω, (k + 1), (r + onI (gI s k)), rfl, aM.sb, aA, aC, ω, ω, (len_next hr ω), ω, ω⟩
 have bB := of_decide_eq_false aE
 refine wp_exit ?_
 refine t_e ?_
 clear hm19
 refine t_e ?_
 refine b_e ?_
 refine t_n ?_
 refine sqs ?_
 refine At.rk aB 2 [(2, .int .i64 (r))] .n (fun bC aN => ?_)
 clear aB
 refine At.dn ?_
 refine wp_ret ?_
 refine ret_ aN [] [.int .i64 (r)] [] κ trivial ?_
 exact ⟨ret_eq (congrArg (Value.int .i64) (len_end hr ω ω)), aA⟩
end Go.Proofs.YtkkophhnliplhaaDoor
namespace Go.Proofs.YtkkophhnliplhaaDoor
open Go Go.RowKit
set_option maxHeartbeats 4000000 in
theorem list_any {s : List Int} {w : World} (hs : OkW s) (rT : RdT w 0 w.heap.size) :
    Calls Tryd.prog 42 #[.agg ((s : List Int).map wV).toArray] w fun e w' => ∃ A c, e = .returned (.slice A ((lsD (fromW s) 256)).length c) ∧ Ext w w' ∧ OwnR w' (Sx w.heap.size []) A c 3 ((lsD (fromW s) 256) : List Int) := by
 have hls := hs.1
 refine enter_ (args := [.agg ((s : List Int).map wV).toArray]) Tryd.func42 rfl Tryd.ntmps42 (Nat.le_of_ble_eq_true rfl) (fun act0 f0 => ?_)
 have e0 : Ext w w := Ext.refl w
 refine sqs ?_
 refine At.bx f0 1 ((s : List Int).map wV) 47 (fun w1 g5 bx6 act4 f3 => ?_)
 clear f0; have := g5.size; replace e0 := e0.gn g5; have r9 := rT.gn g5; clear rT; have := bx6.lt; clear g5
 refine At.rk f3 1 [(2, .slice none 0 0)] .n (fun cC bC => ?_)
 clear f3
 refine At.dn ?_
 refine sqs ?_
 refine At.rk bC 1 [(6, .agg ((s : List Int).map wV).toArray)] (.p (show ((s : List Int).map wV).length = 4 from ((List.length_map _).trans σ)) <| .p bx6.whole <| .o (.cs ((s : List Int).map wV)) <| .n) (fun cD bD => ?_)
 clear bC
 refine At.cl bD (some 7) (len_any (s := s) σ) ?_
 rintro e_ aA ⟨rfl, he⟩
 have := lenW_le s
 refine ⟨_, rfl, _, rfl, fun cE bE => ?_⟩
 clear bD; have aL := gr_ext he; have := aL.size; replace e0 := e0.gn aL; replace r9 := r9.gn aL; replace bx6 := bx6.gn aL; clear aL he
 refine At.act bE (makeR (k1 := .i64) (k2 := .i64) (α := Int) (e := 3) (bytes := 8) (t := 22) (d := 8) (n := 0) (cap := lenW s) (0) κ rfl κ ω ω ω ω) ?_
 rintro d_ v_ cF ⟨rfl, rfl, aM, aQ⟩
 refine ⟨_, rfl, fun cG bF => ?_⟩
 clear bE; replace aQ := aQ (Sx (aA.heap.size) []) (Nat.le_refl _); have := aM.size; replace e0 := e0.gn aM; replace r9 := r9.gn aM; replace bx6 := bx6.gn aM; clear aM
 refine At.rk bF 1 [(3, .slice (some ⟨aA.heap.size, 0, none⟩) ((([] : List Int)).length) ((lenW s : Int).toNat))] .n (fun cH bG => ?_)
 clear bF
 refine At.dn ?_
 refine wp_seq ?_
 refine sqs ?_
 refine At.rk bG 2 [(10, .int .i64 (0)), (9, .agg ((s : List Int).map wV).toArray)] (.p (show ((s : List Int).map wV).length = 4 from ((List.length_map _).trans σ)) <| .p bx6.whole <| .o (.cs ((s : List Int).map wV)) <| .n) (fun cI bH => ?_)
 clear bG
 refine At.dn ?_
 refine wp_block ?_
 have bI := bH.as 3 (.slice (some ⟨aA.heap.size, 0, none⟩) ((([] : List Int)).length) ((lenW s : Int).toNat)) (.slice (some ⟨aA.heap.size, 0, none⟩) ((([] : List Int) : List Int).length) ((lenW s : Int).toNat)) rfl (slice_len (by first | rfl | omega | (simp; done) | (simp; omega)))
 clear bH
 refine loop_g (fun (m_ : Nat) a_ w_ => ∃ (i : Int) (xs : List Int) (aC : Option Addr) (aD : Nat), m_ = (4 - i).toNat ∧ (Frm 30 a_ [(3, .slice aC xs.length aD), (10, .int .i64 (i)), (9, .agg ((s : List Int).map wV).toArray), (2, .slice none 0 0)]) ∧ (Ext w w_) ∧ (RdT w_ 0 w.heap.size) ∧ (Bx w_ (w.heap.size) ((s : List Int).map wV) 47) ∧ (OwnR w_ (Sx (aA.heap.size) []) aC aD 3 (xs : List Int)) ∧ (0 ≤ i) ∧ (i ≤ 4) ∧ (xs = lsD (fromW s) (64 * i).toNat) ∧ (aA.heap.size ≤ w_.heap.size)) _ ⟨0, (([] : List Int) : List Int), some ⟨aA.heap.size, 0, none⟩, (lenW s : Int).toNat, rfl, bI.sb, e0, r9, bx6, aQ, ω, ω, rfl, ω⟩ ?_
 clear bI; clear r9; clear bx6; clear aQ; clear e0
 intro m_ cJ cK ⟨i, xs, aC, aD, hm42, bJ, aR, bK, aV, aW, i47, i48, hxs, i49⟩
 have := aR.size; have := aV.lt
 refine sqs ?_
 refine At.rk bJ 1 [(11, .bool (decide ((i : Int) < 4)))] .n (fun cL aN => ?_)
 clear bJ
 refine At.dn ?_
 refine wp_seq ?_
 refine cond_S aN (t := decide ((i : Int) < 4)) rfl (fun aX => ?_) (fun aX => ?_)
 ·have cM := of_decide_eq_true aX
  refine wp_skip ?_
  refine t_n ?_
  refine wp_seq ?_
  refine wp_block ?_
  refine sqs ?_
  refine At.rk aN 4 [(5, .int .u64 (gI s i)), (4, .int .i64 (i))] (.b i 4 <| .p (show (((s : List Int).map wV).toArray : Array Value)[(i : Int).toNat * 1]? = some (.int .u64 (gI s i)) from (idxM wV (0 : Int) i ω (by have := len_4; omega))) <| .o (.ld (.int .u64 (gI s i))) <| .n) (fun cN bL => ?_)
  clear aN
  refine At.dn ?_
  refine wp_block ?_
  have bM := bL.as 3 (.slice aC xs.length aD) (.slice aC ((xs : List Int).length) aD) rfl (slice_len (by first | rfl | omega | (simp; done) | (simp; omega))); clear bL
  refine loop_g (fun (m_ : Nat) a_ w_ => ∃ (v : Int) (c : Int) (ys : List Int) (aH : Option Addr) (aI : Nat), m_ = (64 - c).toNat ∧ (Frm 30 a_ [(3, .slice aH ys.length aI), (5, .int .u64 (v)), (4, .int .i64 (i)), (10, .int .i64 (i)), (9, .agg ((s : List Int).map wV).toArray), (2, .slice none 0 0)]) ∧ (Ext w w_) ∧ (RdT w_ 0 w.heap.size) ∧ (Bx w_ (w.heap.size) ((s : List Int).map wV) 47) ∧ (OwnR w_ (Sx (aA.heap.size) []) aH aI 3 (ys : List Int)) ∧ (0 ≤ c) ∧ (c ≤ 64) ∧ (RestW s i v c) ∧ (ys = lsD (fromW s) (64 * i + c).toNat) ∧ (aA.heap.size ≤ w_.heap.size)) _ ⟨(gI s i), 0, (xs : List Int), aC, aD, rfl, bM.sb, aR, bK, aV, aW, ω, ω, (rest_0 hs), (by rw [hxs, Int.add_zero]), ω⟩ ?_
  clear bM; clear bK; clear aV; clear aW; clear aR
  intro m_ cO cP ⟨v, c, ys, aH, aI, hm63, bN, aE, aF, aG, aB, i68, i69, hrw, hys, i70⟩
  have := aE.size; have := aG.lt; have hyl := ls_len (fromW s) (64 * i + c).toNat
  rw [← hys] at hyl
  have hrc := fun h_ : ¬ v = 0 => rest_tz hrw h_
  refine wp_seq ?_
  refine sqs ?_
  refine At.rk bN 2 [(15, .bool ((v : Int) != 0))] .n (fun cQ aO => ?_)
  clear bN
  refine At.dn ?_
  refine cond_S aO (t := (v : Int) != 0) rfl (fun aY => ?_) (fun aY => ?_)
  ·have cR := bne_iff_ne.1 aY
   refine wp_skip ?_
   refine t_n ?_
   refine wp_seq ?_
   refine wp_block ?_
   refine At.start ?_
   refine At.rk aO 4 [(23, .int .u64 (v)), (22, .int .i64 (64 * i)), (20, .slice aH ys.length aI)] (.w 22 (64 * i) <| .n) (fun cS bO => ?_)
   clear aO
   refine At.cl bO (some 24) (tzI_any (z := v) (by first | exact hs.2 _ | exact hrw.1 | assumption) (aF.wide (Nat.zero_le _) ω)) ?_
   rintro e_ aZ ⟨rfl, he⟩
   have := tz_lt (z := v) (by first | exact hs.2 _ | exact hrw.1 | assumption) ω
   refine ⟨_, rfl, _, rfl, fun cT bP => ?_⟩
   clear bO; have aJ := gr_ext he; have := aJ.size; replace aE := aE.gn aJ; replace aF := aF.gn aJ; replace aG := aG.gn aJ; replace aB := aB.gn aJ; clear aJ he
   refine At.rk bP 1 [(25, .int .i64 ((64 * i) + (tzI v)))] (.w 25 ((64 * i) + (tzI v)) <| .n) (fun cU bQ => ?_)
   clear bP
   refine At.seq bQ 1 [[]] [(26, .slice (some ⟨aZ.heap.size, 0, none⟩) 1 1)] (aZ.alloc (.cells #[.int .i64 ((64 * i) + (tzI v))] 3 (0, 0))) [] κ trivial (fun cV bR bA bS => ?_)
   clear bQ; have aK := gr_alloc bA; have := aK.size; replace aE := aE.gn aK; replace aF := aF.gn aK; replace aG := aG.gn aK; replace aB := aB.grN aK; have bB : Bx bR (aZ.heap.size) [.int .i64 ((64 * i) + (tzI v))] 3 := Bx.new bA; have := bB.lt; clear aK bA; have bX : (ys ++ ([(64 * i) + (tzI v)])).length = (ys).length + ([(64 * i) + (tzI v)] : List Int).length := List.length_append
   simp only [List.length_cons, List.length_nil] at bX
   refine At.act bS (appendR (α := Int) (t := 22) (d := 27) (n := ys.length) (m := 1) (cc := 1) (xs := ys) (ys := [(64 * i) + (tzI v)]) (bytes := 8) (by first | rfl | omega | (simp; done) | (simp; omega)) (by first | rfl | omega | (simp; done) | (simp; omega)) κ rfl κ aB (Bx.srcR (l := ([(64 * i) + (tzI v)] : List Int)) bB rfl) (by simp only [List.length_cons, List.length_nil]; omega) (by simp only [List.length_cons, List.length_nil]; omega)) ?_
   rintro d_ v_ cW ⟨rfl, aS, aT, aU⟩
   obtain rfl := aU.val
   have aP := aU.gr
   refine ⟨_, rfl, fun cX bT => ?_⟩
   clear bS; clear bB; have bY := aU.own (Sx (aA.heap.size) []) (fun g _ hs => hs.2) (show aA.heap.size ≤ bR.heap.size by omega); have := aP.size; replace aE := aE.gr aP (fun k hk => by have := aB.ge k hk; omega); replace aF := aF.gr aP (fun k hk => by have := aB.ge k hk; omega); replace aG := aG.gr aP (fun e => by have := aB.ge _ e; omega); clear aB aP aU
   refine At.rk bT 1 [(3, .slice aS ((ys ++ ([(64 * i) + (tzI v)])).length) aT)] .n (fun cY bU => ?_)
   clear bT
   refine At.done rfl ?_
   refine b_n ?_
   refine t_n ?_
   refine At.start ?_
   refine At.rk bU 5 [(5, .int .u64 (clrW v))] (.v 18 (show (.int .u64 (IntKind.u64.wrap (v - 1)) : Value) = .int .u64 (v - 1) from (congrArg (Value.int .u64) (sub_W hrw.1 ω))) <| .v 19 (show (.int .u64 (IntKind.u64.wrap ((BitVec.ofInt 64 v &&& BitVec.ofInt 64 (v - 1)).toNat : Int)) : Value) = .int .u64 (clrW v) from (congrArg (Value.int .u64) (clr_eq hrw.1 ω))) <| .n) (fun cZ bV => ?_)
   clear bU
   refine At.dn ?_
   have bZ := bV.as 3 (.slice aS ((ys ++ ([(64 * i) + (tzI v)])).length) aT) (.slice aS ((ys ++ ([(64 * i) + (tzI v)]) : List Int).length) aT) rfl (slice_len (by first | rfl | omega | (simp; done) | (simp; omega)))
   clear bV
   exact ⟨_, ω, (clrW v), (tzI v + 1), (ys ++ ([(64 * i) + (tzI v)]) : List Int), aS, aT, rfl, bZ.sb, aE, aF, aG, bY, ω, ω, (rest_next hrw ω), (rest_ls hrw ω ω ω ω hys), ω⟩
  have dA := bne_eq_false_iff_eq.1 aY
  refine wp_exit ?_
  refine t_e ?_
  clear hm63
  refine t_e ?_
  refine b_e ?_
  refine b_n ?_
  refine t_n ?_
  refine At.start ?_
  refine At.rk aO 2 [(10, .int .i64 (i + 1))] (.w 28 (i + 1) <| .n) (fun dB bW => ?_)
  clear aO
  refine At.dn ?_
  have cA := bW.as 3 (.slice aH ys.length aI) (.slice aH ((ys : List Int).length) aI) rfl (slice_len (by first | rfl | omega | (simp; done) | (simp; omega))); clear bW
  exact ⟨_, ω, (i + 1), (ys : List Int), aH, aI, rfl, cA.sb, aE, aF, aG, aB, ω, ω, (rest_end hrw ω ω ω ω ω hys), ω⟩
 have dC := of_decide_eq_false aX
 refine wp_exit ?_
 refine t_e ?_
 clear hm42
 refine t_e ?_
 refine b_e ?_
 refine t_n ?_
 refine sqs ?_
 refine At.rk aN 2 [(2, .slice aC xs.length aD)] .n (fun dD cB => ?_)
 clear aN
 refine At.dn ?_
 refine wp_ret ?_
 refine ret_ cB [] [.slice aC xs.length aD] [] κ trivial ?_
 have hq_ : (xs : List Int) = lsD (fromW s) 256 := list_end hxs ω ω
 exact ⟨aC, aD, ret_eq (slice_len (by first | (rw [← hq_]; done) | (rw [← hq_]; simp) | (rw [← hq_]; omega))), aR, (OwnR.as (aW.imp (fun g _ hs => by have := Sx_base hs; show w.heap.size ≤ g; omega)) hq_)⟩
end Go.Proofs.YtkkophhnliplhaaDoor
namespace Go.Proofs.YtkkophhnliplhaaDoor
open Go Go.RowKit
end Go.Proofs.YtkkophhnliplhaaDoor
namespace Go.Proofs.YtkkophhnliplhaaDoor
open Go Go.RowKit
theorem andS_any {s t : List Int} {w : World} (hs : OkW s) (ht : OkW t) : Calls Tryd.prog 31 #[.agg (s.map wV).toArray, .agg (t.map wV).toArray] w fun e w' => e = .returned (.agg ((andS s t).map wV).toArray) ∧ Ext w w' := and_any hs ht
end Go.Proofs.YtkkophhnliplhaaDoor
namespace Go.Proofs.YtkkophhnliplhaaDoor
open Go Go.RowKit
theorem take_next {la lb : List Int} {k : Int} (h : la.take k.toNat = lb.take k.toNat) (h0 : 0 ≤ k) (h1 : k < (la.length : Int)) (h2 : k < (lb.length : Int)) (e : gI la k = gI lb k) : la.take (k + 1).toNat = lb.take (k + 1).toNat := by
  rw [show (k + 1).toNat = k.toNat + 1 by omega]
  exact take_succ_eq h (by omega) (by omega) e
theorem take_all {la lb : List Int} {k : Int} (h : la.take k.toNat = lb.take k.toNat) (h1 : (la.length : Int) ≤ k) (h2 : (lb.length : Int) ≤ k) : la = lb := by
  rwa [List.take_of_length_le (by omega), List.take_of_length_le (by omega)] at h
theorem takeL_next {la lb : List (List Int)} {k : Int} (h : la.take k.toNat = lb.take k.toNat) (h0 : 0 ≤ k) (h1 : k < (la.length : Int)) (h2 : k < (lb.length : Int)) (e : decide (gL la k = gL lb k) = true) : la.take (k + 1).toNat = lb.take (k + 1).toNat := by
  have h3 : k.toNat < la.length := by omega
  have h4 : k.toNat < lb.length := by omega
  have e := of_decide_eq_true e
  rw [show (k + 1).toNat = k.toNat + 1 by omega, List.take_succ_eq_append_getElem h3, List.take_succ_eq_append_getElem h4, h]
  simp only [gL, List.getD_eq_getElem?_getD, List.getElem?_eq_getElem h3, List.getElem?_eq_getElem h4, Option.getD_some] at e
  rw [e]
theorem takeL_all {la lb : List (List Int)} {k : Int} (h : la.take k.toNat = lb.take k.toNat) (h1 : (la.length : Int) ≤ k) (h2 : (lb.length : Int) ≤ k) : la = lb := by
  rwa [List.take_of_length_le (by omega), List.take_of_length_le (by omega)] at h
theorem game_ne0 {a b : GameL} (h : decide (a.ow = b.ow) = false) : false = decide (a = b) := (decide_eq_false (fun e => of_decide_eq_false h (by rw [e]))).symm
theorem game_ne1 {a b : GameL} (h : decide (a.pr = b.pr) = false) : false = decide (a = b) := (decide_eq_false (fun e => of_decide_eq_false h (by rw [e]))).symm
theorem game_ne2 {a b : GameL} (h : (((a.mv.length : Nat) : Int) : Int) ≠ ((b.mv.length : Nat) : Int)) : false = decide (a = b) := (decide_eq_false (fun e => h (by rw [e]))).symm
theorem game_ne3 {a b : GameL} {k : Int} (h : decide (gL a.mv k = gL b.mv k) = false) : false = decide (a = b) := (decide_eq_false (fun e => of_decide_eq_false h (by rw [e]))).symm
theorem game_eq {a b : GameL} {k : Int} (h0 : decide (a.ow = b.ow) = true) (h1 : decide (a.pr = b.pr) = true) (h2 : (((a.mv.length : Nat) : Int) : Int) = ((b.mv.length : Nat) : Int)) (h : a.mv.take k.toNat = b.mv.take k.toNat) (h3 : (a.mv.length : Int) ≤ k) : true = decide (a = b) := by
  refine (decide_eq_true ?_).symm
  have e0 := of_decide_eq_true h0
  have e1 := of_decide_eq_true h1
  have e2 := takeL_all h h3 (by omega)
  cases a; cases b
  simp_all
def idxI (l : List Int) (v : Int) : Int := if v ∈ l then ((l.idxOf v : Nat) : Int) else -1
theorem notin_next {l : List Int} {v k : Int} (h0 : 0 ≤ k) (h1 : k < (l.length : Int)) (h : v ∉ l.take k.toNat) (e : v ≠ gI l k) : v ∉ l.take (k + 1).toNat := by
  rw [show (k + 1).toNat = k.toNat + 1 by omega, List.take_succ_eq_append_getElem (by omega)]
  simp only [gI, List.getD_eq_getElem?_getD, List.getElem?_eq_getElem (show k.toNat < l.length by omega), Option.getD_some] at e
  simp only [List.mem_append, List.mem_singleton, not_or]
  exact ⟨h, e⟩
theorem in_at {l : List Int} {v k : Int} (h0 : 0 ≤ k) (h1 : k < (l.length : Int)) (e : v = gI l k) : v ∈ l := by
  simp only [gI, List.getD_eq_getElem?_getD, List.getElem?_eq_getElem (show k.toNat < l.length by omega), Option.getD_some] at e
  rw [e]
  exact List.getElem_mem _
theorem notin_all {l : List Int} {v k : Int} (h : v ∉ l.take k.toNat) (h1 : (l.length : Int) ≤ k) : v ∉ l := by
  rwa [List.take_of_length_le (by omega)] at h
theorem idx_at {l : List Int} {v k : Int} (h0 : 0 ≤ k) (h1 : k < (l.length : Int)) (h : v ∉ l.take k.toNat) (e : v = gI l k) : k = idxI l v := by
  have hin := in_at h0 h1 e
  rw [idxI, if_pos hin]
  have h3 : k.toNat < l.length := by omega
  have h2 : l = l.take k.toNat ++ l.drop k.toNat := (List.take_append_drop _ _).symm
  have h4 : l.idxOf v = k.toNat := by
    rw [h2, List.idxOf_append, if_neg h, List.drop_eq_getElem_cons h3]
    simp only [gI, List.getD_eq_getElem?_getD, List.getElem?_eq_getElem h3, Option.getD_some] at e
    rw [← e, List.idxOf_cons_self, List.length_take]
    omega
  rw [h4]
  omega
theorem idx_no {l : List Int} {v k : Int} (h : v ∉ l.take k.toNat) (h1 : (l.length : Int) ≤ k) : -1 = idxI l v := by
  rw [idxI, if_neg (notin_all h h1)]
theorem idx_in (l : List Int) (v : Int) : decide (idxI l v ≥ 0) = decide (v ∈ l) := by
  unfold idxI
  split
  · rename_i h
    simp only [h, decide_true, decide_eq_true_eq]
    omega
  · rename_i h
    simp [h]
theorem notin_zero (l : List Int) (v : Int) : v ∉ l.take (0 : Int).toNat := by simp
end Go.Proofs.YtkkophhnliplhaaDoor
