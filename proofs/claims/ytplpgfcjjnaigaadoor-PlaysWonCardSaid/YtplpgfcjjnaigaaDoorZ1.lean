/-
  Texts of this repo, laid together: the frame of the walks, plain lemmas, walks of Go functions. Conditions: what the theorems name.
-/
import Derived.Laws.Cells
import Derived.Lib.TrailingZeros
import Derived.Test.YtplpgfcjjnaigaaDoorZ0
set_option linter.unusedVariables false
set_option linter.unusedSimpArgs false
namespace Go.Proofs.YtplpgfcjjnaigaaDoor
open Go Go.RowKit
def gS (rs : List SliceV) (i : Nat) : SliceV := rs.getD i ⟨none, 0, 0⟩
def OwnLLP (w : World) (T_ : Nat → Prop) (os : List (Option Nat)) (A : Option Addr) (c : Nat) (e e2 : TypeId) (ls : List (List Int)) : Prop :=
  ∃ rs : List SliceV, rs.length = ls.length ∧ OwnR w (SxP T_ os) A c e rs ∧
    (∀ i, i < ls.length → (gS rs i).n = (ls.getD i []).length ∧ OwnR w (SxP T_ (obk A :: os)) (gS rs i).A (gS rs i).c e2 (ls.getD i [])) ∧
    ∀ i j, i < ls.length → j < ls.length → i ≠ j → ∀ k, obk (gS rs i).A = some k → obk (gS rs j).A ≠ some k
structure RowSP (T_ : Nat → Prop) (os : List (Option Nat)) (A : Option Addr) : Prop where
  inS : ∀ k, obk A = some k → SxP T_ os k
theorem RowSP.neb {T_ : Nat → Prop} {os : List (Option Nat)} {A : Option Addr} (h : RowSP T_ os A) {b : Nat} (hb : ∀ g, SxP T_ os g → some b ≠ some g) : obk A ≠ some b := fun e => hb b (h.inS b e) rfl
section
variable {w w1 : World} {T_ : Nat → Prop} {os : List (Option Nat)} {A : Option Addr} {c : Nat} {e e2 : TypeId} {ls : List (List Int)}
theorem OwnLLP.gr {row : Option Nat} (h : OwnLLP w T_ os A c e e2 ls) (g : w.grownBy w1 row) (hr : ∀ k, SxP T_ os k → row ≠ some k) : OwnLLP w1 T_ os A c e e2 ls := by
  obtain ⟨rs, hl, ho, hi, hd⟩ := h
  exact ⟨rs, hl, ho.gr g hr, fun i hi' => ⟨(hi i hi').1, (hi i hi').2.gr g (fun k hk => hr k hk.2)⟩, hd⟩
theorem OwnLLP.grA {row : Option Nat} {os' : List (Option Nat)} (h : OwnLLP w T_ os A c e e2 ls) (g : w.grownBy w1 row) (hr : ∀ k, SxP T_ os k → row ≠ some k) (hi : ∀ k, k < w.heap.size → SxP T_ os k → SxP T_ os' k) : OwnLLP w1 T_ os' A c e e2 ls := by
  obtain ⟨rs, hl, ho, hin, hd⟩ := h
  exact ⟨rs, hl, ho.grA g hr hi, fun i hi' => ⟨(hin i hi').1, (hin i hi').2.grA g (fun k hk => hr k hk.2) (fun k hk hs => ⟨hs.1, hi k hk hs.2⟩)⟩, hd⟩
theorem OwnLLP.imp {T' : Nat → Prop} {os' : List (Option Nat)} (h : OwnLLP w T_ os A c e e2 ls) (hi : ∀ k, k < w.heap.size → SxP T_ os k → SxP T' os' k) : OwnLLP w T' os' A c e e2 ls := by
  obtain ⟨rs, hl, ho, hin, hd⟩ := h
  exact ⟨rs, hl, ho.imp hi, fun i hi' => ⟨(hin i hi').1, (hin i hi').2.imp (fun k hk hs => ⟨hs.1, hi k hk hs.2⟩)⟩, hd⟩
theorem OwnLLP.ne_new (h : OwnLLP w T_ os A c e e2 ls) : obk A ≠ some w.heap.size := by
  obtain ⟨rs, hl, ho, hin, hd⟩ := h
  exact ho.ne_new
theorem OwnLLP.neb (h : OwnLLP w T_ os A c e e2 ls) {b : Nat} (hb : ∀ g, SxP T_ os g → some b ≠ some g) : obk A ≠ some b := by
  obtain ⟨rs, hl, ho, hin, hd⟩ := h
  exact ho.neb hb
theorem OwnLLP.inS (h : OwnLLP w T_ os A c e e2 ls) : ∀ k, obk A = some k → SxP T_ os k := by
  obtain ⟨rs, hl, ho, hin, hd⟩ := h
  exact ho.inS
theorem OwnLLP.nil : OwnLLP w T_ os none 0 e e2 [] := ⟨[], rfl, OwnR.nil, fun i hi => by simp at hi, fun i j hi => by simp at hi⟩
theorem gS_set {rs : List SliceV} {i j : Nat} {v : SliceV} (hi : i < rs.length) : gS (rs.set i v) j = if i = j then v else gS rs j := by
  simp only [gS, List.getD_eq_getElem?_getD, List.getElem?_set]
  by_cases h : i = j
  · subst h
    rw [if_pos rfl, if_pos rfl, if_pos hi]
    rfl
  · rw [if_neg h, if_neg h]
theorem getD_setL {ls : List (List Int)} {i j : Nat} {v : List Int} (hi : i < ls.length) : (ls.set i v).getD j [] = if i = j then v else ls.getD j [] := by
  simp only [List.getD_eq_getElem?_getD, List.getElem?_set]
  by_cases h : i = j
  · subst h
    rw [if_pos rfl, if_pos rfl, if_pos hi]
    rfl
  · rw [if_neg h, if_neg h]
def HoleLLP (w : World) (T_ : Nat → Prop) (os : List (Option Nat)) (A : Option Addr) (c : Nat) (e e2 : TypeId) (ls : List (List Int)) (i : Nat) (B : Option Addr) : Prop :=
  ∃ rs : List SliceV, rs.length = ls.length ∧ OwnR w (SxP T_ (obk B :: os)) A c e rs ∧
    (∀ j, j < ls.length → j ≠ i → (gS rs j).n = (ls.getD j []).length ∧ OwnR w (SxP T_ (obk B :: obk A :: os)) (gS rs j).A (gS rs j).c e2 (ls.getD j [])) ∧
    ∀ j k, j < ls.length → k < ls.length → j ≠ i → k ≠ i → j ≠ k → ∀ b, obk (gS rs j).A = some b → obk (gS rs k).A ≠ some b
theorem OwnLLP.get (h : OwnLLP w T_ os A c e e2 ls) (i : Int) (h0 : 0 ≤ i) (h1 : i < (ls.length : Int)) :
    ∃ ad R C, A = some ad ∧ ad.block < w.heap.size ∧ w.cell? (ad.add (i.toNat * 1)) = some (.slice R (gL ls i).length C) ∧ OwnR w (SxP T_ (obk A :: os)) R C e2 (gL ls i) ∧ HoleLLP w T_ os A c e e2 ls i.toNat R := by
  obtain ⟨rs, hl, ho, hi, hd⟩ := h
  have hlt : i.toNat < ls.length := by omega
  obtain ⟨ad, hA, hb, hc, _⟩ := ho.get i h0 (by omega) (sz := 1) rfl
  obtain ⟨hn, hR⟩ := hi i.toNat hlt
  have hne : obk A ≠ none → True := fun _ => trivial
  refine ⟨ad, (gS rs i.toNat).A, (gS rs i.toNat).c, hA, hb, ?_, hR, rs, hl, ?_, fun j hj hji => ?_, fun j k hj hk hji hki hjk => hd j k hj hk hjk⟩
  · rw [hc]
    show some (Value.slice (gS rs i.toNat).A (gS rs i.toNat).n (gS rs i.toNat).c) = _
    rw [hn]
    rfl
  · have hA' := ho.inS
    have h2 : OwnR w (fun k => SxP T_ os k ∧ obk A = some k) A c e rs := by
      refine ⟨ho.1, ?_⟩
      rcases ho.2 with h2 | ⟨g, o, cur, e1, hS, r⟩
      · exact .inl h2
      · exact .inr ⟨g, o, cur, e1, ⟨hS, by rw [e1]; rfl⟩, r⟩
    refine h2.imp (fun k hk hs => ⟨fun e => ?_, hs.1⟩)
    exact (hR.inS k e).1 hs.2
  · have hj' := (hi j hj).2
    have h2 : OwnR w (fun k => SxP T_ (obk A :: os) k ∧ obk (gS rs j).A = some k) (gS rs j).A (gS rs j).c e2 (ls.getD j []) := by
      refine ⟨hj'.1, ?_⟩
      rcases hj'.2 with h2 | ⟨g, o, cur, e1, hS, r⟩
      · exact .inl h2
      · exact .inr ⟨g, o, cur, e1, ⟨hS, by rw [e1]; rfl⟩, r⟩
    exact ⟨(hi j hj).1, h2.imp (fun k hk hs => ⟨fun e => hd i.toNat j hlt hj (fun e' => hji e'.symm) k e hs.2, hs.1⟩)⟩
theorem OwnR.gr2 {α : Type} [Enc α] {S : Nat → Prop} {l : List α} {row : Option Nat} (h : OwnR w S A c e l) (g : w.grownBy w1 row) (hr : ∀ k, obk A = some k → row ≠ some k) : OwnR w1 S A c e l := by
  refine ⟨h.1, ?_⟩
  rcases h.2 with h2 | ⟨b, o, cur, e1, hS, hg, r⟩
  · exact .inl h2
  · exact .inr ⟨b, o, cur, e1, hS, by rw [g.block b (Array.getElem?_eq_some_iff.1 hg).1 (fun e' => hr b (by rw [e1]; rfl) e'.symm)]; exact hg, r⟩
theorem HoleLLP.moved {i : Nat} {R R' : Option Addr} (h : HoleLLP w T_ os A c e e2 ls i R) (g : w.grownBy w1 (obk R)) (hA : R' = R ∨ R' = some ⟨w.heap.size, 0, none⟩) : HoleLLP w1 T_ os A c e e2 ls i R' := by
  obtain ⟨rs, hl, ho, hi, hd⟩ := h
  exact ⟨rs, hl, ho.grA g (fun k hk => hk.1) (fun k hk hs => ⟨own_repl hA hs.1 hk, hs.2⟩), fun j hj hji => ⟨(hi j hj hji).1, (hi j hj hji).2.grA g (fun k hk => hk.1) (fun k hk hs => ⟨own_repl hA hs.1 hk, hs.2⟩)⟩, hd⟩
theorem HoleLLP.gr {i : Nat} {R : Option Addr} {row : Option Nat} (h : HoleLLP w T_ os A c e e2 ls i R) (g : w.grownBy w1 row) (hr : ∀ k, SxP T_ os k → row ≠ some k) : HoleLLP w1 T_ os A c e e2 ls i R := by
  obtain ⟨rs, hl, ho, hi, hd⟩ := h
  exact ⟨rs, hl, ho.gr g (fun k hk => hr k hk.2), fun j hj hji => ⟨(hi j hj hji).1, (hi j hj hji).2.gr g (fun k hk => hr k hk.2.2)⟩, hd⟩
theorem HoleLLP.row {i : Nat} {R : Option Addr} (h : HoleLLP w T_ os A c e e2 ls i R) : RowSP T_ os A := by
  obtain ⟨rs, hl, ho, hin, hd⟩ := h
  exact ⟨fun k hk => (ho.inS k hk).2⟩
theorem HoleLLP.grA {i : Nat} {R : Option Addr} {row : Option Nat} {os' : List (Option Nat)} (h : HoleLLP w T_ os A c e e2 ls i R) (g : w.grownBy w1 row) (hr : ∀ k, SxP T_ os k → row ≠ some k) (hi : ∀ k, k < w.heap.size → SxP T_ os k → SxP T_ os' k) : HoleLLP w1 T_ os' A c e e2 ls i R := by
  obtain ⟨rs, hl, ho, hin, hd⟩ := h
  exact ⟨rs, hl, ho.grA g (fun k hk => hr k hk.2) (fun k hk hs => ⟨hs.1, hi k hk hs.2⟩), fun j hj hji => ⟨(hin j hj hji).1, (hin j hj hji).2.grA g (fun k hk => hr k hk.2.2) (fun k hk hs => ⟨hs.1, hs.2.1, hi k hk hs.2.2⟩)⟩, hd⟩
theorem HoleLLP.imp {i : Nat} {R : Option Addr} {os' : List (Option Nat)} (h : HoleLLP w T_ os A c e e2 ls i R) (hi : ∀ k, k < w.heap.size → SxP T_ os k → SxP T_ os' k) : HoleLLP w T_ os' A c e e2 ls i R := h.grA (row := none) (gr_refl w none) (fun _ _ h => by cases h) hi
theorem storeLL {P : Program} {l : List (Nat × Value)} {ops : List Oper} {k : Nat} {t : TypeId} {i : Int} {ad : Addr} {R : Option Addr} {n C : Nat} {xs : List Int} (ha : storeAtL l ops k = some (t, .pointer (some (ad.add (i.toNat * 1))), .slice R n C)) (hok : storeOkX P t [.slice R n C] = true) (hA : A = some ad)
    (h : HoleLLP w T_ os A c e e2 ls i.toNat R) (hR : OwnR w (SxP T_ (obk A :: os)) R C e2 xs) (hn : n = xs.length) (h0 : 0 ≤ i) (h1 : i < (ls.length : Int)) :
    ActOp P l ops k w fun d' v' w1 => d' = none ∧ w.grownBy w1 (obk A) ∧ OwnLLP w1 T_ os A c e e2 (ls.set i.toNat xs) := by
  subst hn
  have hlt : i.toNat < ls.length := by omega
  obtain ⟨rs, hl, ho, hi, hd⟩ := h
  obtain ⟨o, ho1, ho2, nx, v, w1, hr, hg, hdst, hgr, hO⟩ := storeR (α := SliceV) (x := ⟨R, xs.length, C⟩) ha rfl rfl hok hA ho h0 (by omega)
  refine ⟨o, ho1, ho2, nx, v, w1, hr, hg, hdst, hgr, rs.set i.toNat ⟨R, xs.length, C⟩, by rw [List.length_set, List.length_set]; exact hl, hO.imp (fun k hk hs => hs.2), fun j hj => ?_, fun j k hj hk hjk b hb => ?_⟩
  · rw [List.length_set] at hj
    rw [gS_set (by omega), getD_setL hlt]
    by_cases hji : i.toNat = j
    · rw [if_pos hji, if_pos hji]
      exact ⟨rfl, hR.gr hgr (fun k hk => hk.1)⟩
    · rw [if_neg hji, if_neg hji]
      have := hi j hj (fun e => hji e.symm)
      exact ⟨this.1, (this.2.gr hgr (fun k hk => hk.2.1)).imp (fun k hk hs => hs.2)⟩
  · rw [List.length_set] at hj hk
    rw [gS_set (by omega)] at hb ⊢
    by_cases hji : i.toNat = j
    · rw [if_pos hji] at hb
      rw [if_neg (fun e => hjk (hji.symm.trans e))]
      intro hk2
      exact ((hi k hk (fun e => hjk (hji.symm.trans e.symm))).2.inS b hk2).1 hb
    · rw [if_neg hji] at hb
      by_cases hki : i.toNat = k
      · rw [if_pos hki]
        intro hk2
        exact ((hi j hj (fun e => hji e.symm)).2.inS b hb).1 hk2
      · rw [if_neg hki]
        exact hd j k hj hk (fun e => hji e.symm) (fun e => hki e.symm) hjk b hb
theorem OwnR.ll {n : Nat} (h : OwnR w (SxP T_ os) A c e (List.replicate n (⟨none, 0, 0⟩ : SliceV))) : OwnLLP w T_ os A c e e2 (List.replicate n []) := by
  refine ⟨_, by rw [List.length_replicate, List.length_replicate], h, fun i hi => ?_, fun i j hi hj hij k hk => ?_⟩
  · have e1 : gS (List.replicate n (⟨none, 0, 0⟩ : SliceV)) i = ⟨none, 0, 0⟩ := by simp only [gS, List.getD_eq_getElem?_getD, List.getElem?_replicate]; split <;> rfl
    have e2 : (List.replicate n ([] : List Int)).getD i [] = [] := by simp only [List.getD_eq_getElem?_getD, List.getElem?_replicate]; split <;> rfl
    rw [e1, e2]
    exact ⟨rfl, OwnR.nil⟩
  · have e1 : gS (List.replicate n (⟨none, 0, 0⟩ : SliceV)) i = ⟨none, 0, 0⟩ := by simp only [gS, List.getD_eq_getElem?_getD, List.getElem?_replicate]; split <;> rfl
    rw [e1] at hk
    cases hk
end
abbrev OwnLL (w : World) (base : Nat) := OwnLLP w (fun g => base ≤ g)
abbrev HoleLL (w : World) (base : Nat) := HoleLLP w (fun g => base ≤ g)
abbrev RowS (base : Nat) := RowSP (fun g => base ≤ g)
theorem RowSP.ge {base : Nat} {os : List (Option Nat)} {A : Option Addr} (h : RowS base os A) : ∀ k, obk A = some k → base ≤ k := fun k hk => Sx_base (h.inS k hk)
section
variable {w w1 : World} {base : Nat} {os : List (Option Nat)} {A : Option Addr} {c : Nat} {e e2 : TypeId} {ls : List (List Int)}
theorem OwnLL.nil : OwnLL w base os none 0 e e2 [] := OwnLLP.nil
theorem OwnLLP.ge (h : OwnLL w base os A c e e2 ls) : ∀ k, obk A = some k → base ≤ k := by
  obtain ⟨rs, hl, ho, hin, hd⟩ := h
  exact ho.ge
theorem OwnLLP.rdII (h : OwnLL w base os A c e e2 ls) (hl : ls.length * 24 ≤ 140737488351232) (hi : ∀ i, i < ls.length → (ls.getD i []).length * 8 ≤ 140737488351232) : RdII w base w.heap.size A ls := by
  obtain ⟨rs, hrl, ho, hin, hd⟩ := h
  refine ⟨hl, fun i => (gS rs i).A, fun i => (gS rs i).c, fun i q hi' hq => ?_, fun i hi' => ?_⟩
  · have hr := ho.rdR (by rw [hrl]; exact hl)
    have := hr.row i q (by omega) hq
    obtain rfl : q = 0 := by omega
    obtain ⟨ad, hA, h1, h2, hc⟩ := this
    refine ⟨ad, hA, h1, h2, ?_⟩
    have e1 : (fun i q => (Enc.enc (rs.getD i Enc.d)).getD q undef) i 0 = Value.slice (gS rs i).A (gS rs i).n (gS rs i).c := rfl
    rw [e1, (hin i hi').1] at hc
    exact hc
  · exact ⟨(hin i hi').2.cap, ((hin i hi').2.rdR (hi i hi')).rdI⟩
end
end Go.Proofs.YtplpgfcjjnaigaaDoor
namespace Go.Proofs.YtplpgfcjjnaigaaDoor
open Go Go.RowKit
theorem rdI_nil {w : World} {lo hi : Nat} : RdI w lo hi none [] := ⟨by simp, fun i q hi' hq => by simp at hi'⟩
theorem rdI_isNone {w : World} {lo hi : Nat} {A : Option Addr} {l : List Int} (h : RdI w lo hi A l) (hA : A.isNone = true) : l = [] := by
  cases l with
  | nil => rfl
  | cons x l =>
    obtain ⟨ad, e, _⟩ := h.row 0 0 (by simp) (by omega)
    rw [e] at hA
    cases hA
theorem rdII_nil {w : World} {lo hi : Nat} : RdII w lo hi none [] := ⟨by simp, fun _ => none, fun _ => 0, fun i q hi' hq => by simp at hi', fun i hi' => by simp at hi'⟩
theorem Bx.rdI {w : World} {b : Nat} {cs : List Value} {T : TypeId} {l : List Int} (h : Bx w b cs T) (e : cs = ints l) (hl : l.length * 8 ≤ 140737488351232) : RdI w 0 w.heap.size (some ⟨b, 0, none⟩) l := by
  subst e
  refine ⟨hl, fun i q hi hq => ⟨_, rfl, Nat.zero_le _, h.lt, ?_⟩⟩
  obtain rfl : q = 0 := by omega
  rw [add_zero, Nat.mul_one, add_plain]
  refine h.cell ?_
  simp only [ints, List.getElem?_map, List.getElem?_eq_getElem hi, List.getD_eq_getElem?_getD, Option.map_some, Option.getD_some]
theorem Bx.rdR {α : Type} [Enc α] {w : World} {b : Nat} {cs : List Value} {T : TypeId} {l : List α} (h : Bx w b cs T) (e : rows l = cs) (hl : l.length * Enc.bytes α ≤ 140737488351232) : RdR w 0 w.heap.size (some ⟨b, 0, none⟩) l := by
  refine ⟨hl, fun i q hi hq => ⟨_, rfl, Nat.zero_le _, h.lt, ?_⟩⟩
  rw [add_add', add_plain]
  refine h.cell ?_
  rw [← e, rows_get l hi hq]
  exact getD_some (by rw [Enc.len]; exact hq)
def RowsC (w : World) : List Value → List (List Int) → Prop
  | [], [] => True
  | v :: cs, l :: ls => (∃ R C, v = .slice R l.length C ∧ l.length ≤ C ∧ RdI w 0 w.heap.size R l) ∧ RowsC w cs ls
  | _, _ => False
theorem RowsC.at_ {w : World} : ∀ {cs : List Value} {ls : List (List Int)}, RowsC w cs ls → ∀ i, i < ls.length → ∃ R C, cs[i]? = some (.slice R (ls.getD i []).length C) ∧ (ls.getD i []).length ≤ C ∧ RdI w 0 w.heap.size R (ls.getD i [])
  | [], [], _, i, hi => by simp at hi
  | [], _ :: _, h, _, _ => h.elim
  | _ :: _, [], h, _, _ => h.elim
  | v :: cs, l :: ls, h, 0, _ => by
    obtain ⟨⟨R, C, rfl, h1, h2⟩, _⟩ := h
    exact ⟨R, C, rfl, h1, h2⟩
  | v :: cs, l :: ls, h, i + 1, hi => by
    have := RowsC.at_ h.2 i (by simp at hi; omega)
    simpa using this
theorem Bx.rdII {w : World} {b : Nat} {cs : List Value} {T : TypeId} {ls : List (List Int)} (h : Bx w b cs T) (hr : RowsC w cs ls) (hl : ls.length * 24 ≤ 140737488351232) : RdII w 0 w.heap.size (some ⟨b, 0, none⟩) ls := by
  have hx : ∀ i, ∃ R C, i < ls.length → cs[i]? = some (.slice R (ls.getD i []).length C) ∧ (ls.getD i []).length ≤ C ∧ RdI w 0 w.heap.size R (ls.getD i []) := fun i => by
    by_cases hi : i < ls.length
    · obtain ⟨R, C, h1⟩ := hr.at_ i hi
      exact ⟨R, C, fun _ => h1⟩
    · exact ⟨none, 0, fun h => absurd h hi⟩
  refine ⟨hl, fun i => Classical.choose (hx i), fun i => Classical.choose (Classical.choose_spec (hx i)), fun i q hi hq => ⟨_, rfl, Nat.zero_le _, h.lt, ?_⟩, fun i hi => (Classical.choose_spec (Classical.choose_spec (hx i)) hi).2⟩
  obtain rfl : q = 0 := by omega
  rw [add_zero, Nat.mul_one, add_plain]
  exact h.cell (Classical.choose_spec (Classical.choose_spec (hx i)) hi).1
theorem OwnR.rdI0 {w : World} {base : Nat} {os : List (Option Nat)} {A : Option Addr} {c : Nat} {e : TypeId} {l : List Int} (h : OwnR w (Sx base os) A c e l) (hl : l.length * 8 ≤ 140737488351232) : RdI w 0 w.heap.size A l := (h.rdR hl).rdI.wide (Nat.zero_le _) (Nat.le_refl _)
theorem OwnLLP.cap {w : World} {T_ : Nat → Prop} {os : List (Option Nat)} {A : Option Addr} {c : Nat} {e e2 : TypeId} {ls : List (List Int)} (h : OwnLLP w T_ os A c e e2 ls) : ls.length ≤ c := by
  obtain ⟨rs, hl, ho, _⟩ := h
  rw [← hl]
  exact ho.cap
theorem OwnLLP.lt {w : World} {T_ : Nat → Prop} {os : List (Option Nat)} {A : Option Addr} {c : Nat} {e e2 : TypeId} {ls : List (List Int)} (h : OwnLLP w T_ os A c e e2 ls) : ∀ k, obk A = some k → k < w.heap.size := by
  obtain ⟨rs, hl, ho, _⟩ := h
  exact ho.lt
theorem OwnLLP.as {w : World} {T_ : Nat → Prop} {os : List (Option Nat)} {A : Option Addr} {c : Nat} {e e2 : TypeId} {ls ls' : List (List Int)} (h : OwnLLP w T_ os A c e e2 ls) (q : ls = ls') : OwnLLP w T_ os A c e e2 ls' := q ▸ h
theorem Bx.own0 {α : Type} [Enc α] {w : World} {b : Nat} {T : TypeId} {S : Nat → Prop} (h : Bx w b [] T) (hS : S b) : OwnR w S (some ⟨b, 0, none⟩) 0 T ([] : List α) := h.ownR (n := 0) (l := ([] : List α)) rfl hS (Nat.zero_le _)
end Go.Proofs.YtplpgfcjjnaigaaDoor
namespace Go.Proofs.YtplpgfcjjnaigaaDoor
open Go Go.RowKit
def orN (T : Nat → Prop) (n : Nat) (g : Nat) : Prop := T g ∨ n ≤ g
structure Tch (T : Nat → Prop) (w w1 : World) : Prop where
  os : w1.os = w.os
  tape : w1.tape = w.tape
  output : w1.output = w.output
  size : w.heap.size ≤ w1.heap.size
  block : ∀ k, k < w.heap.size → ¬ T k → w1.heap[k]? = w.heap[k]?
theorem Tch.refl {T : Nat → Prop} (w : World) : Tch T w w := ⟨rfl, rfl, rfl, Nat.le_refl _, fun _ _ _ => rfl⟩
theorem Tch.gr {T : Nat → Prop} {w0 w w1 : World} {row : Option Nat} (h : Tch T w0 w) (g : w.grownBy w1 row) (hr : ∀ k, row = some k → orN T w0.heap.size k) : Tch T w0 w1 :=
  ⟨g.os.trans h.os, g.tape.trans h.tape, g.output.trans h.output, Nat.le_trans h.size g.size, fun k hk hT => by
    rw [← h.block k hk hT]
    refine g.block k (by have := h.size; omega) (fun e => ?_)
    rcases hr k e.symm with h1 | h1
    · exact hT h1
    · omega⟩
theorem Tch.tch {T T2 : Nat → Prop} {w0 w w1 : World} (h : Tch T w0 w) (g : Tch T2 w w1) (hr : ∀ k, T2 k → orN T w0.heap.size k) : Tch T w0 w1 :=
  ⟨g.os.trans h.os, g.tape.trans h.tape, g.output.trans h.output, Nat.le_trans h.size g.size, fun k hk hT => by
    rw [← h.block k hk hT]
    refine g.block k (by have := h.size; omega) (fun e => ?_)
    rcases hr k e with h1 | h1
    · exact hT h1
    · omega⟩
theorem Tch.mono {T T2 : Nat → Prop} {w w1 : World} (h : Tch T w w1) (hi : ∀ k, k < w.heap.size → T k → T2 k) : Tch T2 w w1 :=
  ⟨h.os, h.tape, h.output, h.size, fun k hk hT => h.block k hk (fun e => hT (hi k hk e))⟩
theorem Tch.ext {T : Nat → Prop} {w0 w w1 : World} (h : Tch T w0 w) (g : Ext w w1) : Tch T w0 w1 := h.gr (gr_ext g) (fun _ h => by cases h)
theorem Ext.tch {T : Nat → Prop} {w0 w w1 : World} (h : Ext w0 w) (g : Tch T w w1) (hr : ∀ k, T k → w0.heap.size ≤ k) : Ext w0 w1 :=
  ⟨g.os.trans h.os, g.tape.trans h.tape, g.output.trans h.output, Nat.le_trans h.size g.size, fun k hk => by
    rw [← h.block k hk]
    exact g.block k (by have := h.size; omega) (fun e => by have := hr k e; omega)⟩
theorem Tch.cell {T : Nat → Prop} {w w1 : World} (g : Tch T w w1) {p : Addr} {v : Value} (hc : w.cell? p = some v) (hn : ¬ T p.block) : w1.cell? p = some v :=
  (World.cell?_of_block (w := w) (g.block p.block (World.block_lt_of_cell? _ _ hc) hn)).trans hc
theorem Bx.tch {T : Nat → Prop} {w w1 : World} {b : Nat} {cs : List Value} {t : TypeId} (h : Bx w b cs t) (g : Tch T w w1) (hn : ¬ T b) : Bx w1 b cs t := by
  have := g.block b h.lt hn
  unfold Bx at h ⊢
  rw [this]
  exact h
theorem Own.tch {T : Nat → Prop} {w w1 : World} {S : Nat → Prop} {A : Option Addr} {n c : Nat} {e : TypeId} {sz : Nat} {xs : List Value} (h : Own w S A n c e sz xs) (g : Tch T w w1) (hr : ∀ k, S k → obk A = some k → ¬ T k) : Own w1 S A n c e sz xs := by
  refine ⟨h.1, ?_⟩
  rcases h.2 with h2 | ⟨b, o, cur, hA, hS, hg, r⟩
  · exact .inl h2
  · exact .inr ⟨b, o, cur, hA, hS, by rw [g.block b (Array.getElem?_eq_some_iff.1 hg).1 (hr b hS (by rw [hA]; rfl))]; exact hg, r⟩
theorem OwnR.tch {α : Type} [Enc α] {T : Nat → Prop} {w w1 : World} {S : Nat → Prop} {A : Option Addr} {c : Nat} {e : TypeId} {l : List α} (h : OwnR w S A c e l) (g : Tch T w w1) (hr : ∀ k, S k → obk A = some k → ¬ T k) : OwnR w1 S A c e l := Own.tch h g hr
theorem OwnR.self {α : Type} [Enc α] {w : World} {S : Nat → Prop} {A : Option Addr} {c : Nat} {e : TypeId} {l : List α} (h : OwnR w S A c e l) : OwnR w (fun k => S k ∧ obk A = some k) A c e l := by
  refine ⟨h.1, ?_⟩
  rcases h.2 with h2 | ⟨g, o, cur, e1, hS, r⟩
  · exact .inl h2
  · exact .inr ⟨g, o, cur, e1, ⟨hS, by rw [e1]; rfl⟩, r⟩
theorem OwnLLP.tch {T U : Nat → Prop} {w w1 : World} {os : List (Option Nat)} {A : Option Addr} {c : Nat} {e e2 : TypeId} {ls : List (List Int)} (h : OwnLLP w U os A c e e2 ls) (g : Tch T w w1) (hr : ∀ k, SxP U os k → ¬ T k) : OwnLLP w1 U os A c e e2 ls := by
  obtain ⟨rs, hl, ho, hin, hd⟩ := h
  exact ⟨rs, hl, ho.tch g (fun k hk _ => hr k hk), fun i hi => ⟨(hin i hi).1, (hin i hi).2.tch g (fun k hk _ => hr k hk.2)⟩, hd⟩
theorem RdV.tch {T : Nat → Prop} {w w1 : World} {lo hi : Nat} {A : Option Addr} {n sz : Nat} {f : Nat → Nat → Value} (h : RdV w lo hi A n sz f) (g : Tch T w w1) (hr : ∀ k, T k → k < lo ∨ hi ≤ k) : RdV w1 lo hi A n sz f := fun i q hi' hq => by
  obtain ⟨ad, e, h1, h2, hc⟩ := h i q hi' hq
  refine ⟨ad, e, h1, h2, g.cell hc (fun e => ?_)⟩
  rw [add_block, add_block] at e
  have := hr _ e
  omega
theorem RdI.tch {T : Nat → Prop} {w w1 : World} {lo hi : Nat} {A : Option Addr} {l : List Int} (h : RdI w lo hi A l) (g : Tch T w w1) (hr : ∀ k, T k → k < lo ∨ hi ≤ k) : RdI w1 lo hi A l := ⟨h.len, h.row.tch g hr⟩
theorem RdB.tch {T : Nat → Prop} {w w1 : World} {lo hi : Nat} {A : Option Addr} {l : List Bool} (h : RdB w lo hi A l) (g : Tch T w w1) (hr : ∀ k, T k → k < lo ∨ hi ≤ k) : RdB w1 lo hi A l := ⟨h.len, h.row.tch g hr⟩
theorem RdR.tch {α : Type} [Enc α] {T : Nat → Prop} {w w1 : World} {lo hi : Nat} {A : Option Addr} {l : List α} (h : RdR w lo hi A l) (g : Tch T w w1) (hr : ∀ k, T k → k < lo ∨ hi ≤ k) : RdR w1 lo hi A l := ⟨h.len, h.row.tch g hr⟩
theorem RdII.tch {T : Nat → Prop} {w w1 : World} {lo hi : Nat} {A : Option Addr} {l : List (List Int)} (h : RdII w lo hi A l) (g : Tch T w w1) (hr : ∀ k, T k → k < lo ∨ hi ≤ k) : RdII w1 lo hi A l := by
  obtain ⟨hl, R, C, h1, h2⟩ := h
  exact ⟨hl, R, C, h1.tch g hr, fun i hi => ⟨(h2 i hi).1, (h2 i hi).2.tch g hr⟩⟩
theorem RdG.tch {T : Nat → Prop} {w w1 : World} {lo hi : Nat} {A0 A1 A2 : Option Addr} {c0 c1 c2 : Nat} {G : GameL} (h : RdG w lo hi A0 A1 A2 c0 c1 c2 G) (g : Tch T w w1) (hr : ∀ k, T k → k < lo ∨ hi ≤ k) : RdG w1 lo hi A0 A1 A2 c0 c1 c2 G :=
  ⟨h.ow.tch g hr, h.pr.tch g hr, h.mv.tch g hr, h.k0, h.k1, h.k2⟩
theorem OwnR.toP {α : Type} [Enc α] {w : World} {S T : Nat → Prop} {os : List (Option Nat)} {n : Nat} {A : Option Addr} {c : Nat} {e : TypeId} {l : List α} (h : OwnR w S A c e l) (hi : ∀ g, g < w.heap.size → S g → SxP T os g) : OwnR w (SxP (orN T n) os) A c e l :=
  h.imp (fun g hg hs => by
    have h2 := hi g hg hs
    clear hi hs h
    induction os with
    | nil => exact .inl h2
    | cons o os ih => exact ⟨h2.1, ih h2.2⟩)
theorem SxP.toN {T : Nat → Prop} {n g : Nat} : ∀ {os : List (Option Nat)}, SxP T os g → SxP (orN T n) os g
  | [], h => .inl h
  | _ :: _, h => ⟨h.1, SxP.toN h.2⟩
theorem OwnLLP.toP {w : World} {U T : Nat → Prop} {os os' : List (Option Nat)} {n : Nat} {A : Option Addr} {c : Nat} {e e2 : TypeId} {ls : List (List Int)} (h : OwnLLP w U os' A c e e2 ls) (hi : ∀ g, g < w.heap.size → SxP U os' g → SxP T os g) : OwnLLP w (orN T n) os A c e e2 ls :=
  h.imp (fun g hg hs => SxP.toN (hi g hg hs))
theorem OwnR.reS {α : Type} [Enc α] {w w1 : World} {S : Nat → Prop} {A : Option Addr} {c : Nat} {e : TypeId} {l l' : List α} (h : OwnR w S A c e l) (h' : OwnR w1 (fun _ => True) A c e l') : OwnR w1 S A c e l' := h'.self.imp (fun g hg hs => h.inS g hs.2)
theorem HoldsC.tch {T : Nat → Prop} {Cs : List (Addr × Value)} {w w1 : World} (h : HoldsC Cs w) (g : Tch T w w1) (hne : AllP (Cs.map fun p => ¬ T p.1.block)) : HoldsC Cs w1 :=
  AllP_map (fun p hp hc => g.cell hc (AllP_mem hne p hp)) h
theorem Tch.gn {T : Nat → Prop} {w0 w w1 : World} (h : Tch T w0 w) (g : w.grownBy w1 none) : Tch T w0 w1 := h.gr g (fun _ h => by cases h)
theorem OwnR.gn {α : Type} [Enc α] {w w1 : World} {S : Nat → Prop} {A : Option Addr} {c : Nat} {e : TypeId} {l : List α} (h : OwnR w S A c e l) (g : w.grownBy w1 none) : OwnR w1 S A c e l := h.gr g (fun _ _ h => by cases h)
theorem OwnR.grN {α : Type} [Enc α] {w w1 : World} {T : Nat → Prop} {os : List (Option Nat)} {A : Option Addr} {c : Nat} {e : TypeId} {l : List α} (h : OwnR w (SxP T os) A c e l) (g : w.grownBy w1 none) : OwnR w1 (SxP T (some w.heap.size :: os)) A c e l :=
  h.grA g (fun _ _ h => by cases h) (fun k hk hs => ⟨fun e => by injection e; omega, hs⟩)
theorem OwnLLP.gn {w w1 : World} {U : Nat → Prop} {os : List (Option Nat)} {A : Option Addr} {c : Nat} {e e2 : TypeId} {ls : List (List Int)} (h : OwnLLP w U os A c e e2 ls) (g : w.grownBy w1 none) : OwnLLP w1 U os A c e e2 ls := h.gr g (fun _ _ h => by cases h)
theorem OwnLLP.grN {w w1 : World} {U : Nat → Prop} {os : List (Option Nat)} {A : Option Addr} {c : Nat} {e e2 : TypeId} {ls : List (List Int)} (h : OwnLLP w U os A c e e2 ls) (g : w.grownBy w1 none) : OwnLLP w1 U (some w.heap.size :: os) A c e e2 ls :=
  h.grA g (fun _ _ h => by cases h) (fun k hk hs => ⟨fun e => by injection e; omega, hs⟩)
theorem HoleLLP.gn {w w1 : World} {U : Nat → Prop} {os : List (Option Nat)} {A : Option Addr} {c : Nat} {e e2 : TypeId} {ls : List (List Int)} {i : Nat} {R : Option Addr} (h : HoleLLP w U os A c e e2 ls i R) (g : w.grownBy w1 none) : HoleLLP w1 U os A c e e2 ls i R := h.gr g (fun _ _ h => by cases h)
theorem HoleLLP.grN {w w1 : World} {U : Nat → Prop} {os : List (Option Nat)} {A : Option Addr} {c : Nat} {e e2 : TypeId} {ls : List (List Int)} {i : Nat} {R : Option Addr} (h : HoleLLP w U os A c e e2 ls i R) (g : w.grownBy w1 none) : HoleLLP w1 U (some w.heap.size :: os) A c e e2 ls i R :=
  h.grA g (fun _ _ h => by cases h) (fun k hk hs => ⟨fun e => by injection e; omega, hs⟩)
end Go.Proofs.YtplpgfcjjnaigaaDoor
namespace Go.Proofs.YtplpgfcjjnaigaaDoor
open Go Go.RowKit
def wV (z : Int) : Value := .int .u64 z
def iV (z : Int) : Value := .int .i64 z
section
variable {P : Program} {lst : List (Nat × Value)} {ops : List Oper} {k : Nat} {w : World} {b : Nat} {T t : TypeId} {α : Type}
theorem map_get {f : α → Value} {d : α} {l : List α} {i : Nat} (hi : i < l.length) : (l.map f)[i]? = some (f (l.getD i d)) := by
  simp only [List.getElem?_map, List.getElem?_eq_getElem hi, Option.map_some, List.getD_eq_getElem?_getD, Option.getD_some]
theorem Bx.arrM {f : α → Value} {l : List α} (d : α) (h : Bx w b (l.map f) T) (i : Int) (h0 : 0 ≤ i) (h1 : i < (l.length : Int)) : w.cell? ((⟨b, 0, none⟩ : Addr).add (i.toNat * 1)) = some (f (l.getD i.toNat d)) := by
  rw [add_off, Nat.zero_add, Nat.mul_one]
  exact h.cell (map_get (by omega))
theorem Bx.whole {cs : List Value} (h : Bx w b cs T) : ∀ (j : Nat) (v : Value), cs[j]? = some v → w.cell? ((⟨b, 0, none⟩ : Addr).add j) = some v := fun j v hv => by
  rw [add_off, Nat.zero_add]
  exact h.cell hv
theorem storeArrM {f : α → Value} {l : List α} {x : α} {v : Value} {i : Int} (ha : storeAtL lst ops k = some (t, .pointer (some ((⟨b, 0, none⟩ : Addr).add (i.toNat * 1))), v)) (hv : v = f x) (hcl : v.cells.toList = [v]) (hok : storeOkX P t [v] = true) (h : Bx w b (l.map f) T) (h0 : 0 ≤ i) (h1 : i < (l.length : Int)) :
    ActOp P lst ops k w fun d' v' w1 => d' = none ∧ w.grownBy w1 (some b) ∧ Bx w1 b ((l.set i.toNat x).map f) T := by
  have hlt : i.toNat < l.length := by omega
  have hrl : (l.map f).length = l.length := List.length_map f
  unfold storeAtL at ha
  cases hop' : ops[k]? with
  | none => rw [hop'] at ha; simp at ha
  | some o =>
    rw [hop'] at ha
    simp only at ha
    split at ha
    · rename_i t' a b' hok' hop hdst
      simp only [Option.some.injEq, Prod.mk.injEq] at ha
      obtain ⟨rfl, ha1, ha2⟩ := ha
      simp only [storeOkX, Bool.and_eq_true] at hok
      obtain ⟨hk1, hk2⟩ := hok
      split at hk1
      · rename_i inf hinf
        have hk1 : inf.size = 1 := by simpa using hk1
        obtain ⟨w1, hr, hgr, hO⟩ := run_storeCells (P := P) [v] (i.toNat * 1) 0 h (by simp only [hrl, List.length_cons, List.length_nil]; omega) (fun u hu => List.all_eq_true.1 hk2 u hu)
        refine ⟨o, hop', hok', .skip, undef, w1, ?_, .inr ⟨rfl, rfl⟩, hdst, hgr, ?_⟩
        · rw [add_off, Nat.zero_add] at ha1
          have hcs : v.cells.size = 1 := by
            have := congrArg List.length hcl
            simpa using this
          simp only [execOp, hop, ha1, ha2, Instr.storeAt, Instr.sureAddr]
          simp [storeVar, sizeOf, typeInfo, hinf, hk1, hcs, hcl]
          simp only [Nat.mul_one] at hr
          rw [hr]
          rfl
        · refine hO.as ?_
          rw [List.map_set, ← hv, List.set_eq_take_append_cons_drop, if_pos (by rw [hrl]; exact hlt)]
          simp
      · simp at hk1
    · simp at ha
theorem storeBlk {cs cs' : List Value} {n : Nat} (ha : storeAtL lst ops k = some (t, .pointer (some ⟨b, 0, none⟩), .agg cs'.toArray)) (hok : (match P.info? t with | some i => Nat.beq i.size n | none => false) = true) (hn : cs'.length = n) (h1 : ∀ v ∈ cs', oneC v = true) (hl : cs'.length = cs.length) (h : Bx w b cs T) :
    ActOp P lst ops k w fun d' v' w1 => d' = none ∧ w.grownBy w1 (some b) ∧ Bx w1 b cs' T := by
  subst hn
  unfold storeAtL at ha
  cases hop' : ops[k]? with
  | none => rw [hop'] at ha; simp at ha
  | some o =>
    rw [hop'] at ha
    simp only at ha
    split at ha
    · rename_i t' a b' hok' hop hdst
      simp only [Option.some.injEq, Prod.mk.injEq] at ha
      obtain ⟨rfl, ha1, ha2⟩ := ha
      split at hok
      · rename_i inf hinf
        have hk1 : inf.size = cs'.length := by simpa using hok
        obtain ⟨w1, hr, hgr, hO⟩ := run_storeCells (P := P) cs' 0 0 h (by omega) h1
        refine ⟨o, hop', hok', .skip, undef, w1, ?_, .inr ⟨rfl, rfl⟩, hdst, hgr, ?_⟩
        · simp only [execOp, hop, ha1, ha2, Instr.storeAt, Instr.sureAddr]
          simp [storeVar, sizeOf, typeInfo, hinf, hk1, Value.cells, hr]
        · refine hO.as ?_
          simp [hl]
      · simp at hok
    · simp at ha
theorem Bx.wholeL {f : α → Value} {a c : List α} (h : Bx w b ((a ++ c).map f) T) : ∀ (j : Nat) (v : Value), (a.map f)[j]? = some v → w.cell? ((⟨b, 0, none⟩ : Addr).add j) = some v := fun j v hv =>
  h.whole j v (by
    have := (List.getElem?_eq_some_iff.1 hv).1
    rw [List.map_append, List.getElem?_append_left this]
    exact hv)
theorem Bx.wholeR {f : α → Value} {a c : List α} {n : Nat} (ha : a.length = n) (h : Bx w b ((a ++ c).map f) T) : ∀ (j : Nat) (v : Value), (c.map f)[j]? = some v → w.cell? ((⟨b, n, none⟩ : Addr).add j) = some v := fun j v hv => by
  rw [add_off]
  refine h.cell ?_
  rw [List.map_append, List.getElem?_append_right (by rw [List.length_map]; omega), List.length_map, show n + j - a.length = j by omega]
  exact hv
theorem storeBlkAt {cs cs' : List Value} {n off : Nat} (ha : storeAtL lst ops k = some (t, .pointer (some ⟨b, off, none⟩), .agg cs'.toArray)) (hok : (match P.info? t with | some i => Nat.beq i.size n | none => false) = true) (hn : cs'.length = n) (h1 : ∀ v ∈ cs', oneC v = true) (hl : off + cs'.length ≤ cs.length) (h : Bx w b cs T) :
    ActOp P lst ops k w fun d' v' w1 => d' = none ∧ w.grownBy w1 (some b) ∧ Bx w1 b (cs.take off ++ cs' ++ cs.drop (off + cs'.length)) T := by
  subst hn
  unfold storeAtL at ha
  cases hop' : ops[k]? with
  | none => rw [hop'] at ha; simp at ha
  | some o =>
    rw [hop'] at ha
    simp only at ha
    split at ha
    · rename_i t' a b' hok' hop hdst
      simp only [Option.some.injEq, Prod.mk.injEq] at ha
      obtain ⟨rfl, ha1, ha2⟩ := ha
      split at hok
      · rename_i inf hinf
        have hk1 : inf.size = cs'.length := by simpa using hok
        obtain ⟨w1, hr, hgr, hO⟩ := run_storeCells (P := P) cs' off 0 h (by omega) h1
        refine ⟨o, hop', hok', .skip, undef, w1, ?_, .inr ⟨rfl, rfl⟩, hdst, hgr, ?_⟩
        · simp only [execOp, hop, ha1, ha2, Instr.storeAt, Instr.sureAddr]
          simp [storeVar, sizeOf, typeInfo, hinf, hk1, Value.cells, hr]
        · simpa using hO
      · simp at hok
    · simp at ha
theorem storeBlkL {f : α → Value} {a c x : List α} {n : Nat} (ha : storeAtL lst ops k = some (t, .pointer (some ⟨b, 0, none⟩), .agg (x.map f).toArray)) (hok : (match P.info? t with | some i => Nat.beq i.size n | none => false) = true) (hn : (x.map f).length = n) (h1 : ∀ v ∈ x.map f, oneC v = true) (hl : x.length = a.length) (h : Bx w b ((a ++ c).map f) T) :
    ActOp P lst ops k w fun d' v' w1 => d' = none ∧ w.grownBy w1 (some b) ∧ Bx w1 b ((x ++ c).map f) T := by
  obtain ⟨o, h2, h3, nx, v, w1, h4, h5, h6, h7, h8⟩ := storeBlkAt (P := P) ha hok hn h1 (by rw [List.length_map, List.length_map, List.length_append]; omega) h
  refine ⟨o, h2, h3, nx, v, w1, h4, h5, h6, h7, h8.as ?_⟩
  rw [List.take_zero, List.nil_append, Nat.zero_add, List.length_map, hl, List.map_append, List.map_append, show a.length = (a.map f).length from (List.length_map f).symm, List.drop_left]
theorem storeBlkR {f : α → Value} {a c x : List α} {n m : Nat} (ha : storeAtL lst ops k = some (t, .pointer (some ⟨b, m, none⟩), .agg (x.map f).toArray)) (hok : (match P.info? t with | some i => Nat.beq i.size n | none => false) = true) (hn : (x.map f).length = n) (h1 : ∀ v ∈ x.map f, oneC v = true) (hm : a.length = m) (hl : x.length = c.length) (h : Bx w b ((a ++ c).map f) T) :
    ActOp P lst ops k w fun d' v' w1 => d' = none ∧ w.grownBy w1 (some b) ∧ Bx w1 b ((a ++ x).map f) T := by
  subst hm
  obtain ⟨o, h2, h3, nx, v, w1, h4, h5, h6, h7, h8⟩ := storeBlkAt (P := P) ha hok hn h1 (by rw [List.length_map, List.length_map, List.length_append]; omega) h
  refine ⟨o, h2, h3, nx, v, w1, h4, h5, h6, h7, h8.as ?_⟩
  have e1 : ((a ++ c).map f).take a.length = a.map f := by rw [List.map_append, show a.length = (a.map f).length from (List.length_map f).symm, List.take_left]
  have e2 : ((a ++ c).map f).drop (a.length + (x.map f).length) = [] := List.drop_of_length_le (by rw [List.length_map, List.length_map, List.length_append]; omega)
  rw [e1, e2, List.append_nil, List.map_append]
def blkC (b : Nat) (cs : List Value) : List (Addr × Value) := (List.range cs.length).map fun j => ((⟨b, 0, none⟩ : Addr).add j, cs.getD j undef)
theorem blkC_in {cs : List Value} {j : Nat} {v : Value} (h : cs[j]? = some v) : ((⟨b, 0, none⟩ : Addr).add j, v) ∈ blkC b cs := by
  have hj := (List.getElem?_eq_some_iff.1 h).1
  refine List.mem_map.2 ⟨j, List.mem_range.2 hj, ?_⟩
  rw [List.getD_eq_getElem?_getD, h]
  rfl
theorem allP_of {γ : Type} {p : γ → Prop} : ∀ {l : List γ}, (∀ x ∈ l, p x) → AllP (l.map p)
  | [], _ => trivial
  | x :: r, h => ⟨h x List.mem_cons_self, allP_of (fun y hy => h y (List.mem_cons_of_mem _ hy))⟩
theorem allP_app {γ : Type} {p : γ → Prop} : ∀ {l r : List γ}, AllP (l.map p) → AllP (r.map p) → AllP ((l ++ r).map p)
  | [], _, _, h => h
  | x :: l, r, h, h2 => ⟨h.1, allP_app h.2 h2⟩
theorem holdsA {A B : List (Addr × Value)} (h : HoldsC A w) (h2 : HoldsC B w) : HoldsC (A ++ B) w := allP_app h h2
theorem holds_blk {cs : List Value} (h : Bx w b cs T) : HoldsC (blkC b cs) w := allP_of fun p hp => by
  obtain ⟨j, hj, rfl⟩ := List.mem_map.1 hp
  have hj := List.mem_range.1 hj
  refine h.whole j _ ?_
  rw [List.getD_eq_getElem?_getD, List.getElem?_eq_getElem hj]
  rfl
theorem ne_blk {b0 : Nat} {cs : List Value} (h : b0 ≠ b) : AllP ((blkC b0 cs).map fun p => p.1.block ≠ b) := allP_of fun p hp => by
  obtain ⟨j, hj, rfl⟩ := List.mem_map.1 hp
  rw [add_block]
  exact h
theorem neO_blk {row : Option Nat} {cs : List Value} (h : row ≠ some b) : AllP ((blkC b cs).map fun p => row ≠ some p.1.block) := allP_of fun p hp => by
  obtain ⟨j, hj, rfl⟩ := List.mem_map.1 hp
  rw [add_block]
  exact h
theorem oneW_ {l : List Int} : ∀ v ∈ l.map wV, oneC v = true := fun v hv => by
  obtain ⟨x, _, rfl⟩ := List.mem_map.1 hv
  rfl
theorem nT_blk {T : Nat → Prop} {cs : List Value} (h : ¬ T b) : AllP ((blkC b cs).map fun p => ¬ T p.1.block) := allP_of fun p hp => by
  obtain ⟨j, hj, rfl⟩ := List.mem_map.1 hp
  rw [add_block]
  exact h
theorem len8 {a c : List Int} (ha : a.length = 4) (hc : c.length = 4) : ((a ++ c).map wV).length = 8 := by rw [List.length_map, List.length_append, ha, hc]
def wholeOk (P : Program) (t n : Nat) : Bool := (match P.info? t with | some i => Nat.beq i.size n | none => false) && aggB P t
theorem results_of {fn : Func} {tmps : Array Value} {vs : List Value} (h1 : (fn.results.toList.mapM (resF tmps)).run P w = .ok vs w) : (results fn tmps).run P w = .ok (packL vs) w := by
  have e : results fn tmps = (do let vs ← fn.results.mapM (resF tmps); pure (if h : vs.size = 1 then vs[0] else .tuple vs)) := by
    unfold results
    congr 1
  rw [e, Array.mapM_eq_mapM_toList]
  have h2 : ∀ (s : Sem (List Value)) (f : List Value → Array Value), (f <$> s).run P w = (s.run P w).andThen fun a w' => .ok (f a) w' := fun s f => by
    rw [← bind_pure_comp]
    simp only [Sem.run_bind, Sem.run_pure]
  simp only [Sem.run_bind]
  rw [h2, h1]
  simp only [Result.andThen_ok, Sem.run_pure]
  congr 1
  match vs with
  | [] => rfl
  | [v] => rfl
  | u :: v :: r => simp [packL]
theorem res_blk {fn : Func} {n m : Nat} {a : Act} {l : List (Nat × Value)} (hf : Frm n a l) {sl : Nat} {cs : List Value} (hres : fn.results.toList = [.cell sl t]) (hl : look l sl = some (.pointer (some ⟨b, 0, none⟩))) (hok : wholeOk P t m = true) (hn : cs.length = m) (hb : Bx w b cs T) : (results fn a.tmps).run P w = .ok (.agg cs.toArray) w := by
  subst hn
  refine results_of (vs := [.agg cs.toArray]) ?_
  rw [hres]
  simp only [wholeOk, Bool.and_eq_true] at hok
  obtain ⟨hk1, hk2⟩ := hok
  split at hk1
  · rename_i inf hinf
    have hk1 : inf.size = cs.length := by simpa using hk1
    have hr := run_loadCells_list (P := P) w ⟨b, 0, none⟩ cs hb.whole
    have hld : (loadVar t ⟨b, 0, none⟩).run P w = .ok (.agg cs.toArray) w := by
      unfold aggB at hk2
      split at hk2
      · rename_i hu
        simp [loadVar, isAgg, sizeOf, typeInfo, hinf, hk1, run_some_underlying hu, hr]
      · rename_i hu
        simp [loadVar, isAgg, sizeOf, typeInfo, hinf, hk1, run_some_underlying hu, hr]
      · cases hk2
    simp only [List.mapM_cons, List.mapM_nil, Sem.run_bind, resF, hf.val sl _ hl, asAddr, Sem.run_pure, Result.andThen_ok]
    rw [hld]
    rfl
  · simp at hk1
theorem retB_ {fn : Func} {R : Ending → World → Prop} {n m : Nat} {a : Act} {l : List (Nat × Value)} (hf : Frm n a l) {sl : Nat} {cs : List Value} (hres : fn.results.toList = [.cell sl t]) (hl : look l sl = some (.pointer (some ⟨b, 0, none⟩))) (hok : wholeOk P t m = true) (hn : cs.length = m) (hb : Bx w b cs T) (hR : R (.returned (.agg cs.toArray)) w) : bodyPost P fn R .ret a w := ⟨hf.defs, _, res_blk hf hres hl hok hn hb, hR⟩
theorem res_blk2 {fn : Func} {n m : Nat} {a : Act} {l : List (Nat × Value)} (hf : Frm n a l) {sl : Nat} {cs : List Value} {q : Nat} {v : Value} (hres : fn.results.toList = [.cell sl t, .tmp q]) (hl : look l sl = some (.pointer (some ⟨b, 0, none⟩))) (hq : look l q = some v) (hok : wholeOk P t m = true) (hn : cs.length = m) (hb : Bx w b cs T) : (results fn a.tmps).run P w = .ok (.tuple #[.agg cs.toArray, v]) w := by
  subst hn
  refine results_of (vs := [.agg cs.toArray, v]) ?_
  rw [hres]
  simp only [wholeOk, Bool.and_eq_true] at hok
  obtain ⟨hk1, hk2⟩ := hok
  split at hk1
  · rename_i inf hinf
    have hk1 : inf.size = cs.length := by simpa using hk1
    have hr := run_loadCells_list (P := P) w ⟨b, 0, none⟩ cs hb.whole
    have hld : (loadVar t ⟨b, 0, none⟩).run P w = .ok (.agg cs.toArray) w := by
      unfold aggB at hk2
      split at hk2
      · rename_i hu
        simp [loadVar, isAgg, sizeOf, typeInfo, hinf, hk1, run_some_underlying hu, hr]
      · rename_i hu
        simp [loadVar, isAgg, sizeOf, typeInfo, hinf, hk1, run_some_underlying hu, hr]
      · cases hk2
    simp only [List.mapM_cons, List.mapM_nil, Sem.run_bind, resF, hf.val sl _ hl, asAddr, Sem.run_pure, Result.andThen_ok]
    rw [hld]
    simp only [Sem.run_bind, Sem.run_pure, Result.andThen_ok, hf.val q _ hq]
  · simp at hk1
theorem ret2B_ {fn : Func} {R : Ending → World → Prop} {n m : Nat} {a : Act} {l : List (Nat × Value)} (hf : Frm n a l) {sl : Nat} {cs : List Value} {q : Nat} {v : Value} (hres : fn.results.toList = [.cell sl t, .tmp q]) (hl : look l sl = some (.pointer (some ⟨b, 0, none⟩))) (hq : look l q = some v) (hok : wholeOk P t m = true) (hn : cs.length = m) (hb : Bx w b cs T) (hR : R (.returned (.tuple #[.agg cs.toArray, v])) w) : bodyPost P fn R .ret a w := ⟨hf.defs, _, res_blk2 hf hres hl hq hok hn hb, hR⟩
end
end Go.Proofs.YtplpgfcjjnaigaaDoor
namespace Go.Proofs.YtplpgfcjjnaigaaDoor
open Go Go.RowKit
theorem idxM {α : Type} (f : α → Value) {l : List α} (d : α) (i : Int) (h0 : 0 ≤ i) (h1 : i < (l.length : Int)) : ((l.map f).toArray : Array Value)[i.toNat * 1]? = some (f (l.getD i.toNat d)) := by
  have h : i.toNat < l.length := by omega
  simp [h, List.getD]
theorem len_P {p : Prop} (h : p := by simp only [List.length_map, List.length_set, List.length_replicate, List.length_cons, List.length_nil]; first | done | assumption | exact from_len _ | exact of_len _ | exact ofZ_len _ | exact (ofW_ok _).1 | exact (fullW_W _).1 | exact (okW_with (by assumption)).1 | exact (okW_less (by assumption)).1 | exact put_len (from_len _) | exact orD_len _ _ | exact andD_len _ _ | exact minusD_len _ _ | exact fullD_len _ | (refine okLen ?_; (repeat (first | assumption | exact ofW_ok _ | exact fullW_W _ | apply okW_with | apply okW_less | refine okW_orS ?_ ?_ | refine okW_andS ?_ ?_ | refine okW_minusS ?_ ?_)); done) | omega | rfl) : p := h
theorem len_4 {p : Prop} (h : p := by first | assumption | exact (okW_with (by assumption)).1 | exact (okW_less (by assumption)).1 | exact (ofW_ok _).1 | exact (fullW_W _).1 | (refine okLen ?_; (repeat (first | assumption | exact ofW_ok _ | exact fullW_W _ | apply okW_with | apply okW_less | refine okW_orS ?_ ?_ | refine okW_andS ?_ ?_ | refine okW_minusS ?_ ?_)); done) | rfl | omega | (simp only [List.length_set]; first | done | assumption | omega) | exact lenW4 _ (by assumption)) : p := h
end Go.Proofs.YtplpgfcjjnaigaaDoor
namespace Go.Proofs.YtplpgfcjjnaigaaDoor
open Go Go.RowKit
def W64 (a : Int) : Prop := 0 ≤ a ∧ a < 18446744073709551616
def bitI (a : Int) (k : Int) : Bool := a.toNat.testBit k.toNat
theorem wrapU {a : Int} (h : W64 a) : IntKind.u64.wrap a = a := by
  obtain ⟨h0, h1⟩ := h
  simp only [IntKind.wrap, IntKind.signed, IntKind.bits]
  simp
  omega
theorem ofInt_nat {a : Int} (h : W64 a) : (BitVec.ofInt 64 a).toNat = a.toNat := by
  obtain ⟨h0, h1⟩ := h
  rw [BitVec.toNat_ofInt]
  congr 1
  omega
theorem natW {n : Nat} (h : n < 18446744073709551616) : W64 (n : Int) := ⟨by omega, by omega⟩
theorem or64 {a b : Int} (ha : W64 a) (hb : W64 b) : IntKind.u64.wrap (((BitVec.ofInt 64 a ||| BitVec.ofInt 64 b).toNat : Nat) : Int) = ((a.toNat ||| b.toNat : Nat) : Int) := by
  rw [BitVec.toNat_or, ofInt_nat ha, ofInt_nat hb]
  refine wrapU (natW ?_)
  have := Nat.or_lt_two_pow (n := 64) (x := a.toNat) (y := b.toNat) (by have := ha.2; omega) (by have := hb.2; omega)
  simpa using this
theorem and64 {a b : Int} (ha : W64 a) (hb : W64 b) : IntKind.u64.wrap (((BitVec.ofInt 64 a &&& BitVec.ofInt 64 b).toNat : Nat) : Int) = ((a.toNat &&& b.toNat : Nat) : Int) := by
  rw [BitVec.toNat_and, ofInt_nat ha, ofInt_nat hb]
  refine wrapU (natW ?_)
  have := Nat.and_lt_two_pow (n := 64) a.toNat (y := b.toNat) (by have := hb.2; omega)
  simpa using this
theorem andNot64 {a b : Int} (ha : W64 a) (hb : W64 b) : IntKind.u64.wrap (((BitVec.ofInt 64 a &&& ~~~ (BitVec.ofInt 64 b)).toNat : Nat) : Int) = ((a.toNat &&& (18446744073709551615 - b.toNat) : Nat) : Int) := by
  rw [BitVec.toNat_and, BitVec.toNat_not, ofInt_nat ha, ofInt_nat hb]
  have e : (2 ^ 64 - 1 - b.toNat : Nat) = 18446744073709551615 - b.toNat := by omega
  rw [e]
  refine wrapU (natW ?_)
  have := Nat.and_lt_two_pow (n := 64) a.toNat (y := 18446744073709551615 - b.toNat) (by omega)
  simpa using this
def orW (a b : Int) : Int := ((a.toNat ||| b.toNat : Nat) : Int)
def andW (a b : Int) : Int := ((a.toNat &&& b.toNat : Nat) : Int)
def notW (a b : Int) : Int := ((a.toNat &&& (18446744073709551615 - b.toNat) : Nat) : Int)
theorem orW_W {a b : Int} (ha : W64 a) (hb : W64 b) : W64 (orW a b) := by
  refine natW ?_
  have := Nat.or_lt_two_pow (n := 64) (x := a.toNat) (y := b.toNat) (by have := ha.2; omega) (by have := hb.2; omega)
  simpa using this
theorem andW_W {a b : Int} (ha : W64 a) (hb : W64 b) : W64 (andW a b) := by
  refine natW ?_
  have := Nat.and_lt_two_pow (n := 64) a.toNat (y := b.toNat) (by have := hb.2; omega)
  simpa using this
theorem notW_W {a b : Int} (ha : W64 a) (hb : W64 b) : W64 (notW a b) := by
  refine natW ?_
  have := Nat.and_lt_two_pow (n := 64) a.toNat (y := 18446744073709551615 - b.toNat) (by omega)
  simpa using this
theorem shr6 (x : Int) : x.fdiv (2 ^ (min (6 : Int).toNat IntKind.i64.bits)) = x / 64 := by
  have e : (2 : Int) ^ (min (6 : Int).toNat IntKind.i64.bits) = 64 := by decide
  rw [e, Int.fdiv_eq_ediv_of_nonneg _ (by decide)]
theorem and63 {x : Int} (h0 : 0 ≤ x) (h1 : x < 256) : IntKind.i64.wrap (((BitVec.ofInt 64 x &&& BitVec.ofInt 64 63).toNat : Nat) : Int) = x % 64 := by
  have e : (BitVec.ofInt 64 x).toNat = x.toNat := by rw [BitVec.toNat_ofInt]; congr 1; omega
  have e2 : (BitVec.ofInt 64 63).toNat = 63 := by decide
  rw [BitVec.toNat_and, e, e2]
  have e3 : x.toNat &&& 63 = x.toNat % 64 := Nat.and_two_pow_sub_one_eq_mod x.toNat 6
  rw [e3]
  simp only [IntKind.wrap, IntKind.signed, IntKind.bits]
  simp
  omega
theorem bit_or {a b k : Int} : bitI ((a.toNat ||| b.toNat : Nat) : Int) k = (bitI a k || bitI b k) := by simp [bitI, Nat.testBit_or]
theorem bit_and {a b k : Int} : bitI ((a.toNat &&& b.toNat : Nat) : Int) k = (bitI a k && bitI b k) := by simp [bitI, Nat.testBit_and]
theorem bit_andNot {a b k : Int} (hb : W64 b) (h0 : 0 ≤ k) (h1 : k < 64) : bitI ((a.toNat &&& (18446744073709551615 - b.toNat) : Nat) : Int) k = (bitI a k && !bitI b k) := by
  have e : (18446744073709551615 - b.toNat : Nat).testBit k.toNat = !b.toNat.testBit k.toNat := by
    have := Nat.testBit_two_pow_sub_succ (n := 64) (x := b.toNat) (by have := hb.2; have := hb.1; omega) k.toNat
    rw [show (2 ^ 64 - (b.toNat + 1) : Nat) = 18446744073709551615 - b.toNat by omega] at this
    rw [this]
    simp
    omega
  simp [bitI, Nat.testBit_and, e]
theorem word_ext {a b : Int} (ha : W64 a) (hb : W64 b) (h : ∀ k : Int, 0 ≤ k → k < 64 → bitI a k = bitI b k) : a = b := by
  have e : a.toNat = b.toNat := by
    refine Nat.eq_of_testBit_eq fun i => ?_
    by_cases hi : i < 64
    · have := h i (by omega) (by omega)
      simpa [bitI] using this
    · have h1 := ha.1
      have h2 := ha.2
      have h3 := hb.1
      have h4 := hb.2
      rw [Nat.testBit_lt_two_pow, Nat.testBit_lt_two_pow]
      · exact Nat.lt_of_lt_of_le (by omega) (Nat.pow_le_pow_right (n := 2) (by omega) (show 64 ≤ i by omega))
      · exact Nat.lt_of_lt_of_le (by omega) (Nat.pow_le_pow_right (n := 2) (by omega) (show 64 ≤ i by omega))
  have h1 := ha.1
  have h3 := hb.1
  omega
theorem bit_zero (k : Int) : bitI 0 k = false := by simp [bitI]
def oneW (k : Int) : Int := ((2 ^ k.toNat : Nat) : Int)
theorem oneW_W {k : Int} (h0 : 0 ≤ k) (h1 : k < 64) : W64 (oneW k) := by
  refine natW ?_
  exact Nat.lt_of_lt_of_le (Nat.pow_lt_pow_right (a := 2) (by omega) (show k.toNat < 64 by omega)) (by decide)
theorem shl_one {k : Int} (h0 : 0 ≤ k) (h1 : k < 64) : IntKind.u64.wrap (1 * 2 ^ (min k.toNat IntKind.u64.bits)) = oneW k := by
  have e : min k.toNat IntKind.u64.bits = k.toNat := by simp only [IntKind.bits]; omega
  rw [e, Int.one_mul]
  have h := oneW_W h0 h1
  have e2 : ((2 : Int) ^ k.toNat) = oneW k := by simp [oneW]
  rw [e2]
  exact wrapU h
theorem bit_one {k j : Int} (h0 : 0 ≤ k) (j0 : 0 ≤ j) : bitI (oneW k) j = decide (k = j) := by
  simp only [bitI, oneW, Int.toNat_natCast, Nat.testBit_two_pow]
  rw [Bool.eq_iff_iff]
  simp
  omega
def lowW (k : Int) : Int := ((2 ^ k.toNat - 1 : Nat) : Int)
theorem lowW_W {k : Int} (h0 : 0 ≤ k) (h1 : k ≤ 64) : W64 (lowW k) := by
  refine natW ?_
  have := Nat.pow_le_pow_right (n := 2) (by omega) (show k.toNat ≤ 64 by omega)
  have : (2 : Nat) ^ 64 = 18446744073709551616 := by decide
  have := Nat.two_pow_pos k.toNat
  omega
theorem shl_low {k : Int} (h0 : 0 ≤ k) (h1 : k ≤ 64) : IntKind.u64.wrap (IntKind.u64.wrap (1 * 2 ^ (min k.toNat IntKind.u64.bits)) - 1) = lowW k := by
  by_cases hk : k = 64
  · subst hk
    decide
  · rw [shl_one h0 (by omega)]
    have e : oneW k - 1 = lowW k := by
      have := Nat.two_pow_pos k.toNat
      simp only [oneW, lowW]
      omega
    rw [e]
    exact wrapU (lowW_W h0 h1)
theorem bit_low {k j : Int} (h0 : 0 ≤ k) (j0 : 0 ≤ j) : bitI (lowW k) j = decide (j < k) := by
  simp only [bitI, lowW, Int.toNat_natCast, Nat.testBit_two_pow_sub_one]
  rw [Bool.eq_iff_iff]
  simp
  omega
theorem bit_test {a k : Int} (ha : W64 a) (h0 : 0 ≤ k) (h1 : k < 64) : ((IntKind.u64.wrap (((BitVec.ofInt 64 (a.fdiv (2 ^ (min k.toNat IntKind.u64.bits))) &&& BitVec.ofInt 64 1).toNat : Nat) : Int) : Int) == 1) = bitI a k := by
  have e : min k.toNat IntKind.u64.bits = k.toNat := by simp only [IntKind.bits]; omega
  obtain ⟨a0, a1⟩ := ha
  have e2 : a.fdiv (2 ^ k.toNat) = ((a.toNat / 2 ^ k.toNat : Nat) : Int) := by
    obtain ⟨n, rfl⟩ := Int.eq_ofNat_of_zero_le a0
    rw [Int.fdiv_eq_ediv_of_nonneg _ (by exact Int.le_of_lt (Int.pow_pos (by omega)))]
    simp
  rw [e, e2]
  have hw : W64 ((a.toNat / 2 ^ k.toNat : Nat) : Int) := natW (Nat.lt_of_le_of_lt (Nat.div_le_self _ _) (by omega))
  rw [and64 hw (b := 1) ⟨by omega, by omega⟩]
  simp only [Int.toNat_natCast, bitI]
  rw [show (1 : Int).toNat = 1 from rfl, Nat.and_one_is_mod, Nat.testBit_eq_decide_div_mod_eq]
  rw [Bool.eq_iff_iff, beq_iff_eq, decide_eq_true_eq]
  omega
end Go.Proofs.YtplpgfcjjnaigaaDoor
namespace Go.Proofs.YtplpgfcjjnaigaaDoor
open Go Go.RowKit
def putD (l : List Bool) (n : Int) (v : Bool) : List Bool := if 0 ≤ n ∧ n < 256 then l.set n.toNat v else l
theorem gB_set' {l : List Bool} {i j : Int} {v : Bool} (h0 : 0 ≤ i) (h1 : i < l.length) (h2 : 0 ≤ j) : gB (l.set i.toNat v) j = if i = j then v else gB l j := by
  simp only [gB, List.getD_eq_getElem?_getD, List.getElem?_set]
  by_cases h : i = j
  · subst h
    rw [if_pos rfl, if_pos rfl, if_pos (by omega)]
    rfl
  · rw [if_neg h, if_neg (by omega)]
theorem gI_set' {l : List Int} {i j v : Int} (h0 : 0 ≤ i) (h1 : i < l.length) (h2 : 0 ≤ j) : gI (l.set i.toNat v) j = if i = j then v else gI l j := by
  simp only [gI, List.getD_eq_getElem?_getD, List.getElem?_set]
  by_cases h : i = j
  · subst h
    rw [if_pos rfl, if_pos rfl, if_pos (by omega)]
    rfl
  · rw [if_neg h, if_neg (by omega)]
def ofZ (z : Int → Bool) : List Bool := (List.range 256).map fun (i : Nat) => z (i : Int)
theorem ofZ_len (z : Int → Bool) : (ofZ z).length = 256 := by simp [ofZ]
theorem gB_ofZ {z : Int → Bool} {j : Int} (h0 : 0 ≤ j) (h1 : j < 256) : gB (ofZ z) j = z j := by
  simp only [gB, ofZ, List.getD_eq_getElem?_getD, List.getElem?_map, List.getElem?_range (show j.toNat < 256 by omega), Option.map_some, Option.getD_some]
  congr 1
  omega
theorem list_ext {l r : List Bool} (hl : l.length = 256) (hr : r.length = 256) (h : ∀ j : Int, 0 ≤ j → j < 256 → gB l j = gB r j) : l = r := by
  refine List.ext_getElem (by rw [hl, hr]) fun i h1 h2 => ?_
  have := h i (by omega) (by omega)
  simp only [gB, Int.toNat_natCast, List.getD_eq_getElem?_getD, List.getElem?_eq_getElem h1, List.getElem?_eq_getElem h2, Option.getD_some] at this
  exact this
theorem put_len {l : List Bool} {n : Int} {v : Bool} (h : l.length = 256) : (putD l n v).length = 256 := by
  unfold putD
  split
  · rw [List.length_set]; exact h
  · exact h
def hasD (l : List Bool) (n : Int) : Bool := decide (0 ≤ n ∧ n < 256) && gB l n
theorem gB_rep (n : Nat) (j : Int) : gB (List.replicate n false) j = false := by
  simp only [gB, List.getD_eq_getElem?_getD, List.getElem?_replicate]
  split <;> rfl
def ofD (l : List Int) : List Bool := l.foldl (fun s n => putD s n true) (List.replicate 256 false)
theorem of_len (l : List Int) : (ofD l).length = 256 := by
  unfold ofD
  have : ∀ (l : List Int) (s : List Bool), s.length = 256 → (l.foldl (fun s n => putD s n true) s).length = 256 := by
    intro l
    induction l with
    | nil => intro s h; exact h
    | cons n l ih => intro s h; exact ih _ (put_len h)
  exact this l _ List.length_replicate
def lsD (l : List Bool) : Nat → List Int
  | 0 => []
  | n + 1 => if gB l (n : Int) = true then lsD l n ++ [(n : Int)] else lsD l n
theorem ls_yes {l : List Bool} {xs : List Int} {k : Int} (h : xs = lsD l k.toNat) (h0 : 0 ≤ k) (hb : gB l k = true) : xs ++ [k] = lsD l (k + 1).toNat := by
  rw [show (k + 1).toNat = k.toNat + 1 by omega, lsD, show ((k.toNat : Nat) : Int) = k by omega, if_pos hb, h]
theorem ls_len (l : List Bool) : ∀ n, (lsD l n).length ≤ n
  | 0 => Nat.le_refl _
  | n + 1 => by
    have := ls_len l n
    rw [lsD]
    split
    · rw [List.length_append]; simp; omega
    · omega
def leastD (l : List Bool) : Int := match (List.range 256).find? (fun i => gB l ((i : Nat) : Int)) with | some i => (i : Int) | none => -1
theorem least_at {l : List Bool} {k : Int} (h0 : 0 ≤ k) (h1 : k < 256) (h : ∀ j : Int, 0 ≤ j → j < k → gB l j = false) (hk : gB l k = true) : k = leastD l := by
  have e : (List.range 256).find? (fun i => gB l ((i : Nat) : Int)) = some k.toNat := by
    rw [List.find?_range_eq_some]
    refine ⟨by rw [show ((k.toNat : Nat) : Int) = k by omega]; exact hk, List.mem_range.2 (by omega), fun j hj => by
      have := h j (by omega) (by omega)
      simp [this]⟩
  rw [leastD, e]
  simp only
  omega
theorem least_no {l : List Bool} {k : Int} (hk : 256 ≤ k) (h : ∀ j : Int, 0 ≤ j → j < k → gB l j = false) : -1 = leastD l := by
  have e : (List.range 256).find? (fun i => gB l ((i : Nat) : Int)) = none := by
    rw [List.find?_eq_none]
    intro x hx
    have hx := List.mem_range.1 hx
    rw [h x (by omega) (by omega)]
    decide
  rw [leastD, e]
def inD (l r : List Bool) : Bool := (List.range 256).all fun i => !gB l ((i : Nat) : Int) || gB r ((i : Nat) : Int)
theorem in_good {l r : List Bool} {k : Int} (hk : 256 ≤ k) (h : ∀ j : Int, 0 ≤ j → j < k → gB l j = true → gB r j = true) : true = inD l r := by
  refine Eq.symm ?_
  rw [inD, List.all_eq_true]
  intro x hx
  have hx := List.mem_range.1 hx
  cases hl : gB l (x : Int)
  · rfl
  · rw [h x (by omega) (by omega) hl]
    rfl
def OkW (s : List Int) : Prop := s.length = 4 ∧ ∀ j : Int, W64 (gI s j)
theorem okLen {s : List Int} (h : OkW s) : s.length = 4 := h.1
def fromW (s : List Int) : List Bool := ofZ (fun j => bitI (gI s (j / 64)) (j % 64))
def MixW (l xs : List Int) (z : Int → Int) (k : Int) : Prop := xs.length = 4 ∧ ∀ j : Int, 0 ≤ j → j < 4 → gI xs j = if j < k then z j else gI l j
theorem mixW_0 {l : List Int} {z : Int → Int} (h : l.length = 4) : MixW l l z 0 := ⟨h, fun j a b => by rw [if_neg (by omega)]⟩
theorem mixW_next {l xs : List Int} {z : Int → Int} {k v : Int} (h : MixW l xs z k) (h0 : 0 ≤ k) (h1 : k < 4) (hv : v = z k) : MixW l (xs.set k.toNat v) z (k + 1) := by
  have hl := h.1
  refine ⟨by rw [List.length_set]; exact hl, fun j a b => ?_⟩
  rw [gI_set' h0 (by omega) a]
  by_cases e : k = j
  · subst e
    rw [if_pos rfl, if_pos (by omega), hv]
  · rw [if_neg e, h.2 j a b]
    by_cases e2 : j < k
    · rw [if_pos e2, if_pos (by omega)]
    · rw [if_neg e2, if_neg (by omega)]
theorem mixW_at {l xs : List Int} {z : Int → Int} {k : Int} (h : MixW l xs z k) (h0 : 0 ≤ k) (h1 : k < 4) : gI xs k = gI l k := by
  rw [h.2 k h0 h1, if_neg (by omega)]
def ofZW (z : Int → Int) : List Int := [z 0, z 1, z 2, z 3]
theorem gI_ofZW {z : Int → Int} {j : Int} (h0 : 0 ≤ j) (h1 : j < 4) : gI (ofZW z) j = z j := by
  obtain rfl | rfl | rfl | rfl : j = 0 ∨ j = 1 ∨ j = 2 ∨ j = 3 := by omega
  all_goals rfl
theorem words_ext {l r : List Int} (hl : l.length = 4) (hr : r.length = 4) (h : ∀ j : Int, 0 ≤ j → j < 4 → gI l j = gI r j) : l = r := by
  refine List.ext_getElem (by rw [hl, hr]) fun i h1 h2 => ?_
  have := h i (by omega) (by omega)
  simp only [gI, Int.toNat_natCast, List.getD_eq_getElem?_getD, List.getElem?_eq_getElem h1, List.getElem?_eq_getElem h2, Option.getD_some] at this
  exact this
theorem mixW_end {l xs : List Int} {z : Int → Int} {k : Int} (h : MixW l xs z k) (hk : 4 ≤ k) : xs = ofZW z :=
  words_ext h.1 rfl fun j a b => by rw [h.2 j a b, if_pos (by omega), gI_ofZW a b]
theorem mixW_W {l xs : List Int} {z : Int → Int} {k : Int} (h : MixW l xs z k) (h0 : 0 ≤ k) (h1 : k < 4) (hl : OkW l) : W64 (gI xs k) := by
  rw [mixW_at h h0 h1]
  exact hl.2 k
def withW (s : List Int) (n : Int) : List Int := if 0 ≤ n ∧ n < 256 then s.set (n / 64).toNat (orW (gI s (n / 64)) (oneW (n % 64))) else s
def lessW (s : List Int) (n : Int) : List Int := if 0 ≤ n ∧ n < 256 then s.set (n / 64).toNat (notW (gI s (n / 64)) (oneW (n % 64))) else s
def hasW (s : List Int) (n : Int) : Bool := decide (0 ≤ n ∧ n < 256) && bitI (gI s (n / 64)) (n % 64)
theorem hasW_yes {s : List Int} {n : Int} (h : OkW s) (h0 : 0 ≤ n) (h1 : n < 256) : ((IntKind.u64.wrap (((BitVec.ofInt 64 ((gI s (n / 64)).fdiv (2 ^ (min (n % 64).toNat IntKind.u64.bits))) &&& BitVec.ofInt 64 1).toNat : Nat) : Int) : Int) == 1) = hasW s n := by
  rw [bit_test (h.2 _) (by omega) (by omega), hasW, decide_eq_true ⟨h0, h1⟩, Bool.true_and]
theorem hasW_no {s : List Int} {n : Int} (h : ¬ (0 ≤ n ∧ n < 256)) : false = hasW s n := by rw [hasW, decide_eq_false h, Bool.false_and]
theorem gI_set_W {s : List Int} {i v : Int} (h : OkW s) (hv : W64 v) : OkW (s.set i.toNat v) := ⟨by rw [List.length_set]; exact h.1, fun j => by
  simp only [gI, List.getD_eq_getElem?_getD, List.getElem?_set]
  split
  · split
    · exact hv
    · exact ⟨by show (0 : Int) ≤ 0; omega, by show (0 : Int) < _; omega⟩
  · exact h.2 j⟩
theorem okW_with {s : List Int} {n : Int} (h : OkW s) : OkW (withW s n) := by
  unfold withW
  split
  · exact gI_set_W h (orW_W (h.2 _) (oneW_W (by omega) (by omega)))
  · exact h
theorem okW_less {s : List Int} {n : Int} (h : OkW s) : OkW (lessW s n) := by
  unfold lessW
  split
  · exact gI_set_W h (notW_W (h.2 _) (oneW_W (by omega) (by omega)))
  · exact h
theorem okW_lit {a b c d : Int} (ha : W64 a) (hb : W64 b) (hc : W64 c) (hd : W64 d) : OkW [a, b, c, d] := ⟨rfl, fun j => by
  by_cases h : 0 ≤ j ∧ j < 4
  · obtain rfl | rfl | rfl | rfl : j = 0 ∨ j = 1 ∨ j = 2 ∨ j = 3 := by omega
    · exact ha
    · exact hb
    · exact hc
    · exact hd
  · by_cases h0 : 0 ≤ j
    · have e : gI [a, b, c, d] j = 0 := by
        simp only [gI, List.getD_eq_getElem?_getD]
        rw [List.getElem?_eq_none (show ([a, b, c, d] : List Int).length ≤ j.toNat by show 4 ≤ j.toNat; omega)]
        rfl
      rw [e]
      exact ⟨by omega, by omega⟩
    · have e : gI [a, b, c, d] j = a := by
        simp only [gI]
        rw [show j.toNat = 0 by omega]
        rfl
      rw [e]
      exact ha⟩
theorem okW_of4 {z : Int → Int} (h : ∀ j : Int, 0 ≤ j → j < 4 → W64 (z j)) : OkW (ofZW z) := okW_lit (h 0 (by omega) (by omega)) (h 1 (by omega) (by omega)) (h 2 (by omega) (by omega)) (h 3 (by omega) (by omega))
theorem okW_or {s t : List Int} (h : OkW s) (h2 : OkW t) : OkW (ofZW (fun j => orW (gI s j) (gI t j))) := okW_of4 fun j _ _ => orW_W (h.2 j) (h2.2 j)
theorem okW_and {s t : List Int} (h : OkW s) (h2 : OkW t) : OkW (ofZW (fun j => andW (gI s j) (gI t j))) := okW_of4 fun j _ _ => andW_W (h.2 j) (h2.2 j)
theorem okW_minus {s t : List Int} (h : OkW s) (h2 : OkW t) : OkW (ofZW (fun j => notW (gI s j) (gI t j))) := okW_of4 fun j _ _ => notW_W (h.2 j) (h2.2 j)
theorem okW_0 : OkW (List.replicate 4 (0 : Int)) := okW_lit ⟨by omega, by omega⟩ ⟨by omega, by omega⟩ ⟨by omega, by omega⟩ ⟨by omega, by omega⟩
theorem okW_00 : OkW ([0, 0, 0, 0] : List Int) := okW_0
def ofW (l : List Int) : List Int := l.foldl withW (List.replicate 4 0)
theorem ofW_ok (l : List Int) : OkW (ofW l) := by
  unfold ofW
  have : ∀ (l : List Int) (s : List Int), OkW s → OkW (l.foldl withW s) := by
    intro l
    induction l with
    | nil => intro s h; exact h
    | cons n l ih => intro s h; exact ih _ (okW_with h)
  exact this l _ okW_0
theorem ofW_next {l : List Int} {xs : List Int} {k : Int} (h : xs = ofW (l.take k.toNat)) (h0 : 0 ≤ k) (h1 : k < l.length) : withW xs (gI l k) = ofW (l.take (k + 1).toNat) := by
  subst h
  rw [show (k + 1).toNat = k.toNat + 1 by omega, List.take_succ_eq_append_getElem (by omega), ofW, ofW, List.foldl_append]
  simp only [List.foldl_cons, List.foldl_nil, gI, List.getD_eq_getElem?_getD, List.getElem?_eq_getElem (show k.toNat < l.length by omega), Option.getD_some]
def inW (s t : List Int) : Bool := decide (ofZW (fun j => notW (gI s j) (gI t j)) = ([0, 0, 0, 0] : List Int))
theorem map4 {s : List Int} (h : s.length = 4) : (s.map wV).toArray = ([wV (gI s 0), wV (gI s 1), wV (gI s 2), wV (gI s 3)] : List Value).toArray := by
  match s, h with
  | [a, b, c, d], _ => rfl
theorem w4_eq {s t : List Int} (h : s.length = 4) (h2 : t.length = 4) : (((gI s 0 : Int) == gI t 0) && (((gI s 1 : Int) == gI t 1) && (((gI s 2 : Int) == gI t 2) && (((gI s 3 : Int) == gI t 3) && true)))) = decide (s = t) := by
  match s, t, h, h2 with
  | [a, b, c, d], [a', b', c', d'], _, _ =>
    show ((a == a') && ((b == b') && ((c == c') && ((d == d') && true)))) = _
    rw [Bool.eq_iff_iff]
    simp
def wP (l : List Bool) (j : Int) : Nat → Nat
  | 0 => 0
  | n + 1 => wP l j n + (if gB l (64 * j + n) = true then 2 ^ n else 0)
theorem wP_lt (l : List Bool) (j : Int) : ∀ n, wP l j n < 2 ^ n
  | 0 => (Nat.zero_lt_one : 0 < 1)
  | n + 1 => by
    have := wP_lt l j n
    rw [wP, Nat.pow_succ]
    split <;> omega
def wordsD (l : List Bool) : List Int := ofZW (fun j => ((wP l j 64 : Nat) : Int))
theorem wordsD_W (l : List Bool) : OkW (wordsD l) := ⟨rfl, fun j => by
  have h64 : (2 : Nat) ^ 64 = 18446744073709551616 := by decide
  by_cases h : 0 ≤ j ∧ j < 4
  · rw [wordsD, gI_ofZW h.1 h.2]
    exact natW (by have := wP_lt l j 64; omega)
  · have e : gI (wordsD l) j = gI (wordsD l) 0 ∨ gI (wordsD l) j = 0 := by
      by_cases h0 : 0 ≤ j
      · right
        simp only [gI, List.getD_eq_getElem?_getD]
        rw [List.getElem?_eq_none (show (wordsD l).length ≤ j.toNat by show 4 ≤ j.toNat; omega)]
        rfl
      · left
        simp only [gI]
        rw [show j.toNat = (0 : Int).toNat by omega]
    rcases e with e | e
    · rw [e, wordsD, gI_ofZW (by omega) (by omega)]
      exact natW (by have := wP_lt l 0 64; omega)
    · rw [e]
      exact ⟨by omega, by omega⟩⟩
theorem ret_map {α : Type} {f : α → Value} {l r : List α} (h : l = r) : Ending.returned (.agg (l.map f).toArray) = .returned (.agg (r.map f).toArray) := by rw [h]
end Go.Proofs.YtplpgfcjjnaigaaDoor
namespace Go.Proofs.YtplpgfcjjnaigaaDoor
open Go Go.RowKit
theorem from_len (s : List Int) : (fromW s).length = 256 := ofZ_len _
theorem gB_from {s : List Int} {j : Int} (h0 : 0 ≤ j) (h1 : j < 256) : gB (fromW s) j = bitI (gI s (j / 64)) (j % 64) := gB_ofZ h0 h1
theorem bits_ext {s t : List Int} (hs : OkW s) (ht : OkW t) (h : ∀ j : Int, 0 ≤ j → j < 256 → bitI (gI s (j / 64)) (j % 64) = bitI (gI t (j / 64)) (j % 64)) : s = t :=
  words_ext hs.1 ht.1 fun q a b => word_ext (hs.2 q) (ht.2 q) fun r c d => by
    have := h (64 * q + r) (by omega) (by omega)
    rwa [show (64 * q + r) / 64 = q by omega, show (64 * q + r) % 64 = r by omega] at this
theorem from_inj {s t : List Int} (hs : OkW s) (ht : OkW t) (h : fromW s = fromW t) : s = t :=
  bits_ext hs ht fun j a b => by rw [← gB_from a b, ← gB_from a b, h]
theorem gB_put {l : List Bool} {n j : Int} {v : Bool} (hl : l.length = 256) (h0 : 0 ≤ j) (h1 : j < 256) : gB (putD l n v) j = if n = j then v else gB l j := by
  unfold putD
  by_cases h : 0 ≤ n ∧ n < 256
  · rw [if_pos h, gB_set' h.1 (by omega) h0]
  · rw [if_neg h, if_neg (by omega)]
theorem bit_set {s : List Int} {n v : Int} {j : Int} (hs : OkW s) (h0 : 0 ≤ n) (h1 : n < 256) (j0 : 0 ≤ j) (j1 : j < 256) : bitI (gI (s.set (n / 64).toNat v) (j / 64)) (j % 64) = if n / 64 = j / 64 then bitI v (j % 64) else bitI (gI s (j / 64)) (j % 64) := by
  have := hs.1
  rw [gI_set' (by omega) (by omega) (by omega)]
  split <;> rfl
theorem from_with {s : List Int} {n : Int} (hs : OkW s) : fromW (withW s n) = putD (fromW s) n true :=
  list_ext (from_len _) (put_len (from_len _)) fun j a b => by
    rw [gB_from a b, gB_put (from_len _) a b]
    unfold withW
    by_cases h : 0 ≤ n ∧ n < 256
    · rw [if_pos h, bit_set hs h.1 h.2 a b, gB_from a b]
      by_cases e : n / 64 = j / 64
      · rw [if_pos e, orW, bit_or, bit_one (by omega) (by omega), e]
        by_cases e2 : n = j
        · rw [if_pos e2, decide_eq_true (by omega), Bool.or_true]
        · rw [if_neg e2, decide_eq_false (by omega), Bool.or_false]
      · rw [if_neg e, if_neg (by omega)]
    · rw [if_neg h, if_neg (by omega), gB_from a b]
theorem from_or {s t : List Int} : fromW (ofZW (fun j => orW (gI s j) (gI t j))) = ofZ (fun j => gB (fromW s) j || gB (fromW t) j) :=
  list_ext (from_len _) (ofZ_len _) fun j a b => by
    rw [gB_from a b, gB_ofZ a b, gI_ofZW (by omega) (by omega), orW, bit_or, gB_from a b, gB_from a b]
theorem from_and {s t : List Int} : fromW (ofZW (fun j => andW (gI s j) (gI t j))) = ofZ (fun j => gB (fromW s) j && gB (fromW t) j) :=
  list_ext (from_len _) (ofZ_len _) fun j a b => by
    rw [gB_from a b, gB_ofZ a b, gI_ofZW (by omega) (by omega), andW, bit_and, gB_from a b, gB_from a b]
theorem from_minus {s t : List Int} (ht : OkW t) : fromW (ofZW (fun j => notW (gI s j) (gI t j))) = ofZ (fun j => gB (fromW s) j && !gB (fromW t) j) :=
  list_ext (from_len _) (ofZ_len _) fun j a b => by
    rw [gB_from a b, gB_ofZ a b, gI_ofZW (by omega) (by omega), notW, bit_andNot (ht.2 _) (by omega) (by omega), gB_from a b, gB_from a b]
theorem hasW_from (s : List Int) (n : Int) : hasW s n = hasD (fromW s) n := by
  unfold hasW hasD
  by_cases h : 0 ≤ n ∧ n < 256
  · rw [decide_eq_true h, gB_from h.1 h.2]
  · rw [decide_eq_false h, Bool.false_and, Bool.false_and]
theorem from_0 : fromW (List.replicate 4 (0 : Int)) = List.replicate 256 false :=
  list_ext (from_len _) List.length_replicate fun j a b => by
    rw [gB_from a b, gB_rep]
    have e : gI (List.replicate 4 (0 : Int)) (j / 64) = 0 := by
      obtain h | h | h | h : j / 64 = 0 ∨ j / 64 = 1 ∨ j / 64 = 2 ∨ j / 64 = 3 := by omega
      all_goals rw [h]; rfl
    rw [e, bit_zero]
theorem from_of (l : List Int) : fromW (ofW l) = ofD l := by
  unfold ofW ofD
  have : ∀ (l : List Int) (s : List Int), OkW s → fromW (l.foldl withW s) = l.foldl (fun s n => putD s n true) (fromW s) := by
    intro l
    induction l with
    | nil => intro s h; rfl
    | cons n l ih => intro s h; rw [List.foldl_cons, List.foldl_cons, ih _ (okW_with h), from_with h]
  rw [this l _ okW_0, from_0]
theorem inW_from {s t : List Int} (hs : OkW s) (ht : OkW t) : inW s t = inD (fromW s) (fromW t) := by
  unfold inW
  by_cases h : ofZW (fun j => notW (gI s j) (gI t j)) = ([0, 0, 0, 0] : List Int)
  · rw [decide_eq_true h]
    refine in_good (k := 256) (by omega) fun j a b hj => ?_
    have e := from_minus (s := s) ht
    rw [h] at e
    have e2 : gB _ j = gB _ j := congrArg (fun l => gB l j) e
    rw [gB_ofZ a b, hj, Bool.true_and, show ([0, 0, 0, 0] : List Int) = List.replicate 4 0 from rfl, from_0, gB_rep] at e2
    simpa using e2.symm
  · rw [decide_eq_false h]
    refine Eq.symm ?_
    rw [Bool.eq_false_iff]
    intro hin
    refine h (from_inj (okW_minus hs ht) okW_0 ?_)
    rw [from_minus ht, show fromW ([0, 0, 0, 0] : List Int) = fromW (List.replicate 4 (0 : Int)) from rfl, from_0]
    refine list_ext (ofZ_len _) List.length_replicate fun j a b => ?_
    rw [gB_ofZ a b, gB_rep]
    rw [inD, List.all_eq_true] at hin
    have := hin j.toNat (List.mem_range.2 (by omega))
    rw [show ((j.toNat : Nat) : Int) = j by omega] at this
    cases h1 : gB (fromW s) j <;> cases h2 : gB (fromW t) j <;> simp_all
end Go.Proofs.YtplpgfcjjnaigaaDoor
namespace Go.Proofs.YtplpgfcjjnaigaaDoor
open Go Go.RowKit
structure AttC (g : GameL) (I : List Bool) (p : Int) (T C : List Bool) : Prop where
  base : ∀ j : Int, 0 ≤ j → j < 256 → gB T j = true → gB I j = true → gB C j = true
  own : ∀ i : Int, 0 ≤ i → i < (g.ow.length : Int) → gB I i = true → gI g.ow i = p → ∀ x ∈ gL g.mv i, gB I x = true → gB C x = true → gB C i = true
  oth : ∀ i : Int, 0 ≤ i → i < (g.ow.length : Int) → gB I i = true → gI g.ow i ≠ p → (∃ x ∈ gL g.mv i, gB I x = true) → (∀ x ∈ gL g.mv i, gB I x = true → gB C x = true) → gB C i = true
structure AttrT (g : GameL) (I : List Bool) (p : Int) (T S : List Bool) : Prop where
  cl : AttC g I p T S
  sub : ∀ j : Int, 0 ≤ j → j < 256 → gB S j = true → gB I j = true
  least : ∀ C, AttC g I p T C → ∀ j : Int, 0 ≤ j → j < 256 → gB S j = true → gB C j = true
def cM (l : List Int) (f : Int → Bool) : Int := ((l.filter f).length : Int)
theorem cM_ge (l : List Int) (f : Int → Bool) : 0 ≤ cM l f := Int.natCast_nonneg _
theorem cM_congr {l : List Int} {f f' : Int → Bool} (h : ∀ x ∈ l, f x = f' x) : cM l f = cM l f' := by
  unfold cM
  rw [List.filter_congr h]
theorem cM_pos {l : List Int} {f : Int → Bool} (h : 0 < cM l f) : ∃ x ∈ l, f x = true := by
  unfold cM at h
  obtain ⟨x, hx⟩ := List.exists_mem_of_length_pos (l := l.filter f) (by omega)
  exact ⟨x, (List.mem_filter.1 hx).1, (List.mem_filter.1 hx).2⟩
theorem cM_zero {l : List Int} {f : Int → Bool} (h : cM l f ≤ 0) : ∀ x ∈ l, f x = false := by
  intro x hx
  by_cases hf : f x = true
  · have hm : x ∈ l.filter f := List.mem_filter.2 ⟨hx, hf⟩
    have := List.length_pos_of_mem hm
    unfold cM at h
    omega
  · simpa using hf
theorem gI_eq {l : List Int} {k : Int} (h0 : 0 ≤ k) (h1 : k < (l.length : Int)) : gI l k = l[k.toNat]'(by omega) := by
  simp only [gI, List.getD_eq_getElem?_getD, List.getElem?_eq_getElem (show k.toNat < l.length by omega), Option.getD_some]
theorem take_cM {l : List Int} {f : Int → Bool} {q : Int} (h0 : 0 ≤ q) (h1 : q < (l.length : Int)) : cM (l.take (q + 1).toNat) f = cM (l.take q.toNat) f + if f (gI l q) = true then 1 else 0 := by
  rw [show (q + 1).toNat = q.toNat + 1 by omega, List.take_succ_eq_append_getElem (show q.toNat < l.length by omega), ← gI_eq h0 h1]
  unfold cM
  rw [List.filter_append]
  cases hf : f (gI l q) <;> simp [hf]
theorem row_rng {g : GameL} (hR : isR g = true) {i x : Int} (a : 0 ≤ i) (b : i < (g.ow.length : Int)) (hx : x ∈ gL g.mv i) : 0 ≤ x ∧ x < (g.ow.length : Int) := by
  have hG := isR_ok hR
  obtain ⟨k, hk, rfl⟩ := List.mem_iff_getElem.1 hx
  have := hG.mv i a b (k : Int) (by omega) (by omega)
  rwa [gI_eq (by omega) (by omega)] at this
def cT (l : List Bool) : Nat → Int
  | 0 => 0
  | n + 1 => cT l n + (if gB l (n : Int) = true then 1 else 0)
def stpB (g : GameL) (I : List Bool) (p : Int) (A : List Bool) (i : Int) : Bool :=
  if gI g.ow i = p then decide (0 < cM (gL g.mv i) (fun x => gB I x && gB A x)) else decide (0 < cM (gL g.mv i) (gB I)) && decide (cM (gL g.mv i) (fun x => gB I x && gB A x) = cM (gL g.mv i) (gB I))
structure AndT (g : GameL) (I T xs : List Bool) (k : Int) : Prop where
  len : xs.length = g.ow.length
  at_ : ∀ j : Int, 0 ≤ j → j < (g.ow.length : Int) → gB xs j = if j < k then (gB I j && gB T j) else false
structure RefT (g : GameL) (I : List Bool) (p : Int) (T A : List Bool) : Prop where
  len : A.length = g.ow.length
  base : ∀ j : Int, 0 ≤ j → j < 256 → gB T j = true → gB I j = true → gB A j = true
  sub : ∀ j : Int, 0 ≤ j → j < 256 → gB A j = true → gB I j = true
  snd : ∀ C, AttC g I p T C → ∀ j : Int, 0 ≤ j → j < 256 → gB A j = true → gB C j = true
structure RefK (g : GameL) (I : List Bool) (p : Int) (A nx : List Bool) (m : Bool) (k : Int) : Prop where
  len : nx.length = g.ow.length
  at_ : ∀ j : Int, 0 ≤ j → j < (g.ow.length : Int) → gB nx j = (gB A j || (decide (j < k) && (gB I j && stpB g I p A j)))
  no : m = false → ∀ j : Int, 0 ≤ j → j < k → gB I j = true → gB A j = false → stpB g I p A j = false
  yes : m = true → ∃ j : Int, 0 ≤ j ∧ j < k ∧ gB I j = true ∧ gB A j = false ∧ stpB g I p A j = true
section
variable {g : GameL} {I T A nx : List Bool} {p k : Int} {m v : Bool}
end
end Go.Proofs.YtplpgfcjjnaigaaDoor
namespace Go.Proofs.YtplpgfcjjnaigaaDoor
open Go Go.RowKit
theorem and_byte (z a m : Nat) (ha : a < 256) : z &&& (a + 256 * m) = ((z % 256) &&& a) + 256 * ((z / 256) &&& m) := by
  have hz : z = 2 ^ 8 * (z / 256) + z % 256 := by omega
  have hlt : (z % 256) &&& a < 2 ^ 8 := Nat.and_lt_two_pow _ (by omega)
  refine Nat.eq_of_testBit_eq fun i => ?_
  rw [Nat.testBit_and]
  conv => lhs; rw [hz, show a + 256 * m = 2 ^ 8 * m + a by omega]
  rw [show ((z % 256) &&& a) + 256 * ((z / 256) &&& m) = 2 ^ 8 * ((z / 256) &&& m) + ((z % 256) &&& a) by omega]
  rw [Nat.testBit_two_pow_mul_add _ (by omega), Nat.testBit_two_pow_mul_add _ (by omega), Nat.testBit_two_pow_mul_add _ hlt]
  split <;> simp [Nat.testBit_and]
def mkB (a : Nat) : Nat → Nat
  | 0 => 0
  | n + 1 => a + 256 * mkB a n
def fmB (f : Nat → Nat) : Nat → Nat → Nat
  | 0, _ => 0
  | n + 1, x => f (x % 256) + 256 * fmB f n (x / 256)
theorem d1 : ∀ r, r < 256 → ∀ b, b < 2 → (r / 2 + 128 * b) &&& 85 = (r / 2) &&& 85 := by decide +kernel
theorem d2 : ∀ r, r < 256 → ∀ b, b < 4 → (r / 4 + 64 * b) &&& 51 = (r / 4) &&& 51 := by decide +kernel
theorem d3 : ∀ r, r < 256 → ∀ b, b < 16 → r / 16 ≤ 4 → r % 16 ≤ 4 → ((r / 16 + 16 * b + r) % 256) &&& 15 = r / 16 + r % 16 := by decide +kernel
def f1 (r : Nat) : Nat := ((r / 2) &&& 85) + (r &&& 85)
def f2 (r : Nat) : Nat := ((r / 4) &&& 51) + (r &&& 51)
def f3 (r : Nat) : Nat := r / 16 + r % 16
theorem step1 : ∀ n x, ((x / 2) &&& mkB 85 n) + (x &&& mkB 85 n) = fmB f1 n x
  | 0, x => by simp [mkB, fmB]
  | n + 1, x => by
    have ih := step1 n (x / 256)
    have h := d1 (x % 256) (by omega) (x / 256 % 2) (by omega)
    rw [mkB, fmB, and_byte _ _ _ (by omega), and_byte _ _ _ (by omega), ← ih, f1, ← h]
    rw [show x / 2 % 256 = x % 256 / 2 + 128 * (x / 256 % 2) by omega, show x / 2 / 256 = x / 256 / 2 by omega]
    omega
theorem step2 : ∀ n x, ((x / 4) &&& mkB 51 n) + (x &&& mkB 51 n) = fmB f2 n x
  | 0, x => by simp [mkB, fmB]
  | n + 1, x => by
    have ih := step2 n (x / 256)
    have h := d2 (x % 256) (by omega) (x / 256 % 4) (by omega)
    rw [mkB, fmB, and_byte _ _ _ (by omega), and_byte _ _ _ (by omega), ← ih, f2, ← h]
    rw [show x / 4 % 256 = x % 256 / 4 + 64 * (x / 256 % 4) by omega, show x / 4 / 256 = x / 256 / 4 by omega]
    omega
def okB : Nat → Nat → Prop
  | 0, _ => True
  | n + 1, x => x % 256 / 16 ≤ 4 ∧ x % 256 % 16 ≤ 4 ∧ okB n (x / 256)
theorem step3 : ∀ n x, okB n x → (x / 16 + x) &&& mkB 15 n = fmB f3 n x
  | 0, x, _ => by simp [mkB, fmB]
  | n + 1, x, h => by
    have h3 := d3 (x % 256) (by omega) (x / 256 % 16) (by omega) h.1 h.2.1
    rw [mkB, fmB, and_byte _ _ _ (by omega), f3, ← h3]
    rw [show (x / 16 + x) % 256 = (x % 256 / 16 + 16 * (x / 256 % 16) + x % 256) % 256 by omega]
    cases n with
    | zero => simp [mkB, fmB]
    | succ n =>
      have ih := step3 (n + 1) (x / 256) h.2.2
      have hy := h.2.2.2.1
      have k1 := h.1
      have k2 := h.2.1
      have hz : (x / 16 + x) / 256 = x / 256 / 16 + x / 256 := by
        have e1 : x / 256 % 16 ≤ 4 := by
          have : x / 256 % 256 % 16 = x / 256 % 16 := Nat.mod_mod_of_dvd _ (by decide)
          omega
        clear ih h3 h
        generalize hy2 : x / 256 = y at *
        generalize hr : x % 256 = r at *
        have hx : x = r + 256 * y := by omega
        subst hx
        clear hy2 hr hy
        have e2 : (r + 256 * y) / 16 = r / 16 + 16 * y := by omega
        rw [e2]
        omega
      rw [← ih, hz]
theorem fm_fm (f g : Nat → Nat) (hf : ∀ r, r < 256 → f r < 256) : ∀ n x, fmB g n (fmB f n x) = fmB (fun r => g (f r)) n x
  | 0, x => rfl
  | n + 1, x => by
    have h := hf (x % 256) (by omega)
    rw [fmB, fmB, fmB, show (f (x % 256) + 256 * fmB f n (x / 256)) % 256 = f (x % 256) by omega, show (f (x % 256) + 256 * fmB f n (x / 256)) / 256 = fmB f n (x / 256) by omega, fm_fm f g hf n]
theorem ok_fm (f : Nat → Nat) (hf : ∀ r, r < 256 → f r < 256 ∧ f r / 16 ≤ 4 ∧ f r % 16 ≤ 4) : ∀ n x, okB n (fmB f n x)
  | 0, x => trivial
  | n + 1, x => by
    have h := hf (x % 256) (by omega)
    rw [fmB, okB, show (f (x % 256) + 256 * fmB f n (x / 256)) % 256 = f (x % 256) by omega, show (f (x % 256) + 256 * fmB f n (x / 256)) / 256 = fmB f n (x / 256) by omega]
    exact ⟨h.2.1, h.2.2, ok_fm f hf n _⟩
def popN (x : Nat) : Nat → Nat
  | 0 => 0
  | n + 1 => popN x n + (if x.testBit n = true then 1 else 0)
def pop8 (r : Nat) : Nat := f3 (f2 (f1 r))
theorem d4 : ∀ r, r < 256 → f1 r < 256 ∧ f2 (f1 r) < 256 ∧ f2 (f1 r) / 16 ≤ 4 ∧ f2 (f1 r) % 16 ≤ 4 ∧ pop8 r ≤ 8 ∧ pop8 r = popN r 8 := by decide +kernel
theorem pop_add (x n : Nat) : ∀ m, popN x (n + m) = popN x n + popN (x / 2 ^ n) m
  | 0 => rfl
  | m + 1 => by
    rw [← Nat.add_assoc, popN, popN, pop_add x n m, Nat.testBit_div_two_pow, Nat.add_comm m n, Nat.add_assoc]
theorem pop_mod (x : Nat) : popN x 8 = popN (x % 256) 8 := by
  have : ∀ n, n ≤ 8 → popN x n = popN (x % 256) n := by
    intro n
    induction n with
    | zero => intro _; rfl
    | succ n ih =>
      intro h
      rw [popN, popN, ih (by omega), show x % 256 = x % 2 ^ 8 from rfl, Nat.testBit_mod_two_pow, decide_eq_true (by omega), Bool.true_and]
  exact this 8 (Nat.le_refl _)
theorem ones_sum {x : Nat} (h : x < 18446744073709551616) : let x3 := fmB pop8 8 x
    let x4 := (x3 + x3 / 256) % 18446744073709551616
    let x5 := (x4 + x4 / 65536) % 18446744073709551616
    ((x5 + x5 / 4294967296) % 18446744073709551616) % 128 = popN x 64 := by
  intro x3 x4 x5
  have e : popN x 64 = pop8 (x % 256) + (pop8 (x / 256 % 256) + (pop8 (x / 65536 % 256) + (pop8 (x / 16777216 % 256) + (pop8 (x / 4294967296 % 256) + (pop8 (x / 1099511627776 % 256) + (pop8 (x / 281474976710656 % 256) + pop8 (x / 72057594037927936 % 256))))))) := by
    have hb : ∀ y, pop8 (y % 256) = popN y 8 := fun y => by rw [(d4 (y % 256) (by omega)).2.2.2.2.2, ← pop_mod]
    rw [hb, hb, hb, hb, hb, hb, hb, hb]
    rw [show (64 : Nat) = 8 + 56 from rfl, pop_add, show (56 : Nat) = 8 + 48 from rfl, pop_add, show (48 : Nat) = 8 + 40 from rfl, pop_add, show (40 : Nat) = 8 + 32 from rfl, pop_add, show (32 : Nat) = 8 + 24 from rfl, pop_add, show (24 : Nat) = 8 + 16 from rfl, pop_add, show (16 : Nat) = 8 + 8 from rfl, pop_add]
    simp only [Nat.div_div_eq_div_mul]
  have hx3 : x3 = pop8 (x % 256) + 256 * (pop8 (x / 256 % 256) + 256 * (pop8 (x / 65536 % 256) + 256 * (pop8 (x / 16777216 % 256) + 256 * (pop8 (x / 4294967296 % 256) + 256 * (pop8 (x / 1099511627776 % 256) + 256 * (pop8 (x / 281474976710656 % 256) + 256 * pop8 (x / 72057594037927936 % 256))))))) := by
    show fmB pop8 8 x = _
    simp only [fmB, Nat.div_div_eq_div_mul, Nat.mul_zero, Nat.add_zero]
  have b0 := (d4 (x % 256) (by omega)).2.2.2.2.1
  have b1 := (d4 (x / 256 % 256) (by omega)).2.2.2.2.1
  have b2 := (d4 (x / 65536 % 256) (by omega)).2.2.2.2.1
  have b3 := (d4 (x / 16777216 % 256) (by omega)).2.2.2.2.1
  have b4 := (d4 (x / 4294967296 % 256) (by omega)).2.2.2.2.1
  have b5 := (d4 (x / 1099511627776 % 256) (by omega)).2.2.2.2.1
  have b6 := (d4 (x / 281474976710656 % 256) (by omega)).2.2.2.2.1
  have b7 := (d4 (x / 72057594037927936 % 256) (by omega)).2.2.2.2.1
  rw [e]
  show ((x5 + x5 / 4294967296) % 18446744073709551616) % 128 = _
  have h4 : x4 = (x3 + x3 / 256) % 18446744073709551616 := rfl
  have h5 : x5 = (x4 + x4 / 65536) % 18446744073709551616 := rfl
  clear_value x3 x4 x5
  generalize pop8 (x % 256) = p0 at *
  generalize pop8 (x / 256 % 256) = p1 at *
  generalize pop8 (x / 65536 % 256) = p2 at *
  generalize pop8 (x / 16777216 % 256) = p3 at *
  generalize pop8 (x / 4294967296 % 256) = p4 at *
  generalize pop8 (x / 1099511627776 % 256) = p5 at *
  generalize pop8 (x / 281474976710656 % 256) = p6 at *
  generalize pop8 (x / 72057594037927936 % 256) = p7 at *
  clear e
  have q3 : x3 / 256 = p1 + 256 * (p2 + 256 * (p3 + 256 * (p4 + 256 * (p5 + 256 * (p6 + 256 * p7))))) := by omega
  rw [q3] at h4
  have e4 : x4 = (p0 + p1) + 256 * ((p1 + p2) + 256 * ((p2 + p3) + 256 * ((p3 + p4) + 256 * ((p4 + p5) + 256 * ((p5 + p6) + 256 * ((p6 + p7) + 256 * p7)))))) := by omega
  clear h4 hx3 q3
  have q4 : x4 / 65536 = (p2 + p3) + 256 * ((p3 + p4) + 256 * ((p4 + p5) + 256 * ((p5 + p6) + 256 * ((p6 + p7) + 256 * p7)))) := by omega
  rw [q4] at h5
  have e5 : x5 = (p0 + p1 + p2 + p3) + 256 * ((p1 + p2 + p3 + p4) + 256 * ((p2 + p3 + p4 + p5) + 256 * ((p3 + p4 + p5 + p6) + 256 * ((p4 + p5 + p6 + p7) + 256 * ((p5 + p6 + p7) + 256 * ((p6 + p7) + 256 * p7)))))) := by omega
  clear h5 e4 q4
  have q5 : x5 / 4294967296 = (p4 + p5 + p6 + p7) + 256 * ((p5 + p6 + p7) + 256 * ((p6 + p7) + 256 * p7)) := by omega
  rw [q5]
  omega
theorem fdN {a : Int} (h : 0 ≤ a) (m : Nat) : a.fdiv (2 ^ m) = ((a.toNat / 2 ^ m : Nat) : Int) := by
  obtain ⟨n, rfl⟩ := Int.eq_ofNat_of_zero_le h
  rw [Int.fdiv_eq_ediv_of_nonneg _ (by exact Int.le_of_lt (Int.pow_pos (by omega)))]
  simp
theorem shN {a : Int} {k d : Nat} (h : 0 ≤ a) {j : Int} (hj : min j.toNat IntKind.u64.bits = k) (hd : 2 ^ k = d) : a.fdiv (2 ^ (min j.toNat IntKind.u64.bits)) = ((a.toNat / d : Nat) : Int) := by
  rw [hj, fdN h, hd]
theorem fm_lt (f : Nat → Nat) (hf : ∀ r, r < 256 → f r < 256) : ∀ n x, fmB f n x < 256 ^ n
  | 0, x => by simp [fmB]
  | n + 1, x => by
    have h1 := hf (x % 256) (by omega)
    have h2 := fm_lt f hf n (x / 256)
    rw [fmB, Nat.pow_succ]
    omega
theorem lt8 {f : Nat → Nat} (hf : ∀ r, r < 256 → f r < 256) (x : Nat) : fmB f 8 x < 18446744073709551616 := by
  have := fm_lt f hf 8 x
  have e : (256 : Nat) ^ 8 = 18446744073709551616 := by decide
  omega
theorem f1_lt : ∀ r, r < 256 → f1 r < 256 := fun r h => (d4 r h).1
theorem f21_lt : ∀ r, r < 256 → f2 (f1 r) < 256 := fun r h => (d4 r h).2.1
theorem m85 : mkB 85 8 = 6148914691236517205 := by decide
theorem m51 : mkB 51 8 = 3689348814741910323 := by decide
theorem m15 : mkB 15 8 = 1085102592571150095 := by decide
theorem sum1 (x : Nat) : IntKind.u64.wrap (((x / 2 &&& 6148914691236517205 : Nat) : Int) + ((x &&& 6148914691236517205 : Nat) : Int)) = ((fmB f1 8 x : Nat) : Int) := by
  have h := step1 8 x
  rw [m85] at h
  have hl := lt8 f1_lt x
  rw [wrapU ⟨by omega, by omega⟩]
  omega
theorem sum2 (x : Nat) : IntKind.u64.wrap (((fmB f1 8 x / 4 &&& 3689348814741910323 : Nat) : Int) + ((fmB f1 8 x &&& 3689348814741910323 : Nat) : Int)) = ((fmB (fun r => f2 (f1 r)) 8 x : Nat) : Int) := by
  have h := step2 8 (fmB f1 8 x)
  rw [m51, fm_fm f1 f2 f1_lt] at h
  have hl := lt8 f21_lt x
  rw [wrapU ⟨by omega, by omega⟩]
  omega
theorem add2_lt (x : Nat) : fmB (fun r => f2 (f1 r)) 8 x / 16 + fmB (fun r => f2 (f1 r)) 8 x < 18446744073709551616 := by
  have d : ∀ r, r < 256 → f2 (f1 r) ≤ 68 := fun r h => by have := (d4 r h).2.2; omega
  have e : fmB (fun r => f2 (f1 r)) 8 x = f2 (f1 (x % 256)) + 256 * (f2 (f1 (x / 256 % 256)) + 256 * (f2 (f1 (x / 65536 % 256)) + 256 * (f2 (f1 (x / 16777216 % 256)) + 256 * (f2 (f1 (x / 4294967296 % 256)) + 256 * (f2 (f1 (x / 1099511627776 % 256)) + 256 * (f2 (f1 (x / 281474976710656 % 256)) + 256 * f2 (f1 (x / 72057594037927936 % 256)))))))) := by
    simp only [fmB, Nat.div_div_eq_div_mul, Nat.mul_zero, Nat.add_zero]
  have b7 := d (x / 72057594037927936 % 256) (by omega)
  have hl := fm_lt (fun r => f2 (f1 r)) f21_lt 7 (x / 256)
  have b0 := d (x % 256) (by omega)
  have b1 := d (x / 256 % 256) (by omega)
  have b2 := d (x / 65536 % 256) (by omega)
  have b3 := d (x / 16777216 % 256) (by omega)
  have b4 := d (x / 4294967296 % 256) (by omega)
  have b5 := d (x / 1099511627776 % 256) (by omega)
  have b6 := d (x / 281474976710656 % 256) (by omega)
  clear hl
  rw [e]
  omega
theorem sum3 (x : Nat) : IntKind.u64.wrap (((fmB (fun r => f2 (f1 r)) 8 x / 16 : Nat) : Int) + ((fmB (fun r => f2 (f1 r)) 8 x : Nat) : Int)) = ((fmB (fun r => f2 (f1 r)) 8 x / 16 + fmB (fun r => f2 (f1 r)) 8 x : Nat) : Int) := by
  have := add2_lt x
  rw [wrapU ⟨by omega, by omega⟩]
  omega
theorem and3 (x : Nat) : (fmB (fun r => f2 (f1 r)) 8 x / 16 + fmB (fun r => f2 (f1 r)) 8 x) &&& 1085102592571150095 = fmB pop8 8 x := by
  rw [← m15, step3 8 _ (ok_fm (fun r => f2 (f1 r)) (fun r h => ⟨(d4 r h).2.1, (d4 r h).2.2.1, (d4 r h).2.2.2.1⟩) 8 x), fm_fm (fun r => f2 (f1 r)) f3 f21_lt]
  rfl
theorem sumM (a b : Nat) : IntKind.u64.wrap ((a : Int) + (b : Int)) = (((a + b) % 18446744073709551616 : Nat) : Int) := by
  simp only [IntKind.wrap, IntKind.signed, IntKind.bits]
  simp
def o3 (x : Nat) : Nat := fmB pop8 8 x
def o4 (x : Nat) : Nat := (o3 x + o3 x / 256) % 18446744073709551616
def o5 (x : Nat) : Nat := (o4 x + o4 x / 65536) % 18446744073709551616
def o6 (x : Nat) : Nat := (o5 x + o5 x / 4294967296) % 18446744073709551616
theorem o6_lt (x : Nat) : o6 x < 18446744073709551616 := Nat.mod_lt _ (by decide)
theorem o6_pop {x : Nat} (h : x < 18446744073709551616) : o6 x % 128 = popN x 64 := ones_sum h
theorem ofI_nat (b n : Nat) : BitVec.ofInt b ((n : Nat) : Int) = BitVec.ofNat b n := by simp
theorem andNN {a b : Nat} {z : Int} (ha : a < 18446744073709551616) (hb : b < 18446744073709551616) (hz : z = (b : Int)) : IntKind.u64.wrap (((BitVec.ofInt 64 ((a : Nat) : Int) &&& BitVec.ofInt 64 z).toNat : Nat) : Int) = ((a &&& b : Nat) : Int) := by
  subst hz
  rw [ofI_nat, ofI_nat, BitVec.toNat_and, BitVec.toNat_ofNat, BitVec.toNat_ofNat, Nat.mod_eq_of_lt (by omega), Nat.mod_eq_of_lt (by omega)]
  have : a &&& b ≤ a := Nat.and_le_left
  rw [wrapU ⟨by omega, by omega⟩]
theorem and127 {a : Nat} (h : a < 18446744073709551616) : IntKind.i64.wrap (((BitVec.ofInt 64 (IntKind.i64.wrap ((a : Nat) : Int)) &&& BitVec.ofInt 64 127).toNat : Nat) : Int) = ((a % 128 : Nat) : Int) := by
  have e : BitVec.ofInt 64 (IntKind.i64.wrap ((a : Nat) : Int)) = BitVec.ofNat 64 a := by
    rw [← ofI_nat]
    apply BitVec.eq_of_toInt_eq
    rw [BitVec.toInt_ofInt, BitVec.toInt_ofInt]
    simp only [IntKind.wrap, IntKind.signed, IntKind.bits]
    simp only [Int.bmod_def]
    simp
    split <;> split <;> split <;> omega
  have e2 : (BitVec.ofNat 64 a).toNat = a := by rw [BitVec.toNat_ofNat]; exact Nat.mod_eq_of_lt (by omega)
  rw [e, BitVec.toNat_and, e2, show (BitVec.ofInt 64 127).toNat = 2 ^ 7 - 1 by decide, Nat.and_two_pow_sub_one_eq_mod]
  have : a % 2 ^ 7 < 128 := Nat.mod_lt _ (by decide)
  have h7 : (a % 128 : Nat) = a % 2 ^ 7 := rfl
  rw [h7]
  generalize a % 2 ^ 7 = r at *
  simp only [IntKind.wrap, IntKind.signed, IntKind.bits]
  simp
  rw [if_neg (by omega)]
  omega
theorem half_lt {x : Nat} (h : x < 18446744073709551616) : x / 2 < 18446744073709551616 := by omega
def o1 (x : Nat) : Nat := fmB f1 8 x
def o2 (x : Nat) : Nat := fmB (fun r => f2 (f1 r)) 8 x
theorem o1_lt (x : Nat) : o1 x < 18446744073709551616 := lt8 f1_lt x
theorem o1q_lt (x : Nat) : o1 x / 4 < 18446744073709551616 := by have := o1_lt x; omega
theorem o2s_lt (x : Nat) : o2 x / 16 + o2 x < 18446744073709551616 := add2_lt x
theorem sumO1 (x : Nat) : IntKind.u64.wrap (((x / 2 &&& 6148914691236517205 : Nat) : Int) + ((x &&& 6148914691236517205 : Nat) : Int)) = ((o1 x : Nat) : Int) := sum1 x
theorem sumO2 (x : Nat) : IntKind.u64.wrap (((o1 x / 4 &&& 3689348814741910323 : Nat) : Int) + ((o1 x &&& 3689348814741910323 : Nat) : Int)) = ((o2 x : Nat) : Int) := sum2 x
theorem sumO3 (x : Nat) : IntKind.u64.wrap (((o2 x / 16 : Nat) : Int) + ((o2 x : Nat) : Int)) = ((o2 x / 16 + o2 x : Nat) : Int) := sum3 x
theorem andO3 (x : Nat) : IntKind.u64.wrap (((BitVec.ofInt 64 ((o2 x / 16 + o2 x : Nat) : Int) &&& BitVec.ofInt 64 1085102592571150095).toNat : Nat) : Int) = ((o3 x : Nat) : Int) :=
  (andNN (b := 1085102592571150095) (o2s_lt x) (by decide) rfl).trans (congrArg Nat.cast (and3 x))
theorem sumO4 (x : Nat) : IntKind.u64.wrap (((o3 x : Nat) : Int) + ((o3 x / 256 : Nat) : Int)) = ((o4 x : Nat) : Int) := sumM _ _
theorem sumO5 (x : Nat) : IntKind.u64.wrap (((o4 x : Nat) : Int) + ((o4 x / 65536 : Nat) : Int)) = ((o5 x : Nat) : Int) := sumM _ _
theorem sumO6 (x : Nat) : IntKind.u64.wrap (((o5 x : Nat) : Int) + ((o5 x / 4294967296 : Nat) : Int)) = ((o6 x : Nat) : Int) := sumM _ _
theorem andO6 {x : Nat} (hx : x < 18446744073709551616) : IntKind.i64.wrap (((BitVec.ofInt 64 (IntKind.i64.wrap ((o6 x : Nat) : Int)) &&& BitVec.ofInt 64 127).toNat : Nat) : Int) = ((popN x 64 : Nat) : Int) :=
  (and127 (o6_lt x)).trans (congrArg Nat.cast (o6_pop hx))
theorem and85 {a : Nat} (ha : a < 18446744073709551616) : IntKind.u64.wrap (((BitVec.ofInt 64 ((a : Nat) : Int) &&& BitVec.ofInt 64 6148914691236517205).toNat : Nat) : Int) = ((a &&& 6148914691236517205 : Nat) : Int) := andNN ha (by decide) rfl
theorem and51 {a : Nat} (ha : a < 18446744073709551616) : IntKind.u64.wrap (((BitVec.ofInt 64 ((a : Nat) : Int) &&& BitVec.ofInt 64 3689348814741910323).toNat : Nat) : Int) = ((a &&& 3689348814741910323 : Nat) : Int) := andNN ha (by decide) rfl
theorem sh1 (a : Nat) : ((a : Nat) : Int).fdiv (2 ^ (min (1 : Int).toNat IntKind.u64.bits)) = ((a / 2 : Nat) : Int) := shN (k := 1) (d := 2) (Int.natCast_nonneg _) (by decide) (by decide)
theorem sh2 (a : Nat) : ((a : Nat) : Int).fdiv (2 ^ (min (2 : Int).toNat IntKind.u64.bits)) = ((a / 4 : Nat) : Int) := shN (k := 2) (d := 4) (Int.natCast_nonneg _) (by decide) (by decide)
theorem sh4 (a : Nat) : ((a : Nat) : Int).fdiv (2 ^ (min (4 : Int).toNat IntKind.u64.bits)) = ((a / 16 : Nat) : Int) := shN (k := 4) (d := 16) (Int.natCast_nonneg _) (by decide) (by decide)
theorem sh8 (a : Nat) : ((a : Nat) : Int).fdiv (2 ^ (min (8 : Int).toNat IntKind.u64.bits)) = ((a / 256 : Nat) : Int) := shN (k := 8) (d := 256) (Int.natCast_nonneg _) (by decide) (by decide)
theorem sh16 (a : Nat) : ((a : Nat) : Int).fdiv (2 ^ (min (16 : Int).toNat IntKind.u64.bits)) = ((a / 65536 : Nat) : Int) := shN (k := 16) (d := 65536) (Int.natCast_nonneg _) (by decide) (by decide)
theorem sh32 (a : Nat) : ((a : Nat) : Int).fdiv (2 ^ (min (32 : Int).toNat IntKind.u64.bits)) = ((a / 4294967296 : Nat) : Int) := shN (k := 32) (d := 4294967296) (Int.natCast_nonneg _) (by decide) (by decide)
def c6 (x : Nat) : Int := IntKind.i64.wrap ((o6 x : Nat) : Int)
theorem c6_eq (x : Nat) : IntKind.i64.wrap ((o6 x : Nat) : Int) = c6 x := rfl
theorem andC6 {x : Nat} (hx : x < 18446744073709551616) : IntKind.i64.wrap (((BitVec.ofInt 64 (c6 x) &&& BitVec.ofInt 64 127).toNat : Nat) : Int) = ((popN x 64 : Nat) : Int) := andO6 hx
attribute [irreducible] o1 o2 o3 o4 o5 o6 c6 fmB popN mkB
end Go.Proofs.YtplpgfcjjnaigaaDoor
namespace Go.Proofs.YtplpgfcjjnaigaaDoor
open Go Go.RowKit
set_option maxHeartbeats 4000000 in
theorem ones_any {x : Nat} {w : World} (hx : x < 18446744073709551616) :
    Calls Tryd.prog 62 #[.int .u64 (((x : Nat) : Int))] w fun e w' => e = .returned (.int .i64 ((popN x 64 : Nat) : Int)) ∧ Ext w w' := by
 refine enter_ (args := [.int .u64 (((x : Nat) : Int))]) Tryd.func62 rfl Tryd.ntmps62 (Nat.le_of_ble_eq_true rfl) (fun act0 f0 => ?_)
 have e0 : Ext w w := Ext.refl w
 refine sqs ?_
 refine At.rk f0 1 [] .n (fun act2 f1 => ?_)
 clear f0
 refine At.dn ?_
 refine sqs ?_
 refine At.rk f1 7 [(0, .int .u64 (((o1 x : Nat) : Int)))] (.p (show 0 ≤ (1 : Int) from ω) <| .v 4 (show (.int .u64 ((((x : Nat) : Int) : Int).fdiv (2 ^ (min (1 : Int).toNat IntKind.u64.bits))) : Value) = .int .u64 (((x / 2 : Nat) : Int)) from (congrArg (Value.int .u64) (sh1 x))) <| .v 5 (show (.int .u64 (IntKind.u64.wrap ((BitVec.ofInt 64 ((x / 2 : Nat) : Int) &&& BitVec.ofInt 64 6148914691236517205).toNat : Int)) : Value) = .int .u64 (((x / 2 &&& 6148914691236517205 : Nat) : Int)) from (congrArg (Value.int .u64) (and85 (half_lt hx)))) <| .v 7 (show (.int .u64 (IntKind.u64.wrap ((BitVec.ofInt 64 ((x : Nat) : Int) &&& BitVec.ofInt 64 6148914691236517205).toNat : Int)) : Value) = .int .u64 (((x &&& 6148914691236517205 : Nat) : Int)) from (congrArg (Value.int .u64) (and85 hx))) <| .v 8 (show (.int .u64 (IntKind.u64.wrap (((x / 2 &&& 6148914691236517205 : Nat) : Int) + ((x &&& 6148914691236517205 : Nat) : Int))) : Value) = .int .u64 (((o1 x : Nat) : Int)) from (congrArg (Value.int .u64) (sumO1 x))) <| .n) (fun act4 f3 => ?_)
 clear f1
 refine At.dn ?_
 have f5 := f3.sb (r := [(0, .int .u64 (((o1 x : Nat) : Int)))]); clear f3
 refine sqs ?_
 refine At.rk f5 7 [(0, .int .u64 (((o2 x : Nat) : Int)))] (.p (show 0 ≤ (2 : Int) from ω) <| .v 10 (show (.int .u64 ((((o1 x : Nat) : Int) : Int).fdiv (2 ^ (min (2 : Int).toNat IntKind.u64.bits))) : Value) = .int .u64 (((o1 x / 4 : Nat) : Int)) from (congrArg (Value.int .u64) (sh2 (o1 x)))) <| .v 11 (show (.int .u64 (IntKind.u64.wrap ((BitVec.ofInt 64 ((o1 x / 4 : Nat) : Int) &&& BitVec.ofInt 64 3689348814741910323).toNat : Int)) : Value) = .int .u64 (((o1 x / 4 &&& 3689348814741910323 : Nat) : Int)) from (congrArg (Value.int .u64) (and51 (o1q_lt x)))) <| .v 13 (show (.int .u64 (IntKind.u64.wrap ((BitVec.ofInt 64 ((o1 x : Nat) : Int) &&& BitVec.ofInt 64 3689348814741910323).toNat : Int)) : Value) = .int .u64 (((o1 x &&& 3689348814741910323 : Nat) : Int)) from (congrArg (Value.int .u64) (and51 (o1_lt x)))) <| .v 14 (show (.int .u64 (IntKind.u64.wrap (((o1 x / 4 &&& 3689348814741910323 : Nat) : Int) + ((o1 x &&& 3689348814741910323 : Nat) : Int))) : Value) = .int .u64 (((o2 x : Nat) : Int)) from (congrArg (Value.int .u64) (sumO2 x))) <| .n) (fun act7 f6 => ?_)
 clear f5
 refine At.dn ?_
 have f8 := f6.sb (r := [(0, .int .u64 (((o2 x : Nat) : Int)))]); clear f6
 refine sqs ?_
 refine At.rk f8 6 [(0, .int .u64 (((o3 x : Nat) : Int)))] (.p (show 0 ≤ (4 : Int) from ω) <| .v 16 (show (.int .u64 ((((o2 x : Nat) : Int) : Int).fdiv (2 ^ (min (4 : Int).toNat IntKind.u64.bits))) : Value) = .int .u64 (((o2 x / 16 : Nat) : Int)) from (congrArg (Value.int .u64) (sh4 (o2 x)))) <| .v 18 (show (.int .u64 (IntKind.u64.wrap (((o2 x / 16 : Nat) : Int) + ((o2 x : Nat) : Int))) : Value) = .int .u64 (((o2 x / 16 + o2 x : Nat) : Int)) from (congrArg (Value.int .u64) (sumO3 x))) <| .v 19 (show (.int .u64 (IntKind.u64.wrap ((BitVec.ofInt 64 ((o2 x / 16 + o2 x : Nat) : Int) &&& BitVec.ofInt 64 1085102592571150095).toNat : Int)) : Value) = .int .u64 (((o3 x : Nat) : Int)) from (congrArg (Value.int .u64) (andO3 x))) <| .n) (fun aJ f9 => ?_)
 clear f8
 refine At.dn ?_
 have aA := f9.sb (r := [(0, .int .u64 (((o3 x : Nat) : Int)))]); clear f9
 refine sqs ?_
 refine At.rk aA 5 [(0, .int .u64 (((o4 x : Nat) : Int)))] (.p (show 0 ≤ (8 : Int) from ω) <| .v 22 (show (.int .u64 ((((o3 x : Nat) : Int) : Int).fdiv (2 ^ (min (8 : Int).toNat IntKind.u64.bits))) : Value) = .int .u64 (((o3 x / 256 : Nat) : Int)) from (congrArg (Value.int .u64) (sh8 (o3 x)))) <| .v 23 (show (.int .u64 (IntKind.u64.wrap (((o3 x : Nat) : Int) + ((o3 x / 256 : Nat) : Int))) : Value) = .int .u64 (((o4 x : Nat) : Int)) from (congrArg (Value.int .u64) (sumO4 x))) <| .n) (fun aK aB => ?_)
 clear aA
 refine At.dn ?_
 have aC := aB.sb (r := [(0, .int .u64 (((o4 x : Nat) : Int)))]); clear aB
 refine sqs ?_
 refine At.rk aC 5 [(0, .int .u64 (((o5 x : Nat) : Int)))] (.p (show 0 ≤ (16 : Int) from ω) <| .v 26 (show (.int .u64 ((((o4 x : Nat) : Int) : Int).fdiv (2 ^ (min (16 : Int).toNat IntKind.u64.bits))) : Value) = .int .u64 (((o4 x / 65536 : Nat) : Int)) from (congrArg (Value.int .u64) (sh16 (o4 x)))) <| .v 27 (show (.int .u64 (IntKind.u64.wrap (((o4 x : Nat) : Int) + ((o4 x / 65536 : Nat) : Int))) : Value) = .int .u64 (((o5 x : Nat) : Int)) from (congrArg (Value.int .u64) (sumO5 x))) <| .n) (fun aL aD => ?_)
 clear aC
 refine At.dn ?_
 have aE := aD.sb (r := [(0, .int .u64 (((o5 x : Nat) : Int)))]); clear aD
 refine sqs ?_
 refine At.rk aE 5 [(0, .int .u64 (((o6 x : Nat) : Int)))] (.p (show 0 ≤ (32 : Int) from ω) <| .v 30 (show (.int .u64 ((((o5 x : Nat) : Int) : Int).fdiv (2 ^ (min (32 : Int).toNat IntKind.u64.bits))) : Value) = .int .u64 (((o5 x / 4294967296 : Nat) : Int)) from (congrArg (Value.int .u64) (sh32 (o5 x)))) <| .v 31 (show (.int .u64 (IntKind.u64.wrap (((o5 x : Nat) : Int) + ((o5 x / 4294967296 : Nat) : Int))) : Value) = .int .u64 (((o6 x : Nat) : Int)) from (congrArg (Value.int .u64) (sumO6 x))) <| .n) (fun aM aF => ?_)
 clear aE
 refine At.dn ?_
 have aG := aF.sb (r := [(0, .int .u64 (((o6 x : Nat) : Int)))]); clear aF
 refine sqs ?_
 refine At.rk aG 4 [(2, .int .i64 (((popN x 64 : Nat) : Int)))] (.v 33 (show (.int .i64 (IntKind.i64.wrap (((o6 x : Nat) : Int))) : Value) = .int .i64 (c6 x) from (congrArg (Value.int .i64) (c6_eq x))) <| .v 34 (show (.int .i64 (IntKind.i64.wrap ((BitVec.ofInt 64 (c6 x) &&& BitVec.ofInt 64 127).toNat : Int)) : Value) = .int .i64 (((popN x 64 : Nat) : Int)) from (congrArg (Value.int .i64) (andC6 hx))) <| .n) (fun aN aH => ?_)
 clear aG
 refine At.dn ?_
 have aI := aH.sb (r := [(2, .int .i64 (((popN x 64 : Nat) : Int)))]); clear aH
 refine wp_ret ?_
 refine ret_ aI [] [.int .i64 (((popN x 64 : Nat) : Int))] [] κ trivial ?_
 exact ⟨rfl, e0⟩
end Go.Proofs.YtplpgfcjjnaigaaDoor
namespace Go.Proofs.YtplpgfcjjnaigaaDoor
open Go Go.RowKit
def onI (z : Int) : Int := ((popN z.toNat 64 : Nat) : Int)
def lenN (s : List Int) : Nat → Int
  | 0 => 0
  | n + 1 => lenN s n + onI (gI s (n : Int))
def lenW (s : List Int) : Int := lenN s 4
theorem pop_le (x : Nat) : ∀ n, popN x n ≤ n
  | 0 => by unfold popN; exact Nat.le_refl _
  | n + 1 => by have := pop_le x n; unfold popN; split <;> omega
theorem onI_le (z : Int) : 0 ≤ onI z ∧ onI z ≤ 64 := by
  have := pop_le z.toNat 64
  unfold onI
  omega
theorem len_next {s : List Int} {k r : Int} (h : r = lenN s k.toNat) (h0 : 0 ≤ k) : r + onI (gI s k) = lenN s (k + 1).toNat := by
  obtain ⟨n, rfl⟩ := Int.eq_ofNat_of_zero_le h0
  subst h
  rfl
theorem len_end {s : List Int} {k r : Int} (h : r = lenN s k.toNat) (h0 : 4 ≤ k) (h1 : k ≤ 4) : r = lenW s := by
  have : k = 4 := by omega
  subst this
  exact h
theorem onesI {z : Int} {w : World} (h : W64 z) : Calls Tryd.prog 62 #[.int .u64 z] w fun e w' => e = .returned (.int .i64 (onI z)) ∧ Ext w w' := by
  have h2 : z = ((z.toNat : Nat) : Int) := by have := h.1; omega
  have h3 : z.toNat < 18446744073709551616 := by have := h.1; have := h.2; omega
  have := ones_any (x := z.toNat) (w := w) h3
  rw [← h2] at this
  exact this
end Go.Proofs.YtplpgfcjjnaigaaDoor
namespace Go.Proofs.YtplpgfcjjnaigaaDoor
open Go Go.RowKit
def deI (i : Int) : Int := ((Lib.deBruijn64tab.getD i.toNat 0 : Nat) : Int)
def RdT (w : World) (lo hi : Nat) : Prop := RdV w lo hi (some ⟨0, 0, none⟩) 64 1 (fun i _ => .int .u8 (deI i))
theorem RdT.gr {w w1 : World} {lo hi : Nat} {row : Option Nat} (h : RdT w lo hi) (g : w.grownBy w1 row) (hr : ∀ k, row = some k → k < lo ∨ hi ≤ k) : RdT w1 lo hi := RdV.gr h g hr
theorem RdT.gn {w w1 : World} {lo hi : Nat} (h : RdT w lo hi) (g : w.grownBy w1 none) : RdT w1 lo hi := RdV.gn h g
theorem RdT.gb {w w1 : World} {lo hi b : Nat} (h : RdT w lo hi) (g : w.grownBy w1 (some b)) (hb : b < lo ∨ hi ≤ b) : RdT w1 lo hi := RdV.gb h g hb
theorem RdT.wide {w : World} {lo hi lo' hi' : Nat} (h : RdT w lo hi) (h1 : lo' ≤ lo) (h2 : hi ≤ hi') : RdT w lo' hi' := RdV.wide h h1 h2
theorem RdT.get {w : World} {lo hi : Nat} (h : RdT w lo hi) (i : Int) (h0 : 0 ≤ i) (h1 : i < 64) : w.cell? ((⟨0, 0, none⟩ : Addr).add (i.toNat * 1)) = some (.int .u8 (deI i)) := by
  obtain ⟨ad, e, h2, h3, hc⟩ := h i.toNat 0 (by omega) (by omega)
  injection e with e
  subst e
  rw [add_zero] at hc
  rw [hc]
  show some (Value.int IntKind.u8 (deI ((i.toNat : Nat) : Int))) = _
  rw [Int.toNat_of_nonneg h0]
def lowB (x : Nat) : Nat := 2 ^ Lib.ctz 64 x
def mulB (x : Nat) : Nat := lowB x * 285870213051353865 % 18446744073709551616
def idxB (x : Nat) : Nat := mulB x / 288230376151711744
theorem negB {x : Nat} (h0 : ¬ ((x : Nat) : Int) = 0) (h : x < 18446744073709551616) : IntKind.u64.wrap (0 - ((x : Nat) : Int)) = ((18446744073709551616 - x : Nat) : Int) := by
  simp only [IntKind.wrap, IntKind.signed, IntKind.bits]
  simp
  omega
theorem andB {x : Nat} (h0 : ¬ ((x : Nat) : Int) = 0) (h : x < 18446744073709551616) : IntKind.u64.wrap (((BitVec.ofInt 64 ((x : Nat) : Int) &&& BitVec.ofInt 64 ((18446744073709551616 - x : Nat) : Int)).toNat : Nat) : Int) = ((lowB x : Nat) : Int) := by
  refine (andNN (b := 18446744073709551616 - x) h (by omega) rfl).trans (congrArg Nat.cast ?_)
  exact (Lib.lowest_bit 64 x (by omega) (by omega)).1
theorem mulB_eq (x : Nat) : IntKind.u64.wrap (((lowB x : Nat) : Int) * 285870213051353865) = ((mulB x : Nat) : Int) := by
  unfold mulB
  generalize lowB x = b
  simp only [IntKind.wrap, IntKind.signed, IntKind.bits]
  simp
theorem sh58 (a : Nat) : ((a : Nat) : Int).fdiv (2 ^ (min (58 : Int).toNat IntKind.u64.bits)) = ((a / 288230376151711744 : Nat) : Int) := shN (k := 58) (d := 288230376151711744) (Int.natCast_nonneg _) (by decide) (by decide)
theorem shB (x : Nat) : ((mulB x : Nat) : Int).fdiv (2 ^ (min (58 : Int).toNat IntKind.u64.bits)) = ((idxB x : Nat) : Int) := sh58 _
theorem idxB_lt (x : Nat) : idxB x < 64 := by
  have : mulB x < 18446744073709551616 := Nat.mod_lt _ (by decide)
  unfold idxB
  omega
theorem ctz_at {x : Nat} (h0 : ¬ ((x : Nat) : Int) = 0) (h : x < 18446744073709551616) : IntKind.i64.wrap (deI ((idxB x : Nat) : Int)) = ((Lib.ctz 64 x : Nat) : Int) := by
  have h1 := (Lib.lowest_bit 64 x (by omega) (by omega)).2
  have h2 : Lib.deBruijn64tab.getD (idxB x) 0 = Lib.ctz 64 x := by
    unfold idxB mulB lowB
    generalize Lib.ctz 64 x = k at h1
    exact (Lib.deBruijn64_at k h1).2
  have h3 : deI ((idxB x : Nat) : Int) = ((Lib.ctz 64 x : Nat) : Int) := by
    unfold deI
    rw [Int.toNat_natCast, h2]
  rw [h3]
  generalize Lib.ctz 64 x = r at *
  simp only [IntKind.wrap, IntKind.signed, IntKind.bits]
  simp
  rw [if_neg (by omega)]
  omega
theorem ctz_0 {x : Nat} (h : ((x : Nat) : Int) = 0) : (64 : Int) = ((Lib.ctz 64 x : Nat) : Int) := by
  have : x = 0 := by omega
  subst this
  rfl
end Go.Proofs.YtplpgfcjjnaigaaDoor
namespace Go.Proofs.YtplpgfcjjnaigaaDoor
open Go Go.RowKit
set_option maxHeartbeats 4000000 in
theorem tz_any {x : Nat} {w : World} (hx : x < 18446744073709551616) (rT : RdT w 0 w.heap.size) :
    Calls Tryd.prog 56 #[.int .u64 (((x : Nat) : Int))] w fun e w' => e = .returned (.int .i64 ((Lib.ctz 64 x : Nat) : Int)) ∧ Ext w w' := by
 have hib := idxB_lt x
 refine enter_ (args := [.int .u64 (((x : Nat) : Int))]) Tryd.func56 rfl Tryd.ntmps56 (Nat.le_of_ble_eq_true rfl) (fun act0 f0 => ?_)
 have e0 : Ext w w := Ext.refl w
 refine sqs ?_
 refine At.rk f0 1 [] .n (fun act2 f1 => ?_)
 clear f0
 refine At.dn ?_
 refine wp_seq ?_
 refine sqs ?_
 refine At.rk f1 2 [(4, .bool ((((x : Nat) : Int) : Int) == 0))] .n (fun act4 f3 => ?_)
 clear f1
 refine At.dn ?_
 refine cond_S f3 (t := (((x : Nat) : Int) : Int) == 0) rfl (fun h5 => ?_) (fun h5 => ?_)
 ·have q6 := eq_of_beq h5
  refine sqs ?_
  refine At.rk f3 1 [(2, .int .i64 (64))] .n (fun act8 f7 => ?_)
  clear f3
  refine At.dn ?_
  have f9 := f7.sb (r := [(2, .int .i64 (64))]); clear f7
  refine wp_ret ?_
  refine t_r ?_
  refine ret_ f9 [] [.int .i64 (64)] [] κ trivial ?_
  exact ⟨ret_eq (congrArg (Value.int .i64) (by first | rfl | exact ctz_0 σ)), e0⟩
 have aD := ne_of_beq_false h5
 refine wp_skip ?_
 refine t_n ?_
 have aA := f3.sb (r := [(0, .int .u64 (((x : Nat) : Int)))]); clear f3
 refine sqs ?_
 refine At.rk aA 10 [(2, .int .i64 (((Lib.ctz 64 x : Nat) : Int)))] (.v 7 (show (.int .u64 (IntKind.u64.wrap (0 - ((x : Nat) : Int))) : Value) = .int .u64 (((18446744073709551616 - x : Nat) : Int)) from (congrArg (Value.int .u64) (negB σ hx))) <| .v 8 (show (.int .u64 (IntKind.u64.wrap ((BitVec.ofInt 64 ((x : Nat) : Int) &&& BitVec.ofInt 64 ((18446744073709551616 - x : Nat) : Int)).toNat : Int)) : Value) = .int .u64 (((lowB x : Nat) : Int)) from (congrArg (Value.int .u64) (andB σ hx))) <| .v 9 (show (.int .u64 (IntKind.u64.wrap (((lowB x : Nat) : Int) * 285870213051353865)) : Value) = .int .u64 (((mulB x : Nat) : Int)) from (congrArg (Value.int .u64) (mulB_eq x))) <| .p (show 0 ≤ (58 : Int) from ω) <| .v 10 (show (.int .u64 ((((mulB x : Nat) : Int) : Int).fdiv (2 ^ (min (58 : Int).toNat IntKind.u64.bits))) : Value) = .int .u64 (((idxB x : Nat) : Int)) from (congrArg (Value.int .u64) (shB x))) <| .b ((idxB x : Nat) : Int) 64 <| .l (RdT.get rT ((idxB x : Nat) : Int) ω ω) <| .v 13 (show (.int .i64 (IntKind.i64.wrap (deI ((idxB x : Nat) : Int))) : Value) = .int .i64 (((Lib.ctz 64 x : Nat) : Int)) from (congrArg (Value.int .i64) (ctz_at σ hx))) <| .n) (fun aE aB => ?_)
 clear aA
 refine At.dn ?_
 have aC := aB.sb (r := [(2, .int .i64 (((Lib.ctz 64 x : Nat) : Int)))]); clear aB
 refine wp_ret ?_
 refine ret_ aC [] [.int .i64 (((Lib.ctz 64 x : Nat) : Int))] [] κ trivial ?_
 exact ⟨ret_eq (congrArg (Value.int .i64) (by first | rfl | exact ctz_0 σ)), e0⟩
end Go.Proofs.YtplpgfcjjnaigaaDoor
namespace Go.Proofs.YtplpgfcjjnaigaaDoor
open Go Go.RowKit
def tzI (z : Int) : Int := ((Lib.ctz 64 z.toNat : Nat) : Int)
theorem tzI_any {z : Int} {w : World} (h : W64 z) (rT : RdT w 0 w.heap.size) : Calls Tryd.prog 56 #[.int .u64 z] w fun e w' => e = .returned (.int .i64 (tzI z)) ∧ Ext w w' := by
  have h2 : z = ((z.toNat : Nat) : Int) := by have := h.1; omega
  have h3 : z.toNat < 18446744073709551616 := by have := h.1; have := h.2; omega
  have := tz_any (x := z.toNat) (w := w) h3 rT
  rw [← h2] at this
  exact this
theorem ctz_bits {x : Nat} (h0 : x ≠ 0) (h : x < 18446744073709551616) : Lib.ctz 64 x < 64 ∧ x.testBit (Lib.ctz 64 x) = true ∧ (∀ r, r < Lib.ctz 64 x → x.testBit r = false) ∧ ∀ r, (x &&& (x - 1)).testBit r = (x.testBit r && !decide (r = Lib.ctz 64 x)) := by
  have e : Lib.ctz 64 x = Lib.ctzFrom 64 x := by simp [Lib.ctz, h0]
  rw [e]
  obtain ⟨m, hm, hk⟩ := Lib.ctzFrom_spec 64 x (by omega) (by simpa using h)
  generalize Lib.ctzFrom 64 x = t at *
  have hp := Nat.two_pow_pos t
  have h1 : x - 1 = 2 ^ t * (2 * m) + (2 ^ t - 1) := by
    rw [hm, Nat.mul_add, Nat.mul_one]
    omega
  have hx : ∀ r, x.testBit r = if r < t then false else (2 * m + 1).testBit (r - t) := fun r => by
    have := Nat.testBit_two_pow_mul_add (2 * m + 1) (b := 0) (i := t) hp r
    rw [Nat.add_zero, ← hm] at this
    rw [this]
    simp
  have hy : ∀ r, (x - 1).testBit r = if r < t then true else (2 * m).testBit (r - t) := fun r => by
    rw [h1, Nat.testBit_two_pow_mul_add (2 * m) (b := 2 ^ t - 1) (i := t) (by omega) r]
    split
    · rw [Nat.testBit_two_pow_sub_one, decide_eq_true (by omega)]
    · rfl
  refine ⟨hk, ?_, fun r hr => ?_, fun r => ?_⟩
  · rw [hx, if_neg (by omega), Nat.sub_self]
    simp
  · rw [hx, if_pos hr]
  · rw [Nat.testBit_and, hx, hy]
    by_cases hr : r < t
    · rw [if_pos hr, if_pos hr]
      simp
    · rw [if_neg hr, if_neg hr]
      by_cases he : r = t
      · subst he
        simp
      · rw [decide_eq_false he]
        obtain ⟨j, hj⟩ : ∃ j, r - t = j + 1 := ⟨r - t - 1, by omega⟩
        rw [hj, Nat.testBit_succ, Nat.testBit_succ, show (2 * m + 1) / 2 = m by omega, show 2 * m / 2 = m by omega]
        cases m.testBit j <;> rfl
theorem tz_lt {z : Int} (h : W64 z) (h0 : ¬ z = 0) : 0 ≤ tzI z ∧ tzI z < 64 := by
  have h1 := h.1
  have h2 := h.2
  have := (ctz_bits (x := z.toNat) (by omega) (by omega)).1
  unfold tzI
  omega
theorem tz_bit {z : Int} (h : W64 z) (h0 : ¬ z = 0) : bitI z (tzI z) = true := by
  have h1 := h.1
  have h2 := h.2
  have := (ctz_bits (x := z.toNat) (by omega) (by omega)).2.1
  rw [bitI, tzI, Int.toNat_natCast]
  exact this
theorem tz_low {z : Int} (h : W64 z) (h0 : ¬ z = 0) {r : Int} (r0 : 0 ≤ r) (r1 : r < tzI z) : bitI z r = false := by
  have h1 := h.1
  have h2 := h.2
  have := (ctz_bits (x := z.toNat) (by omega) (by omega)).2.2.1 r.toNat (by unfold tzI at r1; omega)
  rw [bitI]
  exact this
def clrW (z : Int) : Int := andW z (z - 1)
theorem clr_bit {z : Int} (h : W64 z) (h0 : ¬ z = 0) {r : Int} (r0 : 0 ≤ r) : bitI (clrW z) r = (bitI z r && !decide (r = tzI z)) := by
  have h1 := h.1
  have h2 := h.2
  have := (ctz_bits (x := z.toNat) (by omega) (by omega)).2.2.2 r.toNat
  rw [clrW, andW, bitI, Int.toNat_natCast, show (z - 1).toNat = z.toNat - 1 by omega, this, bitI]
  congr 2
  unfold tzI
  rw [decide_eq_decide]
  omega
theorem clr_W {z : Int} (h : W64 z) (h0 : ¬ z = 0) : W64 (clrW z) := by
  have h1 := h.1
  have h2 := h.2
  exact andW_W h ⟨by omega, by omega⟩
theorem sub_W {z : Int} (h : W64 z) (h0 : ¬ z = 0) : IntKind.u64.wrap (z - 1) = z - 1 := by
  have h1 := h.1
  have h2 := h.2
  exact wrapU ⟨by omega, by omega⟩
theorem clr_eq {z : Int} (h : W64 z) (h0 : ¬ z = 0) : IntKind.u64.wrap (((BitVec.ofInt 64 z &&& BitVec.ofInt 64 (z - 1)).toNat : Nat) : Int) = clrW z := by
  have h1 := h.1
  have h2 := h.2
  exact and64 h ⟨by omega, by omega⟩
theorem ls_run {l : List Bool} {a : Nat} : ∀ d : Nat, (∀ r : Nat, a ≤ r → r < a + d → gB l (r : Int) = false) → lsD l (a + d) = lsD l a
  | 0, _ => rfl
  | d + 1, h => by
    rw [← Nat.add_assoc, lsD, if_neg (by rw [h (a + d) (by omega) (by omega)]; decide)]
    exact ls_run d fun r h1 h2 => h r h1 (by omega)
theorem ls_to {l : List Bool} {a b : Int} (h0 : 0 ≤ a) (h1 : a ≤ b) (h : ∀ r : Int, a ≤ r → r < b → gB l r = false) : lsD l b.toNat = lsD l a.toNat := by
  have := ls_run (l := l) (a := a.toNat) (b - a).toNat fun r x y => h r (by omega) (by omega)
  rw [show a.toNat + (b - a).toNat = b.toNat by omega] at this
  exact this
def RestW (s : List Int) (i v c : Int) : Prop := W64 v ∧ ∀ r : Int, 0 ≤ r → r < 64 → bitI v r = (decide (c ≤ r) && bitI (gI s i) r)
theorem rest_0 {s : List Int} {i : Int} (h : OkW s) : RestW s i (gI s i) 0 := ⟨h.2 i, fun r a b => by rw [decide_eq_true (by omega), Bool.true_and]⟩
theorem rest_tz {s : List Int} {i v c : Int} (h : RestW s i v c) (h0 : ¬ v = 0) : c ≤ tzI v := by
  have h1 := tz_lt h.1 h0
  have h2 := h.2 _ h1.1 h1.2
  rw [tz_bit h.1 h0] at h2
  by_cases hc : c ≤ tzI v
  · exact hc
  · rw [decide_eq_false hc] at h2
    cases h2
theorem rest_next {s : List Int} {i v c : Int} (h : RestW s i v c) (h0 : ¬ v = 0) : RestW s i (clrW v) (tzI v + 1) := by
  have h1 := tz_lt h.1 h0
  refine ⟨clr_W h.1 h0, fun r a b => ?_⟩
  rw [clr_bit h.1 h0 a]
  by_cases hr : tzI v + 1 ≤ r
  · rw [h.2 r a b, decide_eq_true hr, decide_eq_true (by have := rest_tz h h0; omega), decide_eq_false (by omega)]
    simp
  · rw [decide_eq_false hr]
    by_cases he : r = tzI v
    · rw [decide_eq_true he]
      simp
    · rw [tz_low h.1 h0 a (by omega)]
      simp
theorem rest_ls {s : List Int} {i v c : Int} {xs : List Int} (h : RestW s i v c) (h0 : ¬ v = 0) (i0 : 0 ≤ i) (i1 : i < 4) (c0 : 0 ≤ c) (hx : xs = lsD (fromW s) (64 * i + c).toNat) : xs ++ [64 * i + tzI v] = lsD (fromW s) (64 * i + (tzI v + 1)).toNat := by
  have h1 := tz_lt h.1 h0
  have h2 := rest_tz h h0
  have e : xs = lsD (fromW s) (64 * i + tzI v).toNat := by
    rw [hx]
    refine (ls_to (by omega) (by omega) fun r a b => ?_).symm
    rw [gB_from (by omega) (by omega), show r / 64 = i by omega]
    have h3 := h.2 (r % 64) (by omega) (by omega)
    rw [tz_low h.1 h0 (by omega) (by omega), decide_eq_true (by omega), Bool.true_and] at h3
    exact h3.symm
  rw [← Int.add_assoc]
  refine ls_yes e (by omega) ?_
  rw [gB_from (by omega) (by omega), show (64 * i + tzI v) / 64 = i by omega, show (64 * i + tzI v) % 64 = tzI v by omega]
  have h3 := h.2 _ h1.1 h1.2
  rw [tz_bit h.1 h0, decide_eq_true h2, Bool.true_and] at h3
  exact h3.symm
theorem rest_end {s : List Int} {i v c : Int} {xs : List Int} (h : RestW s i v c) (h0 : v = 0) (i0 : 0 ≤ i) (i1 : i < 4) (c0 : 0 ≤ c) (c1 : c ≤ 64) (hx : xs = lsD (fromW s) (64 * i + c).toNat) : xs = lsD (fromW s) (64 * (i + 1)).toNat := by
  subst h0
  rw [hx]
  refine (ls_to (by omega) (by omega) fun r a b => ?_).symm
  rw [gB_from (by omega) (by omega), show r / 64 = i by omega]
  have h3 := h.2 (r % 64) (by omega) (by omega)
  rw [bit_zero, decide_eq_true (by omega), Bool.true_and] at h3
  exact h3.symm
theorem list_end {s : List Int} {k : Int} {xs : List Int} (hx : xs = lsD (fromW s) (64 * k).toNat) (h0 : 4 ≤ k) (h1 : k ≤ 4) : xs = lsD (fromW s) 256 := by
  rw [hx, show (64 * k).toNat = 256 by omega]
/- Least. -/
theorem least_skip {s : List Int} {k : Int} (h : ∀ j : Int, 0 ≤ j → j < 64 * k → gB (fromW s) j = false) (h0 : 0 ≤ k) (h1 : k < 4) (hz : gI s k = 0) : ∀ j : Int, 0 ≤ j → j < 64 * (k + 1) → gB (fromW s) j = false := fun j a b => by
  by_cases hj : j < 64 * k
  · exact h j a hj
  · rw [gB_from a (by omega), show j / 64 = k by omega, hz, bit_zero]
theorem least_hit {s : List Int} {k : Int} (hs : OkW s) (h : ∀ j : Int, 0 ≤ j → j < 64 * k → gB (fromW s) j = false) (h0 : 0 ≤ k) (h1 : k < 4) (hz : ¬ gI s k = 0) : 64 * k + tzI (gI s k) = leastD (fromW s) := by
  have h2 := tz_lt (hs.2 k) hz
  refine least_at (by omega) (by omega) (fun j a b => ?_) ?_
  · by_cases hj : j < 64 * k
    · exact h j a hj
    · rw [gB_from a (by omega), show j / 64 = k by omega]
      exact tz_low (hs.2 k) hz (by omega) (by omega)
  · rw [gB_from (by omega) (by omega), show (64 * k + tzI (gI s k)) / 64 = k by omega, show (64 * k + tzI (gI s k)) % 64 = tzI (gI s k) by omega]
    exact tz_bit (hs.2 k) hz
/- Len. -/
theorem ls_count {s : List Int} {q : Nat} (hq : q < 4) : ∀ n, n ≤ 64 → (lsD (fromW s) (64 * q + n)).length = (lsD (fromW s) (64 * q)).length + popN (gI s (q : Int)).toNat n
  | 0, _ => by unfold popN; rfl
  | n + 1, h => by
    have ih := ls_count (s := s) hq n (by omega)
    have e : gB (fromW s) ((64 * q + n : Nat) : Int) = (gI s (q : Int)).toNat.testBit n := by
      rw [gB_from (by omega) (by omega), show ((64 * q + n : Nat) : Int) / 64 = (q : Int) by omega, show ((64 * q + n : Nat) : Int) % 64 = (n : Int) by omega]
      rfl
    rw [← Nat.add_assoc, lsD, e]
    unfold popN
    split
    · rw [List.length_append, ih]
      simp
      omega
    · rw [ih]
      omega
theorem lenN_ls {s : List Int} : ∀ q, q ≤ 4 → lenN s q = ((lsD (fromW s) (64 * q)).length : Int)
  | 0, _ => rfl
  | q + 1, h => by
    rw [lenN, lenN_ls q (by omega), onI, show 64 * (q + 1) = 64 * q + 64 by omega, ls_count (by omega) 64 (by omega)]
    omega
theorem lenW_ls (s : List Int) : lenW s = ((lsD (fromW s) 256).length : Int) := lenN_ls 4 (by omega)
theorem lenW_le (s : List Int) : 0 ≤ lenW s ∧ lenW s ≤ 256 := by
  rw [lenW_ls]
  have := ls_len (fromW s) 256
  omega
end Go.Proofs.YtplpgfcjjnaigaaDoor
namespace Go.Proofs.YtplpgfcjjnaigaaDoor
open Go Go.RowKit
theorem leastD_b (l : List Bool) : -1 ≤ leastD l ∧ leastD l < 256 := by
  unfold leastD
  split
  · rename_i i h
    have := List.mem_of_find?_eq_some h
    have := List.mem_range.1 this
    omega
  · omega
def fullW (n : Int) : List Int := ofZW (fun j => lowW (if max n 0 > 256 then 64 else min (max (max n 0 - 64 * j) 0) 64))
theorem fullW_W (n : Int) : OkW (fullW n) := okW_of4 fun j _ _ => lowW_W (by split <;> omega) (by split <;> omega)
def orS (s t : List Int) : List Int := ofZW (fun j => orW (gI s j) (gI t j))
def andS (s t : List Int) : List Int := ofZW (fun j => andW (gI s j) (gI t j))
def minusS (s t : List Int) : List Int := ofZW (fun j => notW (gI s j) (gI t j))
def orD (l r : List Bool) : List Bool := ofZ (fun j => gB l j || gB r j)
def andD (l r : List Bool) : List Bool := ofZ (fun j => gB l j && gB r j)
def minusD (l r : List Bool) : List Bool := ofZ (fun j => gB l j && !gB r j)
def fullD (n : Int) : List Bool := ofZ (fun j => decide (j < n))
def emptyD : List Bool := List.replicate 256 false
theorem okW_orS {s t : List Int} (h : OkW s) (h2 : OkW t) : OkW (orS s t) := okW_or h h2
theorem okW_andS {s t : List Int} (h : OkW s) (h2 : OkW t) : OkW (andS s t) := okW_and h h2
theorem okW_minusS {s t : List Int} (h : OkW s) (h2 : OkW t) : OkW (minusS s t) := okW_minus h h2
theorem orD_len (l r : List Bool) : (orD l r).length = 256 := ofZ_len _
theorem andD_len (l r : List Bool) : (andD l r).length = 256 := ofZ_len _
theorem minusD_len (l r : List Bool) : (minusD l r).length = 256 := ofZ_len _
theorem fullD_len (n : Int) : (fullD n).length = 256 := ofZ_len _
theorem from_orS {s t : List Int} : fromW (orS s t) = orD (fromW s) (fromW t) := from_or
theorem from_andS {s t : List Int} : fromW (andS s t) = andD (fromW s) (fromW t) := from_and
theorem from_minusS {s t : List Int} (ht : OkW t) : fromW (minusS s t) = minusD (fromW s) (fromW t) := from_minus ht
theorem from_00 : fromW ([0, 0, 0, 0] : List Int) = emptyD := from_0
theorem gB_orD {l r : List Bool} {j : Int} (h0 : 0 ≤ j) (h1 : j < 256) : gB (orD l r) j = (gB l j || gB r j) := gB_ofZ h0 h1
theorem gB_andD {l r : List Bool} {j : Int} (h0 : 0 ≤ j) (h1 : j < 256) : gB (andD l r) j = (gB l j && gB r j) := gB_ofZ h0 h1
theorem gB_minusD {l r : List Bool} {j : Int} (h0 : 0 ≤ j) (h1 : j < 256) : gB (minusD l r) j = (gB l j && !gB r j) := gB_ofZ h0 h1
theorem gB_fullD {n j : Int} (h0 : 0 ≤ j) (h1 : j < 256) : gB (fullD n) j = decide (j < n) := gB_ofZ h0 h1
theorem gB_emptyD (j : Int) : gB emptyD j = false := gB_rep _ _
theorem from_full {n : Int} : fromW (fullW n) = fullD n :=
  list_ext (from_len _) (fullD_len n) fun j a b => by
    rw [gB_from a b, gB_fullD a b, fullW, gI_ofZW (by omega) (by omega), bit_low (by split <;> omega) (by omega), decide_eq_decide]
    split <;> omega
end Go.Proofs.YtplpgfcjjnaigaaDoor
namespace Go.Proofs.YtplpgfcjjnaigaaDoor
open Go Go.RowKit
theorem set_iff {a b : List Int} (ha : OkW a) (hb : OkW b) : a = b ↔ ∀ j : Int, 0 ≤ j → j < 256 → gB (fromW a) j = gB (fromW b) j :=
  ⟨fun h j _ _ => by rw [h], fun h => from_inj ha hb (list_ext (from_len _) (from_len _) h)⟩
section
variable {s t u : List Int} (hs : OkW s) (ht : OkW t) (hu : OkW u)
include hs ht
end
def cB (l : List Bool) (n : Nat) : Int := ((lsD l n).length : Int)
theorem cB_s (l : List Bool) (n : Nat) : cB l (n + 1) = cB l n + (if gB l (n : Int) = true then 1 else 0) := by
  unfold cB
  rw [lsD]
  split <;> simp
theorem lenW_c (s : List Int) : lenW s = cB (fromW s) 256 := lenW_ls s
theorem cB_minus (l r : List Bool) : ∀ n, n ≤ 256 → cB (minusD l r) n = cB l n - cB (andD l r) n
  | 0, _ => rfl
  | n + 1, h => by
    have ih := cB_minus l r n (by omega)
    rw [cB_s, cB_s, cB_s, gB_minusD (by omega) (by omega), gB_andD (by omega) (by omega)]
    cases gB l (n : Int) <;> cases gB r (n : Int) <;> simp <;> omega
theorem cB_put {l : List Bool} (hl : l.length = 256) (k : Int) (v : Bool) : ∀ n, n ≤ 256 → cB (putD l k v) n = cB l n + (if 0 ≤ k ∧ k < n then (if v = true then 1 else 0) - (if gB l k = true then 1 else 0) else 0)
  | 0, _ => by rw [if_neg (by omega)]; rfl
  | n + 1, h => by
    have ih := cB_put hl k v n (by omega)
    rw [cB_s, cB_s, gB_put hl (by omega) (by omega), ih]
    by_cases hk : k = (n : Int)
    · subst hk
      rw [if_neg (show ¬ (0 ≤ (n : Int) ∧ (n : Int) < (n : Int)) by omega), if_pos rfl, if_pos (show 0 ≤ (n : Int) ∧ (n : Int) < ((n + 1 : Nat) : Int) by omega)]
      cases v <;> cases gB l (n : Int) <;> simp <;> omega
    · rw [if_neg hk]
      by_cases h1 : 0 ≤ k ∧ k < (n : Int)
      · rw [if_pos h1, if_pos (show 0 ≤ k ∧ k < ((n + 1 : Nat) : Int) by omega)]
        omega
      · rw [if_neg h1, if_neg (show ¬ (0 ≤ k ∧ k < ((n + 1 : Nat) : Int)) by omega)]
        omega
theorem len_minus {s t : List Int} (ht : OkW t) : lenW (minusS s t) = lenW s - lenW (andS s t) := by
  rw [lenW_c, lenW_c, lenW_c, from_minusS ht, from_andS]
  exact cB_minus _ _ 256 (by omega)
theorem len_with {s : List Int} {n m : Int} (hs : OkW s) (hm : m = if 0 ≤ n ∧ n < 256 ∧ hasW s n = false then 1 else 0) : lenW (withW s n) = lenW s + m := by
  subst hm
  rw [lenW_c, lenW_c, from_with hs, cB_put (from_len _) n true 256 (by omega), hasW_from, hasD]
  by_cases h : 0 ≤ n ∧ n < 256
  · rw [if_pos (show 0 ≤ n ∧ n < ((256 : Nat) : Int) by omega), decide_eq_true h, Bool.true_and]
    cases gB (fromW s) n
    · rw [if_pos (show 0 ≤ n ∧ n < 256 ∧ false = false from ⟨h.1, h.2, rfl⟩)]
      rfl
    · rw [if_neg (show ¬ (0 ≤ n ∧ n < 256 ∧ true = false) from fun hh => by cases hh.2.2)]
      rfl
  · rw [if_neg (show ¬ (0 ≤ n ∧ n < ((256 : Nat) : Int)) by omega), if_neg (fun hh => h ⟨hh.1, hh.2.1⟩)]
end Go.Proofs.YtplpgfcjjnaigaaDoor
namespace Go.Proofs.YtplpgfcjjnaigaaDoor
open Go Go.RowKit
theorem mem_ls {l : List Bool} {z : Int} : ∀ {n : Nat}, z ∈ lsD l n ↔ 0 ≤ z ∧ z < (n : Int) ∧ gB l z = true
  | 0 => by
    refine ⟨fun h => (List.not_mem_nil h).elim, fun h => by omega⟩
  | n + 1 => by
    have ih := mem_ls (l := l) (z := z) (n := n)
    rw [lsD]
    by_cases hb : gB l (n : Int) = true
    · rw [if_pos hb, List.mem_append, ih, List.mem_singleton]
      constructor
      · rintro (h | rfl)
        · exact ⟨h.1, by omega, h.2.2⟩
        · exact ⟨by omega, by omega, hb⟩
      · rintro ⟨h1, h2, h3⟩
        by_cases e : z = (n : Int)
        · exact .inr e
        · exact .inl ⟨h1, by omega, h3⟩
    · rw [if_neg hb, ih]
      constructor
      · rintro ⟨h1, h2, h3⟩
        exact ⟨h1, by omega, h3⟩
      · rintro ⟨h1, h2, h3⟩
        by_cases e : z = (n : Int)
        · subst e
          exact (hb h3).elim
        · exact ⟨h1, by omega, h3⟩
theorem ls_lt (l : List Bool) : ∀ n : Nat, (lsD l n).Pairwise (· < ·)
  | 0 => List.Pairwise.nil
  | n + 1 => by
    rw [lsD]
    split
    · rw [List.pairwise_append]
      refine ⟨ls_lt l n, List.pairwise_singleton _ _, fun a ha b hb => ?_⟩
      rw [List.mem_singleton] at hb
      subst hb
      exact (mem_ls.1 ha).2.1
    · exact ls_lt l n
theorem least_ls (l : List Bool) : leastD l = match lsD l 256 with | [] => -1 | a :: _ => a := by
  cases h : lsD l 256 with
  | nil =>
    simp only
    refine (least_no (k := 256) (by omega) fun j a b => ?_).symm
    by_cases hj : gB l j = true
    · have : j ∈ lsD l 256 := mem_ls.2 ⟨a, by omega, hj⟩
      rw [h] at this
      exact (List.not_mem_nil this).elim
    · simpa using hj
  | cons x r =>
    simp only
    have hx : x ∈ lsD l 256 := by rw [h]; exact List.mem_cons_self
    have hx := mem_ls.1 hx
    have hp := ls_lt l 256
    rw [h, List.pairwise_cons] at hp
    refine (least_at hx.1 (by omega) (fun j a b => ?_) hx.2.2).symm
    by_cases hj : gB l j = true
    · have : j ∈ lsD l 256 := mem_ls.2 ⟨a, by omega, hj⟩
      rw [h, List.mem_cons] at this
      rcases this with e | e
      · omega
      · have := hp.1 _ e
        omega
    · simpa using hj
theorem gB_foldl : ∀ (l : List Int) {s : List Bool} (hs : s.length = 256) {j : Int} (a : 0 ≤ j) (b : j < 256), gB (l.foldl (fun s n => putD s n true) s) j = (gB s j || decide (j ∈ l))
  | [], s, hs, j, a, b => by simp
  | n :: l, s, hs, j, a, b => by
    rw [List.foldl_cons, gB_foldl l (put_len hs) a b, gB_put hs a b]
    by_cases e : n = j
    · subst e
      simp
    · rw [if_neg e]
      have e2 : ¬ j = n := fun h => e h.symm
      simp [List.mem_cons, e2]
theorem gB_ofD (l : List Int) {j : Int} (a : 0 ≤ j) (b : j < 256) : gB (ofD l) j = decide (j ∈ l) := by
  unfold ofD
  rw [gB_foldl l List.length_replicate a b, gB_rep, Bool.false_or]
def FineT (l : List Int) : Prop := (∀ z ∈ l, 0 ≤ z ∧ z ≤ 255) ∧ l.Pairwise (· < ·)
instance (l : List Int) : Decidable (FineT l) := by unfold FineT; exact inferInstance
theorem drop_at {l r : List Int} {k : Int} (h0 : 0 ≤ k) (h1 : k < (l.length : Int)) : l.drop k.toNat = gI l k :: l.drop (k + 1).toNat := by
  rw [show (k + 1).toNat = k.toNat + 1 by omega, List.drop_eq_getElem_cons (show k.toNat < l.length by omega)]
  simp only [gI, List.getD_eq_getElem?_getD, List.getElem?_eq_getElem (show k.toNat < l.length by omega), Option.getD_some]
theorem ls_full (n : Int) : ∀ m : Nat, m ≤ 256 → lsD (fullD n) m = (List.range (min m n.toNat)).map Int.ofNat
  | 0, _ => by rw [Nat.zero_min]; rfl
  | m + 1, h => by
    rw [lsD, ls_full n m (by omega), gB_fullD (by omega) (by omega)]
    by_cases hm : (m : Int) < n
    · rw [if_pos (decide_eq_true hm), show min (m + 1) n.toNat = m + 1 by omega, show min m n.toNat = m by omega, List.range_succ, List.map_append]
      rfl
    · rw [decide_eq_false hm, if_neg (by decide), show min (m + 1) n.toNat = min m n.toNat by omega]
theorem ls_fullW (n : Int) : lsD (fromW (fullW n)) 256 = (List.range (max 0 (min n 256)).toNat).map Int.ofNat := by
  rw [from_full, ls_full n 256 (by omega), show min 256 n.toNat = (max 0 (min n 256)).toNat by omega]
theorem full_len (n : Int) : lenW (fullW n) = max 0 (min n 256) := by
  rw [lenW_ls, ls_fullW, List.length_map, List.length_range]
  omega
end Go.Proofs.YtplpgfcjjnaigaaDoor
namespace Go.Proofs.YtplpgfcjjnaigaaDoor
open Go Go.RowKit
theorem ls_get {l : List Bool} {k : Int} (h0 : 0 ≤ k) (h1 : k < ((lsD l 256).length : Int)) : gI (lsD l 256) k ∈ lsD l 256 := by
  simp only [gI, List.getD_eq_getElem?_getD, List.getElem?_eq_getElem (show k.toNat < (lsD l 256).length by omega), Option.getD_some]
  exact List.getElem_mem _
theorem gB_withW {sm : List Int} (hm : OkW sm) {i j : Int} (a : 0 ≤ j) (b : j < 256) : gB (fromW (withW sm i)) j = if i = j then true else gB (fromW sm) j := by rw [from_with hm, gB_put (from_len _) a b]
end Go.Proofs.YtplpgfcjjnaigaaDoor
namespace Go.Proofs.YtplpgfcjjnaigaaDoor
open Go Go.RowKit
def Rank (g : GameL) (I : List Bool) (p : Int) (T : List Bool) (mvs ord : List Int) : Prop :=
  ∀ a j b, ord = a ++ j :: b → gB T j = true ∨ (gI g.ow j = p ∧ gI mvs j ∈ gL g.mv j ∧ gI mvs j ∈ a) ∨ (gI g.ow j ≠ p ∧ ∀ x ∈ gL g.mv j, gB I x = true → x ∈ a)
structure MovA (g : GameL) (I : List Bool) (p : Int) (T S : List Bool) (mvs : List Int) : Prop where
  ml : mvs.length = g.ow.length
  mv : ∀ i : Int, 0 ≤ i → i < (g.ow.length : Int) → (gB S i = true ∧ gB T i = false ∧ gI g.ow i = p) ∨ gI mvs i = -1
  rank : ∃ ord : List Int, (∀ j : Int, 0 ≤ j → j < 256 → (gB S j = true ↔ j ∈ ord)) ∧ (∀ j ∈ ord, 0 ≤ j ∧ j < (g.ow.length : Int) ∧ gB I j = true) ∧ Rank g I p T mvs ord
theorem cM_one : ∀ {l : List Int} {f : Int → Bool} {m : Int}, l.Nodup → m ∈ l → f m = true → cM l (fun x => f x && !decide (x = m)) = cM l f - 1
  | [], _, _, _, h, _ => by cases h
  | y :: l, f, m, hn, hm, hf => by
    rw [List.nodup_cons] at hn
    unfold cM
    by_cases e : y = m
    · subst e
      have h1 : l.filter (fun x => f x && !decide (x = y)) = l.filter f := List.filter_congr fun x hx => by
        have : ¬ x = y := fun h => hn.1 (h ▸ hx)
        simp [this]
      simp only [List.filter_cons, hf, h1]
      simp
    · have hm' : m ∈ l := (List.mem_cons.1 hm).resolve_left fun h => e h.symm
      have ih := cM_one hn.2 hm' hf
      unfold cM at ih
      simp only [List.filter_cons, e]
      cases hy : f y
      · simpa using ih
      · simp only [decide_false, Bool.not_false, Bool.and_self, if_true, List.length_cons]
        omega
structure AW (g : GameL) (I : List Bool) (p : Int) (T S : List Bool) (op lf mvs pr cur rest : List Int) : Prop where
  nd : (pr ++ op).Nodup
  mem : ∀ j : Int, 0 ≤ j → j < 256 → (gB S j = true ↔ j ∈ pr ++ op)
  rng : ∀ j ∈ pr ++ op, 0 ≤ j ∧ j < (g.ow.length : Int) ∧ gB I j = true
  ll : lf.length = g.ow.length
  ml : mvs.length = g.ow.length
  left : ∀ i : Int, 0 ≤ i → i < (g.ow.length : Int) → gB I i = true → gI lf i = cM (gL g.mv i) (fun x => gB I x && !decide (x ∈ (if i ∈ rest then pr else pr ++ cur)))
  own : ∀ i : Int, 0 ≤ i → i < (g.ow.length : Int) → gB I i = true → gI g.ow i = p → gB S i = false → ∀ x ∈ gL g.mv i, x ∉ (if i ∈ rest then pr else pr ++ cur)
  oth : ∀ i : Int, 0 ≤ i → i < (g.ow.length : Int) → gB I i = true → gI g.ow i ≠ p → gB S i = false → 0 < gI lf i ∨ ∀ x ∈ gL g.mv i, gB I x = false
  base : ∀ j : Int, 0 ≤ j → j < 256 → gB T j = true → gB I j = true → gB S j = true
  snd : ∀ C, AttC g I p T C → ∀ j ∈ pr ++ op, gB C j = true
  rank : Rank g I p T mvs (pr ++ op)
  mv : ∀ i : Int, 0 ≤ i → i < (g.ow.length : Int) → (gB S i = true ∧ gB T i = false ∧ gI g.ow i = p) ∨ gI mvs i = -1
theorem aw_start {g : GameL} (hG : RightG g) {I T S : List Bool} {p : Int} {lf mvs : List Int} (hI : ∀ j : Int, 0 ≤ j → j < 256 → gB I j = true → j < (g.ow.length : Int))
    (hS : ∀ j : Int, 0 ≤ j → j < 256 → gB S j = (gB T j && gB I j)) (hll : lf.length = g.ow.length) (hml : mvs.length = g.ow.length)
    (hlf : ∀ i : Int, 0 ≤ i → i < (g.ow.length : Int) → gB I i = true → gI lf i = cM (gL g.mv i) (gB I)) (hmv : ∀ i : Int, 0 ≤ i → i < (g.ow.length : Int) → gI mvs i = -1) :
    AW g I p T S (lsD S 256) lf mvs [] [] [] := by
  have hn := hG.n1
  have hb : ∀ j ∈ lsD S 256, 0 ≤ j ∧ j < 256 ∧ gB T j = true ∧ gB I j = true := fun j hj => by
    have h := mem_ls.1 hj
    have h2 := hS j h.1 (by omega)
    rw [h.2.2] at h2
    have h3 : gB T j = true ∧ gB I j = true := by simpa using h2.symm
    exact ⟨h.1, by omega, h3.1, h3.2⟩
  refine ⟨?_, fun j a b => ?_, fun j hj => ?_, hll, hml, fun i a b c => ?_, fun i a b c d e x hx => by simp, fun i a b c d e => ?_, fun j a b c d => ?_, fun C hC j hj => ?_, fun a j b e => ?_, fun i a b => .inr (hmv i a b)⟩
  · rw [List.nil_append]
    exact (ls_lt S 256).imp (fun h => by omega)
  · rw [List.nil_append, mem_ls]
    exact ⟨fun h => ⟨a, by omega, h⟩, fun h => h.2.2⟩
  · have h := hb j (by simpa using hj)
    exact ⟨h.1, hI j h.1 h.2.1 h.2.2.2, h.2.2.2⟩
  · rw [hlf i a b c]
    exact cM_congr fun x _ => by simp
  · rw [hlf i a b c]
    by_cases h : 0 < cM (gL g.mv i) (gB I)
    · exact .inl h
    · exact .inr (cM_zero (by omega))
  · rw [hS j a b, c, d]
    rfl
  · have h := hb j (by simpa using hj)
    exact hC.base j h.1 h.2.1 h.2.2.1 h.2.2.2
  · exact .inl (hb j (by rw [List.nil_append] at e; rw [e]; simp)).2.2.1
def LeadsT (g : GameL) (I : List Bool) (m : Int) (r : List Int) : Prop := r.Nodup ∧ ∀ i : Int, i ∈ r ↔ (0 ≤ i ∧ i < (g.ow.length : Int) ∧ gB I i = true ∧ gB I m = true ∧ m ∈ gL g.mv i)
theorem aw_open {g : GameL} {I T S : List Bool} {p m : Int} {op lf mvs pr r : List Int} (h : AW g I p T S (m :: op) lf mvs pr [] []) (hr : LeadsT g I m r) : AW g I p T S (m :: op) lf mvs pr [m] r := by
  have hm := h.rng m (by simp)
  refine ⟨h.nd, h.mem, h.rng, h.ll, h.ml, fun i a b c => ?_, fun i a b c d e x hx => ?_, h.oth, h.base, h.snd, h.rank, h.mv⟩
  · rw [h.left i a b c]
    refine cM_congr fun x hx => ?_
    by_cases hi : i ∈ r
    · simp [hi]
    · have hxm : ¬ (x = m ∧ gB I x = true) := fun hh => hi ((hr.2 i).2 ⟨a, b, c, hm.2.2, hh.1 ▸ hx⟩)
      simp only [List.not_mem_nil, hi, if_false, List.append_nil]
      cases hIx : gB I x
      · rfl
      · have : ¬ x = m := fun hh => hxm ⟨hh, hIx⟩
        simp [this]
  · have h2 := h.own i a b c d e x hx
    simp only [List.not_mem_nil, if_false, List.append_nil] at h2
    by_cases hi : i ∈ r
    · rw [if_pos hi]
      exact h2
    · rw [if_neg hi, List.mem_append, not_or]
      refine ⟨h2, fun hh => ?_⟩
      rw [List.mem_singleton] at hh
      exact hi ((hr.2 i).2 ⟨a, b, c, hm.2.2, hh ▸ hx⟩)
theorem gI_setE {l : List Int} {i j v : Int} (h0 : 0 ≤ i) (h1 : i < l.length) (h2 : 0 ≤ j) : gI (l.set i.toNat v) j = if i = j then v else gI l j := gI_set' h0 h1 h2
theorem aw_left {g : GameL} (hnd : ∀ i : Int, 0 ≤ i → i < (g.ow.length : Int) → (gL g.mv i).Nodup) {I T S : List Bool} {p m i : Int} {op lf mvs pr r : List Int} (h : AW g I p T S (m :: op) lf mvs pr [m] (i :: r)) (hr : LeadsT g I m (i :: r) ∨ True) (hi : 0 ≤ i ∧ i < (g.ow.length : Int) ∧ gB I i = true ∧ gB I m = true ∧ m ∈ gL g.mv i) (hnr : i ∉ r) :
    ∀ j : Int, 0 ≤ j → j < (g.ow.length : Int) → gB I j = true → gI (lf.set i.toNat (gI lf i - 1)) j = cM (gL g.mv j) (fun x => gB I x && !decide (x ∈ (if j ∈ r then pr else pr ++ [m]))) := by
  intro j a b c
  have hll := h.ll
  rw [gI_setE hi.1 (by omega) a]
  by_cases e : i = j
  · subst e
    rw [if_pos rfl, h.left i a b c]
    have hmp : m ∉ pr := fun hm => by
      have := h.nd
      rw [List.nodup_append] at this
      exact this.2.2 m hm m (by simp) rfl
    have := cM_one (f := fun x => gB I x && !decide (x ∈ pr)) (hnd i a b) hi.2.2.2.2 (by simp [hi.2.2.2.1, hmp])
    rw [show cM (gL g.mv i) (fun x => gB I x && !decide (x ∈ (if i ∈ i :: r then pr else pr ++ [m]))) = cM (gL g.mv i) (fun x => gB I x && !decide (x ∈ pr)) from cM_congr fun x _ => by simp]
    rw [← this]
    refine cM_congr fun x _ => ?_
    simp only [hnr, if_false, List.mem_append, List.mem_singleton]
    cases gB I x <;> by_cases h1 : x ∈ pr <;> by_cases h2 : x = m <;> simp [h1, h2]
  · rw [if_neg e, h.left j a b c]
    refine cM_congr fun x _ => ?_
    have : j ∈ i :: r ↔ j ∈ r := by
      rw [List.mem_cons]
      exact ⟨fun hh => hh.resolve_left fun h2 => e h2.symm, .inr⟩
    by_cases hj : j ∈ r
    · rw [if_pos (this.2 hj), if_pos hj]
    · rw [if_neg (fun hh => hj (this.1 hh)), if_neg hj]
theorem in_rest {i j : Int} {r pr : List Int} {m : Int} (e : i ≠ j) {x : Int} : x ∈ (if j ∈ i :: r then pr else pr ++ [m]) ↔ x ∈ (if j ∈ r then pr else pr ++ [m]) := by
  have : j ∈ i :: r ↔ j ∈ r := by
    rw [List.mem_cons]
    exact ⟨fun hh => hh.resolve_left fun h2 => e h2.symm, .inr⟩
  by_cases hj : j ∈ r
  · rw [if_pos (this.2 hj), if_pos hj]
  · rw [if_neg (fun hh => hj (this.1 hh)), if_neg hj]
theorem aw_skip {g : GameL} (hnd : ∀ i : Int, 0 ≤ i → i < (g.ow.length : Int) → (gL g.mv i).Nodup) {I T S : List Bool} {p m i : Int} {op lf mvs pr r : List Int} (h : AW g I p T S (m :: op) lf mvs pr [m] (i :: r)) (hi : 0 ≤ i ∧ i < (g.ow.length : Int) ∧ gB I i = true ∧ gB I m = true ∧ m ∈ gL g.mv i) (hnr : i ∉ r)
    (hs : gB S i = true ∨ (gI g.ow i ≠ p ∧ 0 < gI lf i - 1)) : AW g I p T S (m :: op) (lf.set i.toNat (gI lf i - 1)) mvs pr [m] r := by
  have hll := h.ll
  refine ⟨h.nd, h.mem, h.rng, by rw [List.length_set]; exact hll, h.ml, aw_left hnd h (.inr trivial) hi hnr, fun j a b c d e x hx => ?_, fun j a b c d e => ?_, h.base, h.snd, h.rank, h.mv⟩
  · by_cases hj : i = j
    · subst hj
      rcases hs with hs | hs
      · rw [hs] at e
        cases e
      · exact absurd d hs.1
    · have := h.own j a b c d e x hx
      rwa [in_rest hj] at this
  · rw [gI_setE hi.1 (by omega) a]
    by_cases hj : i = j
    · subst hj
      rw [if_pos rfl]
      rcases hs with hs | hs
      · rw [hs] at e
        cases e
      · exact .inl hs.2
    · rw [if_neg hj]
      exact h.oth j a b c d e
theorem concat_split {l a b : List Int} {i j : Int} (h : l ++ [i] = a ++ j :: b) : (b = [] ∧ j = i ∧ a = l) ∨ ∃ b', l = a ++ j :: b' := by
  rcases List.eq_nil_or_concat b with hb | ⟨b', y, hb⟩
  · subst hb
    have := List.append_inj' h rfl
    refine .inl ⟨rfl, ?_, this.1.symm⟩
    have h2 := this.2
    simp at h2
    exact h2.symm
  · rw [List.concat_eq_append] at hb
    subst hb
    have h2 : l ++ [i] = (a ++ j :: b') ++ [y] := by rw [h]; simp
    exact .inr ⟨b', (List.append_inj' h2 rfl).1⟩
theorem aw_add {g : GameL} (hG : RightG g) (hnd : ∀ i : Int, 0 ≤ i → i < (g.ow.length : Int) → (gL g.mv i).Nodup) {I T S : List Bool} (hSl : S.length = 256) {p m i : Int} {op lf mvs mvs' pr r : List Int} (h : AW g I p T S (m :: op) lf mvs pr [m] (i :: r)) (hi : 0 ≤ i ∧ i < (g.ow.length : Int) ∧ gB I i = true ∧ gB I m = true ∧ m ∈ gL g.mv i) (hnr : i ∉ r)
    (hs : gB S i = false) (hs2 : gI g.ow i = p ∨ gI lf i - 1 ≤ 0) (hmv : (gI g.ow i = p ∧ mvs' = mvs.set i.toNat m) ∨ (gI g.ow i ≠ p ∧ mvs' = mvs)) : AW g I p T (putD S i true) (m :: op ++ [i]) (lf.set i.toNat (gI lf i - 1)) mvs' pr [m] r := by
  have hll := h.ll
  have hml := h.ml
  have hn := hG.n1
  have hni : i ∉ pr ++ m :: op := fun hm => by
    rw [← h.mem i hi.1 (by omega)] at hm
    rw [hm] at hs
    cases hs
  have hml' : mvs'.length = g.ow.length := by
    rcases hmv with ⟨_, rfl⟩ | ⟨_, rfl⟩
    · rw [List.length_set]; exact hml
    · exact hml
  have hne : ∀ j : Int, 0 ≤ j → j ≠ i → gI mvs' j = gI mvs j := fun j a hj => by
    rcases hmv with ⟨_, rfl⟩ | ⟨_, rfl⟩
    · rw [gI_setE hi.1 (by omega) a, if_neg (fun e => hj e.symm)]
    · rfl
  have hleft := aw_left hnd h (.inr trivial) hi hnr
  have hall : gI g.ow i ≠ p → ∀ x ∈ gL g.mv i, gB I x = true → x ∈ pr ++ [m] := fun hp x hx hIx => by
    have h1 := hleft i hi.1 hi.2.1 hi.2.2.1
    rw [gI_setE hi.1 (by omega) hi.1, if_pos rfl] at h1
    have h2 := cM_zero (l := gL g.mv i) (f := fun x => gB I x && !decide (x ∈ (if i ∈ r then pr else pr ++ [m]))) (by rw [← h1]; exact hs2.resolve_left hp) x hx
    rw [hIx] at h2
    simp only [hnr, if_false, Bool.true_and] at h2
    by_cases hx2 : x ∈ pr ++ [m]
    · exact hx2
    · rw [decide_eq_false hx2] at h2
      cases h2
  have el : pr ++ (m :: op ++ [i]) = (pr ++ m :: op) ++ [i] := by simp
  have hput : ∀ j : Int, 0 ≤ j → j < 256 → gB (putD S i true) j = if i = j then true else gB S j := fun j a b => gB_put hSl a b
  refine ⟨?_, fun j a b => ?_, fun j hj => ?_, by rw [List.length_set]; exact hll, hml', hleft, fun j a b c d e x hx => ?_, fun j a b c d e => ?_, fun j a b c d => ?_, fun C hC j hj => ?_, ?_, fun j a b => ?_⟩
  · rw [el, List.nodup_append]
    refine ⟨h.nd, List.nodup_cons.2 ⟨List.not_mem_nil, List.nodup_nil⟩, fun a ha b hb => ?_⟩
    rw [List.mem_singleton] at hb
    subst hb
    exact fun e => hni (e ▸ ha)
  · rw [hput j a b, el, List.mem_append, List.mem_singleton]
    by_cases e : i = j
    · subst e
      simp
    · rw [if_neg e, h.mem j a b]
      exact ⟨.inl, fun hh => hh.resolve_right fun h2 => e h2.symm⟩
  · rw [el, List.mem_append, List.mem_singleton] at hj
    rcases hj with hj | rfl
    · exact h.rng j hj
    · exact ⟨hi.1, hi.2.1, hi.2.2.1⟩
  · rw [hput j a (by omega)] at e
    by_cases hj : i = j
    · rw [if_pos hj] at e
      cases e
    · rw [if_neg hj] at e
      have := h.own j a b c d e x hx
      rwa [in_rest hj] at this
  · rw [hput j a (by omega)] at e
    by_cases hj : i = j
    · rw [if_pos hj] at e
      cases e
    · rw [if_neg hj] at e
      rw [gI_setE hi.1 (by omega) a, if_neg hj]
      exact h.oth j a b c d e
  · rw [hput j a b]
    split
    · rfl
    · exact h.base j a b c d
  · rw [el, List.mem_append, List.mem_singleton] at hj
    rcases hj with hj | rfl
    · exact h.snd C hC j hj
    · by_cases hp : gI g.ow j = p
      · exact hC.own j hi.1 hi.2.1 hi.2.2.1 hp m hi.2.2.2.2 hi.2.2.2.1 (h.snd C hC m (by simp))
      · refine hC.oth j hi.1 hi.2.1 hi.2.2.1 hp ⟨m, hi.2.2.2.2, hi.2.2.2.1⟩ fun x hx hIx => h.snd C hC x ?_
        have := hall hp x hx hIx
        rw [List.mem_append, List.mem_singleton] at this
        rw [List.mem_append, List.mem_cons]
        exact this.imp id .inl
  · intro a j b e
    rw [el] at e
    rcases concat_split e with ⟨rfl, rfl, rfl⟩ | ⟨b', e2⟩
    · by_cases hp : gI g.ow j = p
      · refine .inr (.inl ⟨hp, ?_⟩)
        have hm : gI mvs' j = m := by
          rcases hmv with ⟨_, rfl⟩ | ⟨h2, _⟩
          · rw [gI_setE hi.1 (by omega) hi.1, if_pos rfl]
          · exact absurd hp h2
        rw [hm]
        exact ⟨hi.2.2.2.2, by simp⟩
      · refine .inr (.inr ⟨hp, fun x hx hIx => ?_⟩)
        have := hall hp x hx hIx
        rw [List.mem_append, List.mem_singleton] at this
        rw [List.mem_append, List.mem_cons]
        exact this.imp id .inl
    · have hj : j ∈ pr ++ m :: op := by rw [e2]; simp
      have hji : j ≠ i := fun e3 => hni (e3 ▸ hj)
      have hj0 := (h.rng j hj).1
      rw [hne j hj0 hji]
      exact h.rank a j b' e2
  · rw [hput j a (by omega)]
    by_cases hj : i = j
    · subst hj
      rw [if_pos rfl]
      by_cases hp : gI g.ow i = p
      · by_cases ht : gB T i = true
        · have := h.base i a (by omega) ht hi.2.2.1
          rw [this] at hs
          cases hs
        · exact .inl ⟨rfl, by simpa using ht, hp⟩
      · refine .inr ?_
        rcases hmv with ⟨h2, _⟩ | ⟨_, rfl⟩
        · exact absurd h2 hp
        · rcases h.mv i a b with h3 | h3
          · rw [h3.1] at hs
            cases hs
          · exact h3
    · rw [if_neg hj, hne j a (fun e => hj e.symm)]
      exact h.mv j a b
theorem aw_close {g : GameL} {I T S : List Bool} {p m : Int} {op lf mvs pr : List Int} (h : AW g I p T S (m :: op) lf mvs pr [m] []) : AW g I p T S op lf mvs (pr ++ [m]) [] [] := by
  have e : pr ++ [m] ++ op = pr ++ m :: op := by simp
  refine ⟨by rw [e]; exact h.nd, fun j a b => by rw [e]; exact h.mem j a b, fun j hj => h.rng j (by rw [← e]; exact hj), h.ll, h.ml, fun i a b c => ?_, fun i a b c d f x hx => ?_, h.oth, h.base, fun C hC j hj => h.snd C hC j (by rw [← e]; exact hj), by rw [e]; exact h.rank, h.mv⟩
  · rw [h.left i a b c]
    exact cM_congr fun x _ => by simp
  · have := h.own i a b c d f x hx
    simpa using this
theorem aw_end {g : GameL} (hG : RightG g) {I T S : List Bool} {p : Int} {lf mvs pr : List Int} (h : AW g I p T S [] lf mvs pr [] []) : AttrT g I p T S ∧ MovA g I p T S mvs := by
  have hn := hG.n1
  have hm : ∀ j : Int, 0 ≤ j → j < 256 → (gB S j = true ↔ j ∈ pr) := fun j a b => by simpa using h.mem j a b
  have hr : ∀ j ∈ pr, 0 ≤ j ∧ j < (g.ow.length : Int) ∧ gB I j = true := fun j hj => h.rng j (by simpa using hj)
  refine ⟨⟨⟨h.base, fun i a b c d x hx hIx hSx => ?_, fun i a b c d hex hal => ?_⟩, fun j a b hj => (hr j ((hm j a b).1 hj)).2.2, fun C hC j a b hj => h.snd C hC j (by simpa using (hm j a b).1 hj)⟩, ⟨h.ml, h.mv, pr, hm, hr, by simpa using h.rank⟩⟩
  · by_cases hs : gB S i = true
    · exact hs
    · have h1 := h.own i a b c d (by simpa using hs) x hx
      have hx2 : 0 ≤ x ∧ x < 256 := by
        obtain ⟨k, hk, rfl⟩ := List.mem_iff_getElem.1 hx
        have := hG.mv i a b (k : Int) (by omega) (by omega)
        have e : gI (gL g.mv i) (k : Int) = (gL g.mv i)[k] := by simp only [gI, Int.toNat_natCast, List.getD_eq_getElem?_getD, List.getElem?_eq_getElem hk, Option.getD_some]
        rw [e] at this
        omega
      have h2 := (hm x hx2.1 hx2.2).1 hSx
      simp at h1
      exact absurd h2 h1
  · by_cases hs : gB S i = true
    · exact hs
    · rcases h.oth i a b c d (by simpa using hs) with h1 | h1
      · rw [h.left i a b c] at h1
        obtain ⟨x, hx, hf⟩ := cM_pos h1
        simp only [List.not_mem_nil, if_false, List.append_nil, Bool.and_eq_true, Bool.not_eq_true', decide_eq_false_iff_not] at hf
        have hx2 : 0 ≤ x ∧ x < 256 := by
          obtain ⟨k, hk, rfl⟩ := List.mem_iff_getElem.1 hx
          have := hG.mv i a b (k : Int) (by omega) (by omega)
          have e : gI (gL g.mv i) (k : Int) = (gL g.mv i)[k] := by simp only [gI, Int.toNat_natCast, List.getD_eq_getElem?_getD, List.getElem?_eq_getElem hk, Option.getD_some]
          rw [e] at this
          omega
        exact absurd ((hm x hx2.1 hx2.2).1 (hal x hx hf.1)) hf.2
      · obtain ⟨x, hx, hIx⟩ := hex
        rw [h1 x hx] at hIx
        cases hIx
end Go.Proofs.YtplpgfcjjnaigaaDoor
namespace Go.Proofs.YtplpgfcjjnaigaaDoor
open Go Go.RowKit
theorem mv_sorted {g : GameL} (hG : RightG g) {i : Int} (a : 0 ≤ i) (b : i < (g.ow.length : Int)) : (gL g.mv i).Pairwise (· < ·) := by
  have hup := hG.up i a b
  generalize gL g.mv i = l at *
  have h2 : ∀ d k : Nat, k + d + 1 < l.length → gI l (k : Int) < gI l ((k + d + 1 : Nat) : Int) := by
    intro d
    induction d with
    | zero =>
      intro k hk
      have := hup ((k + 0 + 1 : Nat) : Int) (by omega) (by omega)
      rwa [show (((k + 0 + 1 : Nat) : Int) - 1) = (k : Int) by omega] at this
    | succ d ih =>
      intro k hk
      have h3 := ih k (by omega)
      have h4 := hup ((k + (d + 1) + 1 : Nat) : Int) (by omega) (by omega)
      rw [show (((k + (d + 1) + 1 : Nat) : Int) - 1) = ((k + d + 1 : Nat) : Int) by omega] at h4
      omega
  rw [List.pairwise_iff_getElem]
  intro x y hx hy hxy
  have := h2 (y - x - 1) x (by omega)
  rw [show x + (y - x - 1) + 1 = y by omega, gI_eq (by omega) (by omega), gI_eq (by omega) (by omega)] at this
  exact this
theorem mv_nd {g : GameL} (hG : RightG g) : ∀ i : Int, 0 ≤ i → i < (g.ow.length : Int) → (gL g.mv i).Nodup := fun i a b =>
  (mv_sorted hG a b).imp (fun h => by omega)
theorem mem_take {l : List Int} {q x : Int} (h0 : 0 ≤ q) (h1 : q < (l.length : Int)) : x ∈ l.take (q + 1).toNat ↔ x ∈ l.take q.toNat ∨ x = gI l q := by
  rw [show (q + 1).toNat = q.toNat + 1 by omega, List.take_succ_eq_append_getElem (show q.toNat < l.length by omega), ← gI_eq h0 h1, List.mem_append, List.mem_singleton]
theorem not_take {l : List Int} (hn : l.Nodup) {q : Int} (h0 : 0 ≤ q) (h1 : q < (l.length : Int)) : gI l q ∉ l.take q.toNat := fun h => by
  obtain ⟨k, hk, e⟩ := List.mem_iff_getElem.1 h
  rw [List.length_take] at hk
  rw [List.getElem_take, gI_eq h0 h1] at e
  have := (List.getElem_inj hn).1 e
  omega
structure FrA (g : GameL) (I : List Bool) (fr : List (List Int)) (lf : List Int) (i q : Int) : Prop where
  len : fr.length = g.ow.length
  ll : lf.length = g.ow.length
  mem : ∀ m j : Int, 0 ≤ m → m < (g.ow.length : Int) → (j ∈ gL fr m ↔ 0 ≤ j ∧ j < (g.ow.length : Int) ∧ gB I j = true ∧ gB I m = true ∧ ((j < i ∧ m ∈ gL g.mv j) ∨ (j = i ∧ m ∈ (gL g.mv i).take q.toNat)))
  nd : ∀ m : Int, 0 ≤ m → m < (g.ow.length : Int) → (gL fr m).Nodup
  lf : ∀ j : Int, 0 ≤ j → j < (g.ow.length : Int) → gI lf j = if j < i then (if gB I j = true then cM (gL g.mv j) (gB I) else 0) else if j = i then cM ((gL g.mv i).take q.toNat) (gB I) else 0
  cnt : ∀ m : Int, 0 ≤ m → m < (g.ow.length : Int) → ((gL fr m).length : Int) ≤ 200 * i + q
theorem gI_rep0 (n : Nat) (m : Int) : gI (List.replicate n 0) m = 0 := by
  simp only [gI, List.getD_eq_getElem?_getD, List.getElem?_replicate]
  split <;> rfl
theorem fra0 {g : GameL} {I : List Bool} : FrA g I (List.replicate g.ow.length []) (List.replicate g.ow.length 0) 0 0 := by
  refine ⟨List.length_replicate, List.length_replicate, fun m j a b => ?_, fun m a b => by rw [gL_rep]; exact List.nodup_nil, fun j a b => ?_, fun m a b => by rw [gL_rep]; simp⟩
  · rw [gL_rep]
    refine ⟨fun h => (List.not_mem_nil h).elim, fun h => ?_⟩
    rcases h.2.2.2.2 with h2 | h2
    · omega
    · simp at h2
  · rw [gI_rep0, if_neg (by omega)]
    split
    · simp [cM]
    · rfl
theorem fra_row {g : GameL} (hG : RightG g) {I : List Bool} {fr : List (List Int)} {lf : List Int} {i q : Int} (h : FrA g I fr lf i q) (h0 : 0 ≤ i) (h1 : i < (g.ow.length : Int)) (hq : ((gL g.mv i).length : Int) ≤ q) (hq2 : q ≤ ((gL g.mv i).length : Int)) (hI : gB I i = true) : FrA g I fr lf (i + 1) 0 := by
  have hr := row_len hG h0 h1
  have hn := hG.n1
  have e : (gL g.mv i).take q.toNat = gL g.mv i := List.take_of_length_le (by omega)
  refine ⟨h.len, h.ll, fun m j a b => ?_, h.nd, fun j a b => ?_, fun m a b => by have := h.cnt m a b; omega⟩
  · rw [h.mem m j a b, e]
    constructor
    · rintro ⟨c, d, f, k, l⟩
      refine ⟨c, d, f, k, ?_⟩
      rcases l with l | l
      · exact .inl ⟨by omega, l.2⟩
      · obtain ⟨rfl, l⟩ := l
        exact .inl ⟨by omega, l⟩
    · rintro ⟨c, d, f, k, l⟩
      refine ⟨c, d, f, k, ?_⟩
      rcases l with l | l
      · by_cases hj : j = i
        · subst hj
          exact .inr ⟨rfl, l.2⟩
        · exact .inl ⟨by omega, l.2⟩
      · simp at l
  · rw [h.lf j a b]
    by_cases hj : j < i
    · rw [if_pos hj, if_pos (show j < i + 1 by omega)]
    · rw [if_neg hj]
      by_cases he : j = i
      · subst he
        rw [if_pos rfl, if_pos (by omega), if_pos hI, e]
      · rw [if_neg he, if_neg (by omega)]
        split
        · simp [cM]
        · rfl
theorem fra_out {g : GameL} (hG : RightG g) {I : List Bool} {fr : List (List Int)} {lf : List Int} {i : Int} (h : FrA g I fr lf i 0) (h0 : 0 ≤ i) (h1 : i < (g.ow.length : Int)) (hI : gB I i = false) : FrA g I fr lf (i + 1) 0 := by
  refine ⟨h.len, h.ll, fun m j a b => ?_, h.nd, fun j a b => ?_, fun m a b => by have := h.cnt m a b; omega⟩
  · rw [h.mem m j a b]
    constructor
    · rintro ⟨c, d, f, k, l⟩
      refine ⟨c, d, f, k, ?_⟩
      rcases l with l | l
      · exact .inl ⟨by omega, l.2⟩
      · simp at l
    · rintro ⟨c, d, f, k, l⟩
      refine ⟨c, d, f, k, ?_⟩
      rcases l with l | l
      · by_cases hj : j = i
        · subst hj
          rw [hI] at f
          cases f
        · exact .inl ⟨by omega, l.2⟩
      · simp at l
  · rw [h.lf j a b]
    by_cases hj : j < i
    · rw [if_pos hj, if_pos (show j < i + 1 by omega)]
    · rw [if_neg hj]
      by_cases he : j = i
      · subst he
        rw [if_pos rfl, if_pos (by omega), if_neg (by rw [hI]; decide)]
        simp [cM]
      · rw [if_neg he, if_neg (by omega)]
        split
        · simp [cM]
        · rfl
theorem fra_skip {g : GameL} (hG : RightG g) {I : List Bool} {fr : List (List Int)} {lf : List Int} {i q : Int} (h : FrA g I fr lf i q) (h0 : 0 ≤ i) (h1 : i < (g.ow.length : Int)) (k0 : 0 ≤ q) (k1 : q < ((gL g.mv i).length : Int)) (hm : gB I (gI (gL g.mv i) q) = false) : FrA g I fr lf i (q + 1) := by
  refine ⟨h.len, h.ll, fun m j a b => ?_, h.nd, fun j a b => ?_, fun m a b => by have := h.cnt m a b; omega⟩
  · rw [h.mem m j a b, mem_take k0 k1]
    constructor
    · rintro ⟨c, d, f, k, l⟩
      exact ⟨c, d, f, k, l.imp id fun x => ⟨x.1, .inl x.2⟩⟩
    · rintro ⟨c, d, f, k, l⟩
      refine ⟨c, d, f, k, l.imp id fun x => ⟨x.1, x.2.resolve_right fun e => ?_⟩⟩
      subst e
      rw [hm] at k
      cases k
  · rw [h.lf j a b, take_cM k0 k1, if_neg (show ¬ gB I (gI (gL g.mv i) q) = true by rw [hm]; decide), Int.add_zero]
theorem fra_push {g : GameL} (hG : RightG g) {I : List Bool} {fr : List (List Int)} {lf : List Int} {i q : Int} (h : FrA g I fr lf i q) (h0 : 0 ≤ i) (h1 : i < (g.ow.length : Int)) (k0 : 0 ≤ q) (k1 : q < ((gL g.mv i).length : Int)) (hI : gB I i = true) (hm : gB I (gI (gL g.mv i) q) = true) :
    FrA g I (fr.set (gI (gL g.mv i) q).toNat (gL fr (gI (gL g.mv i) q) ++ [i])) (lf.set i.toNat (gI lf i + 1)) i (q + 1) := by
  have hr := hG.mv i h0 h1 q k0 k1
  have hl := h.len
  have hll := h.ll
  have hni : i ∉ gL fr (gI (gL g.mv i) q) := fun hh => by
    rcases ((h.mem _ i hr.1 hr.2).1 hh).2.2.2.2 with l | l
    · omega
    · exact not_take (mv_nd hG i h0 h1) k0 k1 l.2
  refine ⟨by rw [List.length_set]; exact hl, by rw [List.length_set]; exact hll, fun m j a b => ?_, fun m a b => ?_, fun j a b => ?_, fun m a b => ?_⟩
  · rw [gL_set hr.1 (by omega) a, mem_take k0 k1]
    by_cases e : gI (gL g.mv i) q = m
    · rw [if_pos e, List.mem_append, List.mem_singleton, e, h.mem m j a b]
      constructor
      · rintro (⟨c, d, f, k, l⟩ | rfl)
        · exact ⟨c, d, f, k, l.imp id fun x => ⟨x.1, .inl x.2⟩⟩
        · exact ⟨h0, h1, hI, e ▸ hm, .inr ⟨rfl, .inr rfl⟩⟩
      · rintro ⟨c, d, f, k, l⟩
        by_cases hj : j = i
        · exact .inr hj
        · refine .inl ⟨c, d, f, k, ?_⟩
          rcases l with l | l
          · exact .inl l
          · exact absurd l.1 hj
    · rw [if_neg e, h.mem m j a b]
      constructor
      · rintro ⟨c, d, f, k, l⟩
        exact ⟨c, d, f, k, l.imp id fun x => ⟨x.1, .inl x.2⟩⟩
      · rintro ⟨c, d, f, k, l⟩
        exact ⟨c, d, f, k, l.imp id fun x => ⟨x.1, x.2.resolve_right fun e2 => e e2.symm⟩⟩
  · rw [gL_set hr.1 (by omega) a]
    by_cases e : gI (gL g.mv i) q = m
    · rw [if_pos e, List.nodup_append]
      refine ⟨h.nd _ hr.1 hr.2, List.nodup_cons.2 ⟨List.not_mem_nil, List.nodup_nil⟩, fun x hx y hy => ?_⟩
      rw [List.mem_singleton] at hy
      subst hy
      exact fun e3 => hni (e3 ▸ hx)
    · rw [if_neg e]
      exact h.nd m a b
  · rw [gI_setE h0 (by omega) a]
    have h5 := h.lf j a b
    by_cases hj : i = j
    · subst hj
      rw [if_pos rfl, if_neg (by omega), if_pos rfl, take_cM k0 k1, if_pos hm]
      rw [if_neg (by omega), if_pos rfl] at h5
      omega
    · rw [if_neg hj, h5]
      by_cases hlt : j < i
      · rw [if_pos hlt, if_pos hlt]
      · rw [if_neg hlt, if_neg hlt, if_neg (fun e => hj e.symm), if_neg (fun e => hj e.symm)]
  · rw [gL_set hr.1 (by omega) a]
    have h3 := h.cnt m a b
    have h4 := h.cnt _ hr.1 hr.2
    split
    · rw [List.length_append]
      simp
      omega
    · omega
theorem fra_leads {g : GameL} {I : List Bool} {fr : List (List Int)} {lf : List Int} (h : FrA g I fr lf (g.ow.length : Int) 0) {m : Int} (a : 0 ≤ m) (b : m < (g.ow.length : Int)) : LeadsT g I m (gL fr m) := by
  refine ⟨h.nd m a b, fun i => ?_⟩
  rw [h.mem m i a b]
  constructor
  · rintro ⟨c, d, f, k, l⟩
    refine ⟨c, d, f, k, ?_⟩
    rcases l with l | l
    · exact l.2
    · simp at l
  · rintro ⟨c, d, f, k, l⟩
    exact ⟨c, d, f, k, .inl ⟨d, l⟩⟩
theorem fra_lf {g : GameL} {I : List Bool} {fr : List (List Int)} {lf : List Int} (h : FrA g I fr lf (g.ow.length : Int) 0) : ∀ i : Int, 0 ≤ i → i < (g.ow.length : Int) → gB I i = true → gI lf i = cM (gL g.mv i) (gB I) := fun i a b c => by
  rw [h.lf i a b, if_pos b, if_pos c]
def inS (g : GameL) (s : List Int) : List Int := andS s (fullW ((g.ow.length : Nat) : Int))
def inT (g : GameL) (s : List Int) : List Bool := fromW (inS g s)
theorem inS_ok {g : GameL} {s : List Int} (h : OkW s) : OkW (inS g s) := okW_andS h (fullW_W _)
theorem gB_inT {g : GameL} {s : List Int} {j : Int} (a : 0 ≤ j) (b : j < 256) : gB (inT g s) j = (gB (fromW s) j && decide (j < (g.ow.length : Int))) := by
  rw [inT, inS, from_andS, gB_andD a b, from_full, gB_fullD a b]
theorem inT_lt {g : GameL} {s : List Int} : ∀ j : Int, 0 ≤ j → j < 256 → gB (inT g s) j = true → j < (g.ow.length : Int) := fun j a b h => by
  rw [gB_inT a b, Bool.and_eq_true] at h
  exact of_decide_eq_true h.2
theorem has_inT {g : GameL} {s : List Int} {m : Int} (a : 0 ≤ m) (b : m < 256) : hasW (inS g s) m = gB (inT g s) m := by
  rw [hasW_from, hasD, decide_eq_true ⟨a, b⟩, Bool.true_and, inT]
def AttractT (g : GameL) (s : List Int) (p : Int) (t ss mvs : List Int) : Prop :=
  OkW ss ∧ ((¬ (isR g = true ∧ (p = 0 ∨ p = 1)) ∧ ss = [0, 0, 0, 0] ∧ mvs = []) ∨ (isR g = true ∧ (p = 0 ∨ p = 1) ∧ AttrT g (inT g s) p (fromW t) (fromW ss) ∧ MovA g (inT g s) p (fromW t) (fromW ss) mvs))
end Go.Proofs.YtplpgfcjjnaigaaDoor
namespace Go.Proofs.YtplpgfcjjnaigaaDoor
open Go Go.RowKit
theorem ms_next {ms : List Int} {i : Int} (h : ∀ j : Int, 0 ≤ j → j < i → gI ms j = -1) (h0 : 0 ≤ i) (h1 : i < (ms.length : Int)) : ∀ j : Int, 0 ≤ j → j < i + 1 → gI (ms.set i.toNat (-1)) j = -1 := fun j a b => by
  rw [gI_setE h0 (by omega) a]
  split
  · rfl
  · exact h j a (by omega)
theorem cM_le (l : List Int) (f : Int → Bool) : cM l f ≤ (l.length : Int) := by
  have := List.length_filter_le f l
  unfold cM
  omega
theorem fra_lb {g : GameL} {I : List Bool} {fr : List (List Int)} {lf : List Int} {i q : Int} (h : FrA g I fr lf i q) (h0 : 0 ≤ i) (h1 : i < (g.ow.length : Int)) (hq : 0 ≤ q) : 0 ≤ gI lf i ∧ gI lf i ≤ q := by
  have e := h.lf i h0 h1
  rw [if_neg (by omega), if_pos rfl] at e
  have h2 := cM_le ((gL g.mv i).take q.toNat) (gB I)
  have h3 := cM_ge ((gL g.mv i).take q.toNat) (gB I)
  rw [List.length_take] at h2
  omega
theorem aw_lb {g : GameL} (hG : RightG g) {I T S : List Bool} {p i : Int} {op lf mvs pr cur rest : List Int} (h : AW g I p T S op lf mvs pr cur rest) (h0 : 0 ≤ i) (h1 : i < (g.ow.length : Int)) (hi : gB I i = true) : 0 ≤ gI lf i ∧ gI lf i ≤ 200 := by
  have e := h.left i h0 h1 hi
  rw [e]
  have h2 := cM_le (gL g.mv i) (fun x => gB I x && !decide (x ∈ (if i ∈ rest then pr else pr ++ cur)))
  have h3 := row_len hG h0 h1
  have h4 := hG.n1
  exact ⟨cM_ge _ _, by omega⟩
theorem aw_len {g : GameL} {I T S : List Bool} {p : Int} {op lf mvs pr cur rest : List Int} (h : AW g I p T S op lf mvs pr cur rest) : op.length ≤ g.ow.length := by
  have h1 : op.Nodup := (List.nodup_append.1 h.nd).2.1
  have hr : ∀ j ∈ op, 0 ≤ j ∧ j < (g.ow.length : Int) := fun j hj => by
    have := h.rng j (List.mem_append.2 (.inr hj))
    exact ⟨this.1, this.2.1⟩
  have h2 : (op.map Int.toNat).Nodup := by
    refine List.pairwise_map.2 (List.Pairwise.imp_of_mem (fun {a b} ha hb hab e => hab ?_) h1)
    have := hr a ha
    have := hr b hb
    omega
  have h3 : (op.map Int.toNat) ⊆ List.range g.ow.length := fun x hx => by
    obtain ⟨y, hy, rfl⟩ := List.mem_map.1 hx
    have := hr y hy
    simp
    omega
  have := List.Nodup.length_le_of_subset h2 h3
  simpa using this
theorem op_cons {op : List Int} (h : 0 < op.length) : op = gI op 0 :: op.drop 1 := by
  cases op with
  | nil => simp at h
  | cons x r => rfl
theorem nd_drop {l : List Int} (h : l.Nodup) {k : Int} (h0 : 0 ≤ k) (h1 : k < (l.length : Int)) : gI l k ∉ l.drop (k + 1).toNat := by
  have h2 : (l.drop k.toNat).Nodup := h.sublist (List.drop_sublist _ _)
  rw [drop_at (r := []) h0 h1, List.nodup_cons] at h2
  exact h2.1
theorem has_W {s : List Int} {i : Int} (a : 0 ≤ i) (b : i < 256) : hasW s i = gB (fromW s) i := by rw [hasW_from, hasD, decide_eq_true ⟨a, b⟩, Bool.true_and]
theorem right_of2 {g : GameL} (h : (rightP g).2 = 0) : isR g = true := by unfold isR; simp [h]
theorem right_no3 {g : GameL} {p : Int} (h : (rightP g).2 ≠ 0 ∨ (p ≠ 0 ∧ p ≠ 1)) : ¬ (isR g = true ∧ (p = 0 ∨ p = 1)) := fun h2 => by
  have h3 := h2.1
  unfold isR at h3
  simp at h3
  omega
end Go.Proofs.YtplpgfcjjnaigaaDoor
namespace Go.Proofs.YtplpgfcjjnaigaaDoor
open Go Go.RowKit
section
variable {g : GameL} {s t ss mvs : List Int} {p : Int}
theorem att_ok (h : AttractT g s p t ss mvs) : OkW ss := h.1
theorem att_len (h : AttractT g s p t ss mvs) : mvs.length ≤ 200 := by
  rcases h.2 with h2 | h2
  · rw [h2.2.2]
    decide
  · have := h2.2.2.2.ml
    have := (isR_ok h2.1).n1
    omega
theorem eq_00 {x : List Int} (hx : OkW x) (h : ∀ j : Int, 0 ≤ j → j < 256 → gB (fromW x) j = false) : x = [0, 0, 0, 0] :=
  (set_iff hx okW_00).2 fun j a b => by rw [h j a b, from_00, gB_emptyD]
end
end Go.Proofs.YtplpgfcjjnaigaaDoor
namespace Go.Proofs.YtplpgfcjjnaigaaDoor
open Go Go.RowKit
def inP (s : List Int) (i : Int) : Prop := 0 ≤ i ∧ i < 256 ∧ gB (fromW s) i = true
instance (s : List Int) (i : Int) : Decidable (inP s i) := by unfold inP; exact inferInstance
structure LiveT (g : GameL) (s : List Int) : Prop where
  lt : ∀ i, inP s i → i < (g.ow.length : Int)
  mv : ∀ i, inP s i → ∃ x ∈ gL g.mv i, inP s x
theorem inP_00 (i : Int) : ¬ inP [0, 0, 0, 0] i := fun h => by
  have := h.2.2
  rw [from_00, gB_emptyD] at this
  cases this
theorem inP_minus {s t : List Int} (ht : OkW t) (i : Int) : inP (minusS s t) i ↔ inP s i ∧ ¬ inP t i := by
  unfold inP
  constructor
  · rintro ⟨a, b, c⟩
    rw [from_minusS ht, gB_minusD a b, Bool.and_eq_true] at c
    exact ⟨⟨a, b, c.1⟩, fun h => by rw [h.2.2] at c; cases c.2⟩
  · rintro ⟨⟨a, b, c⟩, d⟩
    refine ⟨a, b, ?_⟩
    rw [from_minusS ht, gB_minusD a b, c, Bool.true_and]
    cases h : gB (fromW t) i with
    | false => rfl
    | true => exact absurd ⟨a, b, h⟩ d
theorem inP_or {s t : List Int} (i : Int) : inP (orS s t) i ↔ inP s i ∨ inP t i := by
  unfold inP
  constructor
  · rintro ⟨a, b, c⟩
    rw [from_orS, gB_orD a b, Bool.or_eq_true] at c
    exact c.elim (fun h => .inl ⟨a, b, h⟩) (fun h => .inr ⟨a, b, h⟩)
  · rintro (⟨a, b, c⟩ | ⟨a, b, c⟩)
    · exact ⟨a, b, by rw [from_orS, gB_orD a b, c]; rfl⟩
    · exact ⟨a, b, by rw [from_orS, gB_orD a b, c, Bool.or_true]⟩
theorem inP_has {s : List Int} {i : Int} : hasW s i = true ↔ inP s i := by
  unfold inP
  rw [hasW_from, hasD, Bool.and_eq_true, decide_eq_true_iff]
  constructor
  · rintro ⟨⟨a, b⟩, c⟩
    exact ⟨a, b, c⟩
  · rintro ⟨a, b, c⟩
    exact ⟨⟨a, b⟩, c⟩
theorem inP_none {s : List Int} (hs : OkW s) (h : ¬ s = [0, 0, 0, 0]) : ∃ i, inP s i := by
  by_cases h2 : ∃ i, inP s i
  · exact h2
  · exact absurd (eq_00 hs fun j a b => by
      cases hc : gB (fromW s) j with
      | false => rfl
      | true => exact absurd ⟨j, a, b, hc⟩ h2) h
theorem inP_ls {s : List Int} {i : Int} : i ∈ lsD (fromW s) 256 ↔ inP s i := mem_ls
theorem least_inP {s : List Int} (h : ∃ i, inP s i) : inP s (leastD (fromW s)) := by
  obtain ⟨i, hi⟩ := h
  have hm := inP_ls.2 hi
  rw [least_ls]
  cases hl : lsD (fromW s) 256 with
  | nil => rw [hl] at hm; cases hm
  | cons a r => exact inP_ls.1 (by rw [hl]; exact List.mem_cons_self)
theorem inT_inP {g : GameL} {s : List Int} (hl : ∀ i, inP s i → i < (g.ow.length : Int)) {i : Int} (a : 0 ≤ i) (b : i < 256) : gB (inT g s) i = true ↔ inP s i := by
  rw [gB_inT a b, Bool.and_eq_true, decide_eq_true_iff]
  exact ⟨fun h => ⟨a, b, h.1⟩, fun h => ⟨h.2.2, hl i h⟩⟩
theorem draw_of {g : GameL} {s t ss ms : List Int} {p : Int} (hR : isR g = true) (hl : ∀ i, inP s i → i < (g.ow.length : Int)) (h : AttractT g s p t ss ms) {f : Int → Int} (hf : ∀ i, inP ss i → ¬ inP t i → gI g.ow i = p → f i = gI ms i) : ∃ rk, Draw g (inP s) p f (inP t) (inP ss) rk := by
  have hn := (isR_ok hR).n1
  rcases h.2 with h2 | ⟨_, hp, hA, hM⟩
  · exact ⟨fun _ => 0, by rw [h2.2.1]; exact ⟨fun i hi => absurd hi (inP_00 i), fun i hi => absurd hi (inP_00 i), fun i hi => absurd hi (inP_00 i)⟩⟩
  · obtain ⟨ord, h1, h3, h4⟩ := hM.rank
    have hA1 : ∀ x, inP ss x ↔ x ∈ ord := fun x => ⟨fun hx => (h1 x hx.1 hx.2.1).1 hx.2.2, fun hx => by
      have := h3 x hx
      exact ⟨this.1, by omega, (h1 x this.1 (by omega)).2 hx⟩⟩
    have hsub : ∀ x, inP ss x → inP s x := fun x hx => (inT_inP hl hx.1 hx.2.1).1 (hA.sub x hx.1 hx.2.1 hx.2.2)
    have hsp : ∀ j ∈ ord, ord = ord.take (ord.idxOf j) ++ j :: ord.drop (ord.idxOf j + 1) := fun j hj => by
      have hlt := List.idxOf_lt_length_of_mem hj
      have e1 := List.getElem_idxOf hlt
      conv => lhs; rw [← List.take_append_drop (ord.idxOf j) ord, List.drop_eq_getElem_cons hlt, e1]
    have hbef : ∀ (x : Int) (k : Nat), x ∈ ord.take k → ord.idxOf x < k := fun x k hx => by
      rw [← List.take_append_drop k ord, List.idxOf_append, if_pos hx]
      have := List.idxOf_lt_length_of_mem hx
      rw [List.length_take] at this
      omega
    refine ⟨fun x => ord.idxOf x, hsub, fun i hi ht e => ?_, fun i hi ht e m hm hI => ?_⟩
    · have hj := (hA1 i).1 hi
      rw [hf i hi ht e]
      rcases h4 _ _ _ (hsp i hj) with h5 | ⟨_, h6, h7⟩ | ⟨h6, _⟩
      · exact absurd ⟨hi.1, hi.2.1, h5⟩ ht
      · exact ⟨h6, (hA1 _).2 (List.mem_of_mem_take h7), hbef _ _ h7⟩
      · exact absurd e h6
    · have hj := (hA1 i).1 hi
      rcases h4 _ _ _ (hsp i hj) with h5 | ⟨h6, _⟩ | ⟨_, h6⟩
      · exact absurd ⟨hi.1, hi.2.1, h5⟩ ht
      · exact absurd h6 e
      · have := h6 m hm ((inT_inP hl hI.1 hI.2.1).2 hI)
        exact ⟨(hA1 _).2 (List.mem_of_mem_take this), hbef _ _ this⟩
section
variable {g : GameL} {s t ss ms : List Int} {p : Int}
theorem att_inT (hR : isR g = true) (hp : p = 0 ∨ p = 1) (h : AttractT g s p t ss ms) : AttrT g (inT g s) p (fromW t) (fromW ss) ∧ MovA g (inT g s) p (fromW t) (fromW ss) ms := by
  rcases h.2 with h2 | h2
  · exact absurd ⟨hR, hp⟩ h2.1
  · exact h2.2.2
theorem att_sub (hR : isR g = true) (hp : p = 0 ∨ p = 1) (hl : ∀ i, inP s i → i < (g.ow.length : Int)) (h : AttractT g s p t ss ms) : ∀ i, inP ss i → inP s i := fun i hi =>
  (inT_inP hl hi.1 hi.2.1).1 ((att_inT hR hp h).1.sub i hi.1 hi.2.1 hi.2.2)
theorem att_base (hR : isR g = true) (hp : p = 0 ∨ p = 1) (hl : ∀ i, inP s i → i < (g.ow.length : Int)) (h : AttractT g s p t ss ms) : ∀ i, inP t i → inP s i → inP ss i := fun i hi hs =>
  ⟨hi.1, hi.2.1, (att_inT hR hp h).1.cl.base i hi.1 hi.2.1 hi.2.2 ((inT_inP hl hi.1 hi.2.1).2 hs)⟩
theorem att_own (hR : isR g = true) (hp : p = 0 ∨ p = 1) (hl : ∀ i, inP s i → i < (g.ow.length : Int)) (h : AttractT g s p t ss ms) : ∀ i, inP s i → ¬ inP ss i → gI g.ow i = p → ∀ m ∈ gL g.mv i, inP s m → ¬ inP ss m := fun i hi ha e m hm hI hc =>
  ha ⟨hi.1, hi.2.1, (att_inT hR hp h).1.cl.own i hi.1 (hl i hi) ((inT_inP hl hi.1 hi.2.1).2 hi) e m hm ((inT_inP hl hI.1 hI.2.1).2 hI) hc.2.2⟩
theorem att_live (hR : isR g = true) (hp : p = 0 ∨ p = 1) (hL : LiveT g s) (h : AttractT g s p t ss ms) : LiveT g (minusS s ss) := by
  have hok := h.1
  refine ⟨fun i hi => hL.lt i ((inP_minus hok i).1 hi).1, fun i hi => ?_⟩
  obtain ⟨h1, h2⟩ := (inP_minus hok i).1 hi
  by_cases e : gI g.ow i = p
  · obtain ⟨x, hx, hxs⟩ := hL.mv i h1
    exact ⟨x, hx, (inP_minus hok x).2 ⟨hxs, att_own hR hp hL.lt h i h1 h2 e x hx hxs⟩⟩
  · by_cases hall : ∀ x ∈ gL g.mv i, inP s x → inP ss x
    · refine absurd ⟨h1.1, h1.2.1, (att_inT hR hp h).1.cl.oth i h1.1 (hL.lt i h1) ((inT_inP hL.lt h1.1 h1.2.1).2 h1) e ?_ ?_⟩ h2
      · obtain ⟨x, hx, hxs⟩ := hL.mv i h1
        exact ⟨x, hx, (inT_inP hL.lt hxs.1 hxs.2.1).2 hxs⟩
      · intro x hx hxs
        have hr := row_rng hR h1.1 (hL.lt i h1) hx
        have hn := (isR_ok hR).n1
        exact (hall x hx ((inT_inP hL.lt hr.1 (by omega)).1 hxs)).2.2
    · have : ∃ x ∈ gL g.mv i, inP s x ∧ ¬ inP ss x := by
        refine Classical.byContradiction fun hc => hall fun x hx hxs => Classical.byContradiction fun hn => hc ⟨x, hx, hxs, hn⟩
      obtain ⟨x, hx, hxs, hn⟩ := this
      exact ⟨x, hx, (inP_minus hok x).2 ⟨hxs, hn⟩⟩
theorem att_mv (hR : isR g = true) (hp : p = 0 ∨ p = 1) (h : AttractT g s p t ss ms) {i : Int} (a : 0 ≤ i) (b : i < (g.ow.length : Int)) : (inP ss i ∧ ¬ inP t i ∧ gI g.ow i = p) ∨ gI ms i = -1 := by
  have hn := (isR_ok hR).n1
  rcases (att_inT hR hp h).2.mv i a b with ⟨h1, h2, h3⟩ | h1
  · exact .inl ⟨⟨a, by omega, h1⟩, (fun h => by rw [h.2.2] at h2; cases h2), h3⟩
  · exact .inr h1
end
theorem len_sub {s t : List Int} (ht : OkW t) (h : ∃ i, inP s i ∧ inP t i) : lenW (minusS s t) < lenW s := by
  rw [len_minus ht]
  obtain ⟨i, h1, h2⟩ := h
  have : 0 < lenW (andS s t) := by
    rw [lenW_ls]
    have hm : i ∈ lsD (fromW (andS s t)) 256 := mem_ls.2 ⟨h1.1, h1.2.1, by rw [from_andS, gB_andD h1.1 h1.2.1, h1.2.2, h2.2.2]; rfl⟩
    have := List.length_pos_of_mem hm
    omega
  omega
def KeepT (l m m' : List Int) : Prop := m'.length = m.length ∧ ∀ i : Int, 0 ≤ i → i < (m.length : Int) → gI m' i = if i < (l.length : Int) ∧ 0 ≤ gI l i then gI l i else gI m i
structure PartS (g : GameL) (s : List Int) (p : Int) (sp sq mp mq mp' mq' : List Int) : Prop where
  okp : OkW sp
  okq : OkW sq
  lp : mp'.length = mp.length
  lq : mq'.length = mq.length
  all : ∀ i, inP s i ↔ inP sp i ∨ inP sq i
  wp : WinT g (inP s) p (gI mp') (inP sp)
  wq : WinT g (inP s) (1 - p) (gI mq') (inP sq)
  outp : ∀ i, 0 ≤ i → ¬ inP s i → gI mp' i = gI mp i
  outq : ∀ i, 0 ≤ i → ¬ inP s i → gI mq' i = gI mq i
theorem PartS.swap {g : GameL} {s : List Int} {p : Int} {sp sq mp mq mp' mq' : List Int} (h : PartS g s p sp sq mp mq mp' mq') : PartS g s (1 - p) sq sp mq mp mq' mp' :=
  ⟨h.okq, h.okp, h.lq, h.lp, fun i => (h.all i).trans or_comm, h.wq, by rw [show 1 - (1 - p) = p by omega]; exact h.wp, h.outq, h.outp⟩
theorem part_empty {g : GameL} {p : Int} {mp mq : List Int} : PartS g [0, 0, 0, 0] p [0, 0, 0, 0] [0, 0, 0, 0] mp mq mp mq := by
  refine ⟨okW_00, okW_00, rfl, rfl, fun i => ⟨fun h => .inl h, fun h => h.elim id id⟩, ?_, ?_, fun _ _ _ => rfl, fun _ _ _ => rfl⟩
  · exact win_none.iff (fun i => ⟨fun h => inP_00 i h, fun h => h.elim⟩)
  · exact win_none.iff (fun i => ⟨fun h => inP_00 i h, fun h => h.elim⟩)
structure TopT (g : GameL) (s t : List Int) (h : Int) : Prop where
  ok : OkW t
  at_ : ∀ i, inP t i ↔ inP s i ∧ gI g.pr i = h
  le : ∀ i, inP s i → gI g.pr i ≤ h
  ex : ∃ i, inP t i
def MostT (g : GameL) (s t : List Int) (p : Int) (m m' : List Int) : Prop := m'.length = m.length ∧ ∀ i : Int, 0 ≤ i → i < (m.length : Int) → gI m' i = if inP t i ∧ gI g.ow i = p then leastD (fromW (andS (ofW (gL g.mv i)) s)) else gI m i
section
variable {g : GameL} {s t ss ms rp rq mp mq mp1 mq1 mp2 mp3 gs ls tp tq mq2 mq3 : List Int} {p h : Int}
theorem most_mv (hR : isR g = true) (hL : LiveT g s) {i : Int} (hi : inP s i) : leastD (fromW (andS (ofW (gL g.mv i)) s)) ∈ gL g.mv i ∧ inP s (leastD (fromW (andS (ofW (gL g.mv i)) s))) := by
  have hn := (isR_ok hR).n1
  have key : ∀ x, inP (andS (ofW (gL g.mv i)) s) x ↔ x ∈ gL g.mv i ∧ inP s x := fun x => by
    unfold inP
    constructor
    · rintro ⟨a, b, c⟩
      rw [from_andS, gB_andD a b, from_of, gB_ofD _ a b, Bool.and_eq_true, decide_eq_true_iff] at c
      exact ⟨c.1, a, b, c.2⟩
    · rintro ⟨h1, a, b, c⟩
      exact ⟨a, b, by rw [from_andS, gB_andD a b, from_of, gB_ofD _ a b, Bool.and_eq_true, decide_eq_true_iff]; exact ⟨h1, c⟩⟩
  obtain ⟨x, hx, hxs⟩ := hL.mv i hi
  exact (key _).1 (least_inP ⟨x, (key x).2 ⟨hx, hxs⟩⟩)
theorem part_win (hR : isR g = true) (hp : p = 0 ∨ p = 1) (hL : LiveT g s) (hs : OkW s) (hl : mp.length = g.ow.length) (hT : TopT g s t h) (hpt : h % 2 = p) (hA : AttractT g s p t ss ms) (hr : PartS g (minusS s ss) p rp rq mp mq mp1 mq1) (he : rq = [0, 0, 0, 0]) (hK : KeepT ms mp1 mp2) (hM : MostT g s t p mp2 mp3) :
    PartS g s p s [0, 0, 0, 0] mp mq mp3 mq1 := by
  have hok := hA.1
  have hsub := att_sub hR hp hL.lt hA
  have hts : ∀ i, inP t i → inP s i := fun i hi => ((hT.at_ i).1 hi).1
  have htA : ∀ i, inP t i → inP ss i := fun i hi => att_base hR hp hL.lt hA i hi (hts i hi)
  have lp1 := hr.lp
  have lp2 := hK.1
  have lp3 := hM.1
  have e3 : ∀ i, 0 ≤ i → i < (g.ow.length : Int) → ¬ inP t i → gI mp3 i = gI mp2 i := fun i a b ht => by
    rw [hM.2 i a (by omega), if_neg (fun k => ht k.1)]
  have e2 : ∀ i, 0 ≤ i → i < (g.ow.length : Int) → ¬ inP ss i → gI mp2 i = gI mp1 i := fun i a b ha => by
    rw [hK.2 i a (by omega), if_neg]
    rintro ⟨_, h2⟩
    rcases att_mv hR hp hA a b with h3 | h3
    · exact ha h3.1
    · omega
  have hml : ms.length = g.ow.length := (att_inT hR hp hA).2.ml
  obtain ⟨rk, hd⟩ := draw_of hR hL.lt hA (f := gI mp3) (fun i hi ht e => by
    have hlt := hL.lt i (hsub i hi)
    rw [e3 i hi.1 hlt ht, hK.2 i hi.1 (by omega), if_pos]
    obtain ⟨rk0, hd0⟩ := draw_of hR hL.lt hA (f := gI ms) (fun _ _ _ _ => rfl)
    have h1 := (hd0.own i hi ht e).1
    exact ⟨by omega, (row_rng hR hi.1 hlt h1).1⟩)
  refine ⟨hs, okW_00, by omega, hr.lq, fun i => ⟨.inl, fun h => h.elim id (fun h => absurd h (inP_00 i))⟩, ?_, win_none.iff (fun i => ⟨fun h => inP_00 i h, fun h => h.elim⟩), fun i a hi => ?_, fun i a hi => ?_⟩
  · refine win_top (A := inP ss) (M := inP t) (t := h) (rk := rk) hT.at_ hT.le hpt hd htA (fun i hi e => ?_) ?_
    · rw [hM.2 i hi.1 (by have := hL.lt i (hts i hi); omega), if_pos ⟨hi, e⟩]
      exact most_mv hR hL (hts i hi)
    · have h1 := hr.wp
      have h2 : WinT g (fun i => inP s i ∧ ¬ inP ss i) p (gI mp1) (fun i => inP s i ∧ ¬ inP ss i) :=
        (h1.iffI (fun i => (inP_minus hok i).symm)).iff (fun i => by
          rw [← inP_minus hok i, hr.all i, he]
          exact ⟨fun k => k.elim id (fun k => absurd k (inP_00 i)), .inl⟩)
      refine h2.congr fun i hi e => ?_
      have hlt := hL.lt i hi.1
      rw [e3 i hi.1.1 hlt (fun k => hi.2 (htA i k)), e2 i hi.1.1 hlt hi.2]
  · by_cases b : i < (g.ow.length : Int)
    · rw [e3 i a b (fun k => hi (hts i k)), e2 i a b (fun k => hi (hsub i k))]
      exact hr.outp i a (fun k => hi ((inP_minus hok i).1 k).1)
    · have h1 : ∀ l : List Int, l.length = g.ow.length → gI l i = 0 := fun l hl' => by
        simp only [gI, List.getD_eq_getElem?_getD]
        rw [List.getElem?_eq_none (by omega)]
        rfl
      rw [h1 mp3 (by omega), h1 mp hl]
  · exact hr.outq i a (fun k => hi ((inP_minus hok i).1 k).1)
def ResT (s gs rq m m' : List Int) : Prop := m'.length = m.length ∧ ∀ i : Int, 0 ≤ i → i < (m.length : Int) → gI m' i = if inP gs i ∨ (inP s i ∧ ¬ inP rq i) then -1 else gI m i
theorem part_two (hR : isR g = true) (hp : p = 0 ∨ p = 1) (hL : LiveT g s) (hl : mp.length = g.ow.length) (hlq : mq.length = g.ow.length) (hA : AttractT g s p t ss ms) (hr : PartS g (minusS s ss) p rp rq mp mq mp1 mq1) (hB : AttractT g s (1 - p) rq gs ls) (hK : KeepT ls mq1 mq2) (hX : ResT s gs rq mp1 mp2)
    (h2 : PartS g (minusS s gs) p tp tq mp2 mq2 mp3 mq3) : PartS g s p tp (orS tq gs) mp mq mp3 mq3 := by
  have hq : 1 - p = 0 ∨ 1 - p = 1 := by omega
  have hok := hA.1
  have hog := hB.1
  have hsubA := att_sub hR hp hL.lt hA
  have hsubB := att_sub hR hq hL.lt hB
  have hrs : ∀ i, inP rq i → inP s i ∧ ¬ inP ss i := fun i hi => (inP_minus hok i).1 ((hr.all i).2 (.inr hi))
  have hrB : ∀ i, inP rq i → inP gs i := fun i hi => att_base hR hq hL.lt hB i hi (hrs i hi).1
  have lp1 := hr.lp
  have lq1 := hr.lq
  have lq2 := hK.1
  have lp2 := hX.1
  have lp3 := h2.lp
  have lq3 := h2.lq
  have hml : ls.length = g.ow.length := (att_inT hR hq hB).2.ml
  -- the other one's moves in gs: as they were kept
  have e3 : ∀ i, inP gs i → gI mq3 i = gI mq2 i := fun i hi => h2.outq i hi.1 (fun k => ((inP_minus hog i).1 k).2 hi)
  have e2 : ∀ i, 0 ≤ i → i < (g.ow.length : Int) → (inP rq i ∨ ¬ inP gs i) → gI mq2 i = gI mq1 i := fun i a b ht => by
    rw [hK.2 i a (by omega), if_neg]
    rintro ⟨_, h3⟩
    rcases att_mv hR hq hB a b with h4 | h4
    · rcases ht with ht | ht
      · exact h4.2.1 ht
      · exact ht h4.1
    · omega
  obtain ⟨rk, hd⟩ := draw_of hR hL.lt hB (f := gI mq3) (fun i hi ht e => by
    have hlt := hL.lt i (hsubB i hi)
    rw [e3 i hi, hK.2 i hi.1 (by omega), if_pos]
    obtain ⟨rk0, hd0⟩ := draw_of hR hL.lt hB (f := gI ls) (fun _ _ _ _ => rfl)
    have h1 := (hd0.own i hi ht e).1
    exact ⟨by omega, (row_rng hR hi.1 hlt h1).1⟩)
  have hw1 : WinT g (inP s) (1 - p) (gI mq3) (inP rq) := by
    have h1 : WinT g (fun i => inP s i ∧ ¬ inP ss i) (1 - p) (gI mq1) (inP rq) := hr.wq.iffI (fun i => (inP_minus hok i).symm)
    have h3 : WinT g (inP s) (1 - p) (gI mq1) (inP rq) := win_part h1 (fun i hi => hi.1) (fun i hi e m hm hI => ⟨hI, att_own hR hp hL.lt hA i (hrs i hi).1 (hrs i hi).2 (by
      have := (isR_ok hR).ow i hi.1 (hL.lt i (hrs i hi).1)
      omega) m hm hI⟩)
    refine h3.congr fun i hi e => ?_
    rw [e3 i (hrB i hi), e2 i hi.1 (hL.lt i (hrs i hi).1) (.inl hi)]
  have hw2 : WinT g (inP s) (1 - p) (gI mq3) (inP gs) := win_draw (r := fun n => n) hw1 hd hrB
  refine ⟨h2.okp, okW_orS h2.okq hog, by omega, by omega, fun i => ?_, ?_, ?_, fun i a hi => ?_, fun i a hi => ?_⟩
  · rw [inP_or]
    have h3 := h2.all i
    rw [inP_minus hog i] at h3
    constructor
    · intro hi
      by_cases hg : inP gs i
      · exact .inr (.inr hg)
      · exact (h3.1 ⟨hi, hg⟩).elim .inl (fun k => .inr (.inl k))
    · rintro (k | k | k)
      · exact (h3.2 (.inl k)).1
      · exact (h3.2 (.inr k)).1
      · exact hsubB i k
  · have h3 : WinT g (fun i => inP s i ∧ ¬ inP gs i) p (gI mp3) (inP tp) := h2.wp.iffI (fun i => (inP_minus hog i).symm)
    refine win_part h3 (fun i hi => hi.1) (fun i hi e m hm hI => ⟨hI, ?_⟩)
    have h4 := h3.sub i hi
    have := (isR_ok hR).ow i hi.1 (hL.lt i h4.1)
    exact att_own hR hq hL.lt hB i h4.1 h4.2 (by omega) m hm hI
  · have h3 : WinT g (fun i => inP s i ∧ ¬ inP gs i) (1 - p) (gI mq3) (inP tq) := h2.wq.iffI (fun i => (inP_minus hog i).symm)
    exact (win_both hw2 h3).iff (fun i => by rw [inP_or]; exact or_comm)
  · have h3 : ¬ inP (minusS s gs) i := fun k => hi ((inP_minus hog i).1 k).1
    have h4 : ¬ inP (minusS s ss) i := fun k => hi ((inP_minus hok i).1 k).1
    rw [h2.outp i a h3, ← hr.outp i a h4]
    by_cases b : i < (g.ow.length : Int)
    · rw [hX.2 i a (by omega), if_neg]
      rintro (k | k)
      · exact hi (hsubB i k)
      · exact hi k.1
    · have h1 : ∀ l : List Int, l.length = g.ow.length → gI l i = 0 := fun l hl' => by
        simp only [gI, List.getD_eq_getElem?_getD]
        rw [List.getElem?_eq_none (by omega)]
        rfl
      rw [h1 mp2 (by omega), h1 mp1 (by omega)]
  · have h3 : ¬ inP (minusS s gs) i := fun k => hi ((inP_minus hog i).1 k).1
    have h4 : ¬ inP (minusS s ss) i := fun k => hi ((inP_minus hok i).1 k).1
    rw [h2.outq i a h3, ← hr.outq i a h4]
    by_cases b : i < (g.ow.length : Int)
    · exact e2 i a b (.inr (fun k => hi (hsubB i k)))
    · have h1 : ∀ l : List Int, l.length = g.ow.length → gI l i = 0 := fun l hl' => by
        simp only [gI, List.getD_eq_getElem?_getD]
        rw [List.getElem?_eq_none (by omega)]
        rfl
      rw [h1 mq2 (by omega), h1 mq1 (by omega)]
end
end Go.Proofs.YtplpgfcjjnaigaaDoor
