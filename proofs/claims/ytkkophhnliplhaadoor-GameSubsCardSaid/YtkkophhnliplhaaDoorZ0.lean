/-
  Texts of this repo, laid together: the frame of the walks, plain lemmas, walks of Go functions. Conditions: what the theorems name.
-/
import Derived.BigQuiet
import Derived.Deep.DeepCutAuto
import Derived.Deep.Draws
import Derived.Deep.LoopGhost
import Derived.Deep.QuietTactic
import Derived.Deep.RegionHeld3
import Derived.Laws.Cells
import Derived.Laws.MakeOwn
import Derived.Laws.StructEq
import Derived.OrdersHeld
import Derived.Outline
import Derived.ProofKit
import Derived.Still
import Derived.Test.YtkkophhnliplhaaDoorChecked
import Derived.WalkKit
import Derived.WalkSmall
import Derived.WalkSpells
set_option linter.unusedVariables false
set_option linter.unusedSimpArgs false
namespace Go.Proofs.YtkkophhnliplhaaDoor
open Go Go.RowKit
def Drawn (w w' : World) : Prop := ∃ n, w' = w.drewN n
theorem Drawn.refl (w : World) : Drawn w w := ⟨0, rfl⟩
theorem Drawn.step {w w1 : World} (h : Drawn w w1) (n : Nat) : Drawn w (w1.drewN n) := by
  obtain ⟨m, rfl⟩ := h
  exact ⟨m + n, World.drewN_drewN ..⟩
theorem Drawn.drew {w w1 : World} (h : Drawn w w1) : Drawn w w1.drew := h.step 1
theorem below_drewN' {B : Nat} {a w : World} (h : Below B a w) (n : Nat) : Below B a (w.drewN n) := ⟨h.os, h.tape, h.output, h.size, h.block⟩
theorem Drawn.below {w w' : World} (h : Drawn w w') (B : Nat) : Below B w w' := by
  obtain ⟨n, rfl⟩ := h
  exact below_drewN' (Below.refl _ _) n
def Ext (w w' : World) : Prop := Below w.heap.size w w'
theorem Ext.refl (w : World) : Ext w w := Below.refl _ _
theorem Ext.size {w w' : World} (h : Ext w w') : w.heap.size ≤ w'.heap.size := Below.size h
theorem Ext.trans {a b c : World} (h : Ext a b) (k : Ext b c) : Ext a c := Below.trans h (Below.mono k h.size)
theorem Ext.cell {w w' : World} (h : Ext w w') {b o : Nat} {v : Value} (hc : w.cell? ⟨b, o, none⟩ = some v) : w'.cell? ⟨b, o, none⟩ = some v :=
  (Below.cell h (p := ⟨b, o, none⟩) (World.block_lt_of_cell? _ _ hc)).trans hc
theorem Ext.alloc {w w' : World} (h : Ext w w') (o : Obj) : Ext w (w'.alloc o) := Below.alloc h h.size o
theorem Ext.drewN {w w' : World} (h : Ext w w') (n : Nat) : Ext w (w'.drewN n) := below_drewN' h n
theorem Ext.drew {w w' : World} (h : Ext w w') : Ext w w'.drew := Below.drew h
theorem Drawn.ext {w w' : World} (h : Drawn w w') : Ext w w' := h.below _
def RdV (w : World) (lo hi : Nat) (A : Option Addr) (n sz : Nat) (f : Nat → Nat → Value) : Prop :=
  ∀ i q, i < n → q < sz → ∃ ad, A = some ad ∧ lo ≤ ad.block ∧ ad.block < hi ∧ w.cell? ((ad.add (i * sz)).add q) = some (f i q)
theorem add_block (a : Addr) (n : Nat) : (a.add n).block = a.block := by unfold Addr.add; split <;> rfl
theorem add_zero (a : Addr) : a.add 0 = a := by simp [Addr.add]
theorem RdV.gr {w w1 : World} {lo hi : Nat} {A : Option Addr} {n sz : Nat} {f : Nat → Nat → Value} {row : Option Nat} (h : RdV w lo hi A n sz f) (g : w.grownBy w1 row) (hr : ∀ k, row = some k → k < lo ∨ hi ≤ k) : RdV w1 lo hi A n sz f := fun i q hi' hq => by
  obtain ⟨ad, e, h1, h2, hc⟩ := h i q hi' hq
  refine ⟨ad, e, h1, h2, g.cell hc (fun e => ?_)⟩
  rw [add_block, add_block] at e
  have := hr _ e.symm
  omega
theorem RdV.gn {w w1 : World} {lo hi : Nat} {A : Option Addr} {n sz : Nat} {f : Nat → Nat → Value} (h : RdV w lo hi A n sz f) (g : w.grownBy w1 none) : RdV w1 lo hi A n sz f := h.gr g (fun _ h => by cases h)
theorem RdV.gb {w w1 : World} {lo hi b : Nat} {A : Option Addr} {n sz : Nat} {f : Nat → Nat → Value} (h : RdV w lo hi A n sz f) (g : w.grownBy w1 (some b)) (hb : b < lo ∨ hi ≤ b) : RdV w1 lo hi A n sz f := h.gr g (fun k h => by injection h with h; omega)
theorem RdV.wide {w : World} {lo hi lo' hi' : Nat} {A : Option Addr} {n sz : Nat} {f : Nat → Nat → Value} (h : RdV w lo hi A n sz f) (h1 : lo' ≤ lo) (h2 : hi ≤ hi') : RdV w lo' hi' A n sz f := fun i q hi' hq => by
  obtain ⟨ad, e, h3, h4, hc⟩ := h i q hi' hq
  exact ⟨ad, e, by omega, by omega, hc⟩
structure RdI (w : World) (lo hi : Nat) (A : Option Addr) (l : List Int) : Prop where
  len : l.length * 8 ≤ 140737488351232
  row : RdV w lo hi A l.length 1 (fun i _ => .int .i64 (l.getD i 0))
def gI (l : List Int) (i : Int) : Int := l.getD i.toNat 0
theorem RdI.gr {w w1 : World} {lo hi : Nat} {A : Option Addr} {l : List Int} {row : Option Nat} (h : RdI w lo hi A l) (g : w.grownBy w1 row) (hr : ∀ k, row = some k → k < lo ∨ hi ≤ k) : RdI w1 lo hi A l := ⟨h.len, h.row.gr g hr⟩
theorem RdI.gn {w w1 : World} {lo hi : Nat} {A : Option Addr} {l : List Int} (h : RdI w lo hi A l) (g : w.grownBy w1 none) : RdI w1 lo hi A l := h.gr g (fun _ h => by cases h)
theorem RdI.gb {w w1 : World} {lo hi b : Nat} {A : Option Addr} {l : List Int} (h : RdI w lo hi A l) (g : w.grownBy w1 (some b)) (hb : b < lo ∨ hi ≤ b) : RdI w1 lo hi A l := h.gr g (fun k h => by injection h with h; omega)
theorem RdI.wide {w : World} {lo hi lo' hi' : Nat} {A : Option Addr} {l : List Int} (h : RdI w lo hi A l) (h1 : lo' ≤ lo) (h2 : hi ≤ hi') : RdI w lo' hi' A l := ⟨h.len, h.row.wide h1 h2⟩
theorem RdI.get {w : World} {lo hi : Nat} {A : Option Addr} {l : List Int} (h : RdI w lo hi A l) (i : Int) (h0 : 0 ≤ i) (h1 : i < (l.length : Int)) : ∃ ad, A = some ad ∧ lo ≤ ad.block ∧ ad.block < hi ∧ w.cell? (ad.add (i.toNat * 1)) = some (.int .i64 (gI l i)) := by
  obtain ⟨ad, e, h2, h3, hc⟩ := h.row i.toNat 0 (by omega) (by omega)
  exact ⟨ad, e, h2, h3, by rw [add_zero] at hc; exact hc⟩
structure RdB (w : World) (lo hi : Nat) (A : Option Addr) (l : List Bool) : Prop where
  len : l.length ≤ 140737488351232
  row : RdV w lo hi A l.length 1 (fun i _ => .bool (l.getD i false))
def gB (l : List Bool) (i : Int) : Bool := l.getD i.toNat false
theorem RdB.gr {w w1 : World} {lo hi : Nat} {A : Option Addr} {l : List Bool} {row : Option Nat} (h : RdB w lo hi A l) (g : w.grownBy w1 row) (hr : ∀ k, row = some k → k < lo ∨ hi ≤ k) : RdB w1 lo hi A l := ⟨h.len, h.row.gr g hr⟩
theorem RdB.gn {w w1 : World} {lo hi : Nat} {A : Option Addr} {l : List Bool} (h : RdB w lo hi A l) (g : w.grownBy w1 none) : RdB w1 lo hi A l := h.gr g (fun _ h => by cases h)
theorem RdB.gb {w w1 : World} {lo hi b : Nat} {A : Option Addr} {l : List Bool} (h : RdB w lo hi A l) (g : w.grownBy w1 (some b)) (hb : b < lo ∨ hi ≤ b) : RdB w1 lo hi A l := h.gr g (fun k h => by injection h with h; omega)
theorem RdB.wide {w : World} {lo hi lo' hi' : Nat} {A : Option Addr} {l : List Bool} (h : RdB w lo hi A l) (h1 : lo' ≤ lo) (h2 : hi ≤ hi') : RdB w lo' hi' A l := ⟨h.len, h.row.wide h1 h2⟩
theorem RdB.get {w : World} {lo hi : Nat} {A : Option Addr} {l : List Bool} (h : RdB w lo hi A l) (i : Int) (h0 : 0 ≤ i) (h1 : i < (l.length : Int)) : ∃ ad, A = some ad ∧ lo ≤ ad.block ∧ ad.block < hi ∧ w.cell? (ad.add (i.toNat * 1)) = some (.bool (gB l i)) := by
  obtain ⟨ad, e, h2, h3, hc⟩ := h.row i.toNat 0 (by omega) (by omega)
  exact ⟨ad, e, h2, h3, by rw [add_zero] at hc; exact hc⟩
structure RdII (w : World) (lo hi : Nat) (A : Option Addr) (l : List (List Int)) : Prop where
  len : l.length * 24 ≤ 140737488351232
  row : ∃ (R : Nat → Option Addr) (C : Nat → Nat), RdV w lo hi A l.length 1 (fun i _ => .slice (R i) (l.getD i []).length (C i)) ∧ ∀ i, i < l.length → (l.getD i []).length ≤ C i ∧ RdI w lo hi (R i) (l.getD i [])
def gL (l : List (List Int)) (i : Int) : List Int := l.getD i.toNat []
theorem RdII.gr {w w1 : World} {lo hi : Nat} {A : Option Addr} {l : List (List Int)} {row : Option Nat} (h : RdII w lo hi A l) (g : w.grownBy w1 row) (hr : ∀ k, row = some k → k < lo ∨ hi ≤ k) : RdII w1 lo hi A l := by
  obtain ⟨hl, R, C, h1, h2⟩ := h
  exact ⟨hl, R, C, h1.gr g hr, fun i hi => ⟨(h2 i hi).1, (h2 i hi).2.gr g hr⟩⟩
theorem RdII.gn {w w1 : World} {lo hi : Nat} {A : Option Addr} {l : List (List Int)} (h : RdII w lo hi A l) (g : w.grownBy w1 none) : RdII w1 lo hi A l := h.gr g (fun _ h => by cases h)
theorem RdII.gb {w w1 : World} {lo hi b : Nat} {A : Option Addr} {l : List (List Int)} (h : RdII w lo hi A l) (g : w.grownBy w1 (some b)) (hb : b < lo ∨ hi ≤ b) : RdII w1 lo hi A l := h.gr g (fun k h => by injection h with h; omega)
theorem RdII.wide {w : World} {lo hi lo' hi' : Nat} {A : Option Addr} {l : List (List Int)} (h : RdII w lo hi A l) (h1 : lo' ≤ lo) (h2 : hi ≤ hi') : RdII w lo' hi' A l := by
  obtain ⟨hl, R, C, h3, h4⟩ := h
  exact ⟨hl, R, C, h3.wide h1 h2, fun i hi => ⟨(h4 i hi).1, (h4 i hi).2.wide h1 h2⟩⟩
theorem RdII.get {w : World} {lo hi : Nat} {A : Option Addr} {l : List (List Int)} (h : RdII w lo hi A l) (i : Int) (h0 : 0 ≤ i) (h1 : i < (l.length : Int)) :
    ∃ ad R C, A = some ad ∧ lo ≤ ad.block ∧ ad.block < hi ∧ w.cell? (ad.add (i.toNat * 1)) = some (.slice R (gL l i).length C) ∧ (gL l i).length ≤ C ∧ RdI w lo hi R (gL l i) := by
  obtain ⟨hl, R, C, hr, hi'⟩ := h
  obtain ⟨ad, e, h2, h3, hc⟩ := hr i.toNat 0 (by omega) (by omega)
  exact ⟨ad, R i.toNat, C i.toNat, e, h2, h3, by rw [add_zero] at hc; exact hc, (hi' i.toNat (by omega)).1, (hi' i.toNat (by omega)).2⟩
structure GameL where
  ow : List Int
  pr : List Int
  mv : List (List Int)
  deriving DecidableEq
structure RdG (w : World) (lo hi : Nat) (A0 A1 A2 : Option Addr) (c0 c1 c2 : Nat) (G : GameL) : Prop where
  ow : RdI w lo hi A0 G.ow
  pr : RdI w lo hi A1 G.pr
  mv : RdII w lo hi A2 G.mv
  k0 : G.ow.length ≤ c0
  k1 : G.pr.length ≤ c1
  k2 : G.mv.length ≤ c2
theorem RdG.gr {w w1 : World} {lo hi : Nat} {A0 A1 A2 : Option Addr} {c0 c1 c2 : Nat} {G : GameL} {row : Option Nat} (h : RdG w lo hi A0 A1 A2 c0 c1 c2 G) (g : w.grownBy w1 row) (hr : ∀ k, row = some k → k < lo ∨ hi ≤ k) : RdG w1 lo hi A0 A1 A2 c0 c1 c2 G :=
  ⟨h.ow.gr g hr, h.pr.gr g hr, h.mv.gr g hr, h.k0, h.k1, h.k2⟩
theorem RdG.gn {w w1 : World} {lo hi : Nat} {A0 A1 A2 : Option Addr} {c0 c1 c2 : Nat} {G : GameL} (h : RdG w lo hi A0 A1 A2 c0 c1 c2 G) (g : w.grownBy w1 none) : RdG w1 lo hi A0 A1 A2 c0 c1 c2 G := h.gr g (fun _ h => by cases h)
theorem RdG.gb {w w1 : World} {lo hi b : Nat} {A0 A1 A2 : Option Addr} {c0 c1 c2 : Nat} {G : GameL} (h : RdG w lo hi A0 A1 A2 c0 c1 c2 G) (g : w.grownBy w1 (some b)) (hb : b < lo ∨ hi ≤ b) : RdG w1 lo hi A0 A1 A2 c0 c1 c2 G := h.gr g (fun k h => by injection h with h; omega)
theorem RdG.wide {w : World} {lo hi lo' hi' : Nat} {A0 A1 A2 : Option Addr} {c0 c1 c2 : Nat} {G : GameL} (h : RdG w lo hi A0 A1 A2 c0 c1 c2 G) (h1 : lo' ≤ lo) (h2 : hi ≤ hi') : RdG w lo' hi' A0 A1 A2 c0 c1 c2 G :=
  ⟨h.ow.wide h1 h2, h.pr.wide h1 h2, h.mv.wide h1 h2, h.k0, h.k1, h.k2⟩
def gV (A0 A1 A2 : Option Addr) (c0 c1 c2 : Nat) (G : GameL) : Value := .agg #[.slice A0 G.ow.length c0, .slice A1 G.pr.length c1, .slice A2 G.mv.length c2]
theorem ret_eq {v v' : Value} (h : v = v') : Ending.returned v = .returned v' := by rw [h]
theorem take_succ_eq {a b : List Int} {k : Nat} (h : a.take k = b.take k) (h1 : k < a.length) (h2 : k < b.length) (e : a.getD k 0 = b.getD k 0) : a.take (k+1) = b.take (k+1) := by
  rw [List.take_succ_eq_append_getElem h1, List.take_succ_eq_append_getElem h2, h]
  rw [List.getD_eq_getElem?_getD, List.getD_eq_getElem?_getD, List.getElem?_eq_getElem h1, List.getElem?_eq_getElem h2] at e
  have e' : a[k] = b[k] := by simpa using e
  rw [e']
end Go.Proofs.YtkkophhnliplhaaDoor
namespace Go.Proofs.YtkkophhnliplhaaDoor
open Go Go.RowKit
def rowBad (n : Int) : Int → List Int → Bool
  | _, [] => false
  | last, m :: r => decide (m ≤ last) || decide (n ≤ m) || rowBad n m r
def posErr (n o p : Int) (row : List Int) : Int :=
  if ¬ (o = 0 ∨ o = 1) then 14 else if ¬ (0 ≤ p ∧ p ≤ 7) then 15 else if row.length = 0 then 17 else if rowBad n (-1) row = true then 16 else 0
def GameL.err (G : GameL) (i : Nat) : Int := posErr G.ow.length (G.ow.getD i 0) (G.pr.getD i 0) (G.mv.getD i [])
def rightP (G : GameL) : Int × Int :=
  if ¬ (G.pr.length = G.ow.length ∧ G.mv.length = G.ow.length) then (0, 1)
  else if G.ow.length = 0 ∨ 200 < G.ow.length then (0, 10)
  else match (List.range G.ow.length).find? (fun i => G.err i != 0) with
    | some i => (i, G.err i)
    | none => (0, 0)
theorem right_lens {G : GameL} (h : ¬ (G.pr.length = G.ow.length ∧ G.mv.length = G.ow.length)) : rightP G = (0, 1) := by simp only [rightP]; rw [if_pos h]
theorem right_many {G : GameL} (h : G.pr.length = G.ow.length ∧ G.mv.length = G.ow.length) (h2 : G.ow.length = 0 ∨ 200 < G.ow.length) : rightP G = (0, 10) := by
  simp only [rightP]; rw [if_neg (by simp only [Decidable.not_not]; exact h), if_pos h2]
theorem right_find {G : GameL} (h : G.pr.length = G.ow.length ∧ G.mv.length = G.ow.length) (h2 : ¬ (G.ow.length = 0 ∨ 200 < G.ow.length)) :
    rightP G = match (List.range G.ow.length).find? (fun i => G.err i != 0) with | some i => ((i : Int), G.err i) | none => (0, 0) := by
  simp only [rightP]; rw [if_neg (by simp only [Decidable.not_not]; exact h), if_neg h2]
theorem right_at {G : GameL} (h : G.pr.length = G.ow.length ∧ G.mv.length = G.ow.length) (h2 : ¬ (G.ow.length = 0 ∨ 200 < G.ow.length)) {i : Nat} (hi : i < G.ow.length)
    (hp : ∀ j, j < i → G.err j = 0) (he : G.err i ≠ 0) : rightP G = ((i : Int), G.err i) := by
  rw [right_find h h2]
  have : (List.range G.ow.length).find? (fun i => G.err i != 0) = some i := by
    rw [List.find?_range_eq_some]
    exact ⟨by simpa using he, by simpa using hi, fun j hj => by simpa using hp j hj⟩
  rw [this]
theorem right_ok {G : GameL} (h : G.pr.length = G.ow.length ∧ G.mv.length = G.ow.length) (h2 : ¬ (G.ow.length = 0 ∨ 200 < G.ow.length))
    (hp : ∀ j, j < G.ow.length → G.err j = 0) : rightP G = (0, 0) := by
  rw [right_find h h2]
  have : (List.range G.ow.length).find? (fun i => G.err i != 0) = none := by
    rw [List.find?_eq_none]
    intro x hx
    simpa using hp x (by simpa using hx)
  rw [this]
theorem rowBad_append (n : Int) : ∀ (l : List Int) (last m : Int), rowBad n last (l ++ [m]) = (rowBad n last l || decide (m ≤ l.getLastD last) || decide (n ≤ m))
  | [], last, m => by simp [rowBad]
  | x :: l, last, m => by
    simp only [List.cons_append, rowBad]
    rw [rowBad_append n l x m]
    simp only [Bool.or_assoc, List.getLastD_cons]
def lastOf (row : List Int) (k : Nat) : Int := (row.take k).getLastD (-1)
theorem lastOf_zero (row : List Int) : lastOf row 0 = -1 := by simp [lastOf]
theorem lastOf_succ (row : List Int) (k : Nat) (h : k < row.length) : lastOf row (k + 1) = row.getD k 0 := by
  simp only [lastOf]
  rw [List.getD_eq_getElem?_getD, List.getElem?_eq_getElem h]
  rw [List.take_succ_eq_append_getElem h, List.getLastD_concat]
  rfl
theorem rowBad_succ (n : Int) (row : List Int) (k : Nat) (h : k < row.length) :
    rowBad n (-1) (row.take (k + 1)) = (rowBad n (-1) (row.take k) || decide (row.getD k 0 ≤ lastOf row k) || decide (n ≤ row.getD k 0)) := by
  rw [List.take_succ_eq_append_getElem h, rowBad_append]
  simp only [lastOf]
  rw [List.getD_eq_getElem?_getD, List.getElem?_eq_getElem h]
  rfl
theorem rowBad_mono (n : Int) : ∀ (l r : List Int) (last : Int), rowBad n last l = true → rowBad n last (l ++ r) = true
  | [], _, _, h => by simp [rowBad] at h
  | x :: l, r, last, h => by
    simp only [rowBad, List.cons_append, Bool.or_eq_true] at h ⊢
    rcases h with h | h
    · exact .inl h
    · exact .inr (rowBad_mono n l r x h)
theorem rowBad_take (n : Int) (row : List Int) (k : Nat) (h : rowBad n (-1) (row.take k) = true) : rowBad n (-1) row = true := by
  have := rowBad_mono n (row.take k) (row.drop k) (-1) h
  rwa [List.take_append_drop] at this
theorem err_14 {G : GameL} {k : Int} (h0 : gI G.ow k ≠ 0) (h1 : gI G.ow k ≠ 1) : G.err k.toNat = 14 := by
  unfold GameL.err posErr
  exact if_pos (fun h => h.elim h0 h1)
theorem err_15 {G : GameL} {k : Int} (h0 : gI G.ow k = 0 ∨ gI G.ow k = 1) (h1 : gI G.pr k < 0 ∨ 7 < gI G.pr k) : G.err k.toNat = 15 := by
  unfold GameL.err posErr
  rw [if_neg (by simp only [Decidable.not_not]; exact h0), if_pos (by show ¬ (0 ≤ gI G.pr k ∧ gI G.pr k ≤ 7); omega)]
theorem err_17 {G : GameL} {k : Int} (h0 : gI G.ow k = 0 ∨ gI G.ow k = 1) (h1 : 0 ≤ gI G.pr k ∧ gI G.pr k ≤ 7) (h2 : (gL G.mv k).length = 0) : G.err k.toNat = 17 := by
  unfold GameL.err posErr
  rw [if_neg (by simp only [Decidable.not_not]; exact h0), if_neg (by simp only [Decidable.not_not]; exact h1), if_pos (by exact h2)]
theorem err_16 {G : GameL} {k : Int} (h0 : gI G.ow k = 0 ∨ gI G.ow k = 1) (h1 : 0 ≤ gI G.pr k ∧ gI G.pr k ≤ 7) (h2 : (gL G.mv k).length ≠ 0) (h3 : rowBad G.ow.length (-1) (gL G.mv k) = true) : G.err k.toNat = 16 := by
  unfold GameL.err posErr
  rw [if_neg (by simp only [Decidable.not_not]; exact h0), if_neg (by simp only [Decidable.not_not]; exact h1), if_neg (by exact h2), if_pos (by exact h3)]
theorem err_0 {G : GameL} {k : Int} (h0 : gI G.ow k = 0 ∨ gI G.ow k = 1) (h1 : 0 ≤ gI G.pr k ∧ gI G.pr k ≤ 7) (h2 : (gL G.mv k).length ≠ 0) (h3 : rowBad G.ow.length (-1) (gL G.mv k) = false) : G.err k.toNat = 0 := by
  unfold GameL.err posErr
  rw [if_neg (by simp only [Decidable.not_not]; exact h0), if_neg (by simp only [Decidable.not_not]; exact h1), if_neg (by exact h2), if_neg (by show ¬ rowBad G.ow.length (-1) (gL G.mv k) = true; rw [h3]; decide)]
theorem right_at' {G : GameL} {k e : Int} (h : G.pr.length = G.ow.length ∧ G.mv.length = G.ow.length) (h2 : ¬ (G.ow.length = 0 ∨ 200 < G.ow.length)) (h0 : 0 ≤ k) (h1 : k < (G.ow.length : Int))
    (hp : ∀ j : Nat, (j : Int) < k → G.err j = 0) (he : G.err k.toNat = e) (hne : e ≠ 0) : rightP G = (k, e) := by
  rw [right_at h h2 (i := k.toNat) (by omega) (fun j hj => hp j (by omega)) (by rw [he]; exact hne), he, show ((k.toNat : Nat) : Int) = k by omega]
theorem right_ok' {G : GameL} {k : Int} (h : G.pr.length = G.ow.length ∧ G.mv.length = G.ow.length) (h2 : ¬ (G.ow.length = 0 ∨ 200 < G.ow.length)) (h1 : (G.ow.length : Int) ≤ k)
    (hp : ∀ j : Nat, (j : Int) < k → G.err j = 0) : rightP G = (0, 0) := right_ok h h2 (fun j hj => hp j (by omega))
theorem err_next {G : GameL} {k : Int} (h0 : 0 ≤ k) (hp : ∀ j : Nat, (j : Int) < k → G.err j = 0) (he : G.err k.toNat = 0) : ∀ j : Nat, (j : Int) < k + 1 → G.err j = 0 := fun j hj => by
  by_cases h : (j : Int) < k
  · exact hp j h
  · rw [show j = k.toNat by omega]
    exact he
theorem bad_at {n : Int} {row : List Int} {q : Int} (h0 : 0 ≤ q) (h1 : q < (row.length : Int)) (h : gI row q ≤ lastOf row q.toNat ∨ n ≤ gI row q) : rowBad n (-1) row = true := by
  apply rowBad_take n row (q.toNat + 1)
  rw [rowBad_succ n row q.toNat (by omega)]
  simp only [gI] at h
  simp only [Bool.or_eq_true, decide_eq_true_eq]
  rcases h with h | h
  · exact .inl (.inr h)
  · exact .inr h
theorem bad_next {n : Int} {row : List Int} {q : Int} (h0 : 0 ≤ q) (h1 : q < (row.length : Int)) (hb : rowBad n (-1) (row.take q.toNat) = false) (h : lastOf row q.toNat < gI row q) (h2 : gI row q < n) : rowBad n (-1) (row.take (q + 1).toNat) = false := by
  rw [show (q + 1).toNat = q.toNat + 1 by omega, rowBad_succ n row q.toNat (by omega), hb]
  simp only [gI] at h h2
  simp only [Bool.false_or, Bool.or_eq_false_iff, decide_eq_false_iff_not]
  omega
theorem bad_all {n : Int} {row : List Int} {q : Int} (hb : rowBad n (-1) (row.take q.toNat) = false) (h : (row.length : Int) ≤ q) : rowBad n (-1) row = false := by
  rwa [List.take_of_length_le (by omega)] at hb
theorem last_next {row : List Int} {q : Int} (h0 : 0 ≤ q) (h1 : q < (row.length : Int)) : gI row q = lastOf row (q + 1).toNat := by
  rw [show (q + 1).toNat = q.toNat + 1 by omega, lastOf_succ row q.toNat (by omega)]
  rfl
theorem last_at {row : List Int} {q : Int} (h0 : 0 < q) (h1 : q ≤ (row.length : Int)) : gI row (q - 1) = lastOf row q.toNat := by
  have := last_next (row := row) (q := q - 1) (by omega) (by omega)
  rwa [show q - 1 + 1 = q by omega] at this
theorem last_0 {row : List Int} : lastOf row (0 : Int).toNat = -1 := lastOf_zero row
theorem last_ge {n : Int} {row : List Int} : ∀ {q : Nat}, rowBad n (-1) (row.take q) = false → -1 ≤ lastOf row q
  | 0, _ => by rw [lastOf_zero]; omega
  | q + 1, h => by
    by_cases hq : q < row.length
    · rw [lastOf_succ row q hq]
      rw [rowBad_succ n row q hq] at h
      simp only [Bool.or_eq_false_iff, decide_eq_false_iff_not] at h
      have := last_ge (q := q) h.1.1
      omega
    · have h2 : row.take (q + 1) = row.take q := by rw [List.take_of_length_le (by omega), List.take_of_length_le (by omega)]
      have : lastOf row (q + 1) = lastOf row q := by simp only [lastOf, h2]
      rw [this]
      exact last_ge (by rw [h2] at h; exact h)
theorem bad_at2 {n : Int} {row : List Int} {q : Int} (h0 : 0 ≤ q) (h1 : q < (row.length : Int)) (hb : rowBad n (-1) (row.take q.toNat) = false) (h : gI row q < 0 ∨ n ≤ gI row q ∨ (0 < q ∧ gI row q ≤ gI row (q - 1))) : rowBad n (-1) row = true := by
  have hg := last_ge hb
  refine bad_at (q := q) h0 h1 ?_
  rcases h with h | h | ⟨h2, h3⟩
  · exact .inl (by omega)
  · exact .inr h
  · exact .inl (by rw [← last_at h2 (by omega)]; exact h3)
theorem bad_next2 {n : Int} {row : List Int} {q : Int} (h0 : 0 ≤ q) (h1 : q < (row.length : Int)) (hb : rowBad n (-1) (row.take q.toNat) = false) (hz : 0 ≤ gI row q) (h2 : gI row q < n) (h : q ≤ 0 ∨ gI row (q - 1) < gI row q) : rowBad n (-1) (row.take (q + 1).toNat) = false := by
  refine bad_next h0 h1 hb ?_ h2
  by_cases hq : 0 < q
  · rw [← last_at hq (by omega)]
    omega
  · obtain rfl : q = 0 := by omega
    rw [last_0]
    omega
def isR (g : GameL) : Bool := ((rightP g).2 : Int) == 0
theorem ret2_ii {v1 v2 : Value} {a b : Int} {p : Int × Int} (hp : p = (a, b)) (h1 : v1 = .int .i64 a) (h2 : v2 = .int .i64 b) : Ending.returned (.tuple #[v1, v2]) = .returned (.tuple #[.int .i64 p.1, .int .i64 p.2]) := by rw [hp, h1, h2]
end Go.Proofs.YtkkophhnliplhaaDoor
namespace Go.Proofs.YtkkophhnliplhaaDoor
open Go Go.RowKit
structure RightG (g : GameL) : Prop where
  pl : g.pr.length = g.ow.length
  ml : g.mv.length = g.ow.length
  n0 : 0 < g.ow.length
  n1 : g.ow.length ≤ 200
  ow : ∀ i : Int, 0 ≤ i → i < g.ow.length → gI g.ow i = 0 ∨ gI g.ow i = 1
  pr : ∀ i : Int, 0 ≤ i → i < g.ow.length → 0 ≤ gI g.pr i ∧ gI g.pr i ≤ 7
  ne : ∀ i : Int, 0 ≤ i → i < g.ow.length → 0 < (gL g.mv i).length
  mv : ∀ i : Int, 0 ≤ i → i < g.ow.length → ∀ k : Int, 0 ≤ k → k < (gL g.mv i).length → 0 ≤ gI (gL g.mv i) k ∧ gI (gL g.mv i) k < g.ow.length
  up : ∀ i : Int, 0 ≤ i → i < g.ow.length → ∀ k : Int, 0 < k → k < (gL g.mv i).length → gI (gL g.mv i) (k - 1) < gI (gL g.mv i) k
theorem rowBad_all {n : Int} {row : List Int} (h : rowBad n (-1) row = false) : ∀ k : Nat, k < row.length → lastOf row k < row.getD k 0 ∧ row.getD k 0 < n := by
  intro k hk
  have h1 : rowBad n (-1) (row.take (k + 1)) = false := by
    by_cases hb : rowBad n (-1) (row.take (k + 1)) = true
    · rw [rowBad_take n row (k + 1) hb] at h
      cases h
    · simpa using hb
  rw [rowBad_succ n row k hk] at h1
  simp only [Bool.or_eq_false_iff, decide_eq_false_iff_not] at h1
  omega
theorem rowBad_last {n : Int} {row : List Int} (h : rowBad n (-1) row = false) (k : Nat) : -1 ≤ lastOf row k := by
  by_cases hb : rowBad n (-1) (row.take k) = true
  · rw [rowBad_take n row k hb] at h
    cases h
  · exact last_ge (by simpa using hb)
theorem right_lens' {g : GameL} (h : (rightP g).2 = 0) : g.pr.length = g.ow.length ∧ g.mv.length = g.ow.length ∧ 0 < g.ow.length ∧ g.ow.length ≤ 200 ∧ ∀ i : Nat, i < g.ow.length → g.err i = 0 := by
  by_cases h1 : g.pr.length = g.ow.length ∧ g.mv.length = g.ow.length
  · by_cases h2 : g.ow.length = 0 ∨ 200 < g.ow.length
    · rw [right_many h1 h2] at h
      cases h
    · refine ⟨h1.1, h1.2, by omega, by omega, fun i hi => ?_⟩
      rw [right_find h1 h2] at h
      cases hf : (List.range g.ow.length).find? (fun i => g.err i != 0) with
      | none =>
        rw [List.find?_eq_none] at hf
        have := hf i (by simpa using hi)
        simpa using this
      | some j =>
        rw [hf] at h
        have := List.find?_some hf
        simp only [bne_iff_ne] at this
        exact absurd h this
  · rw [right_lens h1] at h
    cases h
theorem right_yes {g : GameL} (h : (rightP g).2 = 0) : RightG g := by
  obtain ⟨hp, hm, h0, h1, he⟩ := right_lens' h
  have key : ∀ i : Int, 0 ≤ i → i < g.ow.length → (gI g.ow i = 0 ∨ gI g.ow i = 1) ∧ (0 ≤ gI g.pr i ∧ gI g.pr i ≤ 7) ∧ 0 < (gL g.mv i).length ∧ rowBad g.ow.length (-1) (gL g.mv i) = false := by
    intro i hi0 hi1
    have := he i.toNat (by omega)
    unfold GameL.err posErr at this
    by_cases k1 : g.ow.getD i.toNat 0 = 0 ∨ g.ow.getD i.toNat 0 = 1
    · rw [if_neg (by simp only [Decidable.not_not]; exact k1)] at this
      by_cases k2 : 0 ≤ g.pr.getD i.toNat 0 ∧ g.pr.getD i.toNat 0 ≤ 7
      · rw [if_neg (by simp only [Decidable.not_not]; exact k2)] at this
        by_cases k3 : (g.mv.getD i.toNat []).length = 0
        · rw [if_pos k3] at this
          cases this
        · rw [if_neg k3] at this
          by_cases k4 : rowBad g.ow.length (-1) (g.mv.getD i.toNat []) = true
          · rw [if_pos k4] at this
            cases this
          · exact ⟨k1, k2, Nat.pos_of_ne_zero k3, by unfold gL; exact eq_false_of_ne_true k4⟩
      · rw [if_pos k2] at this
        cases this
    · rw [if_pos k1] at this
      cases this
  refine ⟨hp, hm, h0, h1, fun i a b => (key i a b).1, fun i a b => (key i a b).2.1, fun i a b => (key i a b).2.2.1, fun i a b k c d => ?_, fun i a b k c d => ?_⟩
  · have hb := (key i a b).2.2.2
    have h3 := rowBad_all hb k.toNat (by omega)
    have h4 := rowBad_last hb k.toNat
    simp only [gI]
    omega
  · have hb := (key i a b).2.2.2
    have h3 := rowBad_all hb k.toNat (by omega)
    have h4 := last_at (row := gL g.mv i) (q := k) c (by omega)
    rw [h4]
    exact h3.1
theorem isR_ok {g : GameL} (h : isR g = true) : RightG g := by
  refine right_yes ?_
  simpa [isR] using h
end Go.Proofs.YtkkophhnliplhaaDoor
namespace Go.Proofs.YtkkophhnliplhaaDoor
open Go Go.RowKit
theorem row_ge {g : GameL} (hG : RightG g) {i : Int} (h0 : 0 ≤ i) (h1 : i < g.ow.length) : ∀ k : Nat, k < (gL g.mv i).length → (k : Int) ≤ gI (gL g.mv i) k := by
  intro k
  induction k with
  | zero => intro h; have := (hG.mv i h0 h1 0 (by omega) (by omega)).1; simpa using this
  | succ k ih =>
    intro h
    have h2 := ih (by omega)
    have h3 := hG.up i h0 h1 (k + 1 : Nat) (by omega) (by omega)
    rw [show ((k + 1 : Nat) : Int) - 1 = (k : Int) by omega] at h3
    omega
theorem row_len {g : GameL} (hG : RightG g) {i : Int} (h0 : 0 ≤ i) (h1 : i < g.ow.length) : (gL g.mv i).length ≤ g.ow.length := by
  have hne := hG.ne i h0 h1
  have h := row_ge hG h0 h1 ((gL g.mv i).length - 1) (by omega)
  have h2 := (hG.mv i h0 h1 ((gL g.mv i).length - 1 : Nat) (by omega) (by omega)).2
  omega
end Go.Proofs.YtkkophhnliplhaaDoor
namespace Go.Proofs.YtkkophhnliplhaaDoor
open Go Go.RowKit
end Go.Proofs.YtkkophhnliplhaaDoor
namespace Go.Proofs.YtkkophhnliplhaaDoor
open Go Go.RowKit
def look : List (Nat × Value) → Nat → Option Value
  | [], _ => none
  | (i, v) :: r, t => if Nat.beq i t = true then some v else look r t
def opd (l : List (Nat × Value)) : Operand → Option Value
  | .tmp t => look l t
  | .const v => some v
  | .global g => some (.pointer (some ⟨g, 0, none⟩))
  | .func f => some (.func (.func f) #[] #[])
def rho (l : List (Nat × Value)) (x : Operand) : Value := (opd l x).getD undef
def known (l : List (Nat × Value)) (o : Oper) : Bool := o.op.operands.toList.all fun x => (opd l x).isSome
def notSel (o : Oper) : Bool := match o.op with | .select _ _ => false | _ => true
structure Frm (n : Nat) (a : Act) (l : List (Nat × Value)) : Prop where
  size : a.tmps.size = n
  defs : a.defers = []
  val : ∀ t v, look l t = some v → a.tmps.getD t undef = v
  lt : ∀ t v, look l t = some v → t < n
theorem Frm.opd {n : Nat} {a : Act} {l : List (Nat × Value)} (h : Frm n a l) {x : Operand} {v : Value} (hx : opd l x = some v) : a.eval x = v := by
  cases x with
  | tmp t => exact h.val t v hx
  | const u => exact Option.some.inj hx
  | global g => exact Option.some.inj hx
  | func f => exact Option.some.inj hx
theorem Frm.exec {n : Nat} {a : Act} {l : List (Nat × Value)} (h : Frm n a l) {o : Oper} (hk : known l o = true) (hs : notSel o = true) : execOp a.eval o = execOp (rho l) o := by
  refine execOp_congr o (fun cs b he => by simp [notSel, he] at hs) (fun x hx => ?_)
  have h1 := List.all_eq_true.1 hk x (by simpa using hx)
  obtain ⟨v, hv⟩ := Option.isSome_iff_exists.1 h1
  rw [h.opd hv, rho, hv]
  rfl
theorem look_cons_eq (l : List (Nat × Value)) (d : Nat) (v : Value) : look ((d, v) :: l) d = some v := by simp [look]
theorem look_cons_ne (l : List (Nat × Value)) {d t : Nat} (v : Value) (h : d ≠ t) : look ((d, v) :: l) t = look l t := by simp [look, h]
theorem Frm.put {n : Nat} {a : Act} {l : List (Nat × Value)} (h : Frm n a l) {d : Nat} (hd : d < n) (v : Value) : Frm n (a.put (some d) v) ((d, v) :: l) := by
  refine ⟨by simp [Act.put, h.size], by simp [Act.put, h.defs], fun t u hu => ?_, fun t u hu => ?_⟩
  rotate_left
  · by_cases hdt : d = t
    · omega
    · rw [look_cons_ne l v hdt] at hu
      exact h.lt t u hu
  by_cases hdt : d = t
  · subst hdt
    rw [look_cons_eq] at hu
    injection hu with hu
    subst hu
    simp [Act.put, h.size, hd]
  · rw [look_cons_ne l v hdt] at hu
    have := h.val t u hu
    simp only [Act.put, Array.getD_eq_getD_getElem?] at this ⊢
    rw [Array.getElem?_setIfInBounds_ne hdt]
    exact this
theorem Frm.put' {n : Nat} {a : Act} {l : List (Nat × Value)} (h : Frm n a l) {d : Option Nat} (hd : ∀ t, d = some t → t < n) (v : Value) :
    Frm n (a.put d v) (match d with | some t => (t, v) :: l | none => l) := by
  cases d with
  | none => exact ⟨by simp [Act.put, h.size], by simp [Act.put, h.defs], fun t u hu => by simpa [Act.put] using h.val t u hu, h.lt⟩
  | some t => exact h.put (hd t rfl) v
def subL (l : List (Nat × Value)) : List (Nat × Value) → Prop
  | [] => True
  | (t, v) :: r => look l t = some v ∧ subL l r
theorem subL_look {l : List (Nat × Value)} : ∀ {r : List (Nat × Value)}, subL l r → ∀ t v, look r t = some v → look l t = some v
  | [], _, _, _, h => by simp [look] at h
  | (i, u) :: r, hs, t, v, h => by
    by_cases hi : i = t
    · subst hi
      rw [look_cons_eq] at h
      injection h with h
      subst h
      exact hs.1
    · rw [look_cons_ne r u hi] at h
      exact subL_look hs.2 t v h
theorem Frm.sub {n : Nat} {a : Act} {l r : List (Nat × Value)} (h : Frm n a l) (hs : subL l r) : Frm n a r := ⟨h.size, h.defs, fun t v hv => h.val t v (subL_look hs t v hv), fun t v hv => h.lt t v (subL_look hs t v hv)⟩
theorem Frm.as {n : Nat} {a : Act} {l : List (Nat × Value)} (h : Frm n a l) (t : Nat) (v u : Value) (hl : look l t = some v) (e : v = u) : Frm n a ((t, u) :: l) := by
  subst e
  refine ⟨h.size, h.defs, fun t' v' hv => ?_, fun t' v' hv => ?_⟩
  · by_cases ht : t = t'
    · subst ht
      rw [look_cons_eq] at hv
      injection hv with hv
      subst hv
      exact h.val t v hl
    · rw [look_cons_ne l v ht] at hv
      exact h.val t' v' hv
  · by_cases ht : t = t'
    · subst ht
      exact h.lt t v hl
    · rw [look_cons_ne l v ht] at hv
      exact h.lt t' v' hv
inductive Orc where
  | ld (v : Value)
  | ad (a : Addr)
  | as_ (v : Value)
  | cs (l : List Value)
  | av (d : Nat) (v : Value)
def AllP : List Prop → Prop
  | [] => True
  | p :: r => p ∧ AllP r
theorem AllP_append {l r : List Prop} (h : AllP (l ++ r)) : AllP l ∧ AllP r := by
  induction l with
  | nil => exact ⟨trivial, h⟩
  | cons p l ih => exact ⟨⟨h.1, (ih h.2).1⟩, (ih h.2).2⟩
structure Rs (α : Type) where
  x : α
  w : World
  ob : List Prop
  os : List Orc
def symS {α : Type} (P : Program) (rd : Bool) (C : World → Addr → Value → Prop) : Sem α → World → List Orc → Option (Rs α)
  | .pure a, w, os => some ⟨a, w, [], os⟩
  | .load _ ad k, w, .ld v :: os => match symS P rd C (k v) w os with
    | some r => some ⟨r.x, r.w, (C w ad v) :: r.ob, r.os⟩
    | none => none
  | .store _ ad v k, w, os => match rd, v with
    | true, _ => none
    | false, .agg _ => none
    | false, .tuple _ => none
    | false, v => match symS P rd C k (w.setCell ad v) os with
      | some r => some ⟨r.x, r.w, ((w.cell? ad).isSome = true) :: (w.frozen? ad = false) :: r.ob, r.os⟩
      | none => none
  | .new o k, w, os => match rd with
    | true => none
    | false => symS P rd C (k w.heap.size) (w.alloc o) os
  | .program k, w, os => symS P rd C (k P) w os
  | _, _, _ => none
theorem symS_lex {α : Type} {P : Program} {C : World → Addr → Value → Prop} (hC : ∀ w ad v, C w ad v → w.cell? ad = some v) (s : Sem α) :
    ∀ {w : World} {os : List Orc} {r : Rs α}, symS P false C s w os = some r → AllP r.ob → s.run P w = .ok r.x r.w := by
  induction s with
  | pure a => intro w os r h _; simp only [symS, Option.some.injEq] at h; subst h; rfl
  | load m ad k ih =>
    intro w os r h hob
    cases os with
    | nil => simp [symS] at h
    | cons q os =>
      cases q with
      | ld v =>
        simp only [symS] at h
        cases hk : symS P false C (k v) w os with
        | none => simp [hk] at h
        | some r' =>
          simp only [hk, Option.some.injEq] at h
          subst h
          have := ih v hk hob.2
          simp only [Sem.run, hC _ _ _ hob.1]
          exact this
      | ad _ => simp [symS] at h
      | as_ _ => simp [symS] at h
      | cs _ => simp [symS] at h
      | av _ _ => simp [symS] at h
  | store m ad v k ih =>
    intro w os r h hob
    cases v with
    | agg _ => simp [symS] at h
    | tuple _ => simp [symS] at h
    | _ =>
      simp only [symS] at h
      split at h
      · rename_i r' hk
        simp only [Option.some.injEq] at h
        subst h
        obtain ⟨u, hu⟩ := Option.isSome_iff_exists.1 hob.1
        have := ih hk hob.2.2
        have hf := hob.2.1
        simp only [Sem.run, hu, hf]
        exact this
      · simp at h
  | new o k ih =>
    intro w os r h hob
    simp only [symS] at h
    exact ih _ h hob
  | program k ih =>
    intro w os r h hob
    simp only [symS] at h
    simp only [Sem.run]
    exact ih _ h hob
  | _ => intro w os r h _; simp [symS] at h
theorem symS_rd {α : Type} {P : Program} {C : World → Addr → Value → Prop} (s : Sem α) :
    ∀ {w : World} {os : List Orc} {r : Rs α}, symS P true C s w os = some r → AllP r.ob → r.w = w ∧ ∀ w2 : World, (∀ ad v, C w ad v → w2.cell? ad = some v) → s.run P w2 = .ok r.x w2 := by
  induction s with
  | pure a => intro w os r h _; simp only [symS, Option.some.injEq] at h; subst h; exact ⟨rfl, fun _ _ => rfl⟩
  | load m ad k ih =>
    intro w os r h hob
    cases os with
    | nil => simp [symS] at h
    | cons q os =>
      cases q with
      | ld v =>
        simp only [symS] at h
        cases hk : symS P true C (k v) w os with
        | none => simp [hk] at h
        | some r' =>
          simp only [hk, Option.some.injEq] at h
          subst h
          have := ih v hk hob.2
          refine ⟨this.1, fun w2 h2 => ?_⟩
          simp only [Sem.run, h2 _ _ hob.1]
          exact this.2 w2 h2
      | ad _ => simp [symS] at h
      | as_ _ => simp [symS] at h
      | cs _ => simp [symS] at h
      | av _ _ => simp [symS] at h
  | store m ad v k ih => intro w os r h _; simp [symS] at h
  | new o k ih => intro w os r h _; simp [symS] at h
  | program k ih =>
    intro w os r h hob
    simp only [symS] at h
    have := ih _ h hob
    exact ⟨this.1, fun w2 h2 => by simp only [Sem.run]; exact this.2 w2 h2⟩
  | _ => intro w os r h _; simp [symS] at h
theorem run_some_underlying {P : Program} {t : TypeId} {d : TypeDesc} (h : P.underlying t = some d) (w : World) : (underlying t).run P w = .ok d w := by
  simp [underlying, program, Sem.run, h, pure, bind, Sem.bind]
def partP (P : Program) (t : TypeId) (cs : Array Value) (off : Nat) : Option Value :=
  match P.underlying t with
  | some (.struct _) => match P.info? t with | some i => some (.agg (cs.extract off (off + i.size))) | none => none
  | some (.array _ _) => match P.info? t with | some i => some (.agg (cs.extract off (off + i.size))) | none => none
  | some _ => cs[off]?
  | none => none
def eqFs (P : Program) (E : TypeId → Value → Value → Option Bool) (xs ys : Array Value) : List Field → Option Bool
  | [] => some true
  | f :: fs => if f.name = "_" then none else match partP P f.type xs f.offset, partP P f.type ys f.offset with
    | some a, some b => match E f.type a b, eqFs P E xs ys fs with
      | some r, some s => some (r && s)
      | _, _ => none
    | _, _ => none
def eqAs (P : Program) (E : TypeId → Value → Value → Option Bool) (e : TypeId) (n : Nat) (xs ys : Array Value) : List Nat → Option Bool
  | [] => some true
  | i :: is => match partP P e xs (i * n), partP P e ys (i * n) with
    | some a, some b => match E e a b, eqAs P E e n xs ys is with
      | some r, some s => some (r && s)
      | _, _ => none
    | _, _ => none
def eqV (P : Program) : Nat → TypeId → Value → Value → Option Bool
  | 0, _, _, _ => none
  | d + 1, t, x, y => match P.underlying t, x, y with
    | some .bool, .bool a, .bool b => some (a == b)
    | some (.int _), .int k a, .int k' b => if k = k' then some (a == b) else none
    | some (.struct fs), .agg xs, .agg ys => if P.stoodInHeld t then none else eqFs P (eqV P d) xs ys fs.toList
    | some (.array len e), .agg xs, .agg ys => match P.info? e with
      | some i => eqAs P (eqV P d) e i.size xs ys (List.range' 0 len)
      | none => none
    | _, _, _ => none
theorem partP_sound {P : Program} {t : TypeId} {cs : Array Value} {off : Nat} {v : Value} (h : partP P t cs off = some v) (w : World) : (part t cs off).run P w = .ok v w := by
  unfold partP at h
  split at h
  · rename_i fs hu
    split at h
    · rename_i i hi
      simp only [Option.some.injEq] at h
      subst h
      simp [part, isAgg, run_some_underlying hu, sizeOf, typeInfo, hi]
    · simp at h
  · rename_i n e hu
    split at h
    · rename_i i hi
      simp only [Option.some.injEq] at h
      subst h
      simp [part, isAgg, run_some_underlying hu, sizeOf, typeInfo, hi]
    · simp at h
  · rename_i d h1 h2 hu
    have e : (isAgg t).run P w = .ok false w := by
      simp only [isAgg, Sem.run_bind, run_some_underlying hu, Result.andThen_ok]
      cases d <;> first | rfl | (exact absurd rfl (h1 _)) | (exact absurd rfl (h2 _ _))
    simp only [part, Sem.run_bind, e, Result.andThen_ok]
    simp [h]
  · simp at h
theorem eqFs_sound {P : Program} {d : Nat} (ih : ∀ {t x y b}, eqV P d t x y = some b → ∀ w, (Op.equalIn d t x y).run P w = .ok b w) (xs ys : Array Value) : ∀ {fs : List Field} {b : Bool}, eqFs P (eqV P d) xs ys fs = some b → ∀ w, (Op.eqFields d xs ys fs).run P w = .ok b w
  | [], b, h, w => by
    simp only [eqFs, Option.some.injEq] at h
    subst h
    simp [Op.eqFields]
  | f :: fs, b, h, w => by
    unfold eqFs at h
    split at h
    · simp at h
    · rename_i hn
      split at h
      · rename_i a c ha hc
        split at h
        · rename_i r s hr hs
          simp only [Option.some.injEq] at h
          subst h
          have h1 := eqFs_sound ih xs ys hs w
          simp only [Op.eqFields, Sem.run_bind, Sem.run_ite, ne_eq, hn, not_false_eq_true, if_true, partP_sound ha, partP_sound hc, Result.andThen_ok, ih hr]
          cases r
          · simp
          · simpa using h1
        · simp at h
      · simp at h
theorem eqAs_sound {P : Program} {d : Nat} (ih : ∀ {t x y b}, eqV P d t x y = some b → ∀ w, (Op.equalIn d t x y).run P w = .ok b w) (e : TypeId) (n : Nat) (xs ys : Array Value) : ∀ {is : List Nat} {b : Bool}, eqAs P (eqV P d) e n xs ys is = some b → ∀ w : World,
    (forIn is ((none : Option Bool), PUnit.unit) fun i _ => (do
      let a ← part e xs (i * n)
      let b ← part e ys (i * n)
      let r ← Op.equalIn d e a b
      if r = false then pure (ForInStep.done (some false, PUnit.unit)) else pure (ForInStep.yield (none, PUnit.unit)) : Sem (ForInStep (Option Bool × PUnit)))).run P w = .ok (if b = true then (none, PUnit.unit) else (some false, PUnit.unit)) w
  | [], b, h, w => by
    simp only [eqAs, Option.some.injEq] at h
    subst h
    simp
  | i :: is, b, h, w => by
    unfold eqAs at h
    split at h
    · rename_i a c ha hc
      split at h
      · rename_i r s hr hs
        simp only [Option.some.injEq] at h
        subst h
        have h1 := eqAs_sound ih e n xs ys hs w
        simp only [List.forIn_cons, Sem.run_bind, partP_sound ha, partP_sound hc, Result.andThen_ok, ih hr]
        cases r
        · simp
        · simpa using h1
      · simp at h
    · simp at h
theorem eqV_sound {P : Program} : ∀ {d : Nat} {t : TypeId} {x y : Value} {b : Bool}, eqV P d t x y = some b → ∀ w, (Op.equalIn d t x y).run P w = .ok b w := by
  intro d
  induction d with
  | zero => intro t x y b h; simp [eqV] at h
  | succ d ih =>
    intro t x y b h w
    unfold eqV at h
    split at h
    · rename_i a c hu
      simp only [Option.some.injEq] at h
      subst h
      simp [Op.equalIn, run_some_underlying hu]
    · rename_i k0 k a k' c hu
      split at h
      · rename_i hk
        subst hk
        simp only [Option.some.injEq] at h
        subst h
        simp [Op.equalIn, run_some_underlying hu]
      · simp at h
    · rename_i fs xs ys hu
      split at h
      · simp at h
      · rename_i hst
        have hf : P.underlying t = some (.struct (P.fieldsOf t)) := by rw [hu]; simp [Program.fieldsOf, hu]
        rw [run_equalIn_struct w d t xs ys hf (by simpa using hst)]
        have : P.fieldsOf t = fs := by rw [hu] at hf; simpa using hf.symm
        rw [this]
        exact eqFs_sound ih xs ys h w
    · rename_i len e xs ys hu
      split at h
      · rename_i i hi
        have := eqAs_sound ih e i.size xs ys h w
        simp only [Op.equalIn, Sem.run_bind, run_some_underlying hu, Result.andThen_ok]
        simp only [sizeOf, typeInfo, Sem.run_bind]
        simp [hi]
        rw [this]
        cases b <;> simp
      · simp at h
    · simp at h
def byteAt (s : ByteArray) (i : Int) : Int := ((s[i.toNat]?).map (fun b => (b.toNat : Int))).getD 0
def aggB (P : Program) (t : TypeId) : Bool := match P.underlying t with | some (.struct _) => true | some (.array _ _) => true | _ => false
def symX (P : Program) (C : Addr → Value → Prop) (ρ : Operand → Value) (o : Oper) (os : List Orc) : Option (Value × List Prop × List Orc) :=
  match o.op with
  | .load t x =>
    match ρ x, os with
    | .pointer (some a), .cs cs :: os => match P.info? t, aggB P t with
      | some inf, true => some (.agg cs.toArray, [cs.length = inf.size, ∀ (j : Nat) (v : Value), cs[j]? = some v → C (a.add j) v], os)
      | _, _ => none
    | _, _ => none
  | .indexAddr t x i =>
    match P.underlying t, ρ x, ρ i, os with
    | some (.slice e), .slice A n _, .int _ i, .ad a :: os => match P.info? e with
      | some inf => some (.pointer (some (a.add (i.toNat * inf.size))), [A = some a, 0 ≤ i, i < (n : Int)], os)
      | none => none
    | some (.array n e), .pointer (some a), .int _ i, os => match P.info? e with
      | some inf => some (.pointer (some (a.add (i.toNat * inf.size))), [0 ≤ i, i < (n : Int)], os)
      | none => none
    | _, _, _, _ => none
  | .index t x i =>
    match P.underlying t, ρ x, ρ i, os with
    | some .string, .string s, .int _ i, os => some (.int .u8 (byteAt s i), [0 ≤ i, i < (s.size : Int)], os)
    | some (.array n e), .agg cs, .int _ i, .ld v :: os => match P.info? e, P.underlying e with
      | some inf, some (.int _) => some (v, [0 ≤ i, i < (n : Int), cs[i.toNat * inf.size]? = some v], os)
      | some inf, some .bool => some (v, [0 ≤ i, i < (n : Int), cs[i.toNat * inf.size]? = some v], os)
      | _, _ => none
    | _, _, _, _ => none
  | .binOp .eql t x y _ =>
    match ρ x, ρ y, os with
    | .agg xs, .agg ys, .cs l :: .cs r :: os => match P.eqGuardType P.depth t, eqV P 10000 t (.agg l.toArray) (.agg r.toArray) with
      | false, some b => some (.bool b, [xs = l.toArray, ys = r.toArray], os)
      | _, _ => none
    | .agg xs, .agg ys, os => match P.eqGuardType P.depth t, eqV P 10000 t (.agg xs) (.agg ys) with
      | false, some b => some (.bool b, [], os)
      | _, _ => none
    | _, _, _ => none
  | .binOp .neq t x y _ =>
    match ρ x, ρ y, os with
    | .agg xs, .agg ys, .cs l :: .cs r :: os => match P.eqGuardType P.depth t, eqV P 10000 t (.agg l.toArray) (.agg r.toArray) with
      | false, some b => some (.bool (!b), [xs = l.toArray, ys = r.toArray], os)
      | _, _ => none
    | .agg xs, .agg ys, os => match P.eqGuardType P.depth t, eqV P 10000 t (.agg xs) (.agg ys) with
      | false, some b => some (.bool (!b), [], os)
      | _, _ => none
    | _, _, _ => none
  | .binOp .rem _ x y _ =>
    match ρ x, ρ y with
    | .int .i64 a, .int .i64 b => some (.int .i64 (a.tmod b), [b ≠ 0], os)
    | .int .u64 a, .int .u64 b => some (.int .u64 (a.tmod b), [b ≠ 0], os)
    | _, _ => none
  | .binOp .quo _ x y _ =>
    match ρ x, ρ y with
    | .int .i64 a, .int .i64 b => some (.int .i64 (IntKind.i64.wrap (a.tdiv b)), [b ≠ 0], os)
    | _, _ => none
  | .binOp .shl _ x y _ =>
    match ρ x, ρ y with
    | .int k a, .int _ b => some (.int k (k.wrap (a * 2 ^ (min b.toNat k.bits))), [0 ≤ b], os)
    | _, _ => none
  | .binOp .shr _ x y _ =>
    match ρ x, ρ y with
    | .int k a, .int _ b => some (.int k (a.fdiv (2 ^ (min b.toNat k.bits))), [0 ≤ b], os)
    | _, _ => none
  | .slice t x lo hi none =>
    match P.underlying t, ρ x with
    | some (.slice e), .slice A n c => match P.info? e with
      | none => none
      | some inf => match lo.map ρ, hi.map ρ with
        | none, some (.int _ h) => some (.slice A h.toNat c, [0 ≤ h, h ≤ (c : Int)], os)
        | some (.int _ l), none => some (.slice (if c = l.toNat then A else A.map (·.add (l.toNat * inf.size))) (n - l.toNat) (c - l.toNat), [0 ≤ l, l ≤ (n : Int)], os)
        | some (.int _ l), some (.int _ h) => some (.slice (if c = l.toNat then A else A.map (·.add (l.toNat * inf.size))) (h.toNat - l.toNat) (c - l.toNat), [0 ≤ l, l ≤ h, h ≤ (c : Int)], os)
        | _, _ => none
    | some .string, .string s => match lo.map ρ, hi.map ρ with
      | none, some (.int _ h) => some (.string (s.extract 0 h.toNat), [0 ≤ h, h ≤ (s.size : Int)], os)
      | some (.int _ l), none => some (.string (s.extract l.toNat s.size), [0 ≤ l, l ≤ (s.size : Int)], os)
      | some (.int _ l), some (.int _ h) => some (.string (s.extract l.toNat h.toNat), [0 ≤ l, l ≤ h, h ≤ (s.size : Int)], os)
      | _, _ => none
    | _, _ => none
  | _ => none
theorem add_zero_id : (fun x : Addr => x.add 0) = id := by funext x; simp [Addr.add]
theorem symX_sound {P : Program} {C : Addr → Value → Prop} {ρ : Operand → Value} {o : Oper} {os os' : List Orc} {v : Value} {ob : List Prop} (h : symX P C ρ o os = some (v, ob, os')) (hob : AllP ob) :
    ∀ w : World, (∀ ad v, C ad v → w.cell? ad = some v) → (execOp ρ o).run P w = .ok (.value v) w := by
  intro w hC
  unfold symX at h
  split at h
  · rename_i t x ho
    split at h
    · rename_i a cs os2 hx
      split at h
      · rename_i inf hinf hagg
        simp only [Option.some.injEq, Prod.mk.injEq] at h
        obtain ⟨rfl, rfl, rfl⟩ := h
        obtain ⟨h1, h2, _⟩ := hob
        have hr := run_loadCells_list (P := P) w a cs (fun j v hv => hC _ _ (h2 j v hv))
        rw [h1] at hr
        unfold aggB at hagg
        split at hagg
        · rename_i hu
          simp only [execOp, ho, hx, Instr.loadAt, Instr.sureAddr]
          simp [loadVar, isAgg, sizeOf, typeInfo, hinf, run_some_underlying hu, hr]
        · rename_i hu
          simp only [execOp, ho, hx, Instr.loadAt, Instr.sureAddr]
          simp [loadVar, isAgg, sizeOf, typeInfo, hinf, run_some_underlying hu, hr]
        · cases hagg
      · simp at h
    · simp at h
  · -- indexAddr
    rename_i t x i ho
    split at h
    · rename_i e A n c k iv a os2 hu hx hi
      split at h
      · rename_i inf hinf
        simp only [Option.some.injEq, Prod.mk.injEq] at h
        obtain ⟨rfl, rfl, rfl⟩ := h
        obtain ⟨h1, h2, h3, _⟩ := hob
        simp only [execOp, ho, Instr.indexAt, hx, hi, asIntOf]
        simp [run_some_underlying hu, sizeOf, typeInfo, hinf, h1, h2, h3]
      · simp at h
    · rename_i n e a k iv hu hx hi
      split at h
      · rename_i inf hinf
        simp only [Option.some.injEq, Prod.mk.injEq] at h
        obtain ⟨rfl, rfl, rfl⟩ := h
        obtain ⟨h2, h3, _⟩ := hob
        simp only [execOp, ho, Instr.indexAt, hx, hi, asIntOf]
        simp [run_some_underlying hu, sizeOf, typeInfo, hinf, h2, h3, Instr.sureAddr]
      · simp at h
    · simp at h
  · -- index
    rename_i t x i ho
    split at h
    · rename_i os2 b k iv hu hx hi
      simp only [Option.some.injEq, Prod.mk.injEq] at h
      obtain ⟨rfl, rfl, rfl⟩ := h
      obtain ⟨h1, h2, _⟩ := hob
      have h3 : iv.toNat < b.size := by omega
      simp only [execOp, ho, Instr.index, hx, hi, asIntOf]
      simp [run_some_underlying hu, h1, byteAt, h3]
    · rename_i n e cs k iv u os2 hu hx hi
      split at h
      · rename_i inf kk hinf hue
        simp only [Option.some.injEq, Prod.mk.injEq] at h
        obtain ⟨rfl, rfl, rfl⟩ := h
        obtain ⟨h1, h2, h3, _⟩ := hob
        simp only [execOp, ho, Instr.index, hx, hi, asIntOf]
        simp [run_some_underlying hu, run_some_underlying hue, h1, h2, sizeOf, typeInfo, hinf, part, isAgg, h3]
      · rename_i inf hinf hue
        simp only [Option.some.injEq, Prod.mk.injEq] at h
        obtain ⟨rfl, rfl, rfl⟩ := h
        obtain ⟨h1, h2, h3, _⟩ := hob
        simp only [execOp, ho, Instr.index, hx, hi, asIntOf]
        simp [run_some_underlying hu, run_some_underlying hue, h1, h2, sizeOf, typeInfo, hinf, part, isAgg, h3]
      · simp at h
    · simp at h
  · rename_i t x y t2 ho
    split at h
    · rename_i xs ys l r os2 hx hy
      split at h
      · rename_i b hg hb
        simp only [Option.some.injEq, Prod.mk.injEq] at h
        obtain ⟨rfl, rfl, rfl⟩ := h
        obtain ⟨rfl, rfl, _⟩ := hob
        simp only [execOp, ho, hx, hy, Sem.run_bind, run_eqGuard_agg w .eql t x y l.toArray r.toArray hg, Result.andThen_ok, run_eql_struct, eqV_sound hb, Sem.run_pure]
      · simp at h
    · rename_i xs ys hx hy hno
      split at h
      · rename_i b hg hb
        simp only [Option.some.injEq, Prod.mk.injEq] at h
        obtain ⟨rfl, rfl, rfl⟩ := h
        simp only [execOp, ho, hx, hy, Sem.run_bind, run_eqGuard_agg w .eql t x y xs ys hg, Result.andThen_ok, run_eql_struct, eqV_sound hb, Sem.run_pure]
      · simp at h
    · simp at h
  · rename_i t x y t2 ho
    split at h
    · rename_i xs ys l r os2 hx hy
      split at h
      · rename_i b hg hb
        simp only [Option.some.injEq, Prod.mk.injEq] at h
        obtain ⟨rfl, rfl, rfl⟩ := h
        obtain ⟨rfl, rfl, _⟩ := hob
        simp only [execOp, ho, hx, hy, Sem.run_bind, run_eqGuard_agg w .neq t x y l.toArray r.toArray hg, Result.andThen_ok, run_neq_struct, eqV_sound hb, Sem.run_pure]
      · simp at h
    · rename_i xs ys hx hy hno
      split at h
      · rename_i b hg hb
        simp only [Option.some.injEq, Prod.mk.injEq] at h
        obtain ⟨rfl, rfl, rfl⟩ := h
        simp only [execOp, ho, hx, hy, Sem.run_bind, run_eqGuard_agg w .neq t x y xs ys hg, Result.andThen_ok, run_neq_struct, eqV_sound hb, Sem.run_pure]
      · simp at h
    · simp at h
  · rename_i t x y t2 ho
    split at h
    · rename_i a b hx hy
      simp only [Option.some.injEq, Prod.mk.injEq] at h
      obtain ⟨rfl, rfl, rfl⟩ := h
      obtain ⟨h1, _⟩ := hob
      simp only [execOp, ho, hx, hy]
      simp [eqGuard, binOp, Op.intDiv, h1]
    · rename_i a b hx hy
      simp only [Option.some.injEq, Prod.mk.injEq] at h
      obtain ⟨rfl, rfl, rfl⟩ := h
      obtain ⟨h1, _⟩ := hob
      simp only [execOp, ho, hx, hy]
      simp [eqGuard, binOp, Op.intDiv, h1]
    · simp at h
  · rename_i t x y t2 ho
    split at h
    · rename_i a b hx hy
      simp only [Option.some.injEq, Prod.mk.injEq] at h
      obtain ⟨rfl, rfl, rfl⟩ := h
      obtain ⟨h1, _⟩ := hob
      simp only [execOp, ho, hx, hy]
      simp [eqGuard, binOp, Op.intDiv, h1]
    · simp at h
  · rename_i t x y t2 ho
    split at h
    · rename_i k a k2 b hx hy
      simp only [Option.some.injEq, Prod.mk.injEq] at h
      obtain ⟨rfl, rfl, rfl⟩ := h
      obtain ⟨h1, _⟩ := hob
      simp only [execOp, ho, hx, hy]
      simp [eqGuard, binOp, Op.shift, show ¬ b < 0 by omega]
    · simp at h
  · rename_i t x y t2 ho
    split at h
    · rename_i k a k2 b hx hy
      simp only [Option.some.injEq, Prod.mk.injEq] at h
      obtain ⟨rfl, rfl, rfl⟩ := h
      obtain ⟨h1, _⟩ := hob
      simp only [execOp, ho, hx, hy]
      simp [eqGuard, binOp, Op.shift, show ¬ b < 0 by omega]
    · simp at h
  · rename_i t x lo hi ho
    split at h
    · rename_i e A n c hu hx
      split at h
      · simp at h
      · rename_i inf hinf
        split at h
        · rename_i k hv hlo hhi
          simp only [Option.some.injEq, Prod.mk.injEq] at h
          obtain ⟨rfl, rfl, rfl⟩ := h
          obtain ⟨h1, h2, _⟩ := hob
          simp only [execOp, ho, hx, hlo, hhi, Instr.sliceAt, Instr.slice]
          simp [run_some_underlying hu, Instr.sliceBounds, Instr.sliceBound, asIntOf, sizeOf, typeInfo, hinf, h1, h2, add_zero_id]
        · rename_i k lv hlo hhi
          simp only [Option.some.injEq, Prod.mk.injEq] at h
          obtain ⟨rfl, rfl, rfl⟩ := h
          obtain ⟨h1, h2, _⟩ := hob
          simp only [execOp, ho, hx, hlo, hhi, Instr.sliceAt, Instr.slice]
          simp [run_some_underlying hu, Instr.sliceBounds, Instr.sliceBound, asIntOf, sizeOf, typeInfo, hinf, h1, h2]
        · rename_i k lv k2 hv hlo hhi
          simp only [Option.some.injEq, Prod.mk.injEq] at h
          obtain ⟨rfl, rfl, rfl⟩ := h
          obtain ⟨h1, h2, h3, _⟩ := hob
          have h4 : ¬ (max hv 0 < lv) := by omega
          have h5 : 0 ≤ hv := by omega
          simp only [execOp, ho, hx, hlo, hhi, Instr.sliceAt, Instr.slice]
          simp [run_some_underlying hu, Instr.sliceBounds, Instr.sliceBound, asIntOf, sizeOf, typeInfo, hinf, h1, h3, h4, h5]
        · simp at h
    · rename_i b hu hx
      split at h
      · rename_i k hv hlo hhi
        simp only [Option.some.injEq, Prod.mk.injEq] at h
        obtain ⟨rfl, rfl, rfl⟩ := h
        obtain ⟨h1, h2, _⟩ := hob
        simp only [execOp, ho, hx, hlo, hhi, Instr.sliceAt, Instr.slice]
        simp [run_some_underlying hu, Instr.sliceBounds, Instr.sliceBound, asIntOf, h1, h2]
      · rename_i k lv hlo hhi
        simp only [Option.some.injEq, Prod.mk.injEq] at h
        obtain ⟨rfl, rfl, rfl⟩ := h
        obtain ⟨h1, h2, _⟩ := hob
        simp only [execOp, ho, hx, hlo, hhi, Instr.sliceAt, Instr.slice]
        simp [run_some_underlying hu, Instr.sliceBounds, Instr.sliceBound, asIntOf, h1, h2]
      · rename_i k lv k2 hv hlo hhi
        simp only [Option.some.injEq, Prod.mk.injEq] at h
        obtain ⟨rfl, rfl, rfl⟩ := h
        obtain ⟨h1, h2, h3, _⟩ := hob
        have h4 : ¬ (max hv 0 < lv) := by omega
        have h5 : 0 ≤ hv := by omega
        simp only [execOp, ho, hx, hlo, hhi, Instr.sliceAt, Instr.slice]
        simp [run_some_underlying hu, Instr.sliceBounds, Instr.sliceBound, asIntOf, h1, h3, h4, h5]
      · simp at h
    · simp at h
  · simp at h
end Go.Proofs.YtkkophhnliplhaaDoor
namespace Go.Proofs.YtkkophhnliplhaaDoor
open Go Go.RowKit
def symOp (P : Program) (rd : Bool) (C : World → Addr → Value → Prop) (ρ : Operand → Value) (w : World) (o : Oper) (os : List Orc) : Option (Rs Value) :=
  match symX P (C w) ρ o os with
  | some (v, ob, os') => some ⟨v, w, ob, os'⟩
  | none => match symS P rd C (execOp ρ o) w os with
    | some ⟨.value v, w', ob, os'⟩ => some ⟨v, w', ob, os'⟩
    | some ⟨.skip, w', ob, os'⟩ => match rd with
      | false => some ⟨undef, w', ob, os'⟩
      | true => none
    | _ => none
def symOpA (P : Program) (rd : Bool) (C : World → Addr → Value → Prop) (ρ : Operand → Value) (w : World) (o : Oper) (os : List Orc) : Option (Value × World × List Prop) :=
  match symOp P rd C ρ w o os with
  | some ⟨v, w', ob, []⟩ => some (v, w', ob)
  | some ⟨v, w', ob, [.as_ u]⟩ => some (u, w', ob ++ [v = u])
  | _ => none
def Gives (n : Next) (v : Value) : Prop := n = .value v ∨ (n = .skip ∧ v = undef)
def CellC (w : World) (ad : Addr) (v : Value) : Prop := w.cell? ad = some v
theorem symOp_lex {P : Program} {ρ : Operand → Value} {w : World} {o : Oper} {os : List Orc} {r : Rs Value} (h : symOp P false CellC ρ w o os = some r) (hob : AllP r.ob) :
    ∃ n, (execOp ρ o).run P w = .ok n r.w ∧ Gives n r.x := by
  unfold symOp at h
  split at h
  · rename_i v ob os' hx
    simp only [Option.some.injEq] at h
    subst h
    exact ⟨_, symX_sound hx hob w (fun _ _ h => h), .inl rfl⟩
  · split at h
    · rename_i v w' ob os' hs
      simp only [Option.some.injEq] at h
      subst h
      exact ⟨_, symS_lex (fun _ _ _ h => h) _ hs hob, .inl rfl⟩
    · rename_i w' ob os' hs
      simp only [Option.some.injEq] at h
      subst h
      exact ⟨_, symS_lex (fun _ _ _ h => h) _ hs hob, .inr ⟨rfl, rfl⟩⟩
    · simp at h
theorem symOp_rd {P : Program} {C : World → Addr → Value → Prop} {ρ : Operand → Value} {w : World} {o : Oper} {os : List Orc} {r : Rs Value} (h : symOp P true C ρ w o os = some r) (hob : AllP r.ob) :
    r.w = w ∧ ∀ w2 : World, (∀ ad v, C w ad v → w2.cell? ad = some v) → (execOp ρ o).run P w2 = .ok (.value r.x) w2 := by
  unfold symOp at h
  split at h
  · rename_i v ob os' hx
    simp only [Option.some.injEq] at h
    subst h
    exact ⟨rfl, fun w2 h2 => symX_sound hx hob w2 h2⟩
  · split at h
    · rename_i v w' ob os' hs
      simp only [Option.some.injEq] at h
      subst h
      have := symS_rd _ hs hob
      exact ⟨this.1, this.2⟩
    · simp at h
    · simp at h
theorem symOpA_lex {P : Program} {ρ : Operand → Value} {w w' : World} {o : Oper} {os : List Orc} {v : Value} {ob : List Prop} (h : symOpA P false CellC ρ w o os = some (v, w', ob)) (hob : AllP ob) :
    ∃ n, (execOp ρ o).run P w = .ok n w' ∧ Gives n v := by
  unfold symOpA at h
  split at h
  · rename_i u w2 ob2 hs
    simp only [Option.some.injEq, Prod.mk.injEq] at h
    obtain ⟨rfl, rfl, rfl⟩ := h
    exact symOp_lex hs hob
  · rename_i u w2 ob2 u2 hs
    simp only [Option.some.injEq, Prod.mk.injEq] at h
    obtain ⟨rfl, rfl, rfl⟩ := h
    have h1 := AllP_append hob
    obtain ⟨h1, h2, _⟩ := h1
    subst h2
    exact symOp_lex hs h1
  · simp at h
theorem symOpA_rd {P : Program} {C : World → Addr → Value → Prop} {ρ : Operand → Value} {w w' : World} {o : Oper} {os : List Orc} {v : Value} {ob : List Prop} (h : symOpA P true C ρ w o os = some (v, w', ob)) (hob : AllP ob) :
    w' = w ∧ ∀ w2 : World, (∀ ad v, C w ad v → w2.cell? ad = some v) → (execOp ρ o).run P w2 = .ok (.value v) w2 := by
  unfold symOpA at h
  split at h
  · rename_i u w2 ob2 hs
    simp only [Option.some.injEq, Prod.mk.injEq] at h
    obtain ⟨rfl, rfl, rfl⟩ := h
    exact symOp_rd hs hob
  · rename_i u w2 ob2 u2 hs
    simp only [Option.some.injEq, Prod.mk.injEq] at h
    obtain ⟨rfl, rfl, rfl⟩ := h
    have h1 := AllP_append hob
    obtain ⟨h1, h2, _⟩ := h1
    subst h2
    exact symOp_rd hs h1
  · simp at h
def wantedL (l : List (Nat × Value)) (ops : List Oper) (o : Oper) : Option Bool :=
  match o.guard with
  | none => some true
  | some (j, want) => match ops[j]? with
    | some oj => match oj.dst with
      | some t => match look l t with
        | some (.bool b) => some (b == want)
        | some (.tuple _) => some false
        | _ => none
      | none => none
    | none => none
theorem wantedL_sound {n : Nat} {a : Act} {l : List (Nat × Value)} (hf : Frm n a l) {ops : Array Oper} {o : Oper} {b : Bool} (h : wantedL l ops.toList o = some b) :
    Region.wanted o (yielded ops a.tmps) = b := by
  unfold wantedL at h
  split at h
  · rename_i hg
    simp only [Option.some.injEq] at h
    subst h
    simp [Region.wanted, hg]
  · rename_i j want hg
    split at h
    · rename_i oj hj
      split at h
      · rename_i t ht
        have hj' : ops[j]? = some oj := by simpa using hj
        split at h
        · rename_i bb hb
          simp only [Option.some.injEq] at h
          subst h
          have h1 := hf.val t _ hb
          have h2 := hf.lt t _ hb
          have h3 : a.tmps[t]? = some (.bool bb) := by
            rw [Array.getD_eq_getD_getElem?] at h1
            have : t < a.tmps.size := by rw [hf.size]; exact h2
            rw [Array.getElem?_eq_getElem this] at h1 ⊢
            simpa using h1
          simp only [Region.wanted, hg, yielded, hj', Option.bind_some, ht, h3]
          cases bb <;> cases want <;> rfl
        · rename_i tv hb
          simp only [Option.some.injEq] at h
          subst h
          have h1 := hf.val t _ hb
          have h2 := hf.lt t _ hb
          have h3 : a.tmps[t]? = some (.tuple tv) := by
            rw [Array.getD_eq_getD_getElem?] at h1
            have : t < a.tmps.size := by rw [hf.size]; exact h2
            rw [Array.getElem?_eq_getElem this] at h1 ⊢
            simpa using h1
          simp only [Region.wanted, hg, yielded, hj', Option.bind_some, ht, h3]
          cases want <;> rfl
        · simp at h
      · simp at h
    · simp at h
def hdO : List (List Orc) → List Orc
  | [] => []
  | h :: _ => h
def putL (n : Nat) (l : List (Nat × Value)) : Option Nat → Value → Option (List (Nat × Value))
  | none, _ => some l
  | some d, v => if Nat.blt d n = true then some ((d, v) :: l) else none
theorem Frm.putL {n : Nat} {a : Act} {l l' : List (Nat × Value)} (h : Frm n a l) {d : Option Nat} {v : Value} (hl : putL n l d v = some l') : Frm n (a.put d v) l' := by
  cases d with
  | none =>
    simp only [Proofs.YtkkophhnliplhaaDoor.putL, Option.some.injEq] at hl
    subst hl
    exact h.put' (by simp) v
  | some t =>
    simp only [Proofs.YtkkophhnliplhaaDoor.putL] at hl
    split at hl
    · rename_i hlt
      simp only [Option.some.injEq] at hl
      subst hl
      exact h.put (by simpa using hlt) v
    · simp at hl
def evSeq (P : Program) (rd : Bool) (n : Nat) (C : World → Addr → Value → Prop) (ops : List Oper) : List Oper → List (List Orc) → List (Nat × Value) → World → Option (List (Nat × Value) × World × List Prop)
  | [], _, l, w => some (l, w, [])
  | o :: r, hs, l, w =>
    match wantedL l ops o with
    | none => none
    | some false => match putL n l o.dst undef with
      | none => none
      | some l' => evSeq P rd n C ops r hs.tail l' w
    | some true => match known l o && notSel o with
      | false => none
      | true => match symOpA P rd C (rho l) w o (hdO hs) with
        | none => none
        | some (v, w', ob) => match putL n l o.dst v with
          | none => none
          | some l' => match evSeq P rd n C ops r hs.tail l' w' with
            | none => none
            | some (l2, w2, ob2) => some (l2, w2, ob ++ ob2)
theorem oper_wp_of_gives {P : Program} {o : Oper} {a : Act} {w w' : World} {K : Act → World → Prop} {Q : Exit → Act → World → Prop} {nx : Next} {v : Value} (hr : (execOp a.eval o).run P w = .ok nx w') (hg : Gives nx v)
    (h : K (a.put o.dst v) w') : o.wp P a w K Q := by
  unfold Oper.wp
  rw [hr]
  rcases hg with rfl | ⟨rfl, rfl⟩
  · exact h
  · exact h
theorem wpList_seq {P : Program} {n : Nat} {ops : Array Oper} {Q : Exit → Act → World → Prop} {rest : List Oper} :
    ∀ (os : List Oper) (hs : List (List Orc)) (l : List (Nat × Value)) (w : World) (a : Act) {l' : List (Nat × Value)} {w' : World} {ob : List Prop}, Frm n a l →
      evSeq P false n CellC ops.toList os hs l w = some (l', w', ob) → AllP ob → (∀ a', Frm n a' l' → wpList P ops Q rest a' w') → wpList P ops Q (os ++ rest) a w
  | [], hs, l, w, a, l', w', ob, hf, h, hob, next => by
    simp only [evSeq, Option.some.injEq, Prod.mk.injEq] at h
    obtain ⟨rfl, rfl, rfl⟩ := h
    exact next a hf
  | o :: r, hs, l, w, a, l', w', ob, hf, h, hob, next => by
    unfold evSeq at h
    split at h
    · simp at h
    · rename_i hw
      split at h
      · simp at h
      · rename_i l1 hl1
        have hwant := wantedL_sound hf hw
        show wpList P ops Q (o :: (r ++ rest)) a w
        unfold wpList
        rw [hwant]
        exact wpList_seq r hs.tail l1 w _ (hf.putL hl1) h hob next
    · rename_i hw
      have hwant := wantedL_sound hf hw
      split at h
      · simp at h
      · rename_i hk
        simp only [Bool.and_eq_true] at hk
        split at h
        · simp at h
        · rename_i v w1 ob1 hs1
          split at h
          · simp at h
          · rename_i l1 hl1
            split at h
            · simp at h
            · rename_i l2 w2 ob2 hev
              simp only [Option.some.injEq, Prod.mk.injEq] at h
              obtain ⟨rfl, rfl, rfl⟩ := h
              obtain ⟨hob1, hob2⟩ := AllP_append hob
              obtain ⟨nx, hrun, hg⟩ := symOpA_lex hs1 hob1
              show wpList P ops Q (o :: (r ++ rest)) a w
              unfold wpList
              rw [hwant, if_pos rfl]
              refine .inl (oper_wp_of_gives (by rw [hf.exec hk.1 hk.2]; exact hrun) hg ?_)
              exact wpList_seq r hs.tail l1 w1 _ (hf.putL hl1) hev hob2 next
def At (P : Program) (ops : Array Oper) (Q : Exit → Act → World → Prop) (k : Nat) (a : Act) (w : World) : Prop := wpList P ops Q (ops.toList.drop k) a w
theorem At.start {P : Program} {id : Nat} {ops : Array Oper} {Q : Exit → Act → World → Prop} {a : Act} {w : World} (h : At P ops Q 0 a w) : (Code.region id ops false).wp P Q a w := wp_region_list h
theorem At.done {P : Program} {ops : Array Oper} {Q : Exit → Act → World → Prop} {k : Nat} {a : Act} {w : World} (hk : ops.toList.drop k = []) (h : Q .normal a w) : At P ops Q k a w := by
  unfold At
  rw [hk]
  exact h
theorem At.seq {P : Program} {n : Nat} {ops : Array Oper} {Q : Exit → Act → World → Prop} {k : Nat} {a : Act} {w : World} {l : List (Nat × Value)} (hf : Frm n a l) (m : Nat) (hs : List (List Orc)) (nw : List (Nat × Value)) (w' : World) (ob : List Prop)
    (h : evSeq P false n CellC ops.toList ((ops.toList.drop k).take m) hs l w = some (nw ++ l, w', ob)) (hob : AllP ob) (next : ∀ a' w1, w1 = w' → Frm n a' (nw ++ l) → At P ops Q (k + m) a' w1) : At P ops Q k a w := by
  unfold At
  have e : ops.toList.drop k = (ops.toList.drop k).take m ++ ops.toList.drop (k + m) := by
    rw [← List.drop_drop, List.take_append_drop]
  rw [e]
  exact wpList_seq _ hs l w a hf h hob (fun a' hf' => next a' w' rfl hf')
theorem At.rd {P : Program} {n : Nat} {ops : Array Oper} {Q : Exit → Act → World → Prop} {k : Nat} {a : Act} {w : World} {l : List (Nat × Value)} (hf : Frm n a l) (m : Nat) (hs : List (List Orc)) (nw : List (Nat × Value)) (ob : List Prop)
    (h : evSeq P false n CellC ops.toList ((ops.toList.drop k).take m) hs l w = some (nw ++ l, w, ob)) (hob : AllP ob) (next : ∀ a', Frm n a' (nw ++ l) → At P ops Q (k + m) a' w) : At P ops Q k a w :=
  At.seq hf m hs nw w ob h hob (fun a' w1 hw hf' => by subst hw; exact next a' hf')
end Go.Proofs.YtkkophhnliplhaaDoor
namespace Go.Proofs.YtkkophhnliplhaaDoor
open Go Go.RowKit
def callAt (P : Program) (l : List (Nat × Value)) (ops : List Oper) (k : Nat) : Option (FuncId × Array Value × Option Nat) :=
  match ops[k]? with
  | none => none
  | some o => match wantedL l ops o, known l o && notSel o with
    | some true, true => match symS P true (fun _ _ _ => False) (execOp (rho l) o) default [] with
      | some ⟨.enter f args, _, [], _⟩ => some (f, args, o.dst)
      | _ => none
    | _, _ => none
theorem drop_of_getElem? {ops : Array Oper} {k : Nat} {o : Oper} (h : ops.toList[k]? = some o) : ops.toList.drop k = o :: ops.toList.drop (k + 1) := by
  obtain ⟨hlt, he⟩ := List.getElem?_eq_some_iff.1 h
  rw [List.drop_eq_getElem_cons hlt, he]
theorem At.call {P : Program} {n : Nat} {ops : Array Oper} {Q : Exit → Act → World → Prop} {k : Nat} {a : Act} {w : World} {l : List (Nat × Value)} (hf : Frm n a l) (f : FuncId) (args : Array Value) (d : Option Nat)
    (hc : callAt P l ops.toList k = some (f, args, d)) {R : Ending → World → Prop} (hcall : Calls P f args w R)
    (hR : ∀ e w1, R e w1 → ∃ v, e = .returned v ∧ ∃ l', putL n l d v = some l' ∧ ∀ a', Frm n a' l' → At P ops Q (k + 1) a' w1) : At P ops Q k a w := by
  unfold callAt at hc
  split at hc
  · simp at hc
  · rename_i o ho
    split at hc
    · rename_i hwl hkn
      simp only [Bool.and_eq_true] at hkn
      split at hc
      · rename_i g as_ w0 os0 hs
        simp only [Option.some.injEq, Prod.mk.injEq] at hc
        obtain ⟨rfl, rfl, rfl⟩ := hc
        have hrun := (symS_rd _ hs trivial).2 w (fun _ _ h => h.elim)
        unfold At
        rw [drop_of_getElem? ho]
        unfold wpList
        rw [wantedL_sound hf hwl, if_pos rfl]
        refine .inl ?_
        unfold Oper.wp
        rw [hf.exec hkn.1 hkn.2, hrun]
        refine Calls.mono hcall fun e w1 he => ?_
        obtain ⟨v, rfl, l', hl', hnext⟩ := hR e w1 he
        exact hnext _ (hf.putL hl')
      · simp at hc
    · simp at hc
def opOk (l : List (Nat × Value)) (ops : List Oper) (o : Oper) : Bool := (match wantedL l ops o with | some true => true | _ => false) && known l o && notSel o
theorem At.run {P : Program} {n : Nat} {ops : Array Oper} {Q : Exit → Act → World → Prop} {k : Nat} {a : Act} {w : World} {l : List (Nat × Value)} (hf : Frm n a l) {o : Oper} (ho : ops.toList[k]? = some o) (hk : opOk l ops.toList o = true)
    {v : Value} {w1 : World} (hr : (execOp (rho l) o).run P w = .ok (.value v) w1) {l' : List (Nat × Value)} (hl : putL n l o.dst v = some l') (next : ∀ a', Frm n a' l' → At P ops Q (k + 1) a' w1) : At P ops Q k a w := by
  simp only [opOk, Bool.and_eq_true] at hk
  obtain ⟨⟨h1, h2⟩, h3⟩ := hk
  unfold At
  rw [drop_of_getElem? ho]
  unfold wpList
  split at h1
  · rename_i hwl
    rw [wantedL_sound hf hwl, if_pos rfl]
    exact .inl (oper_wp_of_gives (by rw [hf.exec h2 h3]; exact hr) (.inl rfl) (next _ (hf.putL hl)))
  · simp at h1
section
variable {P : Program} {Q : Exit → Act → World → Prop} {K : Act → World → Prop} {n : Nat} {a : Act} {w : World} {l : List (Nat × Value)}
theorem cond_T (hf : Frm n a l) {c : Operand} {x y : Code} (hc : opd l c = some (.bool true)) (h : x.wp P Q a w) : (Code.cond c x y).wp P Q a w := wp_cond_true (hf.opd hc) h
theorem cond_F (hf : Frm n a l) {c : Operand} {x y : Code} (hc : opd l c = some (.bool false)) (h : y.wp P Q a w) : (Code.cond c x y).wp P Q a w := wp_cond_false (hf.opd hc) h
theorem cond_S (hf : Frm n a l) {c : Operand} {x y : Code} {t : Bool} (hc : opd l c = some (.bool t)) (h1 : t = true → x.wp P Q a w) (h2 : t = false → y.wp P Q a w) : (Code.cond c x y).wp P Q a w := wp_cond_split (hf.opd hc) h1 h2
theorem t_n (h : K a w) : Exit.then K Q .normal a w := h
theorem t_r (h : Q .ret a w) : Exit.then K Q .ret a w := h
theorem t_e {id : Nat} (h : Q (.exit id) a w) : Exit.then K Q (.exit id) a w := h
theorem b_n {id : Nat} (h : Q .normal a w) : Exit.inBlock id Q .normal a w := h
theorem b_r {id : Nat} (h : Q .ret a w) : Exit.inBlock id Q .ret a w := h
theorem b_e {id : Nat} (h : Q .normal a w) : Exit.inBlock id Q (.exit id) a w := by simp only [Exit.inBlock, if_true]; exact h
theorem loop_g {c : Code} (I : Nat → Act → World → Prop) (n0 : Nat) (h0 : I n0 a w) (round : ∀ k a w, I k a w → c.wp P (Exit.then (fun a' w' => ∃ k', k' < k ∧ I k' a' w') Q) a w) : (Code.loop c).wp P Q a w := by
  intro b k cs
  have key : ∀ m a w, I m a w → ∃ e a' w', Q e a' w' ∧ Arrives P (lone (b.at a (.code c :: .inLoop c :: k)) cs w) b k cs e a' w' := by
    intro m
    induction m using Nat.strongRecOn with
    | _ m ih =>
      intro a w hI
      obtain ⟨e, a₁, w₁, hq, harr⟩ := round m a w hI b (.inLoop c :: k) cs
      cases e with
      | normal =>
        obtain ⟨k', hlt, hI₁⟩ := hq
        obtain ⟨e₂, a₂, w₂, hq₂, harr₂⟩ := ih k' hlt a₁ w₁ hI₁
        exact ⟨e₂, a₂, w₂, hq₂, .of_steps (Steps.trans harr (.one step_inLoop)) harr₂⟩
      | exit id => exact ⟨_, a₁, w₁, hq, .pass (x := .inLoop c) rfl (fun _ _ => .inl (by simp)) harr⟩
      | goto l => exact ⟨_, a₁, w₁, hq, .pass (x := .inLoop c) rfl (fun _ _ => .inl (by simp)) harr⟩
      | ret => exact ⟨_, a₁, w₁, hq, .pass (x := .inLoop c) rfl (fun _ _ => .inl (by simp)) harr⟩
      | panic ch => exact ⟨_, a₁, w₁, hq, .pass (x := .inLoop c) rfl (fun _ _ => .inl (by simp)) harr⟩
      | outgrown => exact ⟨_, a₁, w₁, hq, .pass (x := .inLoop c) rfl (fun _ _ => .inl (by simp)) harr⟩
  obtain ⟨e, a', w', hq, harr⟩ := key _ a w h0
  exact ⟨e, a', w', hq, .of_steps (.one step_loop) harr⟩
theorem cut {x : Code} (M : Act → World → Prop) (h : x.wp P (Exit.then M Q) a w) (k : ∀ a w, M a w → K a w) : x.wp P (Exit.then K Q) a w :=
  Code.wp_mono (fun e a w q => by cases e <;> first | exact k _ _ q | exact q) h
end
def argsL : Nat → List Value → List (Nat × Value)
  | _, [] => []
  | i, v :: r => (i, v) :: argsL (i + 1) r
theorem look_argsL : ∀ (vs : List Value) (i t : Nat) (v : Value), look (argsL i vs) t = some v → i ≤ t ∧ vs[t - i]? = some v
  | [], _, _, _, h => by simp [argsL, look] at h
  | u :: r, i, t, v, h => by
    by_cases hi : i = t
    · subst hi
      simp only [argsL, look_cons_eq, Option.some.injEq] at h
      subst h
      simp
    · rw [argsL, look_cons_ne _ _ hi] at h
      obtain ⟨h1, h2⟩ := look_argsL r (i + 1) t v h
      refine ⟨by omega, ?_⟩
      rw [show t - i = (t - (i + 1)) + 1 by omega]
      simpa using h2
theorem enter_ {P : Program} {f : FuncId} {fn : Func} {c : Code} {args : List Value} {w : World} {R : Ending → World → Prop} {n : Nat} (hf : P.funcs[f]? = some fn) (hb : fn.body = some c) (hn : fn.ntmps = n) (hle : args.length ≤ n)
    (h : ∀ a, Frm n a (argsL 0 args) → c.wp P (bodyPost P fn R) a w) : Calls P f args.toArray w R := by
  refine calls_of_wp hf hb (h _ ⟨?_, rfl, ?_, ?_⟩)
  · simp [hn]
    omega
  · intro t v hv
    obtain ⟨_, h2⟩ := look_argsL args 0 t v hv
    simp only [Nat.sub_zero] at h2
    have hlt : t < args.length := (List.getElem?_eq_some_iff.1 h2).1
    simp only [Array.getD_eq_getD_getElem?]
    rw [Array.getElem?_append_left (by simpa using hlt)]
    simp [h2]
  · intro t v hv
    obtain ⟨_, h2⟩ := look_argsL args 0 t v hv
    have : t < args.length := by simpa using (List.getElem?_eq_some_iff.1 h2).1
    omega
def resL (P : Program) (l : List (Nat × Value)) (w : World) : List ResultVar → List (List Value) → Option (List Value × List Prop)
  | [], _ => some ([], [])
  | .tmp t :: r, hs => match look l t with
    | none => none
    | some v => match resL P l w r hs with
      | none => none
      | some (vs, ob) => some (v :: vs, ob)
  | .cell a t :: r, hs => match look l a with
    | some (.pointer (some ad)) => match symS P true CellC (loadVar t ad) w ((match hs with | [] => [] | h :: _ => h).map .ld) with
      | some ⟨v, _, ob1, []⟩ => match resL P l w r hs.tail with
        | none => none
        | some (vs, ob) => some (v :: vs, ob1 ++ ob)
      | _ => none
    | _ => none
def packL (vs : List Value) : Value := match vs with | [v] => v | vs => .tuple vs.toArray
def resF (tmps : Array Value) : ResultVar → Sem Value
  | .tmp t => pure (tmps.getD t undef)
  | .cell c t => do loadVar t (← asAddr (tmps.getD c undef))
theorem resL_sound {P : Program} {n : Nat} {a : Act} {w : World} {l : List (Nat × Value)} (hf : Frm n a l) : ∀ (rs : List ResultVar) (hs : List (List Value)) {vs : List Value} {ob : List Prop}, resL P l w rs hs = some (vs, ob) → AllP ob →
    (rs.mapM (resF a.tmps)).run P w = .ok vs w
  | [], _, vs, ob, h, _ => by
    simp only [resL, Option.some.injEq, Prod.mk.injEq] at h
    obtain ⟨rfl, rfl⟩ := h
    rfl
  | .tmp t :: r, hs, vs, ob, h, hob => by
    simp only [resL] at h
    split at h
    · simp at h
    · rename_i v hv
      split at h
      · simp at h
      · rename_i vs1 ob1 hr
        simp only [Option.some.injEq, Prod.mk.injEq] at h
        obtain ⟨rfl, rfl⟩ := h
        have := resL_sound hf r hs hr hob
        simp only [List.mapM_cons, Sem.run_bind, resF, Sem.run_pure, Result.andThen_ok, hf.val t v hv]
        rw [this]
        rfl
  | .cell c t :: r, hs, vs, ob, h, hob => by
    simp only [resL] at h
    split at h
    · rename_i ad had
      split at h
      · rename_i v w1 ob1 hs1
        split at h
        · simp at h
        · rename_i vs1 ob2 hr
          simp only [Option.some.injEq, Prod.mk.injEq] at h
          obtain ⟨rfl, rfl⟩ := h
          obtain ⟨h1, h2⟩ := AllP_append hob
          have h3 := (symS_rd _ hs1 h1).2 w (fun _ _ h => h)
          have := resL_sound hf r hs.tail hr h2
          simp only [List.mapM_cons, Sem.run_bind, resF, hf.val c _ had, asAddr, Sem.run_pure, Result.andThen_ok]
          rw [h3]
          simp only [Result.andThen_ok]
          rw [this]
          rfl
      · simp at h
    · simp at h
theorem results_sound {P : Program} {n : Nat} {a : Act} {w : World} {l : List (Nat × Value)} (hf : Frm n a l) {fn : Func} {hs : List (List Value)} {vs : List Value} {ob : List Prop} (h : resL P l w fn.results.toList hs = some (vs, ob)) (hob : AllP ob) :
    (results fn a.tmps).run P w = .ok (packL vs) w := by
  have h1 := resL_sound hf fn.results.toList hs h hob
  have e : results fn a.tmps = (do let vs ← fn.results.mapM (resF a.tmps); pure (if h : vs.size = 1 then vs[0] else .tuple vs)) := by
    unfold results
    congr 1
  rw [e, Array.mapM_eq_mapM_toList]
  have h2 : ∀ (s : Sem (List Value)) (f : List Value → Array Value), (f <$> s).run P w = (s.run P w).andThen fun a w' => .ok (f a) w' := fun s f => by
    rw [← bind_pure_comp]
    simp only [Sem.run_bind, Sem.run_pure]
  simp only [Sem.run_bind]
  rw [h2, h1]
  simp only [Result.andThen_ok, Sem.run_pure]
  congr 1
  match vs with
  | [] => rfl
  | [v] => rfl
  | u :: v :: r => simp [packL]
theorem ret_ {P : Program} {fn : Func} {R : Ending → World → Prop} {n : Nat} {a : Act} {w : World} {l : List (Nat × Value)} (hf : Frm n a l) (hs : List (List Value)) (vs : List Value) (ob : List Prop) (h : resL P l w fn.results.toList hs = some (vs, ob)) (hob : AllP ob)
    (hR : R (.returned (packL vs)) w) : bodyPost P fn R .ret a w := ⟨hf.defs, _, results_sound hf h hob, hR⟩
theorem end_ {P : Program} {fn : Func} {R : Ending → World → Prop} {n : Nat} {a : Act} {w : World} {l : List (Nat × Value)} (hf : Frm n a l) (hs : List (List Value)) (vs : List Value) (ob : List Prop) (h : resL P l w fn.results.toList hs = some (vs, ob)) (hob : AllP ob)
    (hR : R (.returned (packL vs)) w) : bodyPost P fn R .normal a w := ⟨hf.defs, _, results_sound hf h hob, hR⟩
def Bx (w : World) (b : Nat) (cs : List Value) (T : TypeId) : Prop := w.heap[b]? = some (.cells cs.toArray T (0, 0))
theorem Bx.lt {w : World} {b : Nat} {cs : List Value} {T : TypeId} (h : Bx w b cs T) : b < w.heap.size := (Array.getElem?_eq_some_iff.1 h).1
theorem Bx.cell {w : World} {b : Nat} {cs : List Value} {T : TypeId} (h : Bx w b cs T) {i : Nat} {v : Value} (hv : cs[i]? = some v) : w.cell? ⟨b, i, none⟩ = some v := by
  unfold Bx at h
  simp [World.cell?, h, hv]
theorem Bx.free {w : World} {b : Nat} {cs : List Value} {T : TypeId} (h : Bx w b cs T) (i : Nat) : w.frozen? ⟨b, i, none⟩ = false := by
  unfold Bx at h
  simp [World.frozen?, h]
theorem Bx.new {w w1 : World} {cs : List Value} {T : TypeId} (h : w1 = w.alloc (.cells cs.toArray T (0, 0))) : Bx w1 w.heap.size cs T := by
  subst h
  exact heap_alloc_new w _
theorem gr_alloc {w w1 : World} {o : Obj} (h : w1 = w.alloc o) : w.grownBy w1 none := by
  subst h
  exact World.grownBy_alloc w o none
theorem gr_refl (w : World) (row : Option Nat) : w.grownBy w row := ⟨rfl, rfl, rfl, Nat.le_refl _, fun _ _ _ => rfl⟩
theorem gr_drew {w w1 : World} (h : w1 = w.drew) : w.grownBy w1 none := by
  subst h
  exact ⟨rfl, rfl, rfl, Nat.le_refl _, fun _ _ _ => rfl⟩
theorem gr_ext {w w1 : World} (h : Ext w w1) : w.grownBy w1 none := ⟨h.os, h.tape, h.output, Below.size h, fun k hk _ => h.block k hk⟩
theorem Bx.gr {w w1 : World} {b : Nat} {cs : List Value} {T : TypeId} {row : Option Nat} (h : Bx w b cs T) (g : w.grownBy w1 row) (hne : row ≠ some b) : Bx w1 b cs T := by
  unfold Bx at *
  rw [g.block b (Array.getElem?_eq_some_iff.1 h).1 (fun e => hne e.symm)]
  exact h
theorem Bx.gn {w w1 : World} {b : Nat} {cs : List Value} {T : TypeId} (h : Bx w b cs T) (g : w.grownBy w1 none) : Bx w1 b cs T := h.gr g (by simp)
theorem Bx.gb {w w1 : World} {b r : Nat} {cs : List Value} {T : TypeId} (h : Bx w b cs T) (g : w.grownBy w1 (some r)) (hne : r ≠ b) : Bx w1 b cs T := h.gr g (fun e => hne (by injection e))
theorem Bx.set {w w1 : World} {b i : Nat} {cs : List Value} {T : TypeId} {v : Value} (h : Bx w b cs T) (hw : w1 = w.setCell ⟨b, i, none⟩ v) : Bx w1 b (cs.set i v) T := by
  subst hw
  unfold Bx at *
  simp [World.setCell, Array.getElem?_modify, h]
theorem gr_set {w w1 : World} {b i : Nat} {v : Value} (hw : w1 = w.setCell ⟨b, i, none⟩ v) : w.grownBy w1 (some b) := by
  subst hw
  refine ⟨rfl, rfl, rfl, by simp [World.setCell], fun k hk hne => Below.heap_setCell w _ _ _ (fun e => hne (by rw [e]))⟩
theorem Ext.gr {w0 w w1 : World} {row : Option Nat} (h : Ext w0 w) (g : w.grownBy w1 row) (hr : ∀ k, row = some k → w0.heap.size ≤ k) : Ext w0 w1 := Below.grown h g h.size hr
theorem Ext.gn {w0 w w1 : World} (h : Ext w0 w) (g : w.grownBy w1 none) : Ext w0 w1 := h.gr g (fun _ h => by cases h)
theorem gr_trans {w w1 w2 : World} {row : Option Nat} (g : w.grownBy w1 row) (k : w1.grownBy w2 row) : w.grownBy w2 row :=
  ⟨k.os.trans g.os, k.tape.trans g.tape, k.output.trans g.output, Nat.le_trans g.size k.size, fun i hi hne => (k.block i (Nat.lt_of_lt_of_le hi g.size) hne).trans (g.block i hi hne)⟩
def oneC : Value → Bool
  | .agg _ => false
  | .tuple _ => false
  | _ => true
theorem run_storeCells {P : Program} {b : Nat} {T : TypeId} : ∀ (vs : List Value) (off i : Nat) {w : World} {cs : List Value}, Bx w b cs T → off + i + vs.length ≤ cs.length → (∀ v ∈ vs, oneC v = true) →
    ∃ w1, (storeCells ⟨b, off, none⟩ vs i).run P w = .ok () w1 ∧ w.grownBy w1 (some b) ∧ Bx w1 b (cs.take (off + i) ++ vs ++ cs.drop (off + i + vs.length)) T
  | [], off, i, w, cs, hbx, _, _ => ⟨w, rfl, gr_refl w _, by simpa using hbx⟩
  | v :: r, off, i, w, cs, hbx, hfit, hone => by
    have hadd : (⟨b, off, none⟩ : Addr).add i = ⟨b, off + i, none⟩ := by unfold Addr.add; split <;> simp_all
    simp only [List.length_cons] at hfit
    have hlt : off + i < cs.length := by omega
    have hc := hbx.cell (List.getElem?_eq_getElem hlt)
    have hfz := hbx.free (off + i)
    have h1 := hbx.set (w1 := w.setCell ⟨b, off + i, none⟩ v) (i := off + i) (v := v) rfl
    obtain ⟨w1, hr, hg, hb⟩ := run_storeCells r off (i + 1) h1 (by simp only [List.length_set]; omega) (fun u hu => hone u (List.mem_cons_of_mem _ hu))
    refine ⟨w1, ?_, gr_trans (gr_set rfl) hg, ?_⟩
    · have hv := hone v List.mem_cons_self
      unfold storeCells
      simp only [Sem.run_bind, store, hadd]
      have : (Sem.store Mode.plain ⟨b, off + i, none⟩ v (Sem.pure ())).run P w = .ok () (w.setCell ⟨b, off + i, none⟩ v) := by
        cases v <;> first | (simp [oneC] at hv; done) | simp [Sem.run, hc, hfz]
      rw [this]
      exact hr
    · have e1 : (cs.set (off + i) v).take (off + (i + 1)) = cs.take (off + i) ++ [v] := by
        rw [show off + (i + 1) = (off + i) + 1 by omega, List.take_succ_eq_append_getElem (by simpa using hlt), List.take_set_of_le (by omega)]
        simp
      have e2 : (cs.set (off + i) v).drop (off + (i + 1) + r.length) = cs.drop (off + i + (v :: r).length) := by
        rw [List.drop_set_of_lt (by omega)]
        congr 1
        simp only [List.length_cons]
        omega
      rw [e1, e2] at hb
      simpa using hb
def storeAtL (l : List (Nat × Value)) (ops : List Oper) (k : Nat) : Option (TypeId × Value × Value) :=
  match ops[k]? with
  | none => none
  | some o => match opOk l ops o, o.op, o.dst with
    | true, .store t x y, none => some (t, rho l x, rho l y)
    | _, _, _ => none
def storeOk (P : Program) (t off : Nat) (v : Value) (cs : List Value) : Bool :=
  Nat.ble (off + v.cells.toList.length) cs.length && (match P.info? t with | some i => Nat.beq i.size v.cells.toList.length | none => false) && v.cells.toList.all oneC
theorem At.store {P : Program} {n : Nat} {ops : Array Oper} {Q : Exit → Act → World → Prop} {k : Nat} {a : Act} {w : World} {l : List (Nat × Value)} (hf : Frm n a l) {t b off : Nat} {v : Value} {cs : List Value} {T : TypeId}
    (hc : storeAtL l ops.toList k = some (t, .pointer (some ⟨b, off, none⟩), v)) (hbx : Bx w b cs T) (hok : storeOk P t off v cs = true)
    (next : ∀ a' w1, w.grownBy w1 (some b) → Bx w1 b (cs.take off ++ v.cells.toList ++ cs.drop (off + v.cells.toList.length)) T → Frm n a' l → At P ops Q (k + 1) a' w1) : At P ops Q k a w := by
  unfold storeAtL at hc
  split at hc
  · simp at hc
  · rename_i o ho
    split at hc
    · rename_i t' x y hok' hop hdst
      simp only [Option.some.injEq, Prod.mk.injEq] at hc
      obtain ⟨rfl, hx, hy⟩ := hc
      simp only [storeOk, Bool.and_eq_true] at hok
      obtain ⟨⟨h1, h2⟩, h3⟩ := hok
      have h1 : off + v.cells.toList.length ≤ cs.length := by simpa using h1
      split at h2
      · rename_i inf hinf
        have h2 : inf.size = v.cells.toList.length := by simpa using h2
        obtain ⟨w1, hr, hg, hb⟩ := run_storeCells (P := P) v.cells.toList off 0 hbx (by simpa using h1) (fun u hu => List.all_eq_true.1 h3 u hu)
        simp only [opOk, Bool.and_eq_true] at hok'
        obtain ⟨⟨k1, k2⟩, k3⟩ := hok'
        unfold At
        rw [drop_of_getElem? ho]
        unfold wpList
        split at k1
        · rename_i hwl
          rw [wantedL_sound hf hwl, if_pos rfl]
          have hrun : (execOp (rho l) o).run P w = .ok .skip w1 := by
            have hsz : v.cells.size = inf.size := by rw [h2]; simp
            simp only [execOp, hop, hx, hy, Instr.storeAt, Instr.sureAddr]
            simp [storeVar, sizeOf, typeInfo, hinf, hsz]
            simp [hr]
          have hf' := hf.putL (d := o.dst) (v := undef) (l' := l) (by rw [hdst]; rfl)
          exact .inl (oper_wp_of_gives (by rw [hf.exec k2 k3]; exact hrun) (.inr ⟨rfl, rfl⟩) (next _ w1 hg (by simpa using hb) hf'))
        · simp at k1
      · simp at h2
    · simp at hc
theorem w64 {x : Int} (h1 : -9223372036854775808 ≤ x) (h2 : x ≤ 9223372036854775807) : (.int .i64 (IntKind.i64.wrap x) : Value) = .int .i64 x := by
  congr 1
  simp only [IntKind.wrap, IntKind.bits, IntKind.signed]
  simp
  omega
theorem wu64 {x : Int} (h1 : 0 ≤ x) (h2 : x ≤ 18446744073709551615) : (.int .u64 (IntKind.u64.wrap x) : Value) = .int .u64 x := by
  congr 1
  simp only [IntKind.wrap, IntKind.bits, IntKind.signed]
  simp
  omega
theorem max_if (x y : Int) : (if y > x then y else x) = max x y := by split <;> omega
theorem min_if (x y : Int) : (if y < x then y else x) = min x y := by split <;> omega
end Go.Proofs.YtkkophhnliplhaaDoor
namespace Go.Proofs.YtkkophhnliplhaaDoor
open Go Go.RowKit
def HoldsC (Cs : List (Addr × Value)) (w : World) : Prop := AllP (Cs.map fun p => w.cell? p.1 = some p.2)
theorem AllP_get {α : Type} {f : α → Prop} : ∀ {l : List α} {j : Nat} {x : α}, AllP (l.map f) → l[j]? = some x → f x
  | [], j, x, _, h => by simp at h
  | y :: _, 0, x, hp, h => by simp at h; subst h; exact hp.1
  | y :: r, j + 1, x, hp, h => AllP_get (l := r) (j := j) hp.2 (by simpa using h)
theorem AllP_map {α : Type} {f g : α → Prop} : ∀ {l : List α}, (∀ x ∈ l, f x → g x) → AllP (l.map f) → AllP (l.map g)
  | [], _, _ => trivial
  | x :: r, h, hp => ⟨h x List.mem_cons_self hp.1, AllP_map (fun y hy => h y (List.mem_cons_of_mem _ hy)) hp.2⟩
theorem AllP_mem {α : Type} {f : α → Prop} : ∀ {l : List α}, AllP (l.map f) → ∀ x ∈ l, f x
  | y :: _, hp, x, h => by
    rcases List.mem_cons.1 h with rfl | h
    · exact hp.1
    · exact AllP_mem hp.2 x h
theorem HoldsC.gr {Cs : List (Addr × Value)} {w w1 : World} (h : HoldsC Cs w) (g : w.grownBy w1 none) : HoldsC Cs w1 :=
  AllP_map (fun _ _ hp => g.cell hp (by simp)) h
theorem HoldsC.gr' {Cs : List (Addr × Value)} {w w1 : World} {b : Nat} (h : HoldsC Cs w) (g : w.grownBy w1 (some b)) (hne : AllP (Cs.map fun p => p.1.block ≠ b)) : HoldsC Cs w1 :=
  AllP_map (fun p hp hc => g.cell hc (fun e => AllP_mem hne p hp (Option.some.inj e))) h
def CsC (Cs : List (Addr × Value)) (_ : World) (ad : Addr) (v : Value) : Prop := ∃ j : Nat, Cs[j]? = some (ad, v)
theorem CsC_holds {Cs : List (Addr × Value)} {w w2 : World} (h : HoldsC Cs w2) (ad : Addr) (v : Value) (hc : CsC Cs w ad v) : w2.cell? ad = some v := by
  obtain ⟨j, hj⟩ := hc
  exact AllP_get (f := fun p : Addr × Value => w2.cell? p.1 = some p.2) (x := (ad, v)) h hj
def AtH (P : Program) (ops : Array Oper) (Q : Exit → Act → World → Prop) (Cs : List (Addr × Value)) (fuel : Nat) (listed : Array Bool) (a : Act) (w : World) : Prop := wpAnyH P .any ops Q (HoldsC Cs) fuel listed a w
def NoHang (Q : Exit → Act → World → Prop) : Prop := ∀ (d : Option Tmp) (v : Value) c a w, Q (.panic c) (a.put d v) w → Q (.panic c) a w
theorem AtH.start {P : Program} {id : Nat} {ops : Array Oper} {Q : Exit → Act → World → Prop} {a : Act} {w : World} (Cs : List (Addr × Value)) (fuel : Nat) (listed : Array Bool) (hm : P.follows .mixedOrders = true) (hfu : ops.size = fuel) (hli : Array.replicate ops.size false = listed)
    (h : ∀ w1, w1 = w.drew → AtH P ops Q Cs fuel listed a w1) : (Code.region id ops true).wp P Q a w := by
  subst hfu
  subst hli
  exact wp_region_held (S := HoldsC Cs) hm (h _ rfl)
def evH (P : Program) (n : Nat) (Cs : List (Addr × Value)) (ops : Array Oper) : List Nat → List (List Orc) → List (Nat × Value) → Array Bool → Option (List (Nat × Value) × Array Bool × List Prop)
  | [], _, l, li => some (l, li, [])
  | i :: r, hs, l, li =>
    match Region.free .any ops li i && (Region.ready .any ops li).contains i, ops.toList[i]? with
    | true, some o => match wantedL l ops.toList o with
      | none => none
      | some false => match putL n l o.dst undef with
        | none => none
        | some l' => evH P n Cs ops r hs.tail l' (li.setIfInBounds i true)
      | some true => match known l o && notSel o with
        | false => none
        | true => match symOpA P true (CsC Cs) (rho l) default o (hdO hs) with
          | none => none
          | some (v, _, ob) => match putL n l o.dst v with
            | none => none
            | some l' => match evH P n Cs ops r hs.tail l' (li.setIfInBounds i true) with
              | none => none
              | some (l2, li2, ob2) => some (l2, li2, ob ++ ob2)
    | _, _ => none
theorem AtH.rd0 {P : Program} {n : Nat} {ops : Array Oper} {Q : Exit → Act → World → Prop} {Cs : List (Addr × Value)} {w : World} (hsel : Region.noSelect ops = true) (hQ : NoHang Q) (hS : HoldsC Cs w) :
    ∀ (is : List Nat) (hs : List (List Orc)) {l : List (Nat × Value)} {li : Array Bool} {a : Act} (l' : List (Nat × Value)) (li' : Array Bool) (ob : List Prop) (fuel : Nat), Frm n a l →
      evH P n Cs ops is hs l li = some (l', li', ob) → AllP ob → (∀ a', Frm n a' l' → AtH P ops Q Cs fuel li' a' w) → AtH P ops Q Cs (fuel + is.length) li a w
  | [], hs, l, li, a, l', li', ob, fuel, hf, h, hob, next => by
    simp only [evH, Option.some.injEq, Prod.mk.injEq] at h
    obtain ⟨rfl, rfl, rfl⟩ := h
    exact next a hf
  | i :: r, hs, l, li, a, l', li', ob, fuel, hf, h, hob, next => by
    unfold evH at h
    split at h
    · rename_i o hfr ho
      simp only [Bool.and_eq_true] at hfr
      have ho' : ops[i]? = some o := by simpa using ho
      split at h
      · simp at h
      · rename_i hwl
        have hwant := wantedL_sound hf hwl
        split at h
        · simp at h
        · rename_i l1 hl1
          have := AtH.rd0 hsel hQ hS r hs.tail l' li' ob fuel (hf.putL hl1) h hob next
          exact wpAnyH_take ho' hsel hfr.1 hfr.2 (hQ o.dst undef) (.inr ⟨hwant, rfl⟩) hS this
      · rename_i hwl
        have hwant := wantedL_sound hf hwl
        split at h
        · simp at h
        · rename_i hk
          simp only [Bool.and_eq_true] at hk
          split at h
          · simp at h
          · rename_i v w2 ob1 hs1
            split at h
            · simp at h
            · rename_i l1 hl1
              split at h
              · simp at h
              · rename_i l2 li2 ob2 hev
                simp only [Option.some.injEq, Prod.mk.injEq] at h
                obtain ⟨rfl, rfl, rfl⟩ := h
                obtain ⟨hob1, hob2⟩ := AllP_append hob
                obtain ⟨_, hrun⟩ := symOpA_rd hs1 hob1
                have := AtH.rd0 hsel hQ hS r hs.tail l2 li2 ob2 fuel (hf.putL hl1) hev hob2 next
                exact wpAnyH_take ho' hsel hfr.1 hfr.2 (hQ o.dst v) (.inl ⟨hwant, fun w3 h3 => by rw [hf.exec hk.1 hk.2]; exact hrun w3 (fun ad u hc => CsC_holds h3 ad u hc)⟩) hS this
    · simp at h
theorem AtH.rd {P : Program} {n : Nat} {ops : Array Oper} {Q : Exit → Act → World → Prop} {Cs : List (Addr × Value)} {w : World} (hsel : Region.noSelect ops = true) (hQ : NoHang Q) (hS : HoldsC Cs w)
    (is : List Nat) (hs : List (List Orc)) {l : List (Nat × Value)} {li : Array Bool} {a : Act} (nw : List (Nat × Value)) (li' : Array Bool) (ob : List Prop) (fuel : Nat) (hf : Frm n a l)
    (h : evH P n Cs ops is hs l li = some (nw ++ l, li', ob)) (hob : AllP ob) (next : ∀ a', Frm n a' (nw ++ l) → AtH P ops Q Cs fuel li' a' w) : AtH P ops Q Cs (fuel + is.length) li a w :=
  AtH.rd0 hsel hQ hS is hs _ li' ob fuel hf h hob next
theorem AtH.done {P : Program} {ops : Array Oper} {Q : Exit → Act → World → Prop} {Cs : List (Addr × Value)} {fuel : Nat} {li : Array Bool} {a : Act} {w : World} (hr : Region.ready .any ops li = []) (h : Q .normal a w) : AtH P ops Q Cs fuel li a w := wpAnyH_done hr h fuel
def OneH (P : Program) (ops : Array Oper) (Q : Exit → Act → World → Prop) (Cs : List (Addr × Value)) (fuel : Nat) (li : Array Bool) (i : Nat) (a : Act) (w : World) : Prop :=
  wpOp P ops Q i (fun a' w' => HoldsC Cs w' ∧ AtH P ops Q Cs fuel (li.setIfInBounds i true) a' w') a w
theorem AtH.all {P : Program} {ops : Array Oper} {Q : Exit → Act → World → Prop} {Cs : List (Addr × Value)} {li : Array Bool} {a : Act} {w : World} (is : List Nat) (fuel : Nat) (hr : Region.ready .any ops li = is) (hne : is ≠ [])
    (h : AllP (is.map fun i => OneH P ops Q Cs fuel li i a w)) : AtH P ops Q Cs (fuel + 1) li a w := wpAnyH_all hr hne (AllP_mem h)
section
variable {P : Program} {n : Nat} {ops : Array Oper} {Q : Exit → Act → World → Prop} {Cs : List (Addr × Value)} {fuel i : Nat} {li : Array Bool} {a : Act} {w : World} {l : List (Nat × Value)}
theorem OneH.seq0 (hf : Frm n a l) (hs : List (List Orc)) (l' : List (Nat × Value)) (w' : World) (ob : List Prop) (li' : Array Bool) (hli : li.setIfInBounds i true = li')
    (h : evSeq P false n CellC ops.toList ((ops.toList.drop i).take 1) hs l w = some (l', w', ob)) (hi : Nat.blt i ops.toList.length = true) (hob : AllP ob)
    (next : ∀ a' w1, w1 = w' → Frm n a' l' → HoldsC Cs w1 ∧ AtH P ops Q Cs fuel li' a' w1) : OneH P ops Q Cs fuel li i a w := by
  subst hli
  have hi : i < ops.toList.length := by simpa using hi
  have ho : ops.toList[i]? = some ops.toList[i] := List.getElem?_eq_getElem hi
  rw [List.drop_eq_getElem_cons hi, List.take_succ_cons, List.take_zero] at h
  have ho' : ops[i]? = some ops.toList[i] := by rw [← Array.getElem?_toList]; exact ho
  unfold OneH wpOp
  rw [ho']
  unfold evSeq at h
  split at h
  · simp at h
  · rename_i hwl
    split at h
    · simp at h
    · rename_i l1 hl1
      simp only [evSeq, Option.some.injEq, Prod.mk.injEq] at h
      obtain ⟨rfl, rfl, rfl⟩ := h
      simp only [wantedL_sound hf hwl, Bool.false_eq_true, if_false]
      exact next _ _ rfl (hf.putL hl1)
  · rename_i hwl
    split at h
    · simp at h
    · rename_i hk
      simp only [Bool.and_eq_true] at hk
      split at h
      · simp at h
      · rename_i v w1 ob1 hs1
        split at h
        · simp at h
        · rename_i l1 hl1
          split at h
          · simp at h
          · rename_i l2 w2 ob2 hev
            simp only [Option.some.injEq, Prod.mk.injEq] at h
            obtain ⟨rfl, rfl, rfl⟩ := h
            simp only [evSeq, Option.some.injEq, Prod.mk.injEq] at hev
            obtain ⟨rfl, rfl, rfl⟩ := hev
            obtain ⟨hob1, _⟩ := AllP_append hob
            obtain ⟨nx, hrun, hg⟩ := symOpA_lex hs1 hob1
            simp only [wantedL_sound hf hwl, if_true]
            exact .inl (oper_wp_of_gives (by rw [hf.exec hk.1 hk.2]; exact hrun) hg (next _ _ rfl (hf.putL hl1)))
theorem OneH.seq (hf : Frm n a l) (hs : List (List Orc)) (nw : List (Nat × Value)) (w' : World) (ob : List Prop) (li' : Array Bool) (hli : li.setIfInBounds i true = li')
    (h : evSeq P false n CellC ops.toList ((ops.toList.drop i).take 1) hs l w = some (nw ++ l, w', ob)) (hi : Nat.blt i ops.toList.length = true) (hob : AllP ob)
    (next : ∀ a' w1, w1 = w' → Frm n a' (nw ++ l) → HoldsC Cs w1 ∧ AtH P ops Q Cs fuel li' a' w1) : OneH P ops Q Cs fuel li i a w := OneH.seq0 hf hs _ w' ob li' hli h hi hob next
theorem OneH.call (hf : Frm n a l) (f : FuncId) (args : Array Value) (d : Option Nat) (li' : Array Bool) (hli : li.setIfInBounds i true = li')
    (hc : callAt P l ops.toList i = some (f, args, d)) {R : Ending → World → Prop} (hcall : Calls P f args w R)
    (hR : ∀ e w1, R e w1 → ∃ v, e = .returned v ∧ ∃ l', putL n l d v = some l' ∧ ∀ a', Frm n a' l' → HoldsC Cs w1 ∧ AtH P ops Q Cs fuel li' a' w1) : OneH P ops Q Cs fuel li i a w := by
  subst hli
  unfold callAt at hc
  split at hc
  · simp at hc
  · rename_i o ho
    have ho' : ops[i]? = some o := by simpa using ho
    split at hc
    · rename_i hwl hkn
      simp only [Bool.and_eq_true] at hkn
      split at hc
      · rename_i g as_ w0 os0 hs
        simp only [Option.some.injEq, Prod.mk.injEq] at hc
        obtain ⟨rfl, rfl, rfl⟩ := hc
        have hrun := (symS_rd _ hs trivial).2 w (fun _ _ h => h.elim)
        unfold OneH wpOp
        rw [ho']
        simp only [wantedL_sound hf hwl, if_true]
        refine .inl ?_
        unfold Oper.wp
        rw [hf.exec hkn.1 hkn.2, hrun]
        refine Calls.mono hcall fun e w1 he => ?_
        obtain ⟨v, rfl, l', hl', hnext⟩ := hR e w1 he
        exact hnext _ (hf.putL hl')
      · simp at hc
    · simp at hc
theorem OneH.run (hf : Frm n a l) {o : Oper} (ho : ops.toList[i]? = some o) (hk : opOk l ops.toList o = true) {nx : Next} {v : Value} {w1 : World} (li' : Array Bool) (hli : li.setIfInBounds i true = li')
    (hr : (execOp (rho l) o).run P w = .ok nx w1) (hg : Gives nx v) {l' : List (Nat × Value)} (hl : putL n l o.dst v = some l') (next : ∀ a', Frm n a' l' → HoldsC Cs w1 ∧ AtH P ops Q Cs fuel li' a' w1) : OneH P ops Q Cs fuel li i a w := by
  subst hli
  have ho' : ops[i]? = some o := by simpa using ho
  simp only [opOk, Bool.and_eq_true] at hk
  obtain ⟨⟨h1, h2⟩, h3⟩ := hk
  unfold OneH wpOp
  rw [ho']
  split at h1
  · rename_i hwl
    simp only [wantedL_sound hf hwl, if_true]
    exact .inl (oper_wp_of_gives (by rw [hf.exec h2 h3]; exact hr) hg (next _ (hf.putL hl)))
  · simp at h1
theorem store_run {t b off : Nat} {v : Value} {cs : List Value} {T : TypeId} (hbx : Bx w b cs T) (hok : storeOk P t off v cs = true) {o : Oper} {x y : Operand} (hop : o.op = .store t x y) (hx : rho l x = .pointer (some ⟨b, off, none⟩)) (hy : rho l y = v) :
    ∃ w1, (execOp (rho l) o).run P w = .ok .skip w1 ∧ w.grownBy w1 (some b) ∧ Bx w1 b (cs.take off ++ v.cells.toList ++ cs.drop (off + v.cells.toList.length)) T := by
  simp only [storeOk, Bool.and_eq_true] at hok
  obtain ⟨⟨h1, h2⟩, h3⟩ := hok
  have h1 : off + v.cells.toList.length ≤ cs.length := by simpa using h1
  split at h2
  · rename_i inf hinf
    have h2 : inf.size = v.cells.toList.length := by simpa using h2
    obtain ⟨w1, hr, hg, hb⟩ := run_storeCells (P := P) v.cells.toList off 0 hbx (by simpa using h1) (fun u hu => List.all_eq_true.1 h3 u hu)
    refine ⟨w1, ?_, hg, by simpa using hb⟩
    have hsz : v.cells.size = inf.size := by rw [h2]; simp
    simp only [execOp, hop, hx, hy, Instr.storeAt, Instr.sureAddr]
    simp [storeVar, sizeOf, typeInfo, hinf, hsz]
    simp [hr]
  · simp at h2
theorem OneH.store (hf : Frm n a l) {t b off : Nat} {v : Value} {cs : List Value} {T : TypeId} (li' : Array Bool) (hli : li.setIfInBounds i true = li')
    (hc : storeAtL l ops.toList i = some (t, .pointer (some ⟨b, off, none⟩), v)) (hbx : Bx w b cs T) (hok : storeOk P t off v cs = true)
    (next : ∀ a' w1, w.grownBy w1 (some b) → Bx w1 b (cs.take off ++ v.cells.toList ++ cs.drop (off + v.cells.toList.length)) T → Frm n a' l → HoldsC Cs w1 ∧ AtH P ops Q Cs fuel li' a' w1) : OneH P ops Q Cs fuel li i a w := by
  unfold storeAtL at hc
  split at hc
  · simp at hc
  · rename_i o ho
    split at hc
    · rename_i t' x y hok' hop hdst
      simp only [Option.some.injEq, Prod.mk.injEq] at hc
      obtain ⟨rfl, hx, hy⟩ := hc
      obtain ⟨w1, hr, hg, hb⟩ := store_run (P := P) (l := l) hbx hok hop hx hy
      exact OneH.run hf ho hok' li' hli hr (.inr ⟨rfl, rfl⟩) (by rw [hdst]; rfl) (fun a' hf' => next a' w1 hg hb hf')
    · simp at hc
end
end Go.Proofs.YtkkophhnliplhaaDoor
namespace Go.Proofs.YtkkophhnliplhaaDoor
open Go Go.RowKit
inductive Hn (C : Addr → Value → Prop) : List Orc → List Prop → Prop
  | n : Hn C [] []
  | l {ad : Addr} {v : Value} {os : List Orc} {ob : List Prop} (h : C ad v) (r : Hn C os ob) : Hn C (.ld v :: os) (C ad v :: ob)
  | o {os : List Orc} {ob : List Prop} (q : Orc) (r : Hn C os ob) : Hn C (q :: os) ob
  | p {q : Prop} {os : List Orc} {ob : List Prop} (h : q) (r : Hn C os ob) : Hn C os (q :: ob)
section
variable {C : Addr → Value → Prop} {os : List Orc} {ob : List Prop}
theorem Hn.all (h : Hn C os ob) : AllP ob := by
  induction h with
  | n => trivial
  | l h _ ih => exact ⟨h, ih⟩
  | o _ _ ih => exact ih
  | p h _ ih => exact ⟨h, ih⟩
theorem Hn.v {v u : Value} (d : Nat) (h : v = u) (r : Hn C os ob) : Hn C (.av d u :: os) ((v = u) :: ob) := .o _ (.p h r)
theorem Hn.e {x b : Bool} (d : Nat) (h : x = b) (r : Hn C os ob) : Hn C (.av d (.bool b) :: os) (((.bool x : Value) = .bool b) :: ob) := .o _ (.p (congrArg Value.bool h) r)
theorem Hn.a {A : Option Addr} {a : Addr} (i : Int) (n : Nat) (h : A = some a) (r : Hn C os ob) (h0 : 0 ≤ i := by omega) (h1 : i < (n : Int) := by omega) : Hn C (.ad a :: os) ((A = some a) :: (0 ≤ i) :: (i < (n : Int)) :: ob) := .o _ (.p h (.p h0 (.p h1 r)))
theorem Hn.b (i : Int) (n : Nat) (r : Hn C os ob) (h0 : 0 ≤ i := by omega) (h1 : i < (n : Int) := by omega) : Hn C os ((0 ≤ i) :: (i < (n : Int)) :: ob) := .p h0 (.p h1 r)
theorem Hn.w (d : Nat) (x : Int) (r : Hn C os ob) (h0 : -9223372036854775808 ≤ x := by omega) (h1 : x ≤ 9223372036854775807 := by omega) : Hn C (.av d (.int .i64 x) :: os) (((.int .i64 (IntKind.i64.wrap x) : Value) = .int .i64 x) :: ob) := .v d (w64 h0 h1) r
end
def avOf : Option Nat → List Orc → Option (Value × List Orc)
  | some t, .av d u :: os => match Nat.beq d t with | true => some (u, os) | false => none
  | _, _ => none
def symOpF (P : Program) (rd : Bool) (C : World → Addr → Value → Prop) (ρ : Operand → Value) (w : World) (o : Oper) (os : List Orc) : Option (Value × World × List Prop × List Orc) :=
  match symOp P rd C ρ w o os with
  | none => none
  | some ⟨v, w', ob, os'⟩ => match avOf o.dst os' with
    | none => some (v, w', ob, os')
    | some (u, os2) => some (u, w', ob ++ [v = u], os2)
theorem symOpF_lex {P : Program} {ρ : Operand → Value} {w w' : World} {o : Oper} {os os' : List Orc} {v : Value} {ob : List Prop} (h : symOpF P false CellC ρ w o os = some (v, w', ob, os')) (hob : AllP ob) :
    ∃ n, (execOp ρ o).run P w = .ok n w' ∧ Gives n v := by
  unfold symOpF at h
  split at h
  · simp at h
  · rename_i u w2 ob2 os2 hs
    split at h
    · simp only [Option.some.injEq, Prod.mk.injEq] at h
      obtain ⟨rfl, rfl, rfl, rfl⟩ := h
      exact symOp_lex hs hob
    · simp only [Option.some.injEq, Prod.mk.injEq] at h
      obtain ⟨rfl, rfl, rfl, rfl⟩ := h
      obtain ⟨h1, h2, _⟩ := AllP_append hob
      subst h2
      exact symOp_lex hs h1
theorem symOpF_rd {P : Program} {C : World → Addr → Value → Prop} {ρ : Operand → Value} {w w' : World} {o : Oper} {os os' : List Orc} {v : Value} {ob : List Prop} (h : symOpF P true C ρ w o os = some (v, w', ob, os')) (hob : AllP ob) :
    w' = w ∧ ∀ w2 : World, (∀ ad v, C w ad v → w2.cell? ad = some v) → (execOp ρ o).run P w2 = .ok (.value v) w2 := by
  unfold symOpF at h
  split at h
  · simp at h
  · rename_i u w2 ob2 os2 hs
    split at h
    · simp only [Option.some.injEq, Prod.mk.injEq] at h
      obtain ⟨rfl, rfl, rfl, rfl⟩ := h
      exact symOp_rd hs hob
    · simp only [Option.some.injEq, Prod.mk.injEq] at h
      obtain ⟨rfl, rfl, rfl, rfl⟩ := h
      obtain ⟨h1, h2, _⟩ := AllP_append hob
      subst h2
      exact symOp_rd hs h1
def evF (P : Program) (rd : Bool) (n : Nat) (C : World → Addr → Value → Prop) (ops : List Oper) : List Oper → List Orc → List (Nat × Value) → World → Option (List (Nat × Value) × World × List Prop)
  | [], _, l, w => some (l, w, [])
  | o :: r, os, l, w =>
    match wantedL l ops o with
    | none => none
    | some false => match putL n l o.dst undef with
      | none => none
      | some l' => evF P rd n C ops r os l' w
    | some true => match known l o && notSel o with
      | false => none
      | true => match symOpF P rd C (rho l) w o os with
        | none => none
        | some (v, w', ob, os') => match putL n l o.dst v with
          | none => none
          | some l' => match evF P rd n C ops r os' l' w' with
            | none => none
            | some (l2, w2, ob2) => some (l2, w2, ob ++ ob2)
def pickL (l : List (Nat × Value)) : List Nat → Option (List (Nat × Value))
  | [] => some []
  | t :: r => match look l t, pickL l r with
    | some v, some vs => some ((t, v) :: vs)
    | _, _ => none
def hasN (t : Nat) : List Nat → Bool
  | [] => false
  | s :: r => match Nat.beq s t with | true => true | false => hasN t r
def dsOk (l : List (Nat × Value)) (ts : List Nat) : List Oper → Bool
  | [] => true
  | o :: r => match o.dst with
    | none => dsOk l ts r
    | some t => match hasN t ts, look l t with
      | false, some _ => false
      | _, _ => dsOk l ts r
def evL (x : Option (List (Nat × Value) × World × List Prop)) (l : List (Nat × Value)) (ops : List Oper) (ts : List Nat) : Option (List (Nat × Value) × World × List Prop) :=
  match x with
  | none => none
  | some (l2, w2, ob) => match dsOk l ts ops, pickL l2 ts with
    | true, some kept => some (kept, w2, ob)
    | _, _ => none
theorem look_app (l r : List (Nat × Value)) (t : Nat) : look (l ++ r) t = match look l t with | some v => some v | none => look r t := by
  induction l with
  | nil => rfl
  | cons x l ih =>
    obtain ⟨i, v⟩ := x
    simp only [List.cons_append, look]
    split
    · rfl
    · exact ih
theorem pickL_look {l : List (Nat × Value)} : ∀ {ts : List Nat} {k : List (Nat × Value)}, pickL l ts = some k → ∀ t, (∀ v, look k t = some v → look l t = some v) ∧ (hasN t ts = true → (look k t).isSome = true)
  | [], k, h, t => by
    simp only [pickL, Option.some.injEq] at h
    subst h
    exact ⟨fun v hv => by simp [look] at hv, fun h => by simp [hasN] at h⟩
  | s :: r, k, h, t => by
    simp only [pickL] at h
    split at h
    · rename_i v vs hv hvs
      simp only [Option.some.injEq] at h
      subst h
      obtain ⟨h1, h2⟩ := pickL_look hvs t
      by_cases hst : s = t
      · subst hst
        exact ⟨fun u hu => by rw [look_cons_eq] at hu; injection hu with hu; subst hu; exact hv, fun _ => by rw [look_cons_eq]; rfl⟩
      · refine ⟨fun u hu => by rw [look_cons_ne _ _ hst] at hu; exact h1 u hu, fun hh => ?_⟩
        rw [look_cons_ne _ _ hst]
        refine h2 ?_
        unfold hasN at hh
        split at hh
        · rename_i hb
          exact absurd (Nat.eq_of_beq_eq_true hb) hst
        · exact hh
    · simp at h
def noDst (t : Nat) (ops : List Oper) : Prop := ∀ o ∈ ops, o.dst ≠ some t
theorem putL_look {n : Nat} {l l' : List (Nat × Value)} {d : Option Nat} {v : Value} (h : putL n l d v = some l') {t : Nat} (ht : d ≠ some t) : look l' t = look l t := by
  cases d with
  | none => simp only [putL, Option.some.injEq] at h; subst h; rfl
  | some s =>
    simp only [putL] at h
    split at h
    · simp only [Option.some.injEq] at h
      subst h
      exact look_cons_ne _ _ (fun e => ht (by rw [e]))
    · simp at h
theorem evF_look {P : Program} {rd : Bool} {n : Nat} {C : World → Addr → Value → Prop} {ops : List Oper} {t : Nat} : ∀ {os : List Oper} {qs : List Orc} {l l' : List (Nat × Value)} {w w' : World} {ob : List Prop},
    evF P rd n C ops os qs l w = some (l', w', ob) → noDst t os → look l' t = look l t
  | [], qs, l, l', w, w', ob, h, _ => by
    simp only [evF, Option.some.injEq, Prod.mk.injEq] at h
    obtain ⟨rfl, _, _⟩ := h
    rfl
  | o :: r, qs, l, l', w, w', ob, h, hd => by
    have h1 := hd o List.mem_cons_self
    have h2 : noDst t r := fun o ho => hd o (List.mem_cons_of_mem _ ho)
    unfold evF at h
    split at h
    · simp at h
    · split at h
      · simp at h
      · rename_i l1 hl1
        rw [evF_look h h2, putL_look hl1 h1]
    · split at h
      · simp at h
      · split at h
        · simp at h
        · split at h
          · simp at h
          · rename_i l1 hl1
            split at h
            · simp at h
            · rename_i l2 w2 ob2 hev
              simp only [Option.some.injEq, Prod.mk.injEq] at h
              obtain ⟨rfl, _, _⟩ := h
              rw [evF_look hev h2, putL_look hl1 h1]
theorem dsOk_no {l : List (Nat × Value)} {ts : List Nat} {t : Nat} {v : Value} (hl : look l t = some v) (ht : hasN t ts = false) : ∀ {ops : List Oper}, dsOk l ts ops = true → noDst t ops
  | [], _ => fun o ho => by simp at ho
  | o :: r, h => by
    intro x hx e
    unfold dsOk at h
    rcases List.mem_cons.1 hx with rfl | hx
    · rw [e] at h
      simp [ht, hl] at h
    · split at h
      · exact dsOk_no hl ht h x hx e
      · split at h
        · simp at h
        · exact dsOk_no hl ht h x hx e
theorem Frm.kept {n : Nat} {a : Act} {l l2 k : List (Nat × Value)} {ops : List Oper} {ts : List Nat} (hf : Frm n a l2) (hp : pickL l2 ts = some k) (hd : dsOk l ts ops = true) (hs : ∀ t, noDst t ops → look l2 t = look l t) : Frm n a (k ++ l) := by
  have key : ∀ t v, look (k ++ l) t = some v → look l2 t = some v := by
    intro t v hv
    rw [look_app] at hv
    obtain ⟨h1, h2⟩ := pickL_look hp t
    split at hv
    · rename_i u hu
      injection hv with hv
      subst hv
      exact h1 _ hu
    · rename_i hn
      have ht : hasN t ts = false := by
        cases hh : hasN t ts
        · rfl
        · have := h2 hh
          rw [hn] at this
          simp at this
      rw [hs t (dsOk_no hv ht hd)]
      exact hv
  exact ⟨hf.size, hf.defs, fun t v hv => hf.val t v (key t v hv), fun t v hv => hf.lt t v (key t v hv)⟩
theorem wpList_F {P : Program} {n : Nat} {ops : Array Oper} {Q : Exit → Act → World → Prop} {rest : List Oper} :
    ∀ (os : List Oper) (hs : List Orc) (l : List (Nat × Value)) (w : World) (a : Act) {l' : List (Nat × Value)} {w' : World} {ob : List Prop}, Frm n a l →
      evF P false n CellC ops.toList os hs l w = some (l', w', ob) → AllP ob → (∀ a', Frm n a' l' → wpList P ops Q rest a' w') → wpList P ops Q (os ++ rest) a w
  | [], hs, l, w, a, l', w', ob, hf, h, hob, next => by
    simp only [evF, Option.some.injEq, Prod.mk.injEq] at h
    obtain ⟨rfl, rfl, rfl⟩ := h
    exact next a hf
  | o :: r, hs, l, w, a, l', w', ob, hf, h, hob, next => by
    unfold evF at h
    split at h
    · simp at h
    · rename_i hw
      split at h
      · simp at h
      · rename_i l1 hl1
        have hwant := wantedL_sound hf hw
        show wpList P ops Q (o :: (r ++ rest)) a w
        unfold wpList
        rw [hwant]
        exact wpList_F r hs l1 w _ (hf.putL hl1) h hob next
    · rename_i hw
      have hwant := wantedL_sound hf hw
      split at h
      · simp at h
      · rename_i hk
        simp only [Bool.and_eq_true] at hk
        split at h
        · simp at h
        · rename_i v w1 ob1 os1 hs1
          split at h
          · simp at h
          · rename_i l1 hl1
            split at h
            · simp at h
            · rename_i l2 w2 ob2 hev
              simp only [Option.some.injEq, Prod.mk.injEq] at h
              obtain ⟨rfl, rfl, rfl⟩ := h
              obtain ⟨hob1, hob2⟩ := AllP_append hob
              obtain ⟨nx, hrun, hg⟩ := symOpF_lex hs1 hob1
              show wpList P ops Q (o :: (r ++ rest)) a w
              unfold wpList
              rw [hwant, if_pos rfl]
              refine .inl (oper_wp_of_gives (by rw [hf.exec hk.1 hk.2]; exact hrun) hg ?_)
              exact wpList_F r os1 l1 w1 _ (hf.putL hl1) hev hob2 next
theorem At.rk {P : Program} {n : Nat} {ops : Array Oper} {Q : Exit → Act → World → Prop} {k : Nat} {a : Act} {w : World} {l : List (Nat × Value)} {os : List Orc} {ob : List Prop} (hf : Frm n a l) (m : Nat) (kept : List (Nat × Value)) (hn : Hn (CellC w) os ob)
    (next : ∀ a', Frm n a' (kept ++ l) → At P ops Q (k + m) a' w)
    (h : evL (evF P false n CellC ops.toList ((ops.toList.drop k).take m) os l w) l ((ops.toList.drop k).take m) (kept.map (·.1)) = some (kept, w, ob) := by kernel_rfl) : At P ops Q k a w := by
  unfold evL at h
  split at h
  · simp at h
  · rename_i l2 w2 ob2 hev
    split at h
    · rename_i k2 hd hp
      simp only [Option.some.injEq, Prod.mk.injEq] at h
      obtain ⟨rfl, rfl, rfl⟩ := h
      unfold At
      have e : ops.toList.drop k = (ops.toList.drop k).take m ++ ops.toList.drop (k + m) := by
        rw [← List.drop_drop, List.take_append_drop]
      rw [e]
      exact wpList_F _ os l w2 a hf hev hn.all (fun a' hf' => next a' (hf'.kept hp hd (fun t ht => evF_look hev ht)))
    · simp at h
theorem drawn_rk {P : Program} {id n : Nat} {ops : Array Oper} {Q : Exit → Act → World → Prop} {a : Act} {w : World} {l : List (Nat × Value)} {os : List Orc} {ob : List Prop} (hf : Frm n a l) (kept : List (Nat × Value)) (hn : Hn (CellC w) os ob) (next0 : ∀ a' w1, w1 = w.drew → Frm n a' (kept ++ l) → Q .normal a' w1)
    (hm : P.follows .mixedOrders = true := by kernel_rfl) (hB : Region.lexB .any ops = true := by kernel_rfl)
    (h : evL (evF P true n CellC ops.toList ops.toList os l w) l ops.toList (kept.map (·.1)) = some (kept, w, ob) := by kernel_rfl) : (Code.region id ops true).wp P Q a w := by
  unfold evL at h
  split at h
  · simp at h
  rename_i l2 w2 ob2 hev
  split at h
  rotate_left
  · simp at h
  rename_i k2 hd hp
  simp only [Option.some.injEq, Prod.mk.injEq] at h
  obtain ⟨rfl, rfl, rfl⟩ := h
  have next : ∀ a', Frm n a' l2 → Q .normal a' w2.drew := fun a' h => next0 a' _ rfl (h.kept hp hd (fun t ht => evF_look hev ht))
  have hob := hn.all
  clear next0 hp hd hn
  refine wp_region_still hm hB ?_
  have key : ∀ (os : List Oper) (hs : List Orc) (l : List (Nat × Value)) (w1 : World) (a : Act) {l' : List (Nat × Value)} {w' : World} {ob : List Prop}, w1 = w2 → Frm n a l →
      evF P true n CellC ops.toList os hs l w1 = some (l', w', ob) → AllP ob → (∀ a', Frm n a' l' → Q .normal a' w2.drew) → wpStill P ops { w2 with drawn := w2.drawn + 1 } (fun a' => Q .normal a' { w2 with drawn := w2.drawn + 1 }) os a := by
    intro os
    induction os with
    | nil =>
      intro hs l w1 a l' w' ob hw hf h hob next
      simp only [evF, Option.some.injEq, Prod.mk.injEq] at h
      obtain ⟨rfl, rfl, rfl⟩ := h
      exact next a hf
    | cons o r ih =>
      intro hs l w1 a l' w' ob hw hf h hob next
      unfold evF at h
      split at h
      · simp at h
      · rename_i hwl
        split at h
        · simp at h
        · rename_i l1 hl1
          have hwant := wantedL_sound hf hwl
          unfold wpStill
          rw [hwant]
          exact ih hs l1 w1 _ hw (hf.putL hl1) h hob next
      · rename_i hwl
        have hwant := wantedL_sound hf hwl
        split at h
        · simp at h
        · rename_i hk
          simp only [Bool.and_eq_true] at hk
          split at h
          · simp at h
          · rename_i v w3 ob1 os1 hs1
            split at h
            · simp at h
            · rename_i l1 hl1
              split at h
              · simp at h
              · rename_i l2 w4 ob2 hev
                simp only [Option.some.injEq, Prod.mk.injEq] at h
                obtain ⟨rfl, rfl, rfl⟩ := h
                obtain ⟨hob1, hob2⟩ := AllP_append hob
                obtain ⟨hw2, hrun⟩ := symOpF_rd hs1 hob1
                have hrun' := hrun { w2 with drawn := w2.drawn + 1 } (fun ad v hc => by subst hw; exact hc)
                unfold wpStill
                rw [hwant, if_pos rfl]
                unfold Oper.still
                rw [hf.exec hk.1 hk.2, hrun']
                exact ⟨rfl, ih os1 l1 w3 _ (hw2.trans hw) (hf.putL hl1) hev hob2 next⟩
  exact key ops.toList os l w2 a rfl hf hev hob next
def evHF (P : Program) (n : Nat) (Cs : List (Addr × Value)) (ops : Array Oper) : List Nat → List Orc → List (Nat × Value) → Array Bool → Option (List (Nat × Value) × List Prop)
  | [], _, l, _ => some (l, [])
  | i :: r, os, l, li =>
    match Region.free .any ops li i && (Region.ready .any ops li).contains i, ops.toList[i]? with
    | true, some o => match wantedL l ops.toList o with
      | none => none
      | some false => match putL n l o.dst undef with
        | none => none
        | some l' => evHF P n Cs ops r os l' (li.setIfInBounds i true)
      | some true => match known l o && notSel o with
        | false => none
        | true => match symOpF P true (CsC Cs) (rho l) default o os with
          | none => none
          | some (v, _, ob, os') => match putL n l o.dst v with
            | none => none
            | some l' => match evHF P n Cs ops r os' l' (li.setIfInBounds i true) with
              | none => none
              | some (l2, ob2) => some (l2, ob ++ ob2)
    | _, _ => none
def setLi (li : Array Bool) : List Nat → Array Bool
  | [] => li
  | i :: r => setLi (li.setIfInBounds i true) r
def opsAt (ops : List Oper) : List Nat → List Oper
  | [] => []
  | i :: r => match ops[i]? with | some o => o :: opsAt ops r | none => opsAt ops r
theorem evHF_look {P : Program} {n : Nat} {Cs : List (Addr × Value)} {ops : Array Oper} {t : Nat} : ∀ {is : List Nat} {qs : List Orc} {l l' : List (Nat × Value)} {li : Array Bool} {ob : List Prop},
    evHF P n Cs ops is qs l li = some (l', ob) → noDst t (opsAt ops.toList is) → look l' t = look l t
  | [], qs, l, l', li, ob, h, _ => by
    simp only [evHF, Option.some.injEq, Prod.mk.injEq] at h
    obtain ⟨rfl, _⟩ := h
    rfl
  | i :: r, qs, l, l', li, ob, h, hd => by
    unfold evHF at h
    split at h
    · rename_i o hfr ho
      have hd' : noDst t (o :: opsAt ops.toList r) := by
        unfold opsAt at hd
        rw [ho] at hd
        exact hd
      have h1 := hd' o List.mem_cons_self
      have h2 : noDst t (opsAt ops.toList r) := fun o ho => hd' o (List.mem_cons_of_mem _ ho)
      split at h
      · simp at h
      · split at h
        · simp at h
        · rename_i l1 hl1
          rw [evHF_look h h2, putL_look hl1 h1]
      · split at h
        · simp at h
        · split at h
          · simp at h
          · split at h
            · simp at h
            · rename_i l1 hl1
              split at h
              · simp at h
              · rename_i l2 ob2 hev
                simp only [Option.some.injEq, Prod.mk.injEq] at h
                obtain ⟨rfl, _⟩ := h
                rw [evHF_look hev h2, putL_look hl1 h1]
    · simp at h
theorem AtH.rk0 {P : Program} {n : Nat} {ops : Array Oper} {Q : Exit → Act → World → Prop} {Cs : List (Addr × Value)} {w : World} (hsel : Region.noSelect ops = true) (hQ : NoHang Q) (hS : HoldsC Cs w) :
    ∀ (is : List Nat) (hs : List Orc) {l : List (Nat × Value)} {li : Array Bool} {a : Act} (l' : List (Nat × Value)) (ob : List Prop) (fuel : Nat), Frm n a l →
      evHF P n Cs ops is hs l li = some (l', ob) → AllP ob → (∀ a', Frm n a' l' → AtH P ops Q Cs fuel (setLi li is) a' w) → AtH P ops Q Cs (fuel + is.length) li a w
  | [], hs, l, li, a, l', ob, fuel, hf, h, hob, next => by
    simp only [evHF, Option.some.injEq, Prod.mk.injEq] at h
    obtain ⟨rfl, rfl⟩ := h
    exact next a hf
  | i :: r, hs, l, li, a, l', ob, fuel, hf, h, hob, next => by
    unfold evHF at h
    split at h
    · rename_i o hfr ho
      simp only [Bool.and_eq_true] at hfr
      have ho' : ops[i]? = some o := by simpa using ho
      split at h
      · simp at h
      · rename_i hwl
        have hwant := wantedL_sound hf hwl
        split at h
        · simp at h
        · rename_i l1 hl1
          have := AtH.rk0 hsel hQ hS r hs l' ob fuel (hf.putL hl1) h hob next
          exact wpAnyH_take ho' hsel hfr.1 hfr.2 (hQ o.dst undef) (.inr ⟨hwant, rfl⟩) hS this
      · rename_i hwl
        have hwant := wantedL_sound hf hwl
        split at h
        · simp at h
        · rename_i hk
          simp only [Bool.and_eq_true] at hk
          split at h
          · simp at h
          · rename_i v w2 ob1 os1 hs1
            split at h
            · simp at h
            · rename_i l1 hl1
              split at h
              · simp at h
              · rename_i l2 ob2 hev
                simp only [Option.some.injEq, Prod.mk.injEq] at h
                obtain ⟨rfl, rfl⟩ := h
                obtain ⟨hob1, hob2⟩ := AllP_append hob
                obtain ⟨_, hrun⟩ := symOpF_rd hs1 hob1
                have := AtH.rk0 hsel hQ hS r os1 l2 ob2 fuel (hf.putL hl1) hev hob2 next
                exact wpAnyH_take ho' hsel hfr.1 hfr.2 (hQ o.dst v) (.inl ⟨hwant, fun w3 h3 => by rw [hf.exec hk.1 hk.2]; exact hrun w3 (fun ad u hc => CsC_holds h3 ad u hc)⟩) hS this
    · simp at h
def evLH (x : Option (List (Nat × Value) × List Prop)) (l : List (Nat × Value)) (ops : List Oper) (ts : List Nat) : Option (List (Nat × Value) × List Prop) :=
  match x with
  | none => none
  | some (l2, ob) => match dsOk l ts ops, pickL l2 ts with
    | true, some kept => some (kept, ob)
    | _, _ => none
theorem CsC_at {Cs L : List (Addr × Value)} (e : Cs = L) {w : World} (j : Nat) {ad : Addr} {v : Value} (h : L[j]? = some (ad, v)) : CsC Cs w ad v := ⟨j, by rw [e]; exact h⟩
theorem AtH.rk {P : Program} {n : Nat} {ops : Array Oper} {Q : Exit → Act → World → Prop} {Cs : List (Addr × Value)} {w : World} {l : List (Nat × Value)} {li : Array Bool} {a : Act} {os : List Orc} {ob : List Prop} (hS : HoldsC Cs w) (hf : Frm n a l)
    (is : List Nat) (fuel : Nat) (kept : List (Nat × Value)) (hn : Hn (CsC Cs default) os ob) (next : ∀ a', Frm n a' (kept ++ l) → AtH P ops Q Cs fuel (setLi li is) a' w)
    (hsel : Region.noSelect ops = true := by kernel_rfl) (hQ : NoHang Q := by exact (fun d v c a w h => by cases d <;> exact h))
    (h : evLH (evHF P n Cs ops is os l li) l (opsAt ops.toList is) (kept.map (·.1)) = some (kept, ob) := by kernel_rfl) : AtH P ops Q Cs (fuel + is.length) li a w := by
  unfold evLH at h
  split at h
  · simp at h
  rename_i l2 ob2 hev
  split at h
  rotate_left
  · simp at h
  rename_i k2 hd hp
  simp only [Option.some.injEq, Prod.mk.injEq] at h
  obtain ⟨rfl, rfl⟩ := h
  exact AtH.rk0 hsel hQ hS is os _ _ fuel hf hev hn.all (fun a' hf' => next a' (hf'.kept hp hd (fun t ht => evHF_look hev ht)))
theorem Frm.sb {n : Nat} {a : Act} {l r : List (Nat × Value)} (h : Frm n a l) (hs : r.map (fun p => look l p.1) = r.map (fun p => some p.2) := by kernel_rfl) : Frm n a r := by
  refine h.sub ?_
  clear h
  induction r with
  | nil => trivial
  | cons x r ih =>
    simp only [List.map_cons, List.cons.injEq] at hs
    exact ⟨hs.1, ih hs.2⟩
theorem At.dn {P : Program} {ops : Array Oper} {K : Act → World → Prop} {Q : Exit → Act → World → Prop} {k : Nat} {a : Act} {w : World} (h : K a w) (hk : ops.toList.drop k = [] := by exact rfl) : At P ops (Exit.then K Q) k a w := At.done hk h
theorem sqs {P : Program} {id : Nat} {ops : Array Oper} {y : Code} {Q : Exit → Act → World → Prop} {a : Act} {w : World} (h : At P ops (Exit.then (y.wp P Q) Q) 0 a w) : (Code.seq (Code.region id ops false) y).wp P Q a w := wp_seq (At.start h)
section
variable {P : Program} {n : Nat} {ops : Array Oper} {Q : Exit → Act → World → Prop} {Cs : List (Addr × Value)} {fuel i k : Nat} {li : Array Bool} {a : Act} {w : World} {l : List (Nat × Value)}
theorem At.bx (hf : Frm n a l) (d : Nat) (cs : List Value) (T : TypeId) (next : ∀ w1, w.grownBy w1 none → Bx w1 w.heap.size cs T → ∀ a', Frm n a' ((d, .pointer (some ⟨w.heap.size, 0, none⟩)) :: l) → At P ops Q (k + 1) a' w1)
    (h : evSeq P false n CellC ops.toList ((ops.toList.drop k).take 1) [] l w = some ([(d, .pointer (some ⟨w.heap.size, 0, none⟩))] ++ l, w.alloc (.cells cs.toArray T (0, 0)), []) := by kernel_rfl) : At P ops Q k a w :=
  At.seq hf 1 [] _ _ [] h trivial fun a' w1 hw hf' => next w1 (gr_alloc hw) (Bx.new hw) a' hf'
theorem OneH.bx (hf : Frm n a l) (hS : HoldsC Cs w) (d : Nat) (cs : List Value) (T : TypeId) (next : ∀ w1, w.grownBy w1 none → Bx w1 w.heap.size cs T → HoldsC Cs w1 → ∀ a', Frm n a' ((d, .pointer (some ⟨w.heap.size, 0, none⟩)) :: l) → AtH P ops Q Cs fuel (li.setIfInBounds i true) a' w1)
    (hi : Nat.blt i ops.toList.length = true := by kernel_rfl) (h : evSeq P false n CellC ops.toList ((ops.toList.drop i).take 1) [] l w = some ([(d, .pointer (some ⟨w.heap.size, 0, none⟩))] ++ l, w.alloc (.cells cs.toArray T (0, 0)), []) := by kernel_rfl) : OneH P ops Q Cs fuel li i a w :=
  OneH.seq hf [] _ _ [] _ rfl h hi trivial fun a' w1 hw hf' => ⟨hS.gr (gr_alloc hw), next w1 (gr_alloc hw) (Bx.new hw) (hS.gr (gr_alloc hw)) a' hf'⟩
theorem At.cl (hf : Frm n a l) (d : Option Nat) {f : FuncId} {args : Array Value} {R : Ending → World → Prop} (hcall : Calls P f args w R)
    (hR : ∀ e w1, R e w1 → ∃ v, e = .returned v ∧ ∃ l', putL n l d v = some l' ∧ ∀ a', Frm n a' l' → At P ops Q (k + 1) a' w1) (hc : callAt P l ops.toList k = some (f, args, d) := by kernel_rfl) : At P ops Q k a w := At.call hf f args d hc hcall hR
theorem OneH.cl (hf : Frm n a l) (d : Option Nat) {f : FuncId} {args : Array Value} {R : Ending → World → Prop} (hcall : Calls P f args w R)
    (hR : ∀ e w1, R e w1 → ∃ v, e = .returned v ∧ ∃ l', putL n l d v = some l' ∧ ∀ a', Frm n a' l' → HoldsC Cs w1 ∧ AtH P ops Q Cs fuel (li.setIfInBounds i true) a' w1) (hc : callAt P l ops.toList i = some (f, args, d) := by kernel_rfl) : OneH P ops Q Cs fuel li i a w := OneH.call hf f args d _ rfl hc hcall hR
end
abbrev pt (b o : Nat) : Value := .pointer (some ⟨b, o, none⟩)
theorem ω {p : Prop} (h : p := by omega) : p := h
theorem κ {p : Prop} (h : p := by kernel_rfl) : p := h
theorem σ {p : Prop} (h : p := by assumption) : p := h
end Go.Proofs.YtkkophhnliplhaaDoor
namespace Go.Proofs.YtkkophhnliplhaaDoor
open Go Go.RowKit
def obk (A : Option Addr) : Option Nat := A.map (·.block)
def SxP (T : Nat → Prop) : List (Option Nat) → Nat → Prop
  | [], g => T g
  | o :: os, g => o ≠ some g ∧ SxP T os g
abbrev Sx (base : Nat) : List (Option Nat) → Nat → Prop := SxP (fun g => base ≤ g)
theorem Sx_base {base : Nat} : ∀ {os : List (Option Nat)} {g : Nat}, Sx base os g → base ≤ g
  | [], _, h => h
  | _ :: _, _, h => Sx_base h.2
def Own (w : World) (S : Nat → Prop) (A : Option Addr) (n c : Nat) (e : TypeId) (sz : Nat) (xs : List Value) : Prop :=
  xs.length = n * sz ∧ ((A = none ∧ n = 0 ∧ c = 0) ∨
    ∃ g o cur, A = some ⟨g, o, none⟩ ∧ S g ∧ w.heap[g]? = some (.cells cur e (0, 0)) ∧ n ≤ c ∧ c ≤ maxLen ∧ o + c * sz ≤ cur.size ∧ (cur.toList.drop o).take (n * sz) = xs)
theorem Own.nil {w : World} {S : Nat → Prop} {e : TypeId} {sz : Nat} : Own w S none 0 0 e sz [] := ⟨by simp, .inl ⟨rfl, rfl, rfl⟩⟩
theorem add_plain_o (g o j : Nat) : (⟨g, o, none⟩ : Addr).add j = ⟨g, o + j, none⟩ := by unfold Addr.add; split <;> simp_all
theorem add_plain (g j : Nat) : (⟨g, 0, none⟩ : Addr).add j = ⟨g, j, none⟩ := by unfold Addr.add; split <;> simp_all
section
variable {w : World} {S : Nat → Prop} {A : Option Addr} {n c : Nat} {e : TypeId} {sz : Nat} {xs : List Value}
theorem Own.lt (h : Own w S A n c e sz xs) : ∀ k, obk A = some k → k < w.heap.size := by
  intro k hk
  rcases h.2 with ⟨rfl, _⟩ | ⟨g, o, cur, rfl, _, hg, _⟩
  · simp [obk] at hk
  · simp [obk] at hk
    subst hk
    exact (Array.getElem?_eq_some_iff.1 hg).1
theorem Own.inS (h : Own w S A n c e sz xs) : ∀ k, obk A = some k → S k := by
  intro k hk
  rcases h.2 with ⟨rfl, _⟩ | ⟨g, o, cur, rfl, hS, hg, _⟩
  · simp [obk] at hk
  · simp [obk] at hk
    subst hk
    exact hS
theorem Own.ge {base : Nat} {os : List (Option Nat)} (h : Own w (Sx base os) A n c e sz xs) : ∀ k, obk A = some k → base ≤ k := fun k hk => Sx_base (h.inS k hk)
theorem Own.ne_new (h : Own w S A n c e sz xs) : obk A ≠ some w.heap.size := fun e => by have := h.lt _ e; omega
theorem Own.cap (h : Own w S A n c e sz xs) : n ≤ c := by
  rcases h.2 with ⟨_, rfl, rfl⟩ | ⟨g, o, cur, rfl, hS, hg, hn, _⟩
  · omega
  · exact hn
theorem Own.imp {S' : Nat → Prop} (h : Own w S A n c e sz xs) (hi : ∀ g, g < w.heap.size → S g → S' g) : Own w S' A n c e sz xs := by
  refine ⟨h.1, ?_⟩
  rcases h.2 with h2 | ⟨g, o, cur, hA, hS, hg, r⟩
  · exact .inl h2
  · exact .inr ⟨g, o, cur, hA, hi g (Array.getElem?_eq_some_iff.1 hg).1 hS, hg, r⟩
theorem Own.gr {w1 : World} {row : Option Nat} (h : Own w S A n c e sz xs) (g : w.grownBy w1 row) (hr : ∀ k, S k → row ≠ some k) : Own w1 S A n c e sz xs := by
  refine ⟨h.1, ?_⟩
  rcases h.2 with h2 | ⟨b, o, cur, hA, hS, hg, r⟩
  · exact .inl h2
  · exact .inr ⟨b, o, cur, hA, hS, by rw [g.block b (Array.getElem?_eq_some_iff.1 hg).1 (fun e => hr b hS e.symm)]; exact hg, r⟩
theorem Own.add {base b : Nat} {os : List (Option Nat)} (h : Own w (Sx base os) A n c e sz xs) (hb : w.heap.size ≤ b) : Own w (Sx base (some b :: os)) A n c e sz xs :=
  h.imp (fun g hg hs => ⟨fun e => by injection e; omega, hs⟩)
theorem Own.get (h : Own w S A n c e sz xs) {i q : Nat} (hi : i < n) (hq : q < sz) {v : Value} (hv : xs[i * sz + q]? = some v) : ∃ ad, A = some ad ∧ S ad.block ∧ ad.block < w.heap.size ∧ w.cell? ((ad.add (i * sz)).add q) = some v := by
  rcases h.2 with ⟨rfl, rfl, _⟩ | ⟨g, o, cur, rfl, hS, hg, hn, hc, hcs, ht⟩
  · omega
  · refine ⟨_, rfl, hS, (Array.getElem?_eq_some_iff.1 hg).1, ?_⟩
    have e1 : ((⟨g, o, none⟩ : Addr).add (i * sz)).add q = ⟨g, o + (i * sz + q), none⟩ := by
      rw [add_plain_o, add_plain_o, Nat.add_assoc]
    rw [e1]
    rw [← ht, List.getElem?_take] at hv
    split at hv
    · simp only [World.cell?, hg]
      simpa using hv
    · cases hv
end
theorem run_firstCells_opt {P : Program} (w : World) (size m c : Nat) (X : Option Addr) (news : List Value) (hl : news.length = m * size) (hnews : ∀ j u, news[j]? = some u → ∃ ad, X = some ad ∧ w.cell? (ad.add j) = some u) :
    (Builtin.firstCells size m (.slice X m c)).run P w = .ok news.toArray w := by
  cases X with
  | none =>
    have hn : news = [] := by
      cases news with
      | nil => rfl
      | cons u r =>
        obtain ⟨ad, h, _⟩ := hnews 0 u rfl
        cases h
    subst hn
    rfl
  | some ad => exact run_firstCells_some (P := P) w size m ad m c news hl (fun j u hu => by
      obtain ⟨ad', h, hc⟩ := hnews j u hu
      injection h with h
      subst h
      exact hc)
theorem run_append_room_o {P : Program} {w : World} (t ty e : TypeId) (i : TypeInfo) (ht : P.underlying t = some (.slice e)) (hi : P.info? e = some i)
    (g o sLen sCap : Nat) (cur : Array Value) (hg : w.heap[g]? = some (.cells cur e (0, 0)))
    (a : Addr) (m c : Nat) (news : List Value) (hl : news.length = m * i.size) (hnews : ∀ j u, news[j]? = some u → w.cell? (a.add j) = some u) (h1 : ∀ u ∈ news, u.oneCell' = true)
    (hroom : sLen + m ≤ sCap) (hfit : o + sLen * i.size + news.length ≤ cur.size) :
    (Builtin.append_ #[t, t] ty #[.slice (some ⟨g, o, none⟩) sLen sCap, .slice (some a) m c]).run P w =
      .ok (.slice (some ⟨g, o, none⟩) (sLen + m) sCap) (w.setRow g (cur.toList.take (o + sLen * i.size) ++ news ++ cur.toList.drop (o + sLen * i.size + news.length)).toArray) := by
  have hf := run_firstCells_some (P := P) w i.size m a m c news hl hnews
  have hst := run_storeCells_at P g (o + sLen * i.size) e news 0 cur w hg (by simpa using hfit) h1
  simp only [Nat.add_zero] at hst
  simp [Builtin.append_, run_underlying ht, sizeOf, typeInfo, hi, Builtin.lenOf, hroom, hf, Addr.add_lit, hst]
theorem own_append {P : Program} {w : World} {S : Nat → Prop} {A : Option Addr} {n c : Nat} {e : TypeId} {sz : Nat} {xs : List Value} (t ty : TypeId) {i : TypeInfo} {z : Value} {bytes : Nat}
    (ht : P.underlying t = some (.slice e)) (hi : P.info? e = some i) (hz : i.zero = some z) (hsize : i.size = sz) (hby : i.bytes = bytes) (hzs : z.cells.size = sz) (hsz : 0 < sz)
    (h : Own w S A n c e sz xs) (X : Option Addr) (m cc : Nat) (news : List Value) (hl : news.length = m * sz) (hnews : ∀ j u, news[j]? = some u → ∃ ad, X = some ad ∧ w.cell? (ad.add j) = some u) (h1 : ∀ u ∈ news, oneC u = true)
    (hb : (n + m) * bytes ≤ 140737488355328) (h63 : n + m ≤ maxLen) :
    ∃ A' c' w', (Builtin.append_ #[t, t] ty #[.slice A n c, .slice X m cc]).run P w = .ok (.slice A' (n + m) c') w' ∧ w.grownBy w' (obk A) ∧ (A' = A ∨ A' = some ⟨w.heap.size, 0, none⟩) ∧
      (∀ S' : Nat → Prop, (∀ g, g < w.heap.size → S g → S' g) → S' w.heap.size → Own w' S' A' (n + m) c' e sz (xs ++ news)) := by
  subst hsize
  subst hby
  have hone : ∀ u ∈ news, u.oneCell' = true := fun u hu => by have := h1 u hu; cases u <;> first | rfl | (simp [oneC] at this)
  have hsmall : n + m ≤ 9223372036854775807 := by simp only [maxLen] at h63; omega
  have hlen : (xs ++ news).length = (n + m) * i.size := by rw [List.length_append, h.1, hl, Nat.add_mul]
  have hnews' : ∀ {ad : Addr}, X = some ad → ∀ j u, news[j]? = some u → w.cell? (ad.add j) = some u := fun {ad} hX j u hu => by
    obtain ⟨ad', h', hc⟩ := hnews j u hu
    rw [hX] at h'
    injection h' with h'
    subst h'
    exact hc
  have grown : ∀ (old : Nat), old < n + m → ∀ row, w.grownBy (w.drew.alloc (.cells (xs.toArray ++ news.toArray ++ Builtin.zeroCells z.cells (grownCap w (n + m) old e - (n + m))) e)) row ∧
      ∀ S' : Nat → Prop, S' w.heap.size → Own (w.drew.alloc (.cells (xs.toArray ++ news.toArray ++ Builtin.zeroCells z.cells (grownCap w (n + m) old e - (n + m))) e)) S' (some ⟨w.heap.size, 0, none⟩) (n + m) (grownCap w (n + m) old e) e i.size (xs ++ news) := by
    intro old ho row
    have hge := grownCap_ge w (n + m) old e
    have hcm : grownCap w (n + m) old e ≤ maxLen := grownCap_le_maxLen w (n + m) old e h63
    refine ⟨⟨rfl, rfl, rfl, by simp, fun k hk _ => heap_alloc_old w.drew _ hk⟩, fun S' hS' => ⟨hlen, .inr ⟨w.heap.size, 0, _, rfl, hS', heap_alloc_new w.drew _, hge, hcm, ?_, ?_⟩⟩⟩
    · simp only [Array.size_append, List.size_toArray, size_zeroCells, hzs, h.1, hl, ← Nat.add_mul]
      rw [Nat.zero_add]
      refine Nat.le_of_eq ?_
      congr 1
      omega
    · rw [List.drop_zero]
      simp only [Array.toList_append, List.append_assoc]
      rw [← List.append_assoc, ← hlen]
      exact List.take_left
  by_cases hm : m = 0
  · subst hm
    have hn : news = [] := List.eq_nil_of_length_eq_zero (by simpa using hl)
    subst hn
    have hcap := h.cap
    refine ⟨A, c, w, ?_, gr_refl w _, .inl rfl, fun S' hS' _ => by simpa using h.imp hS'⟩
    have hf := run_firstCells_opt (P := P) w i.size 0 cc X [] (by simp) (by simp)
    cases A with
    | none => simp [Builtin.append_, run_underlying ht, sizeOf, typeInfo, hi, Builtin.lenOf, hcap, hf]
    | some a => simp [Builtin.append_, run_underlying ht, sizeOf, typeInfo, hi, Builtin.lenOf, hcap, hf, storeCells]
  · obtain ⟨ad, hX⟩ : ∃ ad, X = some ad := by
      cases news with
      | nil => exact absurd (Nat.mul_pos (by omega : 0 < m) hsz) (by rw [← hl]; simp)
      | cons u r => exact let ⟨ad, h', _⟩ := hnews 0 u rfl; ⟨ad, h'⟩
    subst hX
    rcases h.2 with ⟨rfl, rfl, rfl⟩ | ⟨g, o, cur, rfl, hS, hg, hnc, hcm, hcs, htake⟩
    · have hx : xs = [] := List.eq_nil_of_length_eq_zero (by simpa using h.1)
      subst hx
      have hr := run_append_nil (P := P) w t ty e i z ht hi hz ad m cc news hl (hnews' rfl) (by omega) (by omega) (by have hb := hb; simp only [Nat.zero_add] at hb; omega)
      have hgr := grown 0 (by omega) (obk none)
      simp only [Nat.zero_add, List.nil_append, Array.empty_append] at hgr ⊢
      exact ⟨_, _, _, hr, hgr.1, .inr rfl, fun S' _ hS' => hgr.2 S' hS'⟩
    · by_cases hroom : n + m ≤ c
      · have hfit : o + n * i.size + news.length ≤ cur.size := by
          have h5 : (n + m) * i.size ≤ c * i.size := Nat.mul_le_mul_right _ hroom
          rw [Nat.add_mul] at h5
          omega
        have hr := run_append_room_o (P := P) t ty e i ht hi g o n c cur hg ad m cc news hl (hnews' rfl) hone hroom hfit
        have hgr : w.grownBy (w.setRow g (cur.toList.take (o + n * i.size) ++ news ++ cur.toList.drop (o + n * i.size + news.length)).toArray) (some g) := ⟨rfl, rfl, rfl, by simp, fun k _ hk => setRow_other w g k _ (fun e => hk (by rw [e]))⟩
        refine ⟨_, _, _, hr, hgr, .inl rfl, fun S' hS' _ => ⟨hlen, .inr ⟨g, o, _, rfl, hS' g (Array.getElem?_eq_some_iff.1 hg).1 hS, setRow_heap w g cur _ e _ hg, hroom, hcm, ?_, ?_⟩⟩⟩
        · simp only [List.size_toArray, List.length_append, List.length_take, List.length_drop, Array.length_toList]
          omega
        · have hcl : cur.toList.length = cur.size := Array.length_toList
          have h6 : (cur.toList.take (o + n * i.size)).length = o + n * i.size := by rw [List.length_take, hcl]; omega
          have h7 : (cur.toList.take (o + n * i.size)).drop o = xs := by
            rw [← htake, List.drop_take, show o + n * i.size - o = n * i.size by omega]
          rw [List.append_assoc, List.drop_append_of_le_length (by rw [h6]; omega), h7, ← List.append_assoc, ← hlen]
          exact List.take_left
      · have holds : ∀ j u, xs[j]? = some u → w.cell? ((⟨g, o, none⟩ : Addr).add j) = some u := fun j u hu => by
          rw [add_plain_o]
          rw [← htake, List.getElem?_take] at hu
          split at hu
          · simp only [World.cell?, hg]
            simpa using hu
          · cases hu
        have hr := run_append_grow (P := P) w t ty e i z ht hi hz ⟨g, o, none⟩ n c xs h.1 holds ad m cc news hl (hnews' rfl) (by omega) (by omega) (growslice_fits (by omega) hb)
        have hgr := grown c (by omega) (some g)
        exact ⟨_, _, _, hr, hgr.1, .inr rfl, fun S' _ hS' => hgr.2 S' hS'⟩
def appAt (l : List (Nat × Value)) (ops : List Oper) (k : Nat) : Option (TypeId × Value × Value × Option Nat) :=
  match ops[k]? with
  | none => none
  | some o => match opOk l ops o, o.op with
    | true, .call ⟨.builtin .append, args, tys⟩ => match args.toList, tys.toList with
      | [x, y], [t, t'] => if Nat.beq t t' = true then some (t, rho l x, rho l y, o.dst) else none
      | _, _ => none
    | _, _ => none
def elemOk (P : Program) (t e : TypeId) (sz bytes : Nat) : Bool :=
  (match P.underlying t with | some (.slice e') => Nat.beq e e' | _ => false) && (match P.info? e with | some i => (match i.zero with | some z => Nat.beq z.cells.toList.length sz | none => false) && Nat.beq i.size sz && Nat.beq i.bytes bytes | none => false) && Nat.blt 0 sz
theorem append_run {P : Program} {l : List (Nat × Value)} {ops : List Oper} {k : Nat} {o : Oper} (ho : ops[k]? = some o) {w : World} {S : Nat → Prop} {A X : Option Addr} {n c m cc : Nat} {t e : TypeId} {sz bytes : Nat} {xs news : List Value} {d : Option Nat}
    (ha : appAt l ops k = some (t, .slice A n c, .slice X m cc, d)) (hok : elemOk P t e sz bytes = true) (h : Own w S A n c e sz xs) (hl : news.length = m * sz) (hnews : ∀ j u, news[j]? = some u → ∃ ad, X = some ad ∧ w.cell? (ad.add j) = some u) (h1 : ∀ u ∈ news, oneC u = true)
    (hb : (n + m) * bytes ≤ 140737488355328) (h63 : n + m ≤ maxLen) :
    opOk l ops o = true ∧ o.dst = d ∧ ∃ A' c' w', (execOp (rho l) o).run P w = .ok (.value (.slice A' (n + m) c')) w' ∧ w.grownBy w' (obk A) ∧ (A' = A ∨ A' = some ⟨w.heap.size, 0, none⟩) ∧
      (∀ S' : Nat → Prop, (∀ g, g < w.heap.size → S g → S' g) → S' w.heap.size → Own w' S' A' (n + m) c' e sz (xs ++ news)) := by
  unfold appAt at ha
  rw [ho] at ha
  simp only at ha
  split at ha
  · rename_i args tys hok' hop
    split at ha
    · rename_i x y t1 t2 hargs htys
      split at ha
      · rename_i htt
        simp only [Option.some.injEq, Prod.mk.injEq] at ha
        obtain ⟨rfl, hx, hy, hd⟩ := ha
        have htt : t1 = t2 := by simpa using htt
        subst htt
        simp only [elemOk, Bool.and_eq_true] at hok
        obtain ⟨⟨k1, k2⟩, k3⟩ := hok
        split at k1
        · rename_i e' hu
          have k1 : e = e' := by simpa using k1
          subst k1
          split at k2
          · rename_i i hi
            simp only [Bool.and_eq_true] at k2
            obtain ⟨⟨k4, k5⟩, k6⟩ := k2
            split at k4
            · rename_i z hz
              obtain ⟨A', c', w', hr, hg, hA, hO⟩ := own_append (P := P) t1 o.type hu hi hz (by simpa using k5) (by simpa using k6) (by simpa using k4) (by simpa using k3) h X m cc news hl hnews h1 hb h63
              refine ⟨hok', hd, A', c', w', ?_, hg, hA, hO⟩
              have ea : args = #[x, y] := by cases args; simp_all
              have et : tys = #[t1, t1] := by cases tys; simp_all
              subst ea
              subst et
              unfold execOp
              simp only [hop, resolve, invoke, builtin, Sem.run_bind, Sem.run_pure, Result.andThen_ok, List.map_toArray, List.map_cons, List.map_nil, hx, hy, hr]
            · simp at k4
          · simp at k2
        · simp at k1
      · simp at ha
    · simp at ha
  · simp at ha
theorem At.append {P : Program} {n0 : Nat} {ops : Array Oper} {Q : Exit → Act → World → Prop} {k : Nat} {a : Act} {w : World} {l : List (Nat × Value)} (hf : Frm n0 a l) {S : Nat → Prop} {A X : Option Addr} {n c m cc : Nat} {t e : TypeId} {sz bytes : Nat} {xs news : List Value} {d : Nat}
    (ha : appAt l ops.toList k = some (t, .slice A n c, .slice X m cc, some d)) (hok : elemOk P t e sz bytes = true) (hd : Nat.blt d n0 = true) (h : Own w S A n c e sz xs) (hl : news.length = m * sz) (hnews : ∀ j u, news[j]? = some u → ∃ ad, X = some ad ∧ w.cell? (ad.add j) = some u) (h1 : ∀ u ∈ news, oneC u = true)
    (hb : (n + m) * bytes ≤ 140737488355328) (h63 : n + m ≤ maxLen)
    (next : ∀ a' w1 A' c', w.grownBy w1 (obk A) → (A' = A ∨ A' = some ⟨w.heap.size, 0, none⟩) → (∀ S' : Nat → Prop, (∀ g, g < w.heap.size → S g → S' g) → S' w.heap.size → Own w1 S' A' (n + m) c' e sz (xs ++ news)) →
      Frm n0 a' ((d, .slice A' (n + m) c') :: l) → At P ops Q (k + 1) a' w1) : At P ops Q k a w := by
  cases ho : ops.toList[k]? with
  | none => unfold appAt at ha; rw [ho] at ha; simp at ha
  | some o =>
    obtain ⟨hk, hdst, A', c', w', hr, hg, hA, hO⟩ := append_run (P := P) ho ha hok h hl hnews h1 hb h63
    exact At.run hf ho hk hr (l' := (d, .slice A' (n + m) c') :: l) (by rw [hdst]; simp only [putL]; rw [if_pos hd]) (fun a' hf' => next a' w' A' c' hg hA hO hf')
theorem OneH.append {P : Program} {n0 : Nat} {ops : Array Oper} {Q : Exit → Act → World → Prop} {Cs : List (Addr × Value)} {fuel k : Nat} {li : Array Bool} {a : Act} {w : World} {l : List (Nat × Value)} (hf : Frm n0 a l) {S : Nat → Prop} {A X : Option Addr} {n c m cc : Nat} {t e : TypeId} {sz bytes : Nat} {xs news : List Value} {d : Nat} (li' : Array Bool) (hli : li.setIfInBounds k true = li')
    (ha : appAt l ops.toList k = some (t, .slice A n c, .slice X m cc, some d)) (hok : elemOk P t e sz bytes = true) (hd : Nat.blt d n0 = true) (h : Own w S A n c e sz xs) (hl : news.length = m * sz) (hnews : ∀ j u, news[j]? = some u → ∃ ad, X = some ad ∧ w.cell? (ad.add j) = some u) (h1 : ∀ u ∈ news, oneC u = true)
    (hb : (n + m) * bytes ≤ 140737488355328) (h63 : n + m ≤ maxLen)
    (next : ∀ a' w1 A' c', w.grownBy w1 (obk A) → (A' = A ∨ A' = some ⟨w.heap.size, 0, none⟩) → (∀ S' : Nat → Prop, (∀ g, g < w.heap.size → S g → S' g) → S' w.heap.size → Own w1 S' A' (n + m) c' e sz (xs ++ news)) →
      Frm n0 a' ((d, .slice A' (n + m) c') :: l) → HoldsC Cs w1 ∧ AtH P ops Q Cs fuel li' a' w1) : OneH P ops Q Cs fuel li k a w := by
  cases ho : ops.toList[k]? with
  | none => unfold appAt at ha; rw [ho] at ha; simp at ha
  | some o =>
    obtain ⟨hk, hdst, A', c', w', hr, hg, hA, hO⟩ := append_run (P := P) ho ha hok h hl hnews h1 hb h63
    exact OneH.run hf ho hk li' hli hr (.inl rfl) (l' := (d, .slice A' (n + m) c') :: l) (by rw [hdst]; simp only [putL]; rw [if_pos hd]) (fun a' hf' => next a' w' A' c' hg hA hO hf')
theorem HoldsC.grO {Cs : List (Addr × Value)} {w w1 : World} {row : Option Nat} (h : HoldsC Cs w) (g : w.grownBy w1 row) (hne : AllP (Cs.map fun p => row ≠ some p.1.block)) : HoldsC Cs w1 :=
  AllP_map (fun p hp hc => g.cell hc (fun e => AllP_mem hne p hp e.symm)) h
theorem Own.neb {w : World} {S : Nat → Prop} {A : Option Addr} {n c : Nat} {e : TypeId} {sz : Nat} {xs : List Value} (h : Own w S A n c e sz xs) {b : Nat} (hb : ∀ g, S g → some b ≠ some g) : obk A ≠ some b := fun e => hb b (h.inS b e) rfl
theorem own_repl {w : World} {A1 A1' : Option Addr} (hA : A1' = A1 ∨ A1' = some ⟨w.heap.size, 0, none⟩) {g : Nat} (h : obk A1 ≠ some g) (hg : g < w.heap.size) : obk A1' ≠ some g := by
  rcases hA with rfl | rfl
  · exact h
  · intro e
    simp [obk] at e
    omega
theorem slice_len {A : Option Addr} {n n' c : Nat} (h : n = n') : (.slice A n c : Value) = .slice A n' c := by rw [h]
def ints (l : List Int) : List Value := l.map (Value.int .i64)
theorem ints_length (l : List Int) : (ints l).length = l.length := by simp [ints]
theorem ints_get {l : List Int} {j : Nat} (h : j < l.length) : (ints l)[j]? = some (.int .i64 (l.getD j 0)) := by
  simp [ints, List.getElem?_map, List.getElem?_eq_getElem h, List.getD_eq_getElem?_getD]
theorem Own.ints_len {w : World} {S : Nat → Prop} {A : Option Addr} {n c : Nat} {e : TypeId} {l : List Int} (h : Own w S A n c e 1 (ints l)) : l.length = n := by
  have := h.1
  rw [ints_length] at this
  omega
theorem Own.rdI {w : World} {base : Nat} {os : List (Option Nat)} {A : Option Addr} {n c : Nat} {e : TypeId} {l : List Int} (h : Own w (Sx base os) A n c e 1 (ints l)) (hl : l.length * 8 ≤ 140737488351232) : RdI w base w.heap.size A l := by
  have hn := h.ints_len
  refine ⟨hl, fun i q hi hq => ?_⟩
  obtain rfl : q = 0 := by omega
  obtain ⟨ad, hA, hS, hlt, hc⟩ := h.get (i := i) (q := 0) (by omega) (by omega) (v := .int .i64 (l.getD i 0)) (by rw [show i * 1 + 0 = i by omega]; exact ints_get hi)
  exact ⟨ad, hA, Sx_base hS, hlt, hc⟩
theorem RdI.src {w : World} {lo hi : Nat} {A : Option Addr} {l : List Int} (h : RdI w lo hi A l) : ∀ j u, (ints l)[j]? = some u → ∃ ad, A = some ad ∧ w.cell? (ad.add j) = some u := by
  intro j u hu
  have hj : j < l.length := by
    have := (List.getElem?_eq_some_iff.1 hu).1
    rwa [ints_length] at this
  rw [ints_get hj] at hu
  injection hu with hu
  subst hu
  obtain ⟨ad, hA, _, _, hc⟩ := h.row j 0 hj (by omega)
  exact ⟨ad, hA, by rw [add_zero, Nat.mul_one] at hc; exact hc⟩
theorem Bx.src {w : World} {b : Nat} {cs : List Value} {T : TypeId} (h : Bx w b cs T) : ∀ j u, cs[j]? = some u → ∃ ad, (some ⟨b, 0, none⟩ : Option Addr) = some ad ∧ w.cell? (ad.add j) = some u :=
  fun j u hu => ⟨_, rfl, by rw [add_plain]; exact h.cell hu⟩
theorem Bx.own {w : World} {b n : Nat} {cs : List Value} {T : TypeId} {sz : Nat} {S : Nat → Prop} (h : Bx w b cs T) (hS : S b) (hl : cs.length = n * sz) (hn : n ≤ maxLen) : Own w S (some ⟨b, 0, none⟩) n n T sz cs :=
  ⟨hl, .inr ⟨b, 0, cs.toArray, rfl, hS, h, Nat.le_refl _, hn, by simp [hl], by rw [← hl]; simp⟩⟩
end Go.Proofs.YtkkophhnliplhaaDoor
namespace Go.Proofs.YtkkophhnliplhaaDoor
open Go Go.RowKit
class Enc (α : Type) where
  enc : α → List Value
  sz : Nat
  d : α
  len : ∀ x, (enc x).length = sz
  one : ∀ x, ∀ u ∈ enc x, oneC u = true
  pos : 0 < sz
  bytes : Nat
  bpos : 0 < bytes
instance : Enc Int := ⟨fun x => [.int .i64 x], 1, 0, fun _ => rfl, fun x u h => by simp at h; subst h; rfl, by decide, 8, by decide⟩
instance : Enc Bool := ⟨fun x => [.bool x], 1, false, fun _ => rfl, fun x u h => by simp at h; subst h; rfl, by decide, 1, by decide⟩
structure SliceV where
  A : Option Addr
  n : Nat
  c : Nat
instance : Enc SliceV := ⟨fun x => [.slice x.A x.n x.c], 1, ⟨none, 0, 0⟩, fun _ => rfl, fun x u h => by simp at h; subst h; rfl, by decide, 24, by decide⟩
section
variable {α : Type} [Enc α]
def rows (l : List α) : List Value := l.flatMap Enc.enc
def gA (l : List α) (i : Int) : α := l.getD i.toNat Enc.d
theorem rows_len (l : List α) : (rows l).length = l.length * Enc.sz α := by
  induction l with
  | nil => simp [rows]
  | cons x l ih => simp only [rows, List.flatMap_cons, List.length_append, Enc.len, List.length_cons] at ih ⊢; rw [ih, Nat.add_mul]; omega
theorem rows_append (l r : List α) : rows l ++ rows r = rows (l ++ r) := by simp [rows]
theorem rows_one (l : List α) : ∀ u ∈ rows l, oneC u = true := by
  intro u hu
  obtain ⟨x, _, hx⟩ := List.mem_flatMap.1 hu
  exact Enc.one x u hx
theorem rows_take (l : List α) (k : Nat) : (rows l).take (k * Enc.sz α) = rows (l.take k) := by
  induction l generalizing k with
  | nil => simp [rows]
  | cons x l ih =>
    cases k with
    | zero => simp [rows]
    | succ k =>
      have := ih k
      simp only [rows, List.flatMap_cons, List.take_succ_cons] at this ⊢
      rw [List.take_append, Enc.len, List.take_of_length_le (by rw [Enc.len, Nat.add_mul]; omega), ← this]
      congr 2
      rw [Nat.add_mul]
      omega
theorem rows_drop (l : List α) (k : Nat) : (rows l).drop (k * Enc.sz α) = rows (l.drop k) := by
  induction l generalizing k with
  | nil => simp [rows]
  | cons x l ih =>
    cases k with
    | zero => simp [rows]
    | succ k =>
      have := ih k
      simp only [rows, List.flatMap_cons, List.drop_succ_cons] at this ⊢
      rw [List.drop_append, Enc.len, List.drop_of_length_le (by rw [Enc.len, Nat.add_mul]; omega), ← this, List.nil_append]
      congr 1
      rw [Nat.add_mul]
      omega
theorem rows_get (l : List α) {i q : Nat} (hi : i < l.length) (hq : q < Enc.sz α) : (rows l)[i * Enc.sz α + q]? = (Enc.enc (l.getD i Enc.d))[q]? := by
  have h1 := rows_drop l i
  have h2 : (rows l)[i * Enc.sz α + q]? = ((rows l).drop (i * Enc.sz α))[q]? := by rw [List.getElem?_drop]
  rw [h2, h1, List.drop_eq_getElem_cons hi]
  simp only [rows, List.flatMap_cons]
  rw [List.getElem?_append_left (by rw [Enc.len]; exact hq), List.getD_eq_getElem?_getD, List.getElem?_eq_getElem hi]
  rfl
theorem rows_set (l : List α) {i : Nat} (hi : i < l.length) (v : α) : rows (l.set i v) = (rows l).take (i * Enc.sz α) ++ Enc.enc v ++ (rows l).drop (i * Enc.sz α + Enc.sz α) := by
  rw [show i * Enc.sz α + Enc.sz α = (i + 1) * Enc.sz α by rw [Nat.add_mul]; omega, rows_take, rows_drop, List.set_eq_take_append_cons_drop, if_pos hi]
  simp [rows]
def OwnR (w : World) (S : Nat → Prop) (A : Option Addr) (c : Nat) (e : TypeId) (l : List α) : Prop := Own w S A l.length c e (Enc.sz α) (rows l)
variable {w : World} {S : Nat → Prop} {A : Option Addr} {c : Nat} {e : TypeId} {l : List α}
theorem OwnR.nil : OwnR w S none 0 e ([] : List α) := Own.nil
theorem OwnR.lt (h : OwnR w S A c e l) : ∀ k, obk A = some k → k < w.heap.size := Own.lt h
theorem OwnR.inS (h : OwnR w S A c e l) : ∀ k, obk A = some k → S k := Own.inS h
theorem OwnR.ge {base : Nat} {os : List (Option Nat)} (h : OwnR w (Sx base os) A c e l) : ∀ k, obk A = some k → base ≤ k := Own.ge h
theorem OwnR.ne_new (h : OwnR w S A c e l) : obk A ≠ some w.heap.size := Own.ne_new h
theorem OwnR.cap (h : OwnR w S A c e l) : l.length ≤ c := Own.cap h
theorem OwnR.imp {S' : Nat → Prop} (h : OwnR w S A c e l) (hi : ∀ g, g < w.heap.size → S g → S' g) : OwnR w S' A c e l := Own.imp h hi
theorem OwnR.gr {w1 : World} {row : Option Nat} (h : OwnR w S A c e l) (g : w.grownBy w1 row) (hr : ∀ k, S k → row ≠ some k) : OwnR w1 S A c e l := Own.gr h g hr
theorem OwnR.neb (h : OwnR w S A c e l) {b : Nat} (hb : ∀ g, S g → some b ≠ some g) : obk A ≠ some b := Own.neb h hb
theorem OwnR.add {base b : Nat} {os : List (Option Nat)} (h : OwnR w (Sx base os) A c e l) (hb : w.heap.size ≤ b) : OwnR w (Sx base (some b :: os)) A c e l := Own.add h hb
theorem OwnR.grA {w1 : World} {S' : Nat → Prop} {row : Option Nat} (h : OwnR w S A c e l) (g : w.grownBy w1 row) (hr : ∀ k, S k → row ≠ some k) (hi : ∀ k, k < w.heap.size → S k → S' k) : OwnR w1 S' A c e l := by
  have h2 : OwnR w (fun k => S k ∧ k < w.heap.size) A c e l := OwnR.imp h (fun k hk hs => ⟨hs, hk⟩)
  exact OwnR.imp (OwnR.gr h2 g (fun k hk => hr k hk.1)) (fun k _ hs => hi k hs.2 hs.1)
theorem OwnR.as {l' : List α} (h : OwnR w S A c e l) (e1 : l = l') : OwnR w S A c e l' := by subst e1; exact h
theorem OwnR.get (h : OwnR w S A c e l) (i : Int) (h0 : 0 ≤ i) (h1 : i < (l.length : Int)) {sz : Nat} (hsz : Enc.sz α = sz) :
    ∃ ad, A = some ad ∧ ad.block < w.heap.size ∧ (w.cell? (ad.add (i.toNat * sz)) = (Enc.enc (gA l i))[0]?) ∧ ∀ q v, (Enc.enc (gA l i))[q]? = some v → w.cell? ((ad.add (i.toNat * sz)).add q) = some v := by
  subst hsz
  have hlt : i.toNat < l.length := by omega
  have hp := Enc.pos (α := α)
  have h0' : (Enc.enc (gA l i))[0]? = some ((Enc.enc (gA l i))[0]'(by rw [Enc.len]; exact hp)) := List.getElem?_eq_getElem _
  obtain ⟨ad, hA, _, hlt2, hc⟩ := Own.get h (i := i.toNat) (q := 0) hlt hp (v := (Enc.enc (gA l i))[0]'(by rw [Enc.len]; exact hp)) (by rw [rows_get l hlt hp]; exact h0')
  refine ⟨ad, hA, hlt2, by rw [add_zero] at hc; rw [hc, h0'], fun q v hv => ?_⟩
  have hq : q < Enc.sz α := by have := (List.getElem?_eq_some_iff.1 hv).1; rwa [Enc.len] at this
  obtain ⟨ad', hA', _, _, hc'⟩ := Own.get h (i := i.toNat) (q := q) hlt hq (v := v) (by rw [rows_get l hlt hq]; exact hv)
  rw [hA] at hA'
  injection hA' with hA'
  subst hA'
  exact hc'
def SrcR (w : World) (X : Option Addr) (l : List α) : Prop := ∀ j u, (rows l)[j]? = some u → ∃ ad, X = some ad ∧ w.cell? (ad.add j) = some u
theorem Bx.srcR {w : World} {b : Nat} {cs : List Value} {T : TypeId} {l : List α} (h : Bx w b cs T) (e : rows l = cs) : SrcR w (some ⟨b, 0, none⟩) l := by
  unfold SrcR
  rw [e]
  exact h.src
theorem OwnR.src (h : OwnR w S A c e l) : SrcR w A l := by
  intro j u hu
  have hp := Enc.pos (α := α)
  have hj : j < l.length * Enc.sz α := by have := (List.getElem?_eq_some_iff.1 hu).1; rwa [rows_len] at this
  rcases h.2 with ⟨rfl, hn, _⟩ | ⟨g, o, cur, rfl, hS, hg, hn, hc, hcs, ht⟩
  · rw [hn] at hj
    omega
  · refine ⟨_, rfl, ?_⟩
    rw [← ht, List.getElem?_take] at hu
    split at hu
    · rw [add_plain_o]
      simp only [World.cell?, hg]
      simpa using hu
    · rename_i hx; exact absurd hj hx
theorem Bx.ownR {w : World} {b n : Nat} {cs : List Value} {T : TypeId} {S : Nat → Prop} {l : List α} (h : Bx w b cs T) (e : rows l = cs) (hS : S b) (hn : l.length ≤ maxLen) : OwnR w S (some ⟨b, 0, none⟩) l.length T l := by
  subst e
  exact h.own hS (rows_len l) hn
end
theorem add_add' (a : Addr) (i j : Nat) : (a.add i).add j = a.add (i + j) := by
  obtain ⟨b, o, f⟩ := a
  cases f <;> simp [Addr.add] <;> (repeat' split) <;> simp_all <;> omega
theorem getD_some {l : List Value} {q : Nat} (h : q < l.length) : l[q]? = some (l.getD q undef) := by
  rw [List.getD_eq_getElem?_getD, List.getElem?_eq_getElem h]
  rfl
structure RdR {α : Type} [Enc α] (w : World) (lo hi : Nat) (A : Option Addr) (l : List α) : Prop where
  len : l.length * Enc.bytes α ≤ 140737488351232
  row : RdV w lo hi A l.length (Enc.sz α) (fun i q => (Enc.enc (l.getD i Enc.d)).getD q undef)
section
variable {α : Type} [Enc α] {w : World} {lo hi : Nat} {A : Option Addr} {l : List α}
theorem RdR.gr {w1 : World} {row : Option Nat} (h : RdR w lo hi A l) (g : w.grownBy w1 row) (hr : ∀ k, row = some k → k < lo ∨ hi ≤ k) : RdR w1 lo hi A l := ⟨h.len, h.row.gr g hr⟩
theorem RdR.gn {w1 : World} (h : RdR w lo hi A l) (g : w.grownBy w1 none) : RdR w1 lo hi A l := h.gr g (fun _ h => by cases h)
theorem RdR.gb {w1 : World} {b : Nat} (h : RdR w lo hi A l) (g : w.grownBy w1 (some b)) (hb : b < lo ∨ hi ≤ b) : RdR w1 lo hi A l := h.gr g (fun k h => by injection h with h; omega)
theorem RdR.wide {lo' hi' : Nat} (h : RdR w lo hi A l) (h1 : lo' ≤ lo) (h2 : hi ≤ hi') : RdR w lo' hi' A l := ⟨h.len, h.row.wide h1 h2⟩
theorem RdR.get (h : RdR w lo hi A l) (i : Int) (h0 : 0 ≤ i) (h1 : i < (l.length : Int)) {sz : Nat} (hsz : Enc.sz α = sz) :
    ∃ ad, A = some ad ∧ ad.block < hi ∧ (w.cell? (ad.add (i.toNat * sz)) = (Enc.enc (gA l i))[0]?) ∧ ∀ q v, (Enc.enc (gA l i))[q]? = some v → w.cell? ((ad.add (i.toNat * sz)).add q) = some v := by
  subst hsz
  have hp := Enc.pos (α := α)
  obtain ⟨ad, hA, _, hlt2, hc⟩ := h.row i.toNat 0 (by omega) hp
  have hg : ∀ q, q < Enc.sz α → (Enc.enc (gA l i))[q]? = some ((Enc.enc (l.getD i.toNat Enc.d)).getD q undef) := fun q hq => by
    rw [List.getD_eq_getElem?_getD, gA, List.getElem?_eq_getElem (by rw [Enc.len]; exact hq)]
    rfl
  refine ⟨ad, hA, hlt2, by rw [add_zero] at hc; rw [hc, hg 0 hp], fun q v hv => ?_⟩
  have hq : q < Enc.sz α := by have := (List.getElem?_eq_some_iff.1 hv).1; rwa [Enc.len] at this
  obtain ⟨ad', hA', _, _, hc'⟩ := h.row i.toNat q (by omega) hq
  rw [hA] at hA'
  injection hA' with hA'
  subst hA'
  rw [hc', ← hg q hq, hv]
theorem RdR.src (h : RdR w lo hi A l) : SrcR w A l := by
  intro j u hu
  have hp := Enc.pos (α := α)
  have hj : j < l.length * Enc.sz α := by have := (List.getElem?_eq_some_iff.1 hu).1; rwa [rows_len] at this
  have hdm := Nat.div_add_mod j (Enc.sz α)
  have h1 : j / Enc.sz α < l.length := (Nat.div_lt_iff_lt_mul hp).2 hj
  have h2 : j % Enc.sz α < Enc.sz α := Nat.mod_lt _ hp
  have h3 := rows_get l h1 h2
  rw [show j / Enc.sz α * Enc.sz α + j % Enc.sz α = j by rw [Nat.mul_comm]; exact hdm, hu] at h3
  obtain ⟨ad, hA, _, _, hc⟩ := h.row (j / Enc.sz α) (j % Enc.sz α) h1 h2
  refine ⟨ad, hA, ?_⟩
  have e1 : (ad.add (j / Enc.sz α * Enc.sz α)).add (j % Enc.sz α) = ad.add j := by
    rw [add_add']
    congr 1
    rw [Nat.mul_comm]
    exact hdm
  rw [e1] at hc
  rw [hc, h3]
  exact (getD_some (by rw [Enc.len]; exact h2)).symm
end
theorem OwnR.rdR {α : Type} [Enc α] {w : World} {base : Nat} {os : List (Option Nat)} {A : Option Addr} {c : Nat} {e : TypeId} {l : List α} (h : OwnR w (Sx base os) A c e l) (hl : l.length * Enc.bytes α ≤ 140737488351232) : RdR w base w.heap.size A l := by
  refine ⟨hl, fun i q hi hq => ?_⟩
  have hv : (Enc.enc (l.getD i Enc.d))[q]? = some ((Enc.enc (l.getD i Enc.d)).getD q undef) := getD_some (by rw [Enc.len]; exact hq)
  obtain ⟨ad, hA, hS, hlt, hc⟩ := Own.get h (i := i) (q := q) hi hq (v := (Enc.enc (l.getD i Enc.d)).getD q undef) (by rw [rows_get l hi hq]; exact hv)
  exact ⟨ad, hA, Sx_base hS, hlt, hc⟩
theorem RdR.rdI {w : World} {lo hi : Nat} {A : Option Addr} {l : List Int} (h : RdR w lo hi A l) : RdI w lo hi A l :=
  ⟨h.len, fun i q hi hq => by
    obtain rfl : q = 0 := by omega
    exact h.row i 0 hi hq⟩
theorem RdI.rdR {w : World} {lo hi : Nat} {A : Option Addr} {l : List Int} (h : RdI w lo hi A l) : RdR w lo hi A l :=
  ⟨h.len, fun i q hi hq => by
    have hq : q < 1 := hq
    obtain rfl : q = 0 := by omega
    exact h.row i 0 hi (by omega)⟩
theorem flatMap_one {α β : Type} (f : α → β) : ∀ l : List α, l.flatMap (fun x => [f x]) = l.map f
  | [] => rfl
  | x :: l => by rw [List.flatMap_cons, flatMap_one f l]; rfl
theorem RdI.srcR {w : World} {lo hi : Nat} {A : Option Addr} {l : List Int} (h : RdI w lo hi A l) : SrcR w A l := by
  intro j u hu
  have e : rows l = ints l := flatMap_one _ l
  rw [e] at hu
  exact h.src j u hu
def ActOp (P : Program) (l : List (Nat × Value)) (ops : List Oper) (k : Nat) (w : World) (R : Option Nat → Value → World → Prop) : Prop :=
  ∃ o, ops[k]? = some o ∧ opOk l ops o = true ∧ ∃ nx v w1, (execOp (rho l) o).run P w = .ok nx w1 ∧ Gives nx v ∧ R o.dst v w1
theorem At.act {P : Program} {n : Nat} {ops : Array Oper} {Q : Exit → Act → World → Prop} {k : Nat} {a : Act} {w : World} {l : List (Nat × Value)} (hf : Frm n a l) {R : Option Nat → Value → World → Prop} (h : ActOp P l ops.toList k w R)
    (next : ∀ d v w1, R d v w1 → ∃ l', putL n l d v = some l' ∧ ∀ a', Frm n a' l' → At P ops Q (k + 1) a' w1) : At P ops Q k a w := by
  obtain ⟨o, ho, hk, nx, v, w1, hr, hg, hR⟩ := h
  obtain ⟨l', hl, hn⟩ := next _ _ _ hR
  simp only [opOk, Bool.and_eq_true] at hk
  obtain ⟨⟨h1, h2⟩, h3⟩ := hk
  unfold At
  rw [drop_of_getElem? ho]
  unfold wpList
  split at h1
  · rename_i hwl
    rw [wantedL_sound hf hwl, if_pos rfl]
    exact .inl (oper_wp_of_gives (by rw [hf.exec h2 h3]; exact hr) hg (hn _ (hf.putL hl)))
  · simp at h1
theorem OneH.act {P : Program} {n : Nat} {ops : Array Oper} {Q : Exit → Act → World → Prop} {Cs : List (Addr × Value)} {fuel k : Nat} {li : Array Bool} {a : Act} {w : World} {l : List (Nat × Value)} (hf : Frm n a l) {R : Option Nat → Value → World → Prop} (li' : Array Bool) (hli : li.setIfInBounds k true = li')
    (h : ActOp P l ops.toList k w R)
    (next : ∀ d v w1, R d v w1 → ∃ l', putL n l d v = some l' ∧ ∀ a', Frm n a' l' → HoldsC Cs w1 ∧ AtH P ops Q Cs fuel li' a' w1) : OneH P ops Q Cs fuel li k a w := by
  obtain ⟨o, ho, hk, nx, v, w1, hr, hg, hR⟩ := h
  obtain ⟨l', hl, hn⟩ := next _ _ _ hR
  exact OneH.run hf ho hk li' hli hr hg hl hn
section
variable {α : Type} [Enc α] {P : Program} {l : List (Nat × Value)} {ops : List Oper} {k : Nat} {w : World} {S : Nat → Prop} {A X : Option Addr} {c m cc : Nat} {e : TypeId} {xs ys : List α} {d : Nat}
structure Appended (w : World) (S : Nat → Prop) (A : Option Addr) (e : TypeId) (zs : List α) (v : Value) (w1 : World) (A' : Option Addr) (c' : Nat) : Prop where
  val : v = .slice A' zs.length c'
  gr : w.grownBy w1 (obk A)
  at_ : A' = A ∨ A' = some ⟨w.heap.size, 0, none⟩
  own : ∀ S' : Nat → Prop, (∀ g, g < w.heap.size → S g → S' g) → S' w.heap.size → OwnR w1 S' A' c' e zs
theorem appendR {n t bytes : Nat} (hn : n = xs.length) (hm : m = ys.length) (ha : appAt l ops k = some (t, .slice A n c, .slice X m cc, some d)) {sz : Nat} (hsz : Enc.sz α = sz) (hok : elemOk P t e sz bytes = true) (h : OwnR w S A c e xs) (hs : SrcR w X ys)
    (hb : (xs.length + ys.length) * bytes ≤ 140737488355328) (h63 : xs.length + ys.length ≤ 9223372036854775807) : ActOp P l ops k w fun d' v w1 => d' = some d ∧ ∃ A' c', Appended w S A e (xs ++ ys) v w1 A' c' := by
  subst hn
  subst hm
  subst hsz
  cases ho : ops[k]? with
  | none => unfold appAt at ha; rw [ho] at ha; simp at ha
  | some o =>
    obtain ⟨hk, hdst, A', c', w', hr, hg, hA, hO⟩ := append_run (P := P) ho ha hok h (rows_len ys) hs (rows_one ys) hb (by simpa [maxLen] using h63)
    refine ⟨o, ho, hk, _, _, w', hr, .inl rfl, hdst, A', c', by rw [List.length_append], hg, hA, fun S' h1 h2 => ?_⟩
    have := hO S' h1 h2
    rw [rows_append] at this
    unfold OwnR
    rw [List.length_append]
    exact this
def makeAt (l : List (Nat × Value)) (ops : List Oper) (k : Nat) : Option (TypeId × Value × Value × Option Nat) :=
  match ops[k]? with
  | none => none
  | some o => match opOk l ops o, o.op with
    | true, .makeSlice t x y => some (t, rho l x, rho l y, o.dst)
    | _, _ => none
def zinfo (P : Program) (t : TypeId) : Option (TypeId × List Value × Nat × Nat) :=
  match P.underlying t with
  | some (.slice e) => match P.info? e with
    | some i => match i.zero with
      | some z => some (e, z.cells.toList, i.size, i.bytes)
      | none => none
    | none => none
  | _ => none
theorem zinfo_ok {P : Program} {t e : TypeId} {zs : List Value} {sz bytes : Nat} (h : zinfo P t = some (e, zs, sz, bytes)) : ∃ i z, P.underlying t = some (.slice e) ∧ P.info? e = some i ∧ i.zero = some z ∧ z.cells.toList = zs ∧ i.size = sz ∧ i.bytes = bytes := by
  unfold zinfo at h
  split at h
  · rename_i e' hu
    split at h
    · rename_i i hi
      split at h
      · rename_i z hz
        simp only [Option.some.injEq, Prod.mk.injEq] at h
        obtain ⟨rfl, rfl, rfl, rfl⟩ := h
        exact ⟨i, z, hu, hi, hz, rfl, rfl, rfl⟩
      · simp at h
    · simp at h
  · simp at h
theorem madeCells_rows (x : α) (z : Array Value) (hz : z.toList = Enc.enc x) (n : Nat) : (madeCells z (n * Enc.sz α)).toList = rows (List.replicate n x) := by
  have hp := Enc.pos (α := α)
  have hzs : z.size = Enc.sz α := by rw [← Enc.len x, ← hz]; simp
  refine List.ext_getElem? fun j => ?_
  by_cases hj : j < n * Enc.sz α
  · have hdm := Nat.div_add_mod j (Enc.sz α)
    have h1 : j / Enc.sz α < n := (Nat.div_lt_iff_lt_mul hp).2 hj
    have h2 : j % Enc.sz α < Enc.sz α := Nat.mod_lt _ hp
    have h3 := rows_get (List.replicate n x) (i := j / Enc.sz α) (q := j % Enc.sz α) (by simpa using h1) h2
    rw [show j / Enc.sz α * Enc.sz α + j % Enc.sz α = j by rw [Nat.mul_comm]; exact hdm] at h3
    rw [h3]
    have h4 : (List.replicate n x).getD (j / Enc.sz α) Enc.d = x := by simp [List.getD_eq_getElem?_getD, List.getElem?_replicate, h1]
    rw [h4, ← hz]
    have h5 : j % Enc.sz α < z.size := by omega
    simp only [madeCells, hzs, Array.toList_map, Array.toList_range, List.getElem?_map, List.getElem?_range hj, Option.map_some]
    rw [Array.getElem?_toList, Array.getElem?_eq_getElem h5]
    simp [h5]
  · rw [List.getElem?_eq_none (by simp [madeCells]; omega), List.getElem?_eq_none (by rw [rows_len]; simp; omega)]
theorem makeR {t bytes : Nat} {n cap : Int} {k1 k2 : IntKind} (x : α) (ha : makeAt l ops k = some (t, .int k1 n, .int k2 cap, some d)) {sz : Nat} (hsz : Enc.sz α = sz) (hok0 : zinfo P t = some (e, Enc.enc x, sz, bytes)) (h0 : 0 ≤ n) (h1 : n ≤ cap) (hb : (bytes : Int) * cap ≤ 281474976710656) (hc : cap ≤ 9223372036854775807) :
    ActOp P l ops k w fun d' v w1 => d' = some d ∧ v = .slice (some ⟨w.heap.size, 0, none⟩) (List.replicate n.toNat x).length cap.toNat ∧ w.grownBy w1 none ∧ ∀ S : Nat → Prop, S w.heap.size → OwnR w1 S (some ⟨w.heap.size, 0, none⟩) cap.toNat e (List.replicate n.toNat x) := by
  subst hsz
  obtain ⟨i, z, ht, hi, hz, hzs, hsi, hby⟩ := zinfo_ok hok0
  unfold makeAt at ha
  cases ho : ops[k]? with
  | none => rw [ho] at ha; simp at ha
  | some o =>
    rw [ho] at ha
    simp only at ha
    split at ha
    · rename_i t' a b hok' hop
      simp only [Option.some.injEq, Prod.mk.injEq] at ha
      obtain ⟨rfl, ha1, ha2, hd⟩ := ha
      have hr := run_make (P := P) w t' e i z ht hi hz k1 k2 n cap h0 h1 (by rw [hby]; exact hb) hc
      refine ⟨o, ho, hok', .value (.slice (some ⟨w.heap.size, 0, none⟩) n.toNat cap.toNat), _, w.alloc (.cells (madeCells z.cells (cap.toNat * i.size)) e), ?_, .inl rfl, hd, by simp, World.grownBy_alloc w _ none, fun S hS => ?_⟩
      · simp only [execOp, hop, ha1, ha2]
        simp [hr]
      · have hnc : n.toNat ≤ cap.toNat := by omega
        refine ⟨rows_len _, .inr ⟨_, 0, _, rfl, hS, heap_alloc_new w _, by simpa using hnc, by simp only [maxLen]; omega, ?_, ?_⟩⟩
        · rw [hsi]
          simp [size_madeCells]
        · rw [hsi, List.drop_zero, madeCells_rows x z.cells hzs, rows_take]
          simp [List.take_replicate, Nat.min_eq_left hnc]
    · simp at ha
def storeOkX (P : Program) (t : TypeId) (vs : List Value) : Bool := (match P.info? t with | some i => Nat.beq i.size vs.length | none => false) && vs.all oneC
theorem own_store {n sz : Nat} {us : List Value} (h : Own w S A n c e sz us) {i q : Nat} (hi : i < n) (vs : List Value) (hq : q + vs.length ≤ sz) (hone : ∀ v ∈ vs, oneC v = true) {ad : Addr} (hA : A = some ad) :
    ∃ w1, (storeCells ((ad.add (i * sz)).add q) vs 0).run P w = .ok () w1 ∧ w.grownBy w1 (obk A) ∧ Own w1 S A n c e sz (us.take (i * sz + q) ++ vs ++ us.drop (i * sz + q + vs.length)) := by
  rcases h.2 with ⟨rfl, rfl, _⟩ | ⟨g, o, cur, rfl, hS, hg, hn, hc, hcs, ht⟩
  · omega
  · injection hA with hA
    subst hA
    have e1 : ((⟨g, o, none⟩ : Addr).add (i * sz)).add q = ⟨g, o + (i * sz + q), none⟩ := by
      rw [add_plain_o, add_plain_o, Nat.add_assoc]
    rw [e1]
    have hbx : Bx w g cur.toList e := by
      unfold Bx
      rw [hg]
    have hfit1 : i * sz + q + vs.length ≤ n * sz := by
      have : (i + 1) * sz ≤ n * sz := Nat.mul_le_mul_right _ hi
      rw [Nat.add_mul] at this
      omega
    have hfit2 : n * sz ≤ c * sz := Nat.mul_le_mul_right _ hn
    obtain ⟨w1, hr, hgr, hb⟩ := run_storeCells (P := P) vs (o + (i * sz + q)) 0 hbx (by simp only [Array.length_toList]; omega) hone
    simp only [Nat.add_zero] at hb
    refine ⟨w1, hr, hgr, ?_, .inr ⟨g, o, _, rfl, hS, hb, hn, hc, ?_, ?_⟩⟩
    · simp only [List.length_append, List.length_take, List.length_drop, h.1]
      omega
    · simp only [List.size_toArray, List.length_append, List.length_take, List.length_drop, Array.length_toList]
      omega
    · rw [← ht]
      refine List.ext_getElem? fun j => ?_
      simp only [List.getElem?_take, List.getElem?_append, List.length_append, List.length_take, List.length_drop, Array.length_toList, List.getElem?_drop]
      repeat' split
      all_goals first | rfl | omega | (congr 1; omega) | skip
theorem storeR {t : TypeId} {i : Int} {ad : Addr} {v : Value} (x : α) {sz : Nat} (ha : storeAtL l ops k = some (t, .pointer (some (ad.add (i.toNat * sz))), v)) (hsz : Enc.sz α = sz) (hv : v.cells.toList = Enc.enc x) (hok : storeOkX P t (Enc.enc x) = true) (hA : A = some ad) (h : OwnR w S A c e xs) (h0 : 0 ≤ i) (h1 : i < (xs.length : Int)) :
    ActOp P l ops k w fun d' v' w1 => d' = none ∧ w.grownBy w1 (obk A) ∧ OwnR w1 S A c e (xs.set i.toNat x) := by
  subst hsz
  have hlt : i.toNat < xs.length := by omega
  unfold storeAtL at ha
  cases ho : ops[k]? with
  | none => rw [ho] at ha; simp at ha
  | some o =>
    rw [ho] at ha
    simp only at ha
    split at ha
    · rename_i t' a b hok' hop hdst
      simp only [Option.some.injEq, Prod.mk.injEq] at ha
      obtain ⟨rfl, ha1, ha2⟩ := ha
      simp only [storeOkX, Bool.and_eq_true] at hok
      obtain ⟨hk1, hk2⟩ := hok
      split at hk1
      · rename_i inf hinf
        have hk1 : inf.size = (Enc.enc x).length := by simpa using hk1
        obtain ⟨w1, hr, hgr, hO⟩ := own_store (P := P) h hlt (Enc.enc x) (q := 0) (by rw [Enc.len]; omega) (fun u hu => List.all_eq_true.1 hk2 u hu) hA
        rw [add_zero] at hr
        refine ⟨o, ho, hok', .skip, undef, w1, ?_, .inr ⟨rfl, rfl⟩, hdst, hgr, ?_⟩
        · have hsz : v.cells.size = inf.size := by rw [hk1, ← hv]; simp
          simp only [execOp, hop, ha1, ha2, Instr.storeAt, Instr.sureAddr]
          simp [storeVar, sizeOf, typeInfo, hinf, hsz, hv, hr]
        · unfold OwnR
          rw [rows_set xs hlt, List.length_set]
          rw [Enc.len] at hO
          exact hO
      · simp at hk1
    · simp at ha
theorem OwnR.take (h : OwnR w S A c e xs) (k : Nat) (hk : k ≤ xs.length) : OwnR w S A c e (xs.take k) := by
  refine ⟨rows_len _, ?_⟩
  have hl : (xs.take k).length = k := by rw [List.length_take]; omega
  rw [hl]
  rcases h.2 with ⟨rfl, h2, rfl⟩ | ⟨g, o, cur, rfl, hS, hg, hn, hc, hcs, ht⟩
  · exact .inl ⟨rfl, by omega, rfl⟩
  · refine .inr ⟨g, o, cur, rfl, hS, hg, by omega, hc, hcs, ?_⟩
    rw [← rows_take, ← ht, List.take_take, Nat.min_eq_left (Nat.mul_le_mul_right _ hk)]
theorem OwnR.drop (h : OwnR w S A c e xs) (k : Nat) (hk : k ≤ xs.length) {sz : Nat} (hsz : Enc.sz α = sz) : OwnR w S (if c = k then A else A.map (fun a : Addr => a.add (k * sz))) (c - k) e (xs.drop k) := by
  subst hsz
  have hcap := h.cap
  have hl : (xs.drop k).length = xs.length - k := List.length_drop
  by_cases hck : c = k
  · have hx : xs.drop k = [] := List.drop_of_length_le (by omega)
    rw [if_pos hck, hx]
    refine ⟨by simp [rows], ?_⟩
    rcases h.2 with ⟨rfl, h2, rfl⟩ | ⟨g, o, cur, rfl, hS, hg, hn, hc, hcs, ht⟩
    · exact .inl ⟨rfl, rfl, by omega⟩
    · refine .inr ⟨g, o, cur, rfl, hS, hg, by simp, by omega, ?_, by simp [rows]⟩
      have : (c - k) * Enc.sz α = 0 := by rw [hck, Nat.sub_self, Nat.zero_mul]
      omega
  · rw [if_neg hck]
    refine ⟨rows_len _, ?_⟩
    rw [hl]
    rcases h.2 with ⟨rfl, h2, rfl⟩ | ⟨g, o, cur, rfl, hS, hg, hn, hc, hcs, ht⟩
    · exact absurd (by omega) hck
    · have h8 : (c - k) * Enc.sz α + k * Enc.sz α = c * Enc.sz α := by rw [← Nat.add_mul]; congr 1; omega
      refine .inr ⟨g, o + k * Enc.sz α, cur, by simp [add_plain_o], hS, hg, by omega, by omega, by omega, ?_⟩
      rw [← rows_drop, ← ht, List.drop_take, List.drop_drop, ← Nat.sub_mul]
end
end Go.Proofs.YtkkophhnliplhaaDoor
namespace Go.Proofs.YtkkophhnliplhaaDoor
open Go Go.RowKit
theorem Bx.as {w : World} {b : Nat} {cs cs' : List Value} {T : TypeId} (h : Bx w b cs T) (e : cs = cs') : Bx w b cs' T := by subst e; exact h
theorem add_off (b off k : Nat) : (⟨b, off, none⟩ : Addr).add k = ⟨b, off + k, none⟩ := by unfold Addr.add; split <;> simp_all
end Go.Proofs.YtkkophhnliplhaaDoor
