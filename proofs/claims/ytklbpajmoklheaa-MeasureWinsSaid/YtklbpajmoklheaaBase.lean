/-
  The words of this seat's proofs: what a slice of ints, of bools, of rows and a game read as in a world, and how such readings go on. Conditions: none; plain definitions and lemmas.
-/
import Derived.Test.YtklbpajmoklheaaChecked
import Derived.WalkKit
import Derived.ProofKit
import Derived.Outline
import Derived.WalkSpells
import Derived.WalkSmall
import Derived.Deep.QuietTactic
import Derived.BigQuiet
import Derived.Deep.Draws
import Derived.Deep.LoopGhost
import Derived.Deep.DeepCutAuto
import Derived.Deep.RegionHeld3
namespace Go.Proofs.Ytklbpajmoklheaa
open Go Go.RowKit

/-- w' is w, some orders having been drawn. -/
def Drawn (w w' : World) : Prop := ∃ n, w' = w.drewN n
theorem Drawn.refl (w : World) : Drawn w w := ⟨0, rfl⟩
theorem Drawn.step {w w1 : World} (h : Drawn w w1) (n : Nat) : Drawn w (w1.drewN n) := by
  obtain ⟨m, rfl⟩ := h
  exact ⟨m + n, World.drewN_drewN ..⟩
theorem Drawn.drew {w w1 : World} (h : Drawn w w1) : Drawn w w1.drew := h.step 1
theorem below_drewN' {B : Nat} {a w : World} (h : Below B a w) (n : Nat) : Below B a (w.drewN n) := ⟨h.os, h.tape, h.output, h.size, h.block⟩
theorem Drawn.below {w w' : World} (h : Drawn w w') (B : Nat) : Below B w w' := by
  obtain ⟨n, rfl⟩ := h
  exact below_drewN' (Below.refl _ _) n

/-- What stood stands. -/
def Ext (w w' : World) : Prop := Below w.heap.size w w'
theorem Ext.refl (w : World) : Ext w w := Below.refl _ _
theorem Ext.size {w w' : World} (h : Ext w w') : w.heap.size ≤ w'.heap.size := Below.size h
theorem Ext.trans {a b c : World} (h : Ext a b) (k : Ext b c) : Ext a c := Below.trans h (Below.mono k h.size)
theorem Ext.cell {w w' : World} (h : Ext w w') {b o : Nat} {v : Value} (hc : w.cell? ⟨b, o, none⟩ = some v) : w'.cell? ⟨b, o, none⟩ = some v :=
  (Below.cell h (p := ⟨b, o, none⟩) (World.block_lt_of_cell? _ _ hc)).trans hc
theorem Ext.alloc {w w' : World} (h : Ext w w') (o : Obj) : Ext w (w'.alloc o) := Below.alloc h h.size o
theorem Ext.drewN {w w' : World} (h : Ext w w') (n : Nat) : Ext w (w'.drewN n) := below_drewN' h n
theorem Ext.drew {w w' : World} (h : Ext w w') : Ext w w'.drew := Below.drew h
theorem Drawn.ext {w w' : World} (h : Drawn w w') : Ext w w' := h.below _
theorem bcell {B : Nat} {W w1 : World} (hb : Below B W w1) : (∀ b o, b < B → w1.cell? ⟨b, o, none⟩ = W.cell? ⟨b, o, none⟩) ∧ (∀ b o, b < B → w1.frozen? ⟨b, o, none⟩ = W.frozen? ⟨b, o, none⟩) :=
  ⟨fun b o h => hb.cell (p := ⟨b, o, none⟩) h, fun b o h => hb.frozen (p := ⟨b, o, none⟩) h⟩

/-- A row of n elements of sz cells each at A reads as f tells; it lies in the blocks from lo on below hi. -/
def RdV (w : World) (lo hi : Nat) (A : Option Addr) (n sz : Nat) (f : Nat → Nat → Value) : Prop :=
  ∀ i q, i < n → q < sz → ∃ ad, A = some ad ∧ lo ≤ ad.block ∧ ad.block < hi ∧ w.cell? ((ad.add (i * sz)).add q) = some (f i q)
theorem add_block (a : Addr) (n : Nat) : (a.add n).block = a.block := by unfold Addr.add; split <;> rfl
theorem add_zero (a : Addr) : a.add 0 = a := by simp [Addr.add]
theorem RdV.gr {w w1 : World} {lo hi : Nat} {A : Option Addr} {n sz : Nat} {f : Nat → Nat → Value} {row : Option Nat} (h : RdV w lo hi A n sz f) (g : w.grownBy w1 row) (hr : ∀ k, row = some k → k < lo ∨ hi ≤ k) : RdV w1 lo hi A n sz f := fun i q hi' hq => by
  obtain ⟨ad, e, h1, h2, hc⟩ := h i q hi' hq
  refine ⟨ad, e, h1, h2, g.cell hc (fun e => ?_)⟩
  rw [add_block, add_block] at e
  have := hr _ e.symm
  omega
theorem RdV.gn {w w1 : World} {lo hi : Nat} {A : Option Addr} {n sz : Nat} {f : Nat → Nat → Value} (h : RdV w lo hi A n sz f) (g : w.grownBy w1 none) : RdV w1 lo hi A n sz f := h.gr g (fun _ h => by cases h)
theorem RdV.gb {w w1 : World} {lo hi b : Nat} {A : Option Addr} {n sz : Nat} {f : Nat → Nat → Value} (h : RdV w lo hi A n sz f) (g : w.grownBy w1 (some b)) (hb : b < lo ∨ hi ≤ b) : RdV w1 lo hi A n sz f := h.gr g (fun k h => by injection h with h; omega)
theorem RdV.wide {w : World} {lo hi lo' hi' : Nat} {A : Option Addr} {n sz : Nat} {f : Nat → Nat → Value} (h : RdV w lo hi A n sz f) (h1 : lo' ≤ lo) (h2 : hi ≤ hi') : RdV w lo' hi' A n sz f := fun i q hi' hq => by
  obtain ⟨ad, e, h3, h4, hc⟩ := h i q hi' hq
  exact ⟨ad, e, by omega, by omega, hc⟩

/-- A slice of ints. -/
structure RdI (w : World) (lo hi : Nat) (A : Option Addr) (l : List Int) : Prop where
  len : l.length * 8 ≤ 140737488351232
  row : RdV w lo hi A l.length 1 (fun i _ => .int .i64 (l.getD i 0))
def gI (l : List Int) (i : Int) : Int := l.getD i.toNat 0
theorem RdI.gr {w w1 : World} {lo hi : Nat} {A : Option Addr} {l : List Int} {row : Option Nat} (h : RdI w lo hi A l) (g : w.grownBy w1 row) (hr : ∀ k, row = some k → k < lo ∨ hi ≤ k) : RdI w1 lo hi A l := ⟨h.len, h.row.gr g hr⟩
theorem RdI.gn {w w1 : World} {lo hi : Nat} {A : Option Addr} {l : List Int} (h : RdI w lo hi A l) (g : w.grownBy w1 none) : RdI w1 lo hi A l := h.gr g (fun _ h => by cases h)
theorem RdI.gb {w w1 : World} {lo hi b : Nat} {A : Option Addr} {l : List Int} (h : RdI w lo hi A l) (g : w.grownBy w1 (some b)) (hb : b < lo ∨ hi ≤ b) : RdI w1 lo hi A l := h.gr g (fun k h => by injection h with h; omega)
theorem RdI.wide {w : World} {lo hi lo' hi' : Nat} {A : Option Addr} {l : List Int} (h : RdI w lo hi A l) (h1 : lo' ≤ lo) (h2 : hi ≤ hi') : RdI w lo' hi' A l := ⟨h.len, h.row.wide h1 h2⟩
theorem RdI.get {w : World} {lo hi : Nat} {A : Option Addr} {l : List Int} (h : RdI w lo hi A l) (i : Int) (h0 : 0 ≤ i) (h1 : i < (l.length : Int)) : ∃ ad, A = some ad ∧ lo ≤ ad.block ∧ ad.block < hi ∧ w.cell? (ad.add (i.toNat * 1)) = some (.int .i64 (gI l i)) := by
  obtain ⟨ad, e, h2, h3, hc⟩ := h.row i.toNat 0 (by omega) (by omega)
  exact ⟨ad, e, h2, h3, by rw [add_zero] at hc; exact hc⟩
/-- A slice of bools. -/
structure RdB (w : World) (lo hi : Nat) (A : Option Addr) (l : List Bool) : Prop where
  len : l.length ≤ 140737488351232
  row : RdV w lo hi A l.length 1 (fun i _ => .bool (l.getD i false))
def gB (l : List Bool) (i : Int) : Bool := l.getD i.toNat false
theorem RdB.gr {w w1 : World} {lo hi : Nat} {A : Option Addr} {l : List Bool} {row : Option Nat} (h : RdB w lo hi A l) (g : w.grownBy w1 row) (hr : ∀ k, row = some k → k < lo ∨ hi ≤ k) : RdB w1 lo hi A l := ⟨h.len, h.row.gr g hr⟩
theorem RdB.gn {w w1 : World} {lo hi : Nat} {A : Option Addr} {l : List Bool} (h : RdB w lo hi A l) (g : w.grownBy w1 none) : RdB w1 lo hi A l := h.gr g (fun _ h => by cases h)
theorem RdB.gb {w w1 : World} {lo hi b : Nat} {A : Option Addr} {l : List Bool} (h : RdB w lo hi A l) (g : w.grownBy w1 (some b)) (hb : b < lo ∨ hi ≤ b) : RdB w1 lo hi A l := h.gr g (fun k h => by injection h with h; omega)
theorem RdB.wide {w : World} {lo hi lo' hi' : Nat} {A : Option Addr} {l : List Bool} (h : RdB w lo hi A l) (h1 : lo' ≤ lo) (h2 : hi ≤ hi') : RdB w lo' hi' A l := ⟨h.len, h.row.wide h1 h2⟩
theorem RdB.get {w : World} {lo hi : Nat} {A : Option Addr} {l : List Bool} (h : RdB w lo hi A l) (i : Int) (h0 : 0 ≤ i) (h1 : i < (l.length : Int)) : ∃ ad, A = some ad ∧ lo ≤ ad.block ∧ ad.block < hi ∧ w.cell? (ad.add (i.toNat * 1)) = some (.bool (gB l i)) := by
  obtain ⟨ad, e, h2, h3, hc⟩ := h.row i.toNat 0 (by omega) (by omega)
  exact ⟨ad, e, h2, h3, by rw [add_zero] at hc; exact hc⟩
/-- A slice of slices of ints. -/
structure RdII (w : World) (lo hi : Nat) (A : Option Addr) (l : List (List Int)) : Prop where
  len : l.length * 24 ≤ 140737488351232
  row : ∃ (R : Nat → Option Addr) (C : Nat → Nat), RdV w lo hi A l.length 1 (fun i _ => .slice (R i) (l.getD i []).length (C i)) ∧ ∀ i, i < l.length → (l.getD i []).length ≤ C i ∧ RdI w lo hi (R i) (l.getD i [])
def gL (l : List (List Int)) (i : Int) : List Int := l.getD i.toNat []
theorem RdII.gr {w w1 : World} {lo hi : Nat} {A : Option Addr} {l : List (List Int)} {row : Option Nat} (h : RdII w lo hi A l) (g : w.grownBy w1 row) (hr : ∀ k, row = some k → k < lo ∨ hi ≤ k) : RdII w1 lo hi A l := by
  obtain ⟨hl, R, C, h1, h2⟩ := h
  exact ⟨hl, R, C, h1.gr g hr, fun i hi => ⟨(h2 i hi).1, (h2 i hi).2.gr g hr⟩⟩
theorem RdII.gn {w w1 : World} {lo hi : Nat} {A : Option Addr} {l : List (List Int)} (h : RdII w lo hi A l) (g : w.grownBy w1 none) : RdII w1 lo hi A l := h.gr g (fun _ h => by cases h)
theorem RdII.gb {w w1 : World} {lo hi b : Nat} {A : Option Addr} {l : List (List Int)} (h : RdII w lo hi A l) (g : w.grownBy w1 (some b)) (hb : b < lo ∨ hi ≤ b) : RdII w1 lo hi A l := h.gr g (fun k h => by injection h with h; omega)
theorem RdII.wide {w : World} {lo hi lo' hi' : Nat} {A : Option Addr} {l : List (List Int)} (h : RdII w lo hi A l) (h1 : lo' ≤ lo) (h2 : hi ≤ hi') : RdII w lo' hi' A l := by
  obtain ⟨hl, R, C, h3, h4⟩ := h
  exact ⟨hl, R, C, h3.wide h1 h2, fun i hi => ⟨(h4 i hi).1, (h4 i hi).2.wide h1 h2⟩⟩
theorem RdII.get {w : World} {lo hi : Nat} {A : Option Addr} {l : List (List Int)} (h : RdII w lo hi A l) (i : Int) (h0 : 0 ≤ i) (h1 : i < (l.length : Int)) :
    ∃ ad R C, A = some ad ∧ lo ≤ ad.block ∧ ad.block < hi ∧ w.cell? (ad.add (i.toNat * 1)) = some (.slice R (gL l i).length C) ∧ (gL l i).length ≤ C ∧ RdI w lo hi R (gL l i) := by
  obtain ⟨hl, R, C, hr, hi'⟩ := h
  obtain ⟨ad, e, h2, h3, hc⟩ := hr i.toNat 0 (by omega) (by omega)
  exact ⟨ad, R i.toNat, C i.toNat, e, h2, h3, by rw [add_zero] at hc; exact hc, (hi' i.toNat (by omega)).1, (hi' i.toNat (by omega)).2⟩

/-- A game. -/
structure GameL where
  ow : List Int
  pr : List Int
  mv : List (List Int)
  deriving DecidableEq
structure RdG (w : World) (lo hi : Nat) (A0 A1 A2 : Option Addr) (c0 c1 c2 : Nat) (G : GameL) : Prop where
  ow : RdI w lo hi A0 G.ow
  pr : RdI w lo hi A1 G.pr
  mv : RdII w lo hi A2 G.mv
  k0 : G.ow.length ≤ c0
  k1 : G.pr.length ≤ c1
  k2 : G.mv.length ≤ c2
theorem RdG.gr {w w1 : World} {lo hi : Nat} {A0 A1 A2 : Option Addr} {c0 c1 c2 : Nat} {G : GameL} {row : Option Nat} (h : RdG w lo hi A0 A1 A2 c0 c1 c2 G) (g : w.grownBy w1 row) (hr : ∀ k, row = some k → k < lo ∨ hi ≤ k) : RdG w1 lo hi A0 A1 A2 c0 c1 c2 G :=
  ⟨h.ow.gr g hr, h.pr.gr g hr, h.mv.gr g hr, h.k0, h.k1, h.k2⟩
theorem RdG.gn {w w1 : World} {lo hi : Nat} {A0 A1 A2 : Option Addr} {c0 c1 c2 : Nat} {G : GameL} (h : RdG w lo hi A0 A1 A2 c0 c1 c2 G) (g : w.grownBy w1 none) : RdG w1 lo hi A0 A1 A2 c0 c1 c2 G := h.gr g (fun _ h => by cases h)
theorem RdG.gb {w w1 : World} {lo hi b : Nat} {A0 A1 A2 : Option Addr} {c0 c1 c2 : Nat} {G : GameL} (h : RdG w lo hi A0 A1 A2 c0 c1 c2 G) (g : w.grownBy w1 (some b)) (hb : b < lo ∨ hi ≤ b) : RdG w1 lo hi A0 A1 A2 c0 c1 c2 G := h.gr g (fun k h => by injection h with h; omega)
theorem RdG.wide {w : World} {lo hi lo' hi' : Nat} {A0 A1 A2 : Option Addr} {c0 c1 c2 : Nat} {G : GameL} (h : RdG w lo hi A0 A1 A2 c0 c1 c2 G) (h1 : lo' ≤ lo) (h2 : hi ≤ hi') : RdG w lo' hi' A0 A1 A2 c0 c1 c2 G :=
  ⟨h.ow.wide h1 h2, h.pr.wide h1 h2, h.mv.wide h1 h2, h.k0, h.k1, h.k2⟩
/-- A game as a value. -/
def gV (A0 A1 A2 : Option Addr) (c0 c1 c2 : Nat) (G : GameL) : Value := .agg #[.slice A0 G.ow.length c0, .slice A1 G.pr.length c1, .slice A2 G.mv.length c2]

theorem ret_eq {v v' : Value} (h : v = v') : Ending.returned v = .returned v' := by rw [h]
theorem take_succ_eq {a b : List Int} {k : Nat} (h : a.take k = b.take k) (h1 : k < a.length) (h2 : k < b.length) (e : a.getD k 0 = b.getD k 0) : a.take (k+1) = b.take (k+1) := by
  rw [List.take_succ_eq_append_getElem h1, List.take_succ_eq_append_getElem h2, h]
  rw [List.getD_eq_getElem?_getD, List.getD_eq_getElem?_getD, List.getElem?_eq_getElem h1, List.getElem?_eq_getElem h2] at e
  have e' : a[k] = b[k] := by simpa using e
  rw [e']
end Go.Proofs.Ytklbpajmoklheaa
