/-
  The frame of the walks, sixth part: rows of elements that are encoded as cells; making, storing, appending, slicing as operations. Conditions: none; plain lemmas, over any program.
-/
import Derived.Test.YtkkophhnliplhaaDoorFo
import Derived.Laws.MakeOwn
set_option linter.unusedVariables false
set_option linter.unusedSimpArgs false
namespace Go.Proofs.YtkkophhnliplhaaDoor
open Go Go.RowKit

/-- How an element lies in cells. -/
class Enc (α : Type) where
  enc : α → List Value
  sz : Nat
  d : α
  len : ∀ x, (enc x).length = sz
  one : ∀ x, ∀ u ∈ enc x, oneC u = true
  pos : 0 < sz
  bytes : Nat
  bpos : 0 < bytes
instance : Enc Int := ⟨fun x => [.int .i64 x], 1, 0, fun _ => rfl, fun x u h => by simp at h; subst h; rfl, by decide, 8, by decide⟩
instance : Enc Bool := ⟨fun x => [.bool x], 1, false, fun _ => rfl, fun x u h => by simp at h; subst h; rfl, by decide, 1, by decide⟩
/-- A slice as a value. -/
structure SliceV where
  A : Option Addr
  n : Nat
  c : Nat
instance : Enc SliceV := ⟨fun x => [.slice x.A x.n x.c], 1, ⟨none, 0, 0⟩, fun _ => rfl, fun x u h => by simp at h; subst h; rfl, by decide, 24, by decide⟩
section
variable {α : Type} [Enc α]
def rows (l : List α) : List Value := l.flatMap Enc.enc
def gA (l : List α) (i : Int) : α := l.getD i.toNat Enc.d
theorem rows_len (l : List α) : (rows l).length = l.length * Enc.sz α := by
  induction l with
  | nil => simp [rows]
  | cons x l ih => simp only [rows, List.flatMap_cons, List.length_append, Enc.len, List.length_cons] at ih ⊢; rw [ih, Nat.add_mul]; omega
theorem rows_append (l r : List α) : rows l ++ rows r = rows (l ++ r) := by simp [rows]
theorem rows_one (l : List α) : ∀ u ∈ rows l, oneC u = true := by
  intro u hu
  obtain ⟨x, _, hx⟩ := List.mem_flatMap.1 hu
  exact Enc.one x u hx
theorem rows_take (l : List α) (k : Nat) : (rows l).take (k * Enc.sz α) = rows (l.take k) := by
  induction l generalizing k with
  | nil => simp [rows]
  | cons x l ih =>
    cases k with
    | zero => simp [rows]
    | succ k =>
      have := ih k
      simp only [rows, List.flatMap_cons, List.take_succ_cons] at this ⊢
      rw [List.take_append, Enc.len, List.take_of_length_le (by rw [Enc.len, Nat.add_mul]; omega), ← this]
      congr 2
      rw [Nat.add_mul]
      omega
theorem rows_drop (l : List α) (k : Nat) : (rows l).drop (k * Enc.sz α) = rows (l.drop k) := by
  induction l generalizing k with
  | nil => simp [rows]
  | cons x l ih =>
    cases k with
    | zero => simp [rows]
    | succ k =>
      have := ih k
      simp only [rows, List.flatMap_cons, List.drop_succ_cons] at this ⊢
      rw [List.drop_append, Enc.len, List.drop_of_length_le (by rw [Enc.len, Nat.add_mul]; omega), ← this, List.nil_append]
      congr 1
      rw [Nat.add_mul]
      omega
theorem rows_get (l : List α) {i q : Nat} (hi : i < l.length) (hq : q < Enc.sz α) : (rows l)[i * Enc.sz α + q]? = (Enc.enc (l.getD i Enc.d))[q]? := by
  have h1 := rows_drop l i
  have h2 : (rows l)[i * Enc.sz α + q]? = ((rows l).drop (i * Enc.sz α))[q]? := by rw [List.getElem?_drop]
  rw [h2, h1, List.drop_eq_getElem_cons hi]
  simp only [rows, List.flatMap_cons]
  rw [List.getElem?_append_left (by rw [Enc.len]; exact hq), List.getD_eq_getElem?_getD, List.getElem?_eq_getElem hi]
  rfl
theorem rows_set (l : List α) {i : Nat} (hi : i < l.length) (v : α) : rows (l.set i v) = (rows l).take (i * Enc.sz α) ++ Enc.enc v ++ (rows l).drop (i * Enc.sz α + Enc.sz α) := by
  rw [show i * Enc.sz α + Enc.sz α = (i + 1) * Enc.sz α by rw [Nat.add_mul]; omega, rows_take, rows_drop, List.set_eq_take_append_cons_drop, if_pos hi]
  simp [rows]
theorem rows_single (x : α) : rows [x] = Enc.enc x := by simp [rows]
/-- A slice of the call's own, its elements known. -/
def OwnR (w : World) (S : Nat → Prop) (A : Option Addr) (c : Nat) (e : TypeId) (l : List α) : Prop := Own w S A l.length c e (Enc.sz α) (rows l)
variable {w : World} {S : Nat → Prop} {A : Option Addr} {c : Nat} {e : TypeId} {l : List α}
theorem OwnR.nil : OwnR w S none 0 e ([] : List α) := Own.nil
theorem OwnR.lt (h : OwnR w S A c e l) : ∀ k, obk A = some k → k < w.heap.size := Own.lt h
theorem OwnR.inS (h : OwnR w S A c e l) : ∀ k, obk A = some k → S k := Own.inS h
theorem OwnR.ge {base : Nat} {os : List (Option Nat)} (h : OwnR w (Sx base os) A c e l) : ∀ k, obk A = some k → base ≤ k := Own.ge h
theorem OwnR.ne_new (h : OwnR w S A c e l) : obk A ≠ some w.heap.size := Own.ne_new h
theorem OwnR.cap (h : OwnR w S A c e l) : l.length ≤ c := Own.cap h
theorem OwnR.imp {S' : Nat → Prop} (h : OwnR w S A c e l) (hi : ∀ g, g < w.heap.size → S g → S' g) : OwnR w S' A c e l := Own.imp h hi
theorem OwnR.gr {w1 : World} {row : Option Nat} (h : OwnR w S A c e l) (g : w.grownBy w1 row) (hr : ∀ k, S k → row ≠ some k) : OwnR w1 S A c e l := Own.gr h g hr
theorem OwnR.neb (h : OwnR w S A c e l) {b : Nat} (hb : ∀ g, S g → some b ≠ some g) : obk A ≠ some b := Own.neb h hb
theorem OwnR.add {base b : Nat} {os : List (Option Nat)} (h : OwnR w (Sx base os) A c e l) (hb : w.heap.size ≤ b) : OwnR w (Sx base (some b :: os)) A c e l := Own.add h hb
/-- Over a change that may have moved another row. -/
theorem OwnR.grA {w1 : World} {S' : Nat → Prop} {row : Option Nat} (h : OwnR w S A c e l) (g : w.grownBy w1 row) (hr : ∀ k, S k → row ≠ some k) (hi : ∀ k, k < w.heap.size → S k → S' k) : OwnR w1 S' A c e l := by
  have h2 : OwnR w (fun k => S k ∧ k < w.heap.size) A c e l := OwnR.imp h (fun k hk hs => ⟨hs, hk⟩)
  exact OwnR.imp (OwnR.gr h2 g (fun k hk => hr k hk.1)) (fun k _ hs => hi k hs.2 hs.1)
theorem OwnR.as {l' : List α} (h : OwnR w S A c e l) (e1 : l = l') : OwnR w S A c e l' := by subst e1; exact h
theorem OwnR.get (h : OwnR w S A c e l) (i : Int) (h0 : 0 ≤ i) (h1 : i < (l.length : Int)) {sz : Nat} (hsz : Enc.sz α = sz) :
    ∃ ad, A = some ad ∧ ad.block < w.heap.size ∧ (w.cell? (ad.add (i.toNat * sz)) = (Enc.enc (gA l i))[0]?) ∧ ∀ q v, (Enc.enc (gA l i))[q]? = some v → w.cell? ((ad.add (i.toNat * sz)).add q) = some v := by
  subst hsz
  have hlt : i.toNat < l.length := by omega
  have hp := Enc.pos (α := α)
  have h0' : (Enc.enc (gA l i))[0]? = some ((Enc.enc (gA l i))[0]'(by rw [Enc.len]; exact hp)) := List.getElem?_eq_getElem _
  obtain ⟨ad, hA, _, hlt2, hc⟩ := Own.get h (i := i.toNat) (q := 0) hlt hp (v := (Enc.enc (gA l i))[0]'(by rw [Enc.len]; exact hp)) (by rw [rows_get l hlt hp]; exact h0')
  refine ⟨ad, hA, hlt2, by rw [add_zero] at hc; rw [hc, h0'], fun q v hv => ?_⟩
  have hq : q < Enc.sz α := by have := (List.getElem?_eq_some_iff.1 hv).1; rwa [Enc.len] at this
  obtain ⟨ad', hA', _, _, hc'⟩ := Own.get h (i := i.toNat) (q := q) hlt hq (v := v) (by rw [rows_get l hlt hq]; exact hv)
  rw [hA] at hA'
  injection hA' with hA'
  subst hA'
  exact hc'
/-- What a slice holds, to be appended. -/
def SrcR (w : World) (X : Option Addr) (l : List α) : Prop := ∀ j u, (rows l)[j]? = some u → ∃ ad, X = some ad ∧ w.cell? (ad.add j) = some u
theorem Bx.srcR {w : World} {b : Nat} {cs : List Value} {T : TypeId} {l : List α} (h : Bx w b cs T) (e : rows l = cs) : SrcR w (some ⟨b, 0, none⟩) l := by
  unfold SrcR
  rw [e]
  exact h.src
theorem OwnR.src (h : OwnR w S A c e l) : SrcR w A l := by
  intro j u hu
  have hp := Enc.pos (α := α)
  have hj : j < l.length * Enc.sz α := by have := (List.getElem?_eq_some_iff.1 hu).1; rwa [rows_len] at this
  rcases h.2 with ⟨rfl, hn, _⟩ | ⟨g, o, cur, rfl, hS, hg, hn, hc, hcs, ht⟩
  · rw [hn] at hj
    omega
  · refine ⟨_, rfl, ?_⟩
    rw [← ht, List.getElem?_take] at hu
    split at hu
    · rw [add_plain_o]
      simp only [World.cell?, hg]
      simpa using hu
    · rename_i hx; exact absurd hj hx
theorem Bx.ownR {w : World} {b n : Nat} {cs : List Value} {T : TypeId} {S : Nat → Prop} {l : List α} (h : Bx w b cs T) (e : rows l = cs) (hS : S b) (hn : l.length ≤ maxLen) : OwnR w S (some ⟨b, 0, none⟩) l.length T l := by
  subst e
  exact h.own hS (rows_len l) hn
end
theorem add_add' (a : Addr) (i j : Nat) : (a.add i).add j = a.add (i + j) := by
  obtain ⟨b, o, f⟩ := a
  cases f <;> simp [Addr.add] <;> (repeat' split) <;> simp_all <;> omega
theorem getD_some {l : List Value} {q : Nat} (h : q < l.length) : l[q]? = some (l.getD q undef) := by
  rw [List.getD_eq_getElem?_getD, List.getElem?_eq_getElem h]
  rfl
/-- A slice that is read. -/
structure RdR {α : Type} [Enc α] (w : World) (lo hi : Nat) (A : Option Addr) (l : List α) : Prop where
  len : l.length * Enc.bytes α ≤ 140737488351232
  row : RdV w lo hi A l.length (Enc.sz α) (fun i q => (Enc.enc (l.getD i Enc.d)).getD q undef)
section
variable {α : Type} [Enc α] {w : World} {lo hi : Nat} {A : Option Addr} {l : List α}
theorem RdR.gr {w1 : World} {row : Option Nat} (h : RdR w lo hi A l) (g : w.grownBy w1 row) (hr : ∀ k, row = some k → k < lo ∨ hi ≤ k) : RdR w1 lo hi A l := ⟨h.len, h.row.gr g hr⟩
theorem RdR.wide {lo' hi' : Nat} (h : RdR w lo hi A l) (h1 : lo' ≤ lo) (h2 : hi ≤ hi') : RdR w lo' hi' A l := ⟨h.len, h.row.wide h1 h2⟩
theorem RdR.get (h : RdR w lo hi A l) (i : Int) (h0 : 0 ≤ i) (h1 : i < (l.length : Int)) {sz : Nat} (hsz : Enc.sz α = sz) :
    ∃ ad, A = some ad ∧ ad.block < hi ∧ (w.cell? (ad.add (i.toNat * sz)) = (Enc.enc (gA l i))[0]?) ∧ ∀ q v, (Enc.enc (gA l i))[q]? = some v → w.cell? ((ad.add (i.toNat * sz)).add q) = some v := by
  subst hsz
  have hp := Enc.pos (α := α)
  obtain ⟨ad, hA, _, hlt2, hc⟩ := h.row i.toNat 0 (by omega) hp
  have hg : ∀ q, q < Enc.sz α → (Enc.enc (gA l i))[q]? = some ((Enc.enc (l.getD i.toNat Enc.d)).getD q undef) := fun q hq => by
    rw [List.getD_eq_getElem?_getD, gA, List.getElem?_eq_getElem (by rw [Enc.len]; exact hq)]
    rfl
  refine ⟨ad, hA, hlt2, by rw [add_zero] at hc; rw [hc, hg 0 hp], fun q v hv => ?_⟩
  have hq : q < Enc.sz α := by have := (List.getElem?_eq_some_iff.1 hv).1; rwa [Enc.len] at this
  obtain ⟨ad', hA', _, _, hc'⟩ := h.row i.toNat q (by omega) hq
  rw [hA] at hA'
  injection hA' with hA'
  subst hA'
  rw [hc', ← hg q hq, hv]
theorem RdR.src (h : RdR w lo hi A l) : SrcR w A l := by
  intro j u hu
  have hp := Enc.pos (α := α)
  have hj : j < l.length * Enc.sz α := by have := (List.getElem?_eq_some_iff.1 hu).1; rwa [rows_len] at this
  have hdm := Nat.div_add_mod j (Enc.sz α)
  have h1 : j / Enc.sz α < l.length := (Nat.div_lt_iff_lt_mul hp).2 hj
  have h2 : j % Enc.sz α < Enc.sz α := Nat.mod_lt _ hp
  have h3 := rows_get l h1 h2
  rw [show j / Enc.sz α * Enc.sz α + j % Enc.sz α = j by rw [Nat.mul_comm]; exact hdm, hu] at h3
  obtain ⟨ad, hA, _, _, hc⟩ := h.row (j / Enc.sz α) (j % Enc.sz α) h1 h2
  refine ⟨ad, hA, ?_⟩
  have e1 : (ad.add (j / Enc.sz α * Enc.sz α)).add (j % Enc.sz α) = ad.add j := by
    rw [add_add']
    congr 1
    rw [Nat.mul_comm]
    exact hdm
  rw [e1] at hc
  rw [hc, h3]
  exact (getD_some (by rw [Enc.len]; exact h2)).symm
end
theorem OwnR.rdR {α : Type} [Enc α] {w : World} {base : Nat} {os : List (Option Nat)} {A : Option Addr} {c : Nat} {e : TypeId} {l : List α} (h : OwnR w (Sx base os) A c e l) (hl : l.length * Enc.bytes α ≤ 140737488351232) : RdR w base w.heap.size A l := by
  refine ⟨hl, fun i q hi hq => ?_⟩
  have hv : (Enc.enc (l.getD i Enc.d))[q]? = some ((Enc.enc (l.getD i Enc.d)).getD q undef) := getD_some (by rw [Enc.len]; exact hq)
  obtain ⟨ad, hA, hS, hlt, hc⟩ := Own.get h (i := i) (q := q) hi hq (v := (Enc.enc (l.getD i Enc.d)).getD q undef) (by rw [rows_get l hi hq]; exact hv)
  exact ⟨ad, hA, Sx_base hS, hlt, hc⟩
theorem RdR.rdI {w : World} {lo hi : Nat} {A : Option Addr} {l : List Int} (h : RdR w lo hi A l) : RdI w lo hi A l :=
  ⟨h.len, fun i q hi hq => by
    obtain rfl : q = 0 := by omega
    exact h.row i 0 hi hq⟩
theorem RdR.rdB {w : World} {lo hi : Nat} {A : Option Addr} {l : List Bool} (h : RdR w lo hi A l) : RdB w lo hi A l :=
  ⟨by have := h.len; simp only [Enc.bytes] at this; omega, fun i q hi hq => by
    obtain rfl : q = 0 := by omega
    exact h.row i 0 hi hq⟩
theorem RdI.rdR {w : World} {lo hi : Nat} {A : Option Addr} {l : List Int} (h : RdI w lo hi A l) : RdR w lo hi A l :=
  ⟨h.len, fun i q hi hq => by
    have hq : q < 1 := hq
    obtain rfl : q = 0 := by omega
    exact h.row i 0 hi (by omega)⟩
theorem flatMap_one {α β : Type} (f : α → β) : ∀ l : List α, l.flatMap (fun x => [f x]) = l.map f
  | [] => rfl
  | x :: l => by rw [List.flatMap_cons, flatMap_one f l]; rfl
theorem RdI.srcR {w : World} {lo hi : Nat} {A : Option Addr} {l : List Int} (h : RdI w lo hi A l) : SrcR w A l := by
  intro j u hu
  have e : rows l = ints l := flatMap_one _ l
  rw [e] at hu
  exact h.src j u hu
theorem take_push {α : Type} [Enc α] {xs l : List α} {k : Int} (h : xs = l.take k.toNat) (h0 : 0 ≤ k) (h1 : k < (l.length : Int)) : xs ++ [gA l k] = l.take (k + 1).toNat := by
  subst h
  rw [show (k + 1).toNat = k.toNat + 1 by omega, List.take_succ_eq_append_getElem (by omega)]
  simp only [gA, List.getD_eq_getElem?_getD, List.getElem?_eq_getElem (show k.toNat < l.length by omega), Option.getD_some]
theorem takeR_next {α : Type} [Enc α] {la lb : List α} [DecidableEq α] {k : Int} (h : la.take k.toNat = lb.take k.toNat) (h0 : 0 ≤ k) (h1 : k < (la.length : Int)) (h2 : k < (lb.length : Int)) (e : decide (gA la k = gA lb k) = true) : la.take (k + 1).toNat = lb.take (k + 1).toNat := by
  have e1 := take_push (xs := la.take k.toNat) (l := la) rfl h0 h1
  have e2 := take_push (xs := la.take k.toNat) (l := lb) h h0 h2
  rw [← e1, ← e2, of_decide_eq_true e]
theorem takeR_all {α : Type} {la lb : List α} {k : Int} (h : la.take k.toNat = lb.take k.toNat) (h1 : (la.length : Int) ≤ k) (h2 : (lb.length : Int) ≤ k) : la = lb := by
  rwa [List.take_of_length_le (by omega), List.take_of_length_le (by omega)] at h
theorem take_end {α : Type} {xs l : List α} {k : Int} (h : xs = l.take k.toNat) (h1 : (l.length : Int) ≤ k) : xs = l := by rwa [List.take_of_length_le (by omega)] at h
/-! ### Operations told by their run -/
def ActOp (P : Program) (l : List (Nat × Value)) (ops : List Oper) (k : Nat) (w : World) (R : Option Nat → Value → World → Prop) : Prop :=
  ∃ o, ops[k]? = some o ∧ opOk l ops o = true ∧ ∃ nx v w1, (execOp (rho l) o).run P w = .ok nx w1 ∧ Gives nx v ∧ R o.dst v w1
theorem At.act {P : Program} {n : Nat} {ops : Array Oper} {Q : Exit → Act → World → Prop} {k : Nat} {a : Act} {w : World} {l : List (Nat × Value)} (hf : Frm n a l) {R : Option Nat → Value → World → Prop} (h : ActOp P l ops.toList k w R)
    (next : ∀ d v w1, R d v w1 → ∃ l', putL n l d v = some l' ∧ ∀ a', Frm n a' l' → At P ops Q (k + 1) a' w1) : At P ops Q k a w := by
  obtain ⟨o, ho, hk, nx, v, w1, hr, hg, hR⟩ := h
  obtain ⟨l', hl, hn⟩ := next _ _ _ hR
  simp only [opOk, Bool.and_eq_true] at hk
  obtain ⟨⟨h1, h2⟩, h3⟩ := hk
  unfold At
  rw [drop_of_getElem? ho]
  unfold wpList
  split at h1
  · rename_i hwl
    rw [wantedL_sound hf hwl, if_pos rfl]
    exact .inl (oper_wp_of_gives (by rw [hf.exec h2 h3]; exact hr) hg (hn _ (hf.putL hl)))
  · simp at h1
theorem OneH.act {P : Program} {n : Nat} {ops : Array Oper} {Q : Exit → Act → World → Prop} {Cs : List (Addr × Value)} {fuel k : Nat} {li : Array Bool} {a : Act} {w : World} {l : List (Nat × Value)} (hf : Frm n a l) {R : Option Nat → Value → World → Prop} (li' : Array Bool) (hli : li.setIfInBounds k true = li')
    (h : ActOp P l ops.toList k w R)
    (next : ∀ d v w1, R d v w1 → ∃ l', putL n l d v = some l' ∧ ∀ a', Frm n a' l' → HoldsC Cs w1 ∧ AtH P ops Q Cs fuel li' a' w1) : OneH P ops Q Cs fuel li k a w := by
  obtain ⟨o, ho, hk, nx, v, w1, hr, hg, hR⟩ := h
  obtain ⟨l', hl, hn⟩ := next _ _ _ hR
  exact OneH.run hf ho hk li' hli hr hg hl hn
section
variable {α : Type} [Enc α] {P : Program} {l : List (Nat × Value)} {ops : List Oper} {k : Nat} {w : World} {S : Nat → Prop} {A X : Option Addr} {c m cc : Nat} {e : TypeId} {xs ys : List α} {d : Nat}
/-- What append leaves. -/
structure Appended (w : World) (S : Nat → Prop) (A : Option Addr) (e : TypeId) (zs : List α) (v : Value) (w1 : World) (A' : Option Addr) (c' : Nat) : Prop where
  val : v = .slice A' zs.length c'
  gr : w.grownBy w1 (obk A)
  at_ : A' = A ∨ A' = some ⟨w.heap.size, 0, none⟩
  own : ∀ S' : Nat → Prop, (∀ g, g < w.heap.size → S g → S' g) → S' w.heap.size → OwnR w1 S' A' c' e zs
theorem appendR {n t bytes : Nat} (hn : n = xs.length) (hm : m = ys.length) (ha : appAt l ops k = some (t, .slice A n c, .slice X m cc, some d)) {sz : Nat} (hsz : Enc.sz α = sz) (hok : elemOk P t e sz bytes = true) (h : OwnR w S A c e xs) (hs : SrcR w X ys)
    (hb : (xs.length + ys.length) * bytes ≤ 140737488355328) (h63 : xs.length + ys.length ≤ 9223372036854775807) : ActOp P l ops k w fun d' v w1 => d' = some d ∧ ∃ A' c', Appended w S A e (xs ++ ys) v w1 A' c' := by
  subst hn
  subst hm
  subst hsz
  cases ho : ops[k]? with
  | none => unfold appAt at ha; rw [ho] at ha; simp at ha
  | some o =>
    obtain ⟨hk, hdst, A', c', w', hr, hg, hA, hO⟩ := append_run (P := P) ho ha hok h (rows_len ys) hs (rows_one ys) hb (by simpa [maxLen] using h63)
    refine ⟨o, ho, hk, _, _, w', hr, .inl rfl, hdst, A', c', by rw [List.length_append], hg, hA, fun S' h1 h2 => ?_⟩
    have := hO S' h1 h2
    rw [rows_append] at this
    unfold OwnR
    rw [List.length_append]
    exact this
def makeAt (l : List (Nat × Value)) (ops : List Oper) (k : Nat) : Option (TypeId × Value × Value × Option Nat) :=
  match ops[k]? with
  | none => none
  | some o => match opOk l ops o, o.op with
    | true, .makeSlice t x y => some (t, rho l x, rho l y, o.dst)
    | _, _ => none
def zinfo (P : Program) (t : TypeId) : Option (TypeId × List Value × Nat × Nat) :=
  match P.underlying t with
  | some (.slice e) => match P.info? e with
    | some i => match i.zero with
      | some z => some (e, z.cells.toList, i.size, i.bytes)
      | none => none
    | none => none
  | _ => none
theorem zinfo_ok {P : Program} {t e : TypeId} {zs : List Value} {sz bytes : Nat} (h : zinfo P t = some (e, zs, sz, bytes)) : ∃ i z, P.underlying t = some (.slice e) ∧ P.info? e = some i ∧ i.zero = some z ∧ z.cells.toList = zs ∧ i.size = sz ∧ i.bytes = bytes := by
  unfold zinfo at h
  split at h
  · rename_i e' hu
    split at h
    · rename_i i hi
      split at h
      · rename_i z hz
        simp only [Option.some.injEq, Prod.mk.injEq] at h
        obtain ⟨rfl, rfl, rfl, rfl⟩ := h
        exact ⟨i, z, hu, hi, hz, rfl, rfl, rfl⟩
      · simp at h
    · simp at h
  · simp at h
theorem madeCells_rows (x : α) (z : Array Value) (hz : z.toList = Enc.enc x) (n : Nat) : (madeCells z (n * Enc.sz α)).toList = rows (List.replicate n x) := by
  have hp := Enc.pos (α := α)
  have hzs : z.size = Enc.sz α := by rw [← Enc.len x, ← hz]; simp
  refine List.ext_getElem? fun j => ?_
  by_cases hj : j < n * Enc.sz α
  · have hdm := Nat.div_add_mod j (Enc.sz α)
    have h1 : j / Enc.sz α < n := (Nat.div_lt_iff_lt_mul hp).2 hj
    have h2 : j % Enc.sz α < Enc.sz α := Nat.mod_lt _ hp
    have h3 := rows_get (List.replicate n x) (i := j / Enc.sz α) (q := j % Enc.sz α) (by simpa using h1) h2
    rw [show j / Enc.sz α * Enc.sz α + j % Enc.sz α = j by rw [Nat.mul_comm]; exact hdm] at h3
    rw [h3]
    have h4 : (List.replicate n x).getD (j / Enc.sz α) Enc.d = x := by simp [List.getD_eq_getElem?_getD, List.getElem?_replicate, h1]
    rw [h4, ← hz]
    have h5 : j % Enc.sz α < z.size := by omega
    simp only [madeCells, hzs, Array.toList_map, Array.toList_range, List.getElem?_map, List.getElem?_range hj, Option.map_some]
    rw [Array.getElem?_toList, Array.getElem?_eq_getElem h5]
    simp [h5]
  · rw [List.getElem?_eq_none (by simp [madeCells]; omega), List.getElem?_eq_none (by rw [rows_len]; simp; omega)]
theorem makeR {t bytes : Nat} {n cap : Int} {k1 k2 : IntKind} (x : α) (ha : makeAt l ops k = some (t, .int k1 n, .int k2 cap, some d)) {sz : Nat} (hsz : Enc.sz α = sz) (hok0 : zinfo P t = some (e, Enc.enc x, sz, bytes)) (h0 : 0 ≤ n) (h1 : n ≤ cap) (hb : (bytes : Int) * cap ≤ 281474976710656) (hc : cap ≤ 9223372036854775807) :
    ActOp P l ops k w fun d' v w1 => d' = some d ∧ v = .slice (some ⟨w.heap.size, 0, none⟩) (List.replicate n.toNat x).length cap.toNat ∧ w.grownBy w1 none ∧ ∀ S : Nat → Prop, S w.heap.size → OwnR w1 S (some ⟨w.heap.size, 0, none⟩) cap.toNat e (List.replicate n.toNat x) := by
  subst hsz
  obtain ⟨i, z, ht, hi, hz, hzs, hsi, hby⟩ := zinfo_ok hok0
  unfold makeAt at ha
  cases ho : ops[k]? with
  | none => rw [ho] at ha; simp at ha
  | some o =>
    rw [ho] at ha
    simp only at ha
    split at ha
    · rename_i t' a b hok' hop
      simp only [Option.some.injEq, Prod.mk.injEq] at ha
      obtain ⟨rfl, ha1, ha2, hd⟩ := ha
      have hr := run_make (P := P) w t' e i z ht hi hz k1 k2 n cap h0 h1 (by rw [hby]; exact hb) hc
      refine ⟨o, ho, hok', .value (.slice (some ⟨w.heap.size, 0, none⟩) n.toNat cap.toNat), _, w.alloc (.cells (madeCells z.cells (cap.toNat * i.size)) e), ?_, .inl rfl, hd, by simp, World.grownBy_alloc w _ none, fun S hS => ?_⟩
      · simp only [execOp, hop, ha1, ha2]
        simp [hr]
      · have hnc : n.toNat ≤ cap.toNat := by omega
        refine ⟨rows_len _, .inr ⟨_, 0, _, rfl, hS, heap_alloc_new w _, by simpa using hnc, by simp only [maxLen]; omega, ?_, ?_⟩⟩
        · rw [hsi]
          simp [size_madeCells]
        · rw [hsi, List.drop_zero, madeCells_rows x z.cells hzs, rows_take]
          simp [List.take_replicate, Nat.min_eq_left hnc]
    · simp at ha
def storeOkX (P : Program) (t : TypeId) (vs : List Value) : Bool := (match P.info? t with | some i => Nat.beq i.size vs.length | none => false) && vs.all oneC
theorem own_store {n sz : Nat} {us : List Value} (h : Own w S A n c e sz us) {i q : Nat} (hi : i < n) (vs : List Value) (hq : q + vs.length ≤ sz) (hone : ∀ v ∈ vs, oneC v = true) {ad : Addr} (hA : A = some ad) :
    ∃ w1, (storeCells ((ad.add (i * sz)).add q) vs 0).run P w = .ok () w1 ∧ w.grownBy w1 (obk A) ∧ Own w1 S A n c e sz (us.take (i * sz + q) ++ vs ++ us.drop (i * sz + q + vs.length)) := by
  rcases h.2 with ⟨rfl, rfl, _⟩ | ⟨g, o, cur, rfl, hS, hg, hn, hc, hcs, ht⟩
  · omega
  · injection hA with hA
    subst hA
    have e1 : ((⟨g, o, none⟩ : Addr).add (i * sz)).add q = ⟨g, o + (i * sz + q), none⟩ := by
      rw [add_plain_o, add_plain_o, Nat.add_assoc]
    rw [e1]
    have hbx : Bx w g cur.toList e := by
      unfold Bx
      rw [hg]
    have hfit1 : i * sz + q + vs.length ≤ n * sz := by
      have : (i + 1) * sz ≤ n * sz := Nat.mul_le_mul_right _ hi
      rw [Nat.add_mul] at this
      omega
    have hfit2 : n * sz ≤ c * sz := Nat.mul_le_mul_right _ hn
    obtain ⟨w1, hr, hgr, hb⟩ := run_storeCells (P := P) vs (o + (i * sz + q)) 0 hbx (by simp only [Array.length_toList]; omega) hone
    simp only [Nat.add_zero] at hb
    refine ⟨w1, hr, hgr, ?_, .inr ⟨g, o, _, rfl, hS, hb, hn, hc, ?_, ?_⟩⟩
    · simp only [List.length_append, List.length_take, List.length_drop, h.1]
      omega
    · simp only [List.size_toArray, List.length_append, List.length_take, List.length_drop, Array.length_toList]
      omega
    · rw [← ht]
      refine List.ext_getElem? fun j => ?_
      simp only [List.getElem?_take, List.getElem?_append, List.length_append, List.length_take, List.length_drop, Array.length_toList, List.getElem?_drop]
      repeat' split
      all_goals first | rfl | omega | (congr 1; omega) | skip
theorem storeR {t : TypeId} {i : Int} {ad : Addr} {v : Value} (x : α) {sz : Nat} (ha : storeAtL l ops k = some (t, .pointer (some (ad.add (i.toNat * sz))), v)) (hsz : Enc.sz α = sz) (hv : v.cells.toList = Enc.enc x) (hok : storeOkX P t (Enc.enc x) = true) (hA : A = some ad) (h : OwnR w S A c e xs) (h0 : 0 ≤ i) (h1 : i < (xs.length : Int)) :
    ActOp P l ops k w fun d' v' w1 => d' = none ∧ w.grownBy w1 (obk A) ∧ OwnR w1 S A c e (xs.set i.toNat x) := by
  subst hsz
  have hlt : i.toNat < xs.length := by omega
  unfold storeAtL at ha
  cases ho : ops[k]? with
  | none => rw [ho] at ha; simp at ha
  | some o =>
    rw [ho] at ha
    simp only at ha
    split at ha
    · rename_i t' a b hok' hop hdst
      simp only [Option.some.injEq, Prod.mk.injEq] at ha
      obtain ⟨rfl, ha1, ha2⟩ := ha
      simp only [storeOkX, Bool.and_eq_true] at hok
      obtain ⟨hk1, hk2⟩ := hok
      split at hk1
      · rename_i inf hinf
        have hk1 : inf.size = (Enc.enc x).length := by simpa using hk1
        obtain ⟨w1, hr, hgr, hO⟩ := own_store (P := P) h hlt (Enc.enc x) (q := 0) (by rw [Enc.len]; omega) (fun u hu => List.all_eq_true.1 hk2 u hu) hA
        rw [add_zero] at hr
        refine ⟨o, ho, hok', .skip, undef, w1, ?_, .inr ⟨rfl, rfl⟩, hdst, hgr, ?_⟩
        · have hsz : v.cells.size = inf.size := by rw [hk1, ← hv]; simp
          simp only [execOp, hop, ha1, ha2, Instr.storeAt, Instr.sureAddr]
          simp [storeVar, sizeOf, typeInfo, hinf, hsz, hv, hr]
        · unfold OwnR
          rw [rows_set xs hlt, List.length_set]
          rw [Enc.len] at hO
          exact hO
      · simp at hk1
    · simp at ha
theorem OwnR.take (h : OwnR w S A c e xs) (k : Nat) (hk : k ≤ xs.length) : OwnR w S A c e (xs.take k) := by
  refine ⟨rows_len _, ?_⟩
  have hl : (xs.take k).length = k := by rw [List.length_take]; omega
  rw [hl]
  rcases h.2 with ⟨rfl, h2, rfl⟩ | ⟨g, o, cur, rfl, hS, hg, hn, hc, hcs, ht⟩
  · exact .inl ⟨rfl, by omega, rfl⟩
  · refine .inr ⟨g, o, cur, rfl, hS, hg, by omega, hc, hcs, ?_⟩
    rw [← rows_take, ← ht, List.take_take, Nat.min_eq_left (Nat.mul_le_mul_right _ hk)]
/-- From an element on: l[k:]. -/
theorem OwnR.drop (h : OwnR w S A c e xs) (k : Nat) (hk : k ≤ xs.length) {sz : Nat} (hsz : Enc.sz α = sz) : OwnR w S (if c = k then A else A.map (fun a : Addr => a.add (k * sz))) (c - k) e (xs.drop k) := by
  subst hsz
  have hcap := h.cap
  have hl : (xs.drop k).length = xs.length - k := List.length_drop
  by_cases hck : c = k
  · have hx : xs.drop k = [] := List.drop_of_length_le (by omega)
    rw [if_pos hck, hx]
    refine ⟨by simp [rows], ?_⟩
    rcases h.2 with ⟨rfl, h2, rfl⟩ | ⟨g, o, cur, rfl, hS, hg, hn, hc, hcs, ht⟩
    · exact .inl ⟨rfl, rfl, by omega⟩
    · refine .inr ⟨g, o, cur, rfl, hS, hg, by simp, by omega, ?_, by simp [rows]⟩
      have : (c - k) * Enc.sz α = 0 := by rw [hck, Nat.sub_self, Nat.zero_mul]
      omega
  · rw [if_neg hck]
    refine ⟨rows_len _, ?_⟩
    rw [hl]
    rcases h.2 with ⟨rfl, h2, rfl⟩ | ⟨g, o, cur, rfl, hS, hg, hn, hc, hcs, ht⟩
    · exact absurd (by omega) hck
    · have h8 : (c - k) * Enc.sz α + k * Enc.sz α = c * Enc.sz α := by rw [← Nat.add_mul]; congr 1; omega
      refine .inr ⟨g, o + k * Enc.sz α, cur, by simp [add_plain_o], hS, hg, by omega, by omega, by omega, ?_⟩
      rw [← rows_drop, ← ht, List.drop_take, List.drop_drop, ← Nat.sub_mul]
theorem obk_drop {A : Option Addr} {c k j : Nat} : obk (if c = k then A else A.map (fun a : Addr => a.add j)) = obk A := by
  split
  · rfl
  · cases A with
    | none => rfl
    | some a => simp [obk, add_block]
end
end Go.Proofs.YtkkophhnliplhaaDoor
