/-
  The frame of the walks: rows that the call itself makes; elements as cells; arrays in blocks. Conditions: none; plain lemmas, over any program.
-/
import Derived.Test.YtklbpajmoklheaaFy
import Derived.Laws.MakeOwn
set_option linter.unusedVariables false
namespace Go.Proofs.Ytklbpajmoklheaa
open Go Go.RowKit

def obk (A : Option Addr) : Option Nat := A.map (·.block)
/-- Block numbers of which T holds, that are none of os. -/
def SxP (T : Nat → Prop) : List (Option Nat) → Nat → Prop
  | [], g => T g
  | o :: os, g => o ≠ some g ∧ SxP T os g
/-- Block numbers from base on that are none of os. -/
abbrev Sx (base : Nat) : List (Option Nat) → Nat → Prop := SxP (fun g => base ≤ g)
theorem Sx_base {base : Nat} : ∀ {os : List (Option Nat)} {g : Nat}, Sx base os g → base ≤ g
  | [], _, h => h
  | _ :: _, _, h => Sx_base h.2
/-- The slice (A, n, c), of elements of type e of sz cells, is the call's own and holds the cells xs. -/
def Own (w : World) (S : Nat → Prop) (A : Option Addr) (n c : Nat) (e : TypeId) (sz : Nat) (xs : List Value) : Prop :=
  xs.length = n * sz ∧ ((A = none ∧ n = 0 ∧ c = 0) ∨
    ∃ g o cur, A = some ⟨g, o, none⟩ ∧ S g ∧ w.heap[g]? = some (.cells cur e (0, 0)) ∧ n ≤ c ∧ c ≤ maxLen ∧ o + c * sz ≤ cur.size ∧ (cur.toList.drop o).take (n * sz) = xs)
theorem Own.nil {w : World} {S : Nat → Prop} {e : TypeId} {sz : Nat} : Own w S none 0 0 e sz [] := ⟨by simp, .inl ⟨rfl, rfl, rfl⟩⟩
theorem add_plain_o (g o j : Nat) : (⟨g, o, none⟩ : Addr).add j = ⟨g, o + j, none⟩ := by unfold Addr.add; split <;> simp_all
theorem add_plain (g j : Nat) : (⟨g, 0, none⟩ : Addr).add j = ⟨g, j, none⟩ := by unfold Addr.add; split <;> simp_all
section
variable {w : World} {S : Nat → Prop} {A : Option Addr} {n c : Nat} {e : TypeId} {sz : Nat} {xs : List Value}
theorem Own.lt (h : Own w S A n c e sz xs) : ∀ k, obk A = some k → k < w.heap.size := by
  intro k hk
  rcases h.2 with ⟨rfl, _⟩ | ⟨g, o, cur, rfl, _, hg, _⟩
  · simp [obk] at hk
  · simp [obk] at hk
    subst hk
    exact (Array.getElem?_eq_some_iff.1 hg).1
theorem Own.inS (h : Own w S A n c e sz xs) : ∀ k, obk A = some k → S k := by
  intro k hk
  rcases h.2 with ⟨rfl, _⟩ | ⟨g, o, cur, rfl, hS, hg, _⟩
  · simp [obk] at hk
  · simp [obk] at hk
    subst hk
    exact hS
theorem Own.ge {base : Nat} {os : List (Option Nat)} (h : Own w (Sx base os) A n c e sz xs) : ∀ k, obk A = some k → base ≤ k := fun k hk => Sx_base (h.inS k hk)
theorem Own.ne_new (h : Own w S A n c e sz xs) : obk A ≠ some w.heap.size := fun e => by have := h.lt _ e; omega
theorem Own.cap (h : Own w S A n c e sz xs) : n ≤ c := by
  rcases h.2 with ⟨_, rfl, rfl⟩ | ⟨g, o, cur, rfl, hS, hg, hn, _⟩
  · omega
  · exact hn
theorem Own.imp {S' : Nat → Prop} (h : Own w S A n c e sz xs) (hi : ∀ g, g < w.heap.size → S g → S' g) : Own w S' A n c e sz xs := by
  refine ⟨h.1, ?_⟩
  rcases h.2 with h2 | ⟨g, o, cur, hA, hS, hg, r⟩
  · exact .inl h2
  · exact .inr ⟨g, o, cur, hA, hi g (Array.getElem?_eq_some_iff.1 hg).1 hS, hg, r⟩
theorem Own.gr {w1 : World} {row : Option Nat} (h : Own w S A n c e sz xs) (g : w.grownBy w1 row) (hr : ∀ k, S k → row ≠ some k) : Own w1 S A n c e sz xs := by
  refine ⟨h.1, ?_⟩
  rcases h.2 with h2 | ⟨b, o, cur, hA, hS, hg, r⟩
  · exact .inl h2
  · exact .inr ⟨b, o, cur, hA, hS, by rw [g.block b (Array.getElem?_eq_some_iff.1 hg).1 (fun e => hr b hS e.symm)]; exact hg, r⟩
/-- A block that is not there yet is none of the row's. -/
theorem Own.add {base b : Nat} {os : List (Option Nat)} (h : Own w (Sx base os) A n c e sz xs) (hb : w.heap.size ≤ b) : Own w (Sx base (some b :: os)) A n c e sz xs :=
  h.imp (fun g hg hs => ⟨fun e => by injection e; omega, hs⟩)
theorem Own.get (h : Own w S A n c e sz xs) {i q : Nat} (hi : i < n) (hq : q < sz) {v : Value} (hv : xs[i * sz + q]? = some v) : ∃ ad, A = some ad ∧ S ad.block ∧ ad.block < w.heap.size ∧ w.cell? ((ad.add (i * sz)).add q) = some v := by
  rcases h.2 with ⟨rfl, rfl, _⟩ | ⟨g, o, cur, rfl, hS, hg, hn, hc, hcs, ht⟩
  · omega
  · refine ⟨_, rfl, hS, (Array.getElem?_eq_some_iff.1 hg).1, ?_⟩
    have e1 : ((⟨g, o, none⟩ : Addr).add (i * sz)).add q = ⟨g, o + (i * sz + q), none⟩ := by
      rw [add_plain_o, add_plain_o, Nat.add_assoc]
    rw [e1]
    rw [← ht, List.getElem?_take] at hv
    split at hv
    · simp only [World.cell?, hg]
      simpa using hv
    · cases hv
end
theorem run_firstCells_opt {P : Program} (w : World) (size m c : Nat) (X : Option Addr) (news : List Value) (hl : news.length = m * size) (hnews : ∀ j u, news[j]? = some u → ∃ ad, X = some ad ∧ w.cell? (ad.add j) = some u) :
    (Builtin.firstCells size m (.slice X m c)).run P w = .ok news.toArray w := by
  cases X with
  | none =>
    have hn : news = [] := by
      cases news with
      | nil => rfl
      | cons u r =>
        obtain ⟨ad, h, _⟩ := hnews 0 u rfl
        cases h
    subst hn
    rfl
  | some ad => exact run_firstCells_some (P := P) w size m ad m c news hl (fun j u hu => by
      obtain ⟨ad', h, hc⟩ := hnews j u hu
      injection h with h
      subst h
      exact hc)
theorem run_append_room_o {P : Program} {w : World} (t ty e : TypeId) (i : TypeInfo) (ht : P.underlying t = some (.slice e)) (hi : P.info? e = some i)
    (g o sLen sCap : Nat) (cur : Array Value) (hg : w.heap[g]? = some (.cells cur e (0, 0)))
    (a : Addr) (m c : Nat) (news : List Value) (hl : news.length = m * i.size) (hnews : ∀ j u, news[j]? = some u → w.cell? (a.add j) = some u) (h1 : ∀ u ∈ news, u.oneCell' = true)
    (hroom : sLen + m ≤ sCap) (hfit : o + sLen * i.size + news.length ≤ cur.size) :
    (Builtin.append_ #[t, t] ty #[.slice (some ⟨g, o, none⟩) sLen sCap, .slice (some a) m c]).run P w =
      .ok (.slice (some ⟨g, o, none⟩) (sLen + m) sCap) (w.setRow g (cur.toList.take (o + sLen * i.size) ++ news ++ cur.toList.drop (o + sLen * i.size + news.length)).toArray) := by
  have hf := run_firstCells_some (P := P) w i.size m a m c news hl hnews
  have hst := run_storeCells_at P g (o + sLen * i.size) e news 0 cur w hg (by simpa using hfit) h1
  simp only [Nat.add_zero] at hst
  simp [Builtin.append_, run_underlying ht, sizeOf, typeInfo, hi, Builtin.lenOf, hroom, hf, Addr.add_lit, hst]
theorem own_append {P : Program} {w : World} {S : Nat → Prop} {A : Option Addr} {n c : Nat} {e : TypeId} {sz : Nat} {xs : List Value} (t ty : TypeId) {i : TypeInfo} {z : Value} {bytes : Nat}
    (ht : P.underlying t = some (.slice e)) (hi : P.info? e = some i) (hz : i.zero = some z) (hsize : i.size = sz) (hby : i.bytes = bytes) (hzs : z.cells.size = sz) (hsz : 0 < sz)
    (h : Own w S A n c e sz xs) (X : Option Addr) (m cc : Nat) (news : List Value) (hl : news.length = m * sz) (hnews : ∀ j u, news[j]? = some u → ∃ ad, X = some ad ∧ w.cell? (ad.add j) = some u) (h1 : ∀ u ∈ news, oneC u = true)
    (hb : (n + m) * bytes ≤ 140737488355328) (h63 : n + m ≤ maxLen) :
    ∃ A' c' w', (Builtin.append_ #[t, t] ty #[.slice A n c, .slice X m cc]).run P w = .ok (.slice A' (n + m) c') w' ∧ w.grownBy w' (obk A) ∧ (A' = A ∨ A' = some ⟨w.heap.size, 0, none⟩) ∧
      (∀ S' : Nat → Prop, (∀ g, g < w.heap.size → S g → S' g) → S' w.heap.size → Own w' S' A' (n + m) c' e sz (xs ++ news)) := by
  subst hsize
  subst hby
  have hone : ∀ u ∈ news, u.oneCell' = true := fun u hu => by have := h1 u hu; cases u <;> first | rfl | (simp [oneC] at this)
  have hsmall : n + m ≤ 9223372036854775807 := by simp only [maxLen] at h63; omega
  have hlen : (xs ++ news).length = (n + m) * i.size := by rw [List.length_append, h.1, hl, Nat.add_mul]
  have hnews' : ∀ {ad : Addr}, X = some ad → ∀ j u, news[j]? = some u → w.cell? (ad.add j) = some u := fun {ad} hX j u hu => by
    obtain ⟨ad', h', hc⟩ := hnews j u hu
    rw [hX] at h'
    injection h' with h'
    subst h'
    exact hc
  have grown : ∀ (old : Nat), old < n + m → ∀ row, w.grownBy (w.drew.alloc (.cells (xs.toArray ++ news.toArray ++ Builtin.zeroCells z.cells (grownCap w (n + m) old e - (n + m))) e)) row ∧
      ∀ S' : Nat → Prop, S' w.heap.size → Own (w.drew.alloc (.cells (xs.toArray ++ news.toArray ++ Builtin.zeroCells z.cells (grownCap w (n + m) old e - (n + m))) e)) S' (some ⟨w.heap.size, 0, none⟩) (n + m) (grownCap w (n + m) old e) e i.size (xs ++ news) := by
    intro old ho row
    have hge := grownCap_ge w (n + m) old e
    have hcm : grownCap w (n + m) old e ≤ maxLen := grownCap_le_maxLen w (n + m) old e h63
    refine ⟨⟨rfl, rfl, rfl, by simp, fun k hk _ => heap_alloc_old w.drew _ hk⟩, fun S' hS' => ⟨hlen, .inr ⟨w.heap.size, 0, _, rfl, hS', heap_alloc_new w.drew _, hge, hcm, ?_, ?_⟩⟩⟩
    · simp only [Array.size_append, List.size_toArray, size_zeroCells, hzs, h.1, hl, ← Nat.add_mul]
      rw [Nat.zero_add]
      refine Nat.le_of_eq ?_
      congr 1
      omega
    · rw [List.drop_zero]
      simp only [Array.toList_append, List.append_assoc]
      rw [← List.append_assoc, ← hlen]
      exact List.take_left
  by_cases hm : m = 0
  · subst hm
    have hn : news = [] := List.eq_nil_of_length_eq_zero (by simpa using hl)
    subst hn
    have hcap := h.cap
    refine ⟨A, c, w, ?_, gr_refl w _, .inl rfl, fun S' hS' _ => by simpa using h.imp hS'⟩
    have hf := run_firstCells_opt (P := P) w i.size 0 cc X [] (by simp) (by simp)
    cases A with
    | none => simp [Builtin.append_, run_underlying ht, sizeOf, typeInfo, hi, Builtin.lenOf, hcap, hf]
    | some a => simp [Builtin.append_, run_underlying ht, sizeOf, typeInfo, hi, Builtin.lenOf, hcap, hf, storeCells]
  · obtain ⟨ad, hX⟩ : ∃ ad, X = some ad := by
      cases news with
      | nil => exact absurd (Nat.mul_pos (by omega : 0 < m) hsz) (by rw [← hl]; simp)
      | cons u r => exact let ⟨ad, h', _⟩ := hnews 0 u rfl; ⟨ad, h'⟩
    subst hX
    rcases h.2 with ⟨rfl, rfl, rfl⟩ | ⟨g, o, cur, rfl, hS, hg, hnc, hcm, hcs, htake⟩
    · have hx : xs = [] := List.eq_nil_of_length_eq_zero (by simpa using h.1)
      subst hx
      have hr := run_append_nil (P := P) w t ty e i z ht hi hz ad m cc news hl (hnews' rfl) (by omega) (by omega) (by have hb := hb; simp only [Nat.zero_add] at hb; omega)
      have hgr := grown 0 (by omega) (obk none)
      simp only [Nat.zero_add, List.nil_append, Array.empty_append] at hgr ⊢
      exact ⟨_, _, _, hr, hgr.1, .inr rfl, fun S' _ hS' => hgr.2 S' hS'⟩
    · by_cases hroom : n + m ≤ c
      · have hfit : o + n * i.size + news.length ≤ cur.size := by
          have h5 : (n + m) * i.size ≤ c * i.size := Nat.mul_le_mul_right _ hroom
          rw [Nat.add_mul] at h5
          omega
        have hr := run_append_room_o (P := P) t ty e i ht hi g o n c cur hg ad m cc news hl (hnews' rfl) hone hroom hfit
        have hgr : w.grownBy (w.setRow g (cur.toList.take (o + n * i.size) ++ news ++ cur.toList.drop (o + n * i.size + news.length)).toArray) (some g) := ⟨rfl, rfl, rfl, by simp, fun k _ hk => setRow_other w g k _ (fun e => hk (by rw [e]))⟩
        refine ⟨_, _, _, hr, hgr, .inl rfl, fun S' hS' _ => ⟨hlen, .inr ⟨g, o, _, rfl, hS' g (Array.getElem?_eq_some_iff.1 hg).1 hS, setRow_heap w g cur _ e _ hg, hroom, hcm, ?_, ?_⟩⟩⟩
        · simp only [List.size_toArray, List.length_append, List.length_take, List.length_drop, Array.length_toList]
          omega
        · have hcl : cur.toList.length = cur.size := Array.length_toList
          have h6 : (cur.toList.take (o + n * i.size)).length = o + n * i.size := by rw [List.length_take, hcl]; omega
          have h7 : (cur.toList.take (o + n * i.size)).drop o = xs := by
            rw [← htake, List.drop_take, show o + n * i.size - o = n * i.size by omega]
          rw [List.append_assoc, List.drop_append_of_le_length (by rw [h6]; omega), h7, ← List.append_assoc, ← hlen]
          exact List.take_left
      · have holds : ∀ j u, xs[j]? = some u → w.cell? ((⟨g, o, none⟩ : Addr).add j) = some u := fun j u hu => by
          rw [add_plain_o]
          rw [← htake, List.getElem?_take] at hu
          split at hu
          · simp only [World.cell?, hg]
            simpa using hu
          · cases hu
        have hr := run_append_grow (P := P) w t ty e i z ht hi hz ⟨g, o, none⟩ n c xs h.1 holds ad m cc news hl (hnews' rfl) (by omega) (by omega) (growslice_fits (by omega) hb)
        have hgr := grown c (by omega) (some g)
        exact ⟨_, _, _, hr, hgr.1, .inr rfl, fun S' _ hS' => hgr.2 S' hS'⟩
/-! ### append as an operation -/
def appAt (l : List (Nat × Value)) (ops : List Oper) (k : Nat) : Option (TypeId × Value × Value × Option Nat) :=
  match ops[k]? with
  | none => none
  | some o => match opOk l ops o, o.op with
    | true, .call ⟨.builtin .append, args, tys⟩ => match args.toList, tys.toList with
      | [x, y], [t, t'] => if Nat.beq t t' = true then some (t, rho l x, rho l y, o.dst) else none
      | _, _ => none
    | _, _ => none
/-- What is asked of the element's type. -/
def elemOk (P : Program) (t e : TypeId) (sz bytes : Nat) : Bool :=
  (match P.underlying t with | some (.slice e') => Nat.beq e e' | _ => false) && (match P.info? e with | some i => (match i.zero with | some z => Nat.beq z.cells.toList.length sz | none => false) && Nat.beq i.size sz && Nat.beq i.bytes bytes | none => false) && Nat.blt 0 sz
theorem append_run {P : Program} {l : List (Nat × Value)} {ops : List Oper} {k : Nat} {o : Oper} (ho : ops[k]? = some o) {w : World} {S : Nat → Prop} {A X : Option Addr} {n c m cc : Nat} {t e : TypeId} {sz bytes : Nat} {xs news : List Value} {d : Option Nat}
    (ha : appAt l ops k = some (t, .slice A n c, .slice X m cc, d)) (hok : elemOk P t e sz bytes = true) (h : Own w S A n c e sz xs) (hl : news.length = m * sz) (hnews : ∀ j u, news[j]? = some u → ∃ ad, X = some ad ∧ w.cell? (ad.add j) = some u) (h1 : ∀ u ∈ news, oneC u = true)
    (hb : (n + m) * bytes ≤ 140737488355328) (h63 : n + m ≤ maxLen) :
    opOk l ops o = true ∧ o.dst = d ∧ ∃ A' c' w', (execOp (rho l) o).run P w = .ok (.value (.slice A' (n + m) c')) w' ∧ w.grownBy w' (obk A) ∧ (A' = A ∨ A' = some ⟨w.heap.size, 0, none⟩) ∧
      (∀ S' : Nat → Prop, (∀ g, g < w.heap.size → S g → S' g) → S' w.heap.size → Own w' S' A' (n + m) c' e sz (xs ++ news)) := by
  unfold appAt at ha
  rw [ho] at ha
  simp only at ha
  split at ha
  · rename_i args tys hok' hop
    split at ha
    · rename_i x y t1 t2 hargs htys
      split at ha
      · rename_i htt
        simp only [Option.some.injEq, Prod.mk.injEq] at ha
        obtain ⟨rfl, hx, hy, hd⟩ := ha
        have htt : t1 = t2 := by simpa using htt
        subst htt
        simp only [elemOk, Bool.and_eq_true] at hok
        obtain ⟨⟨k1, k2⟩, k3⟩ := hok
        split at k1
        · rename_i e' hu
          have k1 : e = e' := by simpa using k1
          subst k1
          split at k2
          · rename_i i hi
            simp only [Bool.and_eq_true] at k2
            obtain ⟨⟨k4, k5⟩, k6⟩ := k2
            split at k4
            · rename_i z hz
              obtain ⟨A', c', w', hr, hg, hA, hO⟩ := own_append (P := P) t1 o.type hu hi hz (by simpa using k5) (by simpa using k6) (by simpa using k4) (by simpa using k3) h X m cc news hl hnews h1 hb h63
              refine ⟨hok', hd, A', c', w', ?_, hg, hA, hO⟩
              have ea : args = #[x, y] := by cases args; simp_all
              have et : tys = #[t1, t1] := by cases tys; simp_all
              subst ea
              subst et
              unfold execOp
              simp only [hop, resolve, invoke, builtin, Sem.run_bind, Sem.run_pure, Result.andThen_ok, List.map_toArray, List.map_cons, List.map_nil, hx, hy, hr]
            · simp at k4
          · simp at k2
        · simp at k1
      · simp at ha
    · simp at ha
  · simp at ha
theorem At.append {P : Program} {n0 : Nat} {ops : Array Oper} {Q : Exit → Act → World → Prop} {k : Nat} {a : Act} {w : World} {l : List (Nat × Value)} (hf : Frm n0 a l) {S : Nat → Prop} {A X : Option Addr} {n c m cc : Nat} {t e : TypeId} {sz bytes : Nat} {xs news : List Value} {d : Nat}
    (ha : appAt l ops.toList k = some (t, .slice A n c, .slice X m cc, some d)) (hok : elemOk P t e sz bytes = true) (hd : Nat.blt d n0 = true) (h : Own w S A n c e sz xs) (hl : news.length = m * sz) (hnews : ∀ j u, news[j]? = some u → ∃ ad, X = some ad ∧ w.cell? (ad.add j) = some u) (h1 : ∀ u ∈ news, oneC u = true)
    (hb : (n + m) * bytes ≤ 140737488355328) (h63 : n + m ≤ maxLen)
    (next : ∀ a' w1 A' c', w.grownBy w1 (obk A) → (A' = A ∨ A' = some ⟨w.heap.size, 0, none⟩) → (∀ S' : Nat → Prop, (∀ g, g < w.heap.size → S g → S' g) → S' w.heap.size → Own w1 S' A' (n + m) c' e sz (xs ++ news)) →
      Frm n0 a' ((d, .slice A' (n + m) c') :: l) → At P ops Q (k + 1) a' w1) : At P ops Q k a w := by
  cases ho : ops.toList[k]? with
  | none => unfold appAt at ha; rw [ho] at ha; simp at ha
  | some o =>
    obtain ⟨hk, hdst, A', c', w', hr, hg, hA, hO⟩ := append_run (P := P) ho ha hok h hl hnews h1 hb h63
    exact At.run hf ho hk hr (l' := (d, .slice A' (n + m) c') :: l) (by rw [hdst]; simp only [putL]; rw [if_pos hd]) (fun a' hf' => next a' w' A' c' hg hA hO hf')
theorem OneH.append {P : Program} {n0 : Nat} {ops : Array Oper} {Q : Exit → Act → World → Prop} {Cs : List (Addr × Value)} {fuel k : Nat} {li : Array Bool} {a : Act} {w : World} {l : List (Nat × Value)} (hf : Frm n0 a l) {S : Nat → Prop} {A X : Option Addr} {n c m cc : Nat} {t e : TypeId} {sz bytes : Nat} {xs news : List Value} {d : Nat} (li' : Array Bool) (hli : li.setIfInBounds k true = li')
    (ha : appAt l ops.toList k = some (t, .slice A n c, .slice X m cc, some d)) (hok : elemOk P t e sz bytes = true) (hd : Nat.blt d n0 = true) (h : Own w S A n c e sz xs) (hl : news.length = m * sz) (hnews : ∀ j u, news[j]? = some u → ∃ ad, X = some ad ∧ w.cell? (ad.add j) = some u) (h1 : ∀ u ∈ news, oneC u = true)
    (hb : (n + m) * bytes ≤ 140737488355328) (h63 : n + m ≤ maxLen)
    (next : ∀ a' w1 A' c', w.grownBy w1 (obk A) → (A' = A ∨ A' = some ⟨w.heap.size, 0, none⟩) → (∀ S' : Nat → Prop, (∀ g, g < w.heap.size → S g → S' g) → S' w.heap.size → Own w1 S' A' (n + m) c' e sz (xs ++ news)) →
      Frm n0 a' ((d, .slice A' (n + m) c') :: l) → HoldsC Cs w1 ∧ AtH P ops Q Cs fuel li' a' w1) : OneH P ops Q Cs fuel li k a w := by
  cases ho : ops.toList[k]? with
  | none => unfold appAt at ha; rw [ho] at ha; simp at ha
  | some o =>
    obtain ⟨hk, hdst, A', c', w', hr, hg, hA, hO⟩ := append_run (P := P) ho ha hok h hl hnews h1 hb h63
    exact OneH.run hf ho hk li' hli hr (.inl rfl) (l' := (d, .slice A' (n + m) c') :: l) (by rw [hdst]; simp only [putL]; rw [if_pos hd]) (fun a' hf' => next a' w' A' c' hg hA hO hf')
theorem HoldsC.grO {Cs : List (Addr × Value)} {w w1 : World} {row : Option Nat} (h : HoldsC Cs w) (g : w.grownBy w1 row) (hne : AllP (Cs.map fun p => row ≠ some p.1.block)) : HoldsC Cs w1 :=
  AllP_map (fun p hp hc => g.cell hc (fun e => AllP_mem hne p hp e.symm)) h
theorem Own.neb {w : World} {S : Nat → Prop} {A : Option Addr} {n c : Nat} {e : TypeId} {sz : Nat} {xs : List Value} (h : Own w S A n c e sz xs) {b : Nat} (hb : ∀ g, S g → some b ≠ some g) : obk A ≠ some b := fun e => hb b (h.inS b e) rfl
theorem own_repl {w : World} {A1 A1' : Option Addr} (hA : A1' = A1 ∨ A1' = some ⟨w.heap.size, 0, none⟩) {g : Nat} (h : obk A1 ≠ some g) (hg : g < w.heap.size) : obk A1' ≠ some g := by
  rcases hA with rfl | rfl
  · exact h
  · intro e
    simp [obk] at e
    omega
theorem slice_len {A : Option Addr} {n n' c : Nat} (h : n = n') : (.slice A n c : Value) = .slice A n' c := by rw [h]

/-! ### Values in rows -/
def ints (l : List Int) : List Value := l.map (Value.int .i64)
theorem ints_length (l : List Int) : (ints l).length = l.length := by simp [ints]
theorem ints_append (l r : List Int) : ints l ++ ints r = ints (l ++ r) := by simp [ints]
theorem ints_get {l : List Int} {j : Nat} (h : j < l.length) : (ints l)[j]? = some (.int .i64 (l.getD j 0)) := by
  simp [ints, List.getElem?_map, List.getElem?_eq_getElem h, List.getD_eq_getElem?_getD]
theorem ints_one (l : List Int) : ∀ u ∈ ints l, oneC u = true := by
  intro u hu
  simp only [ints, List.mem_map] at hu
  obtain ⟨x, _, rfl⟩ := hu
  rfl
theorem Own.ints_len {w : World} {S : Nat → Prop} {A : Option Addr} {n c : Nat} {e : TypeId} {l : List Int} (h : Own w S A n c e 1 (ints l)) : l.length = n := by
  have := h.1
  rw [ints_length] at this
  omega
theorem Own.rdI {w : World} {base : Nat} {os : List (Option Nat)} {A : Option Addr} {n c : Nat} {e : TypeId} {l : List Int} (h : Own w (Sx base os) A n c e 1 (ints l)) (hl : l.length * 8 ≤ 140737488351232) : RdI w base w.heap.size A l := by
  have hn := h.ints_len
  refine ⟨hl, fun i q hi hq => ?_⟩
  obtain rfl : q = 0 := by omega
  obtain ⟨ad, hA, hS, hlt, hc⟩ := h.get (i := i) (q := 0) (by omega) (by omega) (v := .int .i64 (l.getD i 0)) (by rw [show i * 1 + 0 = i by omega]; exact ints_get hi)
  exact ⟨ad, hA, Sx_base hS, hlt, hc⟩
theorem RdI.src {w : World} {lo hi : Nat} {A : Option Addr} {l : List Int} (h : RdI w lo hi A l) : ∀ j u, (ints l)[j]? = some u → ∃ ad, A = some ad ∧ w.cell? (ad.add j) = some u := by
  intro j u hu
  have hj : j < l.length := by
    have := (List.getElem?_eq_some_iff.1 hu).1
    rwa [ints_length] at this
  rw [ints_get hj] at hu
  injection hu with hu
  subst hu
  obtain ⟨ad, hA, _, _, hc⟩ := h.row j 0 hj (by omega)
  exact ⟨ad, hA, by rw [add_zero, Nat.mul_one] at hc; exact hc⟩
/-- A row that lies whole in a block. -/
theorem Bx.src {w : World} {b : Nat} {cs : List Value} {T : TypeId} (h : Bx w b cs T) : ∀ j u, cs[j]? = some u → ∃ ad, (some ⟨b, 0, none⟩ : Option Addr) = some ad ∧ w.cell? (ad.add j) = some u :=
  fun j u hu => ⟨_, rfl, by rw [add_plain]; exact h.cell hu⟩
theorem Bx.own {w : World} {b n : Nat} {cs : List Value} {T : TypeId} {sz : Nat} {S : Nat → Prop} (h : Bx w b cs T) (hS : S b) (hl : cs.length = n * sz) (hn : n ≤ maxLen) : Own w S (some ⟨b, 0, none⟩) n n T sz cs :=
  ⟨hl, .inr ⟨b, 0, cs.toArray, rfl, hS, h, Nat.le_refl _, hn, by simp [hl], by rw [← hl]; simp⟩⟩
end Go.Proofs.Ytklbpajmoklheaa
set_option linter.unusedVariables false
set_option linter.unusedSimpArgs false
namespace Go.Proofs.Ytklbpajmoklheaa
open Go Go.RowKit

/-- How an element lies in cells. -/
class Enc (α : Type) where
  enc : α → List Value
  sz : Nat
  d : α
  len : ∀ x, (enc x).length = sz
  one : ∀ x, ∀ u ∈ enc x, oneC u = true
  pos : 0 < sz
  bytes : Nat
  bpos : 0 < bytes
instance : Enc Int := ⟨fun x => [.int .i64 x], 1, 0, fun _ => rfl, fun x u h => by simp at h; subst h; rfl, by decide, 8, by decide⟩
instance : Enc Bool := ⟨fun x => [.bool x], 1, false, fun _ => rfl, fun x u h => by simp at h; subst h; rfl, by decide, 1, by decide⟩
/-- A slice as a value. -/
structure SliceV where
  A : Option Addr
  n : Nat
  c : Nat
instance : Enc SliceV := ⟨fun x => [.slice x.A x.n x.c], 1, ⟨none, 0, 0⟩, fun _ => rfl, fun x u h => by simp at h; subst h; rfl, by decide, 24, by decide⟩
section
variable {α : Type} [Enc α]
def rows (l : List α) : List Value := l.flatMap Enc.enc
def gA (l : List α) (i : Int) : α := l.getD i.toNat Enc.d
theorem rows_len (l : List α) : (rows l).length = l.length * Enc.sz α := by
  induction l with
  | nil => simp [rows]
  | cons x l ih => simp only [rows, List.flatMap_cons, List.length_append, Enc.len, List.length_cons] at ih ⊢; rw [ih, Nat.add_mul]; omega
theorem rows_append (l r : List α) : rows l ++ rows r = rows (l ++ r) := by simp [rows]
theorem rows_one (l : List α) : ∀ u ∈ rows l, oneC u = true := by
  intro u hu
  obtain ⟨x, _, hx⟩ := List.mem_flatMap.1 hu
  exact Enc.one x u hx
theorem rows_take (l : List α) (k : Nat) : (rows l).take (k * Enc.sz α) = rows (l.take k) := by
  induction l generalizing k with
  | nil => simp [rows]
  | cons x l ih =>
    cases k with
    | zero => simp [rows]
    | succ k =>
      have := ih k
      simp only [rows, List.flatMap_cons, List.take_succ_cons] at this ⊢
      rw [List.take_append, Enc.len, List.take_of_length_le (by rw [Enc.len, Nat.add_mul]; omega), ← this]
      congr 2
      rw [Nat.add_mul]
      omega
theorem rows_drop (l : List α) (k : Nat) : (rows l).drop (k * Enc.sz α) = rows (l.drop k) := by
  induction l generalizing k with
  | nil => simp [rows]
  | cons x l ih =>
    cases k with
    | zero => simp [rows]
    | succ k =>
      have := ih k
      simp only [rows, List.flatMap_cons, List.drop_succ_cons] at this ⊢
      rw [List.drop_append, Enc.len, List.drop_of_length_le (by rw [Enc.len, Nat.add_mul]; omega), ← this, List.nil_append]
      congr 1
      rw [Nat.add_mul]
      omega
theorem rows_get (l : List α) {i q : Nat} (hi : i < l.length) (hq : q < Enc.sz α) : (rows l)[i * Enc.sz α + q]? = (Enc.enc (l.getD i Enc.d))[q]? := by
  have h1 := rows_drop l i
  have h2 : (rows l)[i * Enc.sz α + q]? = ((rows l).drop (i * Enc.sz α))[q]? := by rw [List.getElem?_drop]
  rw [h2, h1, List.drop_eq_getElem_cons hi]
  simp only [rows, List.flatMap_cons]
  rw [List.getElem?_append_left (by rw [Enc.len]; exact hq), List.getD_eq_getElem?_getD, List.getElem?_eq_getElem hi]
  rfl
theorem rows_set (l : List α) {i : Nat} (hi : i < l.length) (v : α) : rows (l.set i v) = (rows l).take (i * Enc.sz α) ++ Enc.enc v ++ (rows l).drop (i * Enc.sz α + Enc.sz α) := by
  rw [show i * Enc.sz α + Enc.sz α = (i + 1) * Enc.sz α by rw [Nat.add_mul]; omega, rows_take, rows_drop, List.set_eq_take_append_cons_drop, if_pos hi]
  simp [rows]
theorem rows_single (x : α) : rows [x] = Enc.enc x := by simp [rows]
/-- A slice of the call's own, its elements known. -/
def OwnR (w : World) (S : Nat → Prop) (A : Option Addr) (c : Nat) (e : TypeId) (l : List α) : Prop := Own w S A l.length c e (Enc.sz α) (rows l)
variable {w : World} {S : Nat → Prop} {A : Option Addr} {c : Nat} {e : TypeId} {l : List α}
theorem OwnR.nil : OwnR w S none 0 e ([] : List α) := Own.nil
theorem OwnR.lt (h : OwnR w S A c e l) : ∀ k, obk A = some k → k < w.heap.size := Own.lt h
theorem OwnR.inS (h : OwnR w S A c e l) : ∀ k, obk A = some k → S k := Own.inS h
theorem OwnR.ge {base : Nat} {os : List (Option Nat)} (h : OwnR w (Sx base os) A c e l) : ∀ k, obk A = some k → base ≤ k := Own.ge h
theorem OwnR.ne_new (h : OwnR w S A c e l) : obk A ≠ some w.heap.size := Own.ne_new h
theorem OwnR.cap (h : OwnR w S A c e l) : l.length ≤ c := Own.cap h
theorem OwnR.imp {S' : Nat → Prop} (h : OwnR w S A c e l) (hi : ∀ g, g < w.heap.size → S g → S' g) : OwnR w S' A c e l := Own.imp h hi
theorem OwnR.gr {w1 : World} {row : Option Nat} (h : OwnR w S A c e l) (g : w.grownBy w1 row) (hr : ∀ k, S k → row ≠ some k) : OwnR w1 S A c e l := Own.gr h g hr
theorem OwnR.neb (h : OwnR w S A c e l) {b : Nat} (hb : ∀ g, S g → some b ≠ some g) : obk A ≠ some b := Own.neb h hb
theorem OwnR.add {base b : Nat} {os : List (Option Nat)} (h : OwnR w (Sx base os) A c e l) (hb : w.heap.size ≤ b) : OwnR w (Sx base (some b :: os)) A c e l := Own.add h hb
/-- Over a change that may have moved another row. -/
theorem OwnR.grA {w1 : World} {S' : Nat → Prop} {row : Option Nat} (h : OwnR w S A c e l) (g : w.grownBy w1 row) (hr : ∀ k, S k → row ≠ some k) (hi : ∀ k, k < w.heap.size → S k → S' k) : OwnR w1 S' A c e l := by
  have h2 : OwnR w (fun k => S k ∧ k < w.heap.size) A c e l := OwnR.imp h (fun k hk hs => ⟨hs, hk⟩)
  exact OwnR.imp (OwnR.gr h2 g (fun k hk => hr k hk.1)) (fun k _ hs => hi k hs.2 hs.1)
theorem OwnR.as {l' : List α} (h : OwnR w S A c e l) (e1 : l = l') : OwnR w S A c e l' := by subst e1; exact h
theorem OwnR.get (h : OwnR w S A c e l) (i : Int) (h0 : 0 ≤ i) (h1 : i < (l.length : Int)) {sz : Nat} (hsz : Enc.sz α = sz) :
    ∃ ad, A = some ad ∧ ad.block < w.heap.size ∧ (w.cell? (ad.add (i.toNat * sz)) = (Enc.enc (gA l i))[0]?) ∧ ∀ q v, (Enc.enc (gA l i))[q]? = some v → w.cell? ((ad.add (i.toNat * sz)).add q) = some v := by
  subst hsz
  have hlt : i.toNat < l.length := by omega
  have hp := Enc.pos (α := α)
  have h0' : (Enc.enc (gA l i))[0]? = some ((Enc.enc (gA l i))[0]'(by rw [Enc.len]; exact hp)) := List.getElem?_eq_getElem _
  obtain ⟨ad, hA, _, hlt2, hc⟩ := Own.get h (i := i.toNat) (q := 0) hlt hp (v := (Enc.enc (gA l i))[0]'(by rw [Enc.len]; exact hp)) (by rw [rows_get l hlt hp]; exact h0')
  refine ⟨ad, hA, hlt2, by rw [add_zero] at hc; rw [hc, h0'], fun q v hv => ?_⟩
  have hq : q < Enc.sz α := by have := (List.getElem?_eq_some_iff.1 hv).1; rwa [Enc.len] at this
  obtain ⟨ad', hA', _, _, hc'⟩ := Own.get h (i := i.toNat) (q := q) hlt hq (v := v) (by rw [rows_get l hlt hq]; exact hv)
  rw [hA] at hA'
  injection hA' with hA'
  subst hA'
  exact hc'
/-- What a slice holds, to be appended. -/
def SrcR (w : World) (X : Option Addr) (l : List α) : Prop := ∀ j u, (rows l)[j]? = some u → ∃ ad, X = some ad ∧ w.cell? (ad.add j) = some u
theorem Bx.srcR {w : World} {b : Nat} {cs : List Value} {T : TypeId} {l : List α} (h : Bx w b cs T) (e : rows l = cs) : SrcR w (some ⟨b, 0, none⟩) l := by
  unfold SrcR
  rw [e]
  exact h.src
theorem OwnR.src (h : OwnR w S A c e l) : SrcR w A l := by
  intro j u hu
  have hp := Enc.pos (α := α)
  have hj : j < l.length * Enc.sz α := by have := (List.getElem?_eq_some_iff.1 hu).1; rwa [rows_len] at this
  rcases h.2 with ⟨rfl, hn, _⟩ | ⟨g, o, cur, rfl, hS, hg, hn, hc, hcs, ht⟩
  · rw [hn] at hj
    omega
  · refine ⟨_, rfl, ?_⟩
    rw [← ht, List.getElem?_take] at hu
    split at hu
    · rw [add_plain_o]
      simp only [World.cell?, hg]
      simpa using hu
    · rename_i hx; exact absurd hj hx
theorem Bx.ownR {w : World} {b n : Nat} {cs : List Value} {T : TypeId} {S : Nat → Prop} {l : List α} (h : Bx w b cs T) (e : rows l = cs) (hS : S b) (hn : l.length ≤ maxLen) : OwnR w S (some ⟨b, 0, none⟩) l.length T l := by
  subst e
  exact h.own hS (rows_len l) hn
end
theorem add_add' (a : Addr) (i j : Nat) : (a.add i).add j = a.add (i + j) := by
  obtain ⟨b, o, f⟩ := a
  cases f <;> simp [Addr.add] <;> (repeat' split) <;> simp_all <;> omega
theorem getD_some {l : List Value} {q : Nat} (h : q < l.length) : l[q]? = some (l.getD q undef) := by
  rw [List.getD_eq_getElem?_getD, List.getElem?_eq_getElem h]
  rfl
/-- A slice that is read. -/
structure RdR {α : Type} [Enc α] (w : World) (lo hi : Nat) (A : Option Addr) (l : List α) : Prop where
  len : l.length * Enc.bytes α ≤ 140737488351232
  row : RdV w lo hi A l.length (Enc.sz α) (fun i q => (Enc.enc (l.getD i Enc.d)).getD q undef)
section
variable {α : Type} [Enc α] {w : World} {lo hi : Nat} {A : Option Addr} {l : List α}
theorem RdR.gr {w1 : World} {row : Option Nat} (h : RdR w lo hi A l) (g : w.grownBy w1 row) (hr : ∀ k, row = some k → k < lo ∨ hi ≤ k) : RdR w1 lo hi A l := ⟨h.len, h.row.gr g hr⟩
theorem RdR.gn {w1 : World} (h : RdR w lo hi A l) (g : w.grownBy w1 none) : RdR w1 lo hi A l := h.gr g (fun _ h => by cases h)
theorem RdR.gb {w1 : World} {b : Nat} (h : RdR w lo hi A l) (g : w.grownBy w1 (some b)) (hb : b < lo ∨ hi ≤ b) : RdR w1 lo hi A l := h.gr g (fun k h => by injection h with h; omega)
theorem RdR.wide {lo' hi' : Nat} (h : RdR w lo hi A l) (h1 : lo' ≤ lo) (h2 : hi ≤ hi') : RdR w lo' hi' A l := ⟨h.len, h.row.wide h1 h2⟩
theorem RdR.get (h : RdR w lo hi A l) (i : Int) (h0 : 0 ≤ i) (h1 : i < (l.length : Int)) {sz : Nat} (hsz : Enc.sz α = sz) :
    ∃ ad, A = some ad ∧ ad.block < hi ∧ (w.cell? (ad.add (i.toNat * sz)) = (Enc.enc (gA l i))[0]?) ∧ ∀ q v, (Enc.enc (gA l i))[q]? = some v → w.cell? ((ad.add (i.toNat * sz)).add q) = some v := by
  subst hsz
  have hp := Enc.pos (α := α)
  obtain ⟨ad, hA, _, hlt2, hc⟩ := h.row i.toNat 0 (by omega) hp
  have hg : ∀ q, q < Enc.sz α → (Enc.enc (gA l i))[q]? = some ((Enc.enc (l.getD i.toNat Enc.d)).getD q undef) := fun q hq => by
    rw [List.getD_eq_getElem?_getD, gA, List.getElem?_eq_getElem (by rw [Enc.len]; exact hq)]
    rfl
  refine ⟨ad, hA, hlt2, by rw [add_zero] at hc; rw [hc, hg 0 hp], fun q v hv => ?_⟩
  have hq : q < Enc.sz α := by have := (List.getElem?_eq_some_iff.1 hv).1; rwa [Enc.len] at this
  obtain ⟨ad', hA', _, _, hc'⟩ := h.row i.toNat q (by omega) hq
  rw [hA] at hA'
  injection hA' with hA'
  subst hA'
  rw [hc', ← hg q hq, hv]
theorem RdR.src (h : RdR w lo hi A l) : SrcR w A l := by
  intro j u hu
  have hp := Enc.pos (α := α)
  have hj : j < l.length * Enc.sz α := by have := (List.getElem?_eq_some_iff.1 hu).1; rwa [rows_len] at this
  have hdm := Nat.div_add_mod j (Enc.sz α)
  have h1 : j / Enc.sz α < l.length := (Nat.div_lt_iff_lt_mul hp).2 hj
  have h2 : j % Enc.sz α < Enc.sz α := Nat.mod_lt _ hp
  have h3 := rows_get l h1 h2
  rw [show j / Enc.sz α * Enc.sz α + j % Enc.sz α = j by rw [Nat.mul_comm]; exact hdm, hu] at h3
  obtain ⟨ad, hA, _, _, hc⟩ := h.row (j / Enc.sz α) (j % Enc.sz α) h1 h2
  refine ⟨ad, hA, ?_⟩
  have e1 : (ad.add (j / Enc.sz α * Enc.sz α)).add (j % Enc.sz α) = ad.add j := by
    rw [add_add']
    congr 1
    rw [Nat.mul_comm]
    exact hdm
  rw [e1] at hc
  rw [hc, h3]
  exact (getD_some (by rw [Enc.len]; exact h2)).symm
end
theorem OwnR.rdR {α : Type} [Enc α] {w : World} {base : Nat} {os : List (Option Nat)} {A : Option Addr} {c : Nat} {e : TypeId} {l : List α} (h : OwnR w (Sx base os) A c e l) (hl : l.length * Enc.bytes α ≤ 140737488351232) : RdR w base w.heap.size A l := by
  refine ⟨hl, fun i q hi hq => ?_⟩
  have hv : (Enc.enc (l.getD i Enc.d))[q]? = some ((Enc.enc (l.getD i Enc.d)).getD q undef) := getD_some (by rw [Enc.len]; exact hq)
  obtain ⟨ad, hA, hS, hlt, hc⟩ := Own.get h (i := i) (q := q) hi hq (v := (Enc.enc (l.getD i Enc.d)).getD q undef) (by rw [rows_get l hi hq]; exact hv)
  exact ⟨ad, hA, Sx_base hS, hlt, hc⟩
theorem RdR.rdI {w : World} {lo hi : Nat} {A : Option Addr} {l : List Int} (h : RdR w lo hi A l) : RdI w lo hi A l :=
  ⟨h.len, fun i q hi hq => by
    obtain rfl : q = 0 := by omega
    exact h.row i 0 hi hq⟩
theorem RdR.rdB {w : World} {lo hi : Nat} {A : Option Addr} {l : List Bool} (h : RdR w lo hi A l) : RdB w lo hi A l :=
  ⟨by have := h.len; simp only [Enc.bytes] at this; omega, fun i q hi hq => by
    obtain rfl : q = 0 := by omega
    exact h.row i 0 hi hq⟩
theorem RdI.rdR {w : World} {lo hi : Nat} {A : Option Addr} {l : List Int} (h : RdI w lo hi A l) : RdR w lo hi A l :=
  ⟨h.len, fun i q hi hq => by
    have hq : q < 1 := hq
    obtain rfl : q = 0 := by omega
    exact h.row i 0 hi (by omega)⟩
theorem flatMap_one {α β : Type} (f : α → β) : ∀ l : List α, l.flatMap (fun x => [f x]) = l.map f
  | [] => rfl
  | x :: l => by rw [List.flatMap_cons, flatMap_one f l]; rfl
theorem RdI.srcR {w : World} {lo hi : Nat} {A : Option Addr} {l : List Int} (h : RdI w lo hi A l) : SrcR w A l := by
  intro j u hu
  have e : rows l = ints l := flatMap_one _ l
  rw [e] at hu
  exact h.src j u hu
theorem take_push {α : Type} [Enc α] {xs l : List α} {k : Int} (h : xs = l.take k.toNat) (h0 : 0 ≤ k) (h1 : k < (l.length : Int)) : xs ++ [gA l k] = l.take (k + 1).toNat := by
  subst h
  rw [show (k + 1).toNat = k.toNat + 1 by omega, List.take_succ_eq_append_getElem (by omega)]
  simp only [gA, List.getD_eq_getElem?_getD, List.getElem?_eq_getElem (show k.toNat < l.length by omega), Option.getD_some]
theorem takeR_next {α : Type} [Enc α] {la lb : List α} [DecidableEq α] {k : Int} (h : la.take k.toNat = lb.take k.toNat) (h0 : 0 ≤ k) (h1 : k < (la.length : Int)) (h2 : k < (lb.length : Int)) (e : decide (gA la k = gA lb k) = true) : la.take (k + 1).toNat = lb.take (k + 1).toNat := by
  have e1 := take_push (xs := la.take k.toNat) (l := la) rfl h0 h1
  have e2 := take_push (xs := la.take k.toNat) (l := lb) h h0 h2
  rw [← e1, ← e2, of_decide_eq_true e]
theorem takeR_all {α : Type} {la lb : List α} {k : Int} (h : la.take k.toNat = lb.take k.toNat) (h1 : (la.length : Int) ≤ k) (h2 : (lb.length : Int) ≤ k) : la = lb := by
  rwa [List.take_of_length_le (by omega), List.take_of_length_le (by omega)] at h
theorem take_end {α : Type} {xs l : List α} {k : Int} (h : xs = l.take k.toNat) (h1 : (l.length : Int) ≤ k) : xs = l := by rwa [List.take_of_length_le (by omega)] at h
/-! ### Operations told by their run -/
def ActOp (P : Program) (l : List (Nat × Value)) (ops : List Oper) (k : Nat) (w : World) (R : Option Nat → Value → World → Prop) : Prop :=
  ∃ o, ops[k]? = some o ∧ opOk l ops o = true ∧ ∃ nx v w1, (execOp (rho l) o).run P w = .ok nx w1 ∧ Gives nx v ∧ R o.dst v w1
theorem At.act {P : Program} {n : Nat} {ops : Array Oper} {Q : Exit → Act → World → Prop} {k : Nat} {a : Act} {w : World} {l : List (Nat × Value)} (hf : Frm n a l) {R : Option Nat → Value → World → Prop} (h : ActOp P l ops.toList k w R)
    (next : ∀ d v w1, R d v w1 → ∃ l', putL n l d v = some l' ∧ ∀ a', Frm n a' l' → At P ops Q (k + 1) a' w1) : At P ops Q k a w := by
  obtain ⟨o, ho, hk, nx, v, w1, hr, hg, hR⟩ := h
  obtain ⟨l', hl, hn⟩ := next _ _ _ hR
  simp only [opOk, Bool.and_eq_true] at hk
  obtain ⟨⟨h1, h2⟩, h3⟩ := hk
  unfold At
  rw [drop_of_getElem? ho]
  unfold wpList
  split at h1
  · rename_i hwl
    rw [wantedL_sound hf hwl, if_pos rfl]
    exact .inl (oper_wp_of_gives (by rw [hf.exec h2 h3]; exact hr) hg (hn _ (hf.putL hl)))
  · simp at h1
theorem OneH.act {P : Program} {n : Nat} {ops : Array Oper} {Q : Exit → Act → World → Prop} {Cs : List (Addr × Value)} {fuel k : Nat} {li : Array Bool} {a : Act} {w : World} {l : List (Nat × Value)} (hf : Frm n a l) {R : Option Nat → Value → World → Prop} (li' : Array Bool) (hli : li.setIfInBounds k true = li')
    (h : ActOp P l ops.toList k w R)
    (next : ∀ d v w1, R d v w1 → ∃ l', putL n l d v = some l' ∧ ∀ a', Frm n a' l' → HoldsC Cs w1 ∧ AtH P ops Q Cs fuel li' a' w1) : OneH P ops Q Cs fuel li k a w := by
  obtain ⟨o, ho, hk, nx, v, w1, hr, hg, hR⟩ := h
  obtain ⟨l', hl, hn⟩ := next _ _ _ hR
  exact OneH.run hf ho hk li' hli hr hg hl hn
section
variable {α : Type} [Enc α] {P : Program} {l : List (Nat × Value)} {ops : List Oper} {k : Nat} {w : World} {S : Nat → Prop} {A X : Option Addr} {c m cc : Nat} {e : TypeId} {xs ys : List α} {d : Nat}
/-- What append leaves. -/
structure Appended (w : World) (S : Nat → Prop) (A : Option Addr) (e : TypeId) (zs : List α) (v : Value) (w1 : World) (A' : Option Addr) (c' : Nat) : Prop where
  val : v = .slice A' zs.length c'
  gr : w.grownBy w1 (obk A)
  at_ : A' = A ∨ A' = some ⟨w.heap.size, 0, none⟩
  own : ∀ S' : Nat → Prop, (∀ g, g < w.heap.size → S g → S' g) → S' w.heap.size → OwnR w1 S' A' c' e zs
theorem appendR {n t bytes : Nat} (hn : n = xs.length) (hm : m = ys.length) (ha : appAt l ops k = some (t, .slice A n c, .slice X m cc, some d)) {sz : Nat} (hsz : Enc.sz α = sz) (hok : elemOk P t e sz bytes = true) (h : OwnR w S A c e xs) (hs : SrcR w X ys)
    (hb : (xs.length + ys.length) * bytes ≤ 140737488355328) (h63 : xs.length + ys.length ≤ 9223372036854775807) : ActOp P l ops k w fun d' v w1 => d' = some d ∧ ∃ A' c', Appended w S A e (xs ++ ys) v w1 A' c' := by
  subst hn
  subst hm
  subst hsz
  cases ho : ops[k]? with
  | none => unfold appAt at ha; rw [ho] at ha; simp at ha
  | some o =>
    obtain ⟨hk, hdst, A', c', w', hr, hg, hA, hO⟩ := append_run (P := P) ho ha hok h (rows_len ys) hs (rows_one ys) hb (by simpa [maxLen] using h63)
    refine ⟨o, ho, hk, _, _, w', hr, .inl rfl, hdst, A', c', by rw [List.length_append], hg, hA, fun S' h1 h2 => ?_⟩
    have := hO S' h1 h2
    rw [rows_append] at this
    unfold OwnR
    rw [List.length_append]
    exact this
def makeAt (l : List (Nat × Value)) (ops : List Oper) (k : Nat) : Option (TypeId × Value × Value × Option Nat) :=
  match ops[k]? with
  | none => none
  | some o => match opOk l ops o, o.op with
    | true, .makeSlice t x y => some (t, rho l x, rho l y, o.dst)
    | _, _ => none
def zinfo (P : Program) (t : TypeId) : Option (TypeId × List Value × Nat × Nat) :=
  match P.underlying t with
  | some (.slice e) => match P.info? e with
    | some i => match i.zero with
      | some z => some (e, z.cells.toList, i.size, i.bytes)
      | none => none
    | none => none
  | _ => none
theorem zinfo_ok {P : Program} {t e : TypeId} {zs : List Value} {sz bytes : Nat} (h : zinfo P t = some (e, zs, sz, bytes)) : ∃ i z, P.underlying t = some (.slice e) ∧ P.info? e = some i ∧ i.zero = some z ∧ z.cells.toList = zs ∧ i.size = sz ∧ i.bytes = bytes := by
  unfold zinfo at h
  split at h
  · rename_i e' hu
    split at h
    · rename_i i hi
      split at h
      · rename_i z hz
        simp only [Option.some.injEq, Prod.mk.injEq] at h
        obtain ⟨rfl, rfl, rfl, rfl⟩ := h
        exact ⟨i, z, hu, hi, hz, rfl, rfl, rfl⟩
      · simp at h
    · simp at h
  · simp at h
theorem madeCells_rows (x : α) (z : Array Value) (hz : z.toList = Enc.enc x) (n : Nat) : (madeCells z (n * Enc.sz α)).toList = rows (List.replicate n x) := by
  have hp := Enc.pos (α := α)
  have hzs : z.size = Enc.sz α := by rw [← Enc.len x, ← hz]; simp
  refine List.ext_getElem? fun j => ?_
  by_cases hj : j < n * Enc.sz α
  · have hdm := Nat.div_add_mod j (Enc.sz α)
    have h1 : j / Enc.sz α < n := (Nat.div_lt_iff_lt_mul hp).2 hj
    have h2 : j % Enc.sz α < Enc.sz α := Nat.mod_lt _ hp
    have h3 := rows_get (List.replicate n x) (i := j / Enc.sz α) (q := j % Enc.sz α) (by simpa using h1) h2
    rw [show j / Enc.sz α * Enc.sz α + j % Enc.sz α = j by rw [Nat.mul_comm]; exact hdm] at h3
    rw [h3]
    have h4 : (List.replicate n x).getD (j / Enc.sz α) Enc.d = x := by simp [List.getD_eq_getElem?_getD, List.getElem?_replicate, h1]
    rw [h4, ← hz]
    have h5 : j % Enc.sz α < z.size := by omega
    simp only [madeCells, hzs, Array.toList_map, Array.toList_range, List.getElem?_map, List.getElem?_range hj, Option.map_some]
    rw [Array.getElem?_toList, Array.getElem?_eq_getElem h5]
    simp [h5]
  · rw [List.getElem?_eq_none (by simp [madeCells]; omega), List.getElem?_eq_none (by rw [rows_len]; simp; omega)]
theorem makeR {t bytes : Nat} {n cap : Int} {k1 k2 : IntKind} (x : α) (ha : makeAt l ops k = some (t, .int k1 n, .int k2 cap, some d)) {sz : Nat} (hsz : Enc.sz α = sz) (hok0 : zinfo P t = some (e, Enc.enc x, sz, bytes)) (h0 : 0 ≤ n) (h1 : n ≤ cap) (hb : (bytes : Int) * cap ≤ 281474976710656) (hc : cap ≤ 9223372036854775807) :
    ActOp P l ops k w fun d' v w1 => d' = some d ∧ v = .slice (some ⟨w.heap.size, 0, none⟩) (List.replicate n.toNat x).length cap.toNat ∧ w.grownBy w1 none ∧ ∀ S : Nat → Prop, S w.heap.size → OwnR w1 S (some ⟨w.heap.size, 0, none⟩) cap.toNat e (List.replicate n.toNat x) := by
  subst hsz
  obtain ⟨i, z, ht, hi, hz, hzs, hsi, hby⟩ := zinfo_ok hok0
  unfold makeAt at ha
  cases ho : ops[k]? with
  | none => rw [ho] at ha; simp at ha
  | some o =>
    rw [ho] at ha
    simp only at ha
    split at ha
    · rename_i t' a b hok' hop
      simp only [Option.some.injEq, Prod.mk.injEq] at ha
      obtain ⟨rfl, ha1, ha2, hd⟩ := ha
      have hr := run_make (P := P) w t' e i z ht hi hz k1 k2 n cap h0 h1 (by rw [hby]; exact hb) hc
      refine ⟨o, ho, hok', .value (.slice (some ⟨w.heap.size, 0, none⟩) n.toNat cap.toNat), _, w.alloc (.cells (madeCells z.cells (cap.toNat * i.size)) e), ?_, .inl rfl, hd, by simp, World.grownBy_alloc w _ none, fun S hS => ?_⟩
      · simp only [execOp, hop, ha1, ha2]
        simp [hr]
      · have hnc : n.toNat ≤ cap.toNat := by omega
        refine ⟨rows_len _, .inr ⟨_, 0, _, rfl, hS, heap_alloc_new w _, by simpa using hnc, by simp only [maxLen]; omega, ?_, ?_⟩⟩
        · rw [hsi]
          simp [size_madeCells]
        · rw [hsi, List.drop_zero, madeCells_rows x z.cells hzs, rows_take]
          simp [List.take_replicate, Nat.min_eq_left hnc]
    · simp at ha
def storeOkX (P : Program) (t : TypeId) (vs : List Value) : Bool := (match P.info? t with | some i => Nat.beq i.size vs.length | none => false) && vs.all oneC
theorem own_store {n sz : Nat} {us : List Value} (h : Own w S A n c e sz us) {i q : Nat} (hi : i < n) (vs : List Value) (hq : q + vs.length ≤ sz) (hone : ∀ v ∈ vs, oneC v = true) {ad : Addr} (hA : A = some ad) :
    ∃ w1, (storeCells ((ad.add (i * sz)).add q) vs 0).run P w = .ok () w1 ∧ w.grownBy w1 (obk A) ∧ Own w1 S A n c e sz (us.take (i * sz + q) ++ vs ++ us.drop (i * sz + q + vs.length)) := by
  rcases h.2 with ⟨rfl, rfl, _⟩ | ⟨g, o, cur, rfl, hS, hg, hn, hc, hcs, ht⟩
  · omega
  · injection hA with hA
    subst hA
    have e1 : ((⟨g, o, none⟩ : Addr).add (i * sz)).add q = ⟨g, o + (i * sz + q), none⟩ := by
      rw [add_plain_o, add_plain_o, Nat.add_assoc]
    rw [e1]
    have hbx : Bx w g cur.toList e := by
      unfold Bx
      rw [hg]
    have hfit1 : i * sz + q + vs.length ≤ n * sz := by
      have : (i + 1) * sz ≤ n * sz := Nat.mul_le_mul_right _ hi
      rw [Nat.add_mul] at this
      omega
    have hfit2 : n * sz ≤ c * sz := Nat.mul_le_mul_right _ hn
    obtain ⟨w1, hr, hgr, hb⟩ := run_storeCells (P := P) vs (o + (i * sz + q)) 0 hbx (by simp only [Array.length_toList]; omega) hone
    simp only [Nat.add_zero] at hb
    refine ⟨w1, hr, hgr, ?_, .inr ⟨g, o, _, rfl, hS, hb, hn, hc, ?_, ?_⟩⟩
    · simp only [List.length_append, List.length_take, List.length_drop, h.1]
      omega
    · simp only [List.size_toArray, List.length_append, List.length_take, List.length_drop, Array.length_toList]
      omega
    · rw [← ht]
      refine List.ext_getElem? fun j => ?_
      simp only [List.getElem?_take, List.getElem?_append, List.length_append, List.length_take, List.length_drop, Array.length_toList, List.getElem?_drop]
      repeat' split
      all_goals first | rfl | omega | (congr 1; omega) | skip
theorem storeR {t : TypeId} {i : Int} {ad : Addr} {v : Value} (x : α) {sz : Nat} (ha : storeAtL l ops k = some (t, .pointer (some (ad.add (i.toNat * sz))), v)) (hsz : Enc.sz α = sz) (hv : v.cells.toList = Enc.enc x) (hok : storeOkX P t (Enc.enc x) = true) (hA : A = some ad) (h : OwnR w S A c e xs) (h0 : 0 ≤ i) (h1 : i < (xs.length : Int)) :
    ActOp P l ops k w fun d' v' w1 => d' = none ∧ w.grownBy w1 (obk A) ∧ OwnR w1 S A c e (xs.set i.toNat x) := by
  subst hsz
  have hlt : i.toNat < xs.length := by omega
  unfold storeAtL at ha
  cases ho : ops[k]? with
  | none => rw [ho] at ha; simp at ha
  | some o =>
    rw [ho] at ha
    simp only at ha
    split at ha
    · rename_i t' a b hok' hop hdst
      simp only [Option.some.injEq, Prod.mk.injEq] at ha
      obtain ⟨rfl, ha1, ha2⟩ := ha
      simp only [storeOkX, Bool.and_eq_true] at hok
      obtain ⟨hk1, hk2⟩ := hok
      split at hk1
      · rename_i inf hinf
        have hk1 : inf.size = (Enc.enc x).length := by simpa using hk1
        obtain ⟨w1, hr, hgr, hO⟩ := own_store (P := P) h hlt (Enc.enc x) (q := 0) (by rw [Enc.len]; omega) (fun u hu => List.all_eq_true.1 hk2 u hu) hA
        rw [add_zero] at hr
        refine ⟨o, ho, hok', .skip, undef, w1, ?_, .inr ⟨rfl, rfl⟩, hdst, hgr, ?_⟩
        · have hsz : v.cells.size = inf.size := by rw [hk1, ← hv]; simp
          simp only [execOp, hop, ha1, ha2, Instr.storeAt, Instr.sureAddr]
          simp [storeVar, sizeOf, typeInfo, hinf, hsz, hv, hr]
        · unfold OwnR
          rw [rows_set xs hlt, List.length_set]
          rw [Enc.len] at hO
          exact hO
      · simp at hk1
    · simp at ha
theorem OwnR.take (h : OwnR w S A c e xs) (k : Nat) (hk : k ≤ xs.length) : OwnR w S A c e (xs.take k) := by
  refine ⟨rows_len _, ?_⟩
  have hl : (xs.take k).length = k := by rw [List.length_take]; omega
  rw [hl]
  rcases h.2 with ⟨rfl, h2, rfl⟩ | ⟨g, o, cur, rfl, hS, hg, hn, hc, hcs, ht⟩
  · exact .inl ⟨rfl, by omega, rfl⟩
  · refine .inr ⟨g, o, cur, rfl, hS, hg, by omega, hc, hcs, ?_⟩
    rw [← rows_take, ← ht, List.take_take, Nat.min_eq_left (Nat.mul_le_mul_right _ hk)]
/-- From an element on: l[k:]. -/
theorem OwnR.drop (h : OwnR w S A c e xs) (k : Nat) (hk : k ≤ xs.length) {sz : Nat} (hsz : Enc.sz α = sz) : OwnR w S (if c = k then A else A.map (fun a : Addr => a.add (k * sz))) (c - k) e (xs.drop k) := by
  subst hsz
  have hcap := h.cap
  have hl : (xs.drop k).length = xs.length - k := List.length_drop
  by_cases hck : c = k
  · have hx : xs.drop k = [] := List.drop_of_length_le (by omega)
    rw [if_pos hck, hx]
    refine ⟨by simp [rows], ?_⟩
    rcases h.2 with ⟨rfl, h2, rfl⟩ | ⟨g, o, cur, rfl, hS, hg, hn, hc, hcs, ht⟩
    · exact .inl ⟨rfl, rfl, by omega⟩
    · refine .inr ⟨g, o, cur, rfl, hS, hg, by simp, by omega, ?_, by simp [rows]⟩
      have : (c - k) * Enc.sz α = 0 := by rw [hck, Nat.sub_self, Nat.zero_mul]
      omega
  · rw [if_neg hck]
    refine ⟨rows_len _, ?_⟩
    rw [hl]
    rcases h.2 with ⟨rfl, h2, rfl⟩ | ⟨g, o, cur, rfl, hS, hg, hn, hc, hcs, ht⟩
    · exact absurd (by omega) hck
    · have h8 : (c - k) * Enc.sz α + k * Enc.sz α = c * Enc.sz α := by rw [← Nat.add_mul]; congr 1; omega
      refine .inr ⟨g, o + k * Enc.sz α, cur, by simp [add_plain_o], hS, hg, by omega, by omega, by omega, ?_⟩
      rw [← rows_drop, ← ht, List.drop_take, List.drop_drop, ← Nat.sub_mul]
theorem obk_drop {A : Option Addr} {c k j : Nat} : obk (if c = k then A else A.map (fun a : Addr => a.add j)) = obk A := by
  split
  · rfl
  · cases A with
    | none => rfl
    | some a => simp [obk, add_block]
end
end Go.Proofs.Ytklbpajmoklheaa
set_option linter.unusedVariables false
namespace Go.Proofs.Ytklbpajmoklheaa
open Go Go.RowKit
/-- A loop whose first round begins here. -/
def LW (P : Program) (Q : Exit → Act → World → Prop) (c : Code) (a : Act) (w : World) : Prop := ∀ b k cs, ∃ e a' w', Q e a' w' ∧ Arrives P (lone (b.at a (.code c :: .inLoop c :: k)) cs w) b k cs e a' w'
theorem loop_u0 {P : Program} {Q : Exit → Act → World → Prop} {a : Act} {w : World} {c : Code} (h : LW P Q c a w) : (Code.loop c).wp P Q a w := by
  intro b k cs
  obtain ⟨e, a', w', hq, harr⟩ := h b k cs
  exact ⟨e, a', w', hq, .of_steps (.one step_loop) harr⟩
theorem loop_u {P : Program} {Q : Exit → Act → World → Prop} {a : Act} {w : World} {c : Code} (h : c.wp P (Exit.then (LW P Q c) Q) a w) : LW P Q c a w := by
  intro b k cs
  obtain ⟨e, a₁, w₁, hq, harr⟩ := h b (.inLoop c :: k) cs
  cases e with
  | normal =>
    obtain ⟨e₂, a₂, w₂, hq₂, harr₂⟩ := hq b k cs
    exact ⟨e₂, a₂, w₂, hq₂, .of_steps (Steps.trans harr (.one step_inLoop)) harr₂⟩
  | exit id => exact ⟨_, a₁, w₁, hq, .pass (x := .inLoop c) rfl (fun _ _ => .inl (by simp)) harr⟩
  | goto l => exact ⟨_, a₁, w₁, hq, .pass (x := .inLoop c) rfl (fun _ _ => .inl (by simp)) harr⟩
  | ret => exact ⟨_, a₁, w₁, hq, .pass (x := .inLoop c) rfl (fun _ _ => .inl (by simp)) harr⟩
  | panic ch => exact ⟨_, a₁, w₁, hq, .pass (x := .inLoop c) rfl (fun _ _ => .inl (by simp)) harr⟩
  | outgrown => exact ⟨_, a₁, w₁, hq, .pass (x := .inLoop c) rfl (fun _ _ => .inl (by simp)) harr⟩
theorem Bx.as {w : World} {b : Nat} {cs cs' : List Value} {T : TypeId} (h : Bx w b cs T) (e : cs = cs') : Bx w b cs' T := by subst e; exact h
theorem add_off (b off k : Nat) : (⟨b, off, none⟩ : Addr).add k = ⟨b, off + k, none⟩ := by unfold Addr.add; split <;> simp_all
theorem Bx.arr {w : World} {b : Nat} {cs pre post : List Value} {l : List Int} {T : TypeId} (h : Bx w b cs T) (e : cs = pre ++ ints l ++ post) (k : Int) (h0 : 0 ≤ k) (h1 : k < (l.length : Int)) {off : Nat} (ho : off = pre.length := by rfl) :
    w.cell? ((⟨b, off, none⟩ : Addr).add (k.toNat * 1)) = some (.int .i64 (gI l k)) := by
  subst e
  subst ho
  rw [add_off]
  refine h.cell ?_
  rw [List.append_assoc, List.getElem?_append_right (by omega), List.getElem?_append_left (by rw [ints_length]; omega), show pre.length + k.toNat * 1 - pre.length = k.toNat by omega, ints_get (by omega)]
  rfl
theorem storeArr {P : Program} {lst : List (Nat × Value)} {ops : List Oper} {k : Nat} {w : World} {b off : Nat} {cs pre post : List Value} {l : List Int} {T t : TypeId} {v i : Int}
    (ha : storeAtL lst ops k = some (t, .pointer (some ((⟨b, off, none⟩ : Addr).add (i.toNat * 1))), .int .i64 v)) (hok : storeOkX P t [.int .i64 v] = true) (h : Bx w b cs T) (e : cs = pre ++ ints l ++ post) (ho : pre.length = off) (h0 : 0 ≤ i) (h1 : i < (l.length : Int)) :
    ActOp P lst ops k w fun d' v' w1 => d' = none ∧ w.grownBy w1 (some b) ∧ Bx w1 b (pre ++ ints (l.set i.toNat v) ++ post) T := by
  subst e
  subst ho
  have hlt : i.toNat < l.length := by omega
  unfold storeAtL at ha
  cases hop' : ops[k]? with
  | none => rw [hop'] at ha; simp at ha
  | some o =>
    rw [hop'] at ha
    simp only at ha
    split at ha
    · rename_i t' a b' hok' hop hdst
      simp only [Option.some.injEq, Prod.mk.injEq] at ha
      obtain ⟨rfl, ha1, ha2⟩ := ha
      simp only [storeOkX, Bool.and_eq_true] at hok
      obtain ⟨hk1, hk2⟩ := hok
      split at hk1
      · rename_i inf hinf
        have hk1 : inf.size = 1 := by simpa using hk1
        obtain ⟨w1, hr, hgr, hO⟩ := run_storeCells (P := P) [.int .i64 v] (pre.length + i.toNat * 1) 0 h (by simp only [List.length_append, ints_length, List.length_cons, List.length_nil]; omega) (fun u hu => List.all_eq_true.1 hk2 u hu)
        refine ⟨o, hop', hok', .skip, undef, w1, ?_, .inr ⟨rfl, rfl⟩, hdst, hgr, ?_⟩
        · rw [add_off] at ha1
          simp only [execOp, hop, ha1, ha2, Instr.storeAt, Instr.sureAddr]
          simp [storeVar, sizeOf, typeInfo, hinf, hk1, Value.cells]
          simp only [Nat.mul_one] at hr
          rw [hr]
          rfl
        · refine hO.as ?_
          have e1 : (pre ++ ints l ++ post).take (pre.length + i.toNat * 1 + 0) = pre ++ ints (l.take i.toNat) := by
            rw [List.append_assoc, List.take_append, List.take_of_length_le (by omega), List.take_append, show pre.length + i.toNat * 1 + 0 - pre.length = i.toNat by omega, ints_length, show i.toNat - l.length = 0 by omega]
            simp [ints]
          have e2 : (pre ++ ints l ++ post).drop (pre.length + i.toNat * 1 + 0 + [Value.int .i64 v].length) = ints (l.drop (i.toNat + 1)) ++ post := by
            rw [List.append_assoc, List.drop_append, List.drop_of_length_le (by simp only [List.length_cons, List.length_nil]; omega), List.drop_append, show pre.length + i.toNat * 1 + 0 + [Value.int .i64 v].length - pre.length = i.toNat + 1 by simp only [List.length_cons, List.length_nil]; omega, ints_length, show i.toNat + 1 - l.length = 0 by omega]
            simp [ints]
          rw [e1, e2, List.set_eq_take_append_cons_drop, if_pos hlt]
          simp [ints]
      · simp at hk1
    · simp at ha
theorem set4 {a b c d v : Int} (i : Int) (h0 : 0 ≤ i) (h1 : i < 4) : [a, b, c, d].set i.toNat v = [if i = 0 then v else a, if i = 1 then v else b, if i = 2 then v else c, if i = 3 then v else d] := by
  obtain rfl | rfl | rfl | rfl : i = 0 ∨ i = 1 ∨ i = 2 ∨ i = 3 := by omega
  all_goals rfl
end Go.Proofs.Ytklbpajmoklheaa
