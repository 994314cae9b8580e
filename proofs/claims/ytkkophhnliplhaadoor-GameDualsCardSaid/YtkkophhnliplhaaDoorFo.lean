/-
  The frame of the walks, fifth part: slices that the call itself makes: append, reading, writing. Conditions: none; plain lemmas, over any program.
-/
import Derived.Test.YtkkophhnliplhaaDoorFz
set_option linter.unusedVariables false
namespace Go.Proofs.YtkkophhnliplhaaDoor
open Go Go.RowKit

def obk (A : Option Addr) : Option Nat := A.map (·.block)
/-- Block numbers of which T holds, that are none of os. -/
def SxP (T : Nat → Prop) : List (Option Nat) → Nat → Prop
  | [], g => T g
  | o :: os, g => o ≠ some g ∧ SxP T os g
/-- Block numbers from base on that are none of os. -/
abbrev Sx (base : Nat) : List (Option Nat) → Nat → Prop := SxP (fun g => base ≤ g)
theorem Sx_base {base : Nat} : ∀ {os : List (Option Nat)} {g : Nat}, Sx base os g → base ≤ g
  | [], _, h => h
  | _ :: _, _, h => Sx_base h.2
/-- The slice (A, n, c), of elements of type e of sz cells, is the call's own and holds the cells xs. -/
def Own (w : World) (S : Nat → Prop) (A : Option Addr) (n c : Nat) (e : TypeId) (sz : Nat) (xs : List Value) : Prop :=
  xs.length = n * sz ∧ ((A = none ∧ n = 0 ∧ c = 0) ∨
    ∃ g o cur, A = some ⟨g, o, none⟩ ∧ S g ∧ w.heap[g]? = some (.cells cur e (0, 0)) ∧ n ≤ c ∧ c ≤ maxLen ∧ o + c * sz ≤ cur.size ∧ (cur.toList.drop o).take (n * sz) = xs)
theorem Own.nil {w : World} {S : Nat → Prop} {e : TypeId} {sz : Nat} : Own w S none 0 0 e sz [] := ⟨by simp, .inl ⟨rfl, rfl, rfl⟩⟩
theorem add_plain_o (g o j : Nat) : (⟨g, o, none⟩ : Addr).add j = ⟨g, o + j, none⟩ := by unfold Addr.add; split <;> simp_all
theorem add_plain (g j : Nat) : (⟨g, 0, none⟩ : Addr).add j = ⟨g, j, none⟩ := by unfold Addr.add; split <;> simp_all
section
variable {w : World} {S : Nat → Prop} {A : Option Addr} {n c : Nat} {e : TypeId} {sz : Nat} {xs : List Value}
theorem Own.lt (h : Own w S A n c e sz xs) : ∀ k, obk A = some k → k < w.heap.size := by
  intro k hk
  rcases h.2 with ⟨rfl, _⟩ | ⟨g, o, cur, rfl, _, hg, _⟩
  · simp [obk] at hk
  · simp [obk] at hk
    subst hk
    exact (Array.getElem?_eq_some_iff.1 hg).1
theorem Own.inS (h : Own w S A n c e sz xs) : ∀ k, obk A = some k → S k := by
  intro k hk
  rcases h.2 with ⟨rfl, _⟩ | ⟨g, o, cur, rfl, hS, hg, _⟩
  · simp [obk] at hk
  · simp [obk] at hk
    subst hk
    exact hS
theorem Own.ge {base : Nat} {os : List (Option Nat)} (h : Own w (Sx base os) A n c e sz xs) : ∀ k, obk A = some k → base ≤ k := fun k hk => Sx_base (h.inS k hk)
theorem Own.ne_new (h : Own w S A n c e sz xs) : obk A ≠ some w.heap.size := fun e => by have := h.lt _ e; omega
theorem Own.cap (h : Own w S A n c e sz xs) : n ≤ c := by
  rcases h.2 with ⟨_, rfl, rfl⟩ | ⟨g, o, cur, rfl, hS, hg, hn, _⟩
  · omega
  · exact hn
theorem Own.imp {S' : Nat → Prop} (h : Own w S A n c e sz xs) (hi : ∀ g, g < w.heap.size → S g → S' g) : Own w S' A n c e sz xs := by
  refine ⟨h.1, ?_⟩
  rcases h.2 with h2 | ⟨g, o, cur, hA, hS, hg, r⟩
  · exact .inl h2
  · exact .inr ⟨g, o, cur, hA, hi g (Array.getElem?_eq_some_iff.1 hg).1 hS, hg, r⟩
theorem Own.gr {w1 : World} {row : Option Nat} (h : Own w S A n c e sz xs) (g : w.grownBy w1 row) (hr : ∀ k, S k → row ≠ some k) : Own w1 S A n c e sz xs := by
  refine ⟨h.1, ?_⟩
  rcases h.2 with h2 | ⟨b, o, cur, hA, hS, hg, r⟩
  · exact .inl h2
  · exact .inr ⟨b, o, cur, hA, hS, by rw [g.block b (Array.getElem?_eq_some_iff.1 hg).1 (fun e => hr b hS e.symm)]; exact hg, r⟩
/-- A block that is not there yet is none of the row's. -/
theorem Own.add {base b : Nat} {os : List (Option Nat)} (h : Own w (Sx base os) A n c e sz xs) (hb : w.heap.size ≤ b) : Own w (Sx base (some b :: os)) A n c e sz xs :=
  h.imp (fun g hg hs => ⟨fun e => by injection e; omega, hs⟩)
theorem Own.get (h : Own w S A n c e sz xs) {i q : Nat} (hi : i < n) (hq : q < sz) {v : Value} (hv : xs[i * sz + q]? = some v) : ∃ ad, A = some ad ∧ S ad.block ∧ ad.block < w.heap.size ∧ w.cell? ((ad.add (i * sz)).add q) = some v := by
  rcases h.2 with ⟨rfl, rfl, _⟩ | ⟨g, o, cur, rfl, hS, hg, hn, hc, hcs, ht⟩
  · omega
  · refine ⟨_, rfl, hS, (Array.getElem?_eq_some_iff.1 hg).1, ?_⟩
    have e1 : ((⟨g, o, none⟩ : Addr).add (i * sz)).add q = ⟨g, o + (i * sz + q), none⟩ := by
      rw [add_plain_o, add_plain_o, Nat.add_assoc]
    rw [e1]
    rw [← ht, List.getElem?_take] at hv
    split at hv
    · simp only [World.cell?, hg]
      simpa using hv
    · cases hv
end
theorem run_firstCells_opt {P : Program} (w : World) (size m c : Nat) (X : Option Addr) (news : List Value) (hl : news.length = m * size) (hnews : ∀ j u, news[j]? = some u → ∃ ad, X = some ad ∧ w.cell? (ad.add j) = some u) :
    (Builtin.firstCells size m (.slice X m c)).run P w = .ok news.toArray w := by
  cases X with
  | none =>
    have hn : news = [] := by
      cases news with
      | nil => rfl
      | cons u r =>
        obtain ⟨ad, h, _⟩ := hnews 0 u rfl
        cases h
    subst hn
    rfl
  | some ad => exact run_firstCells_some (P := P) w size m ad m c news hl (fun j u hu => by
      obtain ⟨ad', h, hc⟩ := hnews j u hu
      injection h with h
      subst h
      exact hc)
theorem run_append_room_o {P : Program} {w : World} (t ty e : TypeId) (i : TypeInfo) (ht : P.underlying t = some (.slice e)) (hi : P.info? e = some i)
    (g o sLen sCap : Nat) (cur : Array Value) (hg : w.heap[g]? = some (.cells cur e (0, 0)))
    (a : Addr) (m c : Nat) (news : List Value) (hl : news.length = m * i.size) (hnews : ∀ j u, news[j]? = some u → w.cell? (a.add j) = some u) (h1 : ∀ u ∈ news, u.oneCell' = true)
    (hroom : sLen + m ≤ sCap) (hfit : o + sLen * i.size + news.length ≤ cur.size) :
    (Builtin.append_ #[t, t] ty #[.slice (some ⟨g, o, none⟩) sLen sCap, .slice (some a) m c]).run P w =
      .ok (.slice (some ⟨g, o, none⟩) (sLen + m) sCap) (w.setRow g (cur.toList.take (o + sLen * i.size) ++ news ++ cur.toList.drop (o + sLen * i.size + news.length)).toArray) := by
  have hf := run_firstCells_some (P := P) w i.size m a m c news hl hnews
  have hst := run_storeCells_at P g (o + sLen * i.size) e news 0 cur w hg (by simpa using hfit) h1
  simp only [Nat.add_zero] at hst
  simp [Builtin.append_, run_underlying ht, sizeOf, typeInfo, hi, Builtin.lenOf, hroom, hf, Addr.add_lit, hst]
theorem own_append {P : Program} {w : World} {S : Nat → Prop} {A : Option Addr} {n c : Nat} {e : TypeId} {sz : Nat} {xs : List Value} (t ty : TypeId) {i : TypeInfo} {z : Value} {bytes : Nat}
    (ht : P.underlying t = some (.slice e)) (hi : P.info? e = some i) (hz : i.zero = some z) (hsize : i.size = sz) (hby : i.bytes = bytes) (hzs : z.cells.size = sz) (hsz : 0 < sz)
    (h : Own w S A n c e sz xs) (X : Option Addr) (m cc : Nat) (news : List Value) (hl : news.length = m * sz) (hnews : ∀ j u, news[j]? = some u → ∃ ad, X = some ad ∧ w.cell? (ad.add j) = some u) (h1 : ∀ u ∈ news, oneC u = true)
    (hb : (n + m) * bytes ≤ 140737488355328) (h63 : n + m ≤ maxLen) :
    ∃ A' c' w', (Builtin.append_ #[t, t] ty #[.slice A n c, .slice X m cc]).run P w = .ok (.slice A' (n + m) c') w' ∧ w.grownBy w' (obk A) ∧ (A' = A ∨ A' = some ⟨w.heap.size, 0, none⟩) ∧
      (∀ S' : Nat → Prop, (∀ g, g < w.heap.size → S g → S' g) → S' w.heap.size → Own w' S' A' (n + m) c' e sz (xs ++ news)) := by
  subst hsize
  subst hby
  have hone : ∀ u ∈ news, u.oneCell' = true := fun u hu => by have := h1 u hu; cases u <;> first | rfl | (simp [oneC] at this)
  have hsmall : n + m ≤ 9223372036854775807 := by simp only [maxLen] at h63; omega
  have hlen : (xs ++ news).length = (n + m) * i.size := by rw [List.length_append, h.1, hl, Nat.add_mul]
  have hnews' : ∀ {ad : Addr}, X = some ad → ∀ j u, news[j]? = some u → w.cell? (ad.add j) = some u := fun {ad} hX j u hu => by
    obtain ⟨ad', h', hc⟩ := hnews j u hu
    rw [hX] at h'
    injection h' with h'
    subst h'
    exact hc
  have grown : ∀ (old : Nat), old < n + m → ∀ row, w.grownBy (w.drew.alloc (.cells (xs.toArray ++ news.toArray ++ Builtin.zeroCells z.cells (grownCap w (n + m) old e - (n + m))) e)) row ∧
      ∀ S' : Nat → Prop, S' w.heap.size → Own (w.drew.alloc (.cells (xs.toArray ++ news.toArray ++ Builtin.zeroCells z.cells (grownCap w (n + m) old e - (n + m))) e)) S' (some ⟨w.heap.size, 0, none⟩) (n + m) (grownCap w (n + m) old e) e i.size (xs ++ news) := by
    intro old ho row
    have hge := grownCap_ge w (n + m) old e
    have hcm : grownCap w (n + m) old e ≤ maxLen := grownCap_le_maxLen w (n + m) old e h63
    refine ⟨⟨rfl, rfl, rfl, by simp, fun k hk _ => heap_alloc_old w.drew _ hk⟩, fun S' hS' => ⟨hlen, .inr ⟨w.heap.size, 0, _, rfl, hS', heap_alloc_new w.drew _, hge, hcm, ?_, ?_⟩⟩⟩
    · simp only [Array.size_append, List.size_toArray, size_zeroCells, hzs, h.1, hl, ← Nat.add_mul]
      rw [Nat.zero_add]
      refine Nat.le_of_eq ?_
      congr 1
      omega
    · rw [List.drop_zero]
      simp only [Array.toList_append, List.append_assoc]
      rw [← List.append_assoc, ← hlen]
      exact List.take_left
  by_cases hm : m = 0
  · subst hm
    have hn : news = [] := List.eq_nil_of_length_eq_zero (by simpa using hl)
    subst hn
    have hcap := h.cap
    refine ⟨A, c, w, ?_, gr_refl w _, .inl rfl, fun S' hS' _ => by simpa using h.imp hS'⟩
    have hf := run_firstCells_opt (P := P) w i.size 0 cc X [] (by simp) (by simp)
    cases A with
    | none => simp [Builtin.append_, run_underlying ht, sizeOf, typeInfo, hi, Builtin.lenOf, hcap, hf]
    | some a => simp [Builtin.append_, run_underlying ht, sizeOf, typeInfo, hi, Builtin.lenOf, hcap, hf, storeCells]
  · obtain ⟨ad, hX⟩ : ∃ ad, X = some ad := by
      cases news with
      | nil => exact absurd (Nat.mul_pos (by omega : 0 < m) hsz) (by rw [← hl]; simp)
      | cons u r => exact let ⟨ad, h', _⟩ := hnews 0 u rfl; ⟨ad, h'⟩
    subst hX
    rcases h.2 with ⟨rfl, rfl, rfl⟩ | ⟨g, o, cur, rfl, hS, hg, hnc, hcm, hcs, htake⟩
    · have hx : xs = [] := List.eq_nil_of_length_eq_zero (by simpa using h.1)
      subst hx
      have hr := run_append_nil (P := P) w t ty e i z ht hi hz ad m cc news hl (hnews' rfl) (by omega) (by omega) (by have hb := hb; simp only [Nat.zero_add] at hb; omega)
      have hgr := grown 0 (by omega) (obk none)
      simp only [Nat.zero_add, List.nil_append, Array.empty_append] at hgr ⊢
      exact ⟨_, _, _, hr, hgr.1, .inr rfl, fun S' _ hS' => hgr.2 S' hS'⟩
    · by_cases hroom : n + m ≤ c
      · have hfit : o + n * i.size + news.length ≤ cur.size := by
          have h5 : (n + m) * i.size ≤ c * i.size := Nat.mul_le_mul_right _ hroom
          rw [Nat.add_mul] at h5
          omega
        have hr := run_append_room_o (P := P) t ty e i ht hi g o n c cur hg ad m cc news hl (hnews' rfl) hone hroom hfit
        have hgr : w.grownBy (w.setRow g (cur.toList.take (o + n * i.size) ++ news ++ cur.toList.drop (o + n * i.size + news.length)).toArray) (some g) := ⟨rfl, rfl, rfl, by simp, fun k _ hk => setRow_other w g k _ (fun e => hk (by rw [e]))⟩
        refine ⟨_, _, _, hr, hgr, .inl rfl, fun S' hS' _ => ⟨hlen, .inr ⟨g, o, _, rfl, hS' g (Array.getElem?_eq_some_iff.1 hg).1 hS, setRow_heap w g cur _ e _ hg, hroom, hcm, ?_, ?_⟩⟩⟩
        · simp only [List.size_toArray, List.length_append, List.length_take, List.length_drop, Array.length_toList]
          omega
        · have hcl : cur.toList.length = cur.size := Array.length_toList
          have h6 : (cur.toList.take (o + n * i.size)).length = o + n * i.size := by rw [List.length_take, hcl]; omega
          have h7 : (cur.toList.take (o + n * i.size)).drop o = xs := by
            rw [← htake, List.drop_take, show o + n * i.size - o = n * i.size by omega]
          rw [List.append_assoc, List.drop_append_of_le_length (by rw [h6]; omega), h7, ← List.append_assoc, ← hlen]
          exact List.take_left
      · have holds : ∀ j u, xs[j]? = some u → w.cell? ((⟨g, o, none⟩ : Addr).add j) = some u := fun j u hu => by
          rw [add_plain_o]
          rw [← htake, List.getElem?_take] at hu
          split at hu
          · simp only [World.cell?, hg]
            simpa using hu
          · cases hu
        have hr := run_append_grow (P := P) w t ty e i z ht hi hz ⟨g, o, none⟩ n c xs h.1 holds ad m cc news hl (hnews' rfl) (by omega) (by omega) (growslice_fits (by omega) hb)
        have hgr := grown c (by omega) (some g)
        exact ⟨_, _, _, hr, hgr.1, .inr rfl, fun S' _ hS' => hgr.2 S' hS'⟩
/-! ### append as an operation -/
def appAt (l : List (Nat × Value)) (ops : List Oper) (k : Nat) : Option (TypeId × Value × Value × Option Nat) :=
  match ops[k]? with
  | none => none
  | some o => match opOk l ops o, o.op with
    | true, .call ⟨.builtin .append, args, tys⟩ => match args.toList, tys.toList with
      | [x, y], [t, t'] => if Nat.beq t t' = true then some (t, rho l x, rho l y, o.dst) else none
      | _, _ => none
    | _, _ => none
/-- What is asked of the element's type. -/
def elemOk (P : Program) (t e : TypeId) (sz bytes : Nat) : Bool :=
  (match P.underlying t with | some (.slice e') => Nat.beq e e' | _ => false) && (match P.info? e with | some i => (match i.zero with | some z => Nat.beq z.cells.toList.length sz | none => false) && Nat.beq i.size sz && Nat.beq i.bytes bytes | none => false) && Nat.blt 0 sz
theorem append_run {P : Program} {l : List (Nat × Value)} {ops : List Oper} {k : Nat} {o : Oper} (ho : ops[k]? = some o) {w : World} {S : Nat → Prop} {A X : Option Addr} {n c m cc : Nat} {t e : TypeId} {sz bytes : Nat} {xs news : List Value} {d : Option Nat}
    (ha : appAt l ops k = some (t, .slice A n c, .slice X m cc, d)) (hok : elemOk P t e sz bytes = true) (h : Own w S A n c e sz xs) (hl : news.length = m * sz) (hnews : ∀ j u, news[j]? = some u → ∃ ad, X = some ad ∧ w.cell? (ad.add j) = some u) (h1 : ∀ u ∈ news, oneC u = true)
    (hb : (n + m) * bytes ≤ 140737488355328) (h63 : n + m ≤ maxLen) :
    opOk l ops o = true ∧ o.dst = d ∧ ∃ A' c' w', (execOp (rho l) o).run P w = .ok (.value (.slice A' (n + m) c')) w' ∧ w.grownBy w' (obk A) ∧ (A' = A ∨ A' = some ⟨w.heap.size, 0, none⟩) ∧
      (∀ S' : Nat → Prop, (∀ g, g < w.heap.size → S g → S' g) → S' w.heap.size → Own w' S' A' (n + m) c' e sz (xs ++ news)) := by
  unfold appAt at ha
  rw [ho] at ha
  simp only at ha
  split at ha
  · rename_i args tys hok' hop
    split at ha
    · rename_i x y t1 t2 hargs htys
      split at ha
      · rename_i htt
        simp only [Option.some.injEq, Prod.mk.injEq] at ha
        obtain ⟨rfl, hx, hy, hd⟩ := ha
        have htt : t1 = t2 := by simpa using htt
        subst htt
        simp only [elemOk, Bool.and_eq_true] at hok
        obtain ⟨⟨k1, k2⟩, k3⟩ := hok
        split at k1
        · rename_i e' hu
          have k1 : e = e' := by simpa using k1
          subst k1
          split at k2
          · rename_i i hi
            simp only [Bool.and_eq_true] at k2
            obtain ⟨⟨k4, k5⟩, k6⟩ := k2
            split at k4
            · rename_i z hz
              obtain ⟨A', c', w', hr, hg, hA, hO⟩ := own_append (P := P) t1 o.type hu hi hz (by simpa using k5) (by simpa using k6) (by simpa using k4) (by simpa using k3) h X m cc news hl hnews h1 hb h63
              refine ⟨hok', hd, A', c', w', ?_, hg, hA, hO⟩
              have ea : args = #[x, y] := by cases args; simp_all
              have et : tys = #[t1, t1] := by cases tys; simp_all
              subst ea
              subst et
              unfold execOp
              simp only [hop, resolve, invoke, builtin, Sem.run_bind, Sem.run_pure, Result.andThen_ok, List.map_toArray, List.map_cons, List.map_nil, hx, hy, hr]
            · simp at k4
          · simp at k2
        · simp at k1
      · simp at ha
    · simp at ha
  · simp at ha
theorem At.append {P : Program} {n0 : Nat} {ops : Array Oper} {Q : Exit → Act → World → Prop} {k : Nat} {a : Act} {w : World} {l : List (Nat × Value)} (hf : Frm n0 a l) {S : Nat → Prop} {A X : Option Addr} {n c m cc : Nat} {t e : TypeId} {sz bytes : Nat} {xs news : List Value} {d : Nat}
    (ha : appAt l ops.toList k = some (t, .slice A n c, .slice X m cc, some d)) (hok : elemOk P t e sz bytes = true) (hd : Nat.blt d n0 = true) (h : Own w S A n c e sz xs) (hl : news.length = m * sz) (hnews : ∀ j u, news[j]? = some u → ∃ ad, X = some ad ∧ w.cell? (ad.add j) = some u) (h1 : ∀ u ∈ news, oneC u = true)
    (hb : (n + m) * bytes ≤ 140737488355328) (h63 : n + m ≤ maxLen)
    (next : ∀ a' w1 A' c', w.grownBy w1 (obk A) → (A' = A ∨ A' = some ⟨w.heap.size, 0, none⟩) → (∀ S' : Nat → Prop, (∀ g, g < w.heap.size → S g → S' g) → S' w.heap.size → Own w1 S' A' (n + m) c' e sz (xs ++ news)) →
      Frm n0 a' ((d, .slice A' (n + m) c') :: l) → At P ops Q (k + 1) a' w1) : At P ops Q k a w := by
  cases ho : ops.toList[k]? with
  | none => unfold appAt at ha; rw [ho] at ha; simp at ha
  | some o =>
    obtain ⟨hk, hdst, A', c', w', hr, hg, hA, hO⟩ := append_run (P := P) ho ha hok h hl hnews h1 hb h63
    exact At.run hf ho hk hr (l' := (d, .slice A' (n + m) c') :: l) (by rw [hdst]; simp only [putL]; rw [if_pos hd]) (fun a' hf' => next a' w' A' c' hg hA hO hf')
theorem OneH.append {P : Program} {n0 : Nat} {ops : Array Oper} {Q : Exit → Act → World → Prop} {Cs : List (Addr × Value)} {fuel k : Nat} {li : Array Bool} {a : Act} {w : World} {l : List (Nat × Value)} (hf : Frm n0 a l) {S : Nat → Prop} {A X : Option Addr} {n c m cc : Nat} {t e : TypeId} {sz bytes : Nat} {xs news : List Value} {d : Nat} (li' : Array Bool) (hli : li.setIfInBounds k true = li')
    (ha : appAt l ops.toList k = some (t, .slice A n c, .slice X m cc, some d)) (hok : elemOk P t e sz bytes = true) (hd : Nat.blt d n0 = true) (h : Own w S A n c e sz xs) (hl : news.length = m * sz) (hnews : ∀ j u, news[j]? = some u → ∃ ad, X = some ad ∧ w.cell? (ad.add j) = some u) (h1 : ∀ u ∈ news, oneC u = true)
    (hb : (n + m) * bytes ≤ 140737488355328) (h63 : n + m ≤ maxLen)
    (next : ∀ a' w1 A' c', w.grownBy w1 (obk A) → (A' = A ∨ A' = some ⟨w.heap.size, 0, none⟩) → (∀ S' : Nat → Prop, (∀ g, g < w.heap.size → S g → S' g) → S' w.heap.size → Own w1 S' A' (n + m) c' e sz (xs ++ news)) →
      Frm n0 a' ((d, .slice A' (n + m) c') :: l) → HoldsC Cs w1 ∧ AtH P ops Q Cs fuel li' a' w1) : OneH P ops Q Cs fuel li k a w := by
  cases ho : ops.toList[k]? with
  | none => unfold appAt at ha; rw [ho] at ha; simp at ha
  | some o =>
    obtain ⟨hk, hdst, A', c', w', hr, hg, hA, hO⟩ := append_run (P := P) ho ha hok h hl hnews h1 hb h63
    exact OneH.run hf ho hk li' hli hr (.inl rfl) (l' := (d, .slice A' (n + m) c') :: l) (by rw [hdst]; simp only [putL]; rw [if_pos hd]) (fun a' hf' => next a' w' A' c' hg hA hO hf')
theorem HoldsC.grO {Cs : List (Addr × Value)} {w w1 : World} {row : Option Nat} (h : HoldsC Cs w) (g : w.grownBy w1 row) (hne : AllP (Cs.map fun p => row ≠ some p.1.block)) : HoldsC Cs w1 :=
  AllP_map (fun p hp hc => g.cell hc (fun e => AllP_mem hne p hp e.symm)) h
theorem Own.neb {w : World} {S : Nat → Prop} {A : Option Addr} {n c : Nat} {e : TypeId} {sz : Nat} {xs : List Value} (h : Own w S A n c e sz xs) {b : Nat} (hb : ∀ g, S g → some b ≠ some g) : obk A ≠ some b := fun e => hb b (h.inS b e) rfl
theorem own_repl {w : World} {A1 A1' : Option Addr} (hA : A1' = A1 ∨ A1' = some ⟨w.heap.size, 0, none⟩) {g : Nat} (h : obk A1 ≠ some g) (hg : g < w.heap.size) : obk A1' ≠ some g := by
  rcases hA with rfl | rfl
  · exact h
  · intro e
    simp [obk] at e
    omega
theorem slice_len {A : Option Addr} {n n' c : Nat} (h : n = n') : (.slice A n c : Value) = .slice A n' c := by rw [h]

/-! ### Values in rows -/
def ints (l : List Int) : List Value := l.map (Value.int .i64)
theorem ints_length (l : List Int) : (ints l).length = l.length := by simp [ints]
theorem ints_append (l r : List Int) : ints l ++ ints r = ints (l ++ r) := by simp [ints]
theorem ints_get {l : List Int} {j : Nat} (h : j < l.length) : (ints l)[j]? = some (.int .i64 (l.getD j 0)) := by
  simp [ints, List.getElem?_map, List.getElem?_eq_getElem h, List.getD_eq_getElem?_getD]
theorem ints_one (l : List Int) : ∀ u ∈ ints l, oneC u = true := by
  intro u hu
  simp only [ints, List.mem_map] at hu
  obtain ⟨x, _, rfl⟩ := hu
  rfl
theorem Own.ints_len {w : World} {S : Nat → Prop} {A : Option Addr} {n c : Nat} {e : TypeId} {l : List Int} (h : Own w S A n c e 1 (ints l)) : l.length = n := by
  have := h.1
  rw [ints_length] at this
  omega
theorem Own.rdI {w : World} {base : Nat} {os : List (Option Nat)} {A : Option Addr} {n c : Nat} {e : TypeId} {l : List Int} (h : Own w (Sx base os) A n c e 1 (ints l)) (hl : l.length * 8 ≤ 140737488351232) : RdI w base w.heap.size A l := by
  have hn := h.ints_len
  refine ⟨hl, fun i q hi hq => ?_⟩
  obtain rfl : q = 0 := by omega
  obtain ⟨ad, hA, hS, hlt, hc⟩ := h.get (i := i) (q := 0) (by omega) (by omega) (v := .int .i64 (l.getD i 0)) (by rw [show i * 1 + 0 = i by omega]; exact ints_get hi)
  exact ⟨ad, hA, Sx_base hS, hlt, hc⟩
theorem RdI.src {w : World} {lo hi : Nat} {A : Option Addr} {l : List Int} (h : RdI w lo hi A l) : ∀ j u, (ints l)[j]? = some u → ∃ ad, A = some ad ∧ w.cell? (ad.add j) = some u := by
  intro j u hu
  have hj : j < l.length := by
    have := (List.getElem?_eq_some_iff.1 hu).1
    rwa [ints_length] at this
  rw [ints_get hj] at hu
  injection hu with hu
  subst hu
  obtain ⟨ad, hA, _, _, hc⟩ := h.row j 0 hj (by omega)
  exact ⟨ad, hA, by rw [add_zero, Nat.mul_one] at hc; exact hc⟩
/-- A row that lies whole in a block. -/
theorem Bx.src {w : World} {b : Nat} {cs : List Value} {T : TypeId} (h : Bx w b cs T) : ∀ j u, cs[j]? = some u → ∃ ad, (some ⟨b, 0, none⟩ : Option Addr) = some ad ∧ w.cell? (ad.add j) = some u :=
  fun j u hu => ⟨_, rfl, by rw [add_plain]; exact h.cell hu⟩
theorem Bx.own {w : World} {b n : Nat} {cs : List Value} {T : TypeId} {sz : Nat} {S : Nat → Prop} (h : Bx w b cs T) (hS : S b) (hl : cs.length = n * sz) (hn : n ≤ maxLen) : Own w S (some ⟨b, 0, none⟩) n n T sz cs :=
  ⟨hl, .inr ⟨b, 0, cs.toArray, rfl, hS, h, Nat.le_refl _, hn, by simp [hl], by rw [← hl]; simp⟩⟩
end Go.Proofs.YtkkophhnliplhaaDoor
