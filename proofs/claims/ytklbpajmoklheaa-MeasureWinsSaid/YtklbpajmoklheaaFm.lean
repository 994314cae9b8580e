/-
  The frame: a map whose keys are pairs of ints and whose values are ints, in the order in which they came in. No program.
-/
import Derived.Test.YtklbpajmoklheaaFs
import Derived.MapKept
import Derived.WideKeyRuns
set_option linter.unusedVariables false
set_option linter.unusedSimpArgs false
namespace Go.Proofs.Ytklbpajmoklheaa
open Go Go.RowKit Go.MapKept
def key2 (x : Int × Int) : Value := .agg #[.int .i64 x.1, .int .i64 x.2]
def encM (y : (Int × Int) × Int) : Value × Value := (key2 y.1, .int .i64 y.2)
def Mp (w : World) (b : Nat) (L : List ((Int × Int) × Int)) : Prop := ∃ es clock, w.heap[b]? = some (.map es clock) ∧ es.toList.map (fun e => (e.key, e.val)) = L.map encM
def findL (x : Int × Int) : List ((Int × Int) × Int) → Nat → Option (Nat × Value)
  | [], _ => none
  | y :: L, i => if x = y.1 then some (i, .int .i64 y.2) else findL x L (i + 1)
section
variable {P : Program} {kt : TypeId} {w : World} {x : Int × Int}
theorem asking (heq : ∀ a b : Int × Int, (Op.equal kt (key2 a) (key2 b)).run P w = .ok (decide (a = b)) w) : ∀ (es : List MapEntry) (L : List ((Int × Int) × Int)) (i : Nat), es.map (fun e => (e.key, e.val)) = L.map encM →
    (Instr.findAsking kt (key2 x) es i).run P w = .ok (findL x L i) w
  | [], [], i, _ => by simp [Instr.findAsking, findL]
  | [], _ :: _, _, h => by simp at h
  | _ :: _, [], _, h => by simp at h
  | e :: es, y :: L, i, h => by
    simp only [List.map_cons, List.cons.injEq, encM, Prod.mk.injEq] at h
    obtain ⟨⟨h1, h2⟩, h3⟩ := h
    have ih := asking heq es L (i + 1) h3
    by_cases e1 : x = y.1
    · simp [Instr.findAsking, h1, h2, heq, findL, e1, Result.andThen]
    · simp [Instr.findAsking, h1, heq, findL, e1, Result.andThen, ih]
def valL (x : Int × Int) : List ((Int × Int) × Int) → Int
  | [] => 0
  | y :: L => if x = y.1 then y.2 else valL x L
def inL (x : Int × Int) : List ((Int × Int) × Int) → Bool
  | [] => false
  | y :: L => if x = y.1 then true else inL x L
theorem find_yes : ∀ {L : List ((Int × Int) × Int)} (i : Nat), inL x L = true → ∃ j, findL x L i = some (j, .int .i64 (valL x L))
  | [], _, h => by simp [inL] at h
  | y :: L, i, h => by
    unfold inL at h
    unfold findL valL
    by_cases e : x = y.1
    · rw [if_pos e, if_pos e]
      exact ⟨i, rfl⟩
    · rw [if_neg e] at h ⊢
      rw [if_neg e]
      exact find_yes (i + 1) h
theorem find_no : ∀ {L : List ((Int × Int) × Int)} (i : Nat), inL x L = false → findL x L i = none ∧ valL x L = 0
  | [], _, _ => ⟨rfl, rfl⟩
  | y :: L, i, h => by
    unfold inL at h
    unfold findL valL
    by_cases e : x = y.1
    · rw [if_pos e] at h
      cases h
    · rw [if_neg e] at h ⊢
      rw [if_neg e]
      exact find_no (i + 1) h
variable {t et : TypeId} {b : Nat} {L : List ((Int × Int) × Int)}
theorem run_look (hm : P.underlying t = some (.map kt et)) (hwide : (match P.underlying kt with | some (.array _ _) | some (.struct _) => true | _ => false) = true) (hck : ∀ em, (Instr.checkKey em 10000 kt (key2 x)).run P w = .ok () w)
    (heq : ∀ a b : Int × Int, (Op.equal kt (key2 a) (key2 b)).run P w = .ok (decide (a = b)) w) (hz : (zeroValue et).run P w = .ok (.int .i64 0) w) (h : Mp w b L) :
    (Instr.lookup t (.map (some b)) (key2 x) true).run P w = .ok (.tuple #[.int .i64 (valL x L), .bool (inL x L)]) w := by
  obtain ⟨es, clock, hb, hl⟩ := h
  have hf := (run_findKey_eq (w := w) hwide (key2 x) es.toList).trans (asking heq es.toList L 0 hl)
  cases e : inL x L with
  | true =>
    obtain ⟨j, hj⟩ := find_yes (x := x) 0 e
    rw [hj] at hf
    simp [Instr.lookup, run_underlying hm, Go.MapKept.run_getObj_map hb, hck, hf, Result.andThen]
  | false =>
    obtain ⟨h1, h2⟩ := find_no (x := x) 0 e
    rw [h1] at hf
    simp [Instr.lookup, run_underlying hm, Go.MapKept.run_getObj_map hb, hck, hf, hz, h2, Result.andThen]
theorem run_put (hm : P.underlying t = some (.map kt et)) (hwide : (match P.underlying kt with | some (.array _ _) | some (.struct _) => true | _ => false) = true) (hck : ∀ em, (Instr.checkKey em 10000 kt (key2 x)).run P w = .ok () w)
    (heq : ∀ a b : Int × Int, (Op.equal kt (key2 a) (key2 b)).run P w = .ok (decide (a = b)) w) (h : Mp w b L) (hn : inL x L = false) (v : Int) :
    ∃ w1, (Instr.mapUpdate t (.map (some b)) (key2 x) (.int .i64 v)).run P w = .ok () w1 ∧ w.grownBy w1 (some b) ∧ Mp w1 b (L ++ [(x, v)]) := by
  obtain ⟨es, clock, hb, hl⟩ := h
  have hf := (run_findKey_eq (w := w) hwide (key2 x) es.toList).trans (asking heq es.toList L 0 hl)
  rw [(find_no (x := x) 0 hn).1] at hf
  refine ⟨{ w with heap := w.heap.setIfInBounds b (.map (es.push ⟨key2 x, .int .i64 v, clock⟩) (clock + 1)) }, ?_, ?_, ?_⟩
  · simp [Instr.mapUpdate, run_underlying hm, Go.MapKept.run_getObj_map hb, hck, hf, Go.MapKept.run_setObj_map _ hb, Result.andThen]
  · exact ⟨rfl, rfl, rfl, by simp, fun k _ hk => by
      show (w.heap.setIfInBounds b _)[k]? = w.heap[k]?
      rw [Array.getElem?_setIfInBounds_ne (fun e => hk (by rw [e]))]⟩
  · refine ⟨es.push ⟨key2 x, .int .i64 v, clock⟩, clock + 1, ?_, ?_⟩
    · show (w.heap.setIfInBounds b _)[b]? = _
      have hlt : b < w.heap.size := by
        rcases Nat.lt_or_ge b w.heap.size with h2 | h2
        · exact h2
        · rw [Array.getElem?_eq_none h2] at hb
          cases hb
      rw [Array.getElem?_setIfInBounds_self_of_lt hlt]
    · rw [Array.toList_push, List.map_append, List.map_append, hl]
      rfl
theorem Mp.gr {w1 : World} {row : Option Nat} (h : Mp w b L) (hg : w.grownBy w1 row) (hne : row ≠ some b) : Mp w1 b L := by
  obtain ⟨es, clock, hb, hl⟩ := h
  have hlt : b < w.heap.size := by
    rcases Nat.lt_or_ge b w.heap.size with h2 | h2
    · exact h2
    · rw [Array.getElem?_eq_none h2] at hb
      cases hb
  exact ⟨es, clock, (hg.block b hlt (fun e => hne e.symm)).trans hb, hl⟩
theorem Mp.lt (h : Mp w b L) : b < w.heap.size := by
  obtain ⟨es, clock, hb, hl⟩ := h
  rcases Nat.lt_or_ge b w.heap.size with h2 | h2
  · exact h2
  · rw [Array.getElem?_eq_none h2] at hb
    cases hb
theorem Mp.as {L' : List ((Int × Int) × Int)} (h : Mp w b L) (e : L = L') : Mp w b L' := by subst e; exact h
theorem Mp.new : Mp (w.alloc (.map #[] 0)) w.heap.size [] := ⟨#[], 0, heap_alloc_new w _, rfl⟩
end
/-! ### The operations -/
def lookAt (l : List (Nat × Value)) (ops : List Oper) (k : Nat) : Option (TypeId × Value × Value × Option Nat) :=
  match ops[k]? with
  | none => none
  | some o => match opOk l ops o, o.op with
    | true, .lookup t m x true => some (t, rho l m, rho l x, o.dst)
    | _, _ => none
def putAt (l : List (Nat × Value)) (ops : List Oper) (k : Nat) : Option (TypeId × Value × Value × Value) :=
  match ops[k]? with
  | none => none
  | some o => match opOk l ops o, o.op, o.dst with
    | true, .mapUpdate t m x v, none => some (t, rho l m, rho l x, rho l v)
    | _, _, _ => none
def newAt (l : List (Nat × Value)) (ops : List Oper) (k : Nat) : Option (TypeId × Option Nat) :=
  match ops[k]? with
  | none => none
  | some o => match opOk l ops o, o.op with
    | true, .makeMap t none => some (t, o.dst)
    | _, _ => none
section
variable {P : Program} {l : List (Nat × Value)} {ops : List Oper} {k d : Nat} {w : World} {t kt et : TypeId} {b : Nat} {L : List ((Int × Int) × Int)} {x y : Int}
/-- What a program's type of pairs must tell of its keys. -/
structure KeyT (P : Program) (t kt et : TypeId) : Prop where
  m : P.underlying t = some (.map kt et)
  wide : (match P.underlying kt with | some (.array _ _) | some (.struct _) => true | _ => false) = true
  ck : ∀ em x w, (Instr.checkKey em 10000 kt (key2 x)).run P w = .ok () w
  eq : ∀ a b : Int × Int, ∀ w, (Op.equal kt (key2 a) (key2 b)).run P w = .ok (decide (a = b)) w
  z : ∀ w, (zeroValue et).run P w = .ok (.int .i64 0) w
theorem lookM (K : KeyT P t kt et) (ha : lookAt l ops k = some (t, .map (some b), .agg #[.int .i64 x, .int .i64 y], some d)) (h : Mp w b L) :
    ActOp P l ops k w fun d' v w1 => d' = some d ∧ v = .tuple #[.int .i64 (valL (x, y) L), .bool (inL (x, y) L)] ∧ w1 = w := by
  unfold lookAt at ha
  cases ho : ops[k]? with
  | none => rw [ho] at ha; simp at ha
  | some o =>
    rw [ho] at ha
    simp only at ha
    split at ha
    · rename_i t' a c hok' hop
      simp only [Option.some.injEq, Prod.mk.injEq] at ha
      obtain ⟨rfl, ha1, ha2, hd⟩ := ha
      have hr := run_look (x := (x, y)) K.m K.wide (fun em => K.ck em _ w) (fun a b => K.eq a b w) (K.z w) h
      refine ⟨o, ho, hok', .value _, _, w, ?_, .inl rfl, hd, rfl, rfl⟩
      simp only [execOp, hop, ha1, ha2]
      simp [show (.agg #[.int .i64 x, .int .i64 y] : Value) = key2 (x, y) from rfl, hr]
    · simp at ha
theorem putM (K : KeyT P t kt et) {v : Int} (ha : putAt l ops k = some (t, .map (some b), .agg #[.int .i64 x, .int .i64 y], .int .i64 v)) (h : Mp w b L) (hn : inL (x, y) L = false) :
    ActOp P l ops k w fun d' v' w1 => d' = none ∧ w.grownBy w1 (some b) ∧ Mp w1 b (L ++ [((x, y), v)]) := by
  unfold putAt at ha
  cases ho : ops[k]? with
  | none => rw [ho] at ha; simp at ha
  | some o =>
    rw [ho] at ha
    simp only at ha
    split at ha
    · rename_i t' a c e hok' hop hdst
      simp only [Option.some.injEq, Prod.mk.injEq] at ha
      obtain ⟨rfl, ha1, ha2, ha3⟩ := ha
      obtain ⟨w1, hr, hg, hM⟩ := run_put (x := (x, y)) K.m K.wide (fun em => K.ck em _ w) (fun a b => K.eq a b w) h hn v
      refine ⟨o, ho, hok', .skip, undef, w1, ?_, .inr ⟨rfl, rfl⟩, hdst, hg, hM⟩
      simp only [execOp, hop, ha1, ha2, ha3]
      simp [show (.agg #[.int .i64 x, .int .i64 y] : Value) = key2 (x, y) from rfl, hr]
    · simp at ha
theorem newM (ha : newAt l ops k = some (t, some d)) :
    ActOp P l ops k w fun d' v w1 => d' = some d ∧ v = .map (some w.heap.size) ∧ w.grownBy w1 none ∧ Mp w1 w.heap.size [] := by
  unfold newAt at ha
  cases ho : ops[k]? with
  | none => rw [ho] at ha; simp at ha
  | some o =>
    rw [ho] at ha
    simp only at ha
    split at ha
    · rename_i t' hok' hop
      simp only [Option.some.injEq, Prod.mk.injEq] at ha
      obtain ⟨rfl, hd⟩ := ha
      refine ⟨o, ho, hok', .value _, .map (some w.heap.size), w.alloc (.map #[] 0), ?_, .inl rfl, hd, rfl, World.grownBy_alloc w _ none, Mp.new⟩
      simp only [execOp, hop]
      simp [Instr.makeMap]
    · simp at ha
end
/-! ### Pairs as elements; parts of slices that are read -/
abbrev Pr2 := Int × Int
instance : Enc Pr2 := ⟨fun x => [.int .i64 x.1, .int .i64 x.2], 2, (0, 0), fun _ => rfl, fun x u h => by simp at h; rcases h with rfl | rfl <;> rfl, by decide, 16, by decide⟩
theorem pr2_beq (a b : Pr2) : (((a.1 : Int) == b.1) && (((a.2 : Int) == b.2) && true)) = decide (a = b) := by
  rw [Bool.eq_iff_iff]
  simp [Prod.ext_iff]
theorem RdI.take {w : World} {lo hi : Nat} {A : Option Addr} {l : List Int} (h : RdI w lo hi A l) (k : Nat) : RdI w lo hi A (l.take k) := by
  refine ⟨by have := h.len; rw [List.length_take]; omega, fun i q hi hq => ?_⟩
  rw [List.length_take] at hi
  obtain ⟨ad, hA, h1, h2, hc⟩ := h.row i q (by omega) hq
  refine ⟨ad, hA, h1, h2, ?_⟩
  simp only [List.getD_eq_getElem?_getD] at hc ⊢
  rw [List.getElem?_take_of_lt (by omega)]
  exact hc
theorem RdI.drop {w : World} {lo hi c : Nat} {A : Option Addr} {l : List Int} (h : RdI w lo hi A l) (k : Nat) (hc : l.length ≤ c) (hk : k ≤ l.length) : RdI w lo hi (if c = k then A else Option.map (fun a_ : Addr => a_.add (k * 1)) A) (l.drop k) := by
  refine ⟨by have := h.len; rw [List.length_drop]; omega, fun i q hi hq => ?_⟩
  rw [List.length_drop] at hi
  obtain ⟨ad, hA, h1, h2, hc⟩ := h.row (k + i) q (by omega) hq
  rw [if_neg (by omega), hA]
  refine ⟨ad.add (k * 1), rfl, by rw [add_block]; exact h1, by rw [add_block]; exact h2, ?_⟩
  simp only [List.getD_eq_getElem?_getD] at hc ⊢
  rw [List.getElem?_drop, add_add' ad, show k * 1 + i * 1 = (k + i) * 1 by omega]
  exact hc
theorem Bx.rdI1 {w : World} {b : Nat} {cs : List Value} {T : TypeId} {l : List Int} (h : Bx w b cs T) (e : cs = ints l) (hl : l.length * 8 ≤ 140737488351232) : RdI w b (b + 1) (some ⟨b, 0, none⟩) l := by
  have h2 := h.rdI e hl
  refine ⟨h2.len, fun i q hi hq => ?_⟩
  obtain ⟨ad, hA, _, _, hc⟩ := h2.row i q hi hq
  injection hA with hA
  subst hA
  exact ⟨_, rfl, Nat.le_refl _, Nat.lt_succ_self _, hc⟩
/-! ### A list of pairs, told by its places -/
def numL : Nat → List (Int × Int) → List ((Int × Int) × Int)
  | _, [] => []
  | n, s :: l => (s, (n : Int)) :: numL (n + 1) l
theorem num_push (x : Int × Int) : ∀ (l : List (Int × Int)) (n : Nat), numL n (l ++ [x]) = numL n l ++ [(x, ((n + l.length : Nat) : Int))]
  | [], n => rfl
  | s :: l, n => by
    show _ :: numL (n + 1) (l ++ [x]) = _ :: (numL (n + 1) l ++ _)
    rw [num_push x l (n + 1), show n + 1 + l.length = n + (s :: l).length by simp only [List.length_cons]; omega]
theorem num_in (x : Int × Int) : ∀ (l : List (Int × Int)) (n : Nat), inL x (numL n l) = decide (x ∈ l)
  | [], n => by simp [numL, inL]
  | s :: l, n => by
    show (if x = s then true else inL x (numL (n + 1) l)) = _
    by_cases e : x = s
    · rw [if_pos e]
      simp [e]
    · rw [if_neg e, num_in x l (n + 1)]
      simp [e]
theorem num_val (x : Int × Int) : ∀ (l : List (Int × Int)) (n : Nat), x ∈ l → ∃ k : Nat, valL x (numL n l) = ((n + k : Nat) : Int) ∧ l[k]? = some x
  | [], n, h => by simp at h
  | s :: l, n, h => by
    show ∃ k : Nat, (if x = s then ((n : Nat) : Int) else valL x (numL (n + 1) l)) = _ ∧ _
    by_cases e : x = s
    · rw [if_pos e]
      exact ⟨0, rfl, by rw [e]; rfl⟩
    · rw [if_neg e]
      obtain ⟨k, h1, h2⟩ := num_val x l (n + 1) (by simpa [e] using h)
      exact ⟨k + 1, by rw [h1, show n + 1 + k = n + (k + 1) by omega], by simpa using h2⟩
end Go.Proofs.Ytklbpajmoklheaa
