/-
  The frame of the walks: frames, runs of operations, regions, calls, control, blocks, regions that act in a drawn order. Conditions: none; plain definitions and lemmas, over any program.
-/
import Derived.Test.YtklbpajmoklheaaBase
import Derived.Still
import Derived.OrdersHeld
import Derived.Laws.StructEq
import Derived.Laws.Cells
set_option linter.unusedVariables false
namespace Go.Proofs.Ytklbpajmoklheaa
open Go Go.RowKit

/-! ### Frames -/
def look : List (Nat × Value) → Nat → Option Value
  | [], _ => none
  | (i, v) :: r, t => if Nat.beq i t = true then some v else look r t
def opd (l : List (Nat × Value)) : Operand → Option Value
  | .tmp t => look l t
  | .const v => some v
  | .global g => some (.pointer (some ⟨g, 0, none⟩))
  | .func f => some (.func (.func f) #[] #[])
def rho (l : List (Nat × Value)) (x : Operand) : Value := (opd l x).getD undef
def known (l : List (Nat × Value)) (o : Oper) : Bool := o.op.operands.toList.all fun x => (opd l x).isSome
def notSel (o : Oper) : Bool := match o.op with | .select _ _ => false | _ => true
/-- What is known of a frame of n slots. -/
structure Frm (n : Nat) (a : Act) (l : List (Nat × Value)) : Prop where
  size : a.tmps.size = n
  defs : a.defers = []
  val : ∀ t v, look l t = some v → a.tmps.getD t undef = v
  lt : ∀ t v, look l t = some v → t < n
theorem Frm.opd {n : Nat} {a : Act} {l : List (Nat × Value)} (h : Frm n a l) {x : Operand} {v : Value} (hx : opd l x = some v) : a.eval x = v := by
  cases x with
  | tmp t => exact h.val t v hx
  | const u => exact Option.some.inj hx
  | global g => exact Option.some.inj hx
  | func f => exact Option.some.inj hx
theorem Frm.exec {n : Nat} {a : Act} {l : List (Nat × Value)} (h : Frm n a l) {o : Oper} (hk : known l o = true) (hs : notSel o = true) : execOp a.eval o = execOp (rho l) o := by
  refine execOp_congr o (fun cs b he => by simp [notSel, he] at hs) (fun x hx => ?_)
  have h1 := List.all_eq_true.1 hk x (by simpa using hx)
  obtain ⟨v, hv⟩ := Option.isSome_iff_exists.1 h1
  rw [h.opd hv, rho, hv]
  rfl
theorem look_cons_eq (l : List (Nat × Value)) (d : Nat) (v : Value) : look ((d, v) :: l) d = some v := by simp [look]
theorem look_cons_ne (l : List (Nat × Value)) {d t : Nat} (v : Value) (h : d ≠ t) : look ((d, v) :: l) t = look l t := by simp [look, h]
theorem Frm.put {n : Nat} {a : Act} {l : List (Nat × Value)} (h : Frm n a l) {d : Nat} (hd : d < n) (v : Value) : Frm n (a.put (some d) v) ((d, v) :: l) := by
  refine ⟨by simp [Act.put, h.size], by simp [Act.put, h.defs], fun t u hu => ?_, fun t u hu => ?_⟩
  rotate_left
  · by_cases hdt : d = t
    · omega
    · rw [look_cons_ne l v hdt] at hu
      exact h.lt t u hu
  by_cases hdt : d = t
  · subst hdt
    rw [look_cons_eq] at hu
    injection hu with hu
    subst hu
    simp [Act.put, h.size, hd]
  · rw [look_cons_ne l v hdt] at hu
    have := h.val t u hu
    simp only [Act.put, Array.getD_eq_getD_getElem?] at this ⊢
    rw [Array.getElem?_setIfInBounds_ne hdt]
    exact this
theorem Frm.put' {n : Nat} {a : Act} {l : List (Nat × Value)} (h : Frm n a l) {d : Option Nat} (hd : ∀ t, d = some t → t < n) (v : Value) :
    Frm n (a.put d v) (match d with | some t => (t, v) :: l | none => l) := by
  cases d with
  | none => exact ⟨by simp [Act.put, h.size], by simp [Act.put, h.defs], fun t u hu => by simpa [Act.put] using h.val t u hu, h.lt⟩
  | some t => exact h.put (hd t rfl) v
/-- A smaller list, each of whose slots is the same. -/
def subL (l : List (Nat × Value)) : List (Nat × Value) → Prop
  | [] => True
  | (t, v) :: r => look l t = some v ∧ subL l r
theorem subL_look {l : List (Nat × Value)} : ∀ {r : List (Nat × Value)}, subL l r → ∀ t v, look r t = some v → look l t = some v
  | [], _, _, _, h => by simp [look] at h
  | (i, u) :: r, hs, t, v, h => by
    by_cases hi : i = t
    · subst hi
      rw [look_cons_eq] at h
      injection h with h
      subst h
      exact hs.1
    · rw [look_cons_ne r u hi] at h
      exact subL_look hs.2 t v h
theorem Frm.sub {n : Nat} {a : Act} {l r : List (Nat × Value)} (h : Frm n a l) (hs : subL l r) : Frm n a r := ⟨h.size, h.defs, fun t v hv => h.val t v (subL_look hs t v hv), fun t v hv => h.lt t v (subL_look hs t v hv)⟩

/-- A slot's value, said otherwise. -/
theorem Frm.as {n : Nat} {a : Act} {l : List (Nat × Value)} (h : Frm n a l) (t : Nat) (v u : Value) (hl : look l t = some v) (e : v = u) : Frm n a ((t, u) :: l) := by
  subst e
  refine ⟨h.size, h.defs, fun t' v' hv => ?_, fun t' v' hv => ?_⟩
  · by_cases ht : t = t'
    · subst ht
      rw [look_cons_eq] at hv
      injection hv with hv
      subst hv
      exact h.val t v hl
    · rw [look_cons_ne l v ht] at hv
      exact h.val t' v' hv
  · by_cases ht : t = t'
    · subst ht
      exact h.lt t v hl
    · rw [look_cons_ne l v ht] at hv
      exact h.lt t' v' hv

/-! ### What an operation asks of the world -/
inductive Orc where
  | ld (v : Value)
  | ad (a : Addr)
  | as_ (v : Value)
  | cs (l : List Value)
def AllP : List Prop → Prop
  | [] => True
  | p :: r => p ∧ AllP r
theorem AllP_append {l r : List Prop} (h : AllP (l ++ r)) : AllP l ∧ AllP r := by
  induction l with
  | nil => exact ⟨trivial, h⟩
  | cons p l ih => exact ⟨⟨h.1, (ih h.2).1⟩, (ih h.2).2⟩
structure Rs (α : Type) where
  x : α
  w : World
  ob : List Prop
  os : List Orc
def symS {α : Type} (P : Program) (rd : Bool) (C : World → Addr → Value → Prop) : Sem α → World → List Orc → Option (Rs α)
  | .pure a, w, os => some ⟨a, w, [], os⟩
  | .load _ ad k, w, .ld v :: os => match symS P rd C (k v) w os with
    | some r => some ⟨r.x, r.w, (C w ad v) :: r.ob, r.os⟩
    | none => none
  | .store _ ad v k, w, os => match rd, v with
    | true, _ => none
    | false, .agg _ => none
    | false, .tuple _ => none
    | false, v => match symS P rd C k (w.setCell ad v) os with
      | some r => some ⟨r.x, r.w, ((w.cell? ad).isSome = true) :: (w.frozen? ad = false) :: r.ob, r.os⟩
      | none => none
  | .new o k, w, os => match rd with
    | true => none
    | false => symS P rd C (k w.heap.size) (w.alloc o) os
  | .program k, w, os => symS P rd C (k P) w os
  | _, _, _ => none
theorem symS_lex {α : Type} {P : Program} {C : World → Addr → Value → Prop} (hC : ∀ w ad v, C w ad v → w.cell? ad = some v) (s : Sem α) :
    ∀ {w : World} {os : List Orc} {r : Rs α}, symS P false C s w os = some r → AllP r.ob → s.run P w = .ok r.x r.w := by
  induction s with
  | pure a => intro w os r h _; simp only [symS, Option.some.injEq] at h; subst h; rfl
  | load m ad k ih =>
    intro w os r h hob
    cases os with
    | nil => simp [symS] at h
    | cons q os =>
      cases q with
      | ld v =>
        simp only [symS] at h
        cases hk : symS P false C (k v) w os with
        | none => simp [hk] at h
        | some r' =>
          simp only [hk, Option.some.injEq] at h
          subst h
          have := ih v hk hob.2
          simp only [Sem.run, hC _ _ _ hob.1]
          exact this
      | ad _ => simp [symS] at h
      | as_ _ => simp [symS] at h
      | cs _ => simp [symS] at h
  | store m ad v k ih =>
    intro w os r h hob
    cases v with
    | agg _ => simp [symS] at h
    | tuple _ => simp [symS] at h
    | _ =>
      simp only [symS] at h
      split at h
      · rename_i r' hk
        simp only [Option.some.injEq] at h
        subst h
        obtain ⟨u, hu⟩ := Option.isSome_iff_exists.1 hob.1
        have := ih hk hob.2.2
        have hf := hob.2.1
        simp only [Sem.run, hu, hf]
        exact this
      · simp at h
  | new o k ih =>
    intro w os r h hob
    simp only [symS] at h
    exact ih _ h hob
  | program k ih =>
    intro w os r h hob
    simp only [symS] at h
    simp only [Sem.run]
    exact ih _ h hob
  | _ => intro w os r h _; simp [symS] at h
theorem symS_rd {α : Type} {P : Program} {C : World → Addr → Value → Prop} (s : Sem α) :
    ∀ {w : World} {os : List Orc} {r : Rs α}, symS P true C s w os = some r → AllP r.ob → r.w = w ∧ ∀ w2 : World, (∀ ad v, C w ad v → w2.cell? ad = some v) → s.run P w2 = .ok r.x w2 := by
  induction s with
  | pure a => intro w os r h _; simp only [symS, Option.some.injEq] at h; subst h; exact ⟨rfl, fun _ _ => rfl⟩
  | load m ad k ih =>
    intro w os r h hob
    cases os with
    | nil => simp [symS] at h
    | cons q os =>
      cases q with
      | ld v =>
        simp only [symS] at h
        cases hk : symS P true C (k v) w os with
        | none => simp [hk] at h
        | some r' =>
          simp only [hk, Option.some.injEq] at h
          subst h
          have := ih v hk hob.2
          refine ⟨this.1, fun w2 h2 => ?_⟩
          simp only [Sem.run, h2 _ _ hob.1]
          exact this.2 w2 h2
      | ad _ => simp [symS] at h
      | as_ _ => simp [symS] at h
      | cs _ => simp [symS] at h
  | store m ad v k ih => intro w os r h _; simp [symS] at h
  | new o k ih => intro w os r h _; simp [symS] at h
  | program k ih =>
    intro w os r h hob
    simp only [symS] at h
    have := ih _ h hob
    exact ⟨this.1, fun w2 h2 => by simp only [Sem.run]; exact this.2 w2 h2⟩
  | _ => intro w os r h _; simp [symS] at h

theorem run_some_underlying {P : Program} {t : TypeId} {d : TypeDesc} (h : P.underlying t = some d) (w : World) : (underlying t).run P w = .ok d w := by
  simp [underlying, program, Sem.run, h, pure, bind, Sem.bind]
/-! ### Equality of structs and arrays -/
def partP (P : Program) (t : TypeId) (cs : Array Value) (off : Nat) : Option Value :=
  match P.underlying t with
  | some (.struct _) => match P.info? t with | some i => some (.agg (cs.extract off (off + i.size))) | none => none
  | some (.array _ _) => match P.info? t with | some i => some (.agg (cs.extract off (off + i.size))) | none => none
  | some _ => cs[off]?
  | none => none
def eqFs (P : Program) (E : TypeId → Value → Value → Option Bool) (xs ys : Array Value) : List Field → Option Bool
  | [] => some true
  | f :: fs => if f.name = "_" then none else match partP P f.type xs f.offset, partP P f.type ys f.offset with
    | some a, some b => match E f.type a b, eqFs P E xs ys fs with
      | some r, some s => some (r && s)
      | _, _ => none
    | _, _ => none
def eqAs (P : Program) (E : TypeId → Value → Value → Option Bool) (e : TypeId) (n : Nat) (xs ys : Array Value) : List Nat → Option Bool
  | [] => some true
  | i :: is => match partP P e xs (i * n), partP P e ys (i * n) with
    | some a, some b => match E e a b, eqAs P E e n xs ys is with
      | some r, some s => some (r && s)
      | _, _ => none
    | _, _ => none
def eqV (P : Program) : Nat → TypeId → Value → Value → Option Bool
  | 0, _, _, _ => none
  | d + 1, t, x, y => match P.underlying t, x, y with
    | some .bool, .bool a, .bool b => some (a == b)
    | some (.int _), .int k a, .int k' b => if k = k' then some (a == b) else none
    | some (.struct fs), .agg xs, .agg ys => if P.stoodInHeld t then none else eqFs P (eqV P d) xs ys fs.toList
    | some (.array len e), .agg xs, .agg ys => match P.info? e with
      | some i => eqAs P (eqV P d) e i.size xs ys (List.range' 0 len)
      | none => none
    | _, _, _ => none
theorem partP_sound {P : Program} {t : TypeId} {cs : Array Value} {off : Nat} {v : Value} (h : partP P t cs off = some v) (w : World) : (part t cs off).run P w = .ok v w := by
  unfold partP at h
  split at h
  · rename_i fs hu
    split at h
    · rename_i i hi
      simp only [Option.some.injEq] at h
      subst h
      simp [part, isAgg, run_some_underlying hu, sizeOf, typeInfo, hi]
    · simp at h
  · rename_i n e hu
    split at h
    · rename_i i hi
      simp only [Option.some.injEq] at h
      subst h
      simp [part, isAgg, run_some_underlying hu, sizeOf, typeInfo, hi]
    · simp at h
  · rename_i d h1 h2 hu
    have e : (isAgg t).run P w = .ok false w := by
      simp only [isAgg, Sem.run_bind, run_some_underlying hu, Result.andThen_ok]
      cases d <;> first | rfl | (exact absurd rfl (h1 _)) | (exact absurd rfl (h2 _ _))
    simp only [part, Sem.run_bind, e, Result.andThen_ok]
    simp [h]
  · simp at h
theorem eqFs_sound {P : Program} {d : Nat} (ih : ∀ {t x y b}, eqV P d t x y = some b → ∀ w, (Op.equalIn d t x y).run P w = .ok b w) (xs ys : Array Value) : ∀ {fs : List Field} {b : Bool}, eqFs P (eqV P d) xs ys fs = some b → ∀ w, (Op.eqFields d xs ys fs).run P w = .ok b w
  | [], b, h, w => by
    simp only [eqFs, Option.some.injEq] at h
    subst h
    simp [Op.eqFields]
  | f :: fs, b, h, w => by
    unfold eqFs at h
    split at h
    · simp at h
    · rename_i hn
      split at h
      · rename_i a c ha hc
        split at h
        · rename_i r s hr hs
          simp only [Option.some.injEq] at h
          subst h
          have h1 := eqFs_sound ih xs ys hs w
          simp only [Op.eqFields, Sem.run_bind, Sem.run_ite, ne_eq, hn, not_false_eq_true, if_true, partP_sound ha, partP_sound hc, Result.andThen_ok, ih hr]
          cases r
          · simp
          · simpa using h1
        · simp at h
      · simp at h
theorem eqAs_sound {P : Program} {d : Nat} (ih : ∀ {t x y b}, eqV P d t x y = some b → ∀ w, (Op.equalIn d t x y).run P w = .ok b w) (e : TypeId) (n : Nat) (xs ys : Array Value) : ∀ {is : List Nat} {b : Bool}, eqAs P (eqV P d) e n xs ys is = some b → ∀ w : World,
    (forIn is ((none : Option Bool), PUnit.unit) fun i _ => (do
      let a ← part e xs (i * n)
      let b ← part e ys (i * n)
      let r ← Op.equalIn d e a b
      if r = false then pure (ForInStep.done (some false, PUnit.unit)) else pure (ForInStep.yield (none, PUnit.unit)) : Sem (ForInStep (Option Bool × PUnit)))).run P w = .ok (if b = true then (none, PUnit.unit) else (some false, PUnit.unit)) w
  | [], b, h, w => by
    simp only [eqAs, Option.some.injEq] at h
    subst h
    simp
  | i :: is, b, h, w => by
    unfold eqAs at h
    split at h
    · rename_i a c ha hc
      split at h
      · rename_i r s hr hs
        simp only [Option.some.injEq] at h
        subst h
        have h1 := eqAs_sound ih e n xs ys hs w
        simp only [List.forIn_cons, Sem.run_bind, partP_sound ha, partP_sound hc, Result.andThen_ok, ih hr]
        cases r
        · simp
        · simpa using h1
      · simp at h
    · simp at h
theorem eqV_sound {P : Program} : ∀ {d : Nat} {t : TypeId} {x y : Value} {b : Bool}, eqV P d t x y = some b → ∀ w, (Op.equalIn d t x y).run P w = .ok b w := by
  intro d
  induction d with
  | zero => intro t x y b h; simp [eqV] at h
  | succ d ih =>
    intro t x y b h w
    unfold eqV at h
    split at h
    · rename_i a c hu
      simp only [Option.some.injEq] at h
      subst h
      simp [Op.equalIn, run_some_underlying hu]
    · rename_i k0 k a k' c hu
      split at h
      · rename_i hk
        subst hk
        simp only [Option.some.injEq] at h
        subst h
        simp [Op.equalIn, run_some_underlying hu]
      · simp at h
    · rename_i fs xs ys hu
      split at h
      · simp at h
      · rename_i hst
        have hf : P.underlying t = some (.struct (P.fieldsOf t)) := by rw [hu]; simp [Program.fieldsOf, hu]
        rw [run_equalIn_struct w d t xs ys hf (by simpa using hst)]
        have : P.fieldsOf t = fs := by rw [hu] at hf; simpa using hf.symm
        rw [this]
        exact eqFs_sound ih xs ys h w
    · rename_i len e xs ys hu
      split at h
      · rename_i i hi
        have := eqAs_sound ih e i.size xs ys h w
        simp only [Op.equalIn, Sem.run_bind, run_some_underlying hu, Result.andThen_ok]
        simp only [sizeOf, typeInfo, Sem.run_bind]
        simp [hi]
        rw [this]
        cases b <;> simp
      · simp at h
    · simp at h
/-- A string's byte. -/
def byteAt (s : ByteArray) (i : Int) : Int := ((s[i.toNat]?).map (fun b => (b.toNat : Int))).getD 0
def aggB (P : Program) (t : TypeId) : Bool := match P.underlying t with | some (.struct _) => true | some (.array _ _) => true | _ => false
/-- Operations that ask for facts on numbers, and loads of wholes: what they give. -/
def symX (P : Program) (C : Addr → Value → Prop) (ρ : Operand → Value) (o : Oper) (os : List Orc) : Option (Value × List Prop × List Orc) :=
  match o.op with
  | .load t x =>
    match ρ x, os with
    | .pointer (some a), .cs cs :: os => match P.info? t, aggB P t with
      | some inf, true => some (.agg cs.toArray, [cs.length = inf.size, ∀ (j : Nat) (v : Value), cs[j]? = some v → C (a.add j) v], os)
      | _, _ => none
    | _, _ => none
  | .indexAddr t x i =>
    match P.underlying t, ρ x, ρ i, os with
    | some (.slice e), .slice A n _, .int _ i, .ad a :: os => match P.info? e with
      | some inf => some (.pointer (some (a.add (i.toNat * inf.size))), [A = some a, 0 ≤ i, i < (n : Int)], os)
      | none => none
    | some (.array n e), .pointer (some a), .int _ i, os => match P.info? e with
      | some inf => some (.pointer (some (a.add (i.toNat * inf.size))), [0 ≤ i, i < (n : Int)], os)
      | none => none
    | _, _, _, _ => none
  | .index t x i =>
    match P.underlying t, ρ x, ρ i, os with
    | some .string, .string s, .int _ i, os => some (.int .u8 (byteAt s i), [0 ≤ i, i < (s.size : Int)], os)
    | some (.array n e), .agg cs, .int _ i, .ld v :: os => match P.info? e, P.underlying e with
      | some inf, some (.int _) => some (v, [0 ≤ i, i < (n : Int), cs[i.toNat * inf.size]? = some v], os)
      | some inf, some .bool => some (v, [0 ≤ i, i < (n : Int), cs[i.toNat * inf.size]? = some v], os)
      | _, _ => none
    | _, _, _, _ => none
  | .binOp .eql t x y _ =>
    match ρ x, ρ y, os with
    | .agg xs, .agg ys, .cs l :: .cs r :: os => match P.eqGuardType P.depth t, eqV P 10000 t (.agg l.toArray) (.agg r.toArray) with
      | false, some b => some (.bool b, [xs = l.toArray, ys = r.toArray], os)
      | _, _ => none
    | .agg xs, .agg ys, os => match P.eqGuardType P.depth t, eqV P 10000 t (.agg xs) (.agg ys) with
      | false, some b => some (.bool b, [], os)
      | _, _ => none
    | _, _, _ => none
  | .binOp .neq t x y _ =>
    match ρ x, ρ y, os with
    | .agg xs, .agg ys, .cs l :: .cs r :: os => match P.eqGuardType P.depth t, eqV P 10000 t (.agg l.toArray) (.agg r.toArray) with
      | false, some b => some (.bool (!b), [xs = l.toArray, ys = r.toArray], os)
      | _, _ => none
    | .agg xs, .agg ys, os => match P.eqGuardType P.depth t, eqV P 10000 t (.agg xs) (.agg ys) with
      | false, some b => some (.bool (!b), [], os)
      | _, _ => none
    | _, _, _ => none
  | .binOp .rem _ x y _ =>
    match ρ x, ρ y with
    | .int .i64 a, .int .i64 b => some (.int .i64 (a.tmod b), [b ≠ 0], os)
    | .int .u64 a, .int .u64 b => some (.int .u64 (a.tmod b), [b ≠ 0], os)
    | _, _ => none
  | .binOp .quo _ x y _ =>
    match ρ x, ρ y with
    | .int .i64 a, .int .i64 b => some (.int .i64 (IntKind.i64.wrap (a.tdiv b)), [b ≠ 0], os)
    | _, _ => none
  | .binOp .shl _ x y _ =>
    match ρ x, ρ y with
    | .int k a, .int _ b => some (.int k (k.wrap (a * 2 ^ (min b.toNat k.bits))), [0 ≤ b], os)
    | _, _ => none
  | .binOp .shr _ x y _ =>
    match ρ x, ρ y with
    | .int k a, .int _ b => some (.int k (a.fdiv (2 ^ (min b.toNat k.bits))), [0 ≤ b], os)
    | _, _ => none
  | .slice t x lo hi none =>
    match P.underlying t, ρ x with
    | some (.slice e), .slice A n c => match P.info? e with
      | none => none
      | some inf => match lo.map ρ, hi.map ρ with
        | none, some (.int _ h) => some (.slice A h.toNat c, [0 ≤ h, h ≤ (c : Int)], os)
        | some (.int _ l), none => some (.slice (if c = l.toNat then A else A.map (·.add (l.toNat * inf.size))) (n - l.toNat) (c - l.toNat), [0 ≤ l, l ≤ (n : Int)], os)
        | some (.int _ l), some (.int _ h) => some (.slice (if c = l.toNat then A else A.map (·.add (l.toNat * inf.size))) (h.toNat - l.toNat) (c - l.toNat), [0 ≤ l, l ≤ h, h ≤ (c : Int)], os)
        | _, _ => none
    | some .string, .string s => match lo.map ρ, hi.map ρ with
      | none, some (.int _ h) => some (.string (s.extract 0 h.toNat), [0 ≤ h, h ≤ (s.size : Int)], os)
      | some (.int _ l), none => some (.string (s.extract l.toNat s.size), [0 ≤ l, l ≤ (s.size : Int)], os)
      | some (.int _ l), some (.int _ h) => some (.string (s.extract l.toNat h.toNat), [0 ≤ l, l ≤ h, h ≤ (s.size : Int)], os)
      | _, _ => none
    | _, _ => none
  | _ => none
theorem add_zero_id : (fun x : Addr => x.add 0) = id := by funext x; simp [Addr.add]
theorem symX_sound {P : Program} {C : Addr → Value → Prop} {ρ : Operand → Value} {o : Oper} {os os' : List Orc} {v : Value} {ob : List Prop} (h : symX P C ρ o os = some (v, ob, os')) (hob : AllP ob) :
    ∀ w : World, (∀ ad v, C ad v → w.cell? ad = some v) → (execOp ρ o).run P w = .ok (.value v) w := by
  intro w hC
  unfold symX at h
  split at h
  · rename_i t x ho
    split at h
    · rename_i a cs os2 hx
      split at h
      · rename_i inf hinf hagg
        simp only [Option.some.injEq, Prod.mk.injEq] at h
        obtain ⟨rfl, rfl, rfl⟩ := h
        obtain ⟨h1, h2, _⟩ := hob
        have hr := run_loadCells_list (P := P) w a cs (fun j v hv => hC _ _ (h2 j v hv))
        rw [h1] at hr
        unfold aggB at hagg
        split at hagg
        · rename_i hu
          simp only [execOp, ho, hx, Instr.loadAt, Instr.sureAddr]
          simp [loadVar, isAgg, sizeOf, typeInfo, hinf, run_some_underlying hu, hr]
        · rename_i hu
          simp only [execOp, ho, hx, Instr.loadAt, Instr.sureAddr]
          simp [loadVar, isAgg, sizeOf, typeInfo, hinf, run_some_underlying hu, hr]
        · cases hagg
      · simp at h
    · simp at h
  · -- indexAddr
    rename_i t x i ho
    split at h
    · rename_i e A n c k iv a os2 hu hx hi
      split at h
      · rename_i inf hinf
        simp only [Option.some.injEq, Prod.mk.injEq] at h
        obtain ⟨rfl, rfl, rfl⟩ := h
        obtain ⟨h1, h2, h3, _⟩ := hob
        simp only [execOp, ho, Instr.indexAt, hx, hi, asIntOf]
        simp [run_some_underlying hu, sizeOf, typeInfo, hinf, h1, h2, h3]
      · simp at h
    · rename_i n e a k iv hu hx hi
      split at h
      · rename_i inf hinf
        simp only [Option.some.injEq, Prod.mk.injEq] at h
        obtain ⟨rfl, rfl, rfl⟩ := h
        obtain ⟨h2, h3, _⟩ := hob
        simp only [execOp, ho, Instr.indexAt, hx, hi, asIntOf]
        simp [run_some_underlying hu, sizeOf, typeInfo, hinf, h2, h3, Instr.sureAddr]
      · simp at h
    · simp at h
  · -- index
    rename_i t x i ho
    split at h
    · rename_i os2 b k iv hu hx hi
      simp only [Option.some.injEq, Prod.mk.injEq] at h
      obtain ⟨rfl, rfl, rfl⟩ := h
      obtain ⟨h1, h2, _⟩ := hob
      have h3 : iv.toNat < b.size := by omega
      simp only [execOp, ho, Instr.index, hx, hi, asIntOf]
      simp [run_some_underlying hu, h1, byteAt, h3]
    · rename_i n e cs k iv u os2 hu hx hi
      split at h
      · rename_i inf kk hinf hue
        simp only [Option.some.injEq, Prod.mk.injEq] at h
        obtain ⟨rfl, rfl, rfl⟩ := h
        obtain ⟨h1, h2, h3, _⟩ := hob
        simp only [execOp, ho, Instr.index, hx, hi, asIntOf]
        simp [run_some_underlying hu, run_some_underlying hue, h1, h2, sizeOf, typeInfo, hinf, part, isAgg, h3]
      · rename_i inf hinf hue
        simp only [Option.some.injEq, Prod.mk.injEq] at h
        obtain ⟨rfl, rfl, rfl⟩ := h
        obtain ⟨h1, h2, h3, _⟩ := hob
        simp only [execOp, ho, Instr.index, hx, hi, asIntOf]
        simp [run_some_underlying hu, run_some_underlying hue, h1, h2, sizeOf, typeInfo, hinf, part, isAgg, h3]
      · simp at h
    · simp at h
  · rename_i t x y t2 ho
    split at h
    · rename_i xs ys l r os2 hx hy
      split at h
      · rename_i b hg hb
        simp only [Option.some.injEq, Prod.mk.injEq] at h
        obtain ⟨rfl, rfl, rfl⟩ := h
        obtain ⟨rfl, rfl, _⟩ := hob
        simp only [execOp, ho, hx, hy, Sem.run_bind, run_eqGuard_agg w .eql t x y l.toArray r.toArray hg, Result.andThen_ok, run_eql_struct, eqV_sound hb, Sem.run_pure]
      · simp at h
    · rename_i xs ys hx hy hno
      split at h
      · rename_i b hg hb
        simp only [Option.some.injEq, Prod.mk.injEq] at h
        obtain ⟨rfl, rfl, rfl⟩ := h
        simp only [execOp, ho, hx, hy, Sem.run_bind, run_eqGuard_agg w .eql t x y xs ys hg, Result.andThen_ok, run_eql_struct, eqV_sound hb, Sem.run_pure]
      · simp at h
    · simp at h
  · rename_i t x y t2 ho
    split at h
    · rename_i xs ys l r os2 hx hy
      split at h
      · rename_i b hg hb
        simp only [Option.some.injEq, Prod.mk.injEq] at h
        obtain ⟨rfl, rfl, rfl⟩ := h
        obtain ⟨rfl, rfl, _⟩ := hob
        simp only [execOp, ho, hx, hy, Sem.run_bind, run_eqGuard_agg w .neq t x y l.toArray r.toArray hg, Result.andThen_ok, run_neq_struct, eqV_sound hb, Sem.run_pure]
      · simp at h
    · rename_i xs ys hx hy hno
      split at h
      · rename_i b hg hb
        simp only [Option.some.injEq, Prod.mk.injEq] at h
        obtain ⟨rfl, rfl, rfl⟩ := h
        simp only [execOp, ho, hx, hy, Sem.run_bind, run_eqGuard_agg w .neq t x y xs ys hg, Result.andThen_ok, run_neq_struct, eqV_sound hb, Sem.run_pure]
      · simp at h
    · simp at h
  · rename_i t x y t2 ho
    split at h
    · rename_i a b hx hy
      simp only [Option.some.injEq, Prod.mk.injEq] at h
      obtain ⟨rfl, rfl, rfl⟩ := h
      obtain ⟨h1, _⟩ := hob
      simp only [execOp, ho, hx, hy]
      simp [eqGuard, binOp, Op.intDiv, h1]
    · rename_i a b hx hy
      simp only [Option.some.injEq, Prod.mk.injEq] at h
      obtain ⟨rfl, rfl, rfl⟩ := h
      obtain ⟨h1, _⟩ := hob
      simp only [execOp, ho, hx, hy]
      simp [eqGuard, binOp, Op.intDiv, h1]
    · simp at h
  · rename_i t x y t2 ho
    split at h
    · rename_i a b hx hy
      simp only [Option.some.injEq, Prod.mk.injEq] at h
      obtain ⟨rfl, rfl, rfl⟩ := h
      obtain ⟨h1, _⟩ := hob
      simp only [execOp, ho, hx, hy]
      simp [eqGuard, binOp, Op.intDiv, h1]
    · simp at h
  · rename_i t x y t2 ho
    split at h
    · rename_i k a k2 b hx hy
      simp only [Option.some.injEq, Prod.mk.injEq] at h
      obtain ⟨rfl, rfl, rfl⟩ := h
      obtain ⟨h1, _⟩ := hob
      simp only [execOp, ho, hx, hy]
      simp [eqGuard, binOp, Op.shift, show ¬ b < 0 by omega]
    · simp at h
  · rename_i t x y t2 ho
    split at h
    · rename_i k a k2 b hx hy
      simp only [Option.some.injEq, Prod.mk.injEq] at h
      obtain ⟨rfl, rfl, rfl⟩ := h
      obtain ⟨h1, _⟩ := hob
      simp only [execOp, ho, hx, hy]
      simp [eqGuard, binOp, Op.shift, show ¬ b < 0 by omega]
    · simp at h
  · rename_i t x lo hi ho
    split at h
    · rename_i e A n c hu hx
      split at h
      · simp at h
      · rename_i inf hinf
        split at h
        · rename_i k hv hlo hhi
          simp only [Option.some.injEq, Prod.mk.injEq] at h
          obtain ⟨rfl, rfl, rfl⟩ := h
          obtain ⟨h1, h2, _⟩ := hob
          simp only [execOp, ho, hx, hlo, hhi, Instr.sliceAt, Instr.slice]
          simp [run_some_underlying hu, Instr.sliceBounds, Instr.sliceBound, asIntOf, sizeOf, typeInfo, hinf, h1, h2, add_zero_id]
        · rename_i k lv hlo hhi
          simp only [Option.some.injEq, Prod.mk.injEq] at h
          obtain ⟨rfl, rfl, rfl⟩ := h
          obtain ⟨h1, h2, _⟩ := hob
          simp only [execOp, ho, hx, hlo, hhi, Instr.sliceAt, Instr.slice]
          simp [run_some_underlying hu, Instr.sliceBounds, Instr.sliceBound, asIntOf, sizeOf, typeInfo, hinf, h1, h2]
        · rename_i k lv k2 hv hlo hhi
          simp only [Option.some.injEq, Prod.mk.injEq] at h
          obtain ⟨rfl, rfl, rfl⟩ := h
          obtain ⟨h1, h2, h3, _⟩ := hob
          have h4 : ¬ (max hv 0 < lv) := by omega
          have h5 : 0 ≤ hv := by omega
          simp only [execOp, ho, hx, hlo, hhi, Instr.sliceAt, Instr.slice]
          simp [run_some_underlying hu, Instr.sliceBounds, Instr.sliceBound, asIntOf, sizeOf, typeInfo, hinf, h1, h3, h4, h5]
        · simp at h
    · rename_i b hu hx
      split at h
      · rename_i k hv hlo hhi
        simp only [Option.some.injEq, Prod.mk.injEq] at h
        obtain ⟨rfl, rfl, rfl⟩ := h
        obtain ⟨h1, h2, _⟩ := hob
        simp only [execOp, ho, hx, hlo, hhi, Instr.sliceAt, Instr.slice]
        simp [run_some_underlying hu, Instr.sliceBounds, Instr.sliceBound, asIntOf, h1, h2]
      · rename_i k lv hlo hhi
        simp only [Option.some.injEq, Prod.mk.injEq] at h
        obtain ⟨rfl, rfl, rfl⟩ := h
        obtain ⟨h1, h2, _⟩ := hob
        simp only [execOp, ho, hx, hlo, hhi, Instr.sliceAt, Instr.slice]
        simp [run_some_underlying hu, Instr.sliceBounds, Instr.sliceBound, asIntOf, h1, h2]
      · rename_i k lv k2 hv hlo hhi
        simp only [Option.some.injEq, Prod.mk.injEq] at h
        obtain ⟨rfl, rfl, rfl⟩ := h
        obtain ⟨h1, h2, h3, _⟩ := hob
        have h4 : ¬ (max hv 0 < lv) := by omega
        have h5 : 0 ≤ hv := by omega
        simp only [execOp, ho, hx, hlo, hhi, Instr.sliceAt, Instr.slice]
        simp [run_some_underlying hu, Instr.sliceBounds, Instr.sliceBound, asIntOf, h1, h3, h4, h5]
      · simp at h
    · simp at h
  · simp at h
end Go.Proofs.Ytklbpajmoklheaa
set_option linter.unusedVariables false
namespace Go.Proofs.Ytklbpajmoklheaa
open Go Go.RowKit

/-- One operation that is no call of a Go function: its value, the world behind it, what it leans on. -/
def symOp (P : Program) (rd : Bool) (C : World → Addr → Value → Prop) (ρ : Operand → Value) (w : World) (o : Oper) (os : List Orc) : Option (Rs Value) :=
  match symX P (C w) ρ o os with
  | some (v, ob, os') => some ⟨v, w, ob, os'⟩
  | none => match symS P rd C (execOp ρ o) w os with
    | some ⟨.value v, w', ob, os'⟩ => some ⟨v, w', ob, os'⟩
    | some ⟨.skip, w', ob, os'⟩ => match rd with
      | false => some ⟨undef, w', ob, os'⟩
      | true => none
    | _ => none
def symOpA (P : Program) (rd : Bool) (C : World → Addr → Value → Prop) (ρ : Operand → Value) (w : World) (o : Oper) (os : List Orc) : Option (Value × World × List Prop) :=
  match symOp P rd C ρ w o os with
  | some ⟨v, w', ob, []⟩ => some (v, w', ob)
  | some ⟨v, w', ob, [.as_ u]⟩ => some (u, w', ob ++ [v = u])
  | _ => none
def Gives (n : Next) (v : Value) : Prop := n = .value v ∨ (n = .skip ∧ v = undef)
def CellC (w : World) (ad : Addr) (v : Value) : Prop := w.cell? ad = some v
theorem symOp_lex {P : Program} {ρ : Operand → Value} {w : World} {o : Oper} {os : List Orc} {r : Rs Value} (h : symOp P false CellC ρ w o os = some r) (hob : AllP r.ob) :
    ∃ n, (execOp ρ o).run P w = .ok n r.w ∧ Gives n r.x := by
  unfold symOp at h
  split at h
  · rename_i v ob os' hx
    simp only [Option.some.injEq] at h
    subst h
    exact ⟨_, symX_sound hx hob w (fun _ _ h => h), .inl rfl⟩
  · split at h
    · rename_i v w' ob os' hs
      simp only [Option.some.injEq] at h
      subst h
      exact ⟨_, symS_lex (fun _ _ _ h => h) _ hs hob, .inl rfl⟩
    · rename_i w' ob os' hs
      simp only [Option.some.injEq] at h
      subst h
      exact ⟨_, symS_lex (fun _ _ _ h => h) _ hs hob, .inr ⟨rfl, rfl⟩⟩
    · simp at h
theorem symOp_rd {P : Program} {C : World → Addr → Value → Prop} {ρ : Operand → Value} {w : World} {o : Oper} {os : List Orc} {r : Rs Value} (h : symOp P true C ρ w o os = some r) (hob : AllP r.ob) :
    r.w = w ∧ ∀ w2 : World, (∀ ad v, C w ad v → w2.cell? ad = some v) → (execOp ρ o).run P w2 = .ok (.value r.x) w2 := by
  unfold symOp at h
  split at h
  · rename_i v ob os' hx
    simp only [Option.some.injEq] at h
    subst h
    exact ⟨rfl, fun w2 h2 => symX_sound hx hob w2 h2⟩
  · split at h
    · rename_i v w' ob os' hs
      simp only [Option.some.injEq] at h
      subst h
      have := symS_rd _ hs hob
      exact ⟨this.1, this.2⟩
    · simp at h
    · simp at h
theorem symOpA_lex {P : Program} {ρ : Operand → Value} {w w' : World} {o : Oper} {os : List Orc} {v : Value} {ob : List Prop} (h : symOpA P false CellC ρ w o os = some (v, w', ob)) (hob : AllP ob) :
    ∃ n, (execOp ρ o).run P w = .ok n w' ∧ Gives n v := by
  unfold symOpA at h
  split at h
  · rename_i u w2 ob2 hs
    simp only [Option.some.injEq, Prod.mk.injEq] at h
    obtain ⟨rfl, rfl, rfl⟩ := h
    exact symOp_lex hs hob
  · rename_i u w2 ob2 u2 hs
    simp only [Option.some.injEq, Prod.mk.injEq] at h
    obtain ⟨rfl, rfl, rfl⟩ := h
    have h1 := AllP_append hob
    obtain ⟨h1, h2, _⟩ := h1
    subst h2
    exact symOp_lex hs h1
  · simp at h
theorem symOpA_rd {P : Program} {C : World → Addr → Value → Prop} {ρ : Operand → Value} {w w' : World} {o : Oper} {os : List Orc} {v : Value} {ob : List Prop} (h : symOpA P true C ρ w o os = some (v, w', ob)) (hob : AllP ob) :
    w' = w ∧ ∀ w2 : World, (∀ ad v, C w ad v → w2.cell? ad = some v) → (execOp ρ o).run P w2 = .ok (.value v) w2 := by
  unfold symOpA at h
  split at h
  · rename_i u w2 ob2 hs
    simp only [Option.some.injEq, Prod.mk.injEq] at h
    obtain ⟨rfl, rfl, rfl⟩ := h
    exact symOp_rd hs hob
  · rename_i u w2 ob2 u2 hs
    simp only [Option.some.injEq, Prod.mk.injEq] at h
    obtain ⟨rfl, rfl, rfl⟩ := h
    have h1 := AllP_append hob
    obtain ⟨h1, h2, _⟩ := h1
    subst h2
    exact symOp_rd hs h1
  · simp at h

/-- Is an operation carried out? -/
def wantedL (l : List (Nat × Value)) (ops : List Oper) (o : Oper) : Option Bool :=
  match o.guard with
  | none => some true
  | some (j, want) => match ops[j]? with
    | some oj => match oj.dst with
      | some t => match look l t with
        | some (.bool b) => some (b == want)
        | some (.tuple _) => some false
        | _ => none
      | none => none
    | none => none
theorem wantedL_sound {n : Nat} {a : Act} {l : List (Nat × Value)} (hf : Frm n a l) {ops : Array Oper} {o : Oper} {b : Bool} (h : wantedL l ops.toList o = some b) :
    Region.wanted o (yielded ops a.tmps) = b := by
  unfold wantedL at h
  split at h
  · rename_i hg
    simp only [Option.some.injEq] at h
    subst h
    simp [Region.wanted, hg]
  · rename_i j want hg
    split at h
    · rename_i oj hj
      split at h
      · rename_i t ht
        have hj' : ops[j]? = some oj := by simpa using hj
        split at h
        · rename_i bb hb
          simp only [Option.some.injEq] at h
          subst h
          have h1 := hf.val t _ hb
          have h2 := hf.lt t _ hb
          have h3 : a.tmps[t]? = some (.bool bb) := by
            rw [Array.getD_eq_getD_getElem?] at h1
            have : t < a.tmps.size := by rw [hf.size]; exact h2
            rw [Array.getElem?_eq_getElem this] at h1 ⊢
            simpa using h1
          simp only [Region.wanted, hg, yielded, hj', Option.bind_some, ht, h3]
          cases bb <;> cases want <;> rfl
        · rename_i tv hb
          simp only [Option.some.injEq] at h
          subst h
          have h1 := hf.val t _ hb
          have h2 := hf.lt t _ hb
          have h3 : a.tmps[t]? = some (.tuple tv) := by
            rw [Array.getD_eq_getD_getElem?] at h1
            have : t < a.tmps.size := by rw [hf.size]; exact h2
            rw [Array.getElem?_eq_getElem this] at h1 ⊢
            simpa using h1
          simp only [Region.wanted, hg, yielded, hj', Option.bind_some, ht, h3]
          cases want <;> rfl
        · simp at h
      · simp at h
    · simp at h
def hdO : List (List Orc) → List Orc
  | [] => []
  | h :: _ => h
/-- The slots behind one operation. -/
def putL (n : Nat) (l : List (Nat × Value)) : Option Nat → Value → Option (List (Nat × Value))
  | none, _ => some l
  | some d, v => if Nat.blt d n = true then some ((d, v) :: l) else none
theorem Frm.putL {n : Nat} {a : Act} {l l' : List (Nat × Value)} (h : Frm n a l) {d : Option Nat} {v : Value} (hl : putL n l d v = some l') : Frm n (a.put d v) l' := by
  cases d with
  | none =>
    simp only [Proofs.Ytklbpajmoklheaa.putL, Option.some.injEq] at hl
    subst hl
    exact h.put' (by simp) v
  | some t =>
    simp only [Proofs.Ytklbpajmoklheaa.putL] at hl
    split at hl
    · rename_i hlt
      simp only [Option.some.injEq] at hl
      subst hl
      exact h.put (by simpa using hlt) v
    · simp at hl
/-- A run of operations, none a call of a Go function. -/
def evSeq (P : Program) (rd : Bool) (n : Nat) (C : World → Addr → Value → Prop) (ops : List Oper) : List Oper → List (List Orc) → List (Nat × Value) → World → Option (List (Nat × Value) × World × List Prop)
  | [], _, l, w => some (l, w, [])
  | o :: r, hs, l, w =>
    match wantedL l ops o with
    | none => none
    | some false => match putL n l o.dst undef with
      | none => none
      | some l' => evSeq P rd n C ops r hs.tail l' w
    | some true => match known l o && notSel o with
      | false => none
      | true => match symOpA P rd C (rho l) w o (hdO hs) with
        | none => none
        | some (v, w', ob) => match putL n l o.dst v with
          | none => none
          | some l' => match evSeq P rd n C ops r hs.tail l' w' with
            | none => none
            | some (l2, w2, ob2) => some (l2, w2, ob ++ ob2)
theorem oper_wp_of_gives {P : Program} {o : Oper} {a : Act} {w w' : World} {K : Act → World → Prop} {Q : Exit → Act → World → Prop} {nx : Next} {v : Value} (hr : (execOp a.eval o).run P w = .ok nx w') (hg : Gives nx v)
    (h : K (a.put o.dst v) w') : o.wp P a w K Q := by
  unfold Oper.wp
  rw [hr]
  rcases hg with rfl | ⟨rfl, rfl⟩
  · exact h
  · exact h
theorem wpList_seq {P : Program} {n : Nat} {ops : Array Oper} {Q : Exit → Act → World → Prop} {rest : List Oper} :
    ∀ (os : List Oper) (hs : List (List Orc)) (l : List (Nat × Value)) (w : World) (a : Act) {l' : List (Nat × Value)} {w' : World} {ob : List Prop}, Frm n a l →
      evSeq P false n CellC ops.toList os hs l w = some (l', w', ob) → AllP ob → (∀ a', Frm n a' l' → wpList P ops Q rest a' w') → wpList P ops Q (os ++ rest) a w
  | [], hs, l, w, a, l', w', ob, hf, h, hob, next => by
    simp only [evSeq, Option.some.injEq, Prod.mk.injEq] at h
    obtain ⟨rfl, rfl, rfl⟩ := h
    exact next a hf
  | o :: r, hs, l, w, a, l', w', ob, hf, h, hob, next => by
    unfold evSeq at h
    split at h
    · simp at h
    · rename_i hw
      split at h
      · simp at h
      · rename_i l1 hl1
        have hwant := wantedL_sound hf hw
        show wpList P ops Q (o :: (r ++ rest)) a w
        unfold wpList
        rw [hwant]
        exact wpList_seq r hs.tail l1 w _ (hf.putL hl1) h hob next
    · rename_i hw
      have hwant := wantedL_sound hf hw
      split at h
      · simp at h
      · rename_i hk
        simp only [Bool.and_eq_true] at hk
        split at h
        · simp at h
        · rename_i v w1 ob1 hs1
          split at h
          · simp at h
          · rename_i l1 hl1
            split at h
            · simp at h
            · rename_i l2 w2 ob2 hev
              simp only [Option.some.injEq, Prod.mk.injEq] at h
              obtain ⟨rfl, rfl, rfl⟩ := h
              obtain ⟨hob1, hob2⟩ := AllP_append hob
              obtain ⟨nx, hrun, hg⟩ := symOpA_lex hs1 hob1
              show wpList P ops Q (o :: (r ++ rest)) a w
              unfold wpList
              rw [hwant, if_pos rfl]
              refine .inl (oper_wp_of_gives (by rw [hf.exec hk.1 hk.2]; exact hrun) hg ?_)
              exact wpList_seq r hs.tail l1 w1 _ (hf.putL hl1) hev hob2 next
/-- A region that is carried out in its text's order, from operation k on. -/
def At (P : Program) (ops : Array Oper) (Q : Exit → Act → World → Prop) (k : Nat) (a : Act) (w : World) : Prop := wpList P ops Q (ops.toList.drop k) a w
theorem At.start {P : Program} {id : Nat} {ops : Array Oper} {Q : Exit → Act → World → Prop} {a : Act} {w : World} (h : At P ops Q 0 a w) : (Code.region id ops false).wp P Q a w := wp_region_list h
theorem At.done {P : Program} {ops : Array Oper} {Q : Exit → Act → World → Prop} {k : Nat} {a : Act} {w : World} (hk : ops.toList.drop k = []) (h : Q .normal a w) : At P ops Q k a w := by
  unfold At
  rw [hk]
  exact h
theorem At.seq {P : Program} {n : Nat} {ops : Array Oper} {Q : Exit → Act → World → Prop} {k : Nat} {a : Act} {w : World} {l : List (Nat × Value)} (hf : Frm n a l) (m : Nat) (hs : List (List Orc)) (nw : List (Nat × Value)) (w' : World) (ob : List Prop)
    (h : evSeq P false n CellC ops.toList ((ops.toList.drop k).take m) hs l w = some (nw ++ l, w', ob)) (hob : AllP ob) (next : ∀ a' w1, w1 = w' → Frm n a' (nw ++ l) → At P ops Q (k + m) a' w1) : At P ops Q k a w := by
  unfold At
  have e : ops.toList.drop k = (ops.toList.drop k).take m ++ ops.toList.drop (k + m) := by
    rw [← List.drop_drop, List.take_append_drop]
  rw [e]
  exact wpList_seq _ hs l w a hf h hob (fun a' hf' => next a' w' rfl hf')
theorem At.rd {P : Program} {n : Nat} {ops : Array Oper} {Q : Exit → Act → World → Prop} {k : Nat} {a : Act} {w : World} {l : List (Nat × Value)} (hf : Frm n a l) (m : Nat) (hs : List (List Orc)) (nw : List (Nat × Value)) (ob : List Prop)
    (h : evSeq P false n CellC ops.toList ((ops.toList.drop k).take m) hs l w = some (nw ++ l, w, ob)) (hob : AllP ob) (next : ∀ a', Frm n a' (nw ++ l) → At P ops Q (k + m) a' w) : At P ops Q k a w :=
  At.seq hf m hs nw w ob h hob (fun a' w1 hw hf' => by subst hw; exact next a' hf')
/-- A region that draws its order and only reads. -/
theorem drawn_ro {P : Program} {id n : Nat} {ops : Array Oper} {Q : Exit → Act → World → Prop} {a : Act} {w : World} {l : List (Nat × Value)} (hf : Frm n a l) (hm : P.follows .mixedOrders = true) (hB : Region.lexB .any ops = true)
    (hs : List (List Orc)) (nw : List (Nat × Value)) (ob : List Prop) (h : evSeq P true n CellC ops.toList ops.toList hs l w = some (nw ++ l, w, ob)) (hob : AllP ob) (next0 : ∀ a' w1, w1 = w.drew → Frm n a' (nw ++ l) → Q .normal a' w1) : (Code.region id ops true).wp P Q a w := by
  have next : ∀ a', Frm n a' (nw ++ l) → Q .normal a' w.drew := fun a' h => next0 a' _ rfl h
  refine wp_region_still hm hB ?_
  have key : ∀ (os : List Oper) (hs : List (List Orc)) (l : List (Nat × Value)) (w1 : World) (a : Act) {l' : List (Nat × Value)} {w' : World} {ob : List Prop}, w1 = w → Frm n a l →
      evSeq P true n CellC ops.toList os hs l w1 = some (l', w', ob) → AllP ob → (∀ a', Frm n a' l' → Q .normal a' w.drew) → wpStill P ops { w with drawn := w.drawn + 1 } (fun a' => Q .normal a' { w with drawn := w.drawn + 1 }) os a := by
    intro os
    induction os with
    | nil =>
      intro hs l w1 a l' w' ob hw hf h hob next
      simp only [evSeq, Option.some.injEq, Prod.mk.injEq] at h
      obtain ⟨rfl, rfl, rfl⟩ := h
      exact next a hf
    | cons o r ih =>
      intro hs l w1 a l' w' ob hw hf h hob next
      unfold evSeq at h
      split at h
      · simp at h
      · rename_i hwl
        split at h
        · simp at h
        · rename_i l1 hl1
          have hwant := wantedL_sound hf hwl
          unfold wpStill
          rw [hwant]
          exact ih hs.tail l1 w1 _ hw (hf.putL hl1) h hob next
      · rename_i hwl
        have hwant := wantedL_sound hf hwl
        split at h
        · simp at h
        · rename_i hk
          simp only [Bool.and_eq_true] at hk
          split at h
          · simp at h
          · rename_i v w2 ob1 hs1
            split at h
            · simp at h
            · rename_i l1 hl1
              split at h
              · simp at h
              · rename_i l2 w3 ob2 hev
                simp only [Option.some.injEq, Prod.mk.injEq] at h
                obtain ⟨rfl, rfl, rfl⟩ := h
                obtain ⟨hob1, hob2⟩ := AllP_append hob
                obtain ⟨hw2, hrun⟩ := symOpA_rd hs1 hob1
                have hrun' := hrun { w with drawn := w.drawn + 1 } (fun ad v hc => by subst hw; exact hc)
                unfold wpStill
                rw [hwant, if_pos rfl]
                unfold Oper.still
                rw [hf.exec hk.1 hk.2, hrun']
                exact ⟨rfl, ih hs.tail l1 w2 _ (hw2.trans hw) (hf.putL hl1) hev hob2 next⟩
  exact key ops.toList hs l w a rfl hf h hob next
end Go.Proofs.Ytklbpajmoklheaa
set_option linter.unusedVariables false
namespace Go.Proofs.Ytklbpajmoklheaa
open Go Go.RowKit

/-! ### Calls -/
def callAt (P : Program) (l : List (Nat × Value)) (ops : List Oper) (k : Nat) : Option (FuncId × Array Value × Option Nat) :=
  match ops[k]? with
  | none => none
  | some o => match wantedL l ops o, known l o && notSel o with
    | some true, true => match symS P true (fun _ _ _ => False) (execOp (rho l) o) default [] with
      | some ⟨.enter f args, _, [], _⟩ => some (f, args, o.dst)
      | _ => none
    | _, _ => none
theorem drop_of_getElem? {ops : Array Oper} {k : Nat} {o : Oper} (h : ops.toList[k]? = some o) : ops.toList.drop k = o :: ops.toList.drop (k + 1) := by
  obtain ⟨hlt, he⟩ := List.getElem?_eq_some_iff.1 h
  rw [List.drop_eq_getElem_cons hlt, he]
theorem At.call {P : Program} {n : Nat} {ops : Array Oper} {Q : Exit → Act → World → Prop} {k : Nat} {a : Act} {w : World} {l : List (Nat × Value)} (hf : Frm n a l) (f : FuncId) (args : Array Value) (d : Option Nat)
    (hc : callAt P l ops.toList k = some (f, args, d)) {R : Ending → World → Prop} (hcall : Calls P f args w R)
    (hR : ∀ e w1, R e w1 → ∃ v, e = .returned v ∧ ∃ l', putL n l d v = some l' ∧ ∀ a', Frm n a' l' → At P ops Q (k + 1) a' w1) : At P ops Q k a w := by
  unfold callAt at hc
  split at hc
  · simp at hc
  · rename_i o ho
    split at hc
    · rename_i hwl hkn
      simp only [Bool.and_eq_true] at hkn
      split at hc
      · rename_i g as_ w0 os0 hs
        simp only [Option.some.injEq, Prod.mk.injEq] at hc
        obtain ⟨rfl, rfl, rfl⟩ := hc
        have hrun := (symS_rd _ hs trivial).2 w (fun _ _ h => h.elim)
        unfold At
        rw [drop_of_getElem? ho]
        unfold wpList
        rw [wantedL_sound hf hwl, if_pos rfl]
        refine .inl ?_
        unfold Oper.wp
        rw [hf.exec hkn.1 hkn.2, hrun]
        refine Calls.mono hcall fun e w1 he => ?_
        obtain ⟨v, rfl, l', hl', hnext⟩ := hR e w1 he
        exact hnext _ (hf.putL hl')
      · simp at hc
    · simp at hc
/-- An operation whose run is told by an equation. -/
def opOk (l : List (Nat × Value)) (ops : List Oper) (o : Oper) : Bool := (match wantedL l ops o with | some true => true | _ => false) && known l o && notSel o
theorem At.run {P : Program} {n : Nat} {ops : Array Oper} {Q : Exit → Act → World → Prop} {k : Nat} {a : Act} {w : World} {l : List (Nat × Value)} (hf : Frm n a l) {o : Oper} (ho : ops.toList[k]? = some o) (hk : opOk l ops.toList o = true)
    {v : Value} {w1 : World} (hr : (execOp (rho l) o).run P w = .ok (.value v) w1) {l' : List (Nat × Value)} (hl : putL n l o.dst v = some l') (next : ∀ a', Frm n a' l' → At P ops Q (k + 1) a' w1) : At P ops Q k a w := by
  simp only [opOk, Bool.and_eq_true] at hk
  obtain ⟨⟨h1, h2⟩, h3⟩ := hk
  unfold At
  rw [drop_of_getElem? ho]
  unfold wpList
  split at h1
  · rename_i hwl
    rw [wantedL_sound hf hwl, if_pos rfl]
    exact .inl (oper_wp_of_gives (by rw [hf.exec h2 h3]; exact hr) (.inl rfl) (next _ (hf.putL hl)))
  · simp at h1

/-! ### Control -/
section
variable {P : Program} {Q : Exit → Act → World → Prop} {K : Act → World → Prop} {n : Nat} {a : Act} {w : World} {l : List (Nat × Value)}
theorem cond_T (hf : Frm n a l) {c : Operand} {x y : Code} (hc : opd l c = some (.bool true)) (h : x.wp P Q a w) : (Code.cond c x y).wp P Q a w := wp_cond_true (hf.opd hc) h
theorem cond_F (hf : Frm n a l) {c : Operand} {x y : Code} (hc : opd l c = some (.bool false)) (h : y.wp P Q a w) : (Code.cond c x y).wp P Q a w := wp_cond_false (hf.opd hc) h
theorem cond_S (hf : Frm n a l) {c : Operand} {x y : Code} {t : Bool} (hc : opd l c = some (.bool t)) (h1 : t = true → x.wp P Q a w) (h2 : t = false → y.wp P Q a w) : (Code.cond c x y).wp P Q a w := wp_cond_split (hf.opd hc) h1 h2
theorem t_n (h : K a w) : Exit.then K Q .normal a w := h
theorem t_r (h : Q .ret a w) : Exit.then K Q .ret a w := h
theorem t_e {id : Nat} (h : Q (.exit id) a w) : Exit.then K Q (.exit id) a w := h
theorem b_n {id : Nat} (h : Q .normal a w) : Exit.inBlock id Q .normal a w := h
theorem b_r {id : Nat} (h : Q .ret a w) : Exit.inBlock id Q .ret a w := h
theorem b_e {id : Nat} (h : Q .normal a w) : Exit.inBlock id Q (.exit id) a w := by simp only [Exit.inBlock, if_true]; exact h
theorem b_o {id id' : Nat} (hne : id' ≠ id) (h : Q (.exit id') a w) : Exit.inBlock id Q (.exit id') a w := by simp only [Exit.inBlock, if_neg hne]; exact h
theorem loop_g {c : Code} (I : Nat → Act → World → Prop) (n0 : Nat) (h0 : I n0 a w) (round : ∀ k a w, I k a w → c.wp P (Exit.then (fun a' w' => ∃ k', k' < k ∧ I k' a' w') Q) a w) : (Code.loop c).wp P Q a w := by
  intro b k cs
  have key : ∀ m a w, I m a w → ∃ e a' w', Q e a' w' ∧ Arrives P (lone (b.at a (.code c :: .inLoop c :: k)) cs w) b k cs e a' w' := by
    intro m
    induction m using Nat.strongRecOn with
    | _ m ih =>
      intro a w hI
      obtain ⟨e, a₁, w₁, hq, harr⟩ := round m a w hI b (.inLoop c :: k) cs
      cases e with
      | normal =>
        obtain ⟨k', hlt, hI₁⟩ := hq
        obtain ⟨e₂, a₂, w₂, hq₂, harr₂⟩ := ih k' hlt a₁ w₁ hI₁
        exact ⟨e₂, a₂, w₂, hq₂, .of_steps (Steps.trans harr (.one step_inLoop)) harr₂⟩
      | exit id => exact ⟨_, a₁, w₁, hq, .pass (x := .inLoop c) rfl (fun _ _ => .inl (by simp)) harr⟩
      | goto l => exact ⟨_, a₁, w₁, hq, .pass (x := .inLoop c) rfl (fun _ _ => .inl (by simp)) harr⟩
      | ret => exact ⟨_, a₁, w₁, hq, .pass (x := .inLoop c) rfl (fun _ _ => .inl (by simp)) harr⟩
      | panic ch => exact ⟨_, a₁, w₁, hq, .pass (x := .inLoop c) rfl (fun _ _ => .inl (by simp)) harr⟩
      | outgrown => exact ⟨_, a₁, w₁, hq, .pass (x := .inLoop c) rfl (fun _ _ => .inl (by simp)) harr⟩
  obtain ⟨e, a', w', hq, harr⟩ := key _ a w h0
  exact ⟨e, a', w', hq, .of_steps (.one step_loop) harr⟩
/-- The ways through a piece of code meet again. -/
theorem cut {x : Code} (M : Act → World → Prop) (h : x.wp P (Exit.then M Q) a w) (k : ∀ a w, M a w → K a w) : x.wp P (Exit.then K Q) a w :=
  Code.wp_mono (fun e a w q => by cases e <;> first | exact k _ _ q | exact q) h
end

/-! ### A function's begin and end -/
def argsL : Nat → List Value → List (Nat × Value)
  | _, [] => []
  | i, v :: r => (i, v) :: argsL (i + 1) r
theorem look_argsL : ∀ (vs : List Value) (i t : Nat) (v : Value), look (argsL i vs) t = some v → i ≤ t ∧ vs[t - i]? = some v
  | [], _, _, _, h => by simp [argsL, look] at h
  | u :: r, i, t, v, h => by
    by_cases hi : i = t
    · subst hi
      simp only [argsL, look_cons_eq, Option.some.injEq] at h
      subst h
      simp
    · rw [argsL, look_cons_ne _ _ hi] at h
      obtain ⟨h1, h2⟩ := look_argsL r (i + 1) t v h
      refine ⟨by omega, ?_⟩
      rw [show t - i = (t - (i + 1)) + 1 by omega]
      simpa using h2
theorem enter_ {P : Program} {f : FuncId} {fn : Func} {c : Code} {args : List Value} {w : World} {R : Ending → World → Prop} {n : Nat} (hf : P.funcs[f]? = some fn) (hb : fn.body = some c) (hn : fn.ntmps = n) (hle : args.length ≤ n)
    (h : ∀ a, Frm n a (argsL 0 args) → c.wp P (bodyPost P fn R) a w) : Calls P f args.toArray w R := by
  refine calls_of_wp hf hb (h _ ⟨?_, rfl, ?_, ?_⟩)
  · simp [hn]
    omega
  · intro t v hv
    obtain ⟨_, h2⟩ := look_argsL args 0 t v hv
    simp only [Nat.sub_zero] at h2
    have hlt : t < args.length := (List.getElem?_eq_some_iff.1 h2).1
    simp only [Array.getD_eq_getD_getElem?]
    rw [Array.getElem?_append_left (by simpa using hlt)]
    simp [h2]
  · intro t v hv
    obtain ⟨_, h2⟩ := look_argsL args 0 t v hv
    have : t < args.length := by simpa using (List.getElem?_eq_some_iff.1 h2).1
    omega
def resL (P : Program) (l : List (Nat × Value)) (w : World) : List ResultVar → List (List Value) → Option (List Value × List Prop)
  | [], _ => some ([], [])
  | .tmp t :: r, hs => match look l t with
    | none => none
    | some v => match resL P l w r hs with
      | none => none
      | some (vs, ob) => some (v :: vs, ob)
  | .cell a t :: r, hs => match look l a with
    | some (.pointer (some ad)) => match symS P true CellC (loadVar t ad) w ((match hs with | [] => [] | h :: _ => h).map .ld) with
      | some ⟨v, _, ob1, []⟩ => match resL P l w r hs.tail with
        | none => none
        | some (vs, ob) => some (v :: vs, ob1 ++ ob)
      | _ => none
    | _ => none
def packL (vs : List Value) : Value := match vs with | [v] => v | vs => .tuple vs.toArray
def resF (tmps : Array Value) : ResultVar → Sem Value
  | .tmp t => pure (tmps.getD t undef)
  | .cell c t => do loadVar t (← asAddr (tmps.getD c undef))
theorem resL_sound {P : Program} {n : Nat} {a : Act} {w : World} {l : List (Nat × Value)} (hf : Frm n a l) : ∀ (rs : List ResultVar) (hs : List (List Value)) {vs : List Value} {ob : List Prop}, resL P l w rs hs = some (vs, ob) → AllP ob →
    (rs.mapM (resF a.tmps)).run P w = .ok vs w
  | [], _, vs, ob, h, _ => by
    simp only [resL, Option.some.injEq, Prod.mk.injEq] at h
    obtain ⟨rfl, rfl⟩ := h
    rfl
  | .tmp t :: r, hs, vs, ob, h, hob => by
    simp only [resL] at h
    split at h
    · simp at h
    · rename_i v hv
      split at h
      · simp at h
      · rename_i vs1 ob1 hr
        simp only [Option.some.injEq, Prod.mk.injEq] at h
        obtain ⟨rfl, rfl⟩ := h
        have := resL_sound hf r hs hr hob
        simp only [List.mapM_cons, Sem.run_bind, resF, Sem.run_pure, Result.andThen_ok, hf.val t v hv]
        rw [this]
        rfl
  | .cell c t :: r, hs, vs, ob, h, hob => by
    simp only [resL] at h
    split at h
    · rename_i ad had
      split at h
      · rename_i v w1 ob1 hs1
        split at h
        · simp at h
        · rename_i vs1 ob2 hr
          simp only [Option.some.injEq, Prod.mk.injEq] at h
          obtain ⟨rfl, rfl⟩ := h
          obtain ⟨h1, h2⟩ := AllP_append hob
          have h3 := (symS_rd _ hs1 h1).2 w (fun _ _ h => h)
          have := resL_sound hf r hs.tail hr h2
          simp only [List.mapM_cons, Sem.run_bind, resF, hf.val c _ had, asAddr, Sem.run_pure, Result.andThen_ok]
          rw [h3]
          simp only [Result.andThen_ok]
          rw [this]
          rfl
      · simp at h
    · simp at h
theorem results_sound {P : Program} {n : Nat} {a : Act} {w : World} {l : List (Nat × Value)} (hf : Frm n a l) {fn : Func} {hs : List (List Value)} {vs : List Value} {ob : List Prop} (h : resL P l w fn.results.toList hs = some (vs, ob)) (hob : AllP ob) :
    (results fn a.tmps).run P w = .ok (packL vs) w := by
  have h1 := resL_sound hf fn.results.toList hs h hob
  have e : results fn a.tmps = (do let vs ← fn.results.mapM (resF a.tmps); pure (if h : vs.size = 1 then vs[0] else .tuple vs)) := by
    unfold results
    congr 1
  rw [e, Array.mapM_eq_mapM_toList]
  have h2 : ∀ (s : Sem (List Value)) (f : List Value → Array Value), (f <$> s).run P w = (s.run P w).andThen fun a w' => .ok (f a) w' := fun s f => by
    rw [← bind_pure_comp]
    simp only [Sem.run_bind, Sem.run_pure]
  simp only [Sem.run_bind]
  rw [h2, h1]
  simp only [Result.andThen_ok, Sem.run_pure]
  congr 1
  match vs with
  | [] => rfl
  | [v] => rfl
  | u :: v :: r => simp [packL]
theorem ret_ {P : Program} {fn : Func} {R : Ending → World → Prop} {n : Nat} {a : Act} {w : World} {l : List (Nat × Value)} (hf : Frm n a l) (hs : List (List Value)) (vs : List Value) (ob : List Prop) (h : resL P l w fn.results.toList hs = some (vs, ob)) (hob : AllP ob)
    (hR : R (.returned (packL vs)) w) : bodyPost P fn R .ret a w := ⟨hf.defs, _, results_sound hf h hob, hR⟩
theorem end_ {P : Program} {fn : Func} {R : Ending → World → Prop} {n : Nat} {a : Act} {w : World} {l : List (Nat × Value)} (hf : Frm n a l) (hs : List (List Value)) (vs : List Value) (ob : List Prop) (h : resL P l w fn.results.toList hs = some (vs, ob)) (hob : AllP ob)
    (hR : R (.returned (packL vs)) w) : bodyPost P fn R .normal a w := ⟨hf.defs, _, results_sound hf h hob, hR⟩

/-! ### Blocks of the call's own -/
/-- Block b holds the cells cs. -/
def Bx (w : World) (b : Nat) (cs : List Value) (T : TypeId) : Prop := w.heap[b]? = some (.cells cs.toArray T (0, 0))
theorem Bx.lt {w : World} {b : Nat} {cs : List Value} {T : TypeId} (h : Bx w b cs T) : b < w.heap.size := (Array.getElem?_eq_some_iff.1 h).1
theorem Bx.cell {w : World} {b : Nat} {cs : List Value} {T : TypeId} (h : Bx w b cs T) {i : Nat} {v : Value} (hv : cs[i]? = some v) : w.cell? ⟨b, i, none⟩ = some v := by
  unfold Bx at h
  simp [World.cell?, h, hv]
theorem Bx.free {w : World} {b : Nat} {cs : List Value} {T : TypeId} (h : Bx w b cs T) (i : Nat) : w.frozen? ⟨b, i, none⟩ = false := by
  unfold Bx at h
  simp [World.frozen?, h]
theorem Bx.new {w w1 : World} {cs : List Value} {T : TypeId} (h : w1 = w.alloc (.cells cs.toArray T (0, 0))) : Bx w1 w.heap.size cs T := by
  subst h
  exact heap_alloc_new w _
theorem gr_alloc {w w1 : World} {o : Obj} (h : w1 = w.alloc o) : w.grownBy w1 none := by
  subst h
  exact World.grownBy_alloc w o none
theorem gr_refl (w : World) (row : Option Nat) : w.grownBy w row := ⟨rfl, rfl, rfl, Nat.le_refl _, fun _ _ _ => rfl⟩
theorem gr_drew {w w1 : World} (h : w1 = w.drew) : w.grownBy w1 none := by
  subst h
  exact ⟨rfl, rfl, rfl, Nat.le_refl _, fun _ _ _ => rfl⟩
theorem gr_ext {w w1 : World} (h : Ext w w1) : w.grownBy w1 none := ⟨h.os, h.tape, h.output, Below.size h, fun k hk _ => h.block k hk⟩
theorem gr_drawn {w w1 : World} (h : Drawn w w1) : w.grownBy w1 none := gr_ext h.ext
theorem Bx.gr {w w1 : World} {b : Nat} {cs : List Value} {T : TypeId} {row : Option Nat} (h : Bx w b cs T) (g : w.grownBy w1 row) (hne : row ≠ some b) : Bx w1 b cs T := by
  unfold Bx at *
  rw [g.block b (Array.getElem?_eq_some_iff.1 h).1 (fun e => hne e.symm)]
  exact h
theorem Bx.gn {w w1 : World} {b : Nat} {cs : List Value} {T : TypeId} (h : Bx w b cs T) (g : w.grownBy w1 none) : Bx w1 b cs T := h.gr g (by simp)
theorem Bx.gb {w w1 : World} {b r : Nat} {cs : List Value} {T : TypeId} (h : Bx w b cs T) (g : w.grownBy w1 (some r)) (hne : r ≠ b) : Bx w1 b cs T := h.gr g (fun e => hne (by injection e))
theorem Bx.set {w w1 : World} {b i : Nat} {cs : List Value} {T : TypeId} {v : Value} (h : Bx w b cs T) (hw : w1 = w.setCell ⟨b, i, none⟩ v) : Bx w1 b (cs.set i v) T := by
  subst hw
  unfold Bx at *
  simp [World.setCell, Array.getElem?_modify, h]
theorem gr_set {w w1 : World} {b i : Nat} {v : Value} (hw : w1 = w.setCell ⟨b, i, none⟩ v) : w.grownBy w1 (some b) := by
  subst hw
  refine ⟨rfl, rfl, rfl, by simp [World.setCell], fun k hk hne => Below.heap_setCell w _ _ _ (fun e => hne (by rw [e]))⟩
theorem Ext.gr {w0 w w1 : World} {row : Option Nat} (h : Ext w0 w) (g : w.grownBy w1 row) (hr : ∀ k, row = some k → w0.heap.size ≤ k) : Ext w0 w1 := Below.grown h g h.size hr
theorem Ext.gn {w0 w w1 : World} (h : Ext w0 w) (g : w.grownBy w1 none) : Ext w0 w1 := h.gr g (fun _ h => by cases h)
theorem gr_trans {w w1 w2 : World} {row : Option Nat} (g : w.grownBy w1 row) (k : w1.grownBy w2 row) : w.grownBy w2 row :=
  ⟨k.os.trans g.os, k.tape.trans g.tape, k.output.trans g.output, Nat.le_trans g.size k.size, fun i hi hne => (k.block i (Nat.lt_of_lt_of_le hi g.size) hne).trans (g.block i hi hne)⟩
theorem gr_row {w w1 : World} (g : w.grownBy w1 none) (row : Option Nat) : w.grownBy w1 row := ⟨g.os, g.tape, g.output, g.size, fun i hi _ => g.block i hi (by simp)⟩
theorem no_row {w : World} : ∀ k, (none : Option Nat) = some k → w.heap.size ≤ k := fun _ h => by cases h

/-! ### A store into a block of the call's own -/
def oneC : Value → Bool
  | .agg _ => false
  | .tuple _ => false
  | _ => true
theorem run_storeCells {P : Program} {b : Nat} {T : TypeId} : ∀ (vs : List Value) (off i : Nat) {w : World} {cs : List Value}, Bx w b cs T → off + i + vs.length ≤ cs.length → (∀ v ∈ vs, oneC v = true) →
    ∃ w1, (storeCells ⟨b, off, none⟩ vs i).run P w = .ok () w1 ∧ w.grownBy w1 (some b) ∧ Bx w1 b (cs.take (off + i) ++ vs ++ cs.drop (off + i + vs.length)) T
  | [], off, i, w, cs, hbx, _, _ => ⟨w, rfl, gr_refl w _, by simpa using hbx⟩
  | v :: r, off, i, w, cs, hbx, hfit, hone => by
    have hadd : (⟨b, off, none⟩ : Addr).add i = ⟨b, off + i, none⟩ := by unfold Addr.add; split <;> simp_all
    simp only [List.length_cons] at hfit
    have hlt : off + i < cs.length := by omega
    have hc := hbx.cell (List.getElem?_eq_getElem hlt)
    have hfz := hbx.free (off + i)
    have h1 := hbx.set (w1 := w.setCell ⟨b, off + i, none⟩ v) (i := off + i) (v := v) rfl
    obtain ⟨w1, hr, hg, hb⟩ := run_storeCells r off (i + 1) h1 (by simp only [List.length_set]; omega) (fun u hu => hone u (List.mem_cons_of_mem _ hu))
    refine ⟨w1, ?_, gr_trans (gr_set rfl) hg, ?_⟩
    · have hv := hone v List.mem_cons_self
      unfold storeCells
      simp only [Sem.run_bind, store, hadd]
      have : (Sem.store Mode.plain ⟨b, off + i, none⟩ v (Sem.pure ())).run P w = .ok () (w.setCell ⟨b, off + i, none⟩ v) := by
        cases v <;> first | (simp [oneC] at hv; done) | simp [Sem.run, hc, hfz]
      rw [this]
      exact hr
    · have e1 : (cs.set (off + i) v).take (off + (i + 1)) = cs.take (off + i) ++ [v] := by
        rw [show off + (i + 1) = (off + i) + 1 by omega, List.take_succ_eq_append_getElem (by simpa using hlt), List.take_set_of_le (by omega)]
        simp
      have e2 : (cs.set (off + i) v).drop (off + (i + 1) + r.length) = cs.drop (off + i + (v :: r).length) := by
        rw [List.drop_set_of_lt (by omega)]
        congr 1
        simp only [List.length_cons]
        omega
      rw [e1, e2] at hb
      simpa using hb
def storeAtL (l : List (Nat × Value)) (ops : List Oper) (k : Nat) : Option (TypeId × Value × Value) :=
  match ops[k]? with
  | none => none
  | some o => match opOk l ops o, o.op, o.dst with
    | true, .store t x y, none => some (t, rho l x, rho l y)
    | _, _, _ => none
def storeOk (P : Program) (t off : Nat) (v : Value) (cs : List Value) : Bool :=
  Nat.ble (off + v.cells.toList.length) cs.length && (match P.info? t with | some i => Nat.beq i.size v.cells.toList.length | none => false) && v.cells.toList.all oneC
theorem At.store {P : Program} {n : Nat} {ops : Array Oper} {Q : Exit → Act → World → Prop} {k : Nat} {a : Act} {w : World} {l : List (Nat × Value)} (hf : Frm n a l) {t b off : Nat} {v : Value} {cs : List Value} {T : TypeId}
    (hc : storeAtL l ops.toList k = some (t, .pointer (some ⟨b, off, none⟩), v)) (hbx : Bx w b cs T) (hok : storeOk P t off v cs = true)
    (next : ∀ a' w1, w.grownBy w1 (some b) → Bx w1 b (cs.take off ++ v.cells.toList ++ cs.drop (off + v.cells.toList.length)) T → Frm n a' l → At P ops Q (k + 1) a' w1) : At P ops Q k a w := by
  unfold storeAtL at hc
  split at hc
  · simp at hc
  · rename_i o ho
    split at hc
    · rename_i t' x y hok' hop hdst
      simp only [Option.some.injEq, Prod.mk.injEq] at hc
      obtain ⟨rfl, hx, hy⟩ := hc
      simp only [storeOk, Bool.and_eq_true] at hok
      obtain ⟨⟨h1, h2⟩, h3⟩ := hok
      have h1 : off + v.cells.toList.length ≤ cs.length := by simpa using h1
      split at h2
      · rename_i inf hinf
        have h2 : inf.size = v.cells.toList.length := by simpa using h2
        obtain ⟨w1, hr, hg, hb⟩ := run_storeCells (P := P) v.cells.toList off 0 hbx (by simpa using h1) (fun u hu => List.all_eq_true.1 h3 u hu)
        simp only [opOk, Bool.and_eq_true] at hok'
        obtain ⟨⟨k1, k2⟩, k3⟩ := hok'
        unfold At
        rw [drop_of_getElem? ho]
        unfold wpList
        split at k1
        · rename_i hwl
          rw [wantedL_sound hf hwl, if_pos rfl]
          have hrun : (execOp (rho l) o).run P w = .ok .skip w1 := by
            have hsz : v.cells.size = inf.size := by rw [h2]; simp
            simp only [execOp, hop, hx, hy, Instr.storeAt, Instr.sureAddr]
            simp [storeVar, sizeOf, typeInfo, hinf, hsz]
            simp [hr]
          have hf' := hf.putL (d := o.dst) (v := undef) (l' := l) (by rw [hdst]; rfl)
          exact .inl (oper_wp_of_gives (by rw [hf.exec k2 k3]; exact hrun) (.inr ⟨rfl, rfl⟩) (next _ w1 hg (by simpa using hb) hf'))
        · simp at k1
      · simp at h2
    · simp at hc

/-! ### Numbers -/
theorem w64 {x : Int} (h1 : -9223372036854775808 ≤ x) (h2 : x ≤ 9223372036854775807) : (.int .i64 (IntKind.i64.wrap x) : Value) = .int .i64 x := by
  congr 1
  simp only [IntKind.wrap, IntKind.bits, IntKind.signed]
  simp
  omega
theorem w64e {x y : Int} (h : x = y) (h1 : -9223372036854775808 ≤ x) (h2 : x ≤ 9223372036854775807) : (.int .i64 (IntKind.i64.wrap x) : Value) = .int .i64 y := by
  rw [w64 h1 h2, h]
theorem wu64 {x : Int} (h1 : 0 ≤ x) (h2 : x ≤ 18446744073709551615) : (.int .u64 (IntKind.u64.wrap x) : Value) = .int .u64 x := by
  congr 1
  simp only [IntKind.wrap, IntKind.bits, IntKind.signed]
  simp
  omega
theorem max_if (x y : Int) : (if y > x then y else x) = max x y := by split <;> omega
theorem min_if (x y : Int) : (if y < x then y else x) = min x y := by split <;> omega
end Go.Proofs.Ytklbpajmoklheaa
set_option linter.unusedVariables false
namespace Go.Proofs.Ytklbpajmoklheaa
open Go Go.RowKit

/-- The cells that a region reads hold what they hold. -/
def HoldsC (Cs : List (Addr × Value)) (w : World) : Prop := AllP (Cs.map fun p => w.cell? p.1 = some p.2)
theorem AllP_get {α : Type} {f : α → Prop} : ∀ {l : List α} {j : Nat} {x : α}, AllP (l.map f) → l[j]? = some x → f x
  | [], j, x, _, h => by simp at h
  | y :: _, 0, x, hp, h => by simp at h; subst h; exact hp.1
  | y :: r, j + 1, x, hp, h => AllP_get (l := r) (j := j) hp.2 (by simpa using h)
theorem AllP_map {α : Type} {f g : α → Prop} : ∀ {l : List α}, (∀ x ∈ l, f x → g x) → AllP (l.map f) → AllP (l.map g)
  | [], _, _ => trivial
  | x :: r, h, hp => ⟨h x List.mem_cons_self hp.1, AllP_map (fun y hy => h y (List.mem_cons_of_mem _ hy)) hp.2⟩
theorem AllP_mem {α : Type} {f : α → Prop} : ∀ {l : List α}, AllP (l.map f) → ∀ x ∈ l, f x
  | y :: _, hp, x, h => by
    rcases List.mem_cons.1 h with rfl | h
    · exact hp.1
    · exact AllP_mem hp.2 x h
theorem HoldsC.gr {Cs : List (Addr × Value)} {w w1 : World} (h : HoldsC Cs w) (g : w.grownBy w1 none) : HoldsC Cs w1 :=
  AllP_map (fun _ _ hp => g.cell hp (by simp)) h
theorem HoldsC.gr' {Cs : List (Addr × Value)} {w w1 : World} {b : Nat} (h : HoldsC Cs w) (g : w.grownBy w1 (some b)) (hne : AllP (Cs.map fun p => p.1.block ≠ b)) : HoldsC Cs w1 :=
  AllP_map (fun p hp hc => g.cell hc (fun e => AllP_mem hne p hp (Option.some.inj e))) h
def CsC (Cs : List (Addr × Value)) (_ : World) (ad : Addr) (v : Value) : Prop := ∃ j : Nat, Cs[j]? = some (ad, v)
theorem CsC_holds {Cs : List (Addr × Value)} {w w2 : World} (h : HoldsC Cs w2) (ad : Addr) (v : Value) (hc : CsC Cs w ad v) : w2.cell? ad = some v := by
  obtain ⟨j, hj⟩ := hc
  exact AllP_get (f := fun p : Addr × Value => w2.cell? p.1 = some p.2) (x := (ad, v)) h hj
def AtH (P : Program) (ops : Array Oper) (Q : Exit → Act → World → Prop) (Cs : List (Addr × Value)) (fuel : Nat) (listed : Array Bool) (a : Act) (w : World) : Prop := wpAnyH P .any ops Q (HoldsC Cs) fuel listed a w
def NoHang (Q : Exit → Act → World → Prop) : Prop := ∀ (d : Option Tmp) (v : Value) c a w, Q (.panic c) (a.put d v) w → Q (.panic c) a w
theorem AtH.start {P : Program} {id : Nat} {ops : Array Oper} {Q : Exit → Act → World → Prop} {a : Act} {w : World} (Cs : List (Addr × Value)) (fuel : Nat) (listed : Array Bool) (hm : P.follows .mixedOrders = true) (hfu : ops.size = fuel) (hli : Array.replicate ops.size false = listed)
    (h : ∀ w1, w1 = w.drew → AtH P ops Q Cs fuel listed a w1) : (Code.region id ops true).wp P Q a w := by
  subst hfu
  subst hli
  exact wp_region_held (S := HoldsC Cs) hm (h _ rfl)
/-- Readers, each as soon as it may come up. -/
def evH (P : Program) (n : Nat) (Cs : List (Addr × Value)) (ops : Array Oper) : List Nat → List (List Orc) → List (Nat × Value) → Array Bool → Option (List (Nat × Value) × Array Bool × List Prop)
  | [], _, l, li => some (l, li, [])
  | i :: r, hs, l, li =>
    match Region.free .any ops li i && (Region.ready .any ops li).contains i, ops.toList[i]? with
    | true, some o => match wantedL l ops.toList o with
      | none => none
      | some false => match putL n l o.dst undef with
        | none => none
        | some l' => evH P n Cs ops r hs.tail l' (li.setIfInBounds i true)
      | some true => match known l o && notSel o with
        | false => none
        | true => match symOpA P true (CsC Cs) (rho l) default o (hdO hs) with
          | none => none
          | some (v, _, ob) => match putL n l o.dst v with
            | none => none
            | some l' => match evH P n Cs ops r hs.tail l' (li.setIfInBounds i true) with
              | none => none
              | some (l2, li2, ob2) => some (l2, li2, ob ++ ob2)
    | _, _ => none
theorem AtH.rd0 {P : Program} {n : Nat} {ops : Array Oper} {Q : Exit → Act → World → Prop} {Cs : List (Addr × Value)} {w : World} (hsel : Region.noSelect ops = true) (hQ : NoHang Q) (hS : HoldsC Cs w) :
    ∀ (is : List Nat) (hs : List (List Orc)) {l : List (Nat × Value)} {li : Array Bool} {a : Act} (l' : List (Nat × Value)) (li' : Array Bool) (ob : List Prop) (fuel : Nat), Frm n a l →
      evH P n Cs ops is hs l li = some (l', li', ob) → AllP ob → (∀ a', Frm n a' l' → AtH P ops Q Cs fuel li' a' w) → AtH P ops Q Cs (fuel + is.length) li a w
  | [], hs, l, li, a, l', li', ob, fuel, hf, h, hob, next => by
    simp only [evH, Option.some.injEq, Prod.mk.injEq] at h
    obtain ⟨rfl, rfl, rfl⟩ := h
    exact next a hf
  | i :: r, hs, l, li, a, l', li', ob, fuel, hf, h, hob, next => by
    unfold evH at h
    split at h
    · rename_i o hfr ho
      simp only [Bool.and_eq_true] at hfr
      have ho' : ops[i]? = some o := by simpa using ho
      split at h
      · simp at h
      · rename_i hwl
        have hwant := wantedL_sound hf hwl
        split at h
        · simp at h
        · rename_i l1 hl1
          have := AtH.rd0 hsel hQ hS r hs.tail l' li' ob fuel (hf.putL hl1) h hob next
          exact wpAnyH_take ho' hsel hfr.1 hfr.2 (hQ o.dst undef) (.inr ⟨hwant, rfl⟩) hS this
      · rename_i hwl
        have hwant := wantedL_sound hf hwl
        split at h
        · simp at h
        · rename_i hk
          simp only [Bool.and_eq_true] at hk
          split at h
          · simp at h
          · rename_i v w2 ob1 hs1
            split at h
            · simp at h
            · rename_i l1 hl1
              split at h
              · simp at h
              · rename_i l2 li2 ob2 hev
                simp only [Option.some.injEq, Prod.mk.injEq] at h
                obtain ⟨rfl, rfl, rfl⟩ := h
                obtain ⟨hob1, hob2⟩ := AllP_append hob
                obtain ⟨_, hrun⟩ := symOpA_rd hs1 hob1
                have := AtH.rd0 hsel hQ hS r hs.tail l2 li2 ob2 fuel (hf.putL hl1) hev hob2 next
                exact wpAnyH_take ho' hsel hfr.1 hfr.2 (hQ o.dst v) (.inl ⟨hwant, fun w3 h3 => by rw [hf.exec hk.1 hk.2]; exact hrun w3 (fun ad u hc => CsC_holds h3 ad u hc)⟩) hS this
    · simp at h
theorem AtH.rd {P : Program} {n : Nat} {ops : Array Oper} {Q : Exit → Act → World → Prop} {Cs : List (Addr × Value)} {w : World} (hsel : Region.noSelect ops = true) (hQ : NoHang Q) (hS : HoldsC Cs w)
    (is : List Nat) (hs : List (List Orc)) {l : List (Nat × Value)} {li : Array Bool} {a : Act} (nw : List (Nat × Value)) (li' : Array Bool) (ob : List Prop) (fuel : Nat) (hf : Frm n a l)
    (h : evH P n Cs ops is hs l li = some (nw ++ l, li', ob)) (hob : AllP ob) (next : ∀ a', Frm n a' (nw ++ l) → AtH P ops Q Cs fuel li' a' w) : AtH P ops Q Cs (fuel + is.length) li a w :=
  AtH.rd0 hsel hQ hS is hs _ li' ob fuel hf h hob next
theorem AtH.done {P : Program} {ops : Array Oper} {Q : Exit → Act → World → Prop} {Cs : List (Addr × Value)} {fuel : Nat} {li : Array Bool} {a : Act} {w : World} (hr : Region.ready .any ops li = []) (h : Q .normal a w) : AtH P ops Q Cs fuel li a w := wpAnyH_done hr h fuel
/-- One operation that may come up is carried out now. -/
def OneH (P : Program) (ops : Array Oper) (Q : Exit → Act → World → Prop) (Cs : List (Addr × Value)) (fuel : Nat) (li : Array Bool) (i : Nat) (a : Act) (w : World) : Prop :=
  wpOp P ops Q i (fun a' w' => HoldsC Cs w' ∧ AtH P ops Q Cs fuel (li.setIfInBounds i true) a' w') a w
theorem AtH.all {P : Program} {ops : Array Oper} {Q : Exit → Act → World → Prop} {Cs : List (Addr × Value)} {li : Array Bool} {a : Act} {w : World} (is : List Nat) (fuel : Nat) (hr : Region.ready .any ops li = is) (hne : is ≠ [])
    (h : AllP (is.map fun i => OneH P ops Q Cs fuel li i a w)) : AtH P ops Q Cs (fuel + 1) li a w := wpAnyH_all hr hne (AllP_mem h)
section
variable {P : Program} {n : Nat} {ops : Array Oper} {Q : Exit → Act → World → Prop} {Cs : List (Addr × Value)} {fuel i : Nat} {li : Array Bool} {a : Act} {w : World} {l : List (Nat × Value)}
theorem OneH.seq0 (hf : Frm n a l) (hs : List (List Orc)) (l' : List (Nat × Value)) (w' : World) (ob : List Prop) (li' : Array Bool) (hli : li.setIfInBounds i true = li')
    (h : evSeq P false n CellC ops.toList ((ops.toList.drop i).take 1) hs l w = some (l', w', ob)) (hi : Nat.blt i ops.toList.length = true) (hob : AllP ob)
    (next : ∀ a' w1, w1 = w' → Frm n a' l' → HoldsC Cs w1 ∧ AtH P ops Q Cs fuel li' a' w1) : OneH P ops Q Cs fuel li i a w := by
  subst hli
  have hi : i < ops.toList.length := by simpa using hi
  have ho : ops.toList[i]? = some ops.toList[i] := List.getElem?_eq_getElem hi
  rw [List.drop_eq_getElem_cons hi, List.take_succ_cons, List.take_zero] at h
  have ho' : ops[i]? = some ops.toList[i] := by rw [← Array.getElem?_toList]; exact ho
  unfold OneH wpOp
  rw [ho']
  unfold evSeq at h
  split at h
  · simp at h
  · rename_i hwl
    split at h
    · simp at h
    · rename_i l1 hl1
      simp only [evSeq, Option.some.injEq, Prod.mk.injEq] at h
      obtain ⟨rfl, rfl, rfl⟩ := h
      simp only [wantedL_sound hf hwl, Bool.false_eq_true, if_false]
      exact next _ _ rfl (hf.putL hl1)
  · rename_i hwl
    split at h
    · simp at h
    · rename_i hk
      simp only [Bool.and_eq_true] at hk
      split at h
      · simp at h
      · rename_i v w1 ob1 hs1
        split at h
        · simp at h
        · rename_i l1 hl1
          split at h
          · simp at h
          · rename_i l2 w2 ob2 hev
            simp only [Option.some.injEq, Prod.mk.injEq] at h
            obtain ⟨rfl, rfl, rfl⟩ := h
            simp only [evSeq, Option.some.injEq, Prod.mk.injEq] at hev
            obtain ⟨rfl, rfl, rfl⟩ := hev
            obtain ⟨hob1, _⟩ := AllP_append hob
            obtain ⟨nx, hrun, hg⟩ := symOpA_lex hs1 hob1
            simp only [wantedL_sound hf hwl, if_true]
            exact .inl (oper_wp_of_gives (by rw [hf.exec hk.1 hk.2]; exact hrun) hg (next _ _ rfl (hf.putL hl1)))
theorem OneH.seq (hf : Frm n a l) (hs : List (List Orc)) (nw : List (Nat × Value)) (w' : World) (ob : List Prop) (li' : Array Bool) (hli : li.setIfInBounds i true = li')
    (h : evSeq P false n CellC ops.toList ((ops.toList.drop i).take 1) hs l w = some (nw ++ l, w', ob)) (hi : Nat.blt i ops.toList.length = true) (hob : AllP ob)
    (next : ∀ a' w1, w1 = w' → Frm n a' (nw ++ l) → HoldsC Cs w1 ∧ AtH P ops Q Cs fuel li' a' w1) : OneH P ops Q Cs fuel li i a w := OneH.seq0 hf hs _ w' ob li' hli h hi hob next
theorem OneH.call (hf : Frm n a l) (f : FuncId) (args : Array Value) (d : Option Nat) (li' : Array Bool) (hli : li.setIfInBounds i true = li')
    (hc : callAt P l ops.toList i = some (f, args, d)) {R : Ending → World → Prop} (hcall : Calls P f args w R)
    (hR : ∀ e w1, R e w1 → ∃ v, e = .returned v ∧ ∃ l', putL n l d v = some l' ∧ ∀ a', Frm n a' l' → HoldsC Cs w1 ∧ AtH P ops Q Cs fuel li' a' w1) : OneH P ops Q Cs fuel li i a w := by
  subst hli
  unfold callAt at hc
  split at hc
  · simp at hc
  · rename_i o ho
    have ho' : ops[i]? = some o := by simpa using ho
    split at hc
    · rename_i hwl hkn
      simp only [Bool.and_eq_true] at hkn
      split at hc
      · rename_i g as_ w0 os0 hs
        simp only [Option.some.injEq, Prod.mk.injEq] at hc
        obtain ⟨rfl, rfl, rfl⟩ := hc
        have hrun := (symS_rd _ hs trivial).2 w (fun _ _ h => h.elim)
        unfold OneH wpOp
        rw [ho']
        simp only [wantedL_sound hf hwl, if_true]
        refine .inl ?_
        unfold Oper.wp
        rw [hf.exec hkn.1 hkn.2, hrun]
        refine Calls.mono hcall fun e w1 he => ?_
        obtain ⟨v, rfl, l', hl', hnext⟩ := hR e w1 he
        exact hnext _ (hf.putL hl')
      · simp at hc
    · simp at hc
theorem OneH.run (hf : Frm n a l) {o : Oper} (ho : ops.toList[i]? = some o) (hk : opOk l ops.toList o = true) {nx : Next} {v : Value} {w1 : World} (li' : Array Bool) (hli : li.setIfInBounds i true = li')
    (hr : (execOp (rho l) o).run P w = .ok nx w1) (hg : Gives nx v) {l' : List (Nat × Value)} (hl : putL n l o.dst v = some l') (next : ∀ a', Frm n a' l' → HoldsC Cs w1 ∧ AtH P ops Q Cs fuel li' a' w1) : OneH P ops Q Cs fuel li i a w := by
  subst hli
  have ho' : ops[i]? = some o := by simpa using ho
  simp only [opOk, Bool.and_eq_true] at hk
  obtain ⟨⟨h1, h2⟩, h3⟩ := hk
  unfold OneH wpOp
  rw [ho']
  split at h1
  · rename_i hwl
    simp only [wantedL_sound hf hwl, if_true]
    exact .inl (oper_wp_of_gives (by rw [hf.exec h2 h3]; exact hr) hg (next _ (hf.putL hl)))
  · simp at h1
theorem store_run {t b off : Nat} {v : Value} {cs : List Value} {T : TypeId} (hbx : Bx w b cs T) (hok : storeOk P t off v cs = true) {o : Oper} {x y : Operand} (hop : o.op = .store t x y) (hx : rho l x = .pointer (some ⟨b, off, none⟩)) (hy : rho l y = v) :
    ∃ w1, (execOp (rho l) o).run P w = .ok .skip w1 ∧ w.grownBy w1 (some b) ∧ Bx w1 b (cs.take off ++ v.cells.toList ++ cs.drop (off + v.cells.toList.length)) T := by
  simp only [storeOk, Bool.and_eq_true] at hok
  obtain ⟨⟨h1, h2⟩, h3⟩ := hok
  have h1 : off + v.cells.toList.length ≤ cs.length := by simpa using h1
  split at h2
  · rename_i inf hinf
    have h2 : inf.size = v.cells.toList.length := by simpa using h2
    obtain ⟨w1, hr, hg, hb⟩ := run_storeCells (P := P) v.cells.toList off 0 hbx (by simpa using h1) (fun u hu => List.all_eq_true.1 h3 u hu)
    refine ⟨w1, ?_, hg, by simpa using hb⟩
    have hsz : v.cells.size = inf.size := by rw [h2]; simp
    simp only [execOp, hop, hx, hy, Instr.storeAt, Instr.sureAddr]
    simp [storeVar, sizeOf, typeInfo, hinf, hsz]
    simp [hr]
  · simp at h2
theorem OneH.store (hf : Frm n a l) {t b off : Nat} {v : Value} {cs : List Value} {T : TypeId} (li' : Array Bool) (hli : li.setIfInBounds i true = li')
    (hc : storeAtL l ops.toList i = some (t, .pointer (some ⟨b, off, none⟩), v)) (hbx : Bx w b cs T) (hok : storeOk P t off v cs = true)
    (next : ∀ a' w1, w.grownBy w1 (some b) → Bx w1 b (cs.take off ++ v.cells.toList ++ cs.drop (off + v.cells.toList.length)) T → Frm n a' l → HoldsC Cs w1 ∧ AtH P ops Q Cs fuel li' a' w1) : OneH P ops Q Cs fuel li i a w := by
  unfold storeAtL at hc
  split at hc
  · simp at hc
  · rename_i o ho
    split at hc
    · rename_i t' x y hok' hop hdst
      simp only [Option.some.injEq, Prod.mk.injEq] at hc
      obtain ⟨rfl, hx, hy⟩ := hc
      obtain ⟨w1, hr, hg, hb⟩ := store_run (P := P) (l := l) hbx hok hop hx hy
      exact OneH.run hf ho hok' li' hli hr (.inr ⟨rfl, rfl⟩) (by rw [hdst]; rfl) (fun a' hf' => next a' w1 hg hb hf')
    · simp at hc
end
end Go.Proofs.Ytklbpajmoklheaa
