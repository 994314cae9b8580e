/-
  A frame of the walks of this seat: what is known of a frame's slots as a list; a run of operations evaluated by the kernel, what it leans on told as a list of facts. Conditions: none; plain definitions and lemmas, over any program.
-/
import Derived.Test.YtkkophhnliplhaaDoorBase
import Derived.Still
import Derived.OrdersHeld
import Derived.Laws.StructEq
import Derived.Laws.Cells
set_option linter.unusedVariables false
namespace Go.Proofs.YtkkophhnliplhaaDoor
open Go Go.RowKit

/-! ### Frames -/
def look : List (Nat × Value) → Nat → Option Value
  | [], _ => none
  | (i, v) :: r, t => if Nat.beq i t = true then some v else look r t
def opd (l : List (Nat × Value)) : Operand → Option Value
  | .tmp t => look l t
  | .const v => some v
  | .global g => some (.pointer (some ⟨g, 0, none⟩))
  | .func f => some (.func (.func f) #[] #[])
def rho (l : List (Nat × Value)) (x : Operand) : Value := (opd l x).getD undef
def known (l : List (Nat × Value)) (o : Oper) : Bool := o.op.operands.toList.all fun x => (opd l x).isSome
def notSel (o : Oper) : Bool := match o.op with | .select _ _ => false | _ => true
/-- What is known of a frame of n slots. -/
structure Frm (n : Nat) (a : Act) (l : List (Nat × Value)) : Prop where
  size : a.tmps.size = n
  defs : a.defers = []
  val : ∀ t v, look l t = some v → a.tmps.getD t undef = v
  lt : ∀ t v, look l t = some v → t < n
theorem Frm.opd {n : Nat} {a : Act} {l : List (Nat × Value)} (h : Frm n a l) {x : Operand} {v : Value} (hx : opd l x = some v) : a.eval x = v := by
  cases x with
  | tmp t => exact h.val t v hx
  | const u => exact Option.some.inj hx
  | global g => exact Option.some.inj hx
  | func f => exact Option.some.inj hx
theorem Frm.exec {n : Nat} {a : Act} {l : List (Nat × Value)} (h : Frm n a l) {o : Oper} (hk : known l o = true) (hs : notSel o = true) : execOp a.eval o = execOp (rho l) o := by
  refine execOp_congr o (fun cs b he => by simp [notSel, he] at hs) (fun x hx => ?_)
  have h1 := List.all_eq_true.1 hk x (by simpa using hx)
  obtain ⟨v, hv⟩ := Option.isSome_iff_exists.1 h1
  rw [h.opd hv, rho, hv]
  rfl
theorem look_cons_eq (l : List (Nat × Value)) (d : Nat) (v : Value) : look ((d, v) :: l) d = some v := by simp [look]
theorem look_cons_ne (l : List (Nat × Value)) {d t : Nat} (v : Value) (h : d ≠ t) : look ((d, v) :: l) t = look l t := by simp [look, h]
theorem Frm.put {n : Nat} {a : Act} {l : List (Nat × Value)} (h : Frm n a l) {d : Nat} (hd : d < n) (v : Value) : Frm n (a.put (some d) v) ((d, v) :: l) := by
  refine ⟨by simp [Act.put, h.size], by simp [Act.put, h.defs], fun t u hu => ?_, fun t u hu => ?_⟩
  rotate_left
  · by_cases hdt : d = t
    · omega
    · rw [look_cons_ne l v hdt] at hu
      exact h.lt t u hu
  by_cases hdt : d = t
  · subst hdt
    rw [look_cons_eq] at hu
    injection hu with hu
    subst hu
    simp [Act.put, h.size, hd]
  · rw [look_cons_ne l v hdt] at hu
    have := h.val t u hu
    simp only [Act.put, Array.getD_eq_getD_getElem?] at this ⊢
    rw [Array.getElem?_setIfInBounds_ne hdt]
    exact this
theorem Frm.put' {n : Nat} {a : Act} {l : List (Nat × Value)} (h : Frm n a l) {d : Option Nat} (hd : ∀ t, d = some t → t < n) (v : Value) :
    Frm n (a.put d v) (match d with | some t => (t, v) :: l | none => l) := by
  cases d with
  | none => exact ⟨by simp [Act.put, h.size], by simp [Act.put, h.defs], fun t u hu => by simpa [Act.put] using h.val t u hu, h.lt⟩
  | some t => exact h.put (hd t rfl) v
/-- A smaller list, each of whose slots is the same. -/
def subL (l : List (Nat × Value)) : List (Nat × Value) → Prop
  | [] => True
  | (t, v) :: r => look l t = some v ∧ subL l r
theorem subL_look {l : List (Nat × Value)} : ∀ {r : List (Nat × Value)}, subL l r → ∀ t v, look r t = some v → look l t = some v
  | [], _, _, _, h => by simp [look] at h
  | (i, u) :: r, hs, t, v, h => by
    by_cases hi : i = t
    · subst hi
      rw [look_cons_eq] at h
      injection h with h
      subst h
      exact hs.1
    · rw [look_cons_ne r u hi] at h
      exact subL_look hs.2 t v h
theorem Frm.sub {n : Nat} {a : Act} {l r : List (Nat × Value)} (h : Frm n a l) (hs : subL l r) : Frm n a r := ⟨h.size, h.defs, fun t v hv => h.val t v (subL_look hs t v hv), fun t v hv => h.lt t v (subL_look hs t v hv)⟩

/-- A slot's value, said otherwise. -/
theorem Frm.as {n : Nat} {a : Act} {l : List (Nat × Value)} (h : Frm n a l) (t : Nat) (v u : Value) (hl : look l t = some v) (e : v = u) : Frm n a ((t, u) :: l) := by
  subst e
  refine ⟨h.size, h.defs, fun t' v' hv => ?_, fun t' v' hv => ?_⟩
  · by_cases ht : t = t'
    · subst ht
      rw [look_cons_eq] at hv
      injection hv with hv
      subst hv
      exact h.val t v hl
    · rw [look_cons_ne l v ht] at hv
      exact h.val t' v' hv
  · by_cases ht : t = t'
    · subst ht
      exact h.lt t v hl
    · rw [look_cons_ne l v ht] at hv
      exact h.lt t' v' hv

/-! ### What an operation asks of the world -/
inductive Orc where
  | ld (v : Value)
  | ad (a : Addr)
  | as_ (v : Value)
  | cs (l : List Value)
def AllP : List Prop → Prop
  | [] => True
  | p :: r => p ∧ AllP r
theorem AllP_append {l r : List Prop} (h : AllP (l ++ r)) : AllP l ∧ AllP r := by
  induction l with
  | nil => exact ⟨trivial, h⟩
  | cons p l ih => exact ⟨⟨h.1, (ih h.2).1⟩, (ih h.2).2⟩
structure Rs (α : Type) where
  x : α
  w : World
  ob : List Prop
  os : List Orc
def symS {α : Type} (P : Program) (rd : Bool) (C : World → Addr → Value → Prop) : Sem α → World → List Orc → Option (Rs α)
  | .pure a, w, os => some ⟨a, w, [], os⟩
  | .load _ ad k, w, .ld v :: os => match symS P rd C (k v) w os with
    | some r => some ⟨r.x, r.w, (C w ad v) :: r.ob, r.os⟩
    | none => none
  | .store _ ad v k, w, os => match rd, v with
    | true, _ => none
    | false, .agg _ => none
    | false, .tuple _ => none
    | false, v => match symS P rd C k (w.setCell ad v) os with
      | some r => some ⟨r.x, r.w, ((w.cell? ad).isSome = true) :: (w.frozen? ad = false) :: r.ob, r.os⟩
      | none => none
  | .new o k, w, os => match rd with
    | true => none
    | false => symS P rd C (k w.heap.size) (w.alloc o) os
  | .program k, w, os => symS P rd C (k P) w os
  | _, _, _ => none
theorem symS_lex {α : Type} {P : Program} {C : World → Addr → Value → Prop} (hC : ∀ w ad v, C w ad v → w.cell? ad = some v) (s : Sem α) :
    ∀ {w : World} {os : List Orc} {r : Rs α}, symS P false C s w os = some r → AllP r.ob → s.run P w = .ok r.x r.w := by
  induction s with
  | pure a => intro w os r h _; simp only [symS, Option.some.injEq] at h; subst h; rfl
  | load m ad k ih =>
    intro w os r h hob
    cases os with
    | nil => simp [symS] at h
    | cons q os =>
      cases q with
      | ld v =>
        simp only [symS] at h
        cases hk : symS P false C (k v) w os with
        | none => simp [hk] at h
        | some r' =>
          simp only [hk, Option.some.injEq] at h
          subst h
          have := ih v hk hob.2
          simp only [Sem.run, hC _ _ _ hob.1]
          exact this
      | ad _ => simp [symS] at h
      | as_ _ => simp [symS] at h
      | cs _ => simp [symS] at h
  | store m ad v k ih =>
    intro w os r h hob
    cases v with
    | agg _ => simp [symS] at h
    | tuple _ => simp [symS] at h
    | _ =>
      simp only [symS] at h
      split at h
      · rename_i r' hk
        simp only [Option.some.injEq] at h
        subst h
        obtain ⟨u, hu⟩ := Option.isSome_iff_exists.1 hob.1
        have := ih hk hob.2.2
        have hf := hob.2.1
        simp only [Sem.run, hu, hf]
        exact this
      · simp at h
  | new o k ih =>
    intro w os r h hob
    simp only [symS] at h
    exact ih _ h hob
  | program k ih =>
    intro w os r h hob
    simp only [symS] at h
    simp only [Sem.run]
    exact ih _ h hob
  | _ => intro w os r h _; simp [symS] at h
theorem symS_rd {α : Type} {P : Program} {C : World → Addr → Value → Prop} (s : Sem α) :
    ∀ {w : World} {os : List Orc} {r : Rs α}, symS P true C s w os = some r → AllP r.ob → r.w = w ∧ ∀ w2 : World, (∀ ad v, C w ad v → w2.cell? ad = some v) → s.run P w2 = .ok r.x w2 := by
  induction s with
  | pure a => intro w os r h _; simp only [symS, Option.some.injEq] at h; subst h; exact ⟨rfl, fun _ _ => rfl⟩
  | load m ad k ih =>
    intro w os r h hob
    cases os with
    | nil => simp [symS] at h
    | cons q os =>
      cases q with
      | ld v =>
        simp only [symS] at h
        cases hk : symS P true C (k v) w os with
        | none => simp [hk] at h
        | some r' =>
          simp only [hk, Option.some.injEq] at h
          subst h
          have := ih v hk hob.2
          refine ⟨this.1, fun w2 h2 => ?_⟩
          simp only [Sem.run, h2 _ _ hob.1]
          exact this.2 w2 h2
      | ad _ => simp [symS] at h
      | as_ _ => simp [symS] at h
      | cs _ => simp [symS] at h
  | store m ad v k ih => intro w os r h _; simp [symS] at h
  | new o k ih => intro w os r h _; simp [symS] at h
  | program k ih =>
    intro w os r h hob
    simp only [symS] at h
    have := ih _ h hob
    exact ⟨this.1, fun w2 h2 => by simp only [Sem.run]; exact this.2 w2 h2⟩
  | _ => intro w os r h _; simp [symS] at h

theorem run_some_underlying {P : Program} {t : TypeId} {d : TypeDesc} (h : P.underlying t = some d) (w : World) : (underlying t).run P w = .ok d w := by
  simp [underlying, program, Sem.run, h, pure, bind, Sem.bind]
/-! ### Equality of structs and arrays -/
def partP (P : Program) (t : TypeId) (cs : Array Value) (off : Nat) : Option Value :=
  match P.underlying t with
  | some (.struct _) => match P.info? t with | some i => some (.agg (cs.extract off (off + i.size))) | none => none
  | some (.array _ _) => match P.info? t with | some i => some (.agg (cs.extract off (off + i.size))) | none => none
  | some _ => cs[off]?
  | none => none
def eqFs (P : Program) (E : TypeId → Value → Value → Option Bool) (xs ys : Array Value) : List Field → Option Bool
  | [] => some true
  | f :: fs => if f.name = "_" then none else match partP P f.type xs f.offset, partP P f.type ys f.offset with
    | some a, some b => match E f.type a b, eqFs P E xs ys fs with
      | some r, some s => some (r && s)
      | _, _ => none
    | _, _ => none
def eqAs (P : Program) (E : TypeId → Value → Value → Option Bool) (e : TypeId) (n : Nat) (xs ys : Array Value) : List Nat → Option Bool
  | [] => some true
  | i :: is => match partP P e xs (i * n), partP P e ys (i * n) with
    | some a, some b => match E e a b, eqAs P E e n xs ys is with
      | some r, some s => some (r && s)
      | _, _ => none
    | _, _ => none
def eqV (P : Program) : Nat → TypeId → Value → Value → Option Bool
  | 0, _, _, _ => none
  | d + 1, t, x, y => match P.underlying t, x, y with
    | some .bool, .bool a, .bool b => some (a == b)
    | some (.int _), .int k a, .int k' b => if k = k' then some (a == b) else none
    | some (.struct fs), .agg xs, .agg ys => if P.stoodInHeld t then none else eqFs P (eqV P d) xs ys fs.toList
    | some (.array len e), .agg xs, .agg ys => match P.info? e with
      | some i => eqAs P (eqV P d) e i.size xs ys (List.range' 0 len)
      | none => none
    | _, _, _ => none
theorem partP_sound {P : Program} {t : TypeId} {cs : Array Value} {off : Nat} {v : Value} (h : partP P t cs off = some v) (w : World) : (part t cs off).run P w = .ok v w := by
  unfold partP at h
  split at h
  · rename_i fs hu
    split at h
    · rename_i i hi
      simp only [Option.some.injEq] at h
      subst h
      simp [part, isAgg, run_some_underlying hu, sizeOf, typeInfo, hi]
    · simp at h
  · rename_i n e hu
    split at h
    · rename_i i hi
      simp only [Option.some.injEq] at h
      subst h
      simp [part, isAgg, run_some_underlying hu, sizeOf, typeInfo, hi]
    · simp at h
  · rename_i d h1 h2 hu
    have e : (isAgg t).run P w = .ok false w := by
      simp only [isAgg, Sem.run_bind, run_some_underlying hu, Result.andThen_ok]
      cases d <;> first | rfl | (exact absurd rfl (h1 _)) | (exact absurd rfl (h2 _ _))
    simp only [part, Sem.run_bind, e, Result.andThen_ok]
    simp [h]
  · simp at h
theorem eqFs_sound {P : Program} {d : Nat} (ih : ∀ {t x y b}, eqV P d t x y = some b → ∀ w, (Op.equalIn d t x y).run P w = .ok b w) (xs ys : Array Value) : ∀ {fs : List Field} {b : Bool}, eqFs P (eqV P d) xs ys fs = some b → ∀ w, (Op.eqFields d xs ys fs).run P w = .ok b w
  | [], b, h, w => by
    simp only [eqFs, Option.some.injEq] at h
    subst h
    simp [Op.eqFields]
  | f :: fs, b, h, w => by
    unfold eqFs at h
    split at h
    · simp at h
    · rename_i hn
      split at h
      · rename_i a c ha hc
        split at h
        · rename_i r s hr hs
          simp only [Option.some.injEq] at h
          subst h
          have h1 := eqFs_sound ih xs ys hs w
          simp only [Op.eqFields, Sem.run_bind, Sem.run_ite, ne_eq, hn, not_false_eq_true, if_true, partP_sound ha, partP_sound hc, Result.andThen_ok, ih hr]
          cases r
          · simp
          · simpa using h1
        · simp at h
      · simp at h
theorem eqAs_sound {P : Program} {d : Nat} (ih : ∀ {t x y b}, eqV P d t x y = some b → ∀ w, (Op.equalIn d t x y).run P w = .ok b w) (e : TypeId) (n : Nat) (xs ys : Array Value) : ∀ {is : List Nat} {b : Bool}, eqAs P (eqV P d) e n xs ys is = some b → ∀ w : World,
    (forIn is ((none : Option Bool), PUnit.unit) fun i _ => (do
      let a ← part e xs (i * n)
      let b ← part e ys (i * n)
      let r ← Op.equalIn d e a b
      if r = false then pure (ForInStep.done (some false, PUnit.unit)) else pure (ForInStep.yield (none, PUnit.unit)) : Sem (ForInStep (Option Bool × PUnit)))).run P w = .ok (if b = true then (none, PUnit.unit) else (some false, PUnit.unit)) w
  | [], b, h, w => by
    simp only [eqAs, Option.some.injEq] at h
    subst h
    simp
  | i :: is, b, h, w => by
    unfold eqAs at h
    split at h
    · rename_i a c ha hc
      split at h
      · rename_i r s hr hs
        simp only [Option.some.injEq] at h
        subst h
        have h1 := eqAs_sound ih e n xs ys hs w
        simp only [List.forIn_cons, Sem.run_bind, partP_sound ha, partP_sound hc, Result.andThen_ok, ih hr]
        cases r
        · simp
        · simpa using h1
      · simp at h
    · simp at h
theorem eqV_sound {P : Program} : ∀ {d : Nat} {t : TypeId} {x y : Value} {b : Bool}, eqV P d t x y = some b → ∀ w, (Op.equalIn d t x y).run P w = .ok b w := by
  intro d
  induction d with
  | zero => intro t x y b h; simp [eqV] at h
  | succ d ih =>
    intro t x y b h w
    unfold eqV at h
    split at h
    · rename_i a c hu
      simp only [Option.some.injEq] at h
      subst h
      simp [Op.equalIn, run_some_underlying hu]
    · rename_i k0 k a k' c hu
      split at h
      · rename_i hk
        subst hk
        simp only [Option.some.injEq] at h
        subst h
        simp [Op.equalIn, run_some_underlying hu]
      · simp at h
    · rename_i fs xs ys hu
      split at h
      · simp at h
      · rename_i hst
        have hf : P.underlying t = some (.struct (P.fieldsOf t)) := by rw [hu]; simp [Program.fieldsOf, hu]
        rw [run_equalIn_struct w d t xs ys hf (by simpa using hst)]
        have : P.fieldsOf t = fs := by rw [hu] at hf; simpa using hf.symm
        rw [this]
        exact eqFs_sound ih xs ys h w
    · rename_i len e xs ys hu
      split at h
      · rename_i i hi
        have := eqAs_sound ih e i.size xs ys h w
        simp only [Op.equalIn, Sem.run_bind, run_some_underlying hu, Result.andThen_ok]
        simp only [sizeOf, typeInfo, Sem.run_bind]
        simp [hi]
        rw [this]
        cases b <;> simp
      · simp at h
    · simp at h
/-- A string's byte. -/
def byteAt (s : ByteArray) (i : Int) : Int := ((s[i.toNat]?).map (fun b => (b.toNat : Int))).getD 0
def aggB (P : Program) (t : TypeId) : Bool := match P.underlying t with | some (.struct _) => true | some (.array _ _) => true | _ => false
/-- Operations that ask for facts on numbers, and loads of wholes: what they give. -/
def symX (P : Program) (C : Addr → Value → Prop) (ρ : Operand → Value) (o : Oper) (os : List Orc) : Option (Value × List Prop × List Orc) :=
  match o.op with
  | .load t x =>
    match ρ x, os with
    | .pointer (some a), .cs cs :: os => match P.info? t, aggB P t with
      | some inf, true => some (.agg cs.toArray, [cs.length = inf.size, ∀ (j : Nat) (v : Value), cs[j]? = some v → C (a.add j) v], os)
      | _, _ => none
    | _, _ => none
  | .indexAddr t x i =>
    match P.underlying t, ρ x, ρ i, os with
    | some (.slice e), .slice A n _, .int _ i, .ad a :: os => match P.info? e with
      | some inf => some (.pointer (some (a.add (i.toNat * inf.size))), [A = some a, 0 ≤ i, i < (n : Int)], os)
      | none => none
    | some (.array n e), .pointer (some a), .int _ i, os => match P.info? e with
      | some inf => some (.pointer (some (a.add (i.toNat * inf.size))), [0 ≤ i, i < (n : Int)], os)
      | none => none
    | _, _, _, _ => none
  | .index t x i =>
    match P.underlying t, ρ x, ρ i, os with
    | some .string, .string s, .int _ i, os => some (.int .u8 (byteAt s i), [0 ≤ i, i < (s.size : Int)], os)
    | some (.array n e), .agg cs, .int _ i, .ld v :: os => match P.info? e, P.underlying e with
      | some inf, some (.int _) => some (v, [0 ≤ i, i < (n : Int), cs[i.toNat * inf.size]? = some v], os)
      | some inf, some .bool => some (v, [0 ≤ i, i < (n : Int), cs[i.toNat * inf.size]? = some v], os)
      | _, _ => none
    | _, _, _, _ => none
  | .binOp .eql t x y _ =>
    match ρ x, ρ y, os with
    | .agg xs, .agg ys, .cs l :: .cs r :: os => match P.eqGuardType P.depth t, eqV P 10000 t (.agg l.toArray) (.agg r.toArray) with
      | false, some b => some (.bool b, [xs = l.toArray, ys = r.toArray], os)
      | _, _ => none
    | .agg xs, .agg ys, os => match P.eqGuardType P.depth t, eqV P 10000 t (.agg xs) (.agg ys) with
      | false, some b => some (.bool b, [], os)
      | _, _ => none
    | _, _, _ => none
  | .binOp .neq t x y _ =>
    match ρ x, ρ y, os with
    | .agg xs, .agg ys, .cs l :: .cs r :: os => match P.eqGuardType P.depth t, eqV P 10000 t (.agg l.toArray) (.agg r.toArray) with
      | false, some b => some (.bool (!b), [xs = l.toArray, ys = r.toArray], os)
      | _, _ => none
    | .agg xs, .agg ys, os => match P.eqGuardType P.depth t, eqV P 10000 t (.agg xs) (.agg ys) with
      | false, some b => some (.bool (!b), [], os)
      | _, _ => none
    | _, _, _ => none
  | .binOp .rem _ x y _ =>
    match ρ x, ρ y with
    | .int .i64 a, .int .i64 b => some (.int .i64 (a.tmod b), [b ≠ 0], os)
    | .int .u64 a, .int .u64 b => some (.int .u64 (a.tmod b), [b ≠ 0], os)
    | _, _ => none
  | .binOp .quo _ x y _ =>
    match ρ x, ρ y with
    | .int .i64 a, .int .i64 b => some (.int .i64 (IntKind.i64.wrap (a.tdiv b)), [b ≠ 0], os)
    | _, _ => none
  | .binOp .shl _ x y _ =>
    match ρ x, ρ y with
    | .int k a, .int _ b => some (.int k (k.wrap (a * 2 ^ (min b.toNat k.bits))), [0 ≤ b], os)
    | _, _ => none
  | .binOp .shr _ x y _ =>
    match ρ x, ρ y with
    | .int k a, .int _ b => some (.int k (a.fdiv (2 ^ (min b.toNat k.bits))), [0 ≤ b], os)
    | _, _ => none
  | .slice t x lo hi none =>
    match P.underlying t, ρ x with
    | some (.slice e), .slice A n c => match P.info? e with
      | none => none
      | some inf => match lo.map ρ, hi.map ρ with
        | none, some (.int _ h) => some (.slice A h.toNat c, [0 ≤ h, h ≤ (c : Int)], os)
        | some (.int _ l), none => some (.slice (if c = l.toNat then A else A.map (·.add (l.toNat * inf.size))) (n - l.toNat) (c - l.toNat), [0 ≤ l, l ≤ (n : Int)], os)
        | some (.int _ l), some (.int _ h) => some (.slice (if c = l.toNat then A else A.map (·.add (l.toNat * inf.size))) (h.toNat - l.toNat) (c - l.toNat), [0 ≤ l, l ≤ h, h ≤ (c : Int)], os)
        | _, _ => none
    | some .string, .string s => match lo.map ρ, hi.map ρ with
      | none, some (.int _ h) => some (.string (s.extract 0 h.toNat), [0 ≤ h, h ≤ (s.size : Int)], os)
      | some (.int _ l), none => some (.string (s.extract l.toNat s.size), [0 ≤ l, l ≤ (s.size : Int)], os)
      | some (.int _ l), some (.int _ h) => some (.string (s.extract l.toNat h.toNat), [0 ≤ l, l ≤ h, h ≤ (s.size : Int)], os)
      | _, _ => none
    | _, _ => none
  | _ => none
theorem add_zero_id : (fun x : Addr => x.add 0) = id := by funext x; simp [Addr.add]
theorem symX_sound {P : Program} {C : Addr → Value → Prop} {ρ : Operand → Value} {o : Oper} {os os' : List Orc} {v : Value} {ob : List Prop} (h : symX P C ρ o os = some (v, ob, os')) (hob : AllP ob) :
    ∀ w : World, (∀ ad v, C ad v → w.cell? ad = some v) → (execOp ρ o).run P w = .ok (.value v) w := by
  intro w hC
  unfold symX at h
  split at h
  · rename_i t x ho
    split at h
    · rename_i a cs os2 hx
      split at h
      · rename_i inf hinf hagg
        simp only [Option.some.injEq, Prod.mk.injEq] at h
        obtain ⟨rfl, rfl, rfl⟩ := h
        obtain ⟨h1, h2, _⟩ := hob
        have hr := run_loadCells_list (P := P) w a cs (fun j v hv => hC _ _ (h2 j v hv))
        rw [h1] at hr
        unfold aggB at hagg
        split at hagg
        · rename_i hu
          simp only [execOp, ho, hx, Instr.loadAt, Instr.sureAddr]
          simp [loadVar, isAgg, sizeOf, typeInfo, hinf, run_some_underlying hu, hr]
        · rename_i hu
          simp only [execOp, ho, hx, Instr.loadAt, Instr.sureAddr]
          simp [loadVar, isAgg, sizeOf, typeInfo, hinf, run_some_underlying hu, hr]
        · cases hagg
      · simp at h
    · simp at h
  · -- indexAddr
    rename_i t x i ho
    split at h
    · rename_i e A n c k iv a os2 hu hx hi
      split at h
      · rename_i inf hinf
        simp only [Option.some.injEq, Prod.mk.injEq] at h
        obtain ⟨rfl, rfl, rfl⟩ := h
        obtain ⟨h1, h2, h3, _⟩ := hob
        simp only [execOp, ho, Instr.indexAt, hx, hi, asIntOf]
        simp [run_some_underlying hu, sizeOf, typeInfo, hinf, h1, h2, h3]
      · simp at h
    · rename_i n e a k iv hu hx hi
      split at h
      · rename_i inf hinf
        simp only [Option.some.injEq, Prod.mk.injEq] at h
        obtain ⟨rfl, rfl, rfl⟩ := h
        obtain ⟨h2, h3, _⟩ := hob
        simp only [execOp, ho, Instr.indexAt, hx, hi, asIntOf]
        simp [run_some_underlying hu, sizeOf, typeInfo, hinf, h2, h3, Instr.sureAddr]
      · simp at h
    · simp at h
  · -- index
    rename_i t x i ho
    split at h
    · rename_i os2 b k iv hu hx hi
      simp only [Option.some.injEq, Prod.mk.injEq] at h
      obtain ⟨rfl, rfl, rfl⟩ := h
      obtain ⟨h1, h2, _⟩ := hob
      have h3 : iv.toNat < b.size := by omega
      simp only [execOp, ho, Instr.index, hx, hi, asIntOf]
      simp [run_some_underlying hu, h1, byteAt, h3]
    · rename_i n e cs k iv u os2 hu hx hi
      split at h
      · rename_i inf kk hinf hue
        simp only [Option.some.injEq, Prod.mk.injEq] at h
        obtain ⟨rfl, rfl, rfl⟩ := h
        obtain ⟨h1, h2, h3, _⟩ := hob
        simp only [execOp, ho, Instr.index, hx, hi, asIntOf]
        simp [run_some_underlying hu, run_some_underlying hue, h1, h2, sizeOf, typeInfo, hinf, part, isAgg, h3]
      · rename_i inf hinf hue
        simp only [Option.some.injEq, Prod.mk.injEq] at h
        obtain ⟨rfl, rfl, rfl⟩ := h
        obtain ⟨h1, h2, h3, _⟩ := hob
        simp only [execOp, ho, Instr.index, hx, hi, asIntOf]
        simp [run_some_underlying hu, run_some_underlying hue, h1, h2, sizeOf, typeInfo, hinf, part, isAgg, h3]
      · simp at h
    · simp at h
  · rename_i t x y t2 ho
    split at h
    · rename_i xs ys l r os2 hx hy
      split at h
      · rename_i b hg hb
        simp only [Option.some.injEq, Prod.mk.injEq] at h
        obtain ⟨rfl, rfl, rfl⟩ := h
        obtain ⟨rfl, rfl, _⟩ := hob
        simp only [execOp, ho, hx, hy, Sem.run_bind, run_eqGuard_agg w .eql t x y l.toArray r.toArray hg, Result.andThen_ok, run_eql_struct, eqV_sound hb, Sem.run_pure]
      · simp at h
    · rename_i xs ys hx hy hno
      split at h
      · rename_i b hg hb
        simp only [Option.some.injEq, Prod.mk.injEq] at h
        obtain ⟨rfl, rfl, rfl⟩ := h
        simp only [execOp, ho, hx, hy, Sem.run_bind, run_eqGuard_agg w .eql t x y xs ys hg, Result.andThen_ok, run_eql_struct, eqV_sound hb, Sem.run_pure]
      · simp at h
    · simp at h
  · rename_i t x y t2 ho
    split at h
    · rename_i xs ys l r os2 hx hy
      split at h
      · rename_i b hg hb
        simp only [Option.some.injEq, Prod.mk.injEq] at h
        obtain ⟨rfl, rfl, rfl⟩ := h
        obtain ⟨rfl, rfl, _⟩ := hob
        simp only [execOp, ho, hx, hy, Sem.run_bind, run_eqGuard_agg w .neq t x y l.toArray r.toArray hg, Result.andThen_ok, run_neq_struct, eqV_sound hb, Sem.run_pure]
      · simp at h
    · rename_i xs ys hx hy hno
      split at h
      · rename_i b hg hb
        simp only [Option.some.injEq, Prod.mk.injEq] at h
        obtain ⟨rfl, rfl, rfl⟩ := h
        simp only [execOp, ho, hx, hy, Sem.run_bind, run_eqGuard_agg w .neq t x y xs ys hg, Result.andThen_ok, run_neq_struct, eqV_sound hb, Sem.run_pure]
      · simp at h
    · simp at h
  · rename_i t x y t2 ho
    split at h
    · rename_i a b hx hy
      simp only [Option.some.injEq, Prod.mk.injEq] at h
      obtain ⟨rfl, rfl, rfl⟩ := h
      obtain ⟨h1, _⟩ := hob
      simp only [execOp, ho, hx, hy]
      simp [eqGuard, binOp, Op.intDiv, h1]
    · rename_i a b hx hy
      simp only [Option.some.injEq, Prod.mk.injEq] at h
      obtain ⟨rfl, rfl, rfl⟩ := h
      obtain ⟨h1, _⟩ := hob
      simp only [execOp, ho, hx, hy]
      simp [eqGuard, binOp, Op.intDiv, h1]
    · simp at h
  · rename_i t x y t2 ho
    split at h
    · rename_i a b hx hy
      simp only [Option.some.injEq, Prod.mk.injEq] at h
      obtain ⟨rfl, rfl, rfl⟩ := h
      obtain ⟨h1, _⟩ := hob
      simp only [execOp, ho, hx, hy]
      simp [eqGuard, binOp, Op.intDiv, h1]
    · simp at h
  · rename_i t x y t2 ho
    split at h
    · rename_i k a k2 b hx hy
      simp only [Option.some.injEq, Prod.mk.injEq] at h
      obtain ⟨rfl, rfl, rfl⟩ := h
      obtain ⟨h1, _⟩ := hob
      simp only [execOp, ho, hx, hy]
      simp [eqGuard, binOp, Op.shift, show ¬ b < 0 by omega]
    · simp at h
  · rename_i t x y t2 ho
    split at h
    · rename_i k a k2 b hx hy
      simp only [Option.some.injEq, Prod.mk.injEq] at h
      obtain ⟨rfl, rfl, rfl⟩ := h
      obtain ⟨h1, _⟩ := hob
      simp only [execOp, ho, hx, hy]
      simp [eqGuard, binOp, Op.shift, show ¬ b < 0 by omega]
    · simp at h
  · rename_i t x lo hi ho
    split at h
    · rename_i e A n c hu hx
      split at h
      · simp at h
      · rename_i inf hinf
        split at h
        · rename_i k hv hlo hhi
          simp only [Option.some.injEq, Prod.mk.injEq] at h
          obtain ⟨rfl, rfl, rfl⟩ := h
          obtain ⟨h1, h2, _⟩ := hob
          simp only [execOp, ho, hx, hlo, hhi, Instr.sliceAt, Instr.slice]
          simp [run_some_underlying hu, Instr.sliceBounds, Instr.sliceBound, asIntOf, sizeOf, typeInfo, hinf, h1, h2, add_zero_id]
        · rename_i k lv hlo hhi
          simp only [Option.some.injEq, Prod.mk.injEq] at h
          obtain ⟨rfl, rfl, rfl⟩ := h
          obtain ⟨h1, h2, _⟩ := hob
          simp only [execOp, ho, hx, hlo, hhi, Instr.sliceAt, Instr.slice]
          simp [run_some_underlying hu, Instr.sliceBounds, Instr.sliceBound, asIntOf, sizeOf, typeInfo, hinf, h1, h2]
        · rename_i k lv k2 hv hlo hhi
          simp only [Option.some.injEq, Prod.mk.injEq] at h
          obtain ⟨rfl, rfl, rfl⟩ := h
          obtain ⟨h1, h2, h3, _⟩ := hob
          have h4 : ¬ (max hv 0 < lv) := by omega
          have h5 : 0 ≤ hv := by omega
          simp only [execOp, ho, hx, hlo, hhi, Instr.sliceAt, Instr.slice]
          simp [run_some_underlying hu, Instr.sliceBounds, Instr.sliceBound, asIntOf, sizeOf, typeInfo, hinf, h1, h3, h4, h5]
        · simp at h
    · rename_i b hu hx
      split at h
      · rename_i k hv hlo hhi
        simp only [Option.some.injEq, Prod.mk.injEq] at h
        obtain ⟨rfl, rfl, rfl⟩ := h
        obtain ⟨h1, h2, _⟩ := hob
        simp only [execOp, ho, hx, hlo, hhi, Instr.sliceAt, Instr.slice]
        simp [run_some_underlying hu, Instr.sliceBounds, Instr.sliceBound, asIntOf, h1, h2]
      · rename_i k lv hlo hhi
        simp only [Option.some.injEq, Prod.mk.injEq] at h
        obtain ⟨rfl, rfl, rfl⟩ := h
        obtain ⟨h1, h2, _⟩ := hob
        simp only [execOp, ho, hx, hlo, hhi, Instr.sliceAt, Instr.slice]
        simp [run_some_underlying hu, Instr.sliceBounds, Instr.sliceBound, asIntOf, h1, h2]
      · rename_i k lv k2 hv hlo hhi
        simp only [Option.some.injEq, Prod.mk.injEq] at h
        obtain ⟨rfl, rfl, rfl⟩ := h
        obtain ⟨h1, h2, h3, _⟩ := hob
        have h4 : ¬ (max hv 0 < lv) := by omega
        have h5 : 0 ≤ hv := by omega
        simp only [execOp, ho, hx, hlo, hhi, Instr.sliceAt, Instr.slice]
        simp [run_some_underlying hu, Instr.sliceBounds, Instr.sliceBound, asIntOf, h1, h3, h4, h5]
      · simp at h
    · simp at h
  · simp at h
end Go.Proofs.YtkkophhnliplhaaDoor
