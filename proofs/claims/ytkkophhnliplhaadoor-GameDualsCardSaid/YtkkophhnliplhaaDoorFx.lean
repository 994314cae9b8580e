/-
  The frame of the walks, second part: runs of operations, regions, calls, control. Conditions: none; plain definitions and lemmas, over any program.
-/
import Derived.Test.YtkkophhnliplhaaDoorFw
set_option linter.unusedVariables false
namespace Go.Proofs.YtkkophhnliplhaaDoor
open Go Go.RowKit

/-- One operation that is no call of a Go function: its value, the world behind it, what it leans on. -/
def symOp (P : Program) (rd : Bool) (C : World → Addr → Value → Prop) (ρ : Operand → Value) (w : World) (o : Oper) (os : List Orc) : Option (Rs Value) :=
  match symX P (C w) ρ o os with
  | some (v, ob, os') => some ⟨v, w, ob, os'⟩
  | none => match symS P rd C (execOp ρ o) w os with
    | some ⟨.value v, w', ob, os'⟩ => some ⟨v, w', ob, os'⟩
    | some ⟨.skip, w', ob, os'⟩ => match rd with
      | false => some ⟨undef, w', ob, os'⟩
      | true => none
    | _ => none
def symOpA (P : Program) (rd : Bool) (C : World → Addr → Value → Prop) (ρ : Operand → Value) (w : World) (o : Oper) (os : List Orc) : Option (Value × World × List Prop) :=
  match symOp P rd C ρ w o os with
  | some ⟨v, w', ob, []⟩ => some (v, w', ob)
  | some ⟨v, w', ob, [.as_ u]⟩ => some (u, w', ob ++ [v = u])
  | _ => none
def Gives (n : Next) (v : Value) : Prop := n = .value v ∨ (n = .skip ∧ v = undef)
def CellC (w : World) (ad : Addr) (v : Value) : Prop := w.cell? ad = some v
theorem symOp_lex {P : Program} {ρ : Operand → Value} {w : World} {o : Oper} {os : List Orc} {r : Rs Value} (h : symOp P false CellC ρ w o os = some r) (hob : AllP r.ob) :
    ∃ n, (execOp ρ o).run P w = .ok n r.w ∧ Gives n r.x := by
  unfold symOp at h
  split at h
  · rename_i v ob os' hx
    simp only [Option.some.injEq] at h
    subst h
    exact ⟨_, symX_sound hx hob w (fun _ _ h => h), .inl rfl⟩
  · split at h
    · rename_i v w' ob os' hs
      simp only [Option.some.injEq] at h
      subst h
      exact ⟨_, symS_lex (fun _ _ _ h => h) _ hs hob, .inl rfl⟩
    · rename_i w' ob os' hs
      simp only [Option.some.injEq] at h
      subst h
      exact ⟨_, symS_lex (fun _ _ _ h => h) _ hs hob, .inr ⟨rfl, rfl⟩⟩
    · simp at h
theorem symOp_rd {P : Program} {C : World → Addr → Value → Prop} {ρ : Operand → Value} {w : World} {o : Oper} {os : List Orc} {r : Rs Value} (h : symOp P true C ρ w o os = some r) (hob : AllP r.ob) :
    r.w = w ∧ ∀ w2 : World, (∀ ad v, C w ad v → w2.cell? ad = some v) → (execOp ρ o).run P w2 = .ok (.value r.x) w2 := by
  unfold symOp at h
  split at h
  · rename_i v ob os' hx
    simp only [Option.some.injEq] at h
    subst h
    exact ⟨rfl, fun w2 h2 => symX_sound hx hob w2 h2⟩
  · split at h
    · rename_i v w' ob os' hs
      simp only [Option.some.injEq] at h
      subst h
      have := symS_rd _ hs hob
      exact ⟨this.1, this.2⟩
    · simp at h
    · simp at h
theorem symOpA_lex {P : Program} {ρ : Operand → Value} {w w' : World} {o : Oper} {os : List Orc} {v : Value} {ob : List Prop} (h : symOpA P false CellC ρ w o os = some (v, w', ob)) (hob : AllP ob) :
    ∃ n, (execOp ρ o).run P w = .ok n w' ∧ Gives n v := by
  unfold symOpA at h
  split at h
  · rename_i u w2 ob2 hs
    simp only [Option.some.injEq, Prod.mk.injEq] at h
    obtain ⟨rfl, rfl, rfl⟩ := h
    exact symOp_lex hs hob
  · rename_i u w2 ob2 u2 hs
    simp only [Option.some.injEq, Prod.mk.injEq] at h
    obtain ⟨rfl, rfl, rfl⟩ := h
    have h1 := AllP_append hob
    obtain ⟨h1, h2, _⟩ := h1
    subst h2
    exact symOp_lex hs h1
  · simp at h
theorem symOpA_rd {P : Program} {C : World → Addr → Value → Prop} {ρ : Operand → Value} {w w' : World} {o : Oper} {os : List Orc} {v : Value} {ob : List Prop} (h : symOpA P true C ρ w o os = some (v, w', ob)) (hob : AllP ob) :
    w' = w ∧ ∀ w2 : World, (∀ ad v, C w ad v → w2.cell? ad = some v) → (execOp ρ o).run P w2 = .ok (.value v) w2 := by
  unfold symOpA at h
  split at h
  · rename_i u w2 ob2 hs
    simp only [Option.some.injEq, Prod.mk.injEq] at h
    obtain ⟨rfl, rfl, rfl⟩ := h
    exact symOp_rd hs hob
  · rename_i u w2 ob2 u2 hs
    simp only [Option.some.injEq, Prod.mk.injEq] at h
    obtain ⟨rfl, rfl, rfl⟩ := h
    have h1 := AllP_append hob
    obtain ⟨h1, h2, _⟩ := h1
    subst h2
    exact symOp_rd hs h1
  · simp at h

/-- Is an operation carried out? -/
def wantedL (l : List (Nat × Value)) (ops : List Oper) (o : Oper) : Option Bool :=
  match o.guard with
  | none => some true
  | some (j, want) => match ops[j]? with
    | some oj => match oj.dst with
      | some t => match look l t with
        | some (.bool b) => some (b == want)
        | some (.tuple _) => some false
        | _ => none
      | none => none
    | none => none
theorem wantedL_sound {n : Nat} {a : Act} {l : List (Nat × Value)} (hf : Frm n a l) {ops : Array Oper} {o : Oper} {b : Bool} (h : wantedL l ops.toList o = some b) :
    Region.wanted o (yielded ops a.tmps) = b := by
  unfold wantedL at h
  split at h
  · rename_i hg
    simp only [Option.some.injEq] at h
    subst h
    simp [Region.wanted, hg]
  · rename_i j want hg
    split at h
    · rename_i oj hj
      split at h
      · rename_i t ht
        have hj' : ops[j]? = some oj := by simpa using hj
        split at h
        · rename_i bb hb
          simp only [Option.some.injEq] at h
          subst h
          have h1 := hf.val t _ hb
          have h2 := hf.lt t _ hb
          have h3 : a.tmps[t]? = some (.bool bb) := by
            rw [Array.getD_eq_getD_getElem?] at h1
            have : t < a.tmps.size := by rw [hf.size]; exact h2
            rw [Array.getElem?_eq_getElem this] at h1 ⊢
            simpa using h1
          simp only [Region.wanted, hg, yielded, hj', Option.bind_some, ht, h3]
          cases bb <;> cases want <;> rfl
        · rename_i tv hb
          simp only [Option.some.injEq] at h
          subst h
          have h1 := hf.val t _ hb
          have h2 := hf.lt t _ hb
          have h3 : a.tmps[t]? = some (.tuple tv) := by
            rw [Array.getD_eq_getD_getElem?] at h1
            have : t < a.tmps.size := by rw [hf.size]; exact h2
            rw [Array.getElem?_eq_getElem this] at h1 ⊢
            simpa using h1
          simp only [Region.wanted, hg, yielded, hj', Option.bind_some, ht, h3]
          cases want <;> rfl
        · simp at h
      · simp at h
    · simp at h
def hdO : List (List Orc) → List Orc
  | [] => []
  | h :: _ => h
/-- The slots behind one operation. -/
def putL (n : Nat) (l : List (Nat × Value)) : Option Nat → Value → Option (List (Nat × Value))
  | none, _ => some l
  | some d, v => if Nat.blt d n = true then some ((d, v) :: l) else none
theorem Frm.putL {n : Nat} {a : Act} {l l' : List (Nat × Value)} (h : Frm n a l) {d : Option Nat} {v : Value} (hl : putL n l d v = some l') : Frm n (a.put d v) l' := by
  cases d with
  | none =>
    simp only [Proofs.YtkkophhnliplhaaDoor.putL, Option.some.injEq] at hl
    subst hl
    exact h.put' (by simp) v
  | some t =>
    simp only [Proofs.YtkkophhnliplhaaDoor.putL] at hl
    split at hl
    · rename_i hlt
      simp only [Option.some.injEq] at hl
      subst hl
      exact h.put (by simpa using hlt) v
    · simp at hl
/-- A run of operations, none a call of a Go function. -/
def evSeq (P : Program) (rd : Bool) (n : Nat) (C : World → Addr → Value → Prop) (ops : List Oper) : List Oper → List (List Orc) → List (Nat × Value) → World → Option (List (Nat × Value) × World × List Prop)
  | [], _, l, w => some (l, w, [])
  | o :: r, hs, l, w =>
    match wantedL l ops o with
    | none => none
    | some false => match putL n l o.dst undef with
      | none => none
      | some l' => evSeq P rd n C ops r hs.tail l' w
    | some true => match known l o && notSel o with
      | false => none
      | true => match symOpA P rd C (rho l) w o (hdO hs) with
        | none => none
        | some (v, w', ob) => match putL n l o.dst v with
          | none => none
          | some l' => match evSeq P rd n C ops r hs.tail l' w' with
            | none => none
            | some (l2, w2, ob2) => some (l2, w2, ob ++ ob2)
theorem oper_wp_of_gives {P : Program} {o : Oper} {a : Act} {w w' : World} {K : Act → World → Prop} {Q : Exit → Act → World → Prop} {nx : Next} {v : Value} (hr : (execOp a.eval o).run P w = .ok nx w') (hg : Gives nx v)
    (h : K (a.put o.dst v) w') : o.wp P a w K Q := by
  unfold Oper.wp
  rw [hr]
  rcases hg with rfl | ⟨rfl, rfl⟩
  · exact h
  · exact h
theorem wpList_seq {P : Program} {n : Nat} {ops : Array Oper} {Q : Exit → Act → World → Prop} {rest : List Oper} :
    ∀ (os : List Oper) (hs : List (List Orc)) (l : List (Nat × Value)) (w : World) (a : Act) {l' : List (Nat × Value)} {w' : World} {ob : List Prop}, Frm n a l →
      evSeq P false n CellC ops.toList os hs l w = some (l', w', ob) → AllP ob → (∀ a', Frm n a' l' → wpList P ops Q rest a' w') → wpList P ops Q (os ++ rest) a w
  | [], hs, l, w, a, l', w', ob, hf, h, hob, next => by
    simp only [evSeq, Option.some.injEq, Prod.mk.injEq] at h
    obtain ⟨rfl, rfl, rfl⟩ := h
    exact next a hf
  | o :: r, hs, l, w, a, l', w', ob, hf, h, hob, next => by
    unfold evSeq at h
    split at h
    · simp at h
    · rename_i hw
      split at h
      · simp at h
      · rename_i l1 hl1
        have hwant := wantedL_sound hf hw
        show wpList P ops Q (o :: (r ++ rest)) a w
        unfold wpList
        rw [hwant]
        exact wpList_seq r hs.tail l1 w _ (hf.putL hl1) h hob next
    · rename_i hw
      have hwant := wantedL_sound hf hw
      split at h
      · simp at h
      · rename_i hk
        simp only [Bool.and_eq_true] at hk
        split at h
        · simp at h
        · rename_i v w1 ob1 hs1
          split at h
          · simp at h
          · rename_i l1 hl1
            split at h
            · simp at h
            · rename_i l2 w2 ob2 hev
              simp only [Option.some.injEq, Prod.mk.injEq] at h
              obtain ⟨rfl, rfl, rfl⟩ := h
              obtain ⟨hob1, hob2⟩ := AllP_append hob
              obtain ⟨nx, hrun, hg⟩ := symOpA_lex hs1 hob1
              show wpList P ops Q (o :: (r ++ rest)) a w
              unfold wpList
              rw [hwant, if_pos rfl]
              refine .inl (oper_wp_of_gives (by rw [hf.exec hk.1 hk.2]; exact hrun) hg ?_)
              exact wpList_seq r hs.tail l1 w1 _ (hf.putL hl1) hev hob2 next
/-- A region that is carried out in its text's order, from operation k on. -/
def At (P : Program) (ops : Array Oper) (Q : Exit → Act → World → Prop) (k : Nat) (a : Act) (w : World) : Prop := wpList P ops Q (ops.toList.drop k) a w
theorem At.start {P : Program} {id : Nat} {ops : Array Oper} {Q : Exit → Act → World → Prop} {a : Act} {w : World} (h : At P ops Q 0 a w) : (Code.region id ops false).wp P Q a w := wp_region_list h
theorem At.done {P : Program} {ops : Array Oper} {Q : Exit → Act → World → Prop} {k : Nat} {a : Act} {w : World} (hk : ops.toList.drop k = []) (h : Q .normal a w) : At P ops Q k a w := by
  unfold At
  rw [hk]
  exact h
theorem At.seq {P : Program} {n : Nat} {ops : Array Oper} {Q : Exit → Act → World → Prop} {k : Nat} {a : Act} {w : World} {l : List (Nat × Value)} (hf : Frm n a l) (m : Nat) (hs : List (List Orc)) (nw : List (Nat × Value)) (w' : World) (ob : List Prop)
    (h : evSeq P false n CellC ops.toList ((ops.toList.drop k).take m) hs l w = some (nw ++ l, w', ob)) (hob : AllP ob) (next : ∀ a' w1, w1 = w' → Frm n a' (nw ++ l) → At P ops Q (k + m) a' w1) : At P ops Q k a w := by
  unfold At
  have e : ops.toList.drop k = (ops.toList.drop k).take m ++ ops.toList.drop (k + m) := by
    rw [← List.drop_drop, List.take_append_drop]
  rw [e]
  exact wpList_seq _ hs l w a hf h hob (fun a' hf' => next a' w' rfl hf')
theorem At.rd {P : Program} {n : Nat} {ops : Array Oper} {Q : Exit → Act → World → Prop} {k : Nat} {a : Act} {w : World} {l : List (Nat × Value)} (hf : Frm n a l) (m : Nat) (hs : List (List Orc)) (nw : List (Nat × Value)) (ob : List Prop)
    (h : evSeq P false n CellC ops.toList ((ops.toList.drop k).take m) hs l w = some (nw ++ l, w, ob)) (hob : AllP ob) (next : ∀ a', Frm n a' (nw ++ l) → At P ops Q (k + m) a' w) : At P ops Q k a w :=
  At.seq hf m hs nw w ob h hob (fun a' w1 hw hf' => by subst hw; exact next a' hf')
/-- A region that draws its order and only reads. -/
theorem drawn_ro {P : Program} {id n : Nat} {ops : Array Oper} {Q : Exit → Act → World → Prop} {a : Act} {w : World} {l : List (Nat × Value)} (hf : Frm n a l) (hm : P.follows .mixedOrders = true) (hB : Region.lexB .any ops = true)
    (hs : List (List Orc)) (nw : List (Nat × Value)) (ob : List Prop) (h : evSeq P true n CellC ops.toList ops.toList hs l w = some (nw ++ l, w, ob)) (hob : AllP ob) (next0 : ∀ a' w1, w1 = w.drew → Frm n a' (nw ++ l) → Q .normal a' w1) : (Code.region id ops true).wp P Q a w := by
  have next : ∀ a', Frm n a' (nw ++ l) → Q .normal a' w.drew := fun a' h => next0 a' _ rfl h
  refine wp_region_still hm hB ?_
  have key : ∀ (os : List Oper) (hs : List (List Orc)) (l : List (Nat × Value)) (w1 : World) (a : Act) {l' : List (Nat × Value)} {w' : World} {ob : List Prop}, w1 = w → Frm n a l →
      evSeq P true n CellC ops.toList os hs l w1 = some (l', w', ob) → AllP ob → (∀ a', Frm n a' l' → Q .normal a' w.drew) → wpStill P ops { w with drawn := w.drawn + 1 } (fun a' => Q .normal a' { w with drawn := w.drawn + 1 }) os a := by
    intro os
    induction os with
    | nil =>
      intro hs l w1 a l' w' ob hw hf h hob next
      simp only [evSeq, Option.some.injEq, Prod.mk.injEq] at h
      obtain ⟨rfl, rfl, rfl⟩ := h
      exact next a hf
    | cons o r ih =>
      intro hs l w1 a l' w' ob hw hf h hob next
      unfold evSeq at h
      split at h
      · simp at h
      · rename_i hwl
        split at h
        · simp at h
        · rename_i l1 hl1
          have hwant := wantedL_sound hf hwl
          unfold wpStill
          rw [hwant]
          exact ih hs.tail l1 w1 _ hw (hf.putL hl1) h hob next
      · rename_i hwl
        have hwant := wantedL_sound hf hwl
        split at h
        · simp at h
        · rename_i hk
          simp only [Bool.and_eq_true] at hk
          split at h
          · simp at h
          · rename_i v w2 ob1 hs1
            split at h
            · simp at h
            · rename_i l1 hl1
              split at h
              · simp at h
              · rename_i l2 w3 ob2 hev
                simp only [Option.some.injEq, Prod.mk.injEq] at h
                obtain ⟨rfl, rfl, rfl⟩ := h
                obtain ⟨hob1, hob2⟩ := AllP_append hob
                obtain ⟨hw2, hrun⟩ := symOpA_rd hs1 hob1
                have hrun' := hrun { w with drawn := w.drawn + 1 } (fun ad v hc => by subst hw; exact hc)
                unfold wpStill
                rw [hwant, if_pos rfl]
                unfold Oper.still
                rw [hf.exec hk.1 hk.2, hrun']
                exact ⟨rfl, ih hs.tail l1 w2 _ (hw2.trans hw) (hf.putL hl1) hev hob2 next⟩
  exact key ops.toList hs l w a rfl hf h hob next
end Go.Proofs.YtkkophhnliplhaaDoor
