/-
  The frame of the walks, seventh part: arrays in blocks, loops that are unrolled. Conditions: none; plain lemmas, over any program.
-/
import Derived.Test.YtkkophhnliplhaaDoorFp
set_option linter.unusedVariables false
namespace Go.Proofs.YtkkophhnliplhaaDoor
open Go Go.RowKit
/-- A loop whose first round begins here. -/
def LW (P : Program) (Q : Exit → Act → World → Prop) (c : Code) (a : Act) (w : World) : Prop := ∀ b k cs, ∃ e a' w', Q e a' w' ∧ Arrives P (lone (b.at a (.code c :: .inLoop c :: k)) cs w) b k cs e a' w'
theorem loop_u0 {P : Program} {Q : Exit → Act → World → Prop} {a : Act} {w : World} {c : Code} (h : LW P Q c a w) : (Code.loop c).wp P Q a w := by
  intro b k cs
  obtain ⟨e, a', w', hq, harr⟩ := h b k cs
  exact ⟨e, a', w', hq, .of_steps (.one step_loop) harr⟩
theorem loop_u {P : Program} {Q : Exit → Act → World → Prop} {a : Act} {w : World} {c : Code} (h : c.wp P (Exit.then (LW P Q c) Q) a w) : LW P Q c a w := by
  intro b k cs
  obtain ⟨e, a₁, w₁, hq, harr⟩ := h b (.inLoop c :: k) cs
  cases e with
  | normal =>
    obtain ⟨e₂, a₂, w₂, hq₂, harr₂⟩ := hq b k cs
    exact ⟨e₂, a₂, w₂, hq₂, .of_steps (Steps.trans harr (.one step_inLoop)) harr₂⟩
  | exit id => exact ⟨_, a₁, w₁, hq, .pass (x := .inLoop c) rfl (fun _ _ => .inl (by simp)) harr⟩
  | goto l => exact ⟨_, a₁, w₁, hq, .pass (x := .inLoop c) rfl (fun _ _ => .inl (by simp)) harr⟩
  | ret => exact ⟨_, a₁, w₁, hq, .pass (x := .inLoop c) rfl (fun _ _ => .inl (by simp)) harr⟩
  | panic ch => exact ⟨_, a₁, w₁, hq, .pass (x := .inLoop c) rfl (fun _ _ => .inl (by simp)) harr⟩
  | outgrown => exact ⟨_, a₁, w₁, hq, .pass (x := .inLoop c) rfl (fun _ _ => .inl (by simp)) harr⟩
theorem Bx.as {w : World} {b : Nat} {cs cs' : List Value} {T : TypeId} (h : Bx w b cs T) (e : cs = cs') : Bx w b cs' T := by subst e; exact h
theorem add_off (b off k : Nat) : (⟨b, off, none⟩ : Addr).add k = ⟨b, off + k, none⟩ := by unfold Addr.add; split <;> simp_all
theorem Bx.arr {w : World} {b : Nat} {cs pre post : List Value} {l : List Int} {T : TypeId} (h : Bx w b cs T) (e : cs = pre ++ ints l ++ post) (k : Int) (h0 : 0 ≤ k) (h1 : k < (l.length : Int)) {off : Nat} (ho : off = pre.length := by rfl) :
    w.cell? ((⟨b, off, none⟩ : Addr).add (k.toNat * 1)) = some (.int .i64 (gI l k)) := by
  subst e
  subst ho
  rw [add_off]
  refine h.cell ?_
  rw [List.append_assoc, List.getElem?_append_right (by omega), List.getElem?_append_left (by rw [ints_length]; omega), show pre.length + k.toNat * 1 - pre.length = k.toNat by omega, ints_get (by omega)]
  rfl
theorem storeArr {P : Program} {lst : List (Nat × Value)} {ops : List Oper} {k : Nat} {w : World} {b off : Nat} {cs pre post : List Value} {l : List Int} {T t : TypeId} {v i : Int}
    (ha : storeAtL lst ops k = some (t, .pointer (some ((⟨b, off, none⟩ : Addr).add (i.toNat * 1))), .int .i64 v)) (hok : storeOkX P t [.int .i64 v] = true) (h : Bx w b cs T) (e : cs = pre ++ ints l ++ post) (ho : pre.length = off) (h0 : 0 ≤ i) (h1 : i < (l.length : Int)) :
    ActOp P lst ops k w fun d' v' w1 => d' = none ∧ w.grownBy w1 (some b) ∧ Bx w1 b (pre ++ ints (l.set i.toNat v) ++ post) T := by
  subst e
  subst ho
  have hlt : i.toNat < l.length := by omega
  unfold storeAtL at ha
  cases hop' : ops[k]? with
  | none => rw [hop'] at ha; simp at ha
  | some o =>
    rw [hop'] at ha
    simp only at ha
    split at ha
    · rename_i t' a b' hok' hop hdst
      simp only [Option.some.injEq, Prod.mk.injEq] at ha
      obtain ⟨rfl, ha1, ha2⟩ := ha
      simp only [storeOkX, Bool.and_eq_true] at hok
      obtain ⟨hk1, hk2⟩ := hok
      split at hk1
      · rename_i inf hinf
        have hk1 : inf.size = 1 := by simpa using hk1
        obtain ⟨w1, hr, hgr, hO⟩ := run_storeCells (P := P) [.int .i64 v] (pre.length + i.toNat * 1) 0 h (by simp only [List.length_append, ints_length, List.length_cons, List.length_nil]; omega) (fun u hu => List.all_eq_true.1 hk2 u hu)
        refine ⟨o, hop', hok', .skip, undef, w1, ?_, .inr ⟨rfl, rfl⟩, hdst, hgr, ?_⟩
        · rw [add_off] at ha1
          simp only [execOp, hop, ha1, ha2, Instr.storeAt, Instr.sureAddr]
          simp [storeVar, sizeOf, typeInfo, hinf, hk1, Value.cells]
          simp only [Nat.mul_one] at hr
          rw [hr]
          rfl
        · refine hO.as ?_
          have e1 : (pre ++ ints l ++ post).take (pre.length + i.toNat * 1 + 0) = pre ++ ints (l.take i.toNat) := by
            rw [List.append_assoc, List.take_append, List.take_of_length_le (by omega), List.take_append, show pre.length + i.toNat * 1 + 0 - pre.length = i.toNat by omega, ints_length, show i.toNat - l.length = 0 by omega]
            simp [ints]
          have e2 : (pre ++ ints l ++ post).drop (pre.length + i.toNat * 1 + 0 + [Value.int .i64 v].length) = ints (l.drop (i.toNat + 1)) ++ post := by
            rw [List.append_assoc, List.drop_append, List.drop_of_length_le (by simp only [List.length_cons, List.length_nil]; omega), List.drop_append, show pre.length + i.toNat * 1 + 0 + [Value.int .i64 v].length - pre.length = i.toNat + 1 by simp only [List.length_cons, List.length_nil]; omega, ints_length, show i.toNat + 1 - l.length = 0 by omega]
            simp [ints]
          rw [e1, e2, List.set_eq_take_append_cons_drop, if_pos hlt]
          simp [ints]
      · simp at hk1
    · simp at ha
theorem set4 {a b c d v : Int} (i : Int) (h0 : 0 ≤ i) (h1 : i < 4) : [a, b, c, d].set i.toNat v = [if i = 0 then v else a, if i = 1 then v else b, if i = 2 then v else c, if i = 3 then v else d] := by
  obtain rfl | rfl | rfl | rfl : i = 0 ∨ i = 1 ∨ i = 2 ∨ i = 3 := by omega
  all_goals rfl
end Go.Proofs.YtkkophhnliplhaaDoor
