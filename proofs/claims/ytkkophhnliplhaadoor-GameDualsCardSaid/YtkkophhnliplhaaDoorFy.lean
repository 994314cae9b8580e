/-
  The frame of the walks, third part: calls, tests, loops, the function's begin and end; blocks of the call's own. Conditions: none; plain lemmas, over any program.
-/
import Derived.Test.YtkkophhnliplhaaDoorFx
set_option linter.unusedVariables false
namespace Go.Proofs.YtkkophhnliplhaaDoor
open Go Go.RowKit

/-! ### Calls -/
def callAt (P : Program) (l : List (Nat × Value)) (ops : List Oper) (k : Nat) : Option (FuncId × Array Value × Option Nat) :=
  match ops[k]? with
  | none => none
  | some o => match wantedL l ops o, known l o && notSel o with
    | some true, true => match symS P true (fun _ _ _ => False) (execOp (rho l) o) default [] with
      | some ⟨.enter f args, _, [], _⟩ => some (f, args, o.dst)
      | _ => none
    | _, _ => none
theorem drop_of_getElem? {ops : Array Oper} {k : Nat} {o : Oper} (h : ops.toList[k]? = some o) : ops.toList.drop k = o :: ops.toList.drop (k + 1) := by
  obtain ⟨hlt, he⟩ := List.getElem?_eq_some_iff.1 h
  rw [List.drop_eq_getElem_cons hlt, he]
theorem At.call {P : Program} {n : Nat} {ops : Array Oper} {Q : Exit → Act → World → Prop} {k : Nat} {a : Act} {w : World} {l : List (Nat × Value)} (hf : Frm n a l) (f : FuncId) (args : Array Value) (d : Option Nat)
    (hc : callAt P l ops.toList k = some (f, args, d)) {R : Ending → World → Prop} (hcall : Calls P f args w R)
    (hR : ∀ e w1, R e w1 → ∃ v, e = .returned v ∧ ∃ l', putL n l d v = some l' ∧ ∀ a', Frm n a' l' → At P ops Q (k + 1) a' w1) : At P ops Q k a w := by
  unfold callAt at hc
  split at hc
  · simp at hc
  · rename_i o ho
    split at hc
    · rename_i hwl hkn
      simp only [Bool.and_eq_true] at hkn
      split at hc
      · rename_i g as_ w0 os0 hs
        simp only [Option.some.injEq, Prod.mk.injEq] at hc
        obtain ⟨rfl, rfl, rfl⟩ := hc
        have hrun := (symS_rd _ hs trivial).2 w (fun _ _ h => h.elim)
        unfold At
        rw [drop_of_getElem? ho]
        unfold wpList
        rw [wantedL_sound hf hwl, if_pos rfl]
        refine .inl ?_
        unfold Oper.wp
        rw [hf.exec hkn.1 hkn.2, hrun]
        refine Calls.mono hcall fun e w1 he => ?_
        obtain ⟨v, rfl, l', hl', hnext⟩ := hR e w1 he
        exact hnext _ (hf.putL hl')
      · simp at hc
    · simp at hc
/-- An operation whose run is told by an equation. -/
def opOk (l : List (Nat × Value)) (ops : List Oper) (o : Oper) : Bool := (match wantedL l ops o with | some true => true | _ => false) && known l o && notSel o
theorem At.run {P : Program} {n : Nat} {ops : Array Oper} {Q : Exit → Act → World → Prop} {k : Nat} {a : Act} {w : World} {l : List (Nat × Value)} (hf : Frm n a l) {o : Oper} (ho : ops.toList[k]? = some o) (hk : opOk l ops.toList o = true)
    {v : Value} {w1 : World} (hr : (execOp (rho l) o).run P w = .ok (.value v) w1) {l' : List (Nat × Value)} (hl : putL n l o.dst v = some l') (next : ∀ a', Frm n a' l' → At P ops Q (k + 1) a' w1) : At P ops Q k a w := by
  simp only [opOk, Bool.and_eq_true] at hk
  obtain ⟨⟨h1, h2⟩, h3⟩ := hk
  unfold At
  rw [drop_of_getElem? ho]
  unfold wpList
  split at h1
  · rename_i hwl
    rw [wantedL_sound hf hwl, if_pos rfl]
    exact .inl (oper_wp_of_gives (by rw [hf.exec h2 h3]; exact hr) (.inl rfl) (next _ (hf.putL hl)))
  · simp at h1

/-! ### Control -/
section
variable {P : Program} {Q : Exit → Act → World → Prop} {K : Act → World → Prop} {n : Nat} {a : Act} {w : World} {l : List (Nat × Value)}
theorem cond_T (hf : Frm n a l) {c : Operand} {x y : Code} (hc : opd l c = some (.bool true)) (h : x.wp P Q a w) : (Code.cond c x y).wp P Q a w := wp_cond_true (hf.opd hc) h
theorem cond_F (hf : Frm n a l) {c : Operand} {x y : Code} (hc : opd l c = some (.bool false)) (h : y.wp P Q a w) : (Code.cond c x y).wp P Q a w := wp_cond_false (hf.opd hc) h
theorem cond_S (hf : Frm n a l) {c : Operand} {x y : Code} {t : Bool} (hc : opd l c = some (.bool t)) (h1 : t = true → x.wp P Q a w) (h2 : t = false → y.wp P Q a w) : (Code.cond c x y).wp P Q a w := wp_cond_split (hf.opd hc) h1 h2
theorem t_n (h : K a w) : Exit.then K Q .normal a w := h
theorem t_r (h : Q .ret a w) : Exit.then K Q .ret a w := h
theorem t_e {id : Nat} (h : Q (.exit id) a w) : Exit.then K Q (.exit id) a w := h
theorem b_n {id : Nat} (h : Q .normal a w) : Exit.inBlock id Q .normal a w := h
theorem b_r {id : Nat} (h : Q .ret a w) : Exit.inBlock id Q .ret a w := h
theorem b_e {id : Nat} (h : Q .normal a w) : Exit.inBlock id Q (.exit id) a w := by simp only [Exit.inBlock, if_true]; exact h
theorem b_o {id id' : Nat} (hne : id' ≠ id) (h : Q (.exit id') a w) : Exit.inBlock id Q (.exit id') a w := by simp only [Exit.inBlock, if_neg hne]; exact h
theorem loop_g {c : Code} (I : Nat → Act → World → Prop) (n0 : Nat) (h0 : I n0 a w) (round : ∀ k a w, I k a w → c.wp P (Exit.then (fun a' w' => ∃ k', k' < k ∧ I k' a' w') Q) a w) : (Code.loop c).wp P Q a w := by
  intro b k cs
  have key : ∀ m a w, I m a w → ∃ e a' w', Q e a' w' ∧ Arrives P (lone (b.at a (.code c :: .inLoop c :: k)) cs w) b k cs e a' w' := by
    intro m
    induction m using Nat.strongRecOn with
    | _ m ih =>
      intro a w hI
      obtain ⟨e, a₁, w₁, hq, harr⟩ := round m a w hI b (.inLoop c :: k) cs
      cases e with
      | normal =>
        obtain ⟨k', hlt, hI₁⟩ := hq
        obtain ⟨e₂, a₂, w₂, hq₂, harr₂⟩ := ih k' hlt a₁ w₁ hI₁
        exact ⟨e₂, a₂, w₂, hq₂, .of_steps (Steps.trans harr (.one step_inLoop)) harr₂⟩
      | exit id => exact ⟨_, a₁, w₁, hq, .pass (x := .inLoop c) rfl (fun _ _ => .inl (by simp)) harr⟩
      | goto l => exact ⟨_, a₁, w₁, hq, .pass (x := .inLoop c) rfl (fun _ _ => .inl (by simp)) harr⟩
      | ret => exact ⟨_, a₁, w₁, hq, .pass (x := .inLoop c) rfl (fun _ _ => .inl (by simp)) harr⟩
      | panic ch => exact ⟨_, a₁, w₁, hq, .pass (x := .inLoop c) rfl (fun _ _ => .inl (by simp)) harr⟩
      | outgrown => exact ⟨_, a₁, w₁, hq, .pass (x := .inLoop c) rfl (fun _ _ => .inl (by simp)) harr⟩
  obtain ⟨e, a', w', hq, harr⟩ := key _ a w h0
  exact ⟨e, a', w', hq, .of_steps (.one step_loop) harr⟩
/-- The ways through a piece of code meet again. -/
theorem cut {x : Code} (M : Act → World → Prop) (h : x.wp P (Exit.then M Q) a w) (k : ∀ a w, M a w → K a w) : x.wp P (Exit.then K Q) a w :=
  Code.wp_mono (fun e a w q => by cases e <;> first | exact k _ _ q | exact q) h
end

/-! ### A function's begin and end -/
def argsL : Nat → List Value → List (Nat × Value)
  | _, [] => []
  | i, v :: r => (i, v) :: argsL (i + 1) r
theorem look_argsL : ∀ (vs : List Value) (i t : Nat) (v : Value), look (argsL i vs) t = some v → i ≤ t ∧ vs[t - i]? = some v
  | [], _, _, _, h => by simp [argsL, look] at h
  | u :: r, i, t, v, h => by
    by_cases hi : i = t
    · subst hi
      simp only [argsL, look_cons_eq, Option.some.injEq] at h
      subst h
      simp
    · rw [argsL, look_cons_ne _ _ hi] at h
      obtain ⟨h1, h2⟩ := look_argsL r (i + 1) t v h
      refine ⟨by omega, ?_⟩
      rw [show t - i = (t - (i + 1)) + 1 by omega]
      simpa using h2
theorem enter_ {P : Program} {f : FuncId} {fn : Func} {c : Code} {args : List Value} {w : World} {R : Ending → World → Prop} {n : Nat} (hf : P.funcs[f]? = some fn) (hb : fn.body = some c) (hn : fn.ntmps = n) (hle : args.length ≤ n)
    (h : ∀ a, Frm n a (argsL 0 args) → c.wp P (bodyPost P fn R) a w) : Calls P f args.toArray w R := by
  refine calls_of_wp hf hb (h _ ⟨?_, rfl, ?_, ?_⟩)
  · simp [hn]
    omega
  · intro t v hv
    obtain ⟨_, h2⟩ := look_argsL args 0 t v hv
    simp only [Nat.sub_zero] at h2
    have hlt : t < args.length := (List.getElem?_eq_some_iff.1 h2).1
    simp only [Array.getD_eq_getD_getElem?]
    rw [Array.getElem?_append_left (by simpa using hlt)]
    simp [h2]
  · intro t v hv
    obtain ⟨_, h2⟩ := look_argsL args 0 t v hv
    have : t < args.length := by simpa using (List.getElem?_eq_some_iff.1 h2).1
    omega
def resL (P : Program) (l : List (Nat × Value)) (w : World) : List ResultVar → List (List Value) → Option (List Value × List Prop)
  | [], _ => some ([], [])
  | .tmp t :: r, hs => match look l t with
    | none => none
    | some v => match resL P l w r hs with
      | none => none
      | some (vs, ob) => some (v :: vs, ob)
  | .cell a t :: r, hs => match look l a with
    | some (.pointer (some ad)) => match symS P true CellC (loadVar t ad) w ((match hs with | [] => [] | h :: _ => h).map .ld) with
      | some ⟨v, _, ob1, []⟩ => match resL P l w r hs.tail with
        | none => none
        | some (vs, ob) => some (v :: vs, ob1 ++ ob)
      | _ => none
    | _ => none
def packL (vs : List Value) : Value := match vs with | [v] => v | vs => .tuple vs.toArray
def resF (tmps : Array Value) : ResultVar → Sem Value
  | .tmp t => pure (tmps.getD t undef)
  | .cell c t => do loadVar t (← asAddr (tmps.getD c undef))
theorem resL_sound {P : Program} {n : Nat} {a : Act} {w : World} {l : List (Nat × Value)} (hf : Frm n a l) : ∀ (rs : List ResultVar) (hs : List (List Value)) {vs : List Value} {ob : List Prop}, resL P l w rs hs = some (vs, ob) → AllP ob →
    (rs.mapM (resF a.tmps)).run P w = .ok vs w
  | [], _, vs, ob, h, _ => by
    simp only [resL, Option.some.injEq, Prod.mk.injEq] at h
    obtain ⟨rfl, rfl⟩ := h
    rfl
  | .tmp t :: r, hs, vs, ob, h, hob => by
    simp only [resL] at h
    split at h
    · simp at h
    · rename_i v hv
      split at h
      · simp at h
      · rename_i vs1 ob1 hr
        simp only [Option.some.injEq, Prod.mk.injEq] at h
        obtain ⟨rfl, rfl⟩ := h
        have := resL_sound hf r hs hr hob
        simp only [List.mapM_cons, Sem.run_bind, resF, Sem.run_pure, Result.andThen_ok, hf.val t v hv]
        rw [this]
        rfl
  | .cell c t :: r, hs, vs, ob, h, hob => by
    simp only [resL] at h
    split at h
    · rename_i ad had
      split at h
      · rename_i v w1 ob1 hs1
        split at h
        · simp at h
        · rename_i vs1 ob2 hr
          simp only [Option.some.injEq, Prod.mk.injEq] at h
          obtain ⟨rfl, rfl⟩ := h
          obtain ⟨h1, h2⟩ := AllP_append hob
          have h3 := (symS_rd _ hs1 h1).2 w (fun _ _ h => h)
          have := resL_sound hf r hs.tail hr h2
          simp only [List.mapM_cons, Sem.run_bind, resF, hf.val c _ had, asAddr, Sem.run_pure, Result.andThen_ok]
          rw [h3]
          simp only [Result.andThen_ok]
          rw [this]
          rfl
      · simp at h
    · simp at h
theorem results_sound {P : Program} {n : Nat} {a : Act} {w : World} {l : List (Nat × Value)} (hf : Frm n a l) {fn : Func} {hs : List (List Value)} {vs : List Value} {ob : List Prop} (h : resL P l w fn.results.toList hs = some (vs, ob)) (hob : AllP ob) :
    (results fn a.tmps).run P w = .ok (packL vs) w := by
  have h1 := resL_sound hf fn.results.toList hs h hob
  have e : results fn a.tmps = (do let vs ← fn.results.mapM (resF a.tmps); pure (if h : vs.size = 1 then vs[0] else .tuple vs)) := by
    unfold results
    congr 1
  rw [e, Array.mapM_eq_mapM_toList]
  have h2 : ∀ (s : Sem (List Value)) (f : List Value → Array Value), (f <$> s).run P w = (s.run P w).andThen fun a w' => .ok (f a) w' := fun s f => by
    rw [← bind_pure_comp]
    simp only [Sem.run_bind, Sem.run_pure]
  simp only [Sem.run_bind]
  rw [h2, h1]
  simp only [Result.andThen_ok, Sem.run_pure]
  congr 1
  match vs with
  | [] => rfl
  | [v] => rfl
  | u :: v :: r => simp [packL]
theorem ret_ {P : Program} {fn : Func} {R : Ending → World → Prop} {n : Nat} {a : Act} {w : World} {l : List (Nat × Value)} (hf : Frm n a l) (hs : List (List Value)) (vs : List Value) (ob : List Prop) (h : resL P l w fn.results.toList hs = some (vs, ob)) (hob : AllP ob)
    (hR : R (.returned (packL vs)) w) : bodyPost P fn R .ret a w := ⟨hf.defs, _, results_sound hf h hob, hR⟩
theorem end_ {P : Program} {fn : Func} {R : Ending → World → Prop} {n : Nat} {a : Act} {w : World} {l : List (Nat × Value)} (hf : Frm n a l) (hs : List (List Value)) (vs : List Value) (ob : List Prop) (h : resL P l w fn.results.toList hs = some (vs, ob)) (hob : AllP ob)
    (hR : R (.returned (packL vs)) w) : bodyPost P fn R .normal a w := ⟨hf.defs, _, results_sound hf h hob, hR⟩

/-! ### Blocks of the call's own -/
/-- Block b holds the cells cs. -/
def Bx (w : World) (b : Nat) (cs : List Value) (T : TypeId) : Prop := w.heap[b]? = some (.cells cs.toArray T (0, 0))
theorem Bx.lt {w : World} {b : Nat} {cs : List Value} {T : TypeId} (h : Bx w b cs T) : b < w.heap.size := (Array.getElem?_eq_some_iff.1 h).1
theorem Bx.cell {w : World} {b : Nat} {cs : List Value} {T : TypeId} (h : Bx w b cs T) {i : Nat} {v : Value} (hv : cs[i]? = some v) : w.cell? ⟨b, i, none⟩ = some v := by
  unfold Bx at h
  simp [World.cell?, h, hv]
theorem Bx.free {w : World} {b : Nat} {cs : List Value} {T : TypeId} (h : Bx w b cs T) (i : Nat) : w.frozen? ⟨b, i, none⟩ = false := by
  unfold Bx at h
  simp [World.frozen?, h]
theorem Bx.new {w w1 : World} {cs : List Value} {T : TypeId} (h : w1 = w.alloc (.cells cs.toArray T (0, 0))) : Bx w1 w.heap.size cs T := by
  subst h
  exact heap_alloc_new w _
theorem gr_alloc {w w1 : World} {o : Obj} (h : w1 = w.alloc o) : w.grownBy w1 none := by
  subst h
  exact World.grownBy_alloc w o none
theorem gr_refl (w : World) (row : Option Nat) : w.grownBy w row := ⟨rfl, rfl, rfl, Nat.le_refl _, fun _ _ _ => rfl⟩
theorem gr_drew {w w1 : World} (h : w1 = w.drew) : w.grownBy w1 none := by
  subst h
  exact ⟨rfl, rfl, rfl, Nat.le_refl _, fun _ _ _ => rfl⟩
theorem gr_ext {w w1 : World} (h : Ext w w1) : w.grownBy w1 none := ⟨h.os, h.tape, h.output, Below.size h, fun k hk _ => h.block k hk⟩
theorem gr_drawn {w w1 : World} (h : Drawn w w1) : w.grownBy w1 none := gr_ext h.ext
theorem Bx.gr {w w1 : World} {b : Nat} {cs : List Value} {T : TypeId} {row : Option Nat} (h : Bx w b cs T) (g : w.grownBy w1 row) (hne : row ≠ some b) : Bx w1 b cs T := by
  unfold Bx at *
  rw [g.block b (Array.getElem?_eq_some_iff.1 h).1 (fun e => hne e.symm)]
  exact h
theorem Bx.set {w w1 : World} {b i : Nat} {cs : List Value} {T : TypeId} {v : Value} (h : Bx w b cs T) (hw : w1 = w.setCell ⟨b, i, none⟩ v) : Bx w1 b (cs.set i v) T := by
  subst hw
  unfold Bx at *
  simp [World.setCell, Array.getElem?_modify, h]
theorem gr_set {w w1 : World} {b i : Nat} {v : Value} (hw : w1 = w.setCell ⟨b, i, none⟩ v) : w.grownBy w1 (some b) := by
  subst hw
  refine ⟨rfl, rfl, rfl, by simp [World.setCell], fun k hk hne => Below.heap_setCell w _ _ _ (fun e => hne (by rw [e]))⟩
theorem Ext.gr {w0 w w1 : World} {row : Option Nat} (h : Ext w0 w) (g : w.grownBy w1 row) (hr : ∀ k, row = some k → w0.heap.size ≤ k) : Ext w0 w1 := Below.grown h g h.size hr
theorem gr_trans {w w1 w2 : World} {row : Option Nat} (g : w.grownBy w1 row) (k : w1.grownBy w2 row) : w.grownBy w2 row :=
  ⟨k.os.trans g.os, k.tape.trans g.tape, k.output.trans g.output, Nat.le_trans g.size k.size, fun i hi hne => (k.block i (Nat.lt_of_lt_of_le hi g.size) hne).trans (g.block i hi hne)⟩
theorem gr_row {w w1 : World} (g : w.grownBy w1 none) (row : Option Nat) : w.grownBy w1 row := ⟨g.os, g.tape, g.output, g.size, fun i hi _ => g.block i hi (by simp)⟩
theorem no_row {w : World} : ∀ k, (none : Option Nat) = some k → w.heap.size ≤ k := fun _ h => by cases h

/-! ### A store into a block of the call's own -/
def oneC : Value → Bool
  | .agg _ => false
  | .tuple _ => false
  | _ => true
theorem run_storeCells {P : Program} {b : Nat} {T : TypeId} : ∀ (vs : List Value) (off i : Nat) {w : World} {cs : List Value}, Bx w b cs T → off + i + vs.length ≤ cs.length → (∀ v ∈ vs, oneC v = true) →
    ∃ w1, (storeCells ⟨b, off, none⟩ vs i).run P w = .ok () w1 ∧ w.grownBy w1 (some b) ∧ Bx w1 b (cs.take (off + i) ++ vs ++ cs.drop (off + i + vs.length)) T
  | [], off, i, w, cs, hbx, _, _ => ⟨w, rfl, gr_refl w _, by simpa using hbx⟩
  | v :: r, off, i, w, cs, hbx, hfit, hone => by
    have hadd : (⟨b, off, none⟩ : Addr).add i = ⟨b, off + i, none⟩ := by unfold Addr.add; split <;> simp_all
    simp only [List.length_cons] at hfit
    have hlt : off + i < cs.length := by omega
    have hc := hbx.cell (List.getElem?_eq_getElem hlt)
    have hfz := hbx.free (off + i)
    have h1 := hbx.set (w1 := w.setCell ⟨b, off + i, none⟩ v) (i := off + i) (v := v) rfl
    obtain ⟨w1, hr, hg, hb⟩ := run_storeCells r off (i + 1) h1 (by simp only [List.length_set]; omega) (fun u hu => hone u (List.mem_cons_of_mem _ hu))
    refine ⟨w1, ?_, gr_trans (gr_set rfl) hg, ?_⟩
    · have hv := hone v List.mem_cons_self
      unfold storeCells
      simp only [Sem.run_bind, store, hadd]
      have : (Sem.store Mode.plain ⟨b, off + i, none⟩ v (Sem.pure ())).run P w = .ok () (w.setCell ⟨b, off + i, none⟩ v) := by
        cases v <;> first | (simp [oneC] at hv; done) | simp [Sem.run, hc, hfz]
      rw [this]
      exact hr
    · have e1 : (cs.set (off + i) v).take (off + (i + 1)) = cs.take (off + i) ++ [v] := by
        rw [show off + (i + 1) = (off + i) + 1 by omega, List.take_succ_eq_append_getElem (by simpa using hlt), List.take_set_of_le (by omega)]
        simp
      have e2 : (cs.set (off + i) v).drop (off + (i + 1) + r.length) = cs.drop (off + i + (v :: r).length) := by
        rw [List.drop_set_of_lt (by omega)]
        congr 1
        simp only [List.length_cons]
        omega
      rw [e1, e2] at hb
      simpa using hb
def storeAtL (l : List (Nat × Value)) (ops : List Oper) (k : Nat) : Option (TypeId × Value × Value) :=
  match ops[k]? with
  | none => none
  | some o => match opOk l ops o, o.op, o.dst with
    | true, .store t x y, none => some (t, rho l x, rho l y)
    | _, _, _ => none
def storeOk (P : Program) (t off : Nat) (v : Value) (cs : List Value) : Bool :=
  Nat.ble (off + v.cells.toList.length) cs.length && (match P.info? t with | some i => Nat.beq i.size v.cells.toList.length | none => false) && v.cells.toList.all oneC
theorem At.store {P : Program} {n : Nat} {ops : Array Oper} {Q : Exit → Act → World → Prop} {k : Nat} {a : Act} {w : World} {l : List (Nat × Value)} (hf : Frm n a l) {t b off : Nat} {v : Value} {cs : List Value} {T : TypeId}
    (hc : storeAtL l ops.toList k = some (t, .pointer (some ⟨b, off, none⟩), v)) (hbx : Bx w b cs T) (hok : storeOk P t off v cs = true)
    (next : ∀ a' w1, w.grownBy w1 (some b) → Bx w1 b (cs.take off ++ v.cells.toList ++ cs.drop (off + v.cells.toList.length)) T → Frm n a' l → At P ops Q (k + 1) a' w1) : At P ops Q k a w := by
  unfold storeAtL at hc
  split at hc
  · simp at hc
  · rename_i o ho
    split at hc
    · rename_i t' x y hok' hop hdst
      simp only [Option.some.injEq, Prod.mk.injEq] at hc
      obtain ⟨rfl, hx, hy⟩ := hc
      simp only [storeOk, Bool.and_eq_true] at hok
      obtain ⟨⟨h1, h2⟩, h3⟩ := hok
      have h1 : off + v.cells.toList.length ≤ cs.length := by simpa using h1
      split at h2
      · rename_i inf hinf
        have h2 : inf.size = v.cells.toList.length := by simpa using h2
        obtain ⟨w1, hr, hg, hb⟩ := run_storeCells (P := P) v.cells.toList off 0 hbx (by simpa using h1) (fun u hu => List.all_eq_true.1 h3 u hu)
        simp only [opOk, Bool.and_eq_true] at hok'
        obtain ⟨⟨k1, k2⟩, k3⟩ := hok'
        unfold At
        rw [drop_of_getElem? ho]
        unfold wpList
        split at k1
        · rename_i hwl
          rw [wantedL_sound hf hwl, if_pos rfl]
          have hrun : (execOp (rho l) o).run P w = .ok .skip w1 := by
            have hsz : v.cells.size = inf.size := by rw [h2]; simp
            simp only [execOp, hop, hx, hy, Instr.storeAt, Instr.sureAddr]
            simp [storeVar, sizeOf, typeInfo, hinf, hsz]
            simp [hr]
          have hf' := hf.putL (d := o.dst) (v := undef) (l' := l) (by rw [hdst]; rfl)
          exact .inl (oper_wp_of_gives (by rw [hf.exec k2 k3]; exact hrun) (.inr ⟨rfl, rfl⟩) (next _ w1 hg (by simpa using hb) hf'))
        · simp at k1
      · simp at h2
    · simp at hc

/-! ### Numbers -/
theorem w64 {x : Int} (h1 : -9223372036854775808 ≤ x) (h2 : x ≤ 9223372036854775807) : (.int .i64 (IntKind.i64.wrap x) : Value) = .int .i64 x := by
  congr 1
  simp only [IntKind.wrap, IntKind.bits, IntKind.signed]
  simp
  omega
theorem w64e {x y : Int} (h : x = y) (h1 : -9223372036854775808 ≤ x) (h2 : x ≤ 9223372036854775807) : (.int .i64 (IntKind.i64.wrap x) : Value) = .int .i64 y := by
  rw [w64 h1 h2, h]
theorem wu64 {x : Int} (h1 : 0 ≤ x) (h2 : x ≤ 18446744073709551615) : (.int .u64 (IntKind.u64.wrap x) : Value) = .int .u64 x := by
  congr 1
  simp only [IntKind.wrap, IntKind.bits, IntKind.signed]
  simp
  omega
theorem max_if (x y : Int) : (if y > x then y else x) = max x y := by split <;> omega
theorem min_if (x y : Int) : (if y < x then y else x) = min x y := by split <;> omega
end Go.Proofs.YtkkophhnliplhaaDoor
