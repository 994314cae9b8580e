/-
  The frame of the walks, fourth part: regions that draw their order and act. Conditions: none; plain lemmas, over any program.
-/
import Derived.Test.YtkkophhnliplhaaDoorFy
set_option linter.unusedVariables false
namespace Go.Proofs.YtkkophhnliplhaaDoor
open Go Go.RowKit

/-- The cells that a region reads hold what they hold. -/
def HoldsC (Cs : List (Addr × Value)) (w : World) : Prop := AllP (Cs.map fun p => w.cell? p.1 = some p.2)
theorem AllP_get {α : Type} {f : α → Prop} : ∀ {l : List α} {j : Nat} {x : α}, AllP (l.map f) → l[j]? = some x → f x
  | [], j, x, _, h => by simp at h
  | y :: _, 0, x, hp, h => by simp at h; subst h; exact hp.1
  | y :: r, j + 1, x, hp, h => AllP_get (l := r) (j := j) hp.2 (by simpa using h)
theorem AllP_map {α : Type} {f g : α → Prop} : ∀ {l : List α}, (∀ x ∈ l, f x → g x) → AllP (l.map f) → AllP (l.map g)
  | [], _, _ => trivial
  | x :: r, h, hp => ⟨h x List.mem_cons_self hp.1, AllP_map (fun y hy => h y (List.mem_cons_of_mem _ hy)) hp.2⟩
theorem AllP_mem {α : Type} {f : α → Prop} : ∀ {l : List α}, AllP (l.map f) → ∀ x ∈ l, f x
  | y :: _, hp, x, h => by
    rcases List.mem_cons.1 h with rfl | h
    · exact hp.1
    · exact AllP_mem hp.2 x h
theorem HoldsC.gr {Cs : List (Addr × Value)} {w w1 : World} (h : HoldsC Cs w) (g : w.grownBy w1 none) : HoldsC Cs w1 :=
  AllP_map (fun _ _ hp => g.cell hp (by simp)) h
theorem HoldsC.gr' {Cs : List (Addr × Value)} {w w1 : World} {b : Nat} (h : HoldsC Cs w) (g : w.grownBy w1 (some b)) (hne : AllP (Cs.map fun p => p.1.block ≠ b)) : HoldsC Cs w1 :=
  AllP_map (fun p hp hc => g.cell hc (fun e => AllP_mem hne p hp (Option.some.inj e))) h
def CsC (Cs : List (Addr × Value)) (_ : World) (ad : Addr) (v : Value) : Prop := ∃ j : Nat, Cs[j]? = some (ad, v)
theorem CsC_holds {Cs : List (Addr × Value)} {w w2 : World} (h : HoldsC Cs w2) (ad : Addr) (v : Value) (hc : CsC Cs w ad v) : w2.cell? ad = some v := by
  obtain ⟨j, hj⟩ := hc
  exact AllP_get (f := fun p : Addr × Value => w2.cell? p.1 = some p.2) (x := (ad, v)) h hj
def AtH (P : Program) (ops : Array Oper) (Q : Exit → Act → World → Prop) (Cs : List (Addr × Value)) (fuel : Nat) (listed : Array Bool) (a : Act) (w : World) : Prop := wpAnyH P .any ops Q (HoldsC Cs) fuel listed a w
def NoHang (Q : Exit → Act → World → Prop) : Prop := ∀ (d : Option Tmp) (v : Value) c a w, Q (.panic c) (a.put d v) w → Q (.panic c) a w
theorem AtH.start {P : Program} {id : Nat} {ops : Array Oper} {Q : Exit → Act → World → Prop} {a : Act} {w : World} (Cs : List (Addr × Value)) (fuel : Nat) (listed : Array Bool) (hm : P.follows .mixedOrders = true) (hfu : ops.size = fuel) (hli : Array.replicate ops.size false = listed)
    (h : ∀ w1, w1 = w.drew → AtH P ops Q Cs fuel listed a w1) : (Code.region id ops true).wp P Q a w := by
  subst hfu
  subst hli
  exact wp_region_held (S := HoldsC Cs) hm (h _ rfl)
/-- Readers, each as soon as it may come up. -/
def evH (P : Program) (n : Nat) (Cs : List (Addr × Value)) (ops : Array Oper) : List Nat → List (List Orc) → List (Nat × Value) → Array Bool → Option (List (Nat × Value) × Array Bool × List Prop)
  | [], _, l, li => some (l, li, [])
  | i :: r, hs, l, li =>
    match Region.free .any ops li i && (Region.ready .any ops li).contains i, ops.toList[i]? with
    | true, some o => match wantedL l ops.toList o with
      | none => none
      | some false => match putL n l o.dst undef with
        | none => none
        | some l' => evH P n Cs ops r hs.tail l' (li.setIfInBounds i true)
      | some true => match known l o && notSel o with
        | false => none
        | true => match symOpA P true (CsC Cs) (rho l) default o (hdO hs) with
          | none => none
          | some (v, _, ob) => match putL n l o.dst v with
            | none => none
            | some l' => match evH P n Cs ops r hs.tail l' (li.setIfInBounds i true) with
              | none => none
              | some (l2, li2, ob2) => some (l2, li2, ob ++ ob2)
    | _, _ => none
theorem AtH.rd0 {P : Program} {n : Nat} {ops : Array Oper} {Q : Exit → Act → World → Prop} {Cs : List (Addr × Value)} {w : World} (hsel : Region.noSelect ops = true) (hQ : NoHang Q) (hS : HoldsC Cs w) :
    ∀ (is : List Nat) (hs : List (List Orc)) {l : List (Nat × Value)} {li : Array Bool} {a : Act} (l' : List (Nat × Value)) (li' : Array Bool) (ob : List Prop) (fuel : Nat), Frm n a l →
      evH P n Cs ops is hs l li = some (l', li', ob) → AllP ob → (∀ a', Frm n a' l' → AtH P ops Q Cs fuel li' a' w) → AtH P ops Q Cs (fuel + is.length) li a w
  | [], hs, l, li, a, l', li', ob, fuel, hf, h, hob, next => by
    simp only [evH, Option.some.injEq, Prod.mk.injEq] at h
    obtain ⟨rfl, rfl, rfl⟩ := h
    exact next a hf
  | i :: r, hs, l, li, a, l', li', ob, fuel, hf, h, hob, next => by
    unfold evH at h
    split at h
    · rename_i o hfr ho
      simp only [Bool.and_eq_true] at hfr
      have ho' : ops[i]? = some o := by simpa using ho
      split at h
      · simp at h
      · rename_i hwl
        have hwant := wantedL_sound hf hwl
        split at h
        · simp at h
        · rename_i l1 hl1
          have := AtH.rd0 hsel hQ hS r hs.tail l' li' ob fuel (hf.putL hl1) h hob next
          exact wpAnyH_take ho' hsel hfr.1 hfr.2 (hQ o.dst undef) (.inr ⟨hwant, rfl⟩) hS this
      · rename_i hwl
        have hwant := wantedL_sound hf hwl
        split at h
        · simp at h
        · rename_i hk
          simp only [Bool.and_eq_true] at hk
          split at h
          · simp at h
          · rename_i v w2 ob1 hs1
            split at h
            · simp at h
            · rename_i l1 hl1
              split at h
              · simp at h
              · rename_i l2 li2 ob2 hev
                simp only [Option.some.injEq, Prod.mk.injEq] at h
                obtain ⟨rfl, rfl, rfl⟩ := h
                obtain ⟨hob1, hob2⟩ := AllP_append hob
                obtain ⟨_, hrun⟩ := symOpA_rd hs1 hob1
                have := AtH.rd0 hsel hQ hS r hs.tail l2 li2 ob2 fuel (hf.putL hl1) hev hob2 next
                exact wpAnyH_take ho' hsel hfr.1 hfr.2 (hQ o.dst v) (.inl ⟨hwant, fun w3 h3 => by rw [hf.exec hk.1 hk.2]; exact hrun w3 (fun ad u hc => CsC_holds h3 ad u hc)⟩) hS this
    · simp at h
theorem AtH.rd {P : Program} {n : Nat} {ops : Array Oper} {Q : Exit → Act → World → Prop} {Cs : List (Addr × Value)} {w : World} (hsel : Region.noSelect ops = true) (hQ : NoHang Q) (hS : HoldsC Cs w)
    (is : List Nat) (hs : List (List Orc)) {l : List (Nat × Value)} {li : Array Bool} {a : Act} (nw : List (Nat × Value)) (li' : Array Bool) (ob : List Prop) (fuel : Nat) (hf : Frm n a l)
    (h : evH P n Cs ops is hs l li = some (nw ++ l, li', ob)) (hob : AllP ob) (next : ∀ a', Frm n a' (nw ++ l) → AtH P ops Q Cs fuel li' a' w) : AtH P ops Q Cs (fuel + is.length) li a w :=
  AtH.rd0 hsel hQ hS is hs _ li' ob fuel hf h hob next
theorem AtH.done {P : Program} {ops : Array Oper} {Q : Exit → Act → World → Prop} {Cs : List (Addr × Value)} {fuel : Nat} {li : Array Bool} {a : Act} {w : World} (hr : Region.ready .any ops li = []) (h : Q .normal a w) : AtH P ops Q Cs fuel li a w := wpAnyH_done hr h fuel
/-- One operation that may come up is carried out now. -/
def OneH (P : Program) (ops : Array Oper) (Q : Exit → Act → World → Prop) (Cs : List (Addr × Value)) (fuel : Nat) (li : Array Bool) (i : Nat) (a : Act) (w : World) : Prop :=
  wpOp P ops Q i (fun a' w' => HoldsC Cs w' ∧ AtH P ops Q Cs fuel (li.setIfInBounds i true) a' w') a w
theorem AtH.all {P : Program} {ops : Array Oper} {Q : Exit → Act → World → Prop} {Cs : List (Addr × Value)} {li : Array Bool} {a : Act} {w : World} (is : List Nat) (fuel : Nat) (hr : Region.ready .any ops li = is) (hne : is ≠ [])
    (h : AllP (is.map fun i => OneH P ops Q Cs fuel li i a w)) : AtH P ops Q Cs (fuel + 1) li a w := wpAnyH_all hr hne (AllP_mem h)
section
variable {P : Program} {n : Nat} {ops : Array Oper} {Q : Exit → Act → World → Prop} {Cs : List (Addr × Value)} {fuel i : Nat} {li : Array Bool} {a : Act} {w : World} {l : List (Nat × Value)}
theorem OneH.seq0 (hf : Frm n a l) (hs : List (List Orc)) (l' : List (Nat × Value)) (w' : World) (ob : List Prop) (li' : Array Bool) (hli : li.setIfInBounds i true = li')
    (h : evSeq P false n CellC ops.toList ((ops.toList.drop i).take 1) hs l w = some (l', w', ob)) (hi : Nat.blt i ops.toList.length = true) (hob : AllP ob)
    (next : ∀ a' w1, w1 = w' → Frm n a' l' → HoldsC Cs w1 ∧ AtH P ops Q Cs fuel li' a' w1) : OneH P ops Q Cs fuel li i a w := by
  subst hli
  have hi : i < ops.toList.length := by simpa using hi
  have ho : ops.toList[i]? = some ops.toList[i] := List.getElem?_eq_getElem hi
  rw [List.drop_eq_getElem_cons hi, List.take_succ_cons, List.take_zero] at h
  have ho' : ops[i]? = some ops.toList[i] := by rw [← Array.getElem?_toList]; exact ho
  unfold OneH wpOp
  rw [ho']
  unfold evSeq at h
  split at h
  · simp at h
  · rename_i hwl
    split at h
    · simp at h
    · rename_i l1 hl1
      simp only [evSeq, Option.some.injEq, Prod.mk.injEq] at h
      obtain ⟨rfl, rfl, rfl⟩ := h
      simp only [wantedL_sound hf hwl, Bool.false_eq_true, if_false]
      exact next _ _ rfl (hf.putL hl1)
  · rename_i hwl
    split at h
    · simp at h
    · rename_i hk
      simp only [Bool.and_eq_true] at hk
      split at h
      · simp at h
      · rename_i v w1 ob1 hs1
        split at h
        · simp at h
        · rename_i l1 hl1
          split at h
          · simp at h
          · rename_i l2 w2 ob2 hev
            simp only [Option.some.injEq, Prod.mk.injEq] at h
            obtain ⟨rfl, rfl, rfl⟩ := h
            simp only [evSeq, Option.some.injEq, Prod.mk.injEq] at hev
            obtain ⟨rfl, rfl, rfl⟩ := hev
            obtain ⟨hob1, _⟩ := AllP_append hob
            obtain ⟨nx, hrun, hg⟩ := symOpA_lex hs1 hob1
            simp only [wantedL_sound hf hwl, if_true]
            exact .inl (oper_wp_of_gives (by rw [hf.exec hk.1 hk.2]; exact hrun) hg (next _ _ rfl (hf.putL hl1)))
theorem OneH.seq (hf : Frm n a l) (hs : List (List Orc)) (nw : List (Nat × Value)) (w' : World) (ob : List Prop) (li' : Array Bool) (hli : li.setIfInBounds i true = li')
    (h : evSeq P false n CellC ops.toList ((ops.toList.drop i).take 1) hs l w = some (nw ++ l, w', ob)) (hi : Nat.blt i ops.toList.length = true) (hob : AllP ob)
    (next : ∀ a' w1, w1 = w' → Frm n a' (nw ++ l) → HoldsC Cs w1 ∧ AtH P ops Q Cs fuel li' a' w1) : OneH P ops Q Cs fuel li i a w := OneH.seq0 hf hs _ w' ob li' hli h hi hob next
theorem OneH.call (hf : Frm n a l) (f : FuncId) (args : Array Value) (d : Option Nat) (li' : Array Bool) (hli : li.setIfInBounds i true = li')
    (hc : callAt P l ops.toList i = some (f, args, d)) {R : Ending → World → Prop} (hcall : Calls P f args w R)
    (hR : ∀ e w1, R e w1 → ∃ v, e = .returned v ∧ ∃ l', putL n l d v = some l' ∧ ∀ a', Frm n a' l' → HoldsC Cs w1 ∧ AtH P ops Q Cs fuel li' a' w1) : OneH P ops Q Cs fuel li i a w := by
  subst hli
  unfold callAt at hc
  split at hc
  · simp at hc
  · rename_i o ho
    have ho' : ops[i]? = some o := by simpa using ho
    split at hc
    · rename_i hwl hkn
      simp only [Bool.and_eq_true] at hkn
      split at hc
      · rename_i g as_ w0 os0 hs
        simp only [Option.some.injEq, Prod.mk.injEq] at hc
        obtain ⟨rfl, rfl, rfl⟩ := hc
        have hrun := (symS_rd _ hs trivial).2 w (fun _ _ h => h.elim)
        unfold OneH wpOp
        rw [ho']
        simp only [wantedL_sound hf hwl, if_true]
        refine .inl ?_
        unfold Oper.wp
        rw [hf.exec hkn.1 hkn.2, hrun]
        refine Calls.mono hcall fun e w1 he => ?_
        obtain ⟨v, rfl, l', hl', hnext⟩ := hR e w1 he
        exact hnext _ (hf.putL hl')
      · simp at hc
    · simp at hc
theorem OneH.run (hf : Frm n a l) {o : Oper} (ho : ops.toList[i]? = some o) (hk : opOk l ops.toList o = true) {nx : Next} {v : Value} {w1 : World} (li' : Array Bool) (hli : li.setIfInBounds i true = li')
    (hr : (execOp (rho l) o).run P w = .ok nx w1) (hg : Gives nx v) {l' : List (Nat × Value)} (hl : putL n l o.dst v = some l') (next : ∀ a', Frm n a' l' → HoldsC Cs w1 ∧ AtH P ops Q Cs fuel li' a' w1) : OneH P ops Q Cs fuel li i a w := by
  subst hli
  have ho' : ops[i]? = some o := by simpa using ho
  simp only [opOk, Bool.and_eq_true] at hk
  obtain ⟨⟨h1, h2⟩, h3⟩ := hk
  unfold OneH wpOp
  rw [ho']
  split at h1
  · rename_i hwl
    simp only [wantedL_sound hf hwl, if_true]
    exact .inl (oper_wp_of_gives (by rw [hf.exec h2 h3]; exact hr) hg (next _ (hf.putL hl)))
  · simp at h1
theorem store_run {t b off : Nat} {v : Value} {cs : List Value} {T : TypeId} (hbx : Bx w b cs T) (hok : storeOk P t off v cs = true) {o : Oper} {x y : Operand} (hop : o.op = .store t x y) (hx : rho l x = .pointer (some ⟨b, off, none⟩)) (hy : rho l y = v) :
    ∃ w1, (execOp (rho l) o).run P w = .ok .skip w1 ∧ w.grownBy w1 (some b) ∧ Bx w1 b (cs.take off ++ v.cells.toList ++ cs.drop (off + v.cells.toList.length)) T := by
  simp only [storeOk, Bool.and_eq_true] at hok
  obtain ⟨⟨h1, h2⟩, h3⟩ := hok
  have h1 : off + v.cells.toList.length ≤ cs.length := by simpa using h1
  split at h2
  · rename_i inf hinf
    have h2 : inf.size = v.cells.toList.length := by simpa using h2
    obtain ⟨w1, hr, hg, hb⟩ := run_storeCells (P := P) v.cells.toList off 0 hbx (by simpa using h1) (fun u hu => List.all_eq_true.1 h3 u hu)
    refine ⟨w1, ?_, hg, by simpa using hb⟩
    have hsz : v.cells.size = inf.size := by rw [h2]; simp
    simp only [execOp, hop, hx, hy, Instr.storeAt, Instr.sureAddr]
    simp [storeVar, sizeOf, typeInfo, hinf, hsz]
    simp [hr]
  · simp at h2
theorem OneH.store (hf : Frm n a l) {t b off : Nat} {v : Value} {cs : List Value} {T : TypeId} (li' : Array Bool) (hli : li.setIfInBounds i true = li')
    (hc : storeAtL l ops.toList i = some (t, .pointer (some ⟨b, off, none⟩), v)) (hbx : Bx w b cs T) (hok : storeOk P t off v cs = true)
    (next : ∀ a' w1, w.grownBy w1 (some b) → Bx w1 b (cs.take off ++ v.cells.toList ++ cs.drop (off + v.cells.toList.length)) T → Frm n a' l → HoldsC Cs w1 ∧ AtH P ops Q Cs fuel li' a' w1) : OneH P ops Q Cs fuel li i a w := by
  unfold storeAtL at hc
  split at hc
  · simp at hc
  · rename_i o ho
    split at hc
    · rename_i t' x y hok' hop hdst
      simp only [Option.some.injEq, Prod.mk.injEq] at hc
      obtain ⟨rfl, hx, hy⟩ := hc
      obtain ⟨w1, hr, hg, hb⟩ := store_run (P := P) (l := l) hbx hok hop hx hy
      exact OneH.run hf ho hok' li' hli hr (.inr ⟨rfl, rfl⟩) (by rw [hdst]; rfl) (fun a' hf' => next a' w1 hg hb hf')
    · simp at hc
end
end Go.Proofs.YtkkophhnliplhaaDoor
