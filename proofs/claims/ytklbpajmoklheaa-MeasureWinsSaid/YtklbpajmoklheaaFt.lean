/-
  The frame of the walks, tenth part: a block that holds one array whole, as a list; its load and store as a whole and at an index. Conditions: none; plain lemmas, over any program. An operation reads one element of an array that is a value.
-/
import Derived.Test.YtklbpajmoklheaaFs
import Derived.Laws.Cells
set_option linter.unusedVariables false
set_option linter.unusedSimpArgs false
namespace Go.Proofs.Ytklbpajmoklheaa
open Go Go.RowKit
/-- A word of 64 bits as a cell. -/
def wV (z : Int) : Value := .int .u64 z
def iV (z : Int) : Value := .int .i64 z
section
variable {P : Program} {lst : List (Nat × Value)} {ops : List Oper} {k : Nat} {w : World} {b : Nat} {T t : TypeId} {α : Type}
theorem map_get {f : α → Value} {d : α} {l : List α} {i : Nat} (hi : i < l.length) : (l.map f)[i]? = some (f (l.getD i d)) := by
  simp only [List.getElem?_map, List.getElem?_eq_getElem hi, Option.map_some, List.getD_eq_getElem?_getD, Option.getD_some]
theorem Bx.arrM {f : α → Value} {l : List α} (d : α) (h : Bx w b (l.map f) T) (i : Int) (h0 : 0 ≤ i) (h1 : i < (l.length : Int)) : w.cell? ((⟨b, 0, none⟩ : Addr).add (i.toNat * 1)) = some (f (l.getD i.toNat d)) := by
  rw [add_off, Nat.zero_add, Nat.mul_one]
  exact h.cell (map_get (by omega))
theorem Bx.whole {cs : List Value} (h : Bx w b cs T) : ∀ (j : Nat) (v : Value), cs[j]? = some v → w.cell? ((⟨b, 0, none⟩ : Addr).add j) = some v := fun j v hv => by
  rw [add_off, Nat.zero_add]
  exact h.cell hv
theorem storeArrM {f : α → Value} {l : List α} {x : α} {v : Value} {i : Int} (ha : storeAtL lst ops k = some (t, .pointer (some ((⟨b, 0, none⟩ : Addr).add (i.toNat * 1))), v)) (hv : v = f x) (hcl : v.cells.toList = [v]) (hok : storeOkX P t [v] = true) (h : Bx w b (l.map f) T) (h0 : 0 ≤ i) (h1 : i < (l.length : Int)) :
    ActOp P lst ops k w fun d' v' w1 => d' = none ∧ w.grownBy w1 (some b) ∧ Bx w1 b ((l.set i.toNat x).map f) T := by
  have hlt : i.toNat < l.length := by omega
  have hrl : (l.map f).length = l.length := List.length_map f
  unfold storeAtL at ha
  cases hop' : ops[k]? with
  | none => rw [hop'] at ha; simp at ha
  | some o =>
    rw [hop'] at ha
    simp only at ha
    split at ha
    · rename_i t' a b' hok' hop hdst
      simp only [Option.some.injEq, Prod.mk.injEq] at ha
      obtain ⟨rfl, ha1, ha2⟩ := ha
      simp only [storeOkX, Bool.and_eq_true] at hok
      obtain ⟨hk1, hk2⟩ := hok
      split at hk1
      · rename_i inf hinf
        have hk1 : inf.size = 1 := by simpa using hk1
        obtain ⟨w1, hr, hgr, hO⟩ := run_storeCells (P := P) [v] (i.toNat * 1) 0 h (by simp only [hrl, List.length_cons, List.length_nil]; omega) (fun u hu => List.all_eq_true.1 hk2 u hu)
        refine ⟨o, hop', hok', .skip, undef, w1, ?_, .inr ⟨rfl, rfl⟩, hdst, hgr, ?_⟩
        · rw [add_off, Nat.zero_add] at ha1
          have hcs : v.cells.size = 1 := by
            have := congrArg List.length hcl
            simpa using this
          simp only [execOp, hop, ha1, ha2, Instr.storeAt, Instr.sureAddr]
          simp [storeVar, sizeOf, typeInfo, hinf, hk1, hcs, hcl]
          simp only [Nat.mul_one] at hr
          rw [hr]
          rfl
        · refine hO.as ?_
          rw [List.map_set, ← hv, List.set_eq_take_append_cons_drop, if_pos (by rw [hrl]; exact hlt)]
          simp
      · simp at hk1
    · simp at ha
theorem storeBlk {cs cs' : List Value} {n : Nat} (ha : storeAtL lst ops k = some (t, .pointer (some ⟨b, 0, none⟩), .agg cs'.toArray)) (hok : (match P.info? t with | some i => Nat.beq i.size n | none => false) = true) (hn : cs'.length = n) (h1 : ∀ v ∈ cs', oneC v = true) (hl : cs'.length = cs.length) (h : Bx w b cs T) :
    ActOp P lst ops k w fun d' v' w1 => d' = none ∧ w.grownBy w1 (some b) ∧ Bx w1 b cs' T := by
  subst hn
  unfold storeAtL at ha
  cases hop' : ops[k]? with
  | none => rw [hop'] at ha; simp at ha
  | some o =>
    rw [hop'] at ha
    simp only at ha
    split at ha
    · rename_i t' a b' hok' hop hdst
      simp only [Option.some.injEq, Prod.mk.injEq] at ha
      obtain ⟨rfl, ha1, ha2⟩ := ha
      split at hok
      · rename_i inf hinf
        have hk1 : inf.size = cs'.length := by simpa using hok
        obtain ⟨w1, hr, hgr, hO⟩ := run_storeCells (P := P) cs' 0 0 h (by omega) h1
        refine ⟨o, hop', hok', .skip, undef, w1, ?_, .inr ⟨rfl, rfl⟩, hdst, hgr, ?_⟩
        · simp only [execOp, hop, ha1, ha2, Instr.storeAt, Instr.sureAddr]
          simp [storeVar, sizeOf, typeInfo, hinf, hk1, Value.cells, hr]
        · refine hO.as ?_
          simp [hl]
      · simp at hok
    · simp at ha
/-! ### Two arrays in one block -/
theorem Bx.wholeL {f : α → Value} {a c : List α} (h : Bx w b ((a ++ c).map f) T) : ∀ (j : Nat) (v : Value), (a.map f)[j]? = some v → w.cell? ((⟨b, 0, none⟩ : Addr).add j) = some v := fun j v hv =>
  h.whole j v (by
    have := (List.getElem?_eq_some_iff.1 hv).1
    rw [List.map_append, List.getElem?_append_left this]
    exact hv)
theorem Bx.wholeR {f : α → Value} {a c : List α} {n : Nat} (ha : a.length = n) (h : Bx w b ((a ++ c).map f) T) : ∀ (j : Nat) (v : Value), (c.map f)[j]? = some v → w.cell? ((⟨b, n, none⟩ : Addr).add j) = some v := fun j v hv => by
  rw [add_off]
  refine h.cell ?_
  rw [List.map_append, List.getElem?_append_right (by rw [List.length_map]; omega), List.length_map, show n + j - a.length = j by omega]
  exact hv
theorem storeBlkAt {cs cs' : List Value} {n off : Nat} (ha : storeAtL lst ops k = some (t, .pointer (some ⟨b, off, none⟩), .agg cs'.toArray)) (hok : (match P.info? t with | some i => Nat.beq i.size n | none => false) = true) (hn : cs'.length = n) (h1 : ∀ v ∈ cs', oneC v = true) (hl : off + cs'.length ≤ cs.length) (h : Bx w b cs T) :
    ActOp P lst ops k w fun d' v' w1 => d' = none ∧ w.grownBy w1 (some b) ∧ Bx w1 b (cs.take off ++ cs' ++ cs.drop (off + cs'.length)) T := by
  subst hn
  unfold storeAtL at ha
  cases hop' : ops[k]? with
  | none => rw [hop'] at ha; simp at ha
  | some o =>
    rw [hop'] at ha
    simp only at ha
    split at ha
    · rename_i t' a b' hok' hop hdst
      simp only [Option.some.injEq, Prod.mk.injEq] at ha
      obtain ⟨rfl, ha1, ha2⟩ := ha
      split at hok
      · rename_i inf hinf
        have hk1 : inf.size = cs'.length := by simpa using hok
        obtain ⟨w1, hr, hgr, hO⟩ := run_storeCells (P := P) cs' off 0 h (by omega) h1
        refine ⟨o, hop', hok', .skip, undef, w1, ?_, .inr ⟨rfl, rfl⟩, hdst, hgr, ?_⟩
        · simp only [execOp, hop, ha1, ha2, Instr.storeAt, Instr.sureAddr]
          simp [storeVar, sizeOf, typeInfo, hinf, hk1, Value.cells, hr]
        · simpa using hO
      · simp at hok
    · simp at ha
theorem storeBlkL {f : α → Value} {a c x : List α} {n : Nat} (ha : storeAtL lst ops k = some (t, .pointer (some ⟨b, 0, none⟩), .agg (x.map f).toArray)) (hok : (match P.info? t with | some i => Nat.beq i.size n | none => false) = true) (hn : (x.map f).length = n) (h1 : ∀ v ∈ x.map f, oneC v = true) (hl : x.length = a.length) (h : Bx w b ((a ++ c).map f) T) :
    ActOp P lst ops k w fun d' v' w1 => d' = none ∧ w.grownBy w1 (some b) ∧ Bx w1 b ((x ++ c).map f) T := by
  obtain ⟨o, h2, h3, nx, v, w1, h4, h5, h6, h7, h8⟩ := storeBlkAt (P := P) ha hok hn h1 (by rw [List.length_map, List.length_map, List.length_append]; omega) h
  refine ⟨o, h2, h3, nx, v, w1, h4, h5, h6, h7, h8.as ?_⟩
  rw [List.take_zero, List.nil_append, Nat.zero_add, List.length_map, hl, List.map_append, List.map_append, show a.length = (a.map f).length from (List.length_map f).symm, List.drop_left]
theorem storeBlkR {f : α → Value} {a c x : List α} {n m : Nat} (ha : storeAtL lst ops k = some (t, .pointer (some ⟨b, m, none⟩), .agg (x.map f).toArray)) (hok : (match P.info? t with | some i => Nat.beq i.size n | none => false) = true) (hn : (x.map f).length = n) (h1 : ∀ v ∈ x.map f, oneC v = true) (hm : a.length = m) (hl : x.length = c.length) (h : Bx w b ((a ++ c).map f) T) :
    ActOp P lst ops k w fun d' v' w1 => d' = none ∧ w.grownBy w1 (some b) ∧ Bx w1 b ((a ++ x).map f) T := by
  subst hm
  obtain ⟨o, h2, h3, nx, v, w1, h4, h5, h6, h7, h8⟩ := storeBlkAt (P := P) ha hok hn h1 (by rw [List.length_map, List.length_map, List.length_append]; omega) h
  refine ⟨o, h2, h3, nx, v, w1, h4, h5, h6, h7, h8.as ?_⟩
  have e1 : ((a ++ c).map f).take a.length = a.map f := by rw [List.map_append, show a.length = (a.map f).length from (List.length_map f).symm, List.take_left]
  have e2 : ((a ++ c).map f).drop (a.length + (x.map f).length) = [] := List.drop_of_length_le (by rw [List.length_map, List.length_map, List.length_append]; omega)
  rw [e1, e2, List.append_nil, List.map_append]
/-- The cells of a block, as a list of addresses with what lies there. -/
def blkC (b : Nat) (cs : List Value) : List (Addr × Value) := (List.range cs.length).map fun j => ((⟨b, 0, none⟩ : Addr).add j, cs.getD j undef)
theorem blkC_in {cs : List Value} {j : Nat} {v : Value} (h : cs[j]? = some v) : ((⟨b, 0, none⟩ : Addr).add j, v) ∈ blkC b cs := by
  have hj := (List.getElem?_eq_some_iff.1 h).1
  refine List.mem_map.2 ⟨j, List.mem_range.2 hj, ?_⟩
  rw [List.getD_eq_getElem?_getD, h]
  rfl
theorem allP_of {γ : Type} {p : γ → Prop} : ∀ {l : List γ}, (∀ x ∈ l, p x) → AllP (l.map p)
  | [], _ => trivial
  | x :: r, h => ⟨h x List.mem_cons_self, allP_of (fun y hy => h y (List.mem_cons_of_mem _ hy))⟩
theorem allP_app {γ : Type} {p : γ → Prop} : ∀ {l r : List γ}, AllP (l.map p) → AllP (r.map p) → AllP ((l ++ r).map p)
  | [], _, _, h => h
  | x :: l, r, h, h2 => ⟨h.1, allP_app h.2 h2⟩
theorem holdsA {A B : List (Addr × Value)} (h : HoldsC A w) (h2 : HoldsC B w) : HoldsC (A ++ B) w := allP_app h h2
theorem holds_blk {cs : List Value} (h : Bx w b cs T) : HoldsC (blkC b cs) w := allP_of fun p hp => by
  obtain ⟨j, hj, rfl⟩ := List.mem_map.1 hp
  have hj := List.mem_range.1 hj
  refine h.whole j _ ?_
  rw [List.getD_eq_getElem?_getD, List.getElem?_eq_getElem hj]
  rfl
theorem ne_blk {b0 : Nat} {cs : List Value} (h : b0 ≠ b) : AllP ((blkC b0 cs).map fun p => p.1.block ≠ b) := allP_of fun p hp => by
  obtain ⟨j, hj, rfl⟩ := List.mem_map.1 hp
  rw [add_block]
  exact h
theorem neO_blk {row : Option Nat} {cs : List Value} (h : row ≠ some b) : AllP ((blkC b cs).map fun p => row ≠ some p.1.block) := allP_of fun p hp => by
  obtain ⟨j, hj, rfl⟩ := List.mem_map.1 hp
  rw [add_block]
  exact h
theorem oneB {l : List Bool} : ∀ v ∈ l.map Value.bool, oneC v = true := fun v hv => by
  obtain ⟨x, _, rfl⟩ := List.mem_map.1 hv
  rfl
theorem oneN_ {l : List Int} : ∀ v ∈ l.map iV, oneC v = true := fun v hv => by
  obtain ⟨x, _, rfl⟩ := List.mem_map.1 hv
  rfl
theorem oneW_ {l : List Int} : ∀ v ∈ l.map wV, oneC v = true := fun v hv => by
  obtain ⟨x, _, rfl⟩ := List.mem_map.1 hv
  rfl
theorem nT_blk {T : Nat → Prop} {cs : List Value} (h : ¬ T b) : AllP ((blkC b cs).map fun p => ¬ T p.1.block) := allP_of fun p hp => by
  obtain ⟨j, hj, rfl⟩ := List.mem_map.1 hp
  rw [add_block]
  exact h
theorem len8 {a c : List Int} (ha : a.length = 4) (hc : c.length = 4) : ((a ++ c).map wV).length = 8 := by rw [List.length_map, List.length_append, ha, hc]
def wholeOk (P : Program) (t n : Nat) : Bool := (match P.info? t with | some i => Nat.beq i.size n | none => false) && aggB P t
theorem results_of {fn : Func} {tmps : Array Value} {vs : List Value} (h1 : (fn.results.toList.mapM (resF tmps)).run P w = .ok vs w) : (results fn tmps).run P w = .ok (packL vs) w := by
  have e : results fn tmps = (do let vs ← fn.results.mapM (resF tmps); pure (if h : vs.size = 1 then vs[0] else .tuple vs)) := by
    unfold results
    congr 1
  rw [e, Array.mapM_eq_mapM_toList]
  have h2 : ∀ (s : Sem (List Value)) (f : List Value → Array Value), (f <$> s).run P w = (s.run P w).andThen fun a w' => .ok (f a) w' := fun s f => by
    rw [← bind_pure_comp]
    simp only [Sem.run_bind, Sem.run_pure]
  simp only [Sem.run_bind]
  rw [h2, h1]
  simp only [Result.andThen_ok, Sem.run_pure]
  congr 1
  match vs with
  | [] => rfl
  | [v] => rfl
  | u :: v :: r => simp [packL]
/-- The result is what a block holds whole. -/
theorem res_blk {fn : Func} {n m : Nat} {a : Act} {l : List (Nat × Value)} (hf : Frm n a l) {sl : Nat} {cs : List Value} (hres : fn.results.toList = [.cell sl t]) (hl : look l sl = some (.pointer (some ⟨b, 0, none⟩))) (hok : wholeOk P t m = true) (hn : cs.length = m) (hb : Bx w b cs T) : (results fn a.tmps).run P w = .ok (.agg cs.toArray) w := by
  subst hn
  refine results_of (vs := [.agg cs.toArray]) ?_
  rw [hres]
  simp only [wholeOk, Bool.and_eq_true] at hok
  obtain ⟨hk1, hk2⟩ := hok
  split at hk1
  · rename_i inf hinf
    have hk1 : inf.size = cs.length := by simpa using hk1
    have hr := run_loadCells_list (P := P) w ⟨b, 0, none⟩ cs hb.whole
    have hld : (loadVar t ⟨b, 0, none⟩).run P w = .ok (.agg cs.toArray) w := by
      unfold aggB at hk2
      split at hk2
      · rename_i hu
        simp [loadVar, isAgg, sizeOf, typeInfo, hinf, hk1, run_some_underlying hu, hr]
      · rename_i hu
        simp [loadVar, isAgg, sizeOf, typeInfo, hinf, hk1, run_some_underlying hu, hr]
      · cases hk2
    simp only [List.mapM_cons, List.mapM_nil, Sem.run_bind, resF, hf.val sl _ hl, asAddr, Sem.run_pure, Result.andThen_ok]
    rw [hld]
    rfl
  · simp at hk1
theorem retB_ {fn : Func} {R : Ending → World → Prop} {n m : Nat} {a : Act} {l : List (Nat × Value)} (hf : Frm n a l) {sl : Nat} {cs : List Value} (hres : fn.results.toList = [.cell sl t]) (hl : look l sl = some (.pointer (some ⟨b, 0, none⟩))) (hok : wholeOk P t m = true) (hn : cs.length = m) (hb : Bx w b cs T) (hR : R (.returned (.agg cs.toArray)) w) : bodyPost P fn R .ret a w := ⟨hf.defs, _, res_blk hf hres hl hok hn hb, hR⟩
theorem endB_ {fn : Func} {R : Ending → World → Prop} {n m : Nat} {a : Act} {l : List (Nat × Value)} (hf : Frm n a l) {sl : Nat} {cs : List Value} (hres : fn.results.toList = [.cell sl t]) (hl : look l sl = some (.pointer (some ⟨b, 0, none⟩))) (hok : wholeOk P t m = true) (hn : cs.length = m) (hb : Bx w b cs T) (hR : R (.returned (.agg cs.toArray)) w) : bodyPost P fn R .normal a w := ⟨hf.defs, _, res_blk hf hres hl hok hn hb, hR⟩
/-- A block's whole and a value beside it. -/
theorem res_blk2 {fn : Func} {n m : Nat} {a : Act} {l : List (Nat × Value)} (hf : Frm n a l) {sl : Nat} {cs : List Value} {q : Nat} {v : Value} (hres : fn.results.toList = [.cell sl t, .tmp q]) (hl : look l sl = some (.pointer (some ⟨b, 0, none⟩))) (hq : look l q = some v) (hok : wholeOk P t m = true) (hn : cs.length = m) (hb : Bx w b cs T) : (results fn a.tmps).run P w = .ok (.tuple #[.agg cs.toArray, v]) w := by
  subst hn
  refine results_of (vs := [.agg cs.toArray, v]) ?_
  rw [hres]
  simp only [wholeOk, Bool.and_eq_true] at hok
  obtain ⟨hk1, hk2⟩ := hok
  split at hk1
  · rename_i inf hinf
    have hk1 : inf.size = cs.length := by simpa using hk1
    have hr := run_loadCells_list (P := P) w ⟨b, 0, none⟩ cs hb.whole
    have hld : (loadVar t ⟨b, 0, none⟩).run P w = .ok (.agg cs.toArray) w := by
      unfold aggB at hk2
      split at hk2
      · rename_i hu
        simp [loadVar, isAgg, sizeOf, typeInfo, hinf, hk1, run_some_underlying hu, hr]
      · rename_i hu
        simp [loadVar, isAgg, sizeOf, typeInfo, hinf, hk1, run_some_underlying hu, hr]
      · cases hk2
    simp only [List.mapM_cons, List.mapM_nil, Sem.run_bind, resF, hf.val sl _ hl, asAddr, Sem.run_pure, Result.andThen_ok]
    rw [hld]
    simp only [Sem.run_bind, Sem.run_pure, Result.andThen_ok, hf.val q _ hq]
  · simp at hk1
theorem ret2B_ {fn : Func} {R : Ending → World → Prop} {n m : Nat} {a : Act} {l : List (Nat × Value)} (hf : Frm n a l) {sl : Nat} {cs : List Value} {q : Nat} {v : Value} (hres : fn.results.toList = [.cell sl t, .tmp q]) (hl : look l sl = some (.pointer (some ⟨b, 0, none⟩))) (hq : look l q = some v) (hok : wholeOk P t m = true) (hn : cs.length = m) (hb : Bx w b cs T) (hR : R (.returned (.tuple #[.agg cs.toArray, v])) w) : bodyPost P fn R .ret a w := ⟨hf.defs, _, res_blk2 hf hres hl hq hok hn hb, hR⟩
theorem end2B_ {fn : Func} {R : Ending → World → Prop} {n m : Nat} {a : Act} {l : List (Nat × Value)} (hf : Frm n a l) {sl : Nat} {cs : List Value} {q : Nat} {v : Value} (hres : fn.results.toList = [.cell sl t, .tmp q]) (hl : look l sl = some (.pointer (some ⟨b, 0, none⟩))) (hq : look l q = some v) (hok : wholeOk P t m = true) (hn : cs.length = m) (hb : Bx w b cs T) (hR : R (.returned (.tuple #[.agg cs.toArray, v])) w) : bodyPost P fn R .normal a w := ⟨hf.defs, _, res_blk2 hf hres hl hq hok hn hb, hR⟩
end
end Go.Proofs.Ytklbpajmoklheaa
set_option linter.unusedVariables false
namespace Go.Proofs.Ytklbpajmoklheaa
open Go Go.RowKit
theorem idxM {α : Type} (f : α → Value) {l : List α} (d : α) (i : Int) (h0 : 0 ≤ i) (h1 : i < (l.length : Int)) : ((l.map f).toArray : Array Value)[i.toNat * 1]? = some (f (l.getD i.toNat d)) := by
  have h : i.toNat < l.length := by omega
  simp [h, List.getD]
end Go.Proofs.Ytklbpajmoklheaa
