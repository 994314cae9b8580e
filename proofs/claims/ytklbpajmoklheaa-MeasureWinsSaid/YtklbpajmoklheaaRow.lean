/-
  What the rows of this seat ask, out of what a walk gives: the arguments' readings opened, the answer shut. Conditions: none; plain lemmas.
-/
import Derived.Test.YtklbpajmoklheaaRows
import Derived.Test.YtklbpajmoklheaaFs
import Derived.WalkKit
import Derived.ProofKit
import Derived.OpenShut
import Derived.JoinedCond
import Derived.Deep.Matrix
import Derived.Lib.SmallJoins
set_option linter.unusedVariables false
namespace Go.Proofs.Ytklbpajmoklheaa
open Go Go.RowKit Go.ChangeShapes Go.WideShapes Go.ChangeAt
section
variable {H : Type} {enc : TypeId × Value → H} {P : Program} {W W' : World}
theorem trodAll_stays (hl : laidOutB P = true) {sp : Nat → Bool} (hb : Below W.heap.size W W') : ∀ {ts : List TypeId} {vs : List Value} {ds : List (DataW H)} {ps : List MemPlace}, (∀ t ∈ ts, P.readableRec t = true ∧ t < P.types.size) →
    DataW.TrodAll enc P W 0 (fun _ => true) true ts vs ds ps → (∀ p ∈ ps, p.block < W.heap.size) → (∀ p ∈ ps, sp p.block = true) → DataW.TrodAll enc P W' 0 sp true ts vs ds ps
  | [], [], [], _, _, h, _, _ => h
  | _ :: _, _ :: _, _ :: _, _, hT, ⟨p, q, h1, h2, e⟩, hlt, hs => ⟨p, q, WideElems.Trod_stays hl (hT _ List.mem_cons_self).1 (hT _ List.mem_cons_self).2 h1 (fun x hx => hb.same (hlt x (by rw [e]; exact List.mem_append_left _ hx))) (fun x hx => hs x (by rw [e]; exact List.mem_append_left _ hx)),
      trodAll_stays hl hb (fun t ht => hT t (List.mem_cons_of_mem _ ht)) h2 (fun x hx => hlt x (by rw [e]; exact List.mem_append_right _ hx)) (fun x hx => hs x (by rw [e]; exact List.mem_append_right _ hx)), e⟩
theorem trodAll_len {w : World} {b : Nat} {sp : Nat → Bool} {hd : Bool} : ∀ {ts : List TypeId} {vs : List Value} {ds : List (DataW H)} {ps : List MemPlace}, DataW.TrodAll enc P w b sp hd ts vs ds ps → ds.length = ts.length
  | [], [], [], _, _ => rfl
  | _ :: _, _ :: _, _ :: _, _, ⟨_, _, _, h2, _⟩ => by simp [trodAll_len h2]
/-- A call that answers true and leaves all that stood: what a law's row asks behind it. -/
theorem law_post {f : Func} {s : ChangeSpec} {args : Array Value} {ds gs : List (DataW H)} {before : List MemPlace} (hl : laidOutB P = true) (hT : ∀ t ∈ f.params.toList, P.readableRec t = true ∧ t < P.types.size)
    (hv : s.vars = []) (hs : ∀ l : List (DataW H), l.length = f.params.size → s.fn H l = { results := [.lit (.bool true)], args := l }) {tb : TypeId} (hr : f.resultTypes = #[tb]) (htb : P.underlying tb = some .bool)
    (hW : DataW.Whole enc P f.params.toList s.vars false W args.toList ds gs before) (hE : Ext W W') :
    s.post enc P f false true false false W args (.bool true) W' := by
  have hW' := hW
  obtain ⟨p, q, hA, hV, rfl, hfz, hnd⟩ := hW
  rw [hv] at hV
  obtain ⟨rfl, rfl⟩ := trodVars_none hV
  have hlen : ds.length = f.params.size := by have := trodAll_len hA; simpa using this
  have hlt : ∀ x ∈ p, x.block < W.heap.size := fun x hx => by
    have := DataW.TrodAll.lt hA x hx
    exact this
  have e := hs (ds ++ []) (by simpa using hlen)
  refine ⟨ds, [], p ++ [], [], p, [], hW', ?_, ?_, ?_, Below.frame hE _, fun h => by cases h⟩
  · rw [e, hr]
    exact trodAll_cons_mk (shut_bool htb true) trodAll_mk0
  · rw [e]
    simp only [List.append_nil]
    exact trodAll_stays hl hE hT hA hlt (fun x hx => by simpa using hlt x hx)
  · rw [e, hv]
    rfl
/-- What weighs a datum: each slice's bytes. -/
def Fits (P : Program) (t : TypeId) (d : DataW H) : Prop := ∀ x ∈ d.weights P t, x ≤ reachBytes
theorem fits_each {t : TypeId} {ts : List TypeId} {d : DataW H} {ds : List (DataW H)} (h : ∀ x ∈ DataW.weightsEach P (t :: ts) (d :: ds), x ≤ reachBytes) : Fits P t d ∧ ∀ x ∈ DataW.weightsEach P ts ds, x ≤ reachBytes := by
  simp only [DataW.weightsEach, List.mem_append] at h
  exact ⟨fun x hx => h x (.inl hx), fun x hx => h x (.inr hx)⟩
theorem fits_all {e : TypeId} : ∀ {l : List (DataW H)}, (∀ x ∈ DataW.weightsAll P e l, x ≤ reachBytes) → ∀ d ∈ l, Fits P e d
  | [], _, _, hd => by cases hd
  | d :: r, h, d', hd => by
    simp only [DataW.weightsAll, List.mem_append] at h
    rcases List.mem_cons.1 hd with rfl | hd
    · exact fun x hx => h x (.inl hx)
    · exact fits_all (fun x hx => h x (.inr hx)) d' hd
theorem fits_slice {t e : TypeId} {el sp : List (DataW H)} (ht : P.underlying t = some (.slice e)) (h : Fits P t (.slice el sp)) : (el.length + sp.length) * P.bytesOf e ≤ reachBytes ∧ ∀ d ∈ el, Fits P e d := by
  simp only [Fits, DataW.weights, ht, List.mem_cons, List.mem_append] at h
  exact ⟨h _ (.inl rfl), fits_all (fun x hx => h x (.inr (.inl hx)))⟩
theorem fits_struct {t : TypeId} {fs : Array Field} {ps : List (DataW H)} (ht : P.underlying t = some (.struct fs)) (h : Fits P t (.agg ps)) : ∀ x ∈ DataW.weightsEach P (fs.toList.map (·.type)) ps, x ≤ reachBytes := by
  simp only [Fits, DataW.weights, ht] at h
  exact h
/-- An int of 64 bits. -/
def I64 (z : Int) : Prop := -9223372036854775808 ≤ z ∧ z ≤ 9223372036854775807
theorem getD_take {l : List Int} {n i : Nat} (h : i < n) : (l.take n).getD i 0 = l.getD i 0 := by
  simp only [List.getD_eq_getElem?_getD, List.getElem?_take, if_pos h]
theorem bulk_one (d : DataW H) : 1 ≤ Rows.uptoBulk d := by
  cases d with
  | lit l => cases l <;> simp [Rows.uptoBulk]
  | _ => simp [Rows.uptoBulk]
theorem bulk_len : ∀ l : List (DataW H), l.length ≤ Rows.uptoBulkAll l
  | [] => Nat.zero_le _
  | x :: r => by
    have := bulk_one x
    have := bulk_len r
    simp only [Rows.uptoBulkAll, List.length_cons]
    omega
theorem bulk_slice (el sp : List (DataW H)) : el.length ≤ Rows.uptoBulk (.slice el sp) := by
  have := bulk_len el
  simp only [Rows.uptoBulk]
  omega
theorem bulk_in {d : DataW H} : ∀ {l : List (DataW H)}, d ∈ l → Rows.uptoBulk d ≤ Rows.uptoBulkAll l
  | [], h => by cases h
  | x :: r, h => by
    simp only [Rows.uptoBulkAll]
    rcases List.mem_cons.1 h with rfl | h
    · omega
    · have := bulk_in h
      omega
/-- A slice of ints, opened. -/
theorem openI {t e : TypeId} (ht : P.underlying t = some (.slice e)) (he : P.underlying e = some (.int .i64)) (hc : P.cellsOf e = 1) (hb : P.bytesOf e = 8) {n : Nat} {cs : List Value} {x : DataW H × List MemPlace}
    (h : DataW.trod enc P W 0 (fun _ => true) true n t cs = some x) (hf : Fits P t x.1) : ∃ A l c, cs = [.slice A l.length c] ∧ l.length ≤ c ∧ RdI W 0 W.heap.size A l ∧ (∀ z ∈ l, I64 z) ∧ l.length ≤ Rows.uptoBulk x.1 := by
  rcases open_ints ht he hc h with ⟨rfl, rfl⟩ | ⟨a, len, cap, zs, rfl, _, hle, hm, hz, rfl, hcell, hw⟩
  · exact ⟨none, [], 0, rfl, Nat.le_refl _, rdI_nil, (fun z hz => by cases hz), Nat.zero_le _⟩
  · simp only [if_true] at hz
    have h1 := (fits_slice ht hf).1
    rw [hb] at h1
    simp only [lits, List.length_map, List.length_take, List.length_drop, reachBytes] at h1
    have hlen : (zs.take len).length = len := by rw [List.length_take]; omega
    refine ⟨some a, zs.take len, cap, by rw [hlen], by omega, ⟨by omega, fun i q hi hq => ?_⟩, fun z hz' => ?_, ?_⟩
    · obtain rfl : q = 0 := by omega
      have hc' := hcell i (by omega)
      refine ⟨a, rfl, Nat.zero_le _, ?_, ?_⟩
      · have := World.block_lt_of_cell? _ _ hc'
        rwa [add_block] at this
      · rw [add_zero, Nat.mul_one, hc']
        show some _ = some (Value.int .i64 ((zs.take len).getD i 0))
        rw [getD_take (by omega)]
    · have := bounds_i64 (hw z (List.mem_of_mem_take hz'))
      exact this
    · have := bulk_slice (H := H) (lits .i64 (zs.take len)) (lits .i64 (zs.drop len))
      simpa [lits] using this
/-- A slice of slices of ints, opened. -/
theorem openII {t e q : TypeId} (ht : P.underlying t = some (.slice e)) (he : P.underlying e = some (.slice q)) (hq : P.underlying q = some (.int .i64)) (ce : P.cellsOf e = 1) (cq : P.cellsOf q = 1) (be : P.bytesOf e = 24) (bq : P.bytesOf q = 8) {n : Nat} {cs : List Value} {x : DataW H × List MemPlace}
    (h : DataW.trod enc P W 0 (fun _ => true) true n t cs = some x) (hf : Fits P t x.1) : ∃ A l c, cs = [.slice A l.length c] ∧ l.length ≤ c ∧ RdII W 0 W.heap.size A l ∧ (∀ r ∈ l, ∀ z ∈ r, I64 z) ∧ l.length ≤ Rows.uptoBulk x.1 := by
  rcases Go.Deep.open_slice1 ht ce h with ⟨rfl, rfl⟩ | ⟨a, len, cap, m, n', V, D, Pl, rfl, _, hle, hm, hmm, rfl, hx⟩
  · exact ⟨none, [], 0, rfl, Nat.le_refl _, rdII_nil, (fun z hz => by cases hz), Nat.zero_le _⟩
  · simp only [if_true] at hmm
    subst hmm
    obtain ⟨h1, h2⟩ := fits_slice ht hf
    rw [be] at h1
    simp only [List.length_map, List.length_range, reachBytes] at h1
    have each : ∀ r, r < len → ∃ y : Option Addr × List Int × Nat, V r = .slice y.1 y.2.1.length y.2.2 ∧ y.2.1.length ≤ y.2.2 ∧ RdI W 0 W.heap.size y.1 y.2.1 ∧ ∀ z ∈ y.2.1, I64 z := fun r hr => by
      obtain ⟨A, l, c, e1, e2, e3, e4, _⟩ := openI he hq cq bq (hx r (by omega)).2 (h2 (D r) (List.mem_map.2 ⟨r, by simpa using hr, rfl⟩))
      exact ⟨(A, l, c), by simpa using e1, e2, e3, e4⟩
    obtain ⟨y, hy⟩ := Go.Deep.choose_lt each
    have hget : ∀ i, i < len → ((List.range len).map fun r => (y r).2.1).getD i [] = (y i).2.1 := fun i hi => by
      simp only [List.getD_eq_getElem?_getD, List.getElem?_map, List.getElem?_range hi, Option.map_some, Option.getD_some]
    refine ⟨some a, (List.range len).map fun r => (y r).2.1, m, by simp, by simpa using hle, ⟨by simp; omega, fun r => (y r).1, fun r => (y r).2.2, fun i q hi hq => ?_, fun i hi => ?_⟩, fun r hr => ?_, ?_⟩
    · obtain rfl : q = 0 := by omega
      simp only [List.length_map, List.length_range] at hi
      have hc' := (hx i (by omega)).1
      refine ⟨a, rfl, Nat.zero_le _, ?_, ?_⟩
      · have := World.block_lt_of_cell? _ _ hc'
        rwa [add_block] at this
      · rw [add_zero, Nat.mul_one, hc', (hy i hi).1]
        show _ = some (Value.slice _ (((List.range len).map fun r => (y r).2.1).getD i []).length _)
        rw [hget i hi]
    · simp only [List.length_map, List.length_range] at hi
      rw [hget i hi]
      exact ⟨(hy i hi).2.1, (hy i hi).2.2.1⟩
    · obtain ⟨i, hi, rfl⟩ := List.mem_map.1 hr
      exact (hy i (by simpa using hi)).2.2.2
    · have := bulk_slice ((List.range len).map D) ((List.range (m - len)).map fun j => D (len + j))
      simpa using this
end
end Go.Proofs.Ytklbpajmoklheaa
