/-
  Tuples among the arguments, opened. Conditions: none; plain lemmas.
-/
import Derived.Test.YtklbpajmoklheaaRow
import Derived.Test.YtklbpajmoklheaaPureBest
set_option linter.unusedVariables false
namespace Go.Proofs.Ytklbpajmoklheaa
open Go Go.RowKit Go.ChangeShapes Go.WideShapes Go.ChangeAt
section
variable {H : Type} {enc : TypeId × Value → H} {W : World}
def okI (t : Tup) : Prop := I64 t.c0 ∧ I64 t.c1 ∧ I64 t.c2 ∧ I64 t.c3
theorem openT {b : Nat} {sp : Nat → Bool} {hd : Bool} {n : Nat} {cs : List Value} {x : DataW H × List MemPlace} (h : DataW.trod enc Try.prog W b sp hd n 40 cs = some x) :
    ∃ t : Tup, cs = tupC t ∧ okI t := by
  have hcb : Try.prog.cellsOf 4 = 1 := by kernel_rfl
  have hci : Try.prog.cellsOf 3 = 1 := by kernel_rfl
  have hcA : Try.prog.cellsOf 38 = 4 := by kernel_rfl
  have hcT : Try.prog.cellsOf 40 = 5 := by kernel_rfl
  obtain ⟨y0, y1, n', rfl, hl, h0, h1⟩ := trod_struct2 Try.underlying40 h
  rw [hcT] at hl
  match cs, hl with
  | [v0, v1, v2, v3, v4], _ =>
    simp only [hcb, hcA] at h0 h1
    obtain ⟨t, e0, _⟩ := DataW.trod_bool Try.underlying4 h0
    obtain ⟨xs, m, _, _, _, _, hx⟩ := DataW.trod_array Try.underlying38 h1
    simp only [hci] at hx
    have each : ∀ i, i < 4 → ∃ z : Int, (([v1, v2, v3, v4] : List Value).drop (i * 1)).take 1 = [.int .i64 z] ∧ I64 z := fun i hi => by
      have h2 := hx i hi
      have hn : i < xs.length := by omega
      rw [List.getElem?_eq_getElem hn] at h2
      obtain ⟨z, e1, _, e2⟩ := DataW.trod_int Try.underlying3 h2
      exact ⟨z, e1, bounds_i64 e2⟩
    obtain ⟨z0, e1, b0⟩ := each 0 (by omega)
    obtain ⟨z1, e2, b1⟩ := each 1 (by omega)
    obtain ⟨z2, e3, b2⟩ := each 2 (by omega)
    obtain ⟨z3, e4, b3⟩ := each 3 (by omega)
    obtain rfl : v0 = _ := by simpa using e0
    obtain rfl : v1 = _ := by simpa using e1
    obtain rfl : v2 = _ := by simpa using e2
    obtain rfl : v3 = _ := by simpa using e3
    obtain rfl : v4 = _ := by simpa using e4
    exact ⟨⟨t, z0, z1, z2, z3⟩, rfl, b0, b1, b2, b3⟩
theorem openTV {r : Reach} {b0 : Nat} {v : Value} {d : DataW H} {b : Nat} {sp : Nat → Bool} {hd : Bool} {ps : List MemPlace} (hv : Value.okWide Try.prog W r b0 40 v) (h : DataW.Trod enc Try.prog W b sp hd 40 v d ps) : ∃ t : Tup, v = tupV t ∧ okI t := by
  obtain ⟨cs, rfl, _⟩ := okWide_struct Try.underlying40 hv
  obtain ⟨n, hn⟩ := h
  obtain ⟨t, e, ok⟩ := openT hn
  refine ⟨t, ?_, ok⟩
  have e : cs.toList = tupC t := e
  unfold tupV
  congr 1
  exact Array.ext' (by rw [e]; rfl)
theorem gT_mem {l : List Tup} (h : ∀ t ∈ l, okI t) (i : Int) : okI (gT l i) := by
  simp only [gT, gA, List.getD_eq_getElem?_getD]
  cases e : l[i.toNat]? with
  | none => exact ⟨⟨by decide, by decide⟩, ⟨by decide, by decide⟩, ⟨by decide, by decide⟩, ⟨by decide, by decide⟩⟩
  | some t => exact h t (List.mem_of_getElem? e)
theorem okL_of {l : List Tup} (h : ∀ t ∈ l, okI t) : okL l := fun i => by
  obtain ⟨a, b, c, d⟩ := gT_mem h i
  exact ⟨a.1, b.1, c.1, d.1⟩
theorem openTT {n : Nat} {cs : List Value} {x : DataW H × List MemPlace} (h : DataW.trod enc Try.prog W 0 (fun _ => true) true n 48 cs = some x) (hf : Fits Try.prog 48 x.1) :
    ∃ A c, ∃ l : List Tup, cs = [.slice A l.length c] ∧ l.length ≤ c ∧ RdR W 0 W.heap.size A l ∧ ∀ t ∈ l, okI t := by
  have hcT : Try.prog.cellsOf 40 = 5 := by kernel_rfl
  have hbT : Try.prog.bytesOf 40 = 40 := by kernel_rfl
  rcases Go.Deep.open_slice Try.underlying48 h with ⟨rfl, rfl⟩ | ⟨a, len, cap, m, n', D, Pl, rfl, _, hle, hm, hmm, rfl, hx⟩
  · exact ⟨none, 0, [], rfl, Nat.le_refl _, rdR_nil, fun z hz => by cases hz⟩
  · simp only [if_true] at hmm
    subst hmm
    obtain ⟨h1, _⟩ := fits_slice Try.underlying48 hf
    rw [hbT] at h1
    simp only [List.length_map, List.length_range, reachBytes] at h1
    have each : ∀ r, r < len → ∃ t : Tup, W.cells? 0 (a.add (r * 5)) 5 = some (tupC t) ∧ okI t := fun r hr => by
      obtain ⟨cs', e1, e2⟩ := hx r (by omega)
      obtain ⟨t, rfl, ok⟩ := openT e2
      rw [hcT] at e1
      exact ⟨t, e1, ok⟩
    haveI : Inhabited Tup := ⟨tup0⟩
    obtain ⟨y, hy⟩ := Go.Deep.choose_lt each
    have hget : ∀ i, i < len → ((List.range len).map y).getD i Enc.d = y i := fun i hi => by
      simp only [List.getD_eq_getElem?_getD, List.getElem?_map, List.getElem?_range hi, Option.map_some, Option.getD_some]
    refine ⟨some a, m, (List.range len).map y, by simp, by simpa using hle, ⟨by simp only [List.length_map, List.length_range, Enc.bytes]; omega, fun i q hi hq => ?_⟩, fun t ht => ?_⟩
    · simp only [List.length_map, List.length_range] at hi
      obtain ⟨_, _, hc'⟩ := World.cells?_some (hy i hi).1
      have hq5 : q < 5 := hq
      have hq2 := hc' q hq5
      have hsome : (tupC (y i))[q]? = some ((tupC (y i)).getD q undef) := getD_some hq5
      rw [hsome] at hq2
      refine ⟨a, rfl, Nat.zero_le _, ?_, ?_⟩
      · have := World.block_lt_of_cell? _ _ hq2
        rwa [add_block, add_block] at this
      · show W.cell? ((a.add (i * 5)).add q) = some ((Enc.enc (((List.range len).map y).getD i Enc.d)).getD q undef)
        rw [hget i hi]
        exact hq2
    · obtain ⟨i, hi, rfl⟩ := List.mem_map.1 ht
      exact (hy i (by simpa using hi)).2
end
end Go.Proofs.Ytklbpajmoklheaa
