/-
  Four words among the arguments, opened; the laid table as a reading. Conditions: none; plain lemmas.
-/
import Derived.Test.YtplpgfcjjnaigaaDoorRow
import Derived.Test.YtplpgfcjjnaigaaDoorWSetsP
import Derived.Deep.DeepHandedRow
import Derived.Lib.LaidTab
set_option linter.unusedVariables false
set_option linter.unusedSimpArgs false
namespace Go.Proofs.YtplpgfcjjnaigaaDoor
open Go Go.RowKit Go.ChangeShapes Go.WideShapes Go.ChangeAt
section
variable {H : Type} {enc : TypeId × Value → H} {W : World}
theorem bounds_u64 {n : Int} (h : (Lit.int IntKind.u64 n).wf = true) : W64 n := by
  simp [Lit.wf, IntKind.min, IntKind.max, IntKind.signed, IntKind.bits] at h
  refine ⟨by omega, by omega⟩
theorem okWide_array {P : Program} {w : World} {r : Reach} {base : Nat} {t e : TypeId} {n : Nat} {v : Value} (ht : P.underlying t = some (.array n e)) (h : Value.okWide P w r base t v) : ∃ cs, v = .agg cs ∧ cs.size = P.cellsOf t := by
  simp only [Value.okWide, ht] at h
  obtain ⟨cs, h1, h2, _⟩ := h
  exact ⟨cs, h1, h2⟩
theorem openW4 {P : Program} {t e : TypeId} (ht : P.underlying t = some (.array 4 e)) (he : P.underlying e = some (.int .u64)) (hcu : P.cellsOf e = 1) {b : Nat} {sp : Nat → Bool} {hd : Bool} {n : Nat} {cs : List Value} {x : DataW H × List MemPlace} (hl : cs.length = 4) (h : DataW.trod enc P W b sp hd n t cs = some x) : ∃ s : List Int, cs = s.map wV ∧ OkW s := by
  match cs, hl with
  | [v0, v1, v2, v3], _ =>
    obtain ⟨xs, m, _, _, _, _, hx⟩ := DataW.trod_array ht h
    simp only [hcu] at hx
    have each : ∀ i, i < 4 → ∃ z : Int, (([v0, v1, v2, v3] : List Value).drop (i * 1)).take 1 = [.int .u64 z] ∧ W64 z := fun i hi => by
      have h2 := hx i hi
      have hn : i < xs.length := by omega
      rw [List.getElem?_eq_getElem hn] at h2
      obtain ⟨z, e1, _, e2⟩ := DataW.trod_int he h2
      exact ⟨z, e1, bounds_u64 e2⟩
    obtain ⟨z0, e1, b0⟩ := each 0 (by omega)
    obtain ⟨z1, e2, b1⟩ := each 1 (by omega)
    obtain ⟨z2, e3, b2⟩ := each 2 (by omega)
    obtain ⟨z3, e4, b3⟩ := each 3 (by omega)
    obtain rfl : v0 = _ := by simpa using e1
    obtain rfl : v1 = _ := by simpa using e2
    obtain rfl : v2 = _ := by simpa using e3
    obtain rfl : v3 = _ := by simpa using e4
    exact ⟨[z0, z1, z2, z3], rfl, okW_lit b0 b1 b2 b3⟩
theorem openWV {P : Program} {t e : TypeId} (ht : P.underlying t = some (.array 4 e)) (he : P.underlying e = some (.int .u64)) (hcu : P.cellsOf e = 1) (hc4 : P.cellsOf t = 4) {r : Reach} {b0 : Nat} {v : Value} {d : DataW H} {b : Nat} {sp : Nat → Bool} {hd : Bool} {ps : List MemPlace} (hv : Value.okWide P W r b0 t v) (h : DataW.Trod enc P W b sp hd t v d ps) : ∃ s : List Int, v = .agg (s.map wV).toArray ∧ OkW s := by
  obtain ⟨cs, rfl, hsz⟩ := okWide_array ht hv
  obtain ⟨n, hn⟩ := h
  obtain ⟨s, e, ok⟩ := openW4 ht he hcu (show cs.toList.length = 4 by simpa [hc4] using hsz) (show DataW.trod enc P W b sp hd n t cs.toList = some _ from hn)
  exact ⟨s, congrArg Value.agg (Array.ext' (by rw [e])), ok⟩
end
theorem gTab : Tryd.prog.globalNamed "math/bits.deBruijn64tab" = some 0 := by kernel_rfl
theorem gTabType : (Tryd.prog.globals[0]?).map (·.type) = some 102 := by kernel_rfl
def tabI : List Int := Lib.deBruijn64tab.map Int.ofNat
theorem tabI_get : ∀ i, i < 64 → tabI.getD i 0 = ((Lib.deBruijn64tab.getD i 0 : Nat) : Int) := by decide +kernel
theorem rdT_of {W : World} (h : laidMetH Tryd.prog [("math/bits.deBruijn64tab", Rows.laid_math_bits_deBruijn64tab)] W) : RdT W 0 W.heap.size := by
  have ht : Lib.TabIs Tryd.prog W "math/bits.deBruijn64tab" .u8 tabI := Lib.tabIs_of_head (rest := []) gTab gTabType Tryd.underlying102 Tryd.underlying5 (by kernel_rfl) (by kernel_rfl) h
  intro i q hi hq
  obtain rfl : q = 0 := by omega
  have hc := ht.cell gTab i (by show i < 64; exact hi)
  refine ⟨⟨0, 0, none⟩, rfl, Nat.zero_le _, (show (⟨0, i, none⟩ : Addr).block < W.heap.size from World.block_lt_of_cell? _ _ hc), ?_⟩
  have ea : ((⟨0, 0, none⟩ : Addr).add (i * 1)).add 0 = ⟨0, i, none⟩ := by
    rw [add_zero, Nat.mul_one]
    simp [Addr.add]
    exact fun h => h.symm
  rw [ea, hc, tabI_get i hi]
  show _ = some (Value.int .u8 (deI ((i : Nat) : Int)))
  rw [deI, Int.toNat_natCast]
/-- A world for the witness: the settled one, the table holding what its initialiser lays. -/
noncomputable def laidWorld (os : Os) : World :=
  { World.holding Tryd.prog os ⟨#[], #[], []⟩ with heap := (World.holding Tryd.prog os ⟨#[], #[], []⟩).heap.modify 0 fun
      | .cells _ t frozen => .cells (tabI.map (Value.int .u8)).toArray t frozen
      | o => o }
end Go.Proofs.YtplpgfcjjnaigaaDoor
