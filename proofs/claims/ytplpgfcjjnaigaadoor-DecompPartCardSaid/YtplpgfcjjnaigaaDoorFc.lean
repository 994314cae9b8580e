/-
  The frame of the walks: the builtin copy on rows of ints. Conditions: none; plain lemmas, over any program.
-/
import Derived.Test.YtplpgfcjjnaigaaDoorFs
import Derived.Laws.CopyRow
set_option linter.unusedVariables false
set_option linter.unusedSimpArgs false
namespace Go.Proofs.YtplpgfcjjnaigaaDoor
open Go Go.RowKit
def copyAt (l : List (Nat × Value)) (ops : List Oper) (k : Nat) : Option (TypeId × Value × Value × Option Nat) :=
  match ops[k]? with
  | none => none
  | some o => match opOk l ops o, o.op with
    | true, .call ⟨.builtin .copy, args, tys⟩ => match args.toList, tys.toList with
      | [x, y], [t, t'] => if Nat.beq t t' = true then some (t, rho l x, rho l y, o.dst) else none
      | _, _ => none
    | _, _ => none
theorem copy_op {P : Program} {l : List (Nat × Value)} {ops : List Oper} {k : Nat} {t : TypeId} {x y : Value} {d : Nat} {w w1 : World} {m : Int} (ha : copyAt l ops k = some (t, x, y, some d)) (hr : ∀ ty, (Builtin.copy_ #[t, t] ty #[x, y]).run P w = .ok (.int .i64 m) w1)
    {R : Option Nat → Value → World → Prop} (hR : R (some d) (.int .i64 m) w1) : ActOp P l ops k w R := by
  unfold copyAt at ha
  cases ho : ops[k]? with
  | none => rw [ho] at ha; simp at ha
  | some o =>
    rw [ho] at ha
    simp only at ha
    split at ha
    · rename_i args tys hok hop
      split at ha
      · rename_i x' y' t1 t2 hargs htys
        split at ha
        · rename_i htt
          simp only [Option.some.injEq, Prod.mk.injEq] at ha
          obtain ⟨rfl, hx, hy, hd⟩ := ha
          have htt : t1 = t2 := by simpa using htt
          subst htt
          have ea : args = #[x', y'] := by cases args; simp_all
          have et : tys = #[t1, t1] := by cases tys; simp_all
          subst ea
          subst et
          refine ⟨o, ho, hok, .value (.int .i64 m), .int .i64 m, w1, ?_, .inl rfl, by rw [hd]; exact hR⟩
          unfold execOp
          simp only [hop, resolve, invoke, builtin, Sem.run_bind, Sem.run_pure, Result.andThen_ok, List.map_toArray, List.map_cons, List.map_nil, hx, hy, hr]
        · simp at ha
      · simp at ha
    · simp at ha
theorem ints_one' (l : List Int) : ∀ v ∈ l.map (Value.int .i64), v.oneCell' = true := fun v hv => by
  obtain ⟨x, _, rfl⟩ := List.mem_map.1 hv
  rfl
theorem rows_ints (l : List Int) : rows l = l.map (Value.int .i64) := flatMap_one _ l
theorem map_put {l zs : List Int} {f : Int → Value} {a : Nat} (h : a + zs.length ≤ l.length) : (l.map f).take a ++ zs.map f ++ (l.map f).drop (a + (zs.map f).length) = (l.take a ++ zs ++ l.drop (a + zs.length)).map f := by
  rw [List.map_append, List.map_append, List.map_take, List.map_drop, List.length_map]
section
variable {P : Program} {l : List (Nat × Value)} {ops : List Oper} {k : Nat} {w : World} {S : Nat → Prop} {A : Option Addr} {c : Nat} {e : TypeId} {xs : List Int} {t d : Nat}
/-- Cells are put into an own row, from an element on. -/
theorem own_put {g o : Nat} {cur : Array Value} {zs : List Int} {q : Nat} (hg : w.heap[g]? = some (.cells cur e (0, 0))) (hn : xs.length ≤ c) (hc : c ≤ maxLen) (hcs : o + c * 1 ≤ cur.size) (ht : (cur.toList.drop o).take (xs.length * 1) = rows xs) (hS : S g) (hq : q + zs.length ≤ xs.length) :
    OwnR (w.setRow g (cur.toList.take (o + q) ++ zs.map (Value.int .i64) ++ cur.toList.drop (o + q + (zs.map (Value.int .i64)).length)).toArray) S (some ⟨g, o, none⟩) c e (xs.take q ++ zs ++ xs.drop (q + zs.length)) := by
  have hl : (xs.take q ++ zs ++ xs.drop (q + zs.length)).length = xs.length := by
    simp only [List.length_append, List.length_take, List.length_drop]
    omega
  unfold OwnR
  rw [hl]
  refine ⟨by rw [rows_len, hl], .inr ⟨g, o, _, rfl, hS, setRow_heap w g cur _ e _ hg, hn, hc, ?_, ?_⟩⟩
  · simp only [List.size_toArray, List.length_append, List.length_take, List.length_drop, Array.length_toList, List.length_map]
    show o + c * 1 ≤ _
    omega
  · show (List.drop o _).take (xs.length * 1) = _
    have hx : xs.map (Value.int .i64) = (cur.toList.drop o).take (xs.length * 1) := by rw [← rows_ints]; exact ht.symm
    rw [rows_ints, ← map_put (a := q) (by omega), hx]
    have hsz : cur.toList.length = cur.size := Array.length_toList
    refine List.ext_getElem? fun j => ?_
    simp only [List.getElem?_take, List.getElem?_append, List.length_append, List.length_take, List.length_drop, Array.length_toList, List.getElem?_drop, List.length_map]
    repeat' split
    all_goals first | rfl | omega | (congr 1; omega) | skip
theorem copyRd {X : Option Addr} {lo hi n m cc bytes : Nat} {ys : List Int} (ha : copyAt l ops k = some (t, .slice A n c, .slice X m cc, some d)) (hok : elemOk P t e 1 bytes = true) (h : OwnR w S A c e xs) (hs : RdI w lo hi X ys) (hn : n = xs.length) (hm : m = ys.length) :
    ActOp P l ops k w fun d' v w1 => d' = some d ∧ v = .int .i64 ((min ys.length xs.length : Nat) : Int) ∧ w.grownBy w1 (obk A) ∧ OwnR w1 S A c e (ys.take (min ys.length xs.length) ++ xs.drop (min ys.length xs.length)) := by
  subst hn hm
  simp only [elemOk, Bool.and_eq_true] at hok
  obtain ⟨⟨k1, k2⟩, k3⟩ := hok
  split at k1
  · rename_i e' hu
    have k1 : e = e' := by simpa using k1
    subst k1
    split at k2
    · rename_i i hi
      simp only [Bool.and_eq_true] at k2
      have hsz : i.size = 1 := by simpa using k2.1.2
      have hsm : (P.info? e).map (·.size) = some 1 := by rw [hi]; simp [hsz]
      rcases h.2 with ⟨rfl, h0, rfl⟩ | ⟨g, o, cur, rfl, hS, hg, hnc, hcm, hcs, ht⟩
      · have hx : xs = [] := List.length_eq_zero_iff.1 h0
        subst hx
        refine copy_op ha (w1 := w) (m := 0) (fun ty => ?_) ⟨rfl, by simp, gr_refl w _, by simpa using h⟩
        cases X <;> simp [Builtin.copy_, run_underlying hu, Builtin.lenOf, Builtin.firstCells, sizeOf, typeInfo, hi, loadCells, loadCellsFrom, goInt]
      · by_cases hy : ys = []
        · subst hy
          refine copy_op ha (w1 := w) (m := 0) (fun ty => ?_) ⟨rfl, by simp, gr_refl w _, by simpa using h⟩
          cases X <;> simp [Builtin.copy_, run_underlying hu, Builtin.lenOf, Builtin.firstCells, sizeOf, typeInfo, hi, loadCells, loadCellsFrom, storeCells, goInt]
        · obtain ⟨ad, hX, _⟩ := hs.row 0 0 (by cases ys with | nil => exact absurd rfl hy | cons _ _ => simp) (by omega)
          subst hX
          have hlen : (ys.take (min ys.length xs.length)).length = min ys.length xs.length := by rw [List.length_take]; omega
          have hr := fun ty => run_copy_row (P := P) w t t ty e g o xs.length c ad ys.length cc cur e ((ys.take (min ys.length xs.length)).map (Value.int .i64)) hu hsm hg (by rw [List.length_map, hlen]) (fun j v hv => by
            have hj := (List.getElem?_eq_some_iff.1 hv).1
            rw [List.length_map, hlen] at hj
            rw [List.getElem?_map, List.getElem?_take, if_pos hj, List.getElem?_eq_getElem (by omega)] at hv
            obtain ⟨ad', hA, _, _, hc⟩ := hs.row j 0 (by omega) (by omega)
            injection hA with hA
            subst hA
            rw [add_zero, Nat.mul_one] at hc
            rw [hc, ← hv]
            show some (Value.int .i64 (ys.getD j 0)) = _
            rw [List.getD_eq_getElem?_getD, List.getElem?_eq_getElem (show j < ys.length by omega)]
            rfl) (by rw [List.length_map, hlen]; have hcs : o + c * 1 ≤ cur.size := hcs; omega) (ints_one' _)
          have hp := own_put (S := S) (zs := ys.take (min ys.length xs.length)) (q := 0) hg hnc hcm hcs ht hS (by rw [hlen]; omega)
          refine copy_op ha hr ⟨rfl, by rw [List.length_map, hlen], ⟨rfl, rfl, rfl, by simp, fun k _ hk => setRow_other w g k _ (fun e => hk (by rw [e]; rfl))⟩, ?_⟩
          simpa [hlen] using hp
    · simp at k2
  · simp at k1
/-- A row's beginning is put behind it. -/
theorem copySelf {n q bytes : Nat} {cc : Nat} (ha : copyAt l ops k = some (t, .slice (if c = q then A else Option.map (fun a_ : Addr => a_.add (q * 1)) A) (n - q) (c - q), .slice A q cc, some d)) (hok : elemOk P t e 1 bytes = true) (h : OwnR w S A c e xs) (hn : n = xs.length) (hq : q < xs.length) :
    ActOp P l ops k w fun d' v w1 => d' = some d ∧ v = .int .i64 ((min q (xs.length - q) : Nat) : Int) ∧ w.grownBy w1 (obk A) ∧ OwnR w1 S A c e (xs.take q ++ xs.take (min q (xs.length - q)) ++ xs.drop (q + min q (xs.length - q))) := by
  subst hn
  simp only [elemOk, Bool.and_eq_true] at hok
  obtain ⟨⟨k1, k2⟩, k3⟩ := hok
  split at k1
  · rename_i e' hu
    have k1 : e = e' := by simpa using k1
    subst k1
    split at k2
    · rename_i i hi
      simp only [Bool.and_eq_true] at k2
      have hsz : i.size = 1 := by simpa using k2.1.2
      have hsm : (P.info? e).map (·.size) = some 1 := by rw [hi]; simp [hsz]
      rcases h.2 with ⟨rfl, h0, rfl⟩ | ⟨g, o, cur, rfl, hS, hg, hnc, hcm, hcs, ht⟩
      · omega
      · have hcs : o + c * 1 ≤ cur.size := hcs
        rw [if_neg (by omega)] at ha
        simp only [Option.map_some, add_plain_o, Nat.mul_one] at ha
        have hlen : (xs.take (min q (xs.length - q))).length = min q (xs.length - q) := by rw [List.length_take]; omega
        have hr := fun ty => run_copy_row (P := P) w t t ty e g (o + q) (xs.length - q) (c - q) ⟨g, o, none⟩ q cc cur e ((xs.take (min q (xs.length - q))).map (Value.int .i64)) hu hsm hg (by rw [List.length_map, hlen]) (fun j v hv => by
          have hj := (List.getElem?_eq_some_iff.1 hv).1
          rw [List.length_map, hlen] at hj
          rw [List.getElem?_map, List.getElem?_take, if_pos hj, List.getElem?_eq_getElem (by omega)] at hv
          have h2 : (rows xs)[j]? = some v := by rw [rows_ints, List.getElem?_map, List.getElem?_eq_getElem (by omega)]; exact hv
          rw [add_plain_o]
          rw [← ht, List.getElem?_take] at h2
          split at h2
          · simp only [World.cell?, hg]
            simpa using h2
          · cases h2) (by rw [List.length_map, hlen]; omega) (ints_one' _)
        have hp := own_put (S := S) (zs := xs.take (min q (xs.length - q))) (q := q) hg hnc hcm hcs ht hS (by rw [hlen]; omega)
        refine copy_op ha hr ⟨rfl, by rw [List.length_map, hlen], ⟨rfl, rfl, rfl, by simp, fun k _ hk => setRow_other w g k _ (fun e => hk (by rw [e]; rfl))⟩, ?_⟩
        rw [hlen] at hp
        exact hp
    · simp at k2
  · simp at k1
end
/-- A row of n, the first k of them v, the rest 0. -/
def RepT (v n : Int) (xs : List Int) (k : Int) : Prop := xs = List.replicate k.toNat v ++ List.replicate (n - k).toNat 0
theorem rep_len {v n k : Int} {xs : List Int} (h : RepT v n xs k) (a : 0 ≤ k) (b : k ≤ n) : xs.length = n.toNat := by
  rw [h, List.length_append, List.length_replicate, List.length_replicate]
  omega
theorem rep_0 {n : Int} {la zs : List Int} (h1 : la.length = 1) (h0 : 0 ≤ n) (hz : zs = List.replicate n.toNat (0 : Int)) : RepT (gI la 0) n (la.take (min la.length zs.length) ++ zs.drop (min la.length zs.length)) ((min la.length zs.length : Nat) : Int) := by
  subst hz
  obtain ⟨x, rfl⟩ : ∃ x, la = [x] := by
    cases la with
    | nil => simp at h1
    | cons x r => cases r with
      | nil => exact ⟨x, rfl⟩
      | cons y r => simp at h1
  unfold RepT
  simp only [List.length_singleton, List.length_replicate, List.drop_replicate]
  by_cases hn : n.toNat = 0
  · simp [hn, gI]
  · have e : min 1 n.toNat = 1 := by omega
    rw [e]
    have e2 : (n - ((1 : Nat) : Int)).toNat = n.toNat - 1 := by omega
    rw [e2]
    rfl
theorem rep_next {v n k : Int} {xs : List Int} (h : RepT v n xs k) (a : 0 ≤ k) (b : k ≤ n) : RepT v n (xs.take k.toNat ++ xs.take (min k.toNat (xs.length - k.toNat)) ++ xs.drop (k.toNat + min k.toNat (xs.length - k.toNat))) (k + ((min k.toNat (xs.length - k.toNat) : Nat) : Int)) := by
  have hl := rep_len h a b
  obtain ⟨m, hm⟩ : ∃ m, m = min k.toNat (xs.length - k.toNat) := ⟨_, rfl⟩
  rw [← hm]
  unfold RepT at h ⊢
  have e1 : xs.take k.toNat = List.replicate k.toNat v := by rw [h, List.take_left' (by simp)]
  have e2 : xs.take m = List.replicate m v := by
    rw [h, List.take_append_of_le_length (by simp; omega), List.take_replicate, Nat.min_eq_left (by omega)]
  have e3 : xs.drop (k.toNat + m) = List.replicate (n - (k + (m : Int))).toNat 0 := by
    rw [h, List.drop_append, List.length_replicate, List.drop_of_length_le (by simp), List.nil_append, List.drop_replicate]
    congr 1
    omega
  rw [e1, e2, e3, List.replicate_append_replicate]
  congr 2
  omega
theorem rep_end {v n k : Int} {xs : List Int} (h : RepT v n xs k) (a : 0 ≤ k) (b : k ≤ n) (c : n ≤ k) : xs = List.replicate n.toNat v := by
  obtain rfl : k = n := by omega
  rw [h]
  simp
theorem mask32 {n : Int} (a : 0 ≤ n) (b : n < 4294967296) : IntKind.u64.wrap (((BitVec.ofInt 64 n &&& BitVec.ofInt 64 4294967295).toNat : Nat) : Int) = n := by
  obtain ⟨m, rfl⟩ : ∃ m : Nat, n = (m : Int) := ⟨n.toNat, by omega⟩
  have e : (BitVec.ofInt 64 ((m : Nat) : Int) &&& BitVec.ofInt 64 4294967295).toNat = m := by
    rw [BitVec.toNat_and]
    have e1 : (BitVec.ofInt 64 ((m : Nat) : Int)).toNat = m := by
      rw [BitVec.toNat_ofInt]
      omega
    have e2 : (BitVec.ofInt 64 4294967295).toNat = 2 ^ 32 - 1 := by decide
    rw [e1, e2, Nat.and_two_pow_sub_one_eq_mod]
    omega
  rw [e]
  have := wu64 (x := (m : Int)) (by omega) (by omega)
  injection this
theorem shr32 {n : Int} (a : 0 ≤ n) (b : n < 4294967296) : n.fdiv (2 ^ (min (32 : Int).toNat IntKind.u64.bits)) = 0 := by
  have e : (2 : Int) ^ (min (32 : Int).toNat IntKind.u64.bits) = 4294967296 := by decide
  rw [e, Int.fdiv_eq_ediv_of_nonneg _ (by omega)]
  omega
theorem wrapM {n m : Int} (e : n = m) (a : 0 ≤ m) (b : m < 4294967296) : IntKind.u64.wrap n = m := by
  subst e
  have := wu64 (x := n) (by omega) (by omega)
  injection this
end Go.Proofs.YtplpgfcjjnaigaaDoor
