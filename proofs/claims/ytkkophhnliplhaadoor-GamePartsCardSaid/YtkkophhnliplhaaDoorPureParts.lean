/-
  Plain: parts, and parts of parts (law GameParts). No program.
-/
import Derived.Test.YtkkophhnliplhaaDoorPureHalf
set_option linter.unusedVariables false
set_option linter.unusedSimpArgs false
namespace Go.Proofs.YtkkophhnliplhaaDoor
open Go Go.RowKit
theorem map_gI (l : List Int) : (List.range l.length).map (fun (k : Nat) => gI l (k : Int)) = l := by
  refine List.ext_getElem (by simp) fun i h1 h2 => ?_
  rw [List.getElem_map, List.getElem_range, gI_eq (by omega) (by omega)]
  rfl
theorem ls_fullD {n : Nat} (h : n ≤ 256) : lsD (fullD (n : Int)) 256 = (List.range n).map Int.ofNat := by
  rw [ls_full _ 256 (Nat.le_refl _), show min 256 ((n : Nat) : Int).toNat = n by omega]
theorem pos_fullD {n : Nat} (h : n ≤ 256) {m : Int} (a : 0 ≤ m) (b : m < (n : Int)) : posI (fullD (n : Int)) m = m := by
  unfold posI
  rw [ls_full _ _ (by omega), List.length_map, List.length_range]
  omega
section
variable {g : GameL} {s : List Int}
theorem inT_full (hR : isR g = true) : inT g (fullW 256) = fullD ((g.ow.length : Nat) : Int) := by
  have hn := (isR_ok hR).n1
  refine list_ext (from_len _) (fullD_len _) fun j a b => ?_
  rw [gB_inT a b, from_full, gB_fullD a b, gB_fullD a b, decide_eq_true b, Bool.true_and]
theorem sub_full (hR : isR g = true) : subG g (inT g (fullW 256)) = g ∧ subB g (inT g (fullW 256)) = true := by
  have hG := isR_ok hR
  have hn := hG.n1
  have hn0 := hG.n0
  have hpl := hG.pl
  have hml := hG.ml
  rw [inT_full hR]
  have hls := ls_fullD (n := g.ow.length) (by omega)
  have hrow : ∀ i : Int, 0 ≤ i → i < (g.ow.length : Int) → subR g (fullD ((g.ow.length : Nat) : Int)) i = gL g.mv i := fun i a b => by
    unfold subR
    have hm : ∀ x ∈ gL g.mv i, 0 ≤ x ∧ x < (g.ow.length : Int) := fun x hx => row_rng hR a b hx
    rw [List.filter_eq_self.2 (fun x hx => by have := hm x hx; rw [gB_fullD (by omega) (by omega)]; exact decide_eq_true this.2)]
    conv => rhs; rw [← List.map_id (gL g.mv i)]
    exact List.map_congr_left fun x hx => pos_fullD (by omega) (hm x hx).1 (hm x hx).2
  have hall : subAll g (fullD ((g.ow.length : Nat) : Int)) = true := by
    unfold subAll
    rw [List.all_eq_true, hls]
    intro x hx
    obtain ⟨k, hk, rfl⟩ := List.mem_map.1 hx
    have hk := List.mem_range.1 hk
    have hk2 : Int.ofNat k < (g.ow.length : Int) := by show (k : Int) < _; omega
    have := hG.ne (Int.ofNat k) (Int.natCast_nonneg _) hk2
    rw [show subR g (fullD ((g.ow.length : Nat) : Int)) (Int.ofNat k) = gL g.mv (Int.ofNat k) from hrow _ (Int.natCast_nonneg _) hk2]
    cases he : (gL g.mv (Int.ofNat k)) with
    | nil => rw [he] at this; simp at this
    | cons _ _ => rfl
  obtain ⟨e1, e2, e3⟩ := sub_yes hR hall
  rw [e1, e3, hls]
  refine ⟨?_, ?_⟩
  · have h1 : ((List.range g.ow.length).map Int.ofNat).map (gI g.ow) = g.ow := by rw [List.map_map]; exact map_gI g.ow
    have h2 : ((List.range g.ow.length).map Int.ofNat).map (gI g.pr) = g.pr := by rw [List.map_map, ← hpl]; exact map_gI g.pr
    have h3 : ((List.range g.ow.length).map Int.ofNat).map (subR g (fullD ((g.ow.length : Nat) : Int))) = g.mv := by
      rw [List.map_map, ← hml]
      refine List.ext_getElem (by simp) fun i h1 h2 => ?_
      rw [List.getElem_map, List.getElem_range]
      show subR g _ ((i : Nat) : Int) = _
      rw [hml, hrow _ (by omega) (by omega), gL, List.getD_eq_getElem?_getD, Int.toNat_natCast, List.getElem?_eq_getElem h2]
      rfl
    rw [h1, h2, h3]
  · rw [List.length_map, List.length_range]
    exact decide_eq_true (by omega)
/-- No position so far is stuck. -/
def NoSt (g : GameL) (s : List Int) (k : Int) : Prop := ∀ j : Int, 0 ≤ j → j < k → gB (inT g s) j = true → hasW (rowS g s j) (leastD (fromW (rowS g s j))) = true
theorem noSt_0 : NoSt g s 0 := fun j a b => by omega
theorem noSt_next {k : Int} (h : NoSt g s k) (hk : gB (inT g s) k = false ∨ hasW (rowS g s k) (leastD (fromW (rowS g s k))) = true) : NoSt g s (k + 1) := fun j a b hj => by
  by_cases e : j = k
  · subst e
    exact hk.elim (fun h0 => by rw [h0] at hj; cases hj) id
  · exact h j a (by omega) hj
theorem mem_ls2 {l : List Bool} {z : Int} : z ∈ lsD l 256 ↔ 0 ≤ z ∧ z < 256 ∧ gB l z = true := mem_ls
theorem subR_ne {I : List Bool} {i : Int} : subR g I i ≠ [] ↔ ∃ x ∈ gL g.mv i, gB I x = true := by
  unfold subR
  rw [Ne, List.map_eq_nil_iff, List.filter_eq_nil_iff]
  constructor
  · intro h
    by_cases hx : ∃ x ∈ gL g.mv i, gB I x = true
    · exact hx
    · exact absurd (fun x hm => by have : ¬ gB I x = true := fun e => hx ⟨x, hm, e⟩; exact this) h
  · rintro ⟨x, hx, hb⟩ h
    exact h x hx hb
theorem parts_none (hR : isR g = true) (hs : OkW s) {k : Int} (h : NoSt g s k) (hk : (g.ow.length : Int) ≤ k) (hb : subB g (inT g s) = false) : inS g s = [0, 0, 0, 0] := by
  have hn := (isR_ok hR).n1
  have hall : subAll g (inT g s) = true := by
    unfold subAll
    rw [List.all_eq_true]
    intro x hx
    obtain ⟨a, b, c⟩ := mem_ls2.1 hx
    have hlt := inT_lt x a b c
    have h1 := h x a (by omega) c
    rw [hasW_from, hasD, Bool.and_eq_true] at h1
    have h2 := of_decide_eq_true h1.1
    have h3 := h1.2
    rw [gB_rowS h2.1 h2.2, Bool.and_eq_true] at h3
    have h4 : subR g (inT g s) x ≠ [] := subR_ne.2 ⟨_, of_decide_eq_true h3.1, h3.2⟩
    simpa [List.isEmpty_iff] using h4
  unfold subB subOk at hb
  rw [hR, hall, Bool.and_self, Bool.true_and] at hb
  have h5 := of_decide_eq_false hb
  refine eq_00 (inS_ok hs) fun j a b => ?_
  cases hc : gB (fromW (inS g s)) j with
  | false => rfl
  | true =>
    have : j ∈ lsD (inT g s) 256 := mem_ls2.2 ⟨a, b, hc⟩
    have := List.length_pos_of_mem this
    omega
theorem pos_lt {l : List Bool} {m m' : Int} (a : 0 ≤ m) (b : m < m') (hm : gB l m = true) : posI l m < posI l m' := by
  unfold posI
  have e : lsD l (m.toNat + 1) = lsD l m.toNat ++ [m] := by rw [lsD, show ((m.toNat : Nat) : Int) = m by omega, if_pos hm]
  obtain ⟨h1, _⟩ := ls_pre l (m.toNat + 1) (m'.toNat - (m.toNat + 1))
  rw [show m.toNat + 1 + (m'.toNat - (m.toNat + 1)) = m'.toNat by omega, e, List.length_append] at h1
  simp only [List.length_singleton] at h1
  omega
theorem ls_n (hs : True) : lsD (inT g s) 256 = lsD (inT g s) (min 256 g.ow.length) := by
  by_cases hn : 256 ≤ g.ow.length
  · rw [Nat.min_eq_left hn]
  · have := ls_to (l := inT g s) (a := ((g.ow.length : Nat) : Int)) (b := 256) (by omega) (by omega) (fun r a b => by
      rw [gB_inT (by omega) b, decide_eq_false (by omega), Bool.and_false])
    rw [Nat.min_eq_right (by omega)]
    exact this
theorem ls_le : (lsD (inT g s) 256).length ≤ g.ow.length := by
  rw [ls_n trivial]
  have := ls_len (inT g s) (min 256 g.ow.length)
  omega
theorem pairwise_gI {l : List Int} (h : l.Pairwise (· < ·)) {k : Int} (a : 0 < k) (b : k < (l.length : Int)) : gI l (k - 1) < gI l k := by
  rw [gI_eq (by omega) (by omega), gI_eq (by omega) b]
  exact List.pairwise_iff_getElem.1 h (k - 1).toNat k.toNat (by omega) (by omega) (by omega)
theorem sub_b (h : subB g (inT g s) = true) : isR g = true ∧ subAll g (inT g s) = true ∧ 0 < (lsD (inT g s) 256).length := by
  unfold subB subOk at h
  rw [Bool.and_eq_true, Bool.and_eq_true] at h
  have := of_decide_eq_true h.2
  exact ⟨h.1.1, h.1.2, by omega⟩
theorem subR_sorted (hR : isR g = true) {I : List Bool} {i : Int} (a : 0 ≤ i) (b : i < (g.ow.length : Int)) : (subR g I i).Pairwise (· < ·) := by
  unfold subR
  rw [List.pairwise_map]
  have h1 := (mv_sorted (isR_ok hR) a b).filter (fun m => gB I m)
  refine h1.imp_of_mem fun {x y} hx hy hxy => ?_
  have hx2 := List.mem_filter.1 hx
  exact pos_lt (row_rng hR a b hx2.1).1 hxy hx2.2
theorem sub_right (h : subB g (inT g s) = true) : RightG (subG g (inT g s)) := by
  obtain ⟨hR, hall, hlen⟩ := sub_b h
  have hG := isR_ok hR
  have hn := hG.n1
  obtain ⟨e1, _, _⟩ := sub_yes hR hall
  have hle := ls_le (g := g) (s := s)
  rw [e1]
  have key : ∀ i : Int, 0 ≤ i → i < ((lsD (inT g s) 256).length : Int) → 0 ≤ gI (lsD (inT g s) 256) i ∧ gI (lsD (inT g s) 256) i < (g.ow.length : Int) := fun i a b => by
    have := ls_rng a b
    exact ⟨this.1, inT_lt _ this.1 this.2.1 this.2.2⟩
  have lmap : ∀ {β : Type} (f : Int → β), (((lsD (inT g s) 256).map f).length : Int) = ((lsD (inT g s) 256).length : Int) := fun f => by rw [List.length_map]
  have hgl : ∀ i : Int, 0 ≤ i → i < ((lsD (inT g s) 256).length : Int) → gL ((lsD (inT g s) 256).map (subR g (inT g s))) i = subR g (inT g s) (gI (lsD (inT g s) 256) i) := fun i a b => by
    simp only [gL, gI, List.getD_eq_getElem?_getD, List.getElem?_map, List.getElem?_eq_getElem (show i.toNat < (lsD (inT g s) 256).length by omega), Option.map_some, Option.getD_some]
  have hmem : ∀ i : Int, 0 ≤ i → i < ((lsD (inT g s) 256).length : Int) → ∀ z ∈ subR g (inT g s) (gI (lsD (inT g s) 256) i), 0 ≤ z ∧ z < ((lsD (inT g s) 256).length : Int) := fun i a b z hz => by
    unfold subR at hz
    obtain ⟨m, hm, rfl⟩ := List.mem_map.1 hz
    have hm2 := List.mem_filter.1 hm
    have hk := key i a b
    have hr := row_rng hR hk.1 hk.2 hm2.1
    have := pos_at (l := inT g s) hr.1 (by omega) hm2.2
    exact ⟨this.1, this.2.1⟩
  refine ⟨?_, ?_, ?_, ?_, ?_, ?_, ?_, ?_, ?_⟩ <;> simp only [List.length_map]
  · omega
  · omega
  · intro i a b
    rw [gI_map a b]
    exact hG.ow _ (key i a b).1 (key i a b).2
  · intro i a b
    rw [gI_map a b]
    exact hG.pr _ (key i a b).1 (key i a b).2
  · intro i a b
    rw [hgl i a b]
    have h1 := List.all_eq_true.1 hall _ (ls_get a b)
    cases he : subR g (inT g s) (gI (lsD (inT g s) 256) i) with
    | nil => rw [he] at h1; cases h1
    | cons _ _ => simp
  · intro i a b k c d
    rw [hgl i a b] at d ⊢
    exact hmem i a b _ (mem_of_gI c d)
  · intro i a b k c d
    rw [hgl i a b] at d ⊢
    exact pairwise_gI (subR_sorted hR (key i a b).1 (key i a b).2) c d
/-- What the part tells. -/
structure PartT (g : GameL) (s : List Int) : Prop where
  r : RightG (subG g (inT g s))
  lo : (subG g (inT g s)).ow.length = (subO g (inT g s)).length
  lp : (subG g (inT g s)).pr.length = (subO g (inT g s)).length
  lm : (subG g (inT g s)).mv.length = (subO g (inT g s)).length
  eo : subO g (inT g s) = lsD (inT g s) 256
  mv : ∀ i : Int, 0 ≤ i → i < ((subO g (inT g s)).length : Int) → gL (subG g (inT g s)).mv i = subR g (inT g s) (gI (subO g (inT g s)) i)
  e : ∀ i : Int, 0 ≤ i → i < ((subO g (inT g s)).length : Int) → 0 ≤ gI (subO g (inT g s)) i ∧ gI (subO g (inT g s)) i < (g.ow.length : Int) ∧ gI (subG g (inT g s)).ow i = gI g.ow (gI (subO g (inT g s)) i) ∧ gI (subG g (inT g s)).pr i = gI g.pr (gI (subO g (inT g s)) i)
theorem part_t (h : subB g (inT g s) = true) : PartT g s := by
  obtain ⟨hR, hall, hlen⟩ := sub_b h
  obtain ⟨e1, e2, e3⟩ := sub_yes hR hall
  refine ⟨sub_right h, ?_, ?_, ?_, e2, fun i a b => ?_, fun i a b => ?_⟩
  · rw [e1, e2]; exact List.length_map _
  · rw [e1, e2]; exact List.length_map _
  · rw [e1, e2]; exact List.length_map _
  · rw [e2] at b ⊢
    rw [e1]
    simp only [gL, gI, List.getD_eq_getElem?_getD, List.getElem?_map, List.getElem?_eq_getElem (show i.toNat < (lsD (inT g s) 256).length by omega), Option.map_some, Option.getD_some]
  · rw [e2] at b ⊢
    have hx := ls_rng (l := inT g s) (k := i) a b
    refine ⟨hx.1, inT_lt _ hx.1 hx.2.1 hx.2.2, ?_, ?_⟩
    · rw [e1]; exact gI_map a b
    · rw [e1]; exact gI_map a b
theorem part_of (h : subB g (inT g s) = true) (hs : OkW s) : ofW (subO g (inT g s)) = inS g s := by
  rw [(part_t h).eo]
  exact of_list (inS_ok hs)
/-- The moves of the part, by their old numbers. -/
theorem back_row (h : subB g (inT g s) = true) {i : Int} (a : 0 ≤ i) (b : i < (g.ow.length : Int)) : (subR g (inT g s) i).map (gI (lsD (inT g s) 256)) = (gL g.mv i).filter (fun m => gB (inT g s) m) := by
  obtain ⟨hR, _, _⟩ := sub_b h
  have hn := (isR_ok hR).n1
  unfold subR
  rw [List.map_map]
  conv => rhs; rw [← List.map_id ((gL g.mv i).filter _)]
  refine List.map_congr_left fun x hx => ?_
  have hx2 := List.mem_filter.1 hx
  have hr := row_rng hR a b hx2.1
  exact (pos_at hr.1 (by omega) hx2.2).2.2
theorem back_of (h : subB g (inT g s) = true) (hs : OkW s) {i : Int} (a : 0 ≤ i) (b : i < (g.ow.length : Int)) {bk : List Int} (hb : bk = (subR g (inT g s) i).map (gI (lsD (inT g s) 256))) : ofW bk = rowS g s i := by
  rw [hb, back_row h a b]
  refine (set_iff (ofW_ok _) (rowS_ok hs _)).2 fun j c d => ?_
  rw [from_of, gB_ofD _ c d, gB_rowS c d, Bool.eq_iff_iff, decide_eq_true_iff, List.mem_filter, Bool.and_eq_true, decide_eq_true_iff]
/-! ### Parts of parts -/
/-- The places so far, by their old numbers. -/
def BothT (L : List Int) (K : List Bool) (bo : List Int) (k : Int) : Prop := bo = (lsD K k.toNat).map (gI L)
theorem both_0 {L : List Int} {K : List Bool} : BothT L K [] 0 := rfl
theorem both_yes {L : List Int} {K : List Bool} {bo : List Int} {k : Int} (h : BothT L K bo k) (a : 0 ≤ k) (hk : gB K k = true) : BothT L K (bo ++ [gI L k]) (k + 1) := by
  unfold BothT at h ⊢
  rw [← ls_yes rfl a hk, List.map_append, ← h]
  rfl
theorem both_no {L : List Int} {K : List Bool} {bo : List Int} {k : Int} (h : BothT L K bo k) (a : 0 ≤ k) (hk : gB K k = false) : BothT L K bo (k + 1) := by
  unfold BothT at h ⊢
  rw [← ls_no rfl a hk, ← h]
end
/-- What is asked of the two ways to take a part of a part. -/
structure TwiceT (g : GameL) (s v bo : List Int) : Prop where
  b : subB (subG g (inT g s)) (inT (subG g (inT g s)) v) = subB g (inT g (ofW bo))
  g_ : subG (subG g (inT g s)) (inT (subG g (inT g s)) v) = subG g (inT g (ofW bo))
  l : (subO (subG g (inT g s)) (inT (subG g (inT g s)) v)).length = (subO g (inT g (ofW bo))).length
  o : ∀ i : Int, 0 ≤ i → i < ((subO (subG g (inT g s)) (inT (subG g (inT g s)) v)).length : Int) → 0 ≤ gI (subO (subG g (inT g s)) (inT (subG g (inT g s)) v)) i ∧ gI (subO (subG g (inT g s)) (inT (subG g (inT g s)) v)) i < ((subO g (inT g s)).length : Int) ∧
    gI (subO g (inT g s)) (gI (subO (subG g (inT g s)) (inT (subG g (inT g s)) v)) i) = gI (subO g (inT g (ofW bo))) i
theorem twice_t {g : GameL} {s v bo : List Int} (h : subB g (inT g s) = true) (hs : OkW s) {k : Int} (hb : BothT (subO g (inT g s)) (inT (subG g (inT g s)) v) bo k) (hk : k = ((subO g (inT g s)).length : Int)) : TwiceT g s v bo := by
  have hP := part_t h
  obtain ⟨hR, hall, hlen⟩ := sub_b h
  have hG := isR_ok hR
  have hn := hG.n1
  have hRs := isR_of hP.r
  have eL := hP.eo
  obtain ⟨L, hL⟩ : ∃ L, L = subO g (inT g s) := ⟨_, rfl⟩
  obtain ⟨K, hK⟩ : ∃ K, K = inT (subG g (inT g s)) v := ⟨_, rfl⟩
  have hlo := hP.lo
  have hKlen : K.length = 256 := by rw [hK]; exact from_len _
  have hLs : L.Pairwise (· < ·) := by rw [hL, eL]; exact ls_lt _ _
  have hLle : L.length ≤ 256 := by rw [hL, eL]; exact ls_len _ _
  have hKL : ∀ j : Int, 0 ≤ j → j < 256 → gB K j = true → j < (L.length : Int) := fun j a b c => by
    rw [hK] at c
    have := inT_lt j a b c
    rw [hL]
    omega
  have hLr : ∀ i : Int, 0 ≤ i → i < (L.length : Int) → 0 ≤ gI L i ∧ gI L i < (g.ow.length : Int) ∧ gB (inT g s) (gI L i) = true := fun i a b => by
    rw [hL, eL] at b ⊢
    have hx := ls_rng (l := inT g s) (k := i) a b
    exact ⟨hx.1, inT_lt _ hx.1 hx.2.1 hx.2.2, hx.2.2⟩
  have hpos : ∀ m : Int, 0 ≤ m → m < (g.ow.length : Int) → gB (inT g s) m = true → 0 ≤ posI (inT g s) m ∧ posI (inT g s) m < (L.length : Int) ∧ gI L (posI (inT g s) m) = m := fun m a b c => by
    rw [hL, eL]
    exact pos_at a (by omega) c
  have hinj : ∀ i j : Int, 0 ≤ i → i < (L.length : Int) → 0 ≤ j → j < (L.length : Int) → gI L i = gI L j → i = j := fun i j a b c d e => by
    rw [gI_eq a b, gI_eq c d] at e
    rcases Int.lt_trichotomy i j with h1 | h1 | h1
    · have := List.pairwise_iff_getElem.1 hLs i.toNat j.toNat (by omega) (by omega) (by omega)
      omega
    · exact h1
    · have := List.pairwise_iff_getElem.1 hLs j.toNat i.toNat (by omega) (by omega) (by omega)
      omega
  have hposL : ∀ i : Int, 0 ≤ i → i < (L.length : Int) → posI (inT g s) (gI L i) = i := fun i a b => by
    have h1 := hLr i a b
    have h2 := hpos _ h1.1 h1.2.1 h1.2.2
    exact hinj _ _ h2.1 h2.2.1 a b h2.2.2
  -- what is taken
  have hbo : bo = (lsD K 256).map (gI L) := by
    unfold BothT at hb
    rw [← hL, ← hK] at hb
    rw [hb, hk, ← hL]
    have := ls_to (l := K) (a := (L.length : Int)) (b := 256) (by omega) (by omega) (fun r a b => by
      cases hc : gB K r with
      | false => rfl
      | true => have := hKL r (by omega) b hc; omega)
    rw [show (256 : Int).toNat = 256 from rfl] at this
    rw [this]
  obtain ⟨J, hJ⟩ : ∃ J, J = inT g (ofW bo) := ⟨_, rfl⟩
  have hJb : ∀ m : Int, 0 ≤ m → m < 256 → (gB J m = true ↔ ∃ i, i ∈ lsD K 256 ∧ gI L i = m) := fun m a b => by
    rw [hJ, gB_inT a b, from_of, gB_ofD _ a b, Bool.and_eq_true, decide_eq_true_iff, decide_eq_true_iff, hbo, List.mem_map]
    constructor
    · rintro ⟨⟨i, hi, e⟩, _⟩
      exact ⟨i, hi, e⟩
    · rintro ⟨i, hi, e⟩
      have h1 := mem_ls2.1 hi
      have h2 := hLr i h1.1 (hKL i h1.1 h1.2.1 h1.2.2)
      exact ⟨⟨i, hi, e⟩, by rw [← e]; exact h2.2.1⟩
  have hlJ : lsD J 256 = (lsD K 256).map (gI L) := by
    refine sorted_ext (ls_lt _ _) ?_ fun z => ?_
    · rw [List.pairwise_map]
      refine (ls_lt K 256).imp_of_mem fun {x y} hx hy hxy => ?_
      have h1 := mem_ls2.1 hx
      have h2 := mem_ls2.1 hy
      have h3 := hKL x h1.1 h1.2.1 h1.2.2
      have h4 := hKL y h2.1 h2.2.1 h2.2.2
      rw [gI_eq h1.1 h3, gI_eq h2.1 h4]
      exact List.pairwise_iff_getElem.1 hLs x.toNat y.toNat (by omega) (by omega) (by omega)
    · rw [mem_ls2, List.mem_map]
      constructor
      · rintro ⟨a, b, c⟩
        exact (hJb z a b).1 c
      · rintro ⟨i, hi, e⟩
        have h1 := mem_ls2.1 hi
        have h2 := hLr i h1.1 (hKL i h1.1 h1.2.1 h1.2.2)
        have hz : 0 ≤ z ∧ z < 256 := by rw [← e]; omega
        exact ⟨hz.1, hz.2, (hJb z hz.1 hz.2).2 ⟨i, hi, e⟩⟩
  -- a move stays in both ways
  have hJK : ∀ m : Int, 0 ≤ m → m < (g.ow.length : Int) → gB J m = (gB (inT g s) m && gB K (posI (inT g s) m)) := fun m a b => by
    rw [Bool.eq_iff_iff, hJb m a (by omega), Bool.and_eq_true]
    constructor
    · rintro ⟨i, hi, e⟩
      have h1 := mem_ls2.1 hi
      have h3 := hKL i h1.1 h1.2.1 h1.2.2
      have h2 := hLr i h1.1 h3
      rw [← e]
      refine ⟨h2.2.2, ?_⟩
      rw [hposL i h1.1 h3]
      exact h1.2.2
    · rintro ⟨c, d⟩
      have h2 := hpos m a b c
      exact ⟨_, mem_ls2.2 ⟨h2.1, by omega, d⟩, h2.2.2⟩
  have hpp : ∀ m : Int, 0 ≤ m → m < (g.ow.length : Int) → gB J m = true → posI K (posI (inT g s) m) = posI J m := fun m a b c => by
    have c2 := c
    rw [hJK m a b, Bool.and_eq_true] at c2
    have h2 := hpos m a b c2.1
    have h3 := pos_at (l := K) h2.1 (by omega) c2.2
    have h4 := pos_at (l := J) a (by omega) c
    -- both are the place of m in the list of J
    have e1 : gI (lsD J 256) (posI K (posI (inT g s) m)) = m := by
      rw [hlJ, gI_map h3.1 h3.2.1, h3.2.2, h2.2.2]
    have l1 : ((lsD J 256).length : Int) = ((lsD K 256).length : Int) := by rw [hlJ, List.length_map]
    rcases Int.lt_trichotomy (posI K (posI (inT g s) m)) (posI J m) with h5 | h5 | h5
    · have := ls_ne (l := J) h3.1 h5 h4.2.1
      omega
    · exact h5
    · have := ls_ne (l := J) h4.1 h5 (by omega)
      omega
  have hrow : ∀ i : Int, 0 ≤ i → i < (L.length : Int) → subR (subG g (inT g s)) K i = subR g J (gI L i) := fun i a b => by
    have h1 := hLr i a b
    have hm := hP.mv i a (by rw [← hL]; exact b)
    rw [← hL] at hm
    unfold subR at hm ⊢
    rw [hm, List.filter_map, List.map_map, List.filter_filter]
    have hf : (gL g.mv (gI L i)).filter (fun m => gB J m) = (gL g.mv (gI L i)).filter (fun m => ((fun m => gB K m) ∘ posI (inT g s)) m && gB (inT g s) m) := List.filter_congr fun x hx => by
      have hr := row_rng hR h1.1 h1.2.1 hx
      rw [hJK x hr.1 hr.2, Bool.and_comm]
      rfl
    rw [← hf]
    refine List.map_congr_left fun x hx => ?_
    have hx2 := List.mem_filter.1 hx
    have hr := row_rng hR h1.1 h1.2.1 hx2.1
    exact hpp x hr.1 hr.2 hx2.2
  have hallE : subAll (subG g (inT g s)) K = subAll g J := by
    unfold subAll
    rw [hlJ, List.all_map, Bool.eq_iff_iff, List.all_eq_true, List.all_eq_true]
    refine forall_congr' fun x => forall_congr' fun hx => ?_
    have h1 := mem_ls2.1 hx
    have h3 := hKL x h1.1 h1.2.1 h1.2.2
    rw [hrow x h1.1 h3]
    rfl
  have hll : (lsD J 256).length = (lsD K 256).length := by rw [hlJ, List.length_map]
  rw [show TwiceT g s v bo ↔ TwiceT g s v bo from Iff.rfl]
  cases hA : subAll g J with
  | false =>
    obtain ⟨a1, a2, a3⟩ := sub_no (g := g) (I := J) (.inr hA)
    obtain ⟨d1, d2, d3⟩ := sub_no (g := subG g (inT g s)) (I := K) (.inr (hallE.trans hA))
    refine ⟨?_, ?_, ?_, ?_⟩
    · rw [← hK, ← hJ, a3, d3]
    · rw [← hK, ← hJ, a1, d1]
    · rw [← hK, ← hJ, a2, d2]
    · rw [← hK, ← hJ, d2]
      intro i a b
      simp at b
      omega
  | true =>
    obtain ⟨a1, a2, a3⟩ := sub_yes (g := g) (I := J) hR hA
    obtain ⟨d1, d2, d3⟩ := sub_yes (g := subG g (inT g s)) (I := K) hRs (hallE.trans hA)
    refine ⟨?_, ?_, ?_, ?_⟩
    · rw [← hK, ← hJ, a3, d3, hll]
    · rw [← hK, ← hJ, a1, d1, hlJ, List.map_map, List.map_map, List.map_map]
      have hx : ∀ x ∈ lsD K 256, 0 ≤ x ∧ x < ((subO g (inT g s)).length : Int) := fun x hx => by
        have h1 := mem_ls2.1 hx
        have := hKL x h1.1 h1.2.1 h1.2.2
        rw [hL] at this
        exact ⟨h1.1, this⟩
      congr 1
      · refine List.map_congr_left fun x hm => ?_
        rw [(hP.e x (hx x hm).1 (hx x hm).2).2.2.1, hL]
        rfl
      · refine List.map_congr_left fun x hm => ?_
        rw [(hP.e x (hx x hm).1 (hx x hm).2).2.2.2, hL]
        rfl
      · refine List.map_congr_left fun x hm => ?_
        rw [hrow x (hx x hm).1 (by rw [hL]; exact (hx x hm).2)]
        rfl
    · rw [← hK, ← hJ, a2, d2, hll]
    · rw [← hK, ← hJ, d2, a2]
      intro i a b
      have h1 := ls_rng (l := K) (k := i) a b
      have h3 := hKL _ h1.1 h1.2.1 h1.2.2
      rw [hL] at h3
      refine ⟨h1.1, h3, ?_⟩
      rw [hlJ, gI_map a b, hL]
theorem noSt_next2 {g : GameL} {s : List Int} {k : Int} (h : NoSt g s k) (a : 0 ≤ k) (b : k < 256) (hk : (hasW (inS g s) k && !hasW (rowS g s k) (leastD (fromW (rowS g s k)))) = false) : NoSt g s (k + 1) := by
  refine noSt_next h ?_
  rw [← has_inT a b]
  cases h1 : hasW (inS g s) k with
  | false => exact .inl rfl
  | true =>
    rw [h1, Bool.true_and] at hk
    exact .inr (by simpa using hk)
theorem has_K {g : GameL} {s v : List Int} {j : Int} (a : 0 ≤ j) (b : j < 256) (c : j < ((subG g (inT g s)).ow.length : Int)) : gB (inT (subG g (inT g s)) v) j = hasW v j := by
  rw [gB_inT a b, decide_eq_true c, Bool.and_true, has_W a b]
theorem both_len {L : List Int} {K : List Bool} {bo : List Int} {k : Int} (h : BothT L K bo k) : bo.length ≤ k.toNat := by
  rw [h, List.length_map]
  exact ls_len _ _
end Go.Proofs.YtkkophhnliplhaaDoor
