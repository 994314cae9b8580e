/-
  Plain: only the order and the parity of priorities count (law DecompHigher). No program.
-/
import Derived.Test.YtplpgfcjjnaigaaDoorPureLaw13
import Derived.Test.YtplpgfcjjnaigaaDoorPureDual
set_option linter.unusedVariables false
set_option linter.unusedSimpArgs false
namespace Go.Proofs.YtplpgfcjjnaigaaDoor
open Go Go.RowKit
/-- The highest position of a way. -/
theorem way_top {E : Int → Int → Prop} (pr : Int → Int) : ∀ {a b : Int}, Way E a b → ∃ j, Way (fun x y => E x y ∧ pr x ≤ pr j ∧ pr y ≤ pr j) a b ∧ (j = a ∨ Way (fun x y => E x y ∧ pr x ≤ pr j ∧ pr y ≤ pr j) a j) ∧ (j = b ∨ Way (fun x y => E x y ∧ pr x ≤ pr j ∧ pr y ≤ pr j) j b)
  | a, b, .one h => by
    by_cases e : pr a ≤ pr b
    · exact ⟨b, .one ⟨h, e, Int.le_refl _⟩, .inr (.one ⟨h, e, Int.le_refl _⟩), .inl rfl⟩
    · exact ⟨a, .one ⟨h, Int.le_refl _, by omega⟩, .inl rfl, .inr (.one ⟨h, Int.le_refl _, by omega⟩)⟩
  | a, c, .more (b := b) h k => by
    obtain ⟨j, h1, h2, h3⟩ := way_top pr k
    have hb : pr b ≤ pr j := by
      rcases h2 with rfl | h2
      · exact Int.le_refl _
      · obtain ⟨c2, h4⟩ := h2.src
        exact h4.2.1
    by_cases e : pr a ≤ pr j
    · refine ⟨j, .more ⟨h, e, hb⟩ h1, .inr ?_, h3⟩
      rcases h2 with rfl | h2
      · exact .one ⟨h, e, Int.le_refl _⟩
      · exact .more ⟨h, e, hb⟩ h2
    · have h4 : Way (fun x y => E x y ∧ pr x ≤ pr a ∧ pr y ≤ pr a) b c := h1.mono (fun x y h => ⟨h.1, by omega, by omega⟩)
      have h5 : Way (fun x y => E x y ∧ pr x ≤ pr a ∧ pr y ≤ pr a) a c := .more ⟨h, Int.le_refl _, by omega⟩ h4
      exact ⟨a, h5, .inl rfl, .inr h5⟩
theorem round_at {E : Int → Int → Prop} (pr : Int → Int) {i : Int} (h : Way E i i) : ∃ j, pr i ≤ pr j ∧ Way (fun x y => E x y ∧ pr x ≤ pr j ∧ pr y ≤ pr j) j j := by
  obtain ⟨j, h1, h2, h3⟩ := way_top pr h
  have hi : pr i ≤ pr j := by
    obtain ⟨c, hc⟩ := h1.src
    exact hc.2.1
  rcases h2 with rfl | h2
  · exact ⟨j, hi, h1⟩
  · rcases h3 with rfl | h3
    · exact ⟨j, hi, h1⟩
    · exact ⟨j, hi, h3.trans h2⟩
/-- Priorities of the same parities that do not turn the order round. -/
theorem win_prio {g : GameL} {I W : Int → Prop} {p : Int} {f : Int → Int} {xs : List Int} (h : WinT g I p f W) (hp : ∀ i, W i → gI xs i % 2 = gI g.pr i % 2) (hle : ∀ i j, W i → W j → gI g.pr i ≤ gI g.pr j → gI xs i ≤ gI xs j) : WinT ⟨g.ow, xs, g.mv⟩ I p f W := by
  refine ⟨h.sub, h.own, h.oth, fun i hi e hw => ?_⟩
  obtain ⟨j, h0, hj⟩ := round_at (fun x => gI g.pr x) hw
  obtain ⟨c, hc⟩ := hj.src
  have hWj : W j := hc.1.1.1
  have h1 : gI xs j ≤ gI xs i := hc.1.2.1
  have h2 := hle i j hi hWj h0
  have e2 : gI g.pr j % 2 ≠ p := by
    rw [← hp j hWj, show gI xs j = gI xs i by omega]
    exact e
  refine h.cyc j hWj e2 (hj.mono ?_)
  rintro a b ⟨⟨hs, _⟩, h5, h6⟩
  exact ⟨hs, h5, h6⟩
theorem right_pr {g : GameL} (hR : isR g = true) {xs : List Int} (hl : xs.length = g.pr.length) (hx : ∀ i : Int, 0 ≤ i → i < (g.ow.length : Int) → 0 ≤ gI xs i ∧ gI xs i ≤ 7) : isR ⟨g.ow, xs, g.mv⟩ = true := by
  have hG := isR_ok hR
  exact isR_of ⟨hl.trans hG.pl, hG.ml, hG.n0, hG.n1, hG.ow, hx, hG.ne, hG.mv, hG.up⟩
theorem sol_prio {g : GameL} (hR : isR g = true) {xs : List Int} (hl : xs.length = g.pr.length) (hx : ∀ i : Int, 0 ≤ i → i < (g.ow.length : Int) → 0 ≤ gI xs i ∧ gI xs i ≤ 7) (hp : ∀ i : Int, 0 ≤ i → i < (g.ow.length : Int) → gI xs i % 2 = gI g.pr i % 2)
    (hle : ∀ i j : Int, 0 ≤ i → i < (g.ow.length : Int) → 0 ≤ j → j < (g.ow.length : Int) → gI g.pr i ≤ gI g.pr j → gI xs i ≤ gI xs j) {l0 l1 m0 m1 k0 k1 n0 n1 : List Int} {d d2 : Int} (ha : SolveT g l0 l1 m0 m1 d) (hb : SolveT ⟨g.ow, xs, g.mv⟩ k0 k1 n0 n1 d2) : l0 = k0 ∧ l1 = k1 := by
  have hR2 := right_pr hR hl hx
  obtain ⟨s0, s1, rfl, rfl, hS⟩ := ha.right hR
  obtain ⟨t0, t1, rfl, rfl, hT⟩ := hb.right hR2
  have hs := hS.sp
  have hsp : Split ⟨g.ow, xs, g.mv⟩ g.ow.length (inP s0) (inP s1) (gI m0) (gI m1) := by
    refine ⟨hs.all, win_prio hs.w0 (fun i hi => ?_) (fun i j hi hj h => ?_), win_prio hs.w1 (fun i hi => ?_) (fun i j hi hj h => ?_)⟩
    · have hr := hs.w0.sub i hi
      exact hp i hr.1 hr.2
    · have hr := hs.w0.sub i hi
      have hr2 := hs.w0.sub j hj
      exact hle i j hr.1 hr.2 hr2.1 hr2.2 h
    · have hr := hs.w1.sub i hi
      exact hp i hr.1 hr.2
    · have hr := hs.w1.sub i hi
      have hr2 := hs.w1.sub j hj
      exact hle i j hr.1 hr.2 hr2.1 hr2.2 h
  obtain ⟨r0, r1⟩ := sol_same hR2 hT hS.ok0 hS.ok1 hsp
  rw [r0, r1]
  exact ⟨rfl, rfl⟩
/-- The least that keeps the parities. -/
def leastF (l : List Int) : Nat → Int
  | 0 => 0
  | q + 1 => if ((q : Nat) : Int) ∈ l ∧ leastF l q % 2 ≠ ((q : Nat) : Int) % 2 then leastF l q + 1 else leastF l q
def rankP (l : List Int) (p : Int) : Int := if leastF l p.toNat % 2 ≠ p % 2 then leastF l p.toNat + 1 else leastF l p.toNat
theorem leastF_b (l : List Int) : ∀ q : Nat, 0 ≤ leastF l q ∧ leastF l q ≤ (q : Int)
  | 0 => ⟨Int.le_refl _, Int.le_refl _⟩
  | q + 1 => by
    have := leastF_b l q
    unfold leastF
    split <;> omega
theorem leastF_mono (l : List Int) {a : Nat} : ∀ d : Nat, leastF l a ≤ leastF l (a + d)
  | 0 => Int.le_refl _
  | d + 1 => by
    have h1 := leastF_mono l (a := a) d
    have h2 : leastF l (a + (d + 1)) = if (((a + d : Nat) : Nat) : Int) ∈ l ∧ leastF l (a + d) % 2 ≠ ((a + d : Nat) : Int) % 2 then leastF l (a + d) + 1 else leastF l (a + d) := rfl
    rw [h2]
    split <;> omega
theorem rankP_b {l : List Int} {p : Int} (h : 0 ≤ p) : 0 ≤ rankP l p ∧ rankP l p ≤ p ∧ rankP l p % 2 = p % 2 := by
  have := leastF_b l p.toNat
  unfold rankP
  split <;> omega
theorem rankP_mono {l : List Int} {p q : Int} (h0 : 0 ≤ p) (h : p ≤ q) (hp : p ∈ l) : rankP l p ≤ rankP l q := by
  by_cases e : p = q
  · rw [e]
    exact Int.le_refl _
  · have hq : leastF l q.toNat ≤ rankP l q := by unfold rankP; split <;> omega
    have h1 := leastF_mono l (a := p.toNat + 1) (q.toNat - (p.toNat + 1))
    rw [show p.toNat + 1 + (q.toNat - (p.toNat + 1)) = q.toNat by omega] at h1
    have h2 : leastF l (p.toNat + 1) = if ((p.toNat : Nat) : Int) ∈ l ∧ leastF l p.toNat % 2 ≠ ((p.toNat : Nat) : Int) % 2 then leastF l p.toNat + 1 else leastF l p.toNat := rfl
    rw [show ((p.toNat : Nat) : Int) = p by omega] at h2
    have h3 : rankP l p = leastF l (p.toNat + 1) := by
      rw [h2]
      unfold rankP
      by_cases h4 : leastF l p.toNat % 2 ≠ p % 2
      · rw [if_pos h4, if_pos ⟨hp, h4⟩]
      · rw [if_neg h4, if_neg (fun k => h4 k.2)]
    omega
theorem least_step {l : List Int} {le q : Int} {b : Bool} (h : le = leastF l q.toNat) (a : 0 ≤ q) (hb : b = decide (q ∈ l)) : (b = true → le % 2 ≠ q % 2 → le + 1 = leastF l (q + 1).toNat) ∧ ((b = false ∨ le % 2 = q % 2) → le = leastF l (q + 1).toNat) := by
  have e : leastF l (q + 1).toNat = if q ∈ l ∧ le % 2 ≠ q % 2 then le + 1 else le := by
    rw [show (q + 1).toNat = q.toNat + 1 by omega, h]
    show (if ((q.toNat : Nat) : Int) ∈ l ∧ leastF l q.toNat % 2 ≠ ((q.toNat : Nat) : Int) % 2 then _ else _) = _
    rw [show ((q.toNat : Nat) : Int) = q by omega]
  rw [e]
  refine ⟨fun h1 h2 => ?_, fun h1 => ?_⟩
  · rw [hb, decide_eq_true_iff] at h1
    rw [if_pos ⟨h1, h2⟩]
  · rw [if_neg]
    rintro ⟨h2, h3⟩
    rcases h1 with h1 | h1
    · rw [hb, decide_eq_false_iff_not] at h1
      exact h1 h2
    · exact h3 h1
theorem in_step {l : List Int} {v m : Int} {b b2 : Bool} (h : b = decide (v ∈ l.take m.toNat)) (a : 0 ≤ m) (c : m < (l.length : Int)) (hb : b2 = (b || (gI l m == v))) : b2 = decide (v ∈ l.take (m + 1).toNat) := by
  rw [hb, h, show (m + 1).toNat = m.toNat + 1 by omega, List.take_succ_eq_append_getElem (show m.toNat < l.length by omega), gI_eq a c, Bool.eq_iff_iff]
  simp only [Bool.or_eq_true, decide_eq_true_iff, List.mem_append, List.mem_singleton, beq_iff_eq]
  constructor
  · rintro (h1 | h1)
    · exact .inl h1
    · exact .inr h1.symm
  · rintro (h1 | h1)
    · exact .inl h1
    · exact .inr h1.symm
theorem in_end {l : List Int} {v m : Int} {b : Bool} (h : b = decide (v ∈ l.take m.toNat)) (c : (l.length : Int) ≤ m) : b = decide (v ∈ l) := by rwa [List.take_of_length_le (by omega)] at h
/-- The highest of the priorities, two more. -/
def HighT (g : GameL) (hi k : Int) : Prop := 0 ≤ hi ∧ hi ≤ 9 ∧ (∀ j : Int, 0 ≤ j → j < k → gI g.pr j + 2 ≤ hi) ∧ (hi = 0 ∨ ∃ j : Int, 0 ≤ j ∧ j < k ∧ hi = gI g.pr j + 2)
theorem high_0 {g : GameL} : HighT g 0 0 := ⟨Int.le_refl _, by omega, fun j a b => by omega, .inl rfl⟩
theorem high_next {g : GameL} (hG : RightG g) {hi k : Int} (h : HighT g hi k) (a : 0 ≤ k) (b : k < (g.ow.length : Int)) : HighT g (max hi (gI g.pr k + 2)) (k + 1) := by
  obtain ⟨h1, h2, h3, h4⟩ := h
  have hp := hG.pr k a b
  refine ⟨by omega, by omega, fun j c d => ?_, ?_⟩
  · by_cases e : j = k
    · subst e
      omega
    · have := h3 j c (by omega)
      omega
  · by_cases e : hi ≤ gI g.pr k + 2
    · exact .inr ⟨k, a, by omega, by omega⟩
    · rcases h4 with h4 | ⟨j, c, d, h5⟩
      · exact .inl (by omega)
      · exact .inr ⟨j, c, by omega, by omega⟩
section
variable {g : GameL} {xs xh xk l0 l1 m0 m1 k0 k1 n0 n1 : List Int} {d d2 hi k : Int}
theorem higher_k (hR : isR g = true) (h : MapT g.pr xk (rankP g.pr) k) (hk : (g.ow.length : Int) ≤ k) (ha : SolveT g l0 l1 m0 m1 d) (hb : SolveT ⟨g.ow, xk, g.mv⟩ k0 k1 n0 n1 d2) : l0 = k0 ∧ l1 = k1 := by
  have hG := isR_ok hR
  have hpl := hG.pl
  have e : ∀ i : Int, 0 ≤ i → i < (g.ow.length : Int) → gI xk i = rankP g.pr (gI g.pr i) := fun i a b => by rw [h.2 i a (by omega), if_pos (by omega)]
  have hm : ∀ i : Int, 0 ≤ i → i < (g.ow.length : Int) → gI g.pr i ∈ g.pr := fun i a b => mem_of_gI a (by omega)
  refine sol_prio hR h.1 (fun i a b => ?_) (fun i a b => ?_) (fun i j a b c dd hle => ?_) ha hb
  · have := hG.pr i a b
    have := rankP_b (l := g.pr) (p := gI g.pr i) (by omega)
    rw [e i a b]
    omega
  · have := hG.pr i a b
    rw [e i a b]
    exact (rankP_b (by omega)).2.2
  · have := hG.pr i a b
    rw [e i a b, e j c dd]
    exact rankP_mono (by omega) hle (hm i a b)
theorem higher_h (hR : isR g = true) (h : MapT g.pr xh (fun z => z + 2) k) (hk : (g.ow.length : Int) ≤ k) (hh : HighT g hi k) (hle : hi ≤ 7) (ha : SolveT g l0 l1 m0 m1 d) (hb : SolveT ⟨g.ow, xh, g.mv⟩ k0 k1 n0 n1 d2) : l0 = k0 ∧ l1 = k1 := by
  have hG := isR_ok hR
  have hpl := hG.pl
  have e : ∀ i : Int, 0 ≤ i → i < (g.ow.length : Int) → gI xh i = gI g.pr i + 2 := fun i a b => by rw [h.2 i a (by omega), if_pos (by omega)]
  refine sol_prio hR h.1 (fun i a b => ?_) (fun i a b => ?_) (fun i j a b c dd hle => ?_) ha hb
  · have := hG.pr i a b
    have := hh.2.2.1 i a (by omega)
    rw [e i a b]
    omega
  · rw [e i a b]
    omega
  · rw [e i a b, e j c dd]
    omega
theorem higher_no (hR : isR g = true) (h : MapT g.pr xh (fun z => z + 2) k) (hk : k = (g.ow.length : Int)) (hh : HighT g hi k) (hle : 7 < hi) (hb : SolveT ⟨g.ow, xh, g.mv⟩ k0 k1 n0 n1 d2) : n0.length = 0 := by
  have hG := isR_ok hR
  have hpl := hG.pl
  rcases hb with hb | ⟨hb, _⟩
  · rw [hb.2.2.2.1]
    rfl
  · have h2 := isR_ok hb
    rcases hh.2.2.2 with h3 | ⟨j, a, b, h3⟩
    · omega
    · have h4 := h2.pr j a (by show j < (g.ow.length : Int); omega)
      have h5 : gI xh j = gI g.pr j + 2 := by rw [h.2 j a (by omega), if_pos b]
      have h6 : gI xh j ≤ 7 := h4.2
      omega
end
end Go.Proofs.YtplpgfcjjnaigaaDoor
