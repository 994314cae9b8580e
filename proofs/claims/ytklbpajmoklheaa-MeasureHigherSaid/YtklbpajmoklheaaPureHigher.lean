/-
  Plain: with each priority two more the least tuples are the same but for their counters' places. No program.
-/
import Derived.Test.YtklbpajmoklheaaPureBounds
set_option linter.unusedVariables false
set_option linter.unusedSectionVars false
set_option linter.unusedSimpArgs false
namespace Go.Proofs.Ytklbpajmoklheaa
open Go Go.RowKit
/-- The first k priorities are two more. -/
def PlusT (pr xs : List Int) (k : Int) : Prop := xs.length = pr.length ∧ (∀ j : Int, 0 ≤ j → j < pr.length → gI xs j = if j < k then gI pr j + 2 else gI pr j) ∧ ∀ j : Int, 0 ≤ j → j < k → gI pr j + 2 ≤ 7
theorem plus_0 {pr : List Int} : PlusT pr pr 0 := ⟨rfl, fun j a b => by rw [if_neg (by omega)], fun j a b => by omega⟩
theorem plus_at {pr xs : List Int} {k : Int} (h : PlusT pr xs k) (h0 : 0 ≤ k) (h1 : k < pr.length) : gI xs k = gI pr k := by
  rw [h.2.1 k h0 h1, if_neg (by omega)]
theorem plus_next {pr xs : List Int} {k v : Int} (h : PlusT pr xs k) (h0 : 0 ≤ k) (h1 : k < pr.length) (hv : v = gI pr k + 2) (h7 : v ≤ 7) : PlusT pr (xs.set k.toNat v) (k + 1) := by
  have hl := h.1
  refine ⟨by rw [List.length_set]; exact hl, fun j a b => ?_, fun j a b => ?_⟩
  · rw [gI_set h0 (by omega) a]
    by_cases e : k = j
    · subst e
      rw [if_pos rfl, if_pos (by omega), hv]
    · rw [if_neg e, h.2.1 j a b]
      by_cases e2 : j < k
      · rw [if_pos e2, if_pos (by omega)]
      · rw [if_neg e2, if_neg (by omega)]
  · by_cases e : j = k
    · subst e; omega
    · exact h.2.2 j a (by omega)
def shT (t : Tup) : Tup := ⟨t.top, 0, t.c0, t.c1, t.c2⟩
def unT (t : Tup) : Tup := ⟨t.top, t.c1, t.c2, t.c3, 0⟩
theorem odd_2 {p : Int} (h0 : 0 ≤ p) (h1 : p ≤ 5) : odd1 (p + 2) ↔ odd1 p := by
  obtain rfl | rfl | rfl | rfl | rfl | rfl : p = 0 ∨ p = 1 ∨ p = 2 ∨ p = 3 ∨ p = 4 ∨ p = 5 := by omega
  all_goals decide
theorem up_sh {n0 n1 n2 p : Int} {t : Tup} (h0 : 0 ≤ p) (h1 : p ≤ 5) (hc : t.c3 = 0) : upT 0 n0 n1 n2 (p + 2) (shT t) = shT (upT n0 n1 n2 0 p t) := by
  unfold upT
  have e1 : (shT t).top = t.top := rfl
  rw [e1]
  by_cases ht : t.top = true
  · rw [if_pos ht, if_pos ht]; rfl
  · rw [if_neg ht, if_neg ht]
    have ek : keepT (p + 2) (shT t) = shT (keepT p t) := by
      unfold keepT shT
      simp only [Tup.mk.injEq, true_and]
      refine ⟨?_, ?_, ?_, ?_⟩
      · split <;> rfl
      · by_cases h : 1 ≥ p
        · rw [if_pos h, if_pos (by omega)]
        · rw [if_neg h, if_neg (by omega)]
      · by_cases h : 3 ≥ p
        · rw [if_pos h, if_pos (by omega)]
        · rw [if_neg h, if_neg (by omega)]
      · by_cases h : 5 ≥ p
        · rw [if_pos h, if_pos (by omega)]
        · rw [if_neg h, if_neg (by omega)]
    by_cases ho : odd1 p
    · rw [if_pos ho, if_pos ((odd_2 h0 h1).2 ho), ek]
      generalize hu : keepT p t = u
      have hu3 : u.c3 = 0 := by rw [← hu]; unfold keepT; simp only; split <;> simp [hc]
      obtain ⟨b, c0, c1, c2, c3⟩ := u
      simp only at hu3
      subst hu3
      unfold incT shT
      simp only
      by_cases a0 : 1 ≥ p ∧ c0 < n0
      · rw [if_neg (by omega), if_pos (by omega), if_pos a0, if_neg (by omega)]
      · by_cases a1 : 3 ≥ p ∧ c1 < n1
        · rw [if_neg (by omega), if_neg (by omega), if_pos (by omega), if_neg a0, if_pos a1]
          simp only [Tup.mk.injEq, true_and, and_true]
          refine ⟨by split <;> rfl, ?_⟩
          by_cases h : 1 ≥ p
          · rw [if_pos h, if_pos (by omega)]
          · rw [if_neg h, if_neg (by omega)]
        · by_cases a2 : 5 ≥ p ∧ c2 < n2
          · rw [if_neg (by omega), if_neg (by omega), if_neg (by omega), if_pos (by omega), if_neg a0, if_neg a1, if_pos a2]
            simp only [Tup.mk.injEq, true_and, and_true]
            refine ⟨by split <;> rfl, ?_, ?_⟩
            · by_cases h : 1 ≥ p
              · rw [if_pos h, if_pos (by omega)]
              · rw [if_neg h, if_neg (by omega)]
            · by_cases h : 3 ≥ p
              · rw [if_pos h, if_pos (by omega)]
              · rw [if_neg h, if_neg (by omega)]
          · rw [if_neg (by omega), if_neg (by omega), if_neg (by omega), if_neg (by omega), if_neg a0, if_neg a1, if_neg a2, if_neg (by omega)]
            rfl
    · rw [if_neg ho, if_neg (fun h => ho ((odd_2 h0 h1).1 h)), ek]
theorem cmp_sh {a b : Tup} (ha : a.c3 = 0) (hb : b.c3 = 0) : cmpT (shT a) (shT b) 0 = cmpT a b 0 := by
  unfold cmpT shT
  simp only [ha, hb]
  rw [if_neg (show ¬ (7 : Int) < 0 by omega), if_neg (show ¬ (7 : Int) < 0 by omega)]
  simp only [show ¬ (5 : Int) < 0 by omega, show ¬ (3 : Int) < 0 by omega, show ¬ (1 : Int) < 0 by omega, show ¬ (0 : Int) < 0 by omega, show ¬ (0 : Int) > 0 by omega, if_false]
theorem best_sh {f f' : Int → Tup} {own : Int} {row : List Int} (h : ∀ m ∈ row, f' m = shT (f m) ∧ (f m).c3 = 0) : (bestB f' own row).1 = shT (bestB f own row).1 ∧ (bestB f' own row).2 = (bestB f own row).2 ∧ (bestB f own row).1.c3 = 0 := by
  unfold bestB
  have key : ∀ (row : List Int) (acc acc' : Tup × Int), (∀ m ∈ row, f' m = shT (f m) ∧ (f m).c3 = 0) → acc'.1 = shT acc.1 → acc'.2 = acc.2 → acc.1.c3 = 0 → (row.foldl (stepB f' own) acc').1 = shT (row.foldl (stepB f own) acc).1 ∧ (row.foldl (stepB f' own) acc').2 = (row.foldl (stepB f own) acc).2 ∧ (row.foldl (stepB f own) acc).1.c3 = 0 := by
    intro row
    induction row with
    | nil => intro acc acc' _ h1 h2 h3; exact ⟨h1, h2, h3⟩
    | cons m row ih =>
      intro acc acc' hm h1 h2 h3
      simp only [List.foldl_cons]
      obtain ⟨e1, e2⟩ := hm m List.mem_cons_self
      have hc : cmpT (f' m) acc'.1 0 = cmpT (f m) acc.1 0 := by rw [e1, h1, cmp_sh e2 h3]
      refine ih _ _ (fun x hx => hm x (List.mem_cons_of_mem _ hx)) ?_ ?_ ?_
      · unfold stepB
        rw [hc, h2]
        by_cases hC : (acc.2 < 0 ∨ (if own = 1 then cmpT (f m) acc.1 0 > 0 else cmpT (f m) acc.1 0 < 0))
        · rw [if_pos hC, if_pos hC]; exact e1
        · rw [if_neg hC, if_neg hC]; exact h1
      · unfold stepB
        rw [hc, h2]
        by_cases hC : (acc.2 < 0 ∨ (if own = 1 then cmpT (f m) acc.1 0 > 0 else cmpT (f m) acc.1 0 < 0))
        · rw [if_pos hC, if_pos hC]
        · rw [if_neg hC, if_neg hC]; exact h2
      · unfold stepB
        by_cases hC : (acc.2 < 0 ∨ (if own = 1 then cmpT (f m) acc.1 0 > 0 else cmpT (f m) acc.1 0 < 0))
        · rw [if_pos hC]; exact e2
        · rw [if_neg hC]; exact h3
  exact key row _ _ h rfl rfl rfl
theorem right_row {g : GameL} (hR : isR g = true) (j : Nat) (hj : j < g.ow.length) : rowBad g.ow.length (-1) (g.mv.getD j []) = false := by
  obtain ⟨_, _, _, _, he⟩ := right_lens' (show (rightP g).2 = 0 by simpa [isR] using hR)
  have h1 := he j hj
  unfold GameL.err posErr at h1
  by_cases hb : rowBad g.ow.length (-1) (g.mv.getD j []) = true
  · exfalso
    rw [if_pos hb] at h1
    (repeat' split at h1) <;> omega
  · exact eq_false_of_ne_true hb
section
variable {g : GameL} {xs : List Int} (hG : RightG g) (hp : PlusT g.pr xs g.pr.length)
include hG hp
theorem plus_cnt (q : Int) : cnt xs (q + 2) = cnt g.pr q := by
  have e : xs = g.pr.map (· + 2) := by
    refine List.ext_getElem (by rw [List.length_map]; exact hp.1) fun i h1 h2 => ?_
    rw [List.length_map] at h2
    have := hp.2.1 i (by omega) (by omega)
    rw [if_pos (by omega)] at this
    simp only [gI, Int.toNat_natCast, List.getD_eq_getElem?_getD, List.getElem?_eq_getElem h1, List.getElem?_eq_getElem h2, Option.getD_some] at this
    rw [this, List.getElem_map]
  rw [e]
  simp only [cnt, List.countP_map]
  congr 1
  refine List.countP_congr fun x _ => ?_
  simp only [Function.comp, beq_iff_eq]
  omega
theorem plus_cnt1 : cnt xs 1 = 0 := by
  rw [show (1 : Int) = -1 + 2 by omega, plus_cnt hG hp, cnt]
  have : g.pr.countP (· == -1) = 0 := by
    rw [List.countP_eq_zero]
    intro x hx
    obtain ⟨k, k0, k1, rfl⟩ := mem_gI hx
    have := hG.pr k k0 (by have := hG.pl; omega)
    simp only [beq_iff_eq]
    omega
  rw [this]
  rfl
theorem plus_cnt7 : cnt g.pr 7 = 0 := by
  rw [cnt]
  have : g.pr.countP (· == 7) = 0 := by
    rw [List.countP_eq_zero]
    intro x hx
    obtain ⟨k, k0, k1, rfl⟩ := mem_gI hx
    have := hp.2.2 k k0 k1
    simp only [beq_iff_eq]
    omega
  rw [this]
  rfl
theorem plus_right (hR : isR g = true) : isR (⟨g.ow, xs, g.mv⟩ : GameL) = true := by
  have hl := hp.1
  have hpl := hG.pl
  have hml := hG.ml
  have hn0 := hG.n0
  have hn1 := hG.n1
  refine right_of ?_
  rw [right_ok (G := ⟨g.ow, xs, g.mv⟩) ⟨by show xs.length = g.ow.length; omega, hml⟩ (by show ¬ (g.ow.length = 0 ∨ 200 < g.ow.length); omega) fun j hj => ?_]
  have hj : j < g.ow.length := hj
  have h1 := hG.ow j (by omega) (by omega)
  have h2 := hp.2.1 j (by omega) (by omega)
  have h3 := hp.2.2 j (by omega) (by omega)
  have h4 := hG.pr j (by omega) (by omega)
  have h5 := hG.ne j (by omega) (by omega)
  rw [if_pos (by omega)] at h2
  simp only [gI, gL, Int.toNat_natCast] at h1 h2 h3 h4 h5
  show posErr g.ow.length (g.ow.getD j 0) (xs.getD j 0) (g.mv.getD j []) = 0
  have hb : rowBad g.ow.length (-1) (g.mv.getD j []) = false := right_row hR j hj
  unfold posErr
  rw [if_neg (by omega), if_neg (by omega), if_neg (by omega), if_neg (by rw [hb]; decide)]
theorem plus_bnd3 {t : Tup} (h : BndG g t) : t.c3 = 0 := by
  have := h.c3
  rw [plus_cnt7 hG hp] at this
  omega
theorem plus_up {l : List Tup} {i m : Int} (h0 : 0 ≤ i) (h1 : i < g.ow.length) (hb : BndG g (gT l m)) (l' : List Tup) (hl : gT l' m = shT (gT l m)) :
    upG ⟨g.ow, xs, g.mv⟩ l' i m = shT (upG g l i m) ∧ (upG g l i m).c3 = 0 := by
  have hpr := hG.pr i h0 h1
  have hpl := hG.pl
  have hx := hp.2.1 i h0 (by omega)
  have h7 := hp.2.2 i h0 (by omega)
  rw [if_pos (by omega)] at hx
  have hu := up_bnd (p := gI g.pr i) hb
  have h3 := plus_bnd3 hG hp hb
  refine ⟨?_, ?_⟩
  · show upT (cnt xs 1) (cnt xs 3) (cnt xs 5) (cnt xs 7) (gI xs i) (gT l' m) = _
    rw [plus_cnt1 hG hp, show (3 : Int) = 1 + 2 by omega, show (5 : Int) = 3 + 2 by omega, show (7 : Int) = 5 + 2 by omega, plus_cnt hG hp, plus_cnt hG hp, plus_cnt hG hp, hx, hl, up_sh hpr.1 (by omega) h3]
    unfold upG
    rw [plus_cnt7 hG hp]
  · have := hu.c3
    rw [plus_cnt7 hG hp] at this
    unfold upG
    rw [plus_cnt7 hG hp]
    omega
theorem plus_lift {l l' : List Tup} {i : Int} (h0 : 0 ≤ i) (h1 : i < g.ow.length) (hb : ∀ m : Int, 0 ≤ m → m < g.ow.length → BndG g (gT l m)) (hl : ∀ m : Int, 0 ≤ m → m < g.ow.length → gT l' m = shT (gT l m)) :
    liftT ⟨g.ow, xs, g.mv⟩ l' i = shT (liftT g l i) ∧ (liftT g l i).c3 = 0 := by
  have := best_sh (f := upG g l i) (f' := upG ⟨g.ow, xs, g.mv⟩ l' i) (own := gI g.ow i) (row := gL g.mv i) (fun m hm => by
    obtain ⟨k, k0, k1, rfl⟩ := mem_gI hm
    have := hG.mv i h0 h1 k k0 k1
    exact plus_up hG hp h0 h1 (hb _ this.1 this.2) l' (hl _ this.1 this.2))
  exact ⟨this.1, this.2.2⟩
theorem plus_least {l : List Tup} (h : LeastT g l) : LeastT ⟨g.ow, xs, g.mv⟩ (l.map shT) := by
  have hl := h.bnd.1
  have hget : ∀ (l : List Tup) (i : Int), 0 ≤ i → i < l.length → gT (l.map shT) i = shT (gT l i) := fun l i a b => by
    show (l.map shT).getD i.toNat tup0 = shT (l.getD i.toNat tup0)
    rw [List.getD_eq_getElem?_getD, List.getD_eq_getElem?_getD, List.getElem?_map]
    cases l[i.toNat]? <;> rfl
  have hgu : ∀ (l : List Tup) (i : Int), gT (l.map unT) i = unT (gT l i) := fun l i => by
    show (l.map unT).getD i.toNat tup0 = unT (l.getD i.toNat tup0)
    rw [List.getD_eq_getElem?_getD, List.getD_eq_getElem?_getD, List.getElem?_map]
    cases l[i.toNat]? <;> rfl
  have bsh : ∀ t, BndG g t → BndG ⟨g.ow, xs, g.mv⟩ (shT t) := fun t ht => by
    show Bnd (cnt xs 1) (cnt xs 3) (cnt xs 5) (cnt xs 7) (shT t)
    rw [plus_cnt1 hG hp, show (3 : Int) = 1 + 2 by omega, show (5 : Int) = 3 + 2 by omega, show (7 : Int) = 5 + 2 by omega, plus_cnt hG hp, plus_cnt hG hp, plus_cnt hG hp]
    exact ⟨fun e => by rw [ht.top e]; rfl, ⟨Int.le_refl _, Int.le_refl _⟩, ht.c0, ht.c1, ht.c2⟩
  have bun : ∀ t, BndG ⟨g.ow, xs, g.mv⟩ t → BndG g (unT t) ∧ shT (unT t) = t := fun t ht => by
    have ht : Bnd (cnt xs 1) (cnt xs 3) (cnt xs 5) (cnt xs 7) t := ht
    rw [plus_cnt1 hG hp, show (3 : Int) = 1 + 2 by omega, show (5 : Int) = 3 + 2 by omega, show (7 : Int) = 5 + 2 by omega, plus_cnt hG hp, plus_cnt hG hp, plus_cnt hG hp] at ht
    refine ⟨⟨fun e => by rw [ht.top e]; rfl, ht.c1, ht.c2, ht.c3, ⟨Int.le_refl _, cnt_ge _ _⟩⟩, ?_⟩
    have h0 := ht.c0
    obtain ⟨b, c0, c1, c2, c3⟩ := t
    simp only at h0
    obtain rfl : c0 = 0 := by omega
    rfl
  refine ⟨⟨by rw [List.length_map]; exact hl, fun i a b => ?_⟩, fun i a b => ?_, fun l' hb' hp' i a b => ?_⟩
  · have b : i < (g.ow.length : Int) := b
    rw [hget l i a (by omega)]
    exact bsh _ (h.bnd.2 i a b)
  · have b : i < (g.ow.length : Int) := b
    have a1 := plus_lift hG hp (l' := l.map shT) a b h.bnd.2 (fun m c d => hget l m c (by omega))
    rw [a1.1, hget l i a (by omega)]
    unfold leT
    rw [cmp_sh a1.2 (plus_bnd3 hG hp (h.bnd.2 i a b))]
    exact h.pre i a b
  · have b : i < (g.ow.length : Int) := b
    have hbu : BndL g (l'.map unT) := ⟨by rw [List.length_map]; exact hb'.1, fun i a b => by rw [hgu]; exact (bun _ (hb'.2 i a b)).1⟩
    have hsu : ∀ m : Int, 0 ≤ m → m < g.ow.length → gT l' m = shT (gT (l'.map unT) m) := fun m c d => by rw [hgu]; exact (bun _ (hb'.2 m c d)).2.symm
    have hpu : PreT g (l'.map unT) := fun i a b => by
      have a1 := plus_lift hG hp (l' := l') a b hbu.2 hsu
      have := hp' i a b
      rw [a1.1, hsu i a b] at this
      unfold leT at this ⊢
      rwa [cmp_sh a1.2 (plus_bnd3 hG hp (hbu.2 i a b))] at this
    have := h.low _ hbu hpu i a b
    rw [hget l i a (by omega), hsu i a b]
    unfold leT at this ⊢
    rwa [cmp_sh (plus_bnd3 hG hp (h.bnd.2 i a b)) (plus_bnd3 hG hp (hbu.2 i a b))]
end
theorem evA_sh (l : List Tup) : ∀ n, n ≤ l.length → evA (l.map shT) n = evA l n
  | 0, _ => rfl
  | n + 1, h => by
    have e : (gT (l.map shT) (n : Int)).top = (gT l (n : Int)).top := by
      show ((l.map shT).getD (n : Int).toNat tup0).top = (l.getD (n : Int).toNat tup0).top
      rw [List.getD_eq_getElem?_getD, List.getD_eq_getElem?_getD, List.getElem?_map]
      cases l[((n : Nat) : Int).toNat]? <;> rfl
    rw [evA, evA, e, evA_sh l n (by omega)]
/-- What Even tells of both games. -/
theorem higher_even {g : GameL} {xs : List Int} (hR : isR g = true) {k : Int} (hp : PlusT g.pr xs k) (hk : (g.pr.length : Int) ≤ k) (hk2 : k ≤ (g.pr.length : Int)) {l l' : List Tup} (h : SolvedT g l) (h' : SolvedT ⟨g.ow, xs, g.mv⟩ l') {a b a' b' : List Int}
    (he : EvenT g l a b) (he' : EvenT ⟨g.ow, xs, g.mv⟩ l' a' b') : a = a' ∧ b.length = b'.length := by
  obtain rfl : k = (g.pr.length : Int) := by omega
  have hG := isR_ok hR
  have hR' := plus_right hG hp hR
  rcases h with ⟨x, _⟩ | ⟨_, h⟩
  · rw [hR] at x; cases x
  · rcases h' with ⟨x, _⟩ | ⟨_, h'⟩
    · rw [hR'] at x; cases x
    · obtain rfl := least_one h' (plus_least hG hp h)
      have hl := h.bnd.1
      rcases he with ⟨x, _⟩ | ⟨_, rfl, rfl⟩
      · rw [hR, decide_eq_true hl] at x; cases x
      · rcases he' with ⟨x, _⟩ | ⟨_, rfl, rfl⟩
        · rw [hR', decide_eq_true (by rw [List.length_map]; exact hl)] at x; cases x
        · refine ⟨?_, ?_⟩
          · rw [List.length_map, evA_sh l _ (Nat.le_refl _)]
          · rw [evB_len, evB_len, List.length_map]
end Go.Proofs.Ytklbpajmoklheaa
