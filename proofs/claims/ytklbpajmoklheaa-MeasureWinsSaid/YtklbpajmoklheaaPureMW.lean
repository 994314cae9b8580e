/-
  Plain: the least tuples that stand tell player 0's region, and how it is won (law MeasureWins). No program.
-/
import Derived.Test.YtklbpajmoklheaaPureLeast
import Derived.Test.YtklbpajmoklheaaPureDoc
set_option linter.unusedVariables false
set_option linter.unusedSimpArgs false
namespace Go.Proofs.Ytklbpajmoklheaa
open Go Go.RowKit
/-- From a priority on: not above; below. -/
def lexB (b : Int) (s t : Tup) : Prop := 7 < b ∨ s.c3 < t.c3 ∨ (s.c3 = t.c3 ∧ (5 < b ∨ s.c2 < t.c2 ∨ (s.c2 = t.c2 ∧ (3 < b ∨ s.c1 < t.c1 ∨ (s.c1 = t.c1 ∧ (1 < b ∨ s.c0 ≤ t.c0))))))
def ltB (b : Int) (s t : Tup) : Prop := b ≤ 7 ∧ (s.c3 < t.c3 ∨ (s.c3 = t.c3 ∧ b ≤ 5 ∧ (s.c2 < t.c2 ∨ (s.c2 = t.c2 ∧ b ≤ 3 ∧ (s.c1 < t.c1 ∨ (s.c1 = t.c1 ∧ b ≤ 1 ∧ s.c0 < t.c0))))))
section
variable {b p n0 n1 n2 n3 : Int} {s t u : Tup}
theorem lexB_trans (h : lexB b s t) (k : lexB b t u) : lexB b s u := by unfold lexB at *; omega
theorem ltB_lex (h : ltB b s t) (k : lexB b t u) : ltB b s u := by unfold lexB at k; unfold ltB at *; omega
theorem lex_ltB (h : lexB b s t) (k : ltB b t u) : ltB b s u := by unfold lexB at h; unfold ltB at *; omega
theorem ltB_no (h : ltB b s s) : False := by unfold ltB at h; omega
theorem lexB_mono (hp : p ≤ b) (h : lexB p s t) : lexB b s t := by unfold lexB at *; omega
theorem keep_lexB (h : lex (keepT p s) t) : lexB p s t := by
  unfold lex keepT at h
  unfold lexB
  dsimp only at h
  by_cases h7 : 7 ≥ p
  · rw [if_pos h7] at h
    by_cases h5 : 5 ≥ p
    · rw [if_pos h5] at h
      by_cases h3 : 3 ≥ p
      · rw [if_pos h3] at h
        by_cases h1 : 1 ≥ p
        · rw [if_pos h1] at h
          omega
        · rw [if_neg h1] at h
          omega
      · rw [if_neg h3] at h
        omega
    · rw [if_neg h5] at h
      omega
  · omega
theorem inc_ltB (h : lex (incT n0 n1 n2 n3 p (keepT p s)) t) (hn : (incT n0 n1 n2 n3 p (keepT p s)).top = false) : ltB p s t := by
  unfold incT at h hn
  by_cases a0 : 1 ≥ p ∧ (keepT p s).c0 < n0
  · rw [if_pos a0] at h
    unfold lex keepT at h
    dsimp only at h
    rw [if_pos a0.1, if_pos (show 3 ≥ p by omega), if_pos (show 5 ≥ p by omega), if_pos (show 7 ≥ p by omega)] at h
    unfold ltB
    omega
  · rw [if_neg a0] at h hn
    by_cases a1 : 3 ≥ p ∧ (keepT p s).c1 < n1
    · rw [if_pos a1] at h
      unfold lex keepT at h
      dsimp only at h
      rw [if_pos a1.1, if_pos (show 5 ≥ p by omega), if_pos (show 7 ≥ p by omega)] at h
      unfold ltB
      omega
    · rw [if_neg a1] at h hn
      by_cases a2 : 5 ≥ p ∧ (keepT p s).c2 < n2
      · rw [if_pos a2] at h
        unfold lex keepT at h
        dsimp only at h
        rw [if_pos a2.1, if_pos (show 7 ≥ p by omega)] at h
        unfold ltB
        omega
      · rw [if_neg a2] at h hn
        by_cases a3 : 7 ≥ p ∧ (keepT p s).c3 < n3
        · rw [if_pos a3] at h
          unfold lex keepT at h
          dsimp only at h
          rw [if_pos a3.1] at h
          unfold ltB
          omega
        · rw [if_neg a3] at hn
          cases hn
theorem odd1_iff (h0 : 0 ≤ p) (h7 : p ≤ 7) : odd1 p ↔ p % 2 = 1 := by
  obtain rfl | rfl | rfl | rfl | rfl | rfl | rfl | rfl : p = 0 ∨ p = 1 ∨ p = 2 ∨ p = 3 ∨ p = 4 ∨ p = 5 ∨ p = 6 ∨ p = 7 := by omega
  all_goals decide
/-- What a step that stands tells. -/
theorem up_step (h0 : 0 ≤ p) (h7 : p ≤ 7) (h : leT (upT n0 n1 n2 n3 p s) t) (ht : t.top = false) : s.top = false ∧ lexB p s t ∧ (p % 2 = 1 → ltB p s t) := by
  have hu : (upT n0 n1 n2 n3 p s).top = false := by
    cases hc : (upT n0 n1 n2 n3 p s).top with
    | false => rfl
    | true => rw [leT_tf h hc] at ht; cases ht
  have hs : s.top = false := by
    cases hc : s.top with
    | false => rfl
    | true => unfold upT at hu; rw [if_pos hc] at hu; cases hu
  have h := (leT_ff hu ht).1 h
  refine ⟨hs, ?_⟩
  unfold upT at h hu
  rw [if_neg (by rw [hs]; decide)] at h hu
  by_cases ho : odd1 p
  · rw [if_pos ho] at h hu
    have hl := inc_ltB h hu
    exact ⟨by unfold ltB at hl; unfold lexB; omega, fun _ => hl⟩
  · rw [if_neg ho] at h
    exact ⟨keep_lexB h, fun e => absurd ((odd1_iff h0 h7).2 e) ho⟩
end
section
variable {g : GameL} {l : List Tup}
def W0 (g : GameL) (l : List Tup) (x : Int) : Prop := (0 ≤ x ∧ x < (g.ow.length : Int)) ∧ (gT l x).top = false
def f0M (g : GameL) (l : List Tup) (x : Int) : Int := (bestB (upG g l x) (gI g.ow x) (gL g.mv x)).2
/-- Each step of the strategy stands. -/
theorem mw_step (hR : isR g = true) (h : LeastT g l) {x y : Int} (hx : W0 g l x) (hy : y ∈ gL g.mv x) (ho : gI g.ow x = 0 → y = f0M g l x) : W0 g l y ∧ lexB (gI g.pr x) (gT l y) (gT l x) ∧ (gI g.pr x % 2 = 1 → ltB (gI g.pr x) (gT l y) (gT l x)) := by
  have hG := isR_ok hR
  have hr := row_rng hR hx.1.1 hx.1.2 hy
  have hp := hG.pr x hx.1.1 hx.1.2
  obtain ⟨j, j0, j1, hb, hk⟩ := lift_spec hG l hx.1.1 hx.1.2
  have hle : leT (upG g l x y) (gT l x) := by
    have h1 := h.pre x hx.1.1 hx.1.2
    unfold liftT at h1
    by_cases e : gI g.ow x = 0
    · have e2 := ho e
      unfold f0M at e2
      rw [hb] at e2 h1
      rw [e2]
      exact h1
    · have e1 : gI g.ow x = 1 := (hG.ow x hx.1.1 hx.1.2).resolve_left e
      obtain ⟨k, hk2, rfl⟩ := List.mem_iff_getElem.1 hy
      have h2 := hk (k : Int) (by omega) (by omega)
      rw [if_pos e1, gI_eq (by omega) (by omega)] at h2
      rw [hb] at h1
      exact leT_trans h2 h1
  obtain ⟨a, b, c⟩ := up_step hp.1 hp.2 hle hx.2
  exact ⟨⟨hr, a⟩, b, c⟩
theorem mw_way (hR : isR g = true) (h : LeastT g l) {b : Int} {f : Int → Int} (hf : ∀ x, W0 g l x → gI g.ow x = 0 → f x = f0M g l x) : ∀ {x y : Int}, Way (lowE g (fun i => 0 ≤ i ∧ i < (g.ow.length : Int)) 0 f (W0 g l) b) x y → lexB b (gT l y) (gT l x)
  | _, _, .one ⟨⟨h1, h2, h3, h4⟩, h5, h6⟩ => lexB_mono h5 (mw_step hR h h1 h2 (fun e => (h4 e).trans (hf _ h1 e))).2.1
  | _, _, .more ⟨⟨h1, h2, h3, h4⟩, h5, h6⟩ k => lexB_trans (mw_way hR h hf k) (lexB_mono h5 (mw_step hR h h1 h2 (fun e => (h4 e).trans (hf _ h1 e))).2.1)
/-- Who is not Top wins, by the moves that need least. -/
theorem mw_win (hR : isR g = true) (h : LeastT g l) {f : Int → Int} (hf : ∀ x, W0 g l x → gI g.ow x = 0 → f x = f0M g l x) : WinT g (fun i => 0 ≤ i ∧ i < (g.ow.length : Int)) 0 f (W0 g l) := by
  have hG := isR_ok hR
  refine ⟨fun i hi => hi.1, fun i hi e => ?_, fun i hi e m hm hI => (mw_step hR h hi hm (fun k => absurd k e)).1, fun i hi e hw => ?_⟩
  · obtain ⟨j, j0, j1, hb, hk⟩ := lift_spec hG l hi.1.1 hi.1.2
    have hm : f0M g l i ∈ gL g.mv i := by
      unfold f0M
      rw [hb, gI_eq j0 j1]
      exact List.getElem_mem _
    rw [hf i hi e]
    exact ⟨hm, (mw_step hR h hi hm (fun _ => rfl)).1⟩
  · have hp := hG.pr i hi.1.1 hi.1.2
    have key : ∀ {y : Int}, lowE g (fun i => 0 ≤ i ∧ i < (g.ow.length : Int)) 0 f (W0 g l) (gI g.pr i) i y → ltB (gI g.pr i) (gT l y) (gT l i) := fun hs => (mw_step hR h hi hs.1.2.1 (fun k => (hs.1.2.2.2 k).trans (hf _ hi k))).2.2 (by omega)
    cases hw with
    | one hs => exact ltB_no (key hs)
    | more hs hk => exact ltB_no (lex_ltB (mw_way hR h hf hk) (key hs))
end
/-! ### The other way: who wins is not Top -/
/-- So many q's may come on a way on which nothing is higher. -/
inductive CntW (g : GameL) (E : Int → Int → Prop) (q : Int) : Int → Nat → Prop
  | zero {x : Int} : CntW g E q x 0
  | low {x y : Int} {k : Nat} : E x y → gI g.pr x < q → CntW g E q y k → CntW g E q x k
  | one {x y : Int} {k : Nat} : E x y → gI g.pr x = q → CntW g E q y k → CntW g E q x (k + 1)
section
variable {g : GameL} {V : Int → Prop} {f : Int → Int} {q : Int}
def stepV (g : GameL) (f : Int → Int) (V : Int → Prop) : Int → Int → Prop := stepW g (fun i => 0 ≤ i ∧ i < (g.ow.length : Int)) 0 f V
def lowQ (g : GameL) (f : Int → Int) (V : Int → Prop) (q : Int) (x y : Int) : Prop := stepV g f V x y ∧ gI g.pr x ≤ q
/-- The q's on the way, each leading to the next. -/
theorem cnt_list {x : Int} {k : Nat} (h : CntW g (stepV g f V) q x k) : ∃ L : List Int, L.length = k ∧ (∀ v ∈ L, V v ∧ gI g.pr v = q) ∧ L.Pairwise (fun a b => Way (lowQ g f V q) a b) ∧ ∀ v ∈ L, x = v ∨ Way (lowQ g f V q) x v := by
  induction h with
  | zero => exact ⟨[], rfl, (fun v hv => absurd hv List.not_mem_nil), List.Pairwise.nil, (fun v hv => absurd hv List.not_mem_nil)⟩
  | low hs hp _ ih =>
    obtain ⟨L, h1, h2, h3, h4⟩ := ih
    refine ⟨L, h1, h2, h3, fun v hv => .inr ?_⟩
    rcases h4 v hv with rfl | h5
    · exact .one ⟨hs, by omega⟩
    · exact .more ⟨hs, by omega⟩ h5
  | one hs hp _ ih =>
    rename_i x y k _
    obtain ⟨L, h1, h2, h3, h4⟩ := ih
    have h6 : ∀ v ∈ L, Way (lowQ g f V q) x v := fun v hv => by
      rcases h4 v hv with rfl | h5
      · exact .one ⟨hs, by omega⟩
      · exact .more ⟨hs, by omega⟩ h5
    refine ⟨x :: L, by rw [List.length_cons, h1], fun v hv => ?_, List.pairwise_cons.2 ⟨fun v hv => h6 v hv, h3⟩, fun v hv => ?_⟩
    · rcases List.mem_cons.1 hv with rfl | hv
      · exact ⟨hs.1, hp⟩
      · exact h2 v hv
    · rcases List.mem_cons.1 hv with rfl | hv
      · exact .inl rfl
      · exact .inr (h6 v hv)
/-- On a way that ends at a q nothing is higher. -/
theorem way_low (hW : WinT g (fun i => 0 ≤ i ∧ i < (g.ow.length : Int)) 0 f V) : ∀ {x y : Int}, Way (lowQ g f V q) x y → gI g.pr y ≤ q → Way (lowE g (fun i => 0 ≤ i ∧ i < (g.ow.length : Int)) 0 f V q) x y
  | _, _, .one h, hy => .one ⟨h.1, h.2, hy⟩
  | _, _, .more h k, hy => by
    refine .more ⟨h.1, h.2, ?_⟩ (way_low hW k hy)
    cases k with
    | one k => exact k.2
    | more k _ => exact k.2
theorem nodup_cnt : ∀ (n : Nat) (pr L : List Int), pr.length = n → L.Nodup → (∀ v ∈ L, 0 ≤ v ∧ v < (n : Int) ∧ gI pr v = q) → (L.length : Int) ≤ cnt pr q
  | 0, pr, L, hl, hn, h => by
    cases L with
    | nil => exact cnt_ge pr q
    | cons v L => have := h v List.mem_cons_self; omega
  | n + 1, pr, L, hl, hn, h => by
    have hc : cnt pr q = cnt (pr.take n) q + (if gI pr (n : Int) = q then 1 else 0) := by
      have := cnt_next (l := pr) (j := (n : Int)) q (by omega) (by omega)
      rw [show ((n : Int) + 1).toNat = n + 1 from rfl, List.take_of_length_le (by omega), show ((n : Int)).toNat = n from rfl] at this
      rw [this]
      split <;> omega
    have hg : ∀ v : Int, 0 ≤ v → v < (n : Int) → gI (pr.take n) v = gI pr v := fun v a b => by
      simp only [gI, List.getD_eq_getElem?_getD]
      rw [List.getElem?_take_of_lt (by omega)]
    have ih := nodup_cnt n (pr.take n) (L.erase (n : Int)) (by rw [List.length_take]; omega) (hn.erase _) (fun v hv => by
      have h1 := h v (List.mem_of_mem_erase hv)
      have h2 : v ≠ (n : Int) := fun e => by
        rw [e] at hv
        exact hn.not_mem_erase hv
      have h3 : v < (n : Int) := by omega
      exact ⟨h1.1, h3, by rw [hg v h1.1 h3]; exact h1.2.2⟩)
    rw [hc]
    by_cases hm : (n : Int) ∈ L
    · rw [List.length_erase_of_mem hm] at ih
      have := List.length_pos_of_mem hm
      rw [if_pos (h _ hm).2.2]
      omega
    · rw [List.erase_of_not_mem hm] at ih
      split <;> omega
theorem cnt_bound (hR : isR g = true) (hW : WinT g (fun i => 0 ≤ i ∧ i < (g.ow.length : Int)) 0 f V) (hq : q % 2 = 1) {x : Int} {k : Nat} (h : CntW g (stepV g f V) q x k) : (k : Int) ≤ cnt g.pr q := by
  have hG := isR_ok hR
  obtain ⟨L, h1, h2, h3, _⟩ := cnt_list h
  have hn : L.Nodup := by
    rw [List.nodup_iff_pairwise_ne]
    refine h3.imp_of_mem fun {a b} ha hb hw e => ?_
    subst e
    have hp := (h2 a ha).2
    have := hW.cyc a (h2 a ha).1 (by rw [hp]; omega)
    rw [hp] at this
    exact this (way_low hW hw (by omega))
  have := nodup_cnt (q := q) g.ow.length g.pr L hG.pl hn (fun v hv => ⟨(hW.sub v (h2 v hv).1).1, (hW.sub v (h2 v hv).1).2, (h2 v hv).2⟩)
  omega
theorem most_k {P : Nat → Prop} (h0 : P 0) : ∀ B : Nat, (∀ k, P k → k ≤ B) → ∃ k, P k ∧ ∀ j, P j → j ≤ k
  | 0, h => ⟨0, h0, h⟩
  | B + 1, h => by
    by_cases hb : P (B + 1)
    · exact ⟨B + 1, hb, h⟩
    · exact most_k h0 B fun k hk => by
        have := h k hk
        have : k ≠ B + 1 := fun e => hb (e ▸ hk)
        omega
end
section
variable {g : GameL} {V : Int → Prop} {f : Int → Int} {l : List Tup}
theorem most_C (hR : isR g = true) (hW : WinT g (fun i => 0 ≤ i ∧ i < (g.ow.length : Int)) 0 f V) (q : Int) (hq : q % 2 = 1) : ∃ C : Int → Nat, ∀ x, (C x : Int) ≤ cnt g.pr q ∧ CntW g (stepV g f V) q x (C x) ∧ ∀ j, CntW g (stepV g f V) q x j → j ≤ C x := by
  have h : ∀ x, ∃ c : Nat, (c : Int) ≤ cnt g.pr q ∧ CntW g (stepV g f V) q x c ∧ ∀ j, CntW g (stepV g f V) q x j → j ≤ c := fun x => by
    obtain ⟨c, h1, h2⟩ := most_k (P := fun k => CntW g (stepV g f V) q x k) .zero (cnt g.pr q).toNat fun k hk => by
      have := cnt_bound hR hW hq hk
      omega
    exact ⟨c, cnt_bound hR hW hq h1, h1, h2⟩
  exact ⟨fun x => (h x).choose, fun x => (h x).choose_spec⟩
theorem comp_lex {s t : Tup} (h0 : s.c0 ≤ t.c0) (h1 : s.c1 ≤ t.c1) (h2 : s.c2 ≤ t.c2) (h3 : s.c3 ≤ t.c3) : lex s t := by unfold lex; omega
theorem up_comp {n0 n1 n2 n3 p : Int} {s t : Tup} (hs : s.top = false) (ht : t.top = false) (h0 : 0 ≤ p) (h7 : p ≤ 7) (s0 : 0 ≤ s.c0 ∧ 0 ≤ t.c0) (s1 : 0 ≤ s.c1 ∧ 0 ≤ t.c1) (s2 : 0 ≤ s.c2 ∧ 0 ≤ t.c2) (s3 : 0 ≤ s.c3 ∧ 0 ≤ t.c3) (b0 : t.c0 ≤ n0) (b1 : t.c1 ≤ n1) (b2 : t.c2 ≤ n2) (b3 : t.c3 ≤ n3)
    (k0 : (p < 1 → s.c0 ≤ t.c0) ∧ (p = 1 → s.c0 + 1 ≤ t.c0)) (k1 : (p < 3 → s.c1 ≤ t.c1) ∧ (p = 3 → s.c1 + 1 ≤ t.c1)) (k2 : (p < 5 → s.c2 ≤ t.c2) ∧ (p = 5 → s.c2 + 1 ≤ t.c2)) (k3 : (p < 7 → s.c3 ≤ t.c3) ∧ (p = 7 → s.c3 + 1 ≤ t.c3)) : leT (upT n0 n1 n2 n3 p s) t := by
  unfold upT
  rw [if_neg (by rw [hs]; decide)]
  by_cases ho : odd1 p
  · rw [if_pos ho]
    have hp := (odd1_iff h0 h7).1 ho
    obtain rfl | rfl | rfl | rfl : p = 1 ∨ p = 3 ∨ p = 5 ∨ p = 7 := by omega
    · have e : incT n0 n1 n2 n3 1 (keepT 1 s) = ⟨false, s.c0 + 1, s.c1, s.c2, s.c3⟩ := by
        unfold incT keepT
        dsimp only
        rw [if_pos (show (1 : Int) ≥ 1 by omega), if_pos (show (3 : Int) ≥ 1 by omega), if_pos (show (5 : Int) ≥ 1 by omega), if_pos (show (7 : Int) ≥ 1 by omega), if_pos ⟨by omega, by omega⟩]
      rw [e]
      exact (leT_ff rfl ht).2 (comp_lex (by dsimp only; omega) (by dsimp only; omega) (by dsimp only; omega) (by dsimp only; omega))
    · have e : incT n0 n1 n2 n3 3 (keepT 3 s) = ⟨false, 0, s.c1 + 1, s.c2, s.c3⟩ := by
        unfold incT keepT
        dsimp only
        rw [if_neg (show ¬ (1 : Int) ≥ 3 by omega), if_pos (show (3 : Int) ≥ 3 by omega), if_pos (show (5 : Int) ≥ 3 by omega), if_pos (show (7 : Int) ≥ 3 by omega), if_neg (by omega), if_pos ⟨by omega, by omega⟩, if_neg (by omega)]
      rw [e]
      exact (leT_ff rfl ht).2 (comp_lex (by dsimp only; omega) (by dsimp only; omega) (by dsimp only; omega) (by dsimp only; omega))
    · have e : incT n0 n1 n2 n3 5 (keepT 5 s) = ⟨false, 0, 0, s.c2 + 1, s.c3⟩ := by
        unfold incT keepT
        dsimp only
        rw [if_neg (show ¬ (1 : Int) ≥ 5 by omega), if_neg (show ¬ (3 : Int) ≥ 5 by omega), if_pos (show (5 : Int) ≥ 5 by omega), if_pos (show (7 : Int) ≥ 5 by omega), if_neg (by omega), if_neg (by omega), if_pos ⟨by omega, by omega⟩, if_neg (by omega), if_neg (by omega)]
      rw [e]
      exact (leT_ff rfl ht).2 (comp_lex (by dsimp only; omega) (by dsimp only; omega) (by dsimp only; omega) (by dsimp only; omega))
    · have e : incT n0 n1 n2 n3 7 (keepT 7 s) = ⟨false, 0, 0, 0, s.c3 + 1⟩ := by
        unfold incT keepT
        dsimp only
        rw [if_neg (show ¬ (1 : Int) ≥ 7 by omega), if_neg (show ¬ (3 : Int) ≥ 7 by omega), if_neg (show ¬ (5 : Int) ≥ 7 by omega), if_pos (show (7 : Int) ≥ 7 by omega), if_neg (by omega), if_neg (by omega), if_neg (by omega), if_pos ⟨by omega, by omega⟩, if_neg (by omega), if_neg (by omega), if_neg (by omega)]
      rw [e]
      exact (leT_ff rfl ht).2 (comp_lex (by dsimp only; omega) (by dsimp only; omega) (by dsimp only; omega) (by dsimp only; omega))
  · rw [if_neg ho]
    have hp : p % 2 ≠ 1 := fun e => ho ((odd1_iff h0 h7).2 e)
    refine (leT_ff rfl ht).2 (comp_lex ?_ ?_ ?_ ?_)
    all_goals (unfold keepT; dsimp only; split <;> omega)
/-- Who wins is not Top. -/
theorem mw_in (hR : isR g = true) (h : LeastT g l) (hW : WinT g (fun i => 0 ≤ i ∧ i < (g.ow.length : Int)) 0 f V) : ∀ x, V x → W0 g l x := by
  classical
  have hG := isR_ok hR
  obtain ⟨C1, h1⟩ := most_C hR hW 1 (by decide)
  obtain ⟨C3, h3⟩ := most_C hR hW 3 (by decide)
  obtain ⟨C5, h5⟩ := most_C hR hW 5 (by decide)
  obtain ⟨C7, h7⟩ := most_C hR hW 7 (by decide)
  let m : Int → Tup := fun x => if V x then ⟨false, C1 x, C3 x, C5 x, C7 x⟩ else tupT
  let L : List Tup := (List.range g.ow.length).map (fun k : Nat => m (k : Int))
  have hL : L.length = g.ow.length := by rw [List.length_map, List.length_range]
  have hat : ∀ x : Int, 0 ≤ x → x < (g.ow.length : Int) → gT L x = m x := fun x a b => by
    show gA L x = m x
    simp only [gA, L, List.getD_eq_getElem?_getD, List.getElem?_map, List.getElem?_range (show x.toNat < g.ow.length by omega), Option.map_some, Option.getD_some]
    rw [show ((x.toNat : Nat) : Int) = x by omega]
  have hmV : ∀ x, V x → m x = ⟨false, C1 x, C3 x, C5 x, C7 x⟩ := fun x hx => if_pos hx
  have hmN : ∀ x, ¬ V x → m x = tupT := fun x hx => if_neg hx
  have hB : BndL g L := ⟨hL, fun x a b => by
    rw [hat x a b]
    by_cases hv : V x
    · rw [hmV x hv]
      exact ⟨(fun k => by cases k), ⟨by dsimp only; omega, (h1 x).1⟩, ⟨by dsimp only; omega, (h3 x).1⟩, ⟨by dsimp only; omega, (h5 x).1⟩, ⟨by dsimp only; omega, (h7 x).1⟩⟩
    · rw [hmN x hv]
      exact bnd_T (cnt_ge _ _) (cnt_ge _ _) (cnt_ge _ _) (cnt_ge _ _)⟩
  have hE : ∀ x y, stepV g f V x y → leT (upG g L x y) (m x) := fun x y hs => by
    have hvy := hW.step hs
    have hr := hW.sub x hs.1
    have hry := hW.sub y hvy
    have hp := hG.pr x hr.1 hr.2
    have key : ∀ {q : Int} {C : Int → Nat}, (∀ x, (C x : Int) ≤ cnt g.pr q ∧ CntW g (stepV g f V) q x (C x) ∧ ∀ j, CntW g (stepV g f V) q x j → j ≤ C x) → (gI g.pr x < q → (C y : Int) ≤ C x) ∧ (gI g.pr x = q → (C y : Int) + 1 ≤ C x) := fun {q C} hC =>
      ⟨fun k => by have := (hC x).2.2 _ (.low hs k (hC y).2.1); omega, fun k => by have := (hC x).2.2 _ (.one hs k (hC y).2.1); omega⟩
    unfold upG
    rw [hat y hry.1 hry.2, hmV y hvy, hmV x hs.1]
    exact up_comp rfl rfl hp.1 hp.2 ⟨by dsimp only; omega, by dsimp only; omega⟩ ⟨by dsimp only; omega, by dsimp only; omega⟩ ⟨by dsimp only; omega, by dsimp only; omega⟩ ⟨by dsimp only; omega, by dsimp only; omega⟩ (h1 x).1 (h3 x).1 (h5 x).1 (h7 x).1 (key h1) (key h3) (key h5) (key h7)
  have hP : PreT g L := fun x a b => by
    rw [hat x a b]
    by_cases hv : V x
    · obtain ⟨j, j0, j1, hb, hk⟩ := lift_spec hG L a b
      unfold liftT
      rw [hb]
      have hm := hG.mv x a b
      by_cases e : gI g.ow x = 0
      · have hf := hW.own x hv e
        obtain ⟨k, hk2, hk3⟩ := List.mem_iff_getElem.1 hf.1
        have h2 := hk (k : Int) (by omega) (by omega)
        have e2 : gI (gL g.mv x) (k : Int) = f x := by
          rw [gI_eq (by omega) (by omega)]
          exact hk3
        rw [if_neg (by omega), e2] at h2
        exact leT_trans h2 (hE x (f x) ⟨hv, hf.1, hW.sub _ hf.2, fun _ => rfl⟩)
      · have hmem : gI (gL g.mv x) j ∈ gL g.mv x := by
          rw [gI_eq j0 j1]
          exact List.getElem_mem _
        exact hE x _ ⟨hv, hmem, hm j j0 j1, fun k => absurd k e⟩
    · rw [hmN x hv]
      exact leT_top rfl
  intro x hx
  have hr := hW.sub x hx
  refine ⟨hr, ?_⟩
  have h9 := h.low L hB hP x hr.1 hr.2
  rw [hat x hr.1 hr.2, hmV x hx] at h9
  cases hc : (gT l x).top with
  | false => rfl
  | true => have := leT_tf h9 hc; cases this
end
end Go.Proofs.Ytklbpajmoklheaa
