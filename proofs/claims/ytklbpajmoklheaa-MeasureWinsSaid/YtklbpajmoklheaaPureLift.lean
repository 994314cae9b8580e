/-
  Plain: the order of tuples, lifting is monotone, the least tuples that stand. No program.
-/
import Derived.Test.YtklbpajmoklheaaPureBest
set_option linter.unusedVariables false
namespace Go.Proofs.Ytklbpajmoklheaa
open Go Go.RowKit
def leT (a b : Tup) : Prop := cmpT a b 0 ≤ 0
def lex (a b : Tup) : Prop := a.c3 < b.c3 ∨ (a.c3 = b.c3 ∧ (a.c2 < b.c2 ∨ (a.c2 = b.c2 ∧ (a.c1 < b.c1 ∨ (a.c1 = b.c1 ∧ a.c0 ≤ b.c0)))))
theorem leT_top {a b : Tup} (h : b.top = true) : leT a b := by
  unfold leT cmpT
  cases ha : a.top <;> simp [h]
theorem leT_ff {a b : Tup} (ha : a.top = false) (hb : b.top = false) : leT a b ↔ lex a b := by
  unfold leT lex
  rw [low_ff ha hb]
  unfold lowT
  omega
theorem leT_tf {a b : Tup} (h : leT a b) (ha : a.top = true) : b.top = true := by
  unfold leT cmpT at h
  cases hb : b.top
  · simp [ha, hb] at h
  · rfl
theorem leT_refl (a : Tup) : leT a a := by
  cases h : a.top
  · rw [leT_ff h h]; unfold lex; omega
  · exact leT_top h
theorem leT_trans {a b c : Tup} (h1 : leT a b) (h2 : leT b c) : leT a c := by
  cases hc : c.top
  · cases hb : b.top
    · cases ha : a.top
      · rw [leT_ff ha hb] at h1
        rw [leT_ff hb hc] at h2
        rw [leT_ff ha hc]
        unfold lex at *
        omega
      · rw [leT_tf h1 ha] at hb
        cases hb
    · rw [leT_tf h2 hb] at hc
      cases hc
  · exact leT_top hc
theorem cmp_swap (a b : Tup) (p : Int) : cmpT a b p = - cmpT b a p := by
  cases ha : a.top <;> cases hb : b.top
  · rw [low_ff ha hb, low_ff hb ha]
    unfold lowT
    omega
  · rw [← cmp_ft ha hb, ← cmp_tf hb ha]
  · rw [← cmp_tf ha hb, ← cmp_ft hb ha]
    omega
  · rw [← cmp_tt ha hb, ← cmp_tt hb ha]
    omega
theorem leT_of_not_lt {a b : Tup} (h : ¬ cmpT a b 0 < 0) : leT b a := by
  have := cmp_swap a b 0
  unfold leT
  omega
theorem leT_of_not_gt {a b : Tup} (h : ¬ cmpT a b 0 > 0) : leT a b := by
  unfold leT
  omega
/-- A tuple within n0.., a Top being plain. -/
structure Bnd (n0 n1 n2 n3 : Int) (t : Tup) : Prop where
  top : t.top = true → t = tupT
  c0 : 0 ≤ t.c0 ∧ t.c0 ≤ n0
  c1 : 0 ≤ t.c1 ∧ t.c1 ≤ n1
  c2 : 0 ≤ t.c2 ∧ t.c2 ≤ n2
  c3 : 0 ≤ t.c3 ∧ t.c3 ≤ n3
theorem leT_anti {n0 n1 n2 n3 : Int} {a b : Tup} (ha : Bnd n0 n1 n2 n3 a) (hb : Bnd n0 n1 n2 n3 b) (h1 : leT a b) (h2 : leT b a) : a = b := by
  cases h : a.top
  · cases h' : b.top
    · rw [leT_ff h h'] at h1
      rw [leT_ff h' h] at h2
      obtain ⟨a0, a1, a2, a3, a4⟩ := a
      obtain ⟨b0, b1, b2, b3, b4⟩ := b
      simp only at h h'
      subst h
      subst h'
      unfold lex at h1 h2
      simp only at h1 h2
      have e4 : a4 = b4 := by omega
      have e3 : a3 = b3 := by omega
      have e2 : a2 = b2 := by omega
      have e1 : a1 = b1 := by omega
      rw [e1, e2, e3, e4]
    · rw [leT_tf h2 h'] at h
      cases h
  · rw [ha.top h, hb.top (leT_tf h1 h)]
theorem bnd_T {n0 n1 n2 n3 : Int} (h0 : 0 ≤ n0) (h1 : 0 ≤ n1) (h2 : 0 ≤ n2) (h3 : 0 ≤ n3) : Bnd n0 n1 n2 n3 tupT := ⟨fun _ => rfl, ⟨Int.le_refl _, h0⟩, ⟨Int.le_refl _, h1⟩, ⟨Int.le_refl _, h2⟩, ⟨Int.le_refl _, h3⟩⟩
theorem bnd_0 {n0 n1 n2 n3 : Int} (h0 : 0 ≤ n0) (h1 : 0 ≤ n1) (h2 : 0 ≤ n2) (h3 : 0 ≤ n3) : Bnd n0 n1 n2 n3 tup0 := ⟨fun h => (by cases h), ⟨Int.le_refl _, h0⟩, ⟨Int.le_refl _, h1⟩, ⟨Int.le_refl _, h2⟩, ⟨Int.le_refl _, h3⟩⟩
theorem keep_bnd {n0 n1 n2 n3 p : Int} {t : Tup} (h : Bnd n0 n1 n2 n3 t) : Bnd n0 n1 n2 n3 (keepT p t) := by
  obtain ⟨_, k0, k1, k2, k3⟩ := h
  refine ⟨fun h => (by cases h), ?_, ?_, ?_, ?_⟩ <;> (simp only [keepT]; split <;> omega)
theorem inc_bnd {n0 n1 n2 n3 p : Int} {t : Tup} (h : Bnd n0 n1 n2 n3 t) : Bnd n0 n1 n2 n3 (incT n0 n1 n2 n3 p t) := by
  obtain ⟨_, k0, k1, k2, k3⟩ := h
  unfold incT
  split
  · exact ⟨fun h => (by cases h), by simp only; omega, by simp only; omega, by simp only; omega, by simp only; omega⟩
  split
  · exact ⟨fun h => (by cases h), by simp only; split <;> omega, by simp only; omega, by simp only; omega, by simp only; omega⟩
  split
  · exact ⟨fun h => (by cases h), by simp only; split <;> omega, by simp only; split <;> omega, by simp only; omega, by simp only; omega⟩
  split
  · exact ⟨fun h => (by cases h), by simp only; split <;> omega, by simp only; split <;> omega, by simp only; split <;> omega, by simp only; omega⟩
  · exact bnd_T (by omega) (by omega) (by omega) (by omega)
theorem up_bnd {n0 n1 n2 n3 p : Int} {t : Tup} (h : Bnd n0 n1 n2 n3 t) : Bnd n0 n1 n2 n3 (upT n0 n1 n2 n3 p t) := by
  unfold upT
  split
  · exact bnd_T (by have := h.c0; omega) (by have := h.c1; omega) (by have := h.c2; omega) (by have := h.c3; omega)
  split
  · exact inc_bnd (keep_bnd h)
  · exact keep_bnd h
theorem keep_lex {p : Int} {t u : Tup} (h : lex t u) : lex (keepT p t) (keepT p u) := by
  unfold lex keepT at *
  simp only
  by_cases h1 : 1 ≥ p
  · rw [if_pos h1, if_pos h1, if_pos (show 3 ≥ p by omega), if_pos (show 3 ≥ p by omega), if_pos (show 5 ≥ p by omega), if_pos (show 5 ≥ p by omega), if_pos (show 7 ≥ p by omega), if_pos (show 7 ≥ p by omega)]
    exact h
  · rw [if_neg h1, if_neg h1]
    by_cases h3 : 3 ≥ p
    · rw [if_pos h3, if_pos h3, if_pos (show 5 ≥ p by omega), if_pos (show 5 ≥ p by omega), if_pos (show 7 ≥ p by omega), if_pos (show 7 ≥ p by omega)]
      omega
    · rw [if_neg h3, if_neg h3]
      by_cases h5 : 5 ≥ p
      · rw [if_pos h5, if_pos h5, if_pos (show 7 ≥ p by omega), if_pos (show 7 ≥ p by omega)]
        omega
      · rw [if_neg h5, if_neg h5]
        by_cases h7 : 7 ≥ p
        · rw [if_pos h7, if_pos h7]
          omega
        · rw [if_neg h7, if_neg h7]
          omega
set_option maxHeartbeats 4000000 in
theorem inc_lex {n0 n1 n2 n3 p : Int} {t u : Tup} (t0 : 0 ≤ t.c0 ∧ t.c0 ≤ n0) (t1 : 0 ≤ t.c1 ∧ t.c1 ≤ n1) (t2 : 0 ≤ t.c2 ∧ t.c2 ≤ n2) (t3 : 0 ≤ t.c3 ∧ t.c3 ≤ n3) (u0 : 0 ≤ u.c0 ∧ u.c0 ≤ n0) (u1 : 0 ≤ u.c1 ∧ u.c1 ≤ n1) (u2 : 0 ≤ u.c2 ∧ u.c2 ≤ n2) (u3 : 0 ≤ u.c3 ∧ u.c3 ≤ n3)
    (h : t.c3 < u.c3 ∨ (t.c3 = u.c3 ∧ (t.c2 < u.c2 ∨ (t.c2 = u.c2 ∧ (t.c1 < u.c1 ∨ (t.c1 = u.c1 ∧ t.c0 ≤ u.c0))))))
    (k0 : ¬ 1 ≥ p → t.c0 = 0 ∧ u.c0 = 0) (k1 : ¬ 3 ≥ p → t.c1 = 0 ∧ u.c1 = 0) (k2 : ¬ 5 ≥ p → t.c2 = 0 ∧ u.c2 = 0) (k3 : ¬ 7 ≥ p → t.c3 = 0 ∧ u.c3 = 0) (ht4 : (1 ≥ p ∧ t.c0 < n0) ∨ (3 ≥ p ∧ t.c1 < n1) ∨ (5 ≥ p ∧ t.c2 < n2) ∨ (7 ≥ p ∧ t.c3 < n3)) (hu4 : (1 ≥ p ∧ u.c0 < n0) ∨ (3 ≥ p ∧ u.c1 < n1) ∨ (5 ≥ p ∧ u.c2 < n2) ∨ (7 ≥ p ∧ u.c3 < n3)) :
    lex (incT n0 n1 n2 n3 p t) (incT n0 n1 n2 n3 p u) := by
  unfold incT
  rcases (show p ≤ 1 ∨ (1 < p ∧ p ≤ 3) ∨ (3 < p ∧ p ≤ 5) ∨ (5 < p ∧ p ≤ 7) by omega) with hp | hp | hp | hp
  · by_cases a0 : 1 ≥ p ∧ t.c0 < n0
    · rw [if_pos a0]
      by_cases b0 : 1 ≥ p ∧ u.c0 < n0
      · rw [if_pos b0]
        unfold lex
        dsimp only
        omega
      · rw [if_neg b0]
        by_cases b1 : 3 ≥ p ∧ u.c1 < n1
        · rw [if_pos b1]
          unfold lex
          dsimp only
          rw [if_pos (show 1 ≥ p by omega)]
          omega
        · rw [if_neg b1]
          by_cases b2 : 5 ≥ p ∧ u.c2 < n2
          · rw [if_pos b2]
            unfold lex
            dsimp only
            rw [if_pos (show 1 ≥ p by omega), if_pos (show 3 ≥ p by omega)]
            omega
          · rw [if_neg b2]
            rw [if_pos (show 7 ≥ p ∧ u.c3 < n3 by omega)]
            unfold lex
            dsimp only
            rw [if_pos (show 1 ≥ p by omega), if_pos (show 3 ≥ p by omega), if_pos (show 5 ≥ p by omega)]
            omega
    · rw [if_neg a0]
      by_cases a1 : 3 ≥ p ∧ t.c1 < n1
      · rw [if_pos a1]
        by_cases b0 : 1 ≥ p ∧ u.c0 < n0
        · rw [if_pos b0]
          unfold lex
          dsimp only
          rw [if_pos (show 1 ≥ p by omega)]
          omega
        · rw [if_neg b0]
          by_cases b1 : 3 ≥ p ∧ u.c1 < n1
          · rw [if_pos b1]
            unfold lex
            dsimp only
            rw [if_pos (show 1 ≥ p by omega), if_pos (show 1 ≥ p by omega)]
            omega
          · rw [if_neg b1]
            by_cases b2 : 5 ≥ p ∧ u.c2 < n2
            · rw [if_pos b2]
              unfold lex
              dsimp only
              rw [if_pos (show 1 ≥ p by omega), if_pos (show 1 ≥ p by omega), if_pos (show 3 ≥ p by omega)]
              omega
            · rw [if_neg b2]
              rw [if_pos (show 7 ≥ p ∧ u.c3 < n3 by omega)]
              unfold lex
              dsimp only
              rw [if_pos (show 1 ≥ p by omega), if_pos (show 1 ≥ p by omega), if_pos (show 3 ≥ p by omega), if_pos (show 5 ≥ p by omega)]
              omega
      · rw [if_neg a1]
        by_cases a2 : 5 ≥ p ∧ t.c2 < n2
        · rw [if_pos a2]
          by_cases b0 : 1 ≥ p ∧ u.c0 < n0
          · rw [if_pos b0]
            unfold lex
            dsimp only
            rw [if_pos (show 1 ≥ p by omega), if_pos (show 3 ≥ p by omega)]
            omega
          · rw [if_neg b0]
            by_cases b1 : 3 ≥ p ∧ u.c1 < n1
            · rw [if_pos b1]
              unfold lex
              dsimp only
              rw [if_pos (show 1 ≥ p by omega), if_pos (show 1 ≥ p by omega), if_pos (show 3 ≥ p by omega)]
              omega
            · rw [if_neg b1]
              by_cases b2 : 5 ≥ p ∧ u.c2 < n2
              · rw [if_pos b2]
                unfold lex
                dsimp only
                rw [if_pos (show 1 ≥ p by omega), if_pos (show 1 ≥ p by omega), if_pos (show 3 ≥ p by omega), if_pos (show 3 ≥ p by omega)]
                omega
              · rw [if_neg b2]
                rw [if_pos (show 7 ≥ p ∧ u.c3 < n3 by omega)]
                unfold lex
                dsimp only
                rw [if_pos (show 1 ≥ p by omega), if_pos (show 1 ≥ p by omega), if_pos (show 3 ≥ p by omega), if_pos (show 3 ≥ p by omega), if_pos (show 5 ≥ p by omega)]
                omega
        · rw [if_neg a2]
          rw [if_pos (show 7 ≥ p ∧ t.c3 < n3 by omega)]
          by_cases b0 : 1 ≥ p ∧ u.c0 < n0
          · rw [if_pos b0]
            unfold lex
            dsimp only
            rw [if_pos (show 1 ≥ p by omega), if_pos (show 3 ≥ p by omega), if_pos (show 5 ≥ p by omega)]
            omega
          · rw [if_neg b0]
            by_cases b1 : 3 ≥ p ∧ u.c1 < n1
            · rw [if_pos b1]
              unfold lex
              dsimp only
              rw [if_pos (show 1 ≥ p by omega), if_pos (show 1 ≥ p by omega), if_pos (show 3 ≥ p by omega), if_pos (show 5 ≥ p by omega)]
              omega
            · rw [if_neg b1]
              by_cases b2 : 5 ≥ p ∧ u.c2 < n2
              · rw [if_pos b2]
                unfold lex
                dsimp only
                rw [if_pos (show 1 ≥ p by omega), if_pos (show 1 ≥ p by omega), if_pos (show 3 ≥ p by omega), if_pos (show 3 ≥ p by omega), if_pos (show 5 ≥ p by omega)]
                omega
              · rw [if_neg b2]
                rw [if_pos (show 7 ≥ p ∧ u.c3 < n3 by omega)]
                unfold lex
                dsimp only
                rw [if_pos (show 1 ≥ p by omega), if_pos (show 1 ≥ p by omega), if_pos (show 3 ≥ p by omega), if_pos (show 3 ≥ p by omega), if_pos (show 5 ≥ p by omega), if_pos (show 5 ≥ p by omega)]
                omega
  · rw [if_neg (show ¬ (1 ≥ p ∧ t.c0 < n0) by omega)]
    by_cases a1 : 3 ≥ p ∧ t.c1 < n1
    · rw [if_pos a1]
      rw [if_neg (show ¬ (1 ≥ p ∧ u.c0 < n0) by omega)]
      by_cases b1 : 3 ≥ p ∧ u.c1 < n1
      · rw [if_pos b1]
        unfold lex
        dsimp only
        rw [if_neg (show ¬ 1 ≥ p by omega), if_neg (show ¬ 1 ≥ p by omega)]
        omega
      · rw [if_neg b1]
        by_cases b2 : 5 ≥ p ∧ u.c2 < n2
        · rw [if_pos b2]
          unfold lex
          dsimp only
          rw [if_neg (show ¬ 1 ≥ p by omega), if_neg (show ¬ 1 ≥ p by omega), if_pos (show 3 ≥ p by omega)]
          omega
        · rw [if_neg b2]
          rw [if_pos (show 7 ≥ p ∧ u.c3 < n3 by omega)]
          unfold lex
          dsimp only
          rw [if_neg (show ¬ 1 ≥ p by omega), if_neg (show ¬ 1 ≥ p by omega), if_pos (show 3 ≥ p by omega), if_pos (show 5 ≥ p by omega)]
          omega
    · rw [if_neg a1]
      by_cases a2 : 5 ≥ p ∧ t.c2 < n2
      · rw [if_pos a2]
        rw [if_neg (show ¬ (1 ≥ p ∧ u.c0 < n0) by omega)]
        by_cases b1 : 3 ≥ p ∧ u.c1 < n1
        · rw [if_pos b1]
          unfold lex
          dsimp only
          rw [if_neg (show ¬ 1 ≥ p by omega), if_neg (show ¬ 1 ≥ p by omega), if_pos (show 3 ≥ p by omega)]
          omega
        · rw [if_neg b1]
          by_cases b2 : 5 ≥ p ∧ u.c2 < n2
          · rw [if_pos b2]
            unfold lex
            dsimp only
            rw [if_neg (show ¬ 1 ≥ p by omega), if_neg (show ¬ 1 ≥ p by omega), if_pos (show 3 ≥ p by omega), if_pos (show 3 ≥ p by omega)]
            omega
          · rw [if_neg b2]
            rw [if_pos (show 7 ≥ p ∧ u.c3 < n3 by omega)]
            unfold lex
            dsimp only
            rw [if_neg (show ¬ 1 ≥ p by omega), if_neg (show ¬ 1 ≥ p by omega), if_pos (show 3 ≥ p by omega), if_pos (show 3 ≥ p by omega), if_pos (show 5 ≥ p by omega)]
            omega
      · rw [if_neg a2]
        rw [if_pos (show 7 ≥ p ∧ t.c3 < n3 by omega)]
        rw [if_neg (show ¬ (1 ≥ p ∧ u.c0 < n0) by omega)]
        by_cases b1 : 3 ≥ p ∧ u.c1 < n1
        · rw [if_pos b1]
          unfold lex
          dsimp only
          rw [if_neg (show ¬ 1 ≥ p by omega), if_neg (show ¬ 1 ≥ p by omega), if_pos (show 3 ≥ p by omega), if_pos (show 5 ≥ p by omega)]
          omega
        · rw [if_neg b1]
          by_cases b2 : 5 ≥ p ∧ u.c2 < n2
          · rw [if_pos b2]
            unfold lex
            dsimp only
            rw [if_neg (show ¬ 1 ≥ p by omega), if_neg (show ¬ 1 ≥ p by omega), if_pos (show 3 ≥ p by omega), if_pos (show 3 ≥ p by omega), if_pos (show 5 ≥ p by omega)]
            omega
          · rw [if_neg b2]
            rw [if_pos (show 7 ≥ p ∧ u.c3 < n3 by omega)]
            unfold lex
            dsimp only
            rw [if_neg (show ¬ 1 ≥ p by omega), if_neg (show ¬ 1 ≥ p by omega), if_pos (show 3 ≥ p by omega), if_pos (show 3 ≥ p by omega), if_pos (show 5 ≥ p by omega), if_pos (show 5 ≥ p by omega)]
            omega
  · rw [if_neg (show ¬ (1 ≥ p ∧ t.c0 < n0) by omega), if_neg (show ¬ (3 ≥ p ∧ t.c1 < n1) by omega)]
    by_cases a2 : 5 ≥ p ∧ t.c2 < n2
    · rw [if_pos a2]
      rw [if_neg (show ¬ (1 ≥ p ∧ u.c0 < n0) by omega), if_neg (show ¬ (3 ≥ p ∧ u.c1 < n1) by omega)]
      by_cases b2 : 5 ≥ p ∧ u.c2 < n2
      · rw [if_pos b2]
        unfold lex
        dsimp only
        rw [if_neg (show ¬ 1 ≥ p by omega), if_neg (show ¬ 1 ≥ p by omega), if_neg (show ¬ 3 ≥ p by omega), if_neg (show ¬ 3 ≥ p by omega)]
        omega
      · rw [if_neg b2]
        rw [if_pos (show 7 ≥ p ∧ u.c3 < n3 by omega)]
        unfold lex
        dsimp only
        rw [if_neg (show ¬ 1 ≥ p by omega), if_neg (show ¬ 1 ≥ p by omega), if_neg (show ¬ 3 ≥ p by omega), if_neg (show ¬ 3 ≥ p by omega), if_pos (show 5 ≥ p by omega)]
        omega
    · rw [if_neg a2]
      rw [if_pos (show 7 ≥ p ∧ t.c3 < n3 by omega)]
      rw [if_neg (show ¬ (1 ≥ p ∧ u.c0 < n0) by omega), if_neg (show ¬ (3 ≥ p ∧ u.c1 < n1) by omega)]
      by_cases b2 : 5 ≥ p ∧ u.c2 < n2
      · rw [if_pos b2]
        unfold lex
        dsimp only
        rw [if_neg (show ¬ 1 ≥ p by omega), if_neg (show ¬ 1 ≥ p by omega), if_neg (show ¬ 3 ≥ p by omega), if_neg (show ¬ 3 ≥ p by omega), if_pos (show 5 ≥ p by omega)]
        omega
      · rw [if_neg b2]
        rw [if_pos (show 7 ≥ p ∧ u.c3 < n3 by omega)]
        unfold lex
        dsimp only
        rw [if_neg (show ¬ 1 ≥ p by omega), if_neg (show ¬ 1 ≥ p by omega), if_neg (show ¬ 3 ≥ p by omega), if_neg (show ¬ 3 ≥ p by omega), if_pos (show 5 ≥ p by omega), if_pos (show 5 ≥ p by omega)]
        omega
  · rw [if_neg (show ¬ (1 ≥ p ∧ t.c0 < n0) by omega), if_neg (show ¬ (3 ≥ p ∧ t.c1 < n1) by omega), if_neg (show ¬ (5 ≥ p ∧ t.c2 < n2) by omega)]
    rw [if_pos (show 7 ≥ p ∧ t.c3 < n3 by omega)]
    rw [if_neg (show ¬ (1 ≥ p ∧ u.c0 < n0) by omega), if_neg (show ¬ (3 ≥ p ∧ u.c1 < n1) by omega), if_neg (show ¬ (5 ≥ p ∧ u.c2 < n2) by omega)]
    rw [if_pos (show 7 ≥ p ∧ u.c3 < n3 by omega)]
    unfold lex
    dsimp only
    rw [if_neg (show ¬ 1 ≥ p by omega), if_neg (show ¬ 1 ≥ p by omega), if_neg (show ¬ 3 ≥ p by omega), if_neg (show ¬ 3 ≥ p by omega), if_neg (show ¬ 5 ≥ p by omega), if_neg (show ¬ 5 ≥ p by omega)]
    omega
theorem inc_f {n0 n1 n2 n3 p : Int} {t : Tup} (h : (1 ≥ p ∧ t.c0 < n0) ∨ (3 ≥ p ∧ t.c1 < n1) ∨ (5 ≥ p ∧ t.c2 < n2) ∨ (7 ≥ p ∧ t.c3 < n3)) : (incT n0 n1 n2 n3 p t).top = false := by
  unfold incT
  by_cases h0 : 1 ≥ p ∧ t.c0 < n0
  · rw [if_pos h0]
  · rw [if_neg h0]
    by_cases h1 : 3 ≥ p ∧ t.c1 < n1
    · rw [if_pos h1]
    · rw [if_neg h1]
      by_cases h2 : 5 ≥ p ∧ t.c2 < n2
      · rw [if_pos h2]
      · rw [if_neg h2, if_pos (by omega)]
theorem inc_mono {n0 n1 n2 n3 p : Int} {t u : Tup} (ht : Bnd n0 n1 n2 n3 t) (hu : Bnd n0 n1 n2 n3 u) (h : lex t u) (k0 : ¬ 1 ≥ p → t.c0 = 0 ∧ u.c0 = 0) (k1 : ¬ 3 ≥ p → t.c1 = 0 ∧ u.c1 = 0) (k2 : ¬ 5 ≥ p → t.c2 = 0 ∧ u.c2 = 0) (k3 : ¬ 7 ≥ p → t.c3 = 0 ∧ u.c3 = 0) :
    leT (incT n0 n1 n2 n3 p t) (incT n0 n1 n2 n3 p u) := by
  obtain ⟨_, t0, t1, t2, t3⟩ := ht
  obtain ⟨_, u0, u1, u2, u3⟩ := hu
  unfold lex at h
  by_cases hu4 : (1 ≥ p ∧ u.c0 < n0) ∨ (3 ≥ p ∧ u.c1 < n1) ∨ (5 ≥ p ∧ u.c2 < n2) ∨ (7 ≥ p ∧ u.c3 < n3)
  · have ht4 : (1 ≥ p ∧ t.c0 < n0) ∨ (3 ≥ p ∧ t.c1 < n1) ∨ (5 ≥ p ∧ t.c2 < n2) ∨ (7 ≥ p ∧ t.c3 < n3) := by omega
    exact (leT_ff (inc_f ht4) (inc_f hu4)).2 (inc_lex t0 t1 t2 t3 u0 u1 u2 u3 h k0 k1 k2 k3 ht4 hu4)
  · have e : incT n0 n1 n2 n3 p u = tupT := by
      unfold incT
      rw [if_neg (by omega), if_neg (by omega), if_neg (by omega), if_neg (by omega)]
    rw [e]
    exact leT_top rfl
theorem up_mono {n0 n1 n2 n3 p : Int} {t u : Tup} (ht : Bnd n0 n1 n2 n3 t) (hu : Bnd n0 n1 n2 n3 u) (h : leT t u) : leT (upT n0 n1 n2 n3 p t) (upT n0 n1 n2 n3 p u) := by
  cases htop : u.top
  · cases htt : t.top
    · rw [leT_ff htt htop] at h
      unfold upT
      rw [if_neg (show ¬ t.top = true by rw [htt]; decide), if_neg (show ¬ u.top = true by rw [htop]; decide)]
      by_cases ho : odd1 p
      · rw [if_pos ho, if_pos ho]
        refine inc_mono (keep_bnd ht) (keep_bnd hu) (keep_lex h) ?_ ?_ ?_ ?_ <;> (intro hn; simp only [keepT, if_neg hn]; exact ⟨trivial, trivial⟩)
      · rw [if_neg ho, if_neg ho]
        exact (leT_ff rfl rfl).2 (keep_lex h)
    · rw [leT_tf h htt] at htop
      cases htop
  · have e : upT n0 n1 n2 n3 p u = tupT := by unfold upT; rw [if_pos htop]
    rw [e]
    exact leT_top rfl
end Go.Proofs.Ytklbpajmoklheaa
