/-
  Plain: what more the laws of games ask. No program.
-/
import Derived.Test.YtkkophhnliplhaaDoorPureGame9
set_option linter.unusedVariables false
set_option linter.unusedSimpArgs false
namespace Go.Proofs.YtkkophhnliplhaaDoor
open Go Go.RowKit
theorem rightP_ok {g : GameL} (hG : RightG g) : rightP g = (0, 0) := by
  have hpl := hG.pl
  have hml := hG.ml
  have hn0 := hG.n0
  have hn1 := hG.n1
  rw [right_ok ⟨hpl, hml⟩ (by omega) fun j hj => ?_]
  have h1 := hG.ow j (by omega) (by omega)
  have h4 := hG.pr j (by omega) (by omega)
  have h5 := hG.ne j (by omega) (by omega)
  have hb := row_fine (n := (g.ow.length : Int)) (row := gL g.mv j) (fun k a b => hG.mv j (by omega) (by omega) k a b) (fun k a b => hG.up j (by omega) (by omega) k a b) (gL g.mv j).length (Nat.le_refl _)
  rw [List.take_of_length_le (Nat.le_refl _)] at hb
  simp only [gI, gL, Int.toNat_natCast] at h1 h4 h5 hb
  unfold GameL.err posErr
  rw [if_neg (by omega), if_neg (by omega), if_neg (by omega), if_neg (by rw [hb]; decide)]
theorem dual_own {g : GameL} (h : (dualG g).ow.length ≠ 0) {p q : Int} (hq : q = 1 - p) : wordsD (amoD (dualG g).ow p) = wordsD (amoD g.ow q) := by
  have h2 := dual_some h
  rw [amo_dual h2.1 h2.2, hq]
theorem beqF {a b : Int} (h : a ≠ b) : (a == b) = false := by simp [h]
theorem nbb {a b : Bool} (h : a = b) : (!(a == b)) = false := by subst h; cases a <;> rfl
theorem bbT {a b : Bool} (h : a = b) : (a == b) = true := by subst h; cases a <;> rfl
end Go.Proofs.YtkkophhnliplhaaDoor
