/-
  Plain: the numbers of positions do not matter (law DecompMoved). No program.
-/
import Derived.Test.YtplpgfcjjnaigaaDoorPureLaw13
import Derived.Test.YtplpgfcjjnaigaaDoorLem
set_option linter.unusedVariables false
set_option linter.unusedSimpArgs false
namespace Go.Proofs.YtplpgfcjjnaigaaDoor
open Go Go.RowKit
/-- A row of moves, the numbers the other way round. -/
def movR (g : GameL) (i : Int) : List Int := limL (fun j => ((g.ow.length : Nat) : Int) - 1 - gI (gL g.mv i) ((((gL g.mv i).length : Nat) : Int) - 1 - j)) (((gL g.mv i).length : Nat) : Int)
theorem movR_len (g : GameL) (i : Int) : (movR g i).length = (gL g.mv i).length := by unfold movR; rw [lim_len]; omega
theorem mem_movR {g : GameL} {i x : Int} : x ∈ movR g i ↔ ((g.ow.length : Nat) : Int) - 1 - x ∈ gL g.mv i := by
  constructor
  · intro h
    obtain ⟨k, hk, rfl⟩ := List.mem_iff_getElem.1 h
    have hl := movR_len g i
    have e := gI_eq (l := movR g i) (k := (k : Int)) (by omega) (by omega)
    simp only [Int.toNat_natCast] at e
    rw [← e, movR, gI_lim (by omega) (by omega)]
    have := mem_of_gI (l := gL g.mv i) (k := (((gL g.mv i).length : Nat) : Int) - 1 - (k : Int)) (by omega) (by omega)
    rwa [show ((g.ow.length : Nat) : Int) - 1 - (((g.ow.length : Nat) : Int) - 1 - gI (gL g.mv i) ((((gL g.mv i).length : Nat) : Int) - 1 - (k : Int))) = gI (gL g.mv i) ((((gL g.mv i).length : Nat) : Int) - 1 - (k : Int)) by omega]
  · intro h
    obtain ⟨k, hk, e⟩ := List.mem_iff_getElem.1 h
    have hl := movR_len g i
    have e2 : gI (movR g i) ((((gL g.mv i).length : Nat) : Int) - 1 - (k : Int)) = x := by
      rw [movR, gI_lim (by omega) (by omega), show (((gL g.mv i).length : Nat) : Int) - 1 - ((((gL g.mv i).length : Nat) : Int) - 1 - (k : Int)) = (k : Int) by omega, gI_eq (by omega) (by omega)]
      simp only [Int.toNat_natCast, e]
      omega
    rw [← e2]
    exact mem_of_gI (by omega) (by omega)
section
variable {g : GameL} {xo xp : List Int} {xm : List (List Int)} {i : Int}
/-- The game with the numbers the other way round. -/
structure MovT (g : GameL) (xo xp : List Int) (xm : List (List Int)) : Prop where
  o : xo = limL (fun j => gI g.ow (((g.ow.length : Nat) : Int) - 1 - j)) ((g.ow.length : Nat) : Int)
  p : xp = limL (fun j => gI g.pr (((g.ow.length : Nat) : Int) - 1 - j)) ((g.ow.length : Nat) : Int)
  m : xm = limL (fun j => movR g (((g.ow.length : Nat) : Int) - 1 - j)) ((g.ow.length : Nat) : Int)
theorem mov_t {z : Int} (ho : xo = limL (fun j => gI g.ow (((g.ow.length : Nat) : Int) - 1 - j)) z) (hp : xp = limL (fun j => gI g.pr (((g.ow.length : Nat) : Int) - 1 - j)) z) (hm : xm = limL (fun j => movR g (((g.ow.length : Nat) : Int) - 1 - j)) z) (hz : z = ((g.ow.length : Nat) : Int)) : MovT g xo xp xm := by
  subst hz
  exact ⟨ho, hp, hm⟩
theorem mov_right (hR : isR g = true) (h : MovT g xo xp xm) : isR ⟨xo, xp, xm⟩ = true := by
  have hG := isR_ok hR
  obtain ⟨rfl, rfl, rfl⟩ := h
  have l0 : (limL (fun j => gI g.ow (((g.ow.length : Nat) : Int) - 1 - j)) ((g.ow.length : Nat) : Int)).length = g.ow.length := by rw [lim_len]; omega
  have l1 : (limL (fun j => gI g.pr (((g.ow.length : Nat) : Int) - 1 - j)) ((g.ow.length : Nat) : Int)).length = g.ow.length := by rw [lim_len]; omega
  have l2 : (limL (fun j => movR g (((g.ow.length : Nat) : Int) - 1 - j)) ((g.ow.length : Nat) : Int)).length = g.ow.length := by rw [lim_len]; omega
  refine isR_of ⟨l1.trans l0.symm, l2.trans l0.symm, ?_, ?_, ?_, ?_, ?_, ?_, ?_⟩
  · dsimp only
    have := hG.n0
    omega
  · dsimp only
    have := hG.n1
    omega
  · intro i a b
    dsimp only at b ⊢
    rw [gI_lim a (by omega)]
    exact hG.ow _ (by omega) (by omega)
  · intro i a b
    dsimp only at b ⊢
    rw [gI_lim a (by omega)]
    exact hG.pr _ (by omega) (by omega)
  · intro i a b
    dsimp only at b ⊢
    rw [gL_lim a (by omega), movR_len]
    exact hG.ne _ (by omega) (by omega)
  · intro i a b k c d
    dsimp only at b d ⊢
    rw [gL_lim a (by omega)] at d ⊢
    have h1 := mem_movR.1 (mem_of_gI c d)
    have h2 := row_rng hR (i := ((g.ow.length : Nat) : Int) - 1 - i) (by omega) (by omega) h1
    omega
  · intro i a b k c d
    dsimp only at b d ⊢
    rw [gL_lim a (by omega)] at d ⊢
    rw [movR_len] at d
    rw [movR, gI_lim (by omega) (by omega), gI_lim (by omega) (by omega)]
    have := hG.up (((g.ow.length : Nat) : Int) - 1 - i) (by omega) (by omega) ((((gL g.mv (((g.ow.length : Nat) : Int) - 1 - i)).length : Nat) : Int) - 1 - (k - 1)) (by omega) (by omega)
    rw [show (((gL g.mv (((g.ow.length : Nat) : Int) - 1 - i)).length : Nat) : Int) - 1 - (k - 1) - 1 = (((gL g.mv (((g.ow.length : Nat) : Int) - 1 - i)).length : Nat) : Int) - 1 - k by omega] at this
    omega
theorem mov_inner (hG : RightG g) (h : MovT g xo xp xm) : ∀ q, q < xm.length → (xm.getD q []).length * 8 ≤ 140737488351232 := by
  obtain ⟨_, _, rfl⟩ := h
  intro q hq
  rw [lim_len] at hq
  have e : (limL (fun j => movR g (((g.ow.length : Nat) : Int) - 1 - j)) ((g.ow.length : Nat) : Int)).getD q [] = movR g (((g.ow.length : Nat) : Int) - 1 - (q : Int)) := by
    have := gL_lim (f := fun j => movR g (((g.ow.length : Nat) : Int) - 1 - j)) (k := ((g.ow.length : Nat) : Int)) (j := (q : Int)) (by omega) (by omega)
    simpa [gL] using this
  rw [e, movR_len]
  have := row_len hG (i := ((g.ow.length : Nat) : Int) - 1 - (q : Int)) (by omega) (by omega)
  have := hG.n1
  omega
theorem moved_sol (hR : isR g = true) (h : MovT g xo xp xm) {l0 l1 m0 m1 k0 k1 n0 n1 : List Int} {d d2 : Int} (ha : SolveT g l0 l1 m0 m1 d) (hb : SolveT ⟨xo, xp, xm⟩ k0 k1 n0 n1 d2) (i : Int) (a : 0 ≤ i) (b : i < (g.ow.length : Int)) :
    hasW (ofW l0) i = hasW (ofW k0) (((g.ow.length : Nat) : Int) - 1 - i) := by
  have hR2 := mov_right hR h
  obtain ⟨s0, s1, rfl, rfl, hS⟩ := ha.right hR
  obtain ⟨t0, t1, rfl, rfl, hT⟩ := hb.right hR2
  have hG := isR_ok hR
  obtain ⟨ho, hp, hm⟩ := h
  have l0 : xo.length = g.ow.length := by rw [ho, lim_len]; omega
  have eo : ∀ i : Int, 0 ≤ i → i < (g.ow.length : Int) → gI xo i = gI g.ow (((g.ow.length : Nat) : Int) - 1 - i) := fun i a b => by rw [ho, gI_lim a b]
  have ep : ∀ i : Int, 0 ≤ i → i < (g.ow.length : Int) → gI xp i = gI g.pr (((g.ow.length : Nat) : Int) - 1 - i) := fun i a b => by rw [hp, gI_lim a b]
  have em : ∀ i : Int, 0 ≤ i → i < (g.ow.length : Int) → gL xm i = movR g (((g.ow.length : Nat) : Int) - 1 - i) := fun i a b => by rw [hm, gL_lim a b]
  have key : ∀ {W : Int → Prop} {p : Int} {f : Int → Int}, WinT g (fun i => 0 ≤ i ∧ i < (g.ow.length : Int)) p f W → WinT ⟨xo, xp, xm⟩ (fun i => 0 ≤ i ∧ i < (g.ow.length : Int)) p (fun i => ((g.ow.length : Nat) : Int) - 1 - f (((g.ow.length : Nat) : Int) - 1 - i)) (fun i => W (((g.ow.length : Nat) : Int) - 1 - i)) := fun {W p f} hw => by
    have hr : ∀ i, W (((g.ow.length : Nat) : Int) - 1 - i) → 0 ≤ i ∧ i < (g.ow.length : Int) := fun i hi => by have := hw.sub _ hi; omega
    refine win_tr (fun i => ((g.ow.length : Nat) : Int) - 1 - i) hw hr (fun i hi => hi) (fun i hi => ?_) (fun i hi m hmm hI => ?_) (fun i hi e => ?_) (fun i hi m hmm hI hWm => hWm) (fun i hi e => ?_) (fun i j hi hj hle => ?_)
    · have h1 := hr i hi
      show gI xo i = p ↔ _
      rw [eo i h1.1 h1.2]
    · have h1 := hr i hi
      have hmm : m ∈ gL xm i := hmm
      rw [em i h1.1 h1.2] at hmm
      exact ⟨mem_movR.1 hmm, by omega⟩
    · have h1 := hr i hi
      have e : gI xo i = p := e
      rw [eo i h1.1 h1.2] at e
      have h2 := hw.own _ hi e
      have h3 := hw.sub _ h2.2
      refine ⟨?_, by omega, by omega⟩
      show _ ∈ gL xm i
      rw [em i h1.1 h1.2, mem_movR, show ((g.ow.length : Nat) : Int) - 1 - (((g.ow.length : Nat) : Int) - 1 - f (((g.ow.length : Nat) : Int) - 1 - i)) = f (((g.ow.length : Nat) : Int) - 1 - i) by omega]
      exact h2.1
    · have h1 := hr i hi
      have e : gI xp i % 2 ≠ p := e
      rwa [ep i h1.1 h1.2] at e
    · have h1 := hr i hi
      have h2 := hr j hj
      have hle : gI xp i ≤ gI xp j := hle
      rwa [ep i h1.1 h1.2, ep j h2.1 h2.2] at hle
  have hsp : Split ⟨xo, xp, xm⟩ xo.length (fun i => inP s0 (((g.ow.length : Nat) : Int) - 1 - i)) (fun i => inP s1 (((g.ow.length : Nat) : Int) - 1 - i)) (fun i => ((g.ow.length : Nat) : Int) - 1 - gI m0 (((g.ow.length : Nat) : Int) - 1 - i)) (fun i => ((g.ow.length : Nat) : Int) - 1 - gI m1 (((g.ow.length : Nat) : Int) - 1 - i)) := by
    rw [l0]
    exact ⟨fun i a b => hS.sp.all _ (by omega) (by omega), key hS.sp.w0, key hS.sp.w1⟩
  have h1 := (split_one (isR_ok hR2) hT.sp hsp).1 (((g.ow.length : Nat) : Int) - 1 - i)
  rw [of_list hS.ok0, of_list hT.ok0, Bool.eq_iff_iff, inP_has, inP_has, h1, show ((g.ow.length : Nat) : Int) - 1 - (((g.ow.length : Nat) : Int) - 1 - i) = i by omega]
end
end Go.Proofs.YtplpgfcjjnaigaaDoor
