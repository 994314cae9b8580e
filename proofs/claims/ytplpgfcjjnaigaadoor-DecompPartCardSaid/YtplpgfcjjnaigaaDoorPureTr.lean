/-
  Plain: who wins where, carried over from a game to another one. No program.
-/
import Derived.Test.YtplpgfcjjnaigaaDoorPureSol
set_option linter.unusedVariables false
set_option linter.unusedSimpArgs false
namespace Go.Proofs.YtplpgfcjjnaigaaDoor
open Go Go.RowKit
theorem Way.map {E F : Int → Int → Prop} {u : Int → Int} (hi : ∀ a b, E a b → F (u a) (u b)) : ∀ {a b : Int}, Way E a b → Way F (u a) (u b)
  | _, _, .one h => .one (hi _ _ h)
  | _, _, .more h k => .more (hi _ _ h) (Way.map hi k)
/-- A region of g, seen in g2: u tells which position of g one of g2 is. -/
theorem win_tr {g g2 : GameL} {I W I2 W2 : Int → Prop} {p p2 : Int} {f f2 : Int → Int} (u : Int → Int) (h : WinT g I p f W) (hs : ∀ i, W2 i → I2 i) (hW : ∀ i, W2 i → W (u i)) (ho : ∀ i, W2 i → (gI g2.ow i = p2 ↔ gI g.ow (u i) = p))
    (hm : ∀ i, W2 i → ∀ m ∈ gL g2.mv i, I2 m → u m ∈ gL g.mv (u i) ∧ I (u m)) (hf : ∀ i, W2 i → gI g2.ow i = p2 → f2 i ∈ gL g2.mv i ∧ I2 (f2 i) ∧ u (f2 i) = f (u i)) (hb : ∀ i, W2 i → ∀ m ∈ gL g2.mv i, I2 m → W (u m) → W2 m)
    (hp : ∀ i, W2 i → gI g2.pr i % 2 ≠ p2 → gI g.pr (u i) % 2 ≠ p) (hle : ∀ i j, W2 i → W2 j → gI g2.pr i ≤ gI g2.pr j → gI g.pr (u i) ≤ gI g.pr (u j)) : WinT g2 I2 p2 f2 W2 := by
  have own : ∀ i, W2 i → gI g2.ow i = p2 → f2 i ∈ gL g2.mv i ∧ W2 (f2 i) := fun i hi e => by
    have h1 := hf i hi e
    refine ⟨h1.1, hb i hi _ h1.1 h1.2.1 ?_⟩
    rw [h1.2.2]
    exact (h.own _ (hW i hi) ((ho i hi).1 e)).2
  have oth : ∀ i, W2 i → gI g2.ow i ≠ p2 → ∀ m ∈ gL g2.mv i, I2 m → W2 m := fun i hi e m hmm hI => by
    have h1 := hm i hi m hmm hI
    exact hb i hi m hmm hI (h.oth _ (hW i hi) (fun e2 => e ((ho i hi).2 e2)) _ h1.1 h1.2)
  refine ⟨hs, own, oth, fun i hi e hw => ?_⟩
  refine h.cyc (u i) (hW i hi) (hp i hi e) (Way.map (u := u) (E := lowE g2 I2 p2 f2 W2 (gI g2.pr i)) ?_ hw)
  rintro a b ⟨⟨h1, h2, h3, h4⟩, h5, h6⟩
  have hb2 : W2 b := by
    by_cases e2 : gI g2.ow a = p2
    · rw [h4 e2]
      exact (own a h1 e2).2
    · exact oth a h1 e2 b h2 h3
  have h7 := hm a h1 b h2 h3
  refine ⟨⟨hW a h1, h7.1, h7.2, fun e2 => ?_⟩, hle a i h1 hi h5, hle b i hb2 hi h6⟩
  have e3 := (ho a h1).2 e2
  rw [h4 e3]
  exact (hf a h1 e3).2.2
/-- Lists of sets with the same positions. -/
theorem ls_same {s t : List Int} (hs : OkW s) (ht : OkW t) (h : ∀ i, inP s i ↔ inP t i) : s = t :=
  (set_iff hs ht).2 fun j a b => by
    rw [Bool.eq_iff_iff]
    have := h j
    unfold inP at this
    exact ⟨fun e => (this.1 ⟨a, b, e⟩).2.2, fun e => (this.2 ⟨a, b, e⟩).2.2⟩
/-- The two games' answers, where the second one's regions are regions of the first one. -/
theorem sol_same {g : GameL} (hR : isR g = true) {s0 s1 m0 m1 t0 t1 : List Int} {d : Int} {f0 f1 : Int → Int} (h : SolT g s0 s1 m0 m1 d) (h0 : OkW t0) (h1 : OkW t1) (k : Split g g.ow.length (inP t0) (inP t1) f0 f1) : s0 = t0 ∧ s1 = t1 := by
  have := split_one (isR_ok hR) h.sp k
  exact ⟨ls_same h.ok0 h0 this.1, ls_same h.ok1 h1 this.2⟩
end Go.Proofs.YtplpgfcjjnaigaaDoor
