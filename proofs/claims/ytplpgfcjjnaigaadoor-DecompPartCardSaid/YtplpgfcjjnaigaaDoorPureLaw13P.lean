/-
  Plain: within its region a player wins everywhere (law DecompPart). No program.
-/
import Derived.Test.YtplpgfcjjnaigaaDoorPureLaw13
import Derived.Test.YtplpgfcjjnaigaaDoorPurePart
set_option linter.unusedVariables false
set_option linter.unusedSimpArgs false
namespace Go.Proofs.YtplpgfcjjnaigaaDoor
open Go Go.RowKit
theorem ls_eqB {l a : List Bool} : ∀ k : Nat, (∀ r : Nat, r < k → gB l (r : Int) = gB a (r : Int)) → lsD l k = lsD a k
  | 0, _ => rfl
  | k + 1, h => by rw [lsD, lsD, h k (by omega), ls_eqB k (fun r hr => h r (by omega))]
section
variable {g : GameL} {s : List Int} {p : Int} {f : Int → Int}
theorem reg_ls (hl : ∀ i, inP s i → i < (g.ow.length : Int)) : lsD (inT g s) 256 = lsD (fromW s) 256 := ls_eqB 256 fun r hr => by
  rw [Bool.eq_iff_iff, inT_inP hl (by omega) (by omega)]
  exact ⟨fun h => h.2.2, fun h => ⟨by omega, by omega, h⟩⟩
theorem reg_b (hR : isR g = true) (hw : WinT g (fun i => 0 ≤ i ∧ i < (g.ow.length : Int)) p f (inP s)) (hne : 0 < (lsD (fromW s) 256).length) : subB g (inT g s) = true := by
  have hG := isR_ok hR
  have hn := hG.n1
  have hl : ∀ i, inP s i → i < (g.ow.length : Int) := fun i hi => (hw.sub i hi).2
  have hall : subAll g (inT g s) = true := List.all_eq_true.2 fun i hi => by
    have h1 := mem_ls.1 hi
    have hs : inP s i := (inT_inP hl h1.1 h1.2.1).1 h1.2.2
    have hr := hw.sub i hs
    have hx : subR g (inT g s) i ≠ [] := subR_ne.2 (by
      by_cases e : gI g.ow i = p
      · have h2 := hw.own i hs e
        exact ⟨f i, h2.1, (inT_inP hl h2.2.1 h2.2.2.1).2 h2.2⟩
      · have h2 := hG.ne i hr.1 hr.2
        have hm : gI (gL g.mv i) 0 ∈ gL g.mv i := mem_of_gI (by omega) (by omega)
        have hmr := row_rng hR hr.1 hr.2 hm
        have h3 := hw.oth i hs e _ hm hmr
        exact ⟨_, hm, (inT_inP hl h3.1 h3.2.1).2 h3⟩)
    cases e : subR g (inT g s) i with
    | nil => exact absurd e hx
    | cons _ _ => rfl
  unfold subB subOk
  rw [hR, hall, reg_ls hl, decide_eq_true (by omega)]
  rfl
theorem reg_win (hR : isR g = true) (hw : WinT g (fun i => 0 ≤ i ∧ i < (g.ow.length : Int)) p f (inP s)) (hb : subB g (inT g s) = true) {n : Nat} (hn : n = (subG g (inT g s)).ow.length) :
    ∃ f2, WinT (subG g (inT g s)) (fun i => 0 ≤ i ∧ i < (n : Int)) p f2 (fun i => 0 ≤ i ∧ i < (n : Int)) := by
  subst hn
  have hP := part_t hb
  have hlo := hP.lo
  have hn1 := (isR_ok hR).n1
  have hl : ∀ i, inP s i → i < (g.ow.length : Int) := fun i hi => (hw.sub i hi).2
  have hu : ∀ i : Int, 0 ≤ i → i < ((subO g (inT g s)).length : Int) → inP s (gI (subO g (inT g s)) i) := fun i a b => by
    have h1 := hP.e i a b
    rw [hP.eo] at b h1 ⊢
    exact (inT_inP hl h1.1 (by omega)).1 (ls_rng a b).2.2
  have hmv : ∀ i : Int, 0 ≤ i → i < ((subO g (inT g s)).length : Int) → ∀ m, m ∈ gL (subG g (inT g s)).mv i ↔ ∃ z ∈ gL g.mv (gI (subO g (inT g s)) i), gB (inT g s) z = true ∧ posI (inT g s) z = m := fun i a b m => by
    rw [hP.mv i a b]
    unfold subR
    rw [List.mem_map]
    exact ⟨fun ⟨z, h1, h2⟩ => ⟨z, (List.mem_filter.1 h1).1, (List.mem_filter.1 h1).2, h2⟩, fun ⟨z, h1, h2, h3⟩ => ⟨z, List.mem_filter.2 ⟨h1, h2⟩, h3⟩⟩
  have hpos : ∀ z : Int, 0 ≤ z → z < (g.ow.length : Int) → gB (inT g s) z = true → 0 ≤ posI (inT g s) z ∧ posI (inT g s) z < ((subO g (inT g s)).length : Int) ∧ gI (subO g (inT g s)) (posI (inT g s) z) = z := fun z a b h => by
    rw [hP.eo]
    exact pos_at a (by omega) h
  refine ⟨fun i => posI (inT g s) (f (gI (subO g (inT g s)) i)), win_tr (gI (subO g (inT g s))) hw (fun i hi => hi) (fun i hi => hu i hi.1 (by omega)) (fun i hi => ?_) (fun i hi m hmm hI => ?_) (fun i hi e => ?_) (fun i hi m hmm hI hWm => hI) (fun i hi e => ?_) (fun i j hi hj hle => ?_)⟩
  · rw [(hP.e i hi.1 (by omega)).2.2.1]
  · obtain ⟨z, h1, h2, rfl⟩ := (hmv i hi.1 (by omega) m).1 hmm
    have hr := hP.e i hi.1 (by omega)
    have hz := row_rng hR hr.1 hr.2.1 h1
    rw [(hpos z hz.1 hz.2 h2).2.2]
    exact ⟨h1, hz⟩
  · rw [(hP.e i hi.1 (by omega)).2.2.1] at e
    have h2 := hw.own _ (hu i hi.1 (by omega)) e
    have h3 := hw.sub _ h2.2
    have h4 := (inT_inP hl h3.1 (by omega)).2 h2.2
    have h5 := hpos _ h3.1 h3.2 h4
    exact ⟨(hmv i hi.1 (by omega) _).2 ⟨_, h2.1, h4, rfl⟩, ⟨h5.1, by omega⟩, h5.2.2⟩
  · rwa [(hP.e i hi.1 (by omega)).2.2.2] at e
  · rwa [(hP.e i hi.1 (by omega)).2.2.2, (hP.e j hj.1 (by omega)).2.2.2] at hle
end
theorem full_reg {h : GameL} {t0 t1 : List Int} (hn : h.ow.length ≤ 200) (h0 : OkW t0) (h1 : OkW t1) (e0 : ∀ i, inP t0 i ↔ 0 ≤ i ∧ i < (h.ow.length : Int)) (e1 : ∀ i, ¬ inP t1 i) : (lsD (fromW t0) 256).length = h.ow.length ∧ (lsD (fromW t1) 256).length = 0 := by
  constructor
  · have : t0 = fullW ((h.ow.length : Nat) : Int) := ls_same h0 (fullW_W _) (fun i => by rw [e0 i, inP_full (by omega)])
    have h2 := lenW_full (n := h.ow.length) (by omega)
    rw [← this, lenW_ls] at h2
    omega
  · cases e : lsD (fromW t1) 256 with
    | nil => rfl
    | cons z _ => exact absurd (inP_ls.1 (by rw [e]; exact List.mem_cons_self)) (e1 z)
theorem win_empty {h : GameL} {I : Int → Prop} {p : Int} {f : Int → Int} : WinT h I p f (fun _ => False) := ⟨fun _ h => h.elim, fun _ h => h.elim, fun _ h => h.elim, fun _ h => h.elim⟩
/-- What the law asks of a player's region. -/
theorem part_sol {g : GameL} (hR : isR g = true) {la lb ma mb : List Int} {d : Int} (hs : SolveT g la lb ma mb d) :
    (0 < la.length → subB g (inT g (ofW la)) = true ∧ (subO g (inT g (ofW la))).length = la.length ∧ ∀ lc ld mc md e, SolveT (subG g (inT g (ofW la))) lc ld mc md e → lc.length = (subO g (inT g (ofW la))).length ∧ ld.length = 0) ∧
    (0 < lb.length → subB g (inT g (ofW lb)) = true ∧ (subO g (inT g (ofW lb))).length = lb.length ∧ ∀ lc ld mc md e, SolveT (subG g (inT g (ofW lb))) lc ld mc md e → ld.length = (subO g (inT g (ofW lb))).length ∧ lc.length = 0) := by
  obtain ⟨s0, s1, rfl, rfl, hS⟩ := hs.right hR
  rw [of_list hS.ok0, of_list hS.ok1]
  refine ⟨fun hne => ?_, fun hne => ?_⟩
  · have hb := reg_b hR hS.sp.w0 hne
    have hP := part_t hb
    refine ⟨hb, by rw [hP.eo, reg_ls (fun i hi => (hS.sp.w0.sub i hi).2)], fun lc ld mc md e hT => ?_⟩
    have hR2 := isR_of hP.r
    obtain ⟨t0, t1, rfl, rfl, hU⟩ := hT.right hR2
    obtain ⟨f2, hw⟩ := reg_win hR hS.sp.w0 hb rfl
    have h1 := split_one (isR_ok hR2) hU.sp ⟨fun i a b => .inl ⟨a, b⟩, hw, win_empty (f := f2)⟩
    rw [← hP.lo]
    exact full_reg hP.r.n1 hU.ok0 hU.ok1 h1.1 (fun i hi => (h1.2 i).1 hi)
  · have hb := reg_b hR hS.sp.w1 hne
    have hP := part_t hb
    refine ⟨hb, by rw [hP.eo, reg_ls (fun i hi => (hS.sp.w1.sub i hi).2)], fun lc ld mc md e hT => ?_⟩
    have hR2 := isR_of hP.r
    obtain ⟨t0, t1, rfl, rfl, hU⟩ := hT.right hR2
    obtain ⟨f2, hw⟩ := reg_win hR hS.sp.w1 hb rfl
    have h1 := split_one (isR_ok hR2) hU.sp ⟨fun i a b => .inr ⟨a, b⟩, win_empty (f := f2), hw⟩
    rw [← hP.lo]
    exact full_reg hP.r.n1 hU.ok1 hU.ok0 h1.2 (fun i hi => (h1.1 i).1 hi)
end Go.Proofs.YtplpgfcjjnaigaaDoor
