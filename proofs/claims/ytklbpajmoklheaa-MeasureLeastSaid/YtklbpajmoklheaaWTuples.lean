/-
  A walk of a Go function, printed by a program of this repo. Conditions: what the theorems name.
-/
import Derived.Test.YtklbpajmoklheaaPureBest
set_option linter.unusedVariables false
set_option linter.unusedSimpArgs false
namespace Go.Proofs.Ytklbpajmoklheaa
open Go Go.RowKit

set_option maxHeartbeats 4000000 in
theorem tuples_any {As : Option Addr} {cs : Nat} {ls : List Tup} {w : World} (rs : RdR w 0 w.heap.size As ls) :
    Calls Try.prog 26 #[.slice As ls.length cs] w fun e w' => ∃ A c, e = .returned (.slice A (ls).length c) ∧ Ext w w' ∧ OwnR w' (Sx w.heap.size []) A c 41 (ls : List Tup) := by
 have hls := rs.len
 simp only [Enc.bytes] at hls
 refine enter_ (args := [.slice As ls.length cs]) Try.func26 rfl Try.ntmps26 (Nat.le_of_ble_eq_true rfl) (fun act0 f0 => ?_)
 have e0 := Ext.refl w
 refine wp_seq ?_
 refine At.start ?_
 refine At.rd f0 1 [[]] [(2, .slice none 0 0)] [] (by kernel_rfl) trivial (fun act2 f1 => ?_)
 clear f0
 refine At.done rfl ?_
 refine t_n ?_
 refine wp_seq ?_
 refine At.start ?_
 refine At.rd f1 1 [[]] [(3, .slice none 0 0)] [] (by kernel_rfl) trivial (fun act4 f3 => ?_)
 clear f1
 refine At.done rfl ?_
 refine t_n ?_
 refine wp_seq ?_
 refine wp_seq ?_
 refine At.start ?_
 refine At.rd f3 1 [[]] [(4, .int .i64 (0))] [] (by kernel_rfl) trivial (fun act6 f5 => ?_)
 clear f3
 refine At.done rfl ?_
 refine t_n ?_
 refine wp_block ?_
 have ow8 : OwnR w (Sx (w.heap.size) []) none 0 41 ([] : List Tup) := OwnR.nil
 have f12 := f5.as 3 (.slice none 0 0) (.slice none (([] : List Tup).length) 0) rfl (slice_len (by first | rfl | omega | (simp; done) | (simp; omega)))
 clear f5
 have f11 := f12.sub (r := [(3, .slice none (([] : List Tup).length) 0), (4, .int .i64 (0)), (2, .slice none 0 0), (0, .slice As ls.length cs)]) ⟨rfl, rfl, rfl, rfl, trivial⟩
 refine loop_g (fun (m_ : Nat) a_ w_ => ∃ (k : Int) (xs : List Tup) (A_9 : Option Addr) (c_10 : Nat), m_ = ((ls.length : Int) - k).toNat ∧ (Frm 26 a_ [(3, .slice A_9 xs.length c_10), (4, .int .i64 (k)), (2, .slice none 0 0), (0, .slice As ls.length cs)]) ∧ (Ext w w_) ∧ (RdR w_ 0 w.heap.size As (ls : List Tup)) ∧ (OwnR w_ (Sx (w.heap.size) []) A_9 c_10 41 (xs : List Tup)) ∧ (0 ≤ k) ∧ (k ≤ (ls.length : Int)) ∧ (xs = ls.take k.toNat)) _ ⟨0, ([] : List Tup), none, 0, rfl, f11, e0, rs, ow8, (by omega), (by omega), rfl⟩ ?_
 clear f11 f12
 clear rs
 clear ow8
 clear e0
 intro m_ act13 w14 ⟨k, xs, A_9, c_10, hm16, f17, e15, r18, ow19, i20, i21, hxs⟩
 have szw14 := e15.size
 have hxl : xs.length = k.toNat := by rw [hxs, List.length_take]; omega
 refine wp_seq ?_
 refine wp_seq ?_
 refine At.start ?_
 refine At.rd f17 4 [[], [], [], []] [(8, .bool (decide ((k : Int) < ((ls.length : Nat) : Int)))), (7, .int .i64 (((ls.length : Nat) : Int))), (6, .slice As ls.length cs), (5, .int .i64 (k))] [] (by kernel_rfl) trivial (fun act23 f22 => ?_)
 clear f17
 refine At.done rfl ?_
 refine t_n ?_
 have f24 := f22.sub (r := [(8, .bool (decide ((k : Int) < ((ls.length : Nat) : Int)))), (3, .slice A_9 xs.length c_10), (4, .int .i64 (k)), (2, .slice none 0 0), (0, .slice As ls.length cs)]) ⟨rfl, rfl, rfl, rfl, rfl, trivial⟩
 clear f22
 refine cond_S f24 (t := decide ((k : Int) < ((ls.length : Nat) : Int))) rfl (fun h25 => ?_) (fun h25 => ?_)
 ·have q26 := of_decide_eq_true h25
  refine wp_skip ?_
  refine t_n ?_
  have f27 := f24.sub (r := [(3, .slice A_9 xs.length c_10), (4, .int .i64 (k)), (2, .slice none 0 0), (0, .slice As ls.length cs)]) ⟨rfl, rfl, rfl, rfl, trivial⟩
  clear f24
  refine wp_seq ?_
  refine wp_block ?_
  obtain ⟨ad28, hA29, hb32, hc31, hc30⟩ := r18.get (k) (by omega) (by omega) (sz := 5) rfl
  obtain ⟨ad33, hA34, hb37, hc36, hc35⟩ := r18.get (k) (by omega) (by omega) (sz := 5) rfl
  obtain ⟨Cs38, hCs39⟩ : ∃ c : List (Addr × Value), c = [((ad28.add ((k : Int).toNat * 5)), (.bool ((gT ls k).top))), (((ad33.add ((k : Int).toNat * 5)).add 1), (.int .i64 ((gT ls k).c0))), ((((ad33.add ((k : Int).toNat * 5)).add 1).add 1), (.int .i64 ((gT ls k).c1))), ((((ad33.add ((k : Int).toNat * 5)).add 1).add 2), (.int .i64 ((gT ls k).c2))), ((((ad33.add ((k : Int).toNat * 5)).add 1).add 3), (.int .i64 ((gT ls k).c3)))] := ⟨_, rfl⟩
  have hS40 : HoldsC Cs38 w14 := by rw [hCs39]; exact ⟨hc31, (hc35 1 _ rfl), (hc35 2 _ rfl), (hc35 3 _ rfl), (hc35 4 _ rfl), trivial⟩
  refine AtH.start Cs38 15 #[false, false, false, false, false, false, false, false, false, false, false, false, false, false, false] (by kernel_rfl) rfl rfl (fun w42 hw43 => ?_)
  have g41 := gr_drew hw43
  have hS44 := hS40.gr g41
  have szw42 := g41.size
  have e45 := e15.gr g41 no_row
  clear e15
  have r46 := r18.gr g41 (fun _ h => by cases h)
  clear r18
  have ow47 := ow19.gr g41 (fun _ _ h => by cases h)
  clear ow19
  clear g41 hw43 hS40
  refine AtH.rd (by kernel_rfl) (fun d v c a w h => by cases d <;> exact h) hS44 [0, 1, 2, 3, 4, 5, 6, 7, 8, 9, 10, 11] [[], [], [], [.ad ad28], [], [.ld (.bool ((gT ls k).top))], [], [], [.ad ad33], [], [.ld (.int .i64 ((gT ls k).c0)), .ld (.int .i64 ((gT ls k).c1)), .ld (.int .i64 ((gT ls k).c2)), .ld (.int .i64 ((gT ls k).c3))], []] [(22, tupV (gT ls k)), (21, .agg #[.int .i64 ((gT ls k).c0), .int .i64 ((gT ls k).c1), .int .i64 ((gT ls k).c2), .int .i64 ((gT ls k).c3)]), (20, .pointer (some ((ad33.add ((k : Int).toNat * 5)).add 1))), (19, .pointer (some (ad33.add ((k : Int).toNat * 5)))), (18, .int .i64 (k)), (17, .slice As ls.length cs), (16, .bool ((gT ls k).top)), (15, .pointer (some (ad28.add ((k : Int).toNat * 5)))), (14, .pointer (some (ad28.add ((k : Int).toNat * 5)))), (13, .int .i64 (k)), (12, .slice As ls.length cs), (11, .slice A_9 xs.length c_10)] #[true, true, true, true, true, true, true, true, true, true, true, true, false, false, false] [(As = some ad28), (0 ≤ (k : Int)), ((k : Int) < (ls.length : Nat)), (∃ j_ : Nat, Cs38[j_]? = some ((ad28.add ((k : Int).toNat * 5)), (.bool ((gT ls k).top)))), (As = some ad33), (0 ≤ (k : Int)), ((k : Int) < (ls.length : Nat)), (∃ j_ : Nat, Cs38[j_]? = some (((ad33.add ((k : Int).toNat * 5)).add 1), (.int .i64 ((gT ls k).c0)))), (∃ j_ : Nat, Cs38[j_]? = some ((((ad33.add ((k : Int).toNat * 5)).add 1).add 1), (.int .i64 ((gT ls k).c1)))), (∃ j_ : Nat, Cs38[j_]? = some ((((ad33.add ((k : Int).toNat * 5)).add 1).add 2), (.int .i64 ((gT ls k).c2)))), (∃ j_ : Nat, Cs38[j_]? = some ((((ad33.add ((k : Int).toNat * 5)).add 1).add 3), (.int .i64 ((gT ls k).c3))))] 3 f27 (by kernel_rfl) ⟨hA29, (by omega), (by omega), ⟨0, by rw [hCs39]; rfl⟩, hA34, (by omega), (by omega), ⟨1, by rw [hCs39]; rfl⟩, ⟨2, by rw [hCs39]; rfl⟩, ⟨3, by rw [hCs39]; rfl⟩, ⟨4, by rw [hCs39]; rfl⟩, trivial⟩ (fun act49 f48 => ?_)
  clear f27
  refine AtH.all [12] 2 (by kernel_rfl) (by simp) ⟨?_, trivial⟩
  refine OneH.seq f48 [[]] [(23, .slice (some ⟨w42.heap.size, 0, none⟩) 1 1)] (w42.alloc (.cells ((tupC (gT ls k))).toArray 41 (0, 0))) [] #[true, true, true, true, true, true, true, true, true, true, true, true, true, false, false] (by kernel_rfl) (by kernel_rfl) (by kernel_rfl) trivial (fun act54 w51 hw52 f53 => ?_)
  clear f48
  have g55 := gr_alloc hw52
  have hS58 := hS44.gr g55
  refine ⟨hS58, ?_⟩
  have szw51 := g55.size
  have e59 := e45.gr g55 no_row
  clear e45
  have r60 := r46.gr g55 (fun _ h => by cases h)
  clear r46
  have ow61 : OwnR w51 (Sx (w.heap.size) [some (w42.heap.size)]) A_9 c_10 41 (xs : List Tup) := ow47.grA g55 (fun _ _ h => by cases h) (fun k hk hs => ⟨(fun e => by injection e; omega), hs⟩)
  clear ow47
  have bx57 : Bx w51 (w42.heap.size) (tupC (gT ls k)) 41 := Bx.new hw52
  have := bx57.lt
  clear g55 hw52
  refine AtH.all [13] 1 (by kernel_rfl) (by simp) ⟨?_, trivial⟩
  have hl67 : (xs ++ ([(gT ls k)])).length = (xs).length + ([(gT ls k)] : List Tup).length := List.length_append
  simp only [List.length_cons, List.length_nil] at hl67
  refine OneH.act f53 #[true, true, true, true, true, true, true, true, true, true, true, true, true, true, false] (by kernel_rfl) (appendR (α := Tup) (t := 46) (d := 24) (n := xs.length) (m := 1) (cc := 1) (xs := xs) (ys := [(gT ls k)]) (bytes := 40) (by first | rfl | omega | (simp; done) | (simp; omega)) (by first | rfl | omega | (simp; done) | (simp; omega)) (by kernel_rfl) rfl (by kernel_rfl) ow61 (Bx.srcR (l := ([(gT ls k)] : List Tup)) bx57 rfl) (by simp only [List.length_cons, List.length_nil]; omega) (by simp only [List.length_cons, List.length_nil]; omega)) ?_
  rintro d_ v_ w66 ⟨rfl, A63, c64, ha65⟩
  obtain rfl := ha65.val
  have g68 := ha65.gr
  have hS71 := hS58.grO g68 (by rw [hCs39]; exact ⟨(fun e => by have := ow61.ge _ e; simp only [add_block] at this; omega), (fun e => by have := ow61.ge _ e; simp only [add_block] at this; omega), (fun e => by have := ow61.ge _ e; simp only [add_block] at this; omega), (fun e => by have := ow61.ge _ e; simp only [add_block] at this; omega), (fun e => by have := ow61.ge _ e; simp only [add_block] at this; omega), trivial⟩)
  refine ⟨_, rfl, fun act70 f69 => ⟨hS71, ?_⟩⟩
  clear f53
  clear bx57
  have ow72 := ha65.own (Sx (w.heap.size) []) (fun g _ hs => hs.2) (show w.heap.size ≤ w51.heap.size by omega)
  have szw66 := g68.size
  have e73 := e59.gr g68 (fun k hk => by have := ow61.ge k hk; omega)
  clear e59
  have r74 := r60.gr g68 (fun k hk => by have := ow61.ge k hk; omega)
  clear r60
  clear ow61 g68 ha65
  refine AtH.rd (by kernel_rfl) (fun d v c a w h => by cases d <;> exact h) hS71 [14] [[]] [(3, .slice A63 ((xs ++ ([(gT ls k)])).length) c64)] #[true, true, true, true, true, true, true, true, true, true, true, true, true, true, true] [] 0 f69 (by kernel_rfl) trivial (fun act76 f75 => ?_)
  clear f69
  refine AtH.done (by kernel_rfl) ?_
  clear hS71
  refine b_n ?_
  refine t_n ?_
  have f77 := f75.sub (r := [(3, .slice A63 ((xs ++ ([(gT ls k)])).length) c64), (4, .int .i64 (k)), (2, .slice none 0 0), (0, .slice As ls.length cs)]) ⟨rfl, rfl, rfl, rfl, trivial⟩
  clear f75
  refine At.start ?_
  refine At.rd f77 3 [[], [.as_ (.int .i64 (k + 1))], []] [(4, .int .i64 (k + 1)), (10, .int .i64 (k + 1)), (9, .int .i64 (k))] [((.int .i64 (IntKind.i64.wrap (k + 1)) : Value) = .int .i64 (k + 1))] (by kernel_rfl) ⟨(w64 (by omega) (by omega)), trivial⟩ (fun act79 f78 => ?_)
  clear f77
  refine At.done rfl ?_
  refine t_n ?_
  have f80 := f78.as 3 (.slice A63 ((xs ++ ([(gT ls k)])).length) c64) (.slice A63 ((xs ++ ([(gT ls k)]) : List Tup).length) c64) rfl (slice_len (by first | rfl | omega | (simp; done) | (simp; omega)))
  clear f78
  have f81 := f80.sub (r := [(3, .slice A63 ((xs ++ ([(gT ls k)]) : List Tup).length) c64), (4, .int .i64 (k + 1)), (2, .slice none 0 0), (0, .slice As ls.length cs)]) ⟨rfl, rfl, rfl, rfl, trivial⟩
  exact ⟨_, (by omega), (k + 1), (xs ++ ([(gT ls k)]) : List Tup), A63, c64, rfl, f81, e73, r74, ow72, (by omega), (by omega), (take_push hxs (by omega) (by omega))⟩
 ·have q82 := of_decide_eq_false h25
  refine wp_exit ?_
  refine t_e ?_
  refine t_e ?_
  refine b_e ?_
  refine t_n ?_
  have f83 := f24.sub (r := [(3, .slice A_9 xs.length c_10)]) ⟨rfl, trivial⟩
  clear f24
  refine wp_seq ?_
  refine At.start ?_
  refine At.rd f83 2 [[], []] [(2, .slice A_9 xs.length c_10), (25, .slice A_9 xs.length c_10)] [] (by kernel_rfl) trivial (fun act85 f84 => ?_)
  clear f83
  refine At.done rfl ?_
  refine t_n ?_
  have f86 := f84.sub (r := [(2, .slice A_9 xs.length c_10)]) ⟨rfl, trivial⟩
  clear f84
  refine wp_ret ?_
  refine ret_ f86 [] [.slice A_9 xs.length c_10] [] (by kernel_rfl) trivial ?_
  have hq_ : (xs : List Tup) = ls := take_end hxs (by omega)
  exact ⟨A_9, c_10, ret_eq (slice_len (by first | (rw [← hq_]; done) | (rw [← hq_]; simp) | (rw [← hq_]; omega))), e15, (OwnR.as (ow19.imp (fun g _ hs => by have := Sx_base hs; show w.heap.size ≤ g; omega)) hq_)⟩

set_option maxHeartbeats 4000000 in
theorem sameT_any {Aa : Option Addr} {ca : Nat} {la : List Tup} {Ab : Option Addr} {cb : Nat} {lb : List Tup} {w : World} (ra : RdR w 0 w.heap.size Aa la) (rb : RdR w 0 w.heap.size Ab lb) :
    Calls Try.prog 29 #[.slice Aa la.length ca, .slice Ab lb.length cb] w fun e w' => e = .returned (.bool (decide (la = lb))) ∧ Ext w w' := by
 have hla := ra.len
 simp only [Enc.bytes] at hla
 have hlb := rb.len
 simp only [Enc.bytes] at hlb
 refine enter_ (args := [.slice Aa la.length ca, .slice Ab lb.length cb]) Try.func29 rfl Try.ntmps29 (Nat.le_of_ble_eq_true rfl) (fun act0 f0 => ?_)
 have e0 := Ext.refl w
 refine wp_seq ?_
 refine At.start ?_
 refine At.rd f0 1 [[]] [(4, .bool false)] [] (by kernel_rfl) trivial (fun act2 f1 => ?_)
 clear f0
 refine At.done rfl ?_
 refine t_n ?_
 refine wp_seq ?_
 refine wp_seq ?_
 refine At.start ?_
 refine At.rd f1 5 [[], [], [], [], []] [(10, .bool ((((la.length : Nat) : Int) : Int) != ((lb.length : Nat) : Int))), (9, .int .i64 (((lb.length : Nat) : Int))), (8, .slice Ab lb.length cb), (7, .int .i64 (((la.length : Nat) : Int))), (6, .slice Aa la.length ca)] [] (by kernel_rfl) trivial (fun act4 f3 => ?_)
 clear f1
 refine At.done rfl ?_
 refine t_n ?_
 have f5 := f3.sub (r := [(10, .bool ((((la.length : Nat) : Int) : Int) != ((lb.length : Nat) : Int))), (4, .bool false), (0, .slice Aa la.length ca), (1, .slice Ab lb.length cb)]) ⟨rfl, rfl, rfl, rfl, trivial⟩
 clear f3
 refine cond_S f5 (t := (((la.length : Nat) : Int) : Int) != ((lb.length : Nat) : Int)) rfl (fun h6 => ?_) (fun h6 => ?_)
 ·have q7 := bne_iff_ne.1 h6
  refine wp_seq ?_
  refine At.start ?_
  refine At.rd f5 1 [[]] [(4, .bool false)] [] (by kernel_rfl) trivial (fun act9 f8 => ?_)
  clear f5
  refine At.done rfl ?_
  refine t_n ?_
  have f10 := f8.sub (r := [(4, .bool false)]) ⟨rfl, trivial⟩
  clear f8
  refine wp_ret ?_
  refine t_r ?_
  refine ret_ f10 [] [.bool false] [] (by kernel_rfl) trivial ?_
  exact ⟨ret_eq (congrArg Value.bool (decide_eq_false (fun h => by subst h; omega)).symm), e0⟩
 ·have q11 := bne_eq_false_iff_eq.1 h6
  refine wp_skip ?_
  refine t_n ?_
  have f12 := f5.sub (r := [(4, .bool false), (0, .slice Aa la.length ca), (1, .slice Ab lb.length cb)]) ⟨rfl, rfl, rfl, trivial⟩
  clear f5
  refine wp_seq ?_
  refine wp_seq ?_
  refine At.start ?_
  refine At.rd f12 1 [[]] [(5, .int .i64 (0))] [] (by kernel_rfl) trivial (fun act14 f13 => ?_)
  clear f12
  refine At.done rfl ?_
  refine t_n ?_
  refine wp_block ?_
  have f15 := f13.sub (r := [(5, .int .i64 (0)), (0, .slice Aa la.length ca), (1, .slice Ab lb.length cb)]) ⟨rfl, rfl, rfl, trivial⟩
  refine loop_g (fun (m_ : Nat) a_ w_ => ∃ (k : Int), m_ = ((la.length : Int) - k).toNat ∧ (Frm 26 a_ [(5, .int .i64 (k)), (0, .slice Aa la.length ca), (1, .slice Ab lb.length cb)]) ∧ (Ext w w_) ∧ (RdR w_ 0 w.heap.size Aa (la : List Tup)) ∧ (RdR w_ 0 w.heap.size Ab (lb : List Tup)) ∧ (0 ≤ k) ∧ (k ≤ (la.length : Int)) ∧ (la.take k.toNat = lb.take k.toNat)) _ ⟨0, rfl, f15, e0, ra, rb, (by omega), (by omega), rfl⟩ ?_
  clear f15 f13
  clear ra
  clear rb
  clear e0
  intro m_ act16 w17 ⟨k, hm19, f20, e18, r21, r22, i23, i24, hxs⟩
  have szw17 := e18.size
  refine wp_seq ?_
  refine wp_seq ?_
  refine At.start ?_
  refine At.rd f20 4 [[], [], [], []] [(14, .bool (decide ((k : Int) < ((la.length : Nat) : Int)))), (13, .int .i64 (((la.length : Nat) : Int))), (12, .slice Aa la.length ca), (11, .int .i64 (k))] [] (by kernel_rfl) trivial (fun act26 f25 => ?_)
  clear f20
  refine At.done rfl ?_
  refine t_n ?_
  have f27 := f25.sub (r := [(14, .bool (decide ((k : Int) < ((la.length : Nat) : Int)))), (5, .int .i64 (k)), (0, .slice Aa la.length ca), (1, .slice Ab lb.length cb)]) ⟨rfl, rfl, rfl, rfl, trivial⟩
  clear f25
  refine cond_S f27 (t := decide ((k : Int) < ((la.length : Nat) : Int))) rfl (fun h28 => ?_) (fun h28 => ?_)
  ·have q29 := of_decide_eq_true h28
   refine wp_skip ?_
   refine t_n ?_
   have f30 := f27.sub (r := [(5, .int .i64 (k)), (0, .slice Aa la.length ca), (1, .slice Ab lb.length cb)]) ⟨rfl, rfl, rfl, trivial⟩
   clear f27
   refine wp_seq ?_
   refine wp_block ?_
   refine wp_seq ?_
   obtain ⟨ad31, hA32, hb35, hc34, hc33⟩ := r21.get (k) (by omega) (by omega) (sz := 5) rfl
   obtain ⟨ad36, hA37, hb40, hc39, hc38⟩ := r22.get (k) (by omega) (by omega) (sz := 5) rfl
   refine drawn_ro f30 (by kernel_rfl) (by kernel_rfl) [[], [], [.ad ad31], [.ld (.bool ((gT la k).top)), .ld (.int .i64 ((gT la k).c0)), .ld (.int .i64 ((gT la k).c1)), .ld (.int .i64 ((gT la k).c2)), .ld (.int .i64 ((gT la k).c3))], [], [], [.ad ad36], [.ld (.bool ((gT lb k).top)), .ld (.int .i64 ((gT lb k).c0)), .ld (.int .i64 ((gT lb k).c1)), .ld (.int .i64 ((gT lb k).c2)), .ld (.int .i64 ((gT lb k).c3))], [.as_ (.bool (!(decide ((gT la k) = (gT lb k)))))]] [(25, .bool (!(decide ((gT la k) = (gT lb k))))), (24, tupV (gT lb k)), (23, .pointer (some (ad36.add ((k : Int).toNat * 5)))), (22, .int .i64 (k)), (21, .slice Ab lb.length cb), (20, tupV (gT la k)), (19, .pointer (some (ad31.add ((k : Int).toNat * 5)))), (18, .int .i64 (k)), (17, .slice Aa la.length ca)] [(Aa = some ad31), (0 ≤ (k : Int)), ((k : Int) < (la.length : Nat)), (w17.cell? (ad31.add ((k : Int).toNat * 5)) = some (.bool ((gT la k).top))), (w17.cell? ((ad31.add ((k : Int).toNat * 5)).add 1) = some (.int .i64 ((gT la k).c0))), (w17.cell? ((ad31.add ((k : Int).toNat * 5)).add 2) = some (.int .i64 ((gT la k).c1))), (w17.cell? ((ad31.add ((k : Int).toNat * 5)).add 3) = some (.int .i64 ((gT la k).c2))), (w17.cell? ((ad31.add ((k : Int).toNat * 5)).add 4) = some (.int .i64 ((gT la k).c3))), (Ab = some ad36), (0 ≤ (k : Int)), ((k : Int) < (lb.length : Nat)), (w17.cell? (ad36.add ((k : Int).toNat * 5)) = some (.bool ((gT lb k).top))), (w17.cell? ((ad36.add ((k : Int).toNat * 5)).add 1) = some (.int .i64 ((gT lb k).c0))), (w17.cell? ((ad36.add ((k : Int).toNat * 5)).add 2) = some (.int .i64 ((gT lb k).c1))), (w17.cell? ((ad36.add ((k : Int).toNat * 5)).add 3) = some (.int .i64 ((gT lb k).c2))), (w17.cell? ((ad36.add ((k : Int).toNat * 5)).add 4) = some (.int .i64 ((gT lb k).c3))), ((.bool (!((((gT la k).top) == ((gT lb k).top)) && (((((gT la k).c0 : Int) == ((gT lb k).c0)) && ((((gT la k).c1 : Int) == ((gT lb k).c1)) && ((((gT la k).c2 : Int) == ((gT lb k).c2)) && ((((gT la k).c3 : Int) == ((gT lb k).c3)) && true)))) && true))) : Value) = .bool (!(decide ((gT la k) = (gT lb k)))))] (by kernel_rfl) ⟨hA32, (by omega), (by omega), hc34, (hc33 1 _ rfl), (hc33 2 _ rfl), (hc33 3 _ rfl), (hc33 4 _ rfl), hA37, (by omega), (by omega), hc39, (hc38 1 _ rfl), (hc38 2 _ rfl), (hc38 3 _ rfl), (hc38 4 _ rfl), (congrArg (fun b => Value.bool (!b)) (tup_beq (gT la k) (gT lb k))), trivial⟩ (fun act42 w43 hw44 f41 => ?_)
   clear f30
   have g45 := gr_drew hw44
   have szw43 := g45.size
   have e46 := e18.gr g45 no_row
   clear e18
   have r47 := r21.gr g45 (fun _ h => by cases h)
   clear r21
   have r48 := r22.gr g45 (fun _ h => by cases h)
   clear r22
   clear g45 hw44
   refine t_n ?_
   have f49 := f41.sub (r := [(25, .bool (!(decide ((gT la k) = (gT lb k))))), (5, .int .i64 (k)), (0, .slice Aa la.length ca), (1, .slice Ab lb.length cb)]) ⟨rfl, rfl, rfl, rfl, trivial⟩
   clear f41
   refine cond_S f49 (t := !(decide ((gT la k) = (gT lb k)))) rfl (fun h50 => ?_) (fun h50 => ?_)
   ·have q51 : (decide ((gT la k) = (gT lb k))) = false := by first | exact Eq.mp (Bool.not_eq_true' _) h50 | exact Eq.mp (Bool.not_eq_false' _) h50 | simpa using h50
    have q52 := of_decide_eq_false q51
    refine wp_seq ?_
    refine At.start ?_
    refine At.rd f49 1 [[]] [(4, .bool false)] [] (by kernel_rfl) trivial (fun act54 f53 => ?_)
    clear f49
    refine At.done rfl ?_
    refine t_n ?_
    have f55 := f53.sub (r := [(4, .bool false)]) ⟨rfl, trivial⟩
    clear f53
    refine wp_ret ?_
    refine b_r ?_
    refine t_r ?_
    refine t_r ?_
    refine b_r ?_
    refine t_r ?_
    refine ret_ f55 [] [.bool false] [] (by kernel_rfl) trivial ?_
    exact ⟨ret_eq (congrArg Value.bool (decide_eq_false (fun h => by subst h; simp_all)).symm), e46⟩
   ·have q56 : (decide ((gT la k) = (gT lb k))) = true := by first | exact Eq.mp (Bool.not_eq_true' _) h50 | exact Eq.mp (Bool.not_eq_false' _) h50 | simpa using h50
    have q57 := of_decide_eq_true q56
    refine wp_skip ?_
    refine b_n ?_
    refine t_n ?_
    have f58 := f49.sub (r := [(5, .int .i64 (k)), (0, .slice Aa la.length ca), (1, .slice Ab lb.length cb)]) ⟨rfl, rfl, rfl, trivial⟩
    clear f49
    refine At.start ?_
    refine At.rd f58 3 [[], [.as_ (.int .i64 (k + 1))], []] [(5, .int .i64 (k + 1)), (16, .int .i64 (k + 1)), (15, .int .i64 (k))] [((.int .i64 (IntKind.i64.wrap (k + 1)) : Value) = .int .i64 (k + 1))] (by kernel_rfl) ⟨(w64 (by omega) (by omega)), trivial⟩ (fun act60 f59 => ?_)
    clear f58
    refine At.done rfl ?_
    refine t_n ?_
    have f61 := f59.sub (r := [(5, .int .i64 (k + 1)), (0, .slice Aa la.length ca), (1, .slice Ab lb.length cb)]) ⟨rfl, rfl, rfl, trivial⟩
    exact ⟨_, (by omega), (k + 1), rfl, f61, e46, r47, r48, (by omega), (by omega), (takeR_next hxs (by omega) (by omega) (by omega) (by assumption))⟩
  ·have q62 := of_decide_eq_false h28
   refine wp_exit ?_
   refine t_e ?_
   refine t_e ?_
   refine b_e ?_
   refine t_n ?_
   have f63 := f27.sub (r := []) trivial
   clear f27
   refine wp_seq ?_
   refine At.start ?_
   refine At.rd f63 1 [[]] [(4, .bool true)] [] (by kernel_rfl) trivial (fun act65 f64 => ?_)
   clear f63
   refine At.done rfl ?_
   refine t_n ?_
   refine wp_ret ?_
   refine ret_ f64 [] [.bool true] [] (by kernel_rfl) trivial ?_
   exact ⟨ret_eq (congrArg Value.bool (decide_eq_true (takeR_all hxs (by omega) (by omega))).symm), e18⟩

end Go.Proofs.Ytklbpajmoklheaa
