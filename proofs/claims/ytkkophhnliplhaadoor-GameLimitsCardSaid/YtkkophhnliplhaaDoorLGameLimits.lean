/-
  A walk of a Go function, printed by a program of this repo. Conditions: what the theorems name.
-/
import Derived.Test.YtkkophhnliplhaaDoorWShown09
import Derived.Test.YtkkophhnliplhaaDoorPureLim
import Derived.Test.YtkkophhnliplhaaDoorWCopyM
import Derived.Test.YtkkophhnliplhaaDoorRow
set_option linter.unusedVariables false
set_option linter.unusedSimpArgs false
namespace Go.Proofs.YtkkophhnliplhaaDoor
open Go Go.RowKit

attribute [local irreducible] ofZ fromW wordsD ofD ofW lsD lenW lenN fullW withW lessW hasW hasD inW inD leastD putD onI tzI orS andS minusS orD andD minusD fullD emptyD
set_option maxHeartbeats 4000000 in
theorem limits09_any {n o p m : Int} {w : World} (hn : I64 n) (ho : I64 o) (hp : I64 p) (hm : I64 m) (rT : RdT w 0 w.heap.size) :
    Calls Tryd.prog 8 #[.int .i64 (n), .int .i64 (o), .int .i64 (p), .int .i64 (m)] w fun e w' => e = .returned (.bool true) ∧ Ext w w' := by
 unfold I64 at hn
 refine enter_ (args := [.int .i64 (n), .int .i64 (o), .int .i64 (p), .int .i64 (m)]) Tryd.func8 rfl Tryd.ntmps8 (Nat.le_of_ble_eq_true rfl) (fun act0 f0 => ?_)
 have e0 : Ext w w := Ext.refl w
 refine wp_seq ?_
 refine At.start ?_
 refine At.rd f0 1 [[]] [(8, .bool false)] [] (by kernel_rfl) trivial (fun act2 f1 => ?_)
 clear f0
 refine At.done rfl ?_
 refine t_n ?_
 refine wp_seq ?_
 refine At.start ?_
 refine At.call f1 12 #[] (some 26) (by kernel_rfl) (shown09_any (rT.wide (Nat.zero_le _) (by omega))) ?_
 rintro e_ w3 ⟨rfl, he⟩
 refine ⟨_, rfl, _, rfl, fun act4 f5 => ?_⟩
 clear f1
 have g6 := gr_ext he
 have szw3 := g6.size
 replace e0 := e0.gr g6 no_row
 have r8 := rT.gr g6 (fun _ h => by cases h)
 clear rT
 clear g6 he
 refine At.rd f5 1 [[]] [(9, .bool true)] [] (by kernel_rfl) trivial (fun act10 f9 => ?_)
 clear f5
 refine At.done rfl ?_
 refine t_n ?_
 refine wp_seq (cut (fun a_ w_ => ∃ (z : Int), (Frm 244 a_ [(0, .int .i64 (z)), (9, .bool true), (8, .bool false), (1, .int .i64 (o)), (2, .int .i64 (p)), (3, .int .i64 (m))]) ∧ (Ext w w_) ∧ (RdT w_ 0 w.heap.size) ∧ (0 ≤ z) ∧ (z ≤ 9223372036854775807) ∧ (w3.heap.size ≤ w_.heap.size)) ?_ ?_)
 ·refine wp_seq ?_
  refine At.start ?_
  refine At.rd f9 2 [[], []] [(28, .bool (decide ((n : Int) < 0))), (27, .int .i64 (n))] [] (by kernel_rfl) trivial (fun act12 f11 => ?_)
  clear f9
  refine At.done rfl ?_
  refine t_n ?_
  refine cond_S f11 (t := decide ((n : Int) < 0)) rfl (fun h13 => ?_) (fun h13 => ?_)
  ·have q14 := of_decide_eq_true h13
   refine At.start ?_
   refine At.rd f11 4 [[], [.as_ (.int .i64 (n + 1))], [.as_ (.int .i64 (-(n + 1)))], []] [(0, .int .i64 (-(n + 1))), (31, .int .i64 (-(n + 1))), (30, .int .i64 (n + 1)), (29, .int .i64 (n))] [((.int .i64 (IntKind.i64.wrap (n + 1)) : Value) = .int .i64 (n + 1)), ((.int .i64 (IntKind.i64.wrap (0 - (n + 1))) : Value) = .int .i64 (-(n + 1)))] (by kernel_rfl) ⟨(w64 (by omega) (by omega)), (w64e (by omega) (by omega) (by omega)), trivial⟩ (fun act16 f15 => ?_)
   clear f11
   refine At.done rfl ?_
   refine t_n ?_
   have f17 := f15.sub (r := [(0, .int .i64 (-(n + 1))), (9, .bool true), (8, .bool false), (1, .int .i64 (o)), (2, .int .i64 (p)), (3, .int .i64 (m))]) ⟨rfl, rfl, rfl, rfl, rfl, rfl, trivial⟩
   exact ⟨-(n + 1), f17, e0, r8, (by omega), (by omega), (by omega)⟩
  ·have q18 := of_decide_eq_false h13
   refine wp_skip ?_
   refine t_n ?_
   have f19 := f11.sub (r := [(0, .int .i64 (n)), (9, .bool true), (8, .bool false), (1, .int .i64 (o)), (2, .int .i64 (p)), (3, .int .i64 (m))]) ⟨rfl, rfl, rfl, rfl, rfl, rfl, trivial⟩
   exact ⟨n, f19, e0, r8, (by omega), (by omega), (by omega)⟩
 ·clear r8
  clear f9 e0
  intro act20 w21 ⟨z, f22, e23, r24, i25, i26, i27⟩
  have szw21 := e23.size
  refine wp_seq ?_
  obtain ⟨q, hq⟩ : ∃ q : Int, q = z % 300 := ⟨_, rfl⟩
  refine At.start ?_
  refine At.rd f22 3 [[], [.as_ (.int .i64 (q))], []] [(0, .int .i64 (q)), (33, .int .i64 (q)), (32, .int .i64 (z))] [((300 : Int) ≠ 0), ((.int .i64 ((z : Int).tmod 300) : Value) = .int .i64 (q))] (by kernel_rfl) ⟨(by omega), (Eq.trans (b := (.int .i64 ((z : Int) % 300) : Value)) (congrArg (Value.int .i64) (tmodE (by omega) _)) (congrArg (Value.int .i64) hq.symm)), trivial⟩ (fun act29 f28 => ?_)
  clear f22
  refine At.done rfl ?_
  refine t_n ?_
  refine wp_seq ?_
  refine At.start ?_
  refine At.rd f28 1 [[]] [(34, .agg #[.slice none 0 0, .slice none 0 0, .slice none 0 0])] [] (by kernel_rfl) trivial (fun act31 f30 => ?_)
  clear f28
  refine At.seq f30 1 [[]] [(10, .pointer (some ⟨w21.heap.size, 0, none⟩))] (w21.alloc (.cells #[.slice none 0 0, .slice none 0 0, .slice none 0 0] 25 (0, 0))) [] (by kernel_rfl) trivial (fun act35 w32 hw33 f34 => ?_)
  clear f30
  have g36 := gr_alloc hw33
  have szw32 := g36.size
  replace e23 := e23.gr g36 no_row
  replace r24 := r24.gr g36 (fun _ h => by cases h)
  have bx40 : Bx w32 (w21.heap.size) [.slice none 0 0, .slice none 0 0, .slice none 0 0] 25 := Bx.new hw33
  have := bx40.lt
  clear g36 hw33
  refine At.store f34 (t := 25) (b := w21.heap.size) (off := 0) (v := .agg #[.slice none 0 0, .slice none 0 0, .slice none 0 0]) (by kernel_rfl) bx40 (by kernel_rfl) (fun act45 w41 g42 bx43 f44 => ?_)
  clear f34
  replace bx43 : Bx w41 (w21.heap.size) [.slice none 0 0, .slice none 0 0, .slice none 0 0] 25 := bx43
  have szw41 := g42.size
  replace e23 := e23.gr g42 (fun k h => by injection h; omega)
  replace r24 := r24.gr g42 (fun k h => by injection h; omega)
  clear bx40 g42
  refine At.done rfl ?_
  refine t_n ?_
  refine wp_seq ?_
  refine wp_seq ?_
  refine At.start ?_
  refine At.rd f44 1 [[]] [(11, .int .i64 (0))] [] (by kernel_rfl) trivial (fun act49 f48 => ?_)
  clear f44
  refine At.done rfl ?_
  refine t_n ?_
  refine wp_block ?_
  have ow51 : OwnR w41 (Sx (w41.heap.size) []) none 0 3 ([] : List Int) := OwnR.nil
  have ow55 : OwnR w41 (Sx (w41.heap.size) [obk (none)]) none 0 3 ([] : List Int) := OwnR.nil
  replace ow51 : OwnR w41 (Sx (w41.heap.size) [obk none]) none 0 3 ([] : List Int) := ow51.imp (fun g _ hs => ⟨by simp [obk], hs⟩)
  have ow60 : OwnLL w41 (w41.heap.size) [obk (none), obk (none)] none 0 22 3 ([] : List (List Int)) := OwnLL.nil
  replace ow51 : OwnR w41 (Sx (w41.heap.size) [obk none, obk none]) none 0 3 ([] : List Int) := ow51.imp (fun g _ hs => ⟨by simp [obk], hs⟩)
  replace ow55 : OwnR w41 (Sx (w41.heap.size) [obk none, obk (none)]) none 0 3 ([] : List Int) := ow55.imp (fun g _ hs => ⟨by simp [obk], hs⟩)
  have f65 := f48.sub (r := [(11, .int .i64 (0)), (10, .pointer (some ⟨w21.heap.size, 0, none⟩)), (0, .int .i64 (q)), (9, .bool true), (8, .bool false), (1, .int .i64 (o)), (2, .int .i64 (p)), (3, .int .i64 (m))]) ⟨rfl, rfl, rfl, rfl, rfl, rfl, rfl, rfl, trivial⟩
  refine loop_g (fun (m_ : Nat) a_ w_ => ∃ (k : Int) (xo : List Int) (A_52 : Option Addr) (c_53 : Nat) (xp : List Int) (A_57 : Option Addr) (c_58 : Nat) (xm : List (List Int)) (A_63 : Option Addr) (c_64 : Nat), m_ = (q - k).toNat ∧ (Frm 244 a_ [(11, .int .i64 (k)), (10, .pointer (some ⟨w21.heap.size, 0, none⟩)), (0, .int .i64 (q)), (9, .bool true), (8, .bool false), (1, .int .i64 (o)), (2, .int .i64 (p)), (3, .int .i64 (m))]) ∧ (Ext w w_) ∧ (RdT w_ 0 w.heap.size) ∧ (Bx w_ (w21.heap.size) [.slice A_52 xo.length c_53, .slice A_57 xp.length c_58, .slice A_63 xm.length c_64] 25) ∧ (OwnR w_ (Sx (w41.heap.size) [obk (A_63), obk (A_57)]) A_52 c_53 3 (xo : List Int)) ∧ (OwnR w_ (Sx (w41.heap.size) [obk (A_63), obk (A_52)]) A_57 c_58 3 (xp : List Int)) ∧ (OwnLL w_ (w41.heap.size) [obk (A_52), obk (A_57)] A_63 c_64 22 3 (xm : List (List Int))) ∧ (0 ≤ k) ∧ (k ≤ q) ∧ (xo = limL (fun i => i % 2) k) ∧ (xp = limL (fun i => i % 8) k) ∧ (xm = limL (fun i => [(i * 7) % q]) k) ∧ (w41.heap.size ≤ w_.heap.size)) _ ⟨0, ([] : List Int), none, 0, ([] : List Int), none, 0, ([] : List (List Int)), none, 0, rfl, f65, e23, r24, bx43, ow51, ow55, ow60, (by omega), (by omega), rfl, rfl, rfl, (by omega)⟩ ?_
  clear f65 f48
  clear r24
  clear bx43
  clear ow51
  clear ow55
  clear ow60
  clear e23
  intro m_ act66 w67 ⟨k, xo, A_52, c_53, xp, A_57, c_58, xm, A_63, c_64, hm69, f70, e68, r71, bx72, ow73, ow74, r75, i76, i77, hxo, hxp, hxm, i78⟩
  have szw67 := e68.size
  have := bx72.lt
  refine wp_seq ?_
  refine wp_seq ?_
  refine At.start ?_
  refine At.rd f70 3 [[], [], []] [(37, .bool (decide ((k : Int) < q))), (36, .int .i64 (q)), (35, .int .i64 (k))] [] (by kernel_rfl) trivial (fun act80 f79 => ?_)
  clear f70
  refine At.done rfl ?_
  refine t_n ?_
  refine cond_S f79 (t := decide ((k : Int) < q)) rfl (fun h81 => ?_) (fun h81 => ?_)
  ·have q82 := of_decide_eq_true h81
   refine wp_skip ?_
   refine t_n ?_
   refine wp_seq ?_
   refine wp_block ?_
   refine wp_seq ?_
   have hl0_ := congrArg List.length hxo
   rw [lim_len] at hl0_
   have hl1_ := congrArg List.length hxp
   rw [lim_len] at hl1_
   refine At.start ?_
   refine At.rd f79 4 [[], [.ld (.slice A_52 xo.length c_53)], [], [.as_ (.int .i64 ((k : Int) % 2))]] [(43, .int .i64 ((k : Int) % 2)), (42, .int .i64 (k)), (41, .slice A_52 xo.length c_53), (40, .pointer (some ⟨w21.heap.size, 0, none⟩))] [(w67.cell? ⟨w21.heap.size, 0, none⟩ = some (.slice A_52 xo.length c_53)), ((2 : Int) ≠ 0), ((.int .i64 ((k : Int).tmod 2) : Value) = .int .i64 ((k : Int) % 2))] (by kernel_rfl) ⟨(bx72.cell (i := 0) rfl), (by omega), (congrArg (Value.int .i64) (tmodE (by omega) _)), trivial⟩ (fun act84 f83 => ?_)
   clear f79
   refine At.seq f83 1 [[]] [(44, .slice (some ⟨w67.heap.size, 0, none⟩) 1 1)] (w67.alloc (.cells #[.int .i64 ((k : Int) % 2)] 3 (0, 0))) [] (by kernel_rfl) trivial (fun act88 w85 hw86 f87 => ?_)
   clear f83
   have g89 := gr_alloc hw86
   have szw85 := g89.size
   replace e68 := e68.gr g89 no_row
   replace r71 := r71.gr g89 (fun _ h => by cases h)
   replace bx72 := bx72.gr g89 (by simp)
   replace ow73 : OwnR w85 (Sx (w41.heap.size) [some (w67.heap.size), obk (A_63), obk (A_57)]) A_52 c_53 3 (xo : List Int) := ow73.grA g89 (fun _ _ h => by cases h) (fun k hk hs => ⟨(fun e => by injection e; omega), hs.1, hs.2.1, hs.2.2⟩)
   replace ow74 : OwnR w85 (Sx (w41.heap.size) [some (w67.heap.size), obk (A_63), obk (A_52)]) A_57 c_58 3 (xp : List Int) := ow74.grA g89 (fun _ _ h => by cases h) (fun k hk hs => ⟨(fun e => by injection e; omega), hs.1, hs.2.1, hs.2.2⟩)
   have ow97 : OwnLL w85 (w41.heap.size) [some (w67.heap.size), obk (A_52), obk (A_57)] A_63 c_64 22 3 (xm : List (List Int)) := r75.grA g89 (fun _ _ h => by cases h) (fun k hk hs => ⟨(fun e => by injection e; omega), hs.1, hs.2.1, hs.2.2⟩)
   clear r75
   have bx91 : Bx w85 (w67.heap.size) [.int .i64 ((k : Int) % 2)] 3 := Bx.new hw86
   have := bx91.lt
   clear g89 hw86
   have hl102 : (xo ++ ([(k : Int) % 2])).length = (xo).length + ([(k : Int) % 2] : List Int).length := List.length_append
   simp only [List.length_cons, List.length_nil] at hl102
   refine At.act f87 (appendR (α := Int) (t := 22) (d := 45) (n := xo.length) (m := 1) (cc := 1) (xs := xo) (ys := [(k : Int) % 2]) (bytes := 8) (by first | rfl | omega | (simp; done) | (simp; omega)) (by first | rfl | omega | (simp; done) | (simp; omega)) (by kernel_rfl) rfl (by kernel_rfl) ow73 (Bx.srcR (l := ([(k : Int) % 2] : List Int)) bx91 rfl) (by simp only [List.length_cons, List.length_nil]; omega) (by simp only [List.length_cons, List.length_nil]; omega)) ?_
   rintro d_ v_ w101 ⟨rfl, A98, c99, ha100⟩
   obtain rfl := ha100.val
   have g103 := ha100.gr
   refine ⟨_, rfl, fun act105 f104 => ?_⟩
   clear f87
   clear bx91
   have ow106 := ha100.own (Sx (w41.heap.size) [obk (A_63), obk (A_57)]) (fun g _ hs => ⟨hs.2.1, hs.2.2.1, hs.2.2.2⟩) ⟨ow97.ne_new, ow74.ne_new, (show w41.heap.size ≤ w85.heap.size by omega)⟩
   have szw101 := g103.size
   replace e68 := e68.gr g103 (fun k hk => by have := ow73.ge k hk; omega)
   replace r71 := r71.gr g103 (fun k hk => by have := ow73.ge k hk; omega)
   replace bx72 := bx72.gr g103 (fun e => by have := ow73.ge _ e; omega)
   replace ow74 : OwnR w101 (Sx (w41.heap.size) [some (w67.heap.size), obk (A_63), obk (A98)]) A_57 c_58 3 (xp : List Int) := ow74.grA g103 (fun k hk => hk.2.2.1) (fun k hk hs => ⟨hs.1, hs.2.1, own_repl ha100.at_ hs.2.2.1 hk, hs.2.2.2⟩)
   replace ow97 : OwnLL w101 (w41.heap.size) [some (w67.heap.size), obk (A98), obk (A_57)] A_63 c_64 22 3 (xm : List (List Int)) := ow97.grA g103 (fun k hk => hk.2.1) (fun k hk hs => ⟨hs.1, own_repl ha100.at_ hs.2.1 hk, hs.2.2.1, hs.2.2.2⟩)
   clear ow73 g103 ha100
   refine At.rd f104 1 [[]] [(46, .pointer (some ⟨w21.heap.size, 0, none⟩))] [] (by kernel_rfl) trivial (fun act113 f112 => ?_)
   clear f104
   refine At.store f112 (t := 22) (b := w21.heap.size) (off := 0) (v := .slice A98 ((xo ++ ([(k : Int) % 2])).length) c99) (by kernel_rfl) bx72 (by kernel_rfl) (fun act118 w114 g115 bx116 f117 => ?_)
   clear f112
   replace bx116 : Bx w114 (w21.heap.size) [.slice A98 ((xo ++ ([(k : Int) % 2])).length) c99, .slice A_57 xp.length c_58, .slice A_63 xm.length c_64] 25 := bx116
   have szw114 := g115.size
   replace e68 := e68.gr g115 (fun k h => by injection h; omega)
   replace r71 := r71.gr g115 (fun k h => by injection h; omega)
   replace ow106 := ow106.gr g115 (fun k hk e => by have := Sx_base hk; injection e; omega)
   replace ow74 := ow74.gr g115 (fun k hk e => by have := Sx_base hk; injection e; omega)
   replace ow97 := ow97.gr g115 (fun k hk e => by have := Sx_base hk; injection e; omega)
   clear bx72 g115
   refine At.done rfl ?_
   refine t_n ?_
   refine wp_seq ?_
   refine At.start ?_
   refine At.rd f117 4 [[], [.ld (.slice A_57 xp.length c_58)], [], [.as_ (.int .i64 ((k : Int) % 8))]] [(50, .int .i64 ((k : Int) % 8)), (49, .int .i64 (k)), (48, .slice A_57 xp.length c_58), (47, .pointer (some ⟨w21.heap.size, 1, none⟩))] [(w114.cell? ⟨w21.heap.size, 1, none⟩ = some (.slice A_57 xp.length c_58)), ((8 : Int) ≠ 0), ((.int .i64 ((k : Int).tmod 8) : Value) = .int .i64 ((k : Int) % 8))] (by kernel_rfl) ⟨(bx116.cell (i := 1) rfl), (by omega), (congrArg (Value.int .i64) (tmodE (by omega) _)), trivial⟩ (fun act125 f124 => ?_)
   clear f117
   refine At.seq f124 1 [[]] [(51, .slice (some ⟨w114.heap.size, 0, none⟩) 1 1)] (w114.alloc (.cells #[.int .i64 ((k : Int) % 8)] 3 (0, 0))) [] (by kernel_rfl) trivial (fun act129 w126 hw127 f128 => ?_)
   clear f124
   have g130 := gr_alloc hw127
   have szw126 := g130.size
   replace e68 := e68.gr g130 no_row
   replace r71 := r71.gr g130 (fun _ h => by cases h)
   replace bx116 := bx116.gr g130 (by simp)
   replace ow106 : OwnR w126 (Sx (w41.heap.size) [some (w114.heap.size), obk (A_63), obk (A_57)]) A98 c99 3 (xo ++ ([(k : Int) % 2]) : List Int) := ow106.grA g130 (fun _ _ h => by cases h) (fun k hk hs => ⟨(fun e => by injection e; omega), hs.1, hs.2.1, hs.2.2⟩)
   replace ow74 : OwnR w126 (Sx (w41.heap.size) [some (w114.heap.size), some (w67.heap.size), obk (A_63), obk (A98)]) A_57 c_58 3 (xp : List Int) := ow74.grA g130 (fun _ _ h => by cases h) (fun k hk hs => ⟨(fun e => by injection e; omega), hs.1, hs.2.1, hs.2.2.1, hs.2.2.2⟩)
   replace ow97 : OwnLL w126 (w41.heap.size) [some (w114.heap.size), some (w67.heap.size), obk (A98), obk (A_57)] A_63 c_64 22 3 (xm : List (List Int)) := ow97.grA g130 (fun _ _ h => by cases h) (fun k hk hs => ⟨(fun e => by injection e; omega), hs.1, hs.2.1, hs.2.2.1, hs.2.2.2⟩)
   have bx132 : Bx w126 (w114.heap.size) [.int .i64 ((k : Int) % 8)] 3 := Bx.new hw127
   have := bx132.lt
   clear g130 hw127
   have hl143 : (xp ++ ([(k : Int) % 8])).length = (xp).length + ([(k : Int) % 8] : List Int).length := List.length_append
   simp only [List.length_cons, List.length_nil] at hl143
   refine At.act f128 (appendR (α := Int) (t := 22) (d := 52) (n := xp.length) (m := 1) (cc := 1) (xs := xp) (ys := [(k : Int) % 8]) (bytes := 8) (by first | rfl | omega | (simp; done) | (simp; omega)) (by first | rfl | omega | (simp; done) | (simp; omega)) (by kernel_rfl) rfl (by kernel_rfl) ow74 (Bx.srcR (l := ([(k : Int) % 8] : List Int)) bx132 rfl) (by simp only [List.length_cons, List.length_nil]; omega) (by simp only [List.length_cons, List.length_nil]; omega)) ?_
   rintro d_ v_ w142 ⟨rfl, A139, c140, ha141⟩
   obtain rfl := ha141.val
   have g144 := ha141.gr
   refine ⟨_, rfl, fun act146 f145 => ?_⟩
   clear f128
   clear bx132
   have ow147 := ha141.own (Sx (w41.heap.size) [obk (A_63), obk (A98)]) (fun g _ hs => ⟨hs.2.2.1, hs.2.2.2.1, hs.2.2.2.2⟩) ⟨ow97.ne_new, ow106.ne_new, (show w41.heap.size ≤ w126.heap.size by omega)⟩
   have szw142 := g144.size
   replace e68 := e68.gr g144 (fun k hk => by have := ow74.ge k hk; omega)
   replace r71 := r71.gr g144 (fun k hk => by have := ow74.ge k hk; omega)
   replace bx116 := bx116.gr g144 (fun e => by have := ow74.ge _ e; omega)
   replace ow106 : OwnR w142 (Sx (w41.heap.size) [some (w114.heap.size), obk (A_63), obk (A139)]) A98 c99 3 (xo ++ ([(k : Int) % 2]) : List Int) := ow106.grA g144 (fun k hk => hk.2.2.1) (fun k hk hs => ⟨hs.1, hs.2.1, own_repl ha141.at_ hs.2.2.1 hk, hs.2.2.2⟩)
   replace ow97 : OwnLL w142 (w41.heap.size) [some (w114.heap.size), some (w67.heap.size), obk (A98), obk (A139)] A_63 c_64 22 3 (xm : List (List Int)) := ow97.grA g144 (fun k hk => hk.2.2.2.1) (fun k hk hs => ⟨hs.1, hs.2.1, hs.2.2.1, own_repl ha141.at_ hs.2.2.2.1 hk, hs.2.2.2.2⟩)
   clear ow74 g144 ha141
   refine At.rd f145 1 [[]] [(53, .pointer (some ⟨w21.heap.size, 1, none⟩))] [] (by kernel_rfl) trivial (fun act154 f153 => ?_)
   clear f145
   refine At.store f153 (t := 22) (b := w21.heap.size) (off := 1) (v := .slice A139 ((xp ++ ([(k : Int) % 8])).length) c140) (by kernel_rfl) bx116 (by kernel_rfl) (fun act159 w155 g156 bx157 f158 => ?_)
   clear f153
   replace bx157 : Bx w155 (w21.heap.size) [.slice A98 ((xo ++ ([(k : Int) % 2])).length) c99, .slice A139 ((xp ++ ([(k : Int) % 8])).length) c140, .slice A_63 xm.length c_64] 25 := bx157
   have szw155 := g156.size
   replace e68 := e68.gr g156 (fun k h => by injection h; omega)
   replace r71 := r71.gr g156 (fun k h => by injection h; omega)
   replace ow106 := ow106.gr g156 (fun k hk e => by have := Sx_base hk; injection e; omega)
   replace ow147 := ow147.gr g156 (fun k hk e => by have := Sx_base hk; injection e; omega)
   replace ow97 := ow97.gr g156 (fun k hk e => by have := Sx_base hk; injection e; omega)
   clear bx116 g156
   refine At.done rfl ?_
   refine t_n ?_
   have hl2_ := congrArg List.length hxm
   rw [lim_len] at hl2_
   obtain ⟨Cs165, hCs166⟩ : ∃ c : List (Addr × Value), c = [] := ⟨_, rfl⟩
   have hS167 : HoldsC Cs165 w155 := by rw [hCs166]; exact trivial
   refine AtH.start Cs165 11 #[false, false, false, false, false, false, false, false, false, false, false] (by kernel_rfl) rfl rfl (fun w169 hw170 => ?_)
   have g168 := gr_drew hw170
   have hS171 := hS167.gr g168
   have szw169 := g168.size
   replace e68 := e68.gr g168 no_row
   replace r71 := r71.gr g168 (fun _ h => by cases h)
   replace bx157 := bx157.gr g168 (by simp)
   replace ow106 := ow106.gr g168 (fun _ _ h => by cases h)
   replace ow147 := ow147.gr g168 (fun _ _ h => by cases h)
   replace ow97 := ow97.gr g168 (fun _ _ h => by cases h)
   clear g168 hw170 hS167
   refine AtH.rd (by kernel_rfl) (fun d v c a w h => by cases d <;> exact h) hS171 [0, 2, 3, 4, 5] [[], [], [.as_ (.int .i64 (k * 7))], [], [.as_ (.int .i64 ((k * 7 : Int) % q))]] [(59, .int .i64 ((k * 7 : Int) % q)), (58, .int .i64 (q)), (57, .int .i64 (k * 7)), (56, .int .i64 (k)), (54, .pointer (some ⟨w21.heap.size, 2, none⟩))] #[true, false, true, true, true, true, false, false, false, false, false] [((.int .i64 (IntKind.i64.wrap (k * 7)) : Value) = .int .i64 (k * 7)), ((q : Int) ≠ 0), ((.int .i64 ((k * 7 : Int).tmod q) : Value) = .int .i64 ((k * 7 : Int) % q))] 6 f158 (by kernel_rfl) ⟨(w64 (by omega) (by omega)), (by omega), (congrArg (Value.int .i64) (tmodE (by omega) _)), trivial⟩ (fun act179 f178 => ?_)
   clear f158
   refine AtH.all [1, 6] 5 (by kernel_rfl) (by simp) ⟨?_, ?_, trivial⟩
   ·refine OneH.seq f178 [[.ld (.slice A_63 xm.length c_64)]] [(55, .slice A_63 xm.length c_64)] w169 [(w169.cell? ⟨w21.heap.size, 2, none⟩ = some (.slice A_63 xm.length c_64))] #[true, true, true, true, true, true, false, false, false, false, false] (by kernel_rfl) (by kernel_rfl) (by kernel_rfl) ⟨(bx157.cell (i := 2) rfl), trivial⟩ (fun act181 w182 hw183 f180 => ?_)
    obtain rfl : w169 = w182 := hw183.symm
    clear f178
    refine ⟨hS171, ?_⟩
    refine AtH.all [6] 4 (by kernel_rfl) (by simp) ⟨?_, trivial⟩
    refine OneH.seq f180 [[]] [(60, .slice (some ⟨w169.heap.size, 0, none⟩) 1 1)] (w169.alloc (.cells #[.int .i64 ((k * 7 : Int) % q)] 3 (0, 0))) [] #[true, true, true, true, true, true, true, false, false, false, false] (by kernel_rfl) (by kernel_rfl) (by kernel_rfl) trivial (fun act188 w185 hw186 f187 => ?_)
    clear f180
    have g189 := gr_alloc hw186
    have hS192 := hS171.gr g189
    refine ⟨hS192, ?_⟩
    have szw185 := g189.size
    replace e68 := e68.gr g189 no_row
    replace r71 := r71.gr g189 (fun _ h => by cases h)
    replace bx157 := bx157.gr g189 (by simp)
    replace ow106 : OwnR w185 (Sx (w41.heap.size) [some (w169.heap.size), some (w114.heap.size), obk (A_63), obk (A139)]) A98 c99 3 (xo ++ ([(k : Int) % 2]) : List Int) := ow106.grA g189 (fun _ _ h => by cases h) (fun k hk hs => ⟨(fun e => by injection e; omega), hs.1, hs.2.1, hs.2.2.1, hs.2.2.2⟩)
    replace ow147 : OwnR w185 (Sx (w41.heap.size) [some (w169.heap.size), obk (A_63), obk (A98)]) A139 c140 3 (xp ++ ([(k : Int) % 8]) : List Int) := ow147.grA g189 (fun _ _ h => by cases h) (fun k hk hs => ⟨(fun e => by injection e; omega), hs.1, hs.2.1, hs.2.2⟩)
    replace ow97 : OwnLL w185 (w41.heap.size) [some (w169.heap.size), some (w114.heap.size), some (w67.heap.size), obk (A98), obk (A139)] A_63 c_64 22 3 (xm : List (List Int)) := ow97.grA g189 (fun _ _ h => by cases h) (fun k hk hs => ⟨(fun e => by injection e; omega), hs.1, hs.2.1, hs.2.2.1, hs.2.2.2.1, hs.2.2.2.2⟩)
    have bx191 : Bx w185 (w169.heap.size) [.int .i64 ((k * 7 : Int) % q)] 3 := Bx.new hw186
    have := bx191.lt
    clear g189 hw186
    refine AtH.all [7] 3 (by kernel_rfl) (by simp) ⟨?_, trivial⟩
    refine OneH.seq f187 [[]] [(61, .slice (some ⟨w185.heap.size, 0, none⟩) 1 1)] (w185.alloc (.cells #[.slice (some ⟨w169.heap.size, 0, none⟩) 1 1] 22 (0, 0))) [] #[true, true, true, true, true, true, true, true, false, false, false] (by kernel_rfl) (by kernel_rfl) (by kernel_rfl) trivial (fun act203 w200 hw201 f202 => ?_)
    clear f187
    have g204 := gr_alloc hw201
    have hS207 := hS192.gr g204
    refine ⟨hS207, ?_⟩
    have szw200 := g204.size
    replace e68 := e68.gr g204 no_row
    replace r71 := r71.gr g204 (fun _ h => by cases h)
    replace bx157 := bx157.gr g204 (by simp)
    replace ow106 : OwnR w200 (Sx (w41.heap.size) [some (w185.heap.size), some (w169.heap.size), some (w114.heap.size), obk (A_63), obk (A139)]) A98 c99 3 (xo ++ ([(k : Int) % 2]) : List Int) := ow106.grA g204 (fun _ _ h => by cases h) (fun k hk hs => ⟨(fun e => by injection e; omega), hs.1, hs.2.1, hs.2.2.1, hs.2.2.2.1, hs.2.2.2.2⟩)
    replace ow147 : OwnR w200 (Sx (w41.heap.size) [some (w185.heap.size), some (w169.heap.size), obk (A_63), obk (A98)]) A139 c140 3 (xp ++ ([(k : Int) % 8]) : List Int) := ow147.grA g204 (fun _ _ h => by cases h) (fun k hk hs => ⟨(fun e => by injection e; omega), hs.1, hs.2.1, hs.2.2.1, hs.2.2.2⟩)
    replace ow97 : OwnLL w200 (w41.heap.size) [some (w185.heap.size), some (w169.heap.size), some (w114.heap.size), some (w67.heap.size), obk (A98), obk (A139)] A_63 c_64 22 3 (xm : List (List Int)) := ow97.grA g204 (fun _ _ h => by cases h) (fun k hk hs => ⟨(fun e => by injection e; omega), hs.1, hs.2.1, hs.2.2.1, hs.2.2.2.1, hs.2.2.2.2.1, hs.2.2.2.2.2⟩)
    replace bx191 := bx191.gr g204 (by simp)
    have bx206 : Bx w200 (w185.heap.size) [.slice (some ⟨w169.heap.size, 0, none⟩) 1 1] 22 := Bx.new hw201
    have := bx206.lt
    clear g204 hw201
    refine AtH.all [8] 2 (by kernel_rfl) (by simp) ⟨?_, trivial⟩
    have ow216 : OwnR w200 (Sx (w169.heap.size) [obk (A98), obk (A139), obk (A_63), some (w185.heap.size)]) (some ⟨w169.heap.size, 0, none⟩) 1 3 ([(k * 7 : Int) % q] : List Int) := Bx.ownR (n := 0) (l := ([(k * 7 : Int) % q] : List Int)) bx191 rfl ⟨(ow106.neb (fun g hs => hs.2.1)), (ow147.neb (fun g hs => hs.2.1)), (ow97.neb (fun g hs => hs.2.1)), (fun e => by injection e; omega), (Nat.le_refl _)⟩ (show 1 ≤ maxLen by decide)
    clear bx191
    have ow217 : OwnR w200 (Sx (w41.heap.size) [obk (A98), obk (A139)]) (some ⟨w169.heap.size, 0, none⟩) 1 3 ([(k * 7 : Int) % q] : List Int) := ow216.imp (fun g _ hs => ⟨hs.1, hs.2.1, (by have := Sx_base hs; show w41.heap.size ≤ g; omega)⟩)
    have ow218 : OwnLL w200 (w41.heap.size) [obk (some ⟨w169.heap.size, 0, none⟩), obk (A98), obk (A139)] A_63 c_64 22 3 (xm : List (List Int)) := (ow97.imp (fun g _ hs => ⟨hs.2.1, hs.2.2.2.2.1, hs.2.2.2.2.2.1, hs.2.2.2.2.2.2⟩))
    have hl219 : (xm ++ [[(k * 7 : Int) % q]]).length = (xm).length + 1 := by simp
    refine OneH.act f202 #[true, true, true, true, true, true, true, true, true, false, false] (by kernel_rfl) (appendLL (t := 23) (d := 62) (n := xm.length) (m := 1) (cc := 1) (ls := xm) (xs := [(k * 7 : Int) % q]) (bytes := 24) (by first | rfl | omega | (simp; done) | (simp; omega)) (by kernel_rfl) (by kernel_rfl) (bx206.as (by first | rfl | (simp; done))) ow218 ow217 ⟨ow106.ne_new, ow147.ne_new, (show w41.heap.size ≤ w200.heap.size by omega)⟩ (by omega) (by omega)) ?_
    rintro d_ v_ w220 ⟨rfl, A221, c222, rfl, g223, ha224, ow225⟩
    have hS228 := hS207.grO g223 (by rw [hCs166]; exact trivial)
    refine ⟨_, rfl, fun act227 f226 => ⟨hS228, ?_⟩⟩
    clear f202
    clear bx206 ow216 ow217 ow218
    have szw220 := g223.size
    replace e68 := e68.gr g223 (fun k hk => by have := ow97.ge k hk; omega)
    replace r71 := r71.gr g223 (fun k hk => by have := ow97.ge k hk; omega)
    replace bx157 := bx157.gr g223 (fun e => by have := ow97.ge _ e; omega)
    replace ow106 : OwnR w220 (Sx (w41.heap.size) [some (w185.heap.size), obk (some ⟨w169.heap.size, 0, none⟩), some (w114.heap.size), obk (A221), obk (A139)]) A98 c99 3 (xo ++ ([(k : Int) % 2]) : List Int) := ow106.grA g223 (fun k hk => hk.2.2.2.1) (fun k hk hs => ⟨hs.1, hs.2.1, hs.2.2.1, own_repl ha224 hs.2.2.2.1 hk, hs.2.2.2.2.1, hs.2.2.2.2.2⟩)
    replace ow147 : OwnR w220 (Sx (w41.heap.size) [some (w185.heap.size), obk (some ⟨w169.heap.size, 0, none⟩), obk (A221), obk (A98)]) A139 c140 3 (xp ++ ([(k : Int) % 8]) : List Int) := ow147.grA g223 (fun k hk => hk.2.2.1) (fun k hk hs => ⟨hs.1, hs.2.1, own_repl ha224 hs.2.2.1 hk, hs.2.2.2.1, hs.2.2.2.2⟩)
    clear ow97 g223 ha224
    refine AtH.rd (by kernel_rfl) (fun d v c a w h => by cases d <;> exact h) hS228 [9] [[]] [(63, .pointer (some ⟨w21.heap.size, 2, none⟩))] #[true, true, true, true, true, true, true, true, true, true, false] [] 1 f226 (by kernel_rfl) trivial (fun act235 f234 => ?_)
    clear f226
    refine AtH.all [10] 0 (by kernel_rfl) (by simp) ⟨?_, trivial⟩
    refine OneH.store f234 (t := 23) (b := w21.heap.size) (off := 2) (v := .slice A221 ((xm ++ [[(k * 7 : Int) % q]]).length) c222) #[true, true, true, true, true, true, true, true, true, true, true] (by kernel_rfl) (by kernel_rfl) bx157 (by kernel_rfl) (fun act241 w237 g238 bx239 f240 => ?_)
    clear f234
    replace bx239 : Bx w237 (w21.heap.size) [.slice A98 ((xo ++ ([(k : Int) % 2])).length) c99, .slice A139 ((xp ++ ([(k : Int) % 8])).length) c140, .slice A221 ((xm ++ [[(k * 7 : Int) % q]]).length) c222] 25 := bx239
    have hS236 := hS228.gr' g238 (by rw [hCs166]; exact trivial)
    have szw237 := g238.size
    replace e68 := e68.gr g238 (fun k h => by injection h; omega)
    replace r71 := r71.gr g238 (fun k h => by injection h; omega)
    replace ow106 := ow106.gr g238 (fun k hk e => by have := Sx_base hk; injection e; omega)
    replace ow147 := ow147.gr g238 (fun k hk e => by have := Sx_base hk; injection e; omega)
    replace ow225 := ow225.gr g238 (fun k hk e => by have := Sx_base hk; injection e; omega)
    clear bx157 g238
    refine ⟨hS236, ?_⟩
    refine AtH.done (by kernel_rfl) ?_
    clear hS236
    refine b_n ?_
    refine t_n ?_
    have f247 := f240.sub (r := [(11, .int .i64 (k)), (10, .pointer (some ⟨w21.heap.size, 0, none⟩)), (0, .int .i64 (q)), (9, .bool true), (8, .bool false), (1, .int .i64 (o)), (2, .int .i64 (p)), (3, .int .i64 (m))]) ⟨rfl, rfl, rfl, rfl, rfl, rfl, rfl, rfl, trivial⟩
    clear f240
    refine At.start ?_
    refine At.rd f247 3 [[], [.as_ (.int .i64 (k + 1))], []] [(11, .int .i64 (k + 1)), (39, .int .i64 (k + 1)), (38, .int .i64 (k))] [((.int .i64 (IntKind.i64.wrap (k + 1)) : Value) = .int .i64 (k + 1))] (by kernel_rfl) ⟨(w64 (by omega) (by omega)), trivial⟩ (fun act249 f248 => ?_)
    clear f247
    refine At.done rfl ?_
    refine t_n ?_
    have f250 := f248.sub (r := [(11, .int .i64 (k + 1)), (10, .pointer (some ⟨w21.heap.size, 0, none⟩)), (0, .int .i64 (q)), (9, .bool true), (8, .bool false), (1, .int .i64 (o)), (2, .int .i64 (p)), (3, .int .i64 (m))]) ⟨rfl, rfl, rfl, rfl, rfl, rfl, rfl, rfl, trivial⟩
    exact ⟨_, (by omega), (k + 1), (xo ++ ([(k : Int) % 2]) : List Int), A98, c99, (xp ++ ([(k : Int) % 8]) : List Int), A139, c140, (xm ++ [[(k * 7 : Int) % q]] : List (List Int)), A221, c222, rfl, f250, e68, r71, bx239, (ow106.imp (fun g _ hs => ⟨hs.2.2.2.1, hs.2.2.2.2.1, hs.2.2.2.2.2⟩)), (ow147.imp (fun g _ hs => ⟨hs.2.2.1, hs.2.2.2.1, hs.2.2.2.2⟩)), ow225, (by omega), (by omega), (lim_push hxo (by omega)), (lim_push hxp (by omega)), (lim_push hxm (by omega)), (by omega)⟩
   ·refine OneH.seq f178 [[]] [(60, .slice (some ⟨w169.heap.size, 0, none⟩) 1 1)] (w169.alloc (.cells #[.int .i64 ((k * 7 : Int) % q)] 3 (0, 0))) [] #[true, false, true, true, true, true, true, false, false, false, false] (by kernel_rfl) (by kernel_rfl) (by kernel_rfl) trivial (fun act255 w252 hw253 f254 => ?_)
    clear f178
    have g256 := gr_alloc hw253
    have hS259 := hS171.gr g256
    refine ⟨hS259, ?_⟩
    have szw252 := g256.size
    replace e68 := e68.gr g256 no_row
    replace r71 := r71.gr g256 (fun _ h => by cases h)
    replace bx157 := bx157.gr g256 (by simp)
    replace ow106 : OwnR w252 (Sx (w41.heap.size) [some (w169.heap.size), some (w114.heap.size), obk (A_63), obk (A139)]) A98 c99 3 (xo ++ ([(k : Int) % 2]) : List Int) := ow106.grA g256 (fun _ _ h => by cases h) (fun k hk hs => ⟨(fun e => by injection e; omega), hs.1, hs.2.1, hs.2.2.1, hs.2.2.2⟩)
    replace ow147 : OwnR w252 (Sx (w41.heap.size) [some (w169.heap.size), obk (A_63), obk (A98)]) A139 c140 3 (xp ++ ([(k : Int) % 8]) : List Int) := ow147.grA g256 (fun _ _ h => by cases h) (fun k hk hs => ⟨(fun e => by injection e; omega), hs.1, hs.2.1, hs.2.2⟩)
    replace ow97 : OwnLL w252 (w41.heap.size) [some (w169.heap.size), some (w114.heap.size), some (w67.heap.size), obk (A98), obk (A139)] A_63 c_64 22 3 (xm : List (List Int)) := ow97.grA g256 (fun _ _ h => by cases h) (fun k hk hs => ⟨(fun e => by injection e; omega), hs.1, hs.2.1, hs.2.2.1, hs.2.2.2.1, hs.2.2.2.2⟩)
    have bx258 : Bx w252 (w169.heap.size) [.int .i64 ((k * 7 : Int) % q)] 3 := Bx.new hw253
    have := bx258.lt
    clear g256 hw253
    refine AtH.all [1, 7] 4 (by kernel_rfl) (by simp) ⟨?_, ?_, trivial⟩
    ·refine OneH.seq f254 [[.ld (.slice A_63 xm.length c_64)]] [(55, .slice A_63 xm.length c_64)] w252 [(w252.cell? ⟨w21.heap.size, 2, none⟩ = some (.slice A_63 xm.length c_64))] #[true, true, true, true, true, true, true, false, false, false, false] (by kernel_rfl) (by kernel_rfl) (by kernel_rfl) ⟨(bx157.cell (i := 2) rfl), trivial⟩ (fun act267 w268 hw269 f266 => ?_)
     obtain rfl : w252 = w268 := hw269.symm
     clear f254
     refine ⟨hS259, ?_⟩
     refine AtH.all [7] 3 (by kernel_rfl) (by simp) ⟨?_, trivial⟩
     refine OneH.seq f266 [[]] [(61, .slice (some ⟨w252.heap.size, 0, none⟩) 1 1)] (w252.alloc (.cells #[.slice (some ⟨w169.heap.size, 0, none⟩) 1 1] 22 (0, 0))) [] #[true, true, true, true, true, true, true, true, false, false, false] (by kernel_rfl) (by kernel_rfl) (by kernel_rfl) trivial (fun act274 w271 hw272 f273 => ?_)
     clear f266
     have g275 := gr_alloc hw272
     have hS278 := hS259.gr g275
     refine ⟨hS278, ?_⟩
     have szw271 := g275.size
     replace e68 := e68.gr g275 no_row
     replace r71 := r71.gr g275 (fun _ h => by cases h)
     replace bx157 := bx157.gr g275 (by simp)
     replace ow106 : OwnR w271 (Sx (w41.heap.size) [some (w252.heap.size), some (w169.heap.size), some (w114.heap.size), obk (A_63), obk (A139)]) A98 c99 3 (xo ++ ([(k : Int) % 2]) : List Int) := ow106.grA g275 (fun _ _ h => by cases h) (fun k hk hs => ⟨(fun e => by injection e; omega), hs.1, hs.2.1, hs.2.2.1, hs.2.2.2.1, hs.2.2.2.2⟩)
     replace ow147 : OwnR w271 (Sx (w41.heap.size) [some (w252.heap.size), some (w169.heap.size), obk (A_63), obk (A98)]) A139 c140 3 (xp ++ ([(k : Int) % 8]) : List Int) := ow147.grA g275 (fun _ _ h => by cases h) (fun k hk hs => ⟨(fun e => by injection e; omega), hs.1, hs.2.1, hs.2.2.1, hs.2.2.2⟩)
     replace ow97 : OwnLL w271 (w41.heap.size) [some (w252.heap.size), some (w169.heap.size), some (w114.heap.size), some (w67.heap.size), obk (A98), obk (A139)] A_63 c_64 22 3 (xm : List (List Int)) := ow97.grA g275 (fun _ _ h => by cases h) (fun k hk hs => ⟨(fun e => by injection e; omega), hs.1, hs.2.1, hs.2.2.1, hs.2.2.2.1, hs.2.2.2.2.1, hs.2.2.2.2.2⟩)
     replace bx258 := bx258.gr g275 (by simp)
     have bx277 : Bx w271 (w252.heap.size) [.slice (some ⟨w169.heap.size, 0, none⟩) 1 1] 22 := Bx.new hw272
     have := bx277.lt
     clear g275 hw272
     refine AtH.all [8] 2 (by kernel_rfl) (by simp) ⟨?_, trivial⟩
     have ow287 : OwnR w271 (Sx (w169.heap.size) [obk (A98), obk (A139), obk (A_63), some (w252.heap.size)]) (some ⟨w169.heap.size, 0, none⟩) 1 3 ([(k * 7 : Int) % q] : List Int) := Bx.ownR (n := 0) (l := ([(k * 7 : Int) % q] : List Int)) bx258 rfl ⟨(ow106.neb (fun g hs => hs.2.1)), (ow147.neb (fun g hs => hs.2.1)), (ow97.neb (fun g hs => hs.2.1)), (fun e => by injection e; omega), (Nat.le_refl _)⟩ (show 1 ≤ maxLen by decide)
     clear bx258
     have ow288 : OwnR w271 (Sx (w41.heap.size) [obk (A98), obk (A139)]) (some ⟨w169.heap.size, 0, none⟩) 1 3 ([(k * 7 : Int) % q] : List Int) := ow287.imp (fun g _ hs => ⟨hs.1, hs.2.1, (by have := Sx_base hs; show w41.heap.size ≤ g; omega)⟩)
     have ow289 : OwnLL w271 (w41.heap.size) [obk (some ⟨w169.heap.size, 0, none⟩), obk (A98), obk (A139)] A_63 c_64 22 3 (xm : List (List Int)) := (ow97.imp (fun g _ hs => ⟨hs.2.1, hs.2.2.2.2.1, hs.2.2.2.2.2.1, hs.2.2.2.2.2.2⟩))
     have hl290 : (xm ++ [[(k * 7 : Int) % q]]).length = (xm).length + 1 := by simp
     refine OneH.act f273 #[true, true, true, true, true, true, true, true, true, false, false] (by kernel_rfl) (appendLL (t := 23) (d := 62) (n := xm.length) (m := 1) (cc := 1) (ls := xm) (xs := [(k * 7 : Int) % q]) (bytes := 24) (by first | rfl | omega | (simp; done) | (simp; omega)) (by kernel_rfl) (by kernel_rfl) (bx277.as (by first | rfl | (simp; done))) ow289 ow288 ⟨ow106.ne_new, ow147.ne_new, (show w41.heap.size ≤ w271.heap.size by omega)⟩ (by omega) (by omega)) ?_
     rintro d_ v_ w291 ⟨rfl, A292, c293, rfl, g294, ha295, ow296⟩
     have hS299 := hS278.grO g294 (by rw [hCs166]; exact trivial)
     refine ⟨_, rfl, fun act298 f297 => ⟨hS299, ?_⟩⟩
     clear f273
     clear bx277 ow287 ow288 ow289
     have szw291 := g294.size
     replace e68 := e68.gr g294 (fun k hk => by have := ow97.ge k hk; omega)
     replace r71 := r71.gr g294 (fun k hk => by have := ow97.ge k hk; omega)
     replace bx157 := bx157.gr g294 (fun e => by have := ow97.ge _ e; omega)
     replace ow106 : OwnR w291 (Sx (w41.heap.size) [some (w252.heap.size), obk (some ⟨w169.heap.size, 0, none⟩), some (w114.heap.size), obk (A292), obk (A139)]) A98 c99 3 (xo ++ ([(k : Int) % 2]) : List Int) := ow106.grA g294 (fun k hk => hk.2.2.2.1) (fun k hk hs => ⟨hs.1, hs.2.1, hs.2.2.1, own_repl ha295 hs.2.2.2.1 hk, hs.2.2.2.2.1, hs.2.2.2.2.2⟩)
     replace ow147 : OwnR w291 (Sx (w41.heap.size) [some (w252.heap.size), obk (some ⟨w169.heap.size, 0, none⟩), obk (A292), obk (A98)]) A139 c140 3 (xp ++ ([(k : Int) % 8]) : List Int) := ow147.grA g294 (fun k hk => hk.2.2.1) (fun k hk hs => ⟨hs.1, hs.2.1, own_repl ha295 hs.2.2.1 hk, hs.2.2.2.1, hs.2.2.2.2⟩)
     clear ow97 g294 ha295
     refine AtH.rd (by kernel_rfl) (fun d v c a w h => by cases d <;> exact h) hS299 [9] [[]] [(63, .pointer (some ⟨w21.heap.size, 2, none⟩))] #[true, true, true, true, true, true, true, true, true, true, false] [] 1 f297 (by kernel_rfl) trivial (fun act306 f305 => ?_)
     clear f297
     refine AtH.all [10] 0 (by kernel_rfl) (by simp) ⟨?_, trivial⟩
     refine OneH.store f305 (t := 23) (b := w21.heap.size) (off := 2) (v := .slice A292 ((xm ++ [[(k * 7 : Int) % q]]).length) c293) #[true, true, true, true, true, true, true, true, true, true, true] (by kernel_rfl) (by kernel_rfl) bx157 (by kernel_rfl) (fun act312 w308 g309 bx310 f311 => ?_)
     clear f305
     replace bx310 : Bx w308 (w21.heap.size) [.slice A98 ((xo ++ ([(k : Int) % 2])).length) c99, .slice A139 ((xp ++ ([(k : Int) % 8])).length) c140, .slice A292 ((xm ++ [[(k * 7 : Int) % q]]).length) c293] 25 := bx310
     have hS307 := hS299.gr' g309 (by rw [hCs166]; exact trivial)
     have szw308 := g309.size
     replace e68 := e68.gr g309 (fun k h => by injection h; omega)
     replace r71 := r71.gr g309 (fun k h => by injection h; omega)
     replace ow106 := ow106.gr g309 (fun k hk e => by have := Sx_base hk; injection e; omega)
     replace ow147 := ow147.gr g309 (fun k hk e => by have := Sx_base hk; injection e; omega)
     replace ow296 := ow296.gr g309 (fun k hk e => by have := Sx_base hk; injection e; omega)
     clear bx157 g309
     refine ⟨hS307, ?_⟩
     refine AtH.done (by kernel_rfl) ?_
     clear hS307
     refine b_n ?_
     refine t_n ?_
     have f318 := f311.sub (r := [(11, .int .i64 (k)), (10, .pointer (some ⟨w21.heap.size, 0, none⟩)), (0, .int .i64 (q)), (9, .bool true), (8, .bool false), (1, .int .i64 (o)), (2, .int .i64 (p)), (3, .int .i64 (m))]) ⟨rfl, rfl, rfl, rfl, rfl, rfl, rfl, rfl, trivial⟩
     clear f311
     refine At.start ?_
     refine At.rd f318 3 [[], [.as_ (.int .i64 (k + 1))], []] [(11, .int .i64 (k + 1)), (39, .int .i64 (k + 1)), (38, .int .i64 (k))] [((.int .i64 (IntKind.i64.wrap (k + 1)) : Value) = .int .i64 (k + 1))] (by kernel_rfl) ⟨(w64 (by omega) (by omega)), trivial⟩ (fun act320 f319 => ?_)
     clear f318
     refine At.done rfl ?_
     refine t_n ?_
     have f321 := f319.sub (r := [(11, .int .i64 (k + 1)), (10, .pointer (some ⟨w21.heap.size, 0, none⟩)), (0, .int .i64 (q)), (9, .bool true), (8, .bool false), (1, .int .i64 (o)), (2, .int .i64 (p)), (3, .int .i64 (m))]) ⟨rfl, rfl, rfl, rfl, rfl, rfl, rfl, rfl, trivial⟩
     exact ⟨_, (by omega), (k + 1), (xo ++ ([(k : Int) % 2]) : List Int), A98, c99, (xp ++ ([(k : Int) % 8]) : List Int), A139, c140, (xm ++ [[(k * 7 : Int) % q]] : List (List Int)), A292, c293, rfl, f321, e68, r71, bx310, (ow106.imp (fun g _ hs => ⟨hs.2.2.2.1, hs.2.2.2.2.1, hs.2.2.2.2.2⟩)), (ow147.imp (fun g _ hs => ⟨hs.2.2.1, hs.2.2.2.1, hs.2.2.2.2⟩)), ow296, (by omega), (by omega), (lim_push hxo (by omega)), (lim_push hxp (by omega)), (lim_push hxm (by omega)), (by omega)⟩
    ·refine OneH.seq f254 [[]] [(61, .slice (some ⟨w252.heap.size, 0, none⟩) 1 1)] (w252.alloc (.cells #[.slice (some ⟨w169.heap.size, 0, none⟩) 1 1] 22 (0, 0))) [] #[true, false, true, true, true, true, true, true, false, false, false] (by kernel_rfl) (by kernel_rfl) (by kernel_rfl) trivial (fun act326 w323 hw324 f325 => ?_)
     clear f254
     have g327 := gr_alloc hw324
     have hS330 := hS259.gr g327
     refine ⟨hS330, ?_⟩
     have szw323 := g327.size
     replace e68 := e68.gr g327 no_row
     replace r71 := r71.gr g327 (fun _ h => by cases h)
     replace bx157 := bx157.gr g327 (by simp)
     replace ow106 : OwnR w323 (Sx (w41.heap.size) [some (w252.heap.size), some (w169.heap.size), some (w114.heap.size), obk (A_63), obk (A139)]) A98 c99 3 (xo ++ ([(k : Int) % 2]) : List Int) := ow106.grA g327 (fun _ _ h => by cases h) (fun k hk hs => ⟨(fun e => by injection e; omega), hs.1, hs.2.1, hs.2.2.1, hs.2.2.2.1, hs.2.2.2.2⟩)
     replace ow147 : OwnR w323 (Sx (w41.heap.size) [some (w252.heap.size), some (w169.heap.size), obk (A_63), obk (A98)]) A139 c140 3 (xp ++ ([(k : Int) % 8]) : List Int) := ow147.grA g327 (fun _ _ h => by cases h) (fun k hk hs => ⟨(fun e => by injection e; omega), hs.1, hs.2.1, hs.2.2.1, hs.2.2.2⟩)
     replace ow97 : OwnLL w323 (w41.heap.size) [some (w252.heap.size), some (w169.heap.size), some (w114.heap.size), some (w67.heap.size), obk (A98), obk (A139)] A_63 c_64 22 3 (xm : List (List Int)) := ow97.grA g327 (fun _ _ h => by cases h) (fun k hk hs => ⟨(fun e => by injection e; omega), hs.1, hs.2.1, hs.2.2.1, hs.2.2.2.1, hs.2.2.2.2.1, hs.2.2.2.2.2⟩)
     replace bx258 := bx258.gr g327 (by simp)
     have bx329 : Bx w323 (w252.heap.size) [.slice (some ⟨w169.heap.size, 0, none⟩) 1 1] 22 := Bx.new hw324
     have := bx329.lt
     clear g327 hw324
     refine AtH.all [1] 3 (by kernel_rfl) (by simp) ⟨?_, trivial⟩
     refine OneH.seq f325 [[.ld (.slice A_63 xm.length c_64)]] [(55, .slice A_63 xm.length c_64)] w323 [(w323.cell? ⟨w21.heap.size, 2, none⟩ = some (.slice A_63 xm.length c_64))] #[true, true, true, true, true, true, true, true, false, false, false] (by kernel_rfl) (by kernel_rfl) (by kernel_rfl) ⟨(bx157.cell (i := 2) rfl), trivial⟩ (fun act339 w340 hw341 f338 => ?_)
     obtain rfl : w323 = w340 := hw341.symm
     clear f325
     refine ⟨hS330, ?_⟩
     refine AtH.all [8] 2 (by kernel_rfl) (by simp) ⟨?_, trivial⟩
     have ow343 : OwnR w323 (Sx (w169.heap.size) [obk (A98), obk (A139), obk (A_63), some (w252.heap.size)]) (some ⟨w169.heap.size, 0, none⟩) 1 3 ([(k * 7 : Int) % q] : List Int) := Bx.ownR (n := 0) (l := ([(k * 7 : Int) % q] : List Int)) bx258 rfl ⟨(ow106.neb (fun g hs => hs.2.1)), (ow147.neb (fun g hs => hs.2.1)), (ow97.neb (fun g hs => hs.2.1)), (fun e => by injection e; omega), (Nat.le_refl _)⟩ (show 1 ≤ maxLen by decide)
     clear bx258
     have ow344 : OwnR w323 (Sx (w41.heap.size) [obk (A98), obk (A139)]) (some ⟨w169.heap.size, 0, none⟩) 1 3 ([(k * 7 : Int) % q] : List Int) := ow343.imp (fun g _ hs => ⟨hs.1, hs.2.1, (by have := Sx_base hs; show w41.heap.size ≤ g; omega)⟩)
     have ow345 : OwnLL w323 (w41.heap.size) [obk (some ⟨w169.heap.size, 0, none⟩), obk (A98), obk (A139)] A_63 c_64 22 3 (xm : List (List Int)) := (ow97.imp (fun g _ hs => ⟨hs.2.1, hs.2.2.2.2.1, hs.2.2.2.2.2.1, hs.2.2.2.2.2.2⟩))
     have hl346 : (xm ++ [[(k * 7 : Int) % q]]).length = (xm).length + 1 := by simp
     refine OneH.act f338 #[true, true, true, true, true, true, true, true, true, false, false] (by kernel_rfl) (appendLL (t := 23) (d := 62) (n := xm.length) (m := 1) (cc := 1) (ls := xm) (xs := [(k * 7 : Int) % q]) (bytes := 24) (by first | rfl | omega | (simp; done) | (simp; omega)) (by kernel_rfl) (by kernel_rfl) (bx329.as (by first | rfl | (simp; done))) ow345 ow344 ⟨ow106.ne_new, ow147.ne_new, (show w41.heap.size ≤ w323.heap.size by omega)⟩ (by omega) (by omega)) ?_
     rintro d_ v_ w347 ⟨rfl, A348, c349, rfl, g350, ha351, ow352⟩
     have hS355 := hS330.grO g350 (by rw [hCs166]; exact trivial)
     refine ⟨_, rfl, fun act354 f353 => ⟨hS355, ?_⟩⟩
     clear f338
     clear bx329 ow343 ow344 ow345
     have szw347 := g350.size
     replace e68 := e68.gr g350 (fun k hk => by have := ow97.ge k hk; omega)
     replace r71 := r71.gr g350 (fun k hk => by have := ow97.ge k hk; omega)
     replace bx157 := bx157.gr g350 (fun e => by have := ow97.ge _ e; omega)
     replace ow106 : OwnR w347 (Sx (w41.heap.size) [some (w252.heap.size), obk (some ⟨w169.heap.size, 0, none⟩), some (w114.heap.size), obk (A348), obk (A139)]) A98 c99 3 (xo ++ ([(k : Int) % 2]) : List Int) := ow106.grA g350 (fun k hk => hk.2.2.2.1) (fun k hk hs => ⟨hs.1, hs.2.1, hs.2.2.1, own_repl ha351 hs.2.2.2.1 hk, hs.2.2.2.2.1, hs.2.2.2.2.2⟩)
     replace ow147 : OwnR w347 (Sx (w41.heap.size) [some (w252.heap.size), obk (some ⟨w169.heap.size, 0, none⟩), obk (A348), obk (A98)]) A139 c140 3 (xp ++ ([(k : Int) % 8]) : List Int) := ow147.grA g350 (fun k hk => hk.2.2.1) (fun k hk hs => ⟨hs.1, hs.2.1, own_repl ha351 hs.2.2.1 hk, hs.2.2.2.1, hs.2.2.2.2⟩)
     clear ow97 g350 ha351
     refine AtH.rd (by kernel_rfl) (fun d v c a w h => by cases d <;> exact h) hS355 [9] [[]] [(63, .pointer (some ⟨w21.heap.size, 2, none⟩))] #[true, true, true, true, true, true, true, true, true, true, false] [] 1 f353 (by kernel_rfl) trivial (fun act362 f361 => ?_)
     clear f353
     refine AtH.all [10] 0 (by kernel_rfl) (by simp) ⟨?_, trivial⟩
     refine OneH.store f361 (t := 23) (b := w21.heap.size) (off := 2) (v := .slice A348 ((xm ++ [[(k * 7 : Int) % q]]).length) c349) #[true, true, true, true, true, true, true, true, true, true, true] (by kernel_rfl) (by kernel_rfl) bx157 (by kernel_rfl) (fun act368 w364 g365 bx366 f367 => ?_)
     clear f361
     replace bx366 : Bx w364 (w21.heap.size) [.slice A98 ((xo ++ ([(k : Int) % 2])).length) c99, .slice A139 ((xp ++ ([(k : Int) % 8])).length) c140, .slice A348 ((xm ++ [[(k * 7 : Int) % q]]).length) c349] 25 := bx366
     have hS363 := hS355.gr' g365 (by rw [hCs166]; exact trivial)
     have szw364 := g365.size
     replace e68 := e68.gr g365 (fun k h => by injection h; omega)
     replace r71 := r71.gr g365 (fun k h => by injection h; omega)
     replace ow106 := ow106.gr g365 (fun k hk e => by have := Sx_base hk; injection e; omega)
     replace ow147 := ow147.gr g365 (fun k hk e => by have := Sx_base hk; injection e; omega)
     replace ow352 := ow352.gr g365 (fun k hk e => by have := Sx_base hk; injection e; omega)
     clear bx157 g365
     refine ⟨hS363, ?_⟩
     refine AtH.done (by kernel_rfl) ?_
     clear hS363
     refine b_n ?_
     refine t_n ?_
     have f374 := f367.sub (r := [(11, .int .i64 (k)), (10, .pointer (some ⟨w21.heap.size, 0, none⟩)), (0, .int .i64 (q)), (9, .bool true), (8, .bool false), (1, .int .i64 (o)), (2, .int .i64 (p)), (3, .int .i64 (m))]) ⟨rfl, rfl, rfl, rfl, rfl, rfl, rfl, rfl, trivial⟩
     clear f367
     refine At.start ?_
     refine At.rd f374 3 [[], [.as_ (.int .i64 (k + 1))], []] [(11, .int .i64 (k + 1)), (39, .int .i64 (k + 1)), (38, .int .i64 (k))] [((.int .i64 (IntKind.i64.wrap (k + 1)) : Value) = .int .i64 (k + 1))] (by kernel_rfl) ⟨(w64 (by omega) (by omega)), trivial⟩ (fun act376 f375 => ?_)
     clear f374
     refine At.done rfl ?_
     refine t_n ?_
     have f377 := f375.sub (r := [(11, .int .i64 (k + 1)), (10, .pointer (some ⟨w21.heap.size, 0, none⟩)), (0, .int .i64 (q)), (9, .bool true), (8, .bool false), (1, .int .i64 (o)), (2, .int .i64 (p)), (3, .int .i64 (m))]) ⟨rfl, rfl, rfl, rfl, rfl, rfl, rfl, rfl, trivial⟩
     exact ⟨_, (by omega), (k + 1), (xo ++ ([(k : Int) % 2]) : List Int), A98, c99, (xp ++ ([(k : Int) % 8]) : List Int), A139, c140, (xm ++ [[(k * 7 : Int) % q]] : List (List Int)), A348, c349, rfl, f377, e68, r71, bx366, (ow106.imp (fun g _ hs => ⟨hs.2.2.2.1, hs.2.2.2.2.1, hs.2.2.2.2.2⟩)), (ow147.imp (fun g _ hs => ⟨hs.2.2.1, hs.2.2.2.1, hs.2.2.2.2⟩)), ow352, (by omega), (by omega), (lim_push hxo (by omega)), (lim_push hxp (by omega)), (lim_push hxm (by omega)), (by omega)⟩
  ·have q378 := of_decide_eq_false h81
   refine wp_exit ?_
   refine t_e ?_
   refine t_e ?_
   refine b_e ?_
   refine t_n ?_
   refine wp_seq ?_
   have hkq : k = q := by omega
   rw [hkq] at hxo hxp hxm
   have hl0_ := congrArg List.length hxo
   have hl1_ := congrArg List.length hxp
   have hl2_ := congrArg List.length hxm
   rw [lim_len] at hl0_ hl1_ hl2_
   have hipx := lim_inner hxm
   refine At.start ?_
   refine At.rd f79 1 [[.ld (.slice A_52 xo.length c_53), .ld (.slice A_57 xp.length c_58), .ld (.slice A_63 xm.length c_64)]] [(65, .agg #[.slice A_52 xo.length c_53, .slice A_57 xp.length c_58, .slice A_63 xm.length c_64])] [(w67.cell? ⟨w21.heap.size, 0, none⟩ = some (.slice A_52 xo.length c_53)), (w67.cell? ⟨w21.heap.size, 1, none⟩ = some (.slice A_57 xp.length c_58)), (w67.cell? ⟨w21.heap.size, 2, none⟩ = some (.slice A_63 xm.length c_64))] (by kernel_rfl) ⟨(bx72.cell (i := 0) rfl), (bx72.cell (i := 1) rfl), (bx72.cell (i := 2) rfl), trivial⟩ (fun act380 f379 => ?_)
   clear f79
   refine At.call f379 14 #[.agg #[.slice A_52 xo.length c_53, .slice A_57 xp.length c_58, .slice A_63 xm.length c_64]] (some 66) (by kernel_rfl) (right_any (g := (⟨xo, xp, xm⟩ : GameL)) (RdG.mk (G := (⟨xo, xp, xm⟩ : GameL)) (ow73.rdI0 (by first | omega | (simp only [List.length_cons, List.length_nil]; omega) | (simp; done) | (simp; omega))) (ow74.rdI0 (by first | omega | (simp only [List.length_cons, List.length_nil]; omega) | (simp; done) | (simp; omega))) (r75.rdII0 (by first | omega | (simp only [List.length_cons, List.length_nil]; omega) | (simp; done) | (simp; omega)) (by assumption)) ow73.cap ow74.cap r75.cap)) ?_
   rintro e_ w381 ⟨rfl, he⟩
   refine ⟨_, rfl, _, rfl, fun act382 f383 => ?_⟩
   clear f379
   have g384 := gr_ext he
   have szw381 := g384.size
   replace e68 := e68.gr g384 no_row
   replace r71 := r71.gr g384 (fun _ h => by cases h)
   replace bx72 := bx72.gr g384 (by simp)
   replace ow73 := ow73.gr g384 (fun _ _ h => by cases h)
   replace ow74 := ow74.gr g384 (fun _ _ h => by cases h)
   have ow390 := r75.gr g384 (fun _ _ h => by cases h)
   clear r75
   clear g384 he
   refine At.rd f383 5 [[], [], [], [], []] [(13, .int .i64 ((rightP (⟨xo, xp, xm⟩ : GameL)).2)), (12, .int .i64 ((rightP (⟨xo, xp, xm⟩ : GameL)).1)), (68, .int .i64 ((rightP (⟨xo, xp, xm⟩ : GameL)).2)), (67, .int .i64 ((rightP (⟨xo, xp, xm⟩ : GameL)).1)), (64, .tuple #[.int .i64 ((rightP (⟨xo, xp, xm⟩ : GameL)).1), .int .i64 ((rightP (⟨xo, xp, xm⟩ : GameL)).2)])] [] (by kernel_rfl) trivial (fun act392 f391 => ?_)
   clear f383
   refine At.done rfl ?_
   refine t_n ?_
   refine wp_seq ?_
   refine wp_seq ?_
   refine At.start ?_
   rcases Bool.eq_false_or_eq_true (decide ((q : Int) < 1)) with h393 | h393
   ·have q394 := of_decide_eq_true h393
    refine At.rd f391 6 [[], [], [.as_ (.bool true)], [], [], []] [(74, .bool true), (73, undef), (72, undef), (71, .bool true), (70, .bool (decide ((q : Int) < 1))), (69, .int .i64 (q))] [((.bool (decide ((q : Int) < 1)) : Value) = .bool true)] (by kernel_rfl) ⟨(congrArg Value.bool h393), trivial⟩ (fun act396 f395 => ?_)
    clear f391
    refine At.done rfl ?_
    refine t_n ?_
    refine cond_T f395 rfl ?_
    refine wp_seq ?_
    have hb_ := lim_bad hxo hxp hxm (by omega)
    refine At.start ?_
    refine At.rd f395 10 [[], [], [], [.as_ (.bool true)], [], [], [], [.as_ (.bool true)], [], []] [(8, .bool true), (83, .bool true), (82, .bool true), (81, .int .i64 ((rightP (⟨xo, xp, xm⟩ : GameL)).2)), (80, .bool true), (79, .bool true), (78, .bool true), (77, .int .i64 ((rightP (⟨xo, xp, xm⟩ : GameL)).1)), (76, .bool true), (75, .bool true)] [((.bool (((rightP (⟨xo, xp, xm⟩ : GameL)).1 : Int) == 0) : Value) = .bool true), ((.bool (((rightP (⟨xo, xp, xm⟩ : GameL)).2 : Int) == 10) : Value) = .bool true)] (by kernel_rfl) ⟨(congrArg Value.bool (beqT (by rw [hb_]))), (congrArg Value.bool (beqT (by rw [hb_]))), trivial⟩ (fun act398 f397 => ?_)
    clear f395
    refine At.done rfl ?_
    refine t_n ?_
    clear bx72
    clear ow73
    clear ow74
    clear ow390
    have f399 := f397.sub (r := [(8, .bool true)]) ⟨rfl, trivial⟩
    clear f397
    refine wp_ret ?_
    refine t_r ?_
    refine ret_ f399 [] [.bool true] [] (by kernel_rfl) trivial ?_
    exact ⟨rfl, e68⟩
   ·have q400 := of_decide_eq_false h393
    refine At.rd f391 6 [[], [], [.as_ (.bool false)], [], [], []] [(74, .bool (decide ((q : Int) > 200))), (73, .bool (decide ((q : Int) > 200))), (72, .int .i64 (q)), (71, .bool false), (70, .bool (decide ((q : Int) < 1))), (69, .int .i64 (q))] [((.bool (decide ((q : Int) < 1)) : Value) = .bool false)] (by kernel_rfl) ⟨(congrArg Value.bool h393), trivial⟩ (fun act402 f401 => ?_)
    clear f391
    refine At.done rfl ?_
    refine t_n ?_
    refine cond_S f401 (t := decide ((q : Int) > 200)) rfl (fun h403 => ?_) (fun h403 => ?_)
    ·have q404 := of_decide_eq_true h403
     refine wp_seq ?_
     have hb_ := lim_bad hxo hxp hxm (by omega)
     refine At.start ?_
     refine At.rd f401 10 [[], [], [], [.as_ (.bool true)], [], [], [], [.as_ (.bool true)], [], []] [(8, .bool true), (83, .bool true), (82, .bool true), (81, .int .i64 ((rightP (⟨xo, xp, xm⟩ : GameL)).2)), (80, .bool true), (79, .bool true), (78, .bool true), (77, .int .i64 ((rightP (⟨xo, xp, xm⟩ : GameL)).1)), (76, .bool true), (75, .bool true)] [((.bool (((rightP (⟨xo, xp, xm⟩ : GameL)).1 : Int) == 0) : Value) = .bool true), ((.bool (((rightP (⟨xo, xp, xm⟩ : GameL)).2 : Int) == 10) : Value) = .bool true)] (by kernel_rfl) ⟨(congrArg Value.bool (beqT (by rw [hb_]))), (congrArg Value.bool (beqT (by rw [hb_]))), trivial⟩ (fun act406 f405 => ?_)
     clear f401
     refine At.done rfl ?_
     refine t_n ?_
     clear bx72
     clear ow73
     clear ow74
     clear ow390
     have f407 := f405.sub (r := [(8, .bool true)]) ⟨rfl, trivial⟩
     clear f405
     refine wp_ret ?_
     refine t_r ?_
     refine ret_ f407 [] [.bool true] [] (by kernel_rfl) trivial ?_
     exact ⟨rfl, e68⟩
    ·have q408 := of_decide_eq_false h403
     refine wp_skip ?_
     refine t_n ?_
     refine wp_seq ?_
     have hR : isR (⟨xo, xp, xm⟩ : GameL) = true := lim_right hxo hxp hxm (by omega) (by omega)
     have hG := isR_ok hR
     have hg0_ : ((⟨xo, xp, xm⟩ : GameL)).ow.length = q.toNat := hl0_
     have hg1_ : ((⟨xo, xp, xm⟩ : GameL)).pr.length = q.toNat := hl1_
     have hg2_ : ((⟨xo, xp, xm⟩ : GameL)).mv.length = q.toNat := hl2_
     refine At.start ?_
     refine At.rd f401 1 [[.ld (.slice A_52 xo.length c_53), .ld (.slice A_57 xp.length c_58), .ld (.slice A_63 xm.length c_64)]] [(84, .agg #[.slice A_52 xo.length c_53, .slice A_57 xp.length c_58, .slice A_63 xm.length c_64])] [(w381.cell? ⟨w21.heap.size, 0, none⟩ = some (.slice A_52 xo.length c_53)), (w381.cell? ⟨w21.heap.size, 1, none⟩ = some (.slice A_57 xp.length c_58)), (w381.cell? ⟨w21.heap.size, 2, none⟩ = some (.slice A_63 xm.length c_64))] (by kernel_rfl) ⟨(bx72.cell (i := 0) rfl), (bx72.cell (i := 1) rfl), (bx72.cell (i := 2) rfl), trivial⟩ (fun act410 f409 => ?_)
     clear f401
     refine At.call f409 17 #[.agg #[.slice A_52 xo.length c_53, .slice A_57 xp.length c_58, .slice A_63 xm.length c_64]] (some 85) (by kernel_rfl) (copyM_any (g := (⟨xo, xp, xm⟩ : GameL)) (RdG.mk (G := (⟨xo, xp, xm⟩ : GameL)) (ow73.rdI0 (by first | omega | (simp only [List.length_cons, List.length_nil]; omega) | (simp; done) | (simp; omega))) (ow74.rdI0 (by first | omega | (simp only [List.length_cons, List.length_nil]; omega) | (simp; done) | (simp; omega))) (ow390.rdII0 (by first | omega | (simp only [List.length_cons, List.length_nil]; omega) | (simp; done) | (simp; omega)) (by assumption)) ow73.cap ow74.cap ow390.cap)) ?_
     rintro e_ w424 ⟨A411, c412, A413, c414, A415, c416, rfl, he, ow417, ow418, ow419⟩
     have hip423 := inner_len (RdG.mv (RdG.mk (G := (⟨xo, xp, xm⟩ : GameL)) (ow73.rdI0 (by first | omega | (simp only [List.length_cons, List.length_nil]; omega) | (simp; done) | (simp; omega))) (ow74.rdI0 (by first | omega | (simp only [List.length_cons, List.length_nil]; omega) | (simp; done) | (simp; omega))) (ow390.rdII0 (by first | omega | (simp only [List.length_cons, List.length_nil]; omega) | (simp; done) | (simp; omega)) (by assumption)) ow73.cap ow74.cap ow390.cap))
     refine ⟨_, rfl, _, rfl, fun act425 f426 => ?_⟩
     clear f409
     have g427 := gr_ext he
     have lt428 := ow73.lt
     have lt429 := ow74.lt
     have lt430 := ow390.lt
     have szw424 := g427.size
     replace e68 := e68.gr g427 no_row
     replace r71 := r71.gr g427 (fun _ h => by cases h)
     replace bx72 := bx72.gr g427 (by simp)
     replace ow73 : OwnR w424 (Sx (w41.heap.size) [obk (A411), obk (A413), obk (A415), obk (A_63), obk (A_57)]) A_52 c_53 3 (xo : List Int) := ow73.grA g427 (fun _ _ h => by cases h) (fun k hk hs => ⟨(fun e => by have := ow417.ge _ e; omega), (fun e => by have := ow418.ge _ e; omega), (fun e => by have := ow419.ge _ e; omega), hs.1, hs.2.1, hs.2.2⟩)
     replace ow74 : OwnR w424 (Sx (w41.heap.size) [obk (A411), obk (A413), obk (A415), obk (A_63), obk (A_52)]) A_57 c_58 3 (xp : List Int) := ow74.grA g427 (fun _ _ h => by cases h) (fun k hk hs => ⟨(fun e => by have := ow417.ge _ e; omega), (fun e => by have := ow418.ge _ e; omega), (fun e => by have := ow419.ge _ e; omega), hs.1, hs.2.1, hs.2.2⟩)
     replace ow390 : OwnLL w424 (w41.heap.size) [obk (A411), obk (A413), obk (A415), obk (A_52), obk (A_57)] A_63 c_64 22 3 (xm : List (List Int)) := ow390.grA g427 (fun _ _ h => by cases h) (fun k hk hs => ⟨(fun e => by have := ow417.ge _ e; omega), (fun e => by have := ow418.ge _ e; omega), (fun e => by have := ow419.ge _ e; omega), hs.1, hs.2.1, hs.2.2⟩)
     replace ow417 : OwnR w424 (Sx (w381.heap.size) [obk (A_52), obk (A_57), obk (A_63), obk (A413), obk (A415)]) A411 c412 3 ((⟨xo, xp, xm⟩ : GameL).ow : List Int) := ow417.imp (fun g _ hs => ⟨(fun e => by have := lt428 _ e; have := Sx_base hs; omega), (fun e => by have := lt429 _ e; have := Sx_base hs; omega), (fun e => by have := lt430 _ e; have := Sx_base hs; omega), hs⟩)
     replace ow418 : OwnR w424 (Sx (w381.heap.size) [obk (A_52), obk (A_57), obk (A_63), obk (A411), obk (A415)]) A413 c414 3 ((⟨xo, xp, xm⟩ : GameL).pr : List Int) := ow418.imp (fun g _ hs => ⟨(fun e => by have := lt428 _ e; have := Sx_base hs; omega), (fun e => by have := lt429 _ e; have := Sx_base hs; omega), (fun e => by have := lt430 _ e; have := Sx_base hs; omega), hs⟩)
     replace ow419 : OwnLL w424 (w381.heap.size) [obk (A_52), obk (A_57), obk (A_63), obk (A411), obk (A413)] A415 c416 22 3 ((⟨xo, xp, xm⟩ : GameL).mv : List (List Int)) := ow419.imp (fun g _ hs => ⟨(fun e => by have := lt428 _ e; have := Sx_base hs; omega), (fun e => by have := lt429 _ e; have := Sx_base hs; omega), (fun e => by have := lt430 _ e; have := Sx_base hs; omega), hs⟩)
     clear lt428 lt429 lt430
     clear g427 he
     refine At.seq f426 1 [[]] [(14, .pointer (some ⟨w424.heap.size, 0, none⟩))] (w424.alloc (.cells #[.slice none 0 0, .slice none 0 0, .slice none 0 0] 25 (0, 0))) [] (by kernel_rfl) trivial (fun act443 w440 hw441 f442 => ?_)
     clear f426
     have g444 := gr_alloc hw441
     have szw440 := g444.size
     replace e68 := e68.gr g444 no_row
     replace r71 := r71.gr g444 (fun _ h => by cases h)
     replace bx72 := bx72.gr g444 (by simp)
     replace ow73 : OwnR w440 (Sx (w41.heap.size) [some (w424.heap.size), obk (A411), obk (A413), obk (A415), obk (A_63), obk (A_57)]) A_52 c_53 3 (xo : List Int) := ow73.grA g444 (fun _ _ h => by cases h) (fun k hk hs => ⟨(fun e => by injection e; omega), hs.1, hs.2.1, hs.2.2.1, hs.2.2.2.1, hs.2.2.2.2.1, hs.2.2.2.2.2⟩)
     replace ow74 : OwnR w440 (Sx (w41.heap.size) [some (w424.heap.size), obk (A411), obk (A413), obk (A415), obk (A_63), obk (A_52)]) A_57 c_58 3 (xp : List Int) := ow74.grA g444 (fun _ _ h => by cases h) (fun k hk hs => ⟨(fun e => by injection e; omega), hs.1, hs.2.1, hs.2.2.1, hs.2.2.2.1, hs.2.2.2.2.1, hs.2.2.2.2.2⟩)
     replace ow390 : OwnLL w440 (w41.heap.size) [some (w424.heap.size), obk (A411), obk (A413), obk (A415), obk (A_52), obk (A_57)] A_63 c_64 22 3 (xm : List (List Int)) := ow390.grA g444 (fun _ _ h => by cases h) (fun k hk hs => ⟨(fun e => by injection e; omega), hs.1, hs.2.1, hs.2.2.1, hs.2.2.2.1, hs.2.2.2.2.1, hs.2.2.2.2.2⟩)
     replace ow417 : OwnR w440 (Sx (w381.heap.size) [some (w424.heap.size), obk (A_52), obk (A_57), obk (A_63), obk (A413), obk (A415)]) A411 c412 3 ((⟨xo, xp, xm⟩ : GameL).ow : List Int) := ow417.grA g444 (fun _ _ h => by cases h) (fun k hk hs => ⟨(fun e => by injection e; omega), hs.1, hs.2.1, hs.2.2.1, hs.2.2.2.1, hs.2.2.2.2.1, hs.2.2.2.2.2⟩)
     replace ow418 : OwnR w440 (Sx (w381.heap.size) [some (w424.heap.size), obk (A_52), obk (A_57), obk (A_63), obk (A411), obk (A415)]) A413 c414 3 ((⟨xo, xp, xm⟩ : GameL).pr : List Int) := ow418.grA g444 (fun _ _ h => by cases h) (fun k hk hs => ⟨(fun e => by injection e; omega), hs.1, hs.2.1, hs.2.2.1, hs.2.2.2.1, hs.2.2.2.2.1, hs.2.2.2.2.2⟩)
     replace ow419 : OwnLL w440 (w381.heap.size) [some (w424.heap.size), obk (A_52), obk (A_57), obk (A_63), obk (A411), obk (A413)] A415 c416 22 3 ((⟨xo, xp, xm⟩ : GameL).mv : List (List Int)) := ow419.grA g444 (fun _ _ h => by cases h) (fun k hk hs => ⟨(fun e => by injection e; omega), hs.1, hs.2.1, hs.2.2.1, hs.2.2.2.1, hs.2.2.2.2.1, hs.2.2.2.2.2⟩)
     have bx455 : Bx w440 (w424.heap.size) [.slice none 0 0, .slice none 0 0, .slice none 0 0] 25 := Bx.new hw441
     have := bx455.lt
     clear g444 hw441
     refine At.store f442 (t := 25) (b := w424.heap.size) (off := 0) (v := .agg #[.slice A411 ((⟨xo, xp, xm⟩ : GameL).ow.length) c412, .slice A413 ((⟨xo, xp, xm⟩ : GameL).pr.length) c414, .slice A415 ((⟨xo, xp, xm⟩ : GameL).mv.length) c416]) (by kernel_rfl) bx455 (by kernel_rfl) (fun act460 w456 g457 bx458 f459 => ?_)
     clear f442
     replace bx458 : Bx w456 (w424.heap.size) [.slice A411 ((⟨xo, xp, xm⟩ : GameL).ow.length) c412, .slice A413 ((⟨xo, xp, xm⟩ : GameL).pr.length) c414, .slice A415 ((⟨xo, xp, xm⟩ : GameL).mv.length) c416] 25 := bx458
     have szw456 := g457.size
     replace e68 := e68.gr g457 (fun k h => by injection h; omega)
     replace r71 := r71.gr g457 (fun k h => by injection h; omega)
     replace bx72 := bx72.gr g457 (fun h => by injection h; omega)
     replace ow73 := ow73.gr g457 (fun k hk => hk.1)
     replace ow74 := ow74.gr g457 (fun k hk => hk.1)
     replace ow390 := ow390.gr g457 (fun k hk => hk.1)
     replace ow417 := ow417.gr g457 (fun k hk => hk.1)
     replace ow418 := ow418.gr g457 (fun k hk => hk.1)
     replace ow419 := ow419.gr g457 (fun k hk => hk.1)
     clear bx455 g457
     refine At.done rfl ?_
     refine t_n ?_
     refine wp_seq ?_
     refine wp_seq ?_
     refine At.start ?_
     refine At.rd f459 31 [[], [], [], [], [.as_ (.bool false)], [], [], [], [.as_ (.bool false)], [], [], [], [.ld (.slice A411 ((⟨xo, xp, xm⟩ : GameL).ow.length) c412)], [], [], [.as_ (.bool false)], [], [], [], [.ld (.slice A413 ((⟨xo, xp, xm⟩ : GameL).pr.length) c414)], [], [], [.as_ (.bool false)], [], [], [], [.ld (.slice A415 ((⟨xo, xp, xm⟩ : GameL).mv.length) c416)], [], [], [.as_ (.bool false)], []] [(116, .bool false), (115, .bool false), (114, .int .i64 (q)), (113, .int .i64 ((((⟨xo, xp, xm⟩ : GameL).mv.length : Nat) : Int))), (112, .slice A415 ((⟨xo, xp, xm⟩ : GameL).mv.length) c416), (111, .pointer (some ⟨w424.heap.size, 2, none⟩)), (110, .bool false), (109, .bool false), (108, .bool false), (107, .int .i64 (q)), (106, .int .i64 ((((⟨xo, xp, xm⟩ : GameL).pr.length : Nat) : Int))), (105, .slice A413 ((⟨xo, xp, xm⟩ : GameL).pr.length) c414), (104, .pointer (some ⟨w424.heap.size, 1, none⟩)), (103, .bool false), (102, .bool false), (101, .bool false), (100, .int .i64 (q)), (99, .int .i64 ((((⟨xo, xp, xm⟩ : GameL).ow.length : Nat) : Int))), (98, .slice A411 ((⟨xo, xp, xm⟩ : GameL).ow.length) c412), (97, .pointer (some ⟨w424.heap.size, 0, none⟩)), (96, .bool false), (95, .bool false), (94, .bool false), (93, .int .i64 ((rightP (⟨xo, xp, xm⟩ : GameL)).1)), (92, .bool false), (91, .bool false), (90, .bool false), (89, .int .i64 ((rightP (⟨xo, xp, xm⟩ : GameL)).2)), (88, .bool false), (87, .bool false), (86, .bool true)] [((.bool (((rightP (⟨xo, xp, xm⟩ : GameL)).2 : Int) != 0) : Value) = .bool false), ((.bool (((rightP (⟨xo, xp, xm⟩ : GameL)).1 : Int) != 0) : Value) = .bool false), (w456.cell? ⟨w424.heap.size, 0, none⟩ = some (.slice A411 ((⟨xo, xp, xm⟩ : GameL).ow.length) c412)), ((.bool (((((⟨xo, xp, xm⟩ : GameL).ow.length : Nat) : Int) : Int) != q) : Value) = .bool false), (w456.cell? ⟨w424.heap.size, 1, none⟩ = some (.slice A413 ((⟨xo, xp, xm⟩ : GameL).pr.length) c414)), ((.bool (((((⟨xo, xp, xm⟩ : GameL).pr.length : Nat) : Int) : Int) != q) : Value) = .bool false), (w456.cell? ⟨w424.heap.size, 2, none⟩ = some (.slice A415 ((⟨xo, xp, xm⟩ : GameL).mv.length) c416)), ((.bool (((((⟨xo, xp, xm⟩ : GameL).mv.length : Nat) : Int) : Int) != q) : Value) = .bool false)] (by kernel_rfl) ⟨(congrArg Value.bool (bneF (by rw [rightP_ok hG]))), (congrArg Value.bool (bneF (by rw [rightP_ok hG]))), (bx458.cell (i := 0) rfl), (congrArg Value.bool (bneF (by omega))), (bx458.cell (i := 1) rfl), (congrArg Value.bool (bneF (by omega))), (bx458.cell (i := 2) rfl), (congrArg Value.bool (bneF (by omega))), trivial⟩ (fun act471 f470 => ?_)
     clear f459
     refine At.done rfl ?_
     refine t_n ?_
     have f472 := f470.sub (r := [(116, .bool false), (14, .pointer (some ⟨w424.heap.size, 0, none⟩)), (10, .pointer (some ⟨w21.heap.size, 0, none⟩)), (0, .int .i64 (q)), (9, .bool true), (1, .int .i64 (o)), (2, .int .i64 (p)), (3, .int .i64 (m))]) ⟨rfl, rfl, rfl, rfl, rfl, rfl, rfl, rfl, trivial⟩
     clear f470
     refine cond_F f472 rfl ?_
     refine wp_skip ?_
     refine t_n ?_
     refine wp_seq ?_
     refine At.start ?_
     obtain ⟨ad473, hA474, hb477, hc476, hc475⟩ := ow417.get (q - 1) (by omega) (by omega) (sz := 1) rfl
     refine At.rd f472 6 [[], [.ld (.slice A411 ((⟨xo, xp, xm⟩ : GameL).ow.length) c412)], [], [.as_ (.int .i64 (q - 1))], [], [.ad ad473]] [(122, .pointer (some (ad473.add ((q - 1 : Int).toNat * 1)))), (121, .int .i64 (o)), (120, .int .i64 (q - 1)), (119, .int .i64 (q)), (118, .slice A411 ((⟨xo, xp, xm⟩ : GameL).ow.length) c412), (117, .pointer (some ⟨w424.heap.size, 0, none⟩))] [(w456.cell? ⟨w424.heap.size, 0, none⟩ = some (.slice A411 ((⟨xo, xp, xm⟩ : GameL).ow.length) c412)), ((.int .i64 (IntKind.i64.wrap (q - 1)) : Value) = .int .i64 (q - 1)), (A411 = some ad473), (0 ≤ (q - 1 : Int)), ((q - 1 : Int) < ((⟨xo, xp, xm⟩ : GameL).ow.length : Nat))] (by kernel_rfl) ⟨(bx458.cell (i := 0) rfl), (w64 (by omega) (by omega)), hA474, (by omega), (by omega), trivial⟩ (fun act479 f478 => ?_)
     clear f472
     refine At.act f478 (storeR (α := Int) (t := 3) (i := q - 1) (ad := ad473) (v := .int .i64 (o)) (o) (by kernel_rfl) rfl rfl (by kernel_rfl) hA474 ow417 (by omega) (by omega)) ?_
     rintro d_ v_ w480 ⟨rfl, g481, ow482⟩
     refine ⟨_, rfl, fun act485 f484 => ?_⟩
     clear f478
     have hl483 : (((⟨xo, xp, xm⟩ : GameL).ow).set (q - 1 : Int).toNat o).length = ((⟨xo, xp, xm⟩ : GameL).ow).length := List.length_set
     have szw480 := g481.size
     replace e68 := e68.gr g481 (fun k hk => by have := ow417.ge k hk; omega)
     replace r71 := r71.gr g481 (fun k hk => by have := ow417.ge k hk; omega)
     replace bx72 := bx72.gr g481 (fun e => by have := ow417.ge _ e; omega)
     replace ow73 := ow73.gr g481 (fun k hk => hk.2.1)
     replace ow74 := ow74.gr g481 (fun k hk => hk.2.1)
     replace ow390 := ow390.gr g481 (fun k hk => hk.2.1)
     replace ow418 := ow418.gr g481 (fun k hk => hk.2.2.2.2.1)
     replace ow419 := ow419.gr g481 (fun k hk => hk.2.2.2.2.1)
     replace bx458 := bx458.gr g481 (ow417.neb (fun g hs => hs.1))
     clear ow417 g481
     have f495 := f484.as 118 (.slice A411 ((⟨xo, xp, xm⟩ : GameL).ow.length) c412) (.slice A411 ((((⟨xo, xp, xm⟩ : GameL).ow).set (q - 1 : Int).toNat o : List Int).length) c412) rfl (slice_len (by first | rfl | omega | (simp; done) | (simp; omega)))
     clear f484
     replace bx458 : Bx w480 (w424.heap.size) [.slice A411 ((((⟨xo, xp, xm⟩ : GameL).ow).set (q - 1 : Int).toNat o).length) c412, .slice A413 ((⟨xo, xp, xm⟩ : GameL).pr.length) c414, .slice A415 ((⟨xo, xp, xm⟩ : GameL).mv.length) c416] 25 := bx458.as (by first | rfl | (simp only [List.length_set]; done))
     refine At.done rfl ?_
     refine t_n ?_
     refine wp_seq ?_
     refine At.start ?_
     refine At.rd f495 1 [[.ld (.slice A411 ((((⟨xo, xp, xm⟩ : GameL).ow).set (q - 1 : Int).toNat o).length) c412), .ld (.slice A413 ((⟨xo, xp, xm⟩ : GameL).pr.length) c414), .ld (.slice A415 ((⟨xo, xp, xm⟩ : GameL).mv.length) c416)]] [(124, .agg #[.slice A411 ((((⟨xo, xp, xm⟩ : GameL).ow).set (q - 1 : Int).toNat o).length) c412, .slice A413 ((⟨xo, xp, xm⟩ : GameL).pr.length) c414, .slice A415 ((⟨xo, xp, xm⟩ : GameL).mv.length) c416])] [(w480.cell? ⟨w424.heap.size, 0, none⟩ = some (.slice A411 ((((⟨xo, xp, xm⟩ : GameL).ow).set (q - 1 : Int).toNat o).length) c412)), (w480.cell? ⟨w424.heap.size, 1, none⟩ = some (.slice A413 ((⟨xo, xp, xm⟩ : GameL).pr.length) c414)), (w480.cell? ⟨w424.heap.size, 2, none⟩ = some (.slice A415 ((⟨xo, xp, xm⟩ : GameL).mv.length) c416))] (by kernel_rfl) ⟨(bx458.cell (i := 0) rfl), (bx458.cell (i := 1) rfl), (bx458.cell (i := 2) rfl), trivial⟩ (fun act497 f496 => ?_)
     clear f495
     refine At.call f496 14 #[.agg #[.slice A411 ((((⟨xo, xp, xm⟩ : GameL).ow).set (q - 1 : Int).toNat o).length) c412, .slice A413 ((⟨xo, xp, xm⟩ : GameL).pr.length) c414, .slice A415 ((⟨xo, xp, xm⟩ : GameL).mv.length) c416]] (some 125) (by kernel_rfl) (right_any (g := (⟨((⟨xo, xp, xm⟩ : GameL).ow).set (q - 1 : Int).toNat o, (⟨xo, xp, xm⟩ : GameL).pr, (⟨xo, xp, xm⟩ : GameL).mv⟩ : GameL)) (RdG.mk (G := (⟨((⟨xo, xp, xm⟩ : GameL).ow).set (q - 1 : Int).toNat o, (⟨xo, xp, xm⟩ : GameL).pr, (⟨xo, xp, xm⟩ : GameL).mv⟩ : GameL)) (ow482.rdI0 (by first | omega | (simp only [List.length_cons, List.length_nil]; omega) | (simp; done) | (simp; omega))) (ow418.rdI0 (by first | omega | (simp only [List.length_cons, List.length_nil]; omega) | (simp; done) | (simp; omega))) (ow419.rdII0 (by first | omega | (simp only [List.length_cons, List.length_nil]; omega) | (simp; done) | (simp; omega)) hip423) ow482.cap ow418.cap ow419.cap)) ?_
     rintro e_ w498 ⟨rfl, he⟩
     refine ⟨_, rfl, _, rfl, fun act499 f500 => ?_⟩
     clear f496
     have g501 := gr_ext he
     have szw498 := g501.size
     replace e68 := e68.gr g501 no_row
     replace r71 := r71.gr g501 (fun _ h => by cases h)
     replace bx72 := bx72.gr g501 (by simp)
     replace ow73 := ow73.gr g501 (fun _ _ h => by cases h)
     replace ow74 := ow74.gr g501 (fun _ _ h => by cases h)
     replace ow390 := ow390.gr g501 (fun _ _ h => by cases h)
     replace ow482 := ow482.gr g501 (fun _ _ h => by cases h)
     replace ow418 := ow418.gr g501 (fun _ _ h => by cases h)
     replace ow419 := ow419.gr g501 (fun _ _ h => by cases h)
     replace bx458 := bx458.gr g501 (by simp)
     clear g501 he
     refine At.rd f500 5 [[], [], [], [], []] [(16, .int .i64 ((rightP (⟨((⟨xo, xp, xm⟩ : GameL).ow).set (q - 1 : Int).toNat o, (⟨xo, xp, xm⟩ : GameL).pr, (⟨xo, xp, xm⟩ : GameL).mv⟩ : GameL)).2)), (15, .int .i64 ((rightP (⟨((⟨xo, xp, xm⟩ : GameL).ow).set (q - 1 : Int).toNat o, (⟨xo, xp, xm⟩ : GameL).pr, (⟨xo, xp, xm⟩ : GameL).mv⟩ : GameL)).1)), (127, .int .i64 ((rightP (⟨((⟨xo, xp, xm⟩ : GameL).ow).set (q - 1 : Int).toNat o, (⟨xo, xp, xm⟩ : GameL).pr, (⟨xo, xp, xm⟩ : GameL).mv⟩ : GameL)).2)), (126, .int .i64 ((rightP (⟨((⟨xo, xp, xm⟩ : GameL).ow).set (q - 1 : Int).toNat o, (⟨xo, xp, xm⟩ : GameL).pr, (⟨xo, xp, xm⟩ : GameL).mv⟩ : GameL)).1)), (123, .tuple #[.int .i64 ((rightP (⟨((⟨xo, xp, xm⟩ : GameL).ow).set (q - 1 : Int).toNat o, (⟨xo, xp, xm⟩ : GameL).pr, (⟨xo, xp, xm⟩ : GameL).mv⟩ : GameL)).1), .int .i64 ((rightP (⟨((⟨xo, xp, xm⟩ : GameL).ow).set (q - 1 : Int).toNat o, (⟨xo, xp, xm⟩ : GameL).pr, (⟨xo, xp, xm⟩ : GameL).mv⟩ : GameL)).2)])] [] (by kernel_rfl) trivial (fun act513 f512 => ?_)
     clear f500
     refine At.done rfl ?_
     refine t_n ?_
     refine wp_seq (cut (fun a_ w_ => ∃ (one : Bool), (Frm 244 a_ [(17, .bool (one)), (16, .int .i64 ((rightP (⟨((⟨xo, xp, xm⟩ : GameL).ow).set (q - 1 : Int).toNat o, (⟨xo, xp, xm⟩ : GameL).pr, (⟨xo, xp, xm⟩ : GameL).mv⟩ : GameL)).2)), (15, .int .i64 ((rightP (⟨((⟨xo, xp, xm⟩ : GameL).ow).set (q - 1 : Int).toNat o, (⟨xo, xp, xm⟩ : GameL).pr, (⟨xo, xp, xm⟩ : GameL).mv⟩ : GameL)).1)), (14, .pointer (some ⟨w424.heap.size, 0, none⟩)), (10, .pointer (some ⟨w21.heap.size, 0, none⟩)), (0, .int .i64 (q)), (9, .bool true), (2, .int .i64 (p)), (3, .int .i64 (m))]) ∧ (Ext w w_) ∧ (RdT w_ 0 w.heap.size) ∧ (Bx w_ (w21.heap.size) [.slice A_52 xo.length c_53, .slice A_57 xp.length c_58, .slice A_63 xm.length c_64] 25) ∧ (OwnR w_ (Sx (w41.heap.size) [some (w424.heap.size), obk (A411), obk (A413), obk (A415), obk (A_63), obk (A_57)]) A_52 c_53 3 (xo : List Int)) ∧ (OwnR w_ (Sx (w41.heap.size) [some (w424.heap.size), obk (A411), obk (A413), obk (A415), obk (A_63), obk (A_52)]) A_57 c_58 3 (xp : List Int)) ∧ (OwnLL w_ (w41.heap.size) [some (w424.heap.size), obk (A411), obk (A413), obk (A415), obk (A_52), obk (A_57)] A_63 c_64 22 3 (xm : List (List Int))) ∧ (OwnR w_ (Sx (w381.heap.size) [some (w424.heap.size), obk (A_52), obk (A_57), obk (A_63), obk (A413), obk (A415)]) A411 c412 3 (((⟨xo, xp, xm⟩ : GameL).ow).set (q - 1 : Int).toNat o : List Int)) ∧ (OwnR w_ (Sx (w381.heap.size) [some (w424.heap.size), obk (A_52), obk (A_57), obk (A_63), obk (A411), obk (A415)]) A413 c414 3 ((⟨xo, xp, xm⟩ : GameL).pr : List Int)) ∧ (OwnLL w_ (w381.heap.size) [some (w424.heap.size), obk (A_52), obk (A_57), obk (A_63), obk (A411), obk (A413)] A415 c416 22 3 ((⟨xo, xp, xm⟩ : GameL).mv : List (List Int))) ∧ (Bx w_ (w424.heap.size) [.slice A411 ((((⟨xo, xp, xm⟩ : GameL).ow).set (q - 1 : Int).toNat o).length) c412, .slice A413 ((⟨xo, xp, xm⟩ : GameL).pr.length) c414, .slice A415 ((⟨xo, xp, xm⟩ : GameL).mv.length) c416] 25) ∧ (one = decide (o = 0 ∨ o = 1)) ∧ (w498.heap.size ≤ w_.heap.size)) ?_ ?_)
     ·refine At.start ?_
      rcases Bool.eq_false_or_eq_true ((o : Int) == 0) with h514 | h514
      ·have q515 := eq_of_beq h514
       refine At.rd f512 7 [[], [], [.as_ (.bool true)], [], [], [], []] [(17, .bool true), (133, .bool true), (132, undef), (131, undef), (130, .bool true), (129, .bool ((o : Int) == 0)), (128, .int .i64 (o))] [((.bool ((o : Int) == 0) : Value) = .bool true)] (by kernel_rfl) ⟨(congrArg Value.bool h514), trivial⟩ (fun act517 f516 => ?_)
       clear f512
       refine At.done rfl ?_
       refine t_n ?_
       have f518 := f516.sub (r := [(17, .bool true), (16, .int .i64 ((rightP (⟨((⟨xo, xp, xm⟩ : GameL).ow).set (q - 1 : Int).toNat o, (⟨xo, xp, xm⟩ : GameL).pr, (⟨xo, xp, xm⟩ : GameL).mv⟩ : GameL)).2)), (15, .int .i64 ((rightP (⟨((⟨xo, xp, xm⟩ : GameL).ow).set (q - 1 : Int).toNat o, (⟨xo, xp, xm⟩ : GameL).pr, (⟨xo, xp, xm⟩ : GameL).mv⟩ : GameL)).1)), (14, .pointer (some ⟨w424.heap.size, 0, none⟩)), (10, .pointer (some ⟨w21.heap.size, 0, none⟩)), (0, .int .i64 (q)), (9, .bool true), (2, .int .i64 (p)), (3, .int .i64 (m))]) ⟨rfl, rfl, rfl, rfl, rfl, rfl, rfl, rfl, rfl, trivial⟩
       exact ⟨true, f518, e68, r71, bx72, ow73, ow74, ow390, ow482, ow418, ow419, bx458, (by first | exact (decide_eq_true (by omega)).symm | exact (decide_eq_false (by omega)).symm | (simp_all; done) | (rw [eq_comm, Bool.eq_iff_iff]; simp_all)), (by omega)⟩
      ·have q519 := ne_of_beq_false h514
       refine At.rd f512 7 [[], [], [.as_ (.bool false)], [], [], [], []] [(17, .bool ((o : Int) == 1)), (133, .bool ((o : Int) == 1)), (132, .bool ((o : Int) == 1)), (131, .int .i64 (o)), (130, .bool false), (129, .bool ((o : Int) == 0)), (128, .int .i64 (o))] [((.bool ((o : Int) == 0) : Value) = .bool false)] (by kernel_rfl) ⟨(congrArg Value.bool h514), trivial⟩ (fun act521 f520 => ?_)
       clear f512
       refine At.done rfl ?_
       refine t_n ?_
       have f522 := f520.sub (r := [(17, .bool ((o : Int) == 1)), (16, .int .i64 ((rightP (⟨((⟨xo, xp, xm⟩ : GameL).ow).set (q - 1 : Int).toNat o, (⟨xo, xp, xm⟩ : GameL).pr, (⟨xo, xp, xm⟩ : GameL).mv⟩ : GameL)).2)), (15, .int .i64 ((rightP (⟨((⟨xo, xp, xm⟩ : GameL).ow).set (q - 1 : Int).toNat o, (⟨xo, xp, xm⟩ : GameL).pr, (⟨xo, xp, xm⟩ : GameL).mv⟩ : GameL)).1)), (14, .pointer (some ⟨w424.heap.size, 0, none⟩)), (10, .pointer (some ⟨w21.heap.size, 0, none⟩)), (0, .int .i64 (q)), (9, .bool true), (2, .int .i64 (p)), (3, .int .i64 (m))]) ⟨rfl, rfl, rfl, rfl, rfl, rfl, rfl, rfl, rfl, trivial⟩
       exact ⟨((o : Int) == 1), f522, e68, r71, bx72, ow73, ow74, ow390, ow482, ow418, ow419, bx458, (by first | exact (decide_eq_true (by omega)).symm | exact (decide_eq_false (by omega)).symm | (simp_all; done) | (rw [eq_comm, Bool.eq_iff_iff]; simp_all)), (by omega)⟩
     ·clear r71
      clear bx72
      clear ow73
      clear ow74
      clear ow390
      clear ow482
      clear ow418
      clear ow419
      clear bx458
      clear f512 e68
      intro act523 w524 ⟨one, f525, e526, r527, bx528, r529, r530, r531, r532, r533, r534, bx535, hone, i536⟩
      have szw524 := e526.size
      have := bx528.lt
      have := bx535.lt
      refine wp_seq ?_
      refine At.start ?_
      refine At.rd f525 1 [[.ld (.slice A_52 xo.length c_53), .ld (.slice A_57 xp.length c_58), .ld (.slice A_63 xm.length c_64)]] [(134, .agg #[.slice A_52 xo.length c_53, .slice A_57 xp.length c_58, .slice A_63 xm.length c_64])] [(w524.cell? ⟨w21.heap.size, 0, none⟩ = some (.slice A_52 xo.length c_53)), (w524.cell? ⟨w21.heap.size, 1, none⟩ = some (.slice A_57 xp.length c_58)), (w524.cell? ⟨w21.heap.size, 2, none⟩ = some (.slice A_63 xm.length c_64))] (by kernel_rfl) ⟨(bx528.cell (i := 0) rfl), (bx528.cell (i := 1) rfl), (bx528.cell (i := 2) rfl), trivial⟩ (fun act538 f537 => ?_)
      clear f525
      refine At.call f537 17 #[.agg #[.slice A_52 xo.length c_53, .slice A_57 xp.length c_58, .slice A_63 xm.length c_64]] (some 135) (by kernel_rfl) (copyM_any (g := (⟨xo, xp, xm⟩ : GameL)) (RdG.mk (G := (⟨xo, xp, xm⟩ : GameL)) (r529.rdI0 (by first | omega | (simp only [List.length_cons, List.length_nil]; omega) | (simp; done) | (simp; omega))) (r530.rdI0 (by first | omega | (simp only [List.length_cons, List.length_nil]; omega) | (simp; done) | (simp; omega))) (r531.rdII0 (by first | omega | (simp only [List.length_cons, List.length_nil]; omega) | (simp; done) | (simp; omega)) (by assumption)) r529.cap r530.cap r531.cap)) ?_
      rintro e_ w552 ⟨A539, c540, A541, c542, A543, c544, rfl, he, ow545, ow546, ow547⟩
      have hip551 := inner_len (RdG.mv (RdG.mk (G := (⟨xo, xp, xm⟩ : GameL)) (r529.rdI0 (by first | omega | (simp only [List.length_cons, List.length_nil]; omega) | (simp; done) | (simp; omega))) (r530.rdI0 (by first | omega | (simp only [List.length_cons, List.length_nil]; omega) | (simp; done) | (simp; omega))) (r531.rdII0 (by first | omega | (simp only [List.length_cons, List.length_nil]; omega) | (simp; done) | (simp; omega)) (by assumption)) r529.cap r530.cap r531.cap))
      refine ⟨_, rfl, _, rfl, fun act553 f554 => ?_⟩
      clear f537
      have g555 := gr_ext he
      have lt556 := r529.lt
      have lt557 := r530.lt
      have lt558 := r531.lt
      have lt559 := r532.lt
      have lt560 := r533.lt
      have lt561 := r534.lt
      have szw552 := g555.size
      replace e526 := e526.gr g555 no_row
      replace r527 := r527.gr g555 (fun _ h => by cases h)
      replace bx528 := bx528.gr g555 (by simp)
      have ow565 : OwnR w552 (Sx (w41.heap.size) [obk (A539), obk (A541), obk (A543), some (w424.heap.size), obk (A411), obk (A413), obk (A415), obk (A_63), obk (A_57)]) A_52 c_53 3 (xo : List Int) := r529.grA g555 (fun _ _ h => by cases h) (fun k hk hs => ⟨(fun e => by have := ow545.ge _ e; omega), (fun e => by have := ow546.ge _ e; omega), (fun e => by have := ow547.ge _ e; omega), hs.1, hs.2.1, hs.2.2.1, hs.2.2.2.1, hs.2.2.2.2.1, hs.2.2.2.2.2.1, hs.2.2.2.2.2.2⟩)
      clear r529
      have ow566 : OwnR w552 (Sx (w41.heap.size) [obk (A539), obk (A541), obk (A543), some (w424.heap.size), obk (A411), obk (A413), obk (A415), obk (A_63), obk (A_52)]) A_57 c_58 3 (xp : List Int) := r530.grA g555 (fun _ _ h => by cases h) (fun k hk hs => ⟨(fun e => by have := ow545.ge _ e; omega), (fun e => by have := ow546.ge _ e; omega), (fun e => by have := ow547.ge _ e; omega), hs.1, hs.2.1, hs.2.2.1, hs.2.2.2.1, hs.2.2.2.2.1, hs.2.2.2.2.2.1, hs.2.2.2.2.2.2⟩)
      clear r530
      have ow567 : OwnLL w552 (w41.heap.size) [obk (A539), obk (A541), obk (A543), some (w424.heap.size), obk (A411), obk (A413), obk (A415), obk (A_52), obk (A_57)] A_63 c_64 22 3 (xm : List (List Int)) := r531.grA g555 (fun _ _ h => by cases h) (fun k hk hs => ⟨(fun e => by have := ow545.ge _ e; omega), (fun e => by have := ow546.ge _ e; omega), (fun e => by have := ow547.ge _ e; omega), hs.1, hs.2.1, hs.2.2.1, hs.2.2.2.1, hs.2.2.2.2.1, hs.2.2.2.2.2.1, hs.2.2.2.2.2.2⟩)
      clear r531
      have ow568 : OwnR w552 (Sx (w381.heap.size) [obk (A539), obk (A541), obk (A543), some (w424.heap.size), obk (A_52), obk (A_57), obk (A_63), obk (A413), obk (A415)]) A411 c412 3 (((⟨xo, xp, xm⟩ : GameL).ow).set (q - 1 : Int).toNat o : List Int) := r532.grA g555 (fun _ _ h => by cases h) (fun k hk hs => ⟨(fun e => by have := ow545.ge _ e; omega), (fun e => by have := ow546.ge _ e; omega), (fun e => by have := ow547.ge _ e; omega), hs.1, hs.2.1, hs.2.2.1, hs.2.2.2.1, hs.2.2.2.2.1, hs.2.2.2.2.2.1, hs.2.2.2.2.2.2⟩)
      clear r532
      have ow569 : OwnR w552 (Sx (w381.heap.size) [obk (A539), obk (A541), obk (A543), some (w424.heap.size), obk (A_52), obk (A_57), obk (A_63), obk (A411), obk (A415)]) A413 c414 3 ((⟨xo, xp, xm⟩ : GameL).pr : List Int) := r533.grA g555 (fun _ _ h => by cases h) (fun k hk hs => ⟨(fun e => by have := ow545.ge _ e; omega), (fun e => by have := ow546.ge _ e; omega), (fun e => by have := ow547.ge _ e; omega), hs.1, hs.2.1, hs.2.2.1, hs.2.2.2.1, hs.2.2.2.2.1, hs.2.2.2.2.2.1, hs.2.2.2.2.2.2⟩)
      clear r533
      have ow570 : OwnLL w552 (w381.heap.size) [obk (A539), obk (A541), obk (A543), some (w424.heap.size), obk (A_52), obk (A_57), obk (A_63), obk (A411), obk (A413)] A415 c416 22 3 ((⟨xo, xp, xm⟩ : GameL).mv : List (List Int)) := r534.grA g555 (fun _ _ h => by cases h) (fun k hk hs => ⟨(fun e => by have := ow545.ge _ e; omega), (fun e => by have := ow546.ge _ e; omega), (fun e => by have := ow547.ge _ e; omega), hs.1, hs.2.1, hs.2.2.1, hs.2.2.2.1, hs.2.2.2.2.1, hs.2.2.2.2.2.1, hs.2.2.2.2.2.2⟩)
      clear r534
      replace bx535 := bx535.gr g555 (by simp)
      replace ow545 : OwnR w552 (Sx (w524.heap.size) [obk (A_52), obk (A_57), obk (A_63), obk (A411), obk (A413), obk (A415), obk (A541), obk (A543)]) A539 c540 3 ((⟨xo, xp, xm⟩ : GameL).ow : List Int) := ow545.imp (fun g _ hs => ⟨(fun e => by have := lt556 _ e; have := Sx_base hs; omega), (fun e => by have := lt557 _ e; have := Sx_base hs; omega), (fun e => by have := lt558 _ e; have := Sx_base hs; omega), (fun e => by have := lt559 _ e; have := Sx_base hs; omega), (fun e => by have := lt560 _ e; have := Sx_base hs; omega), (fun e => by have := lt561 _ e; have := Sx_base hs; omega), hs⟩)
      replace ow546 : OwnR w552 (Sx (w524.heap.size) [obk (A_52), obk (A_57), obk (A_63), obk (A411), obk (A413), obk (A415), obk (A539), obk (A543)]) A541 c542 3 ((⟨xo, xp, xm⟩ : GameL).pr : List Int) := ow546.imp (fun g _ hs => ⟨(fun e => by have := lt556 _ e; have := Sx_base hs; omega), (fun e => by have := lt557 _ e; have := Sx_base hs; omega), (fun e => by have := lt558 _ e; have := Sx_base hs; omega), (fun e => by have := lt559 _ e; have := Sx_base hs; omega), (fun e => by have := lt560 _ e; have := Sx_base hs; omega), (fun e => by have := lt561 _ e; have := Sx_base hs; omega), hs⟩)
      replace ow547 : OwnLL w552 (w524.heap.size) [obk (A_52), obk (A_57), obk (A_63), obk (A411), obk (A413), obk (A415), obk (A539), obk (A541)] A543 c544 22 3 ((⟨xo, xp, xm⟩ : GameL).mv : List (List Int)) := ow547.imp (fun g _ hs => ⟨(fun e => by have := lt556 _ e; have := Sx_base hs; omega), (fun e => by have := lt557 _ e; have := Sx_base hs; omega), (fun e => by have := lt558 _ e; have := Sx_base hs; omega), (fun e => by have := lt559 _ e; have := Sx_base hs; omega), (fun e => by have := lt560 _ e; have := Sx_base hs; omega), (fun e => by have := lt561 _ e; have := Sx_base hs; omega), hs⟩)
      clear lt556 lt557 lt558 lt559 lt560 lt561
      clear g555 he
      refine At.store f554 (t := 25) (b := w424.heap.size) (off := 0) (v := .agg #[.slice A539 ((⟨xo, xp, xm⟩ : GameL).ow.length) c540, .slice A541 ((⟨xo, xp, xm⟩ : GameL).pr.length) c542, .slice A543 ((⟨xo, xp, xm⟩ : GameL).mv.length) c544]) (by kernel_rfl) bx535 (by kernel_rfl) (fun act579 w575 g576 bx577 f578 => ?_)
      clear f554
      replace bx577 : Bx w575 (w424.heap.size) [.slice A539 ((⟨xo, xp, xm⟩ : GameL).ow.length) c540, .slice A541 ((⟨xo, xp, xm⟩ : GameL).pr.length) c542, .slice A543 ((⟨xo, xp, xm⟩ : GameL).mv.length) c544] 25 := bx577
      have szw575 := g576.size
      replace e526 := e526.gr g576 (fun k h => by injection h; omega)
      replace r527 := r527.gr g576 (fun k h => by injection h; omega)
      replace bx528 := bx528.gr g576 (fun h => by injection h; omega)
      replace ow565 := ow565.gr g576 (fun k hk => hk.2.2.2.1)
      replace ow566 := ow566.gr g576 (fun k hk => hk.2.2.2.1)
      replace ow567 := ow567.gr g576 (fun k hk => hk.2.2.2.1)
      replace ow568 := ow568.gr g576 (fun k hk => hk.2.2.2.1)
      replace ow569 := ow569.gr g576 (fun k hk => hk.2.2.2.1)
      replace ow570 := ow570.gr g576 (fun k hk => hk.2.2.2.1)
      replace ow545 := ow545.gr g576 (fun k hk e => by have := Sx_base hk; injection e; omega)
      replace ow546 := ow546.gr g576 (fun k hk e => by have := Sx_base hk; injection e; omega)
      replace ow547 := ow547.gr g576 (fun k hk e => by have := Sx_base hk; injection e; omega)
      clear bx535 g576
      refine At.done rfl ?_
      refine t_n ?_
      clear ow568
      clear ow569
      clear ow570
      refine wp_seq ?_
      refine At.start ?_
      obtain ⟨ad592, hA593, hb596, hc595, hc594⟩ := ow546.get ((q : Int) / 2) (by omega) (by omega) (sz := 1) rfl
      refine At.rd f578 6 [[], [.ld (.slice A541 ((⟨xo, xp, xm⟩ : GameL).pr.length) c542)], [], [.as_ (.int .i64 ((q : Int) / 2))], [], [.ad ad592]] [(141, .pointer (some (ad592.add (((q : Int) / 2 : Int).toNat * 1)))), (140, .int .i64 (p)), (139, .int .i64 ((q : Int) / 2)), (138, .int .i64 (q)), (137, .slice A541 ((⟨xo, xp, xm⟩ : GameL).pr.length) c542), (136, .pointer (some ⟨w424.heap.size, 1, none⟩))] [(w575.cell? ⟨w424.heap.size, 1, none⟩ = some (.slice A541 ((⟨xo, xp, xm⟩ : GameL).pr.length) c542)), ((2 : Int) ≠ 0), ((.int .i64 (IntKind.i64.wrap ((q : Int).tdiv 2)) : Value) = .int .i64 ((q : Int) / 2)), (A541 = some ad592), (0 ≤ ((q : Int) / 2 : Int)), (((q : Int) / 2 : Int) < ((⟨xo, xp, xm⟩ : GameL).pr.length : Nat))] (by kernel_rfl) ⟨(bx577.cell (i := 1) rfl), (by omega), (congrArg (Value.int .i64) (w64q (by omega) (by omega) (by omega))), hA593, (by omega), (by omega), trivial⟩ (fun act598 f597 => ?_)
      clear f578
      refine At.act f597 (storeR (α := Int) (t := 3) (i := (q : Int) / 2) (ad := ad592) (v := .int .i64 (p)) (p) (by kernel_rfl) rfl rfl (by kernel_rfl) hA593 ow546 (by omega) (by omega)) ?_
      rintro d_ v_ w599 ⟨rfl, g600, ow601⟩
      refine ⟨_, rfl, fun act604 f603 => ?_⟩
      clear f597
      have hl602 : (((⟨xo, xp, xm⟩ : GameL).pr).set ((q : Int) / 2 : Int).toNat p).length = ((⟨xo, xp, xm⟩ : GameL).pr).length := List.length_set
      have szw599 := g600.size
      replace e526 := e526.gr g600 (fun k hk => by have := ow546.ge k hk; omega)
      replace r527 := r527.gr g600 (fun k hk => by have := ow546.ge k hk; omega)
      replace bx528 := bx528.gr g600 (fun e => by have := ow546.ge _ e; omega)
      replace ow565 := ow565.gr g600 (fun k hk => hk.2.1)
      replace ow566 := ow566.gr g600 (fun k hk => hk.2.1)
      replace ow567 := ow567.gr g600 (fun k hk => hk.2.1)
      replace bx577 := bx577.gr g600 (fun e => by have := ow546.ge _ e; omega)
      replace ow545 := ow545.gr g600 (fun k hk => hk.2.2.2.2.2.2.1)
      replace ow547 := ow547.gr g600 (fun k hk => hk.2.2.2.2.2.2.2.1)
      clear ow546 g600
      have f614 := f603.as 137 (.slice A541 ((⟨xo, xp, xm⟩ : GameL).pr.length) c542) (.slice A541 ((((⟨xo, xp, xm⟩ : GameL).pr).set ((q : Int) / 2 : Int).toNat p : List Int).length) c542) rfl (slice_len (by first | rfl | omega | (simp; done) | (simp; omega)))
      clear f603
      replace bx577 : Bx w599 (w424.heap.size) [.slice A539 ((⟨xo, xp, xm⟩ : GameL).ow.length) c540, .slice A541 ((((⟨xo, xp, xm⟩ : GameL).pr).set ((q : Int) / 2 : Int).toNat p).length) c542, .slice A543 ((⟨xo, xp, xm⟩ : GameL).mv.length) c544] 25 := bx577.as (by first | rfl | (simp only [List.length_set]; done))
      refine At.done rfl ?_
      refine t_n ?_
      refine wp_seq ?_
      refine At.start ?_
      refine At.rd f614 1 [[.ld (.slice A539 ((⟨xo, xp, xm⟩ : GameL).ow.length) c540), .ld (.slice A541 ((((⟨xo, xp, xm⟩ : GameL).pr).set ((q : Int) / 2 : Int).toNat p).length) c542), .ld (.slice A543 ((⟨xo, xp, xm⟩ : GameL).mv.length) c544)]] [(143, .agg #[.slice A539 ((⟨xo, xp, xm⟩ : GameL).ow.length) c540, .slice A541 ((((⟨xo, xp, xm⟩ : GameL).pr).set ((q : Int) / 2 : Int).toNat p).length) c542, .slice A543 ((⟨xo, xp, xm⟩ : GameL).mv.length) c544])] [(w599.cell? ⟨w424.heap.size, 0, none⟩ = some (.slice A539 ((⟨xo, xp, xm⟩ : GameL).ow.length) c540)), (w599.cell? ⟨w424.heap.size, 1, none⟩ = some (.slice A541 ((((⟨xo, xp, xm⟩ : GameL).pr).set ((q : Int) / 2 : Int).toNat p).length) c542)), (w599.cell? ⟨w424.heap.size, 2, none⟩ = some (.slice A543 ((⟨xo, xp, xm⟩ : GameL).mv.length) c544))] (by kernel_rfl) ⟨(bx577.cell (i := 0) rfl), (bx577.cell (i := 1) rfl), (bx577.cell (i := 2) rfl), trivial⟩ (fun act616 f615 => ?_)
      clear f614
      refine At.call f615 14 #[.agg #[.slice A539 ((⟨xo, xp, xm⟩ : GameL).ow.length) c540, .slice A541 ((((⟨xo, xp, xm⟩ : GameL).pr).set ((q : Int) / 2 : Int).toNat p).length) c542, .slice A543 ((⟨xo, xp, xm⟩ : GameL).mv.length) c544]] (some 144) (by kernel_rfl) (right_any (g := (⟨(⟨xo, xp, xm⟩ : GameL).ow, ((⟨xo, xp, xm⟩ : GameL).pr).set ((q : Int) / 2 : Int).toNat p, (⟨xo, xp, xm⟩ : GameL).mv⟩ : GameL)) (RdG.mk (G := (⟨(⟨xo, xp, xm⟩ : GameL).ow, ((⟨xo, xp, xm⟩ : GameL).pr).set ((q : Int) / 2 : Int).toNat p, (⟨xo, xp, xm⟩ : GameL).mv⟩ : GameL)) (ow545.rdI0 (by first | omega | (simp only [List.length_cons, List.length_nil]; omega) | (simp; done) | (simp; omega))) (ow601.rdI0 (by first | omega | (simp only [List.length_cons, List.length_nil]; omega) | (simp; done) | (simp; omega))) (ow547.rdII0 (by first | omega | (simp only [List.length_cons, List.length_nil]; omega) | (simp; done) | (simp; omega)) hip551) ow545.cap ow601.cap ow547.cap)) ?_
      rintro e_ w617 ⟨rfl, he⟩
      refine ⟨_, rfl, _, rfl, fun act618 f619 => ?_⟩
      clear f615
      have g620 := gr_ext he
      have szw617 := g620.size
      replace e526 := e526.gr g620 no_row
      replace r527 := r527.gr g620 (fun _ h => by cases h)
      replace bx528 := bx528.gr g620 (by simp)
      replace ow565 := ow565.gr g620 (fun _ _ h => by cases h)
      replace ow566 := ow566.gr g620 (fun _ _ h => by cases h)
      replace ow567 := ow567.gr g620 (fun _ _ h => by cases h)
      replace bx577 := bx577.gr g620 (by simp)
      replace ow545 := ow545.gr g620 (fun _ _ h => by cases h)
      replace ow601 := ow601.gr g620 (fun _ _ h => by cases h)
      replace ow547 := ow547.gr g620 (fun _ _ h => by cases h)
      clear g620 he
      refine At.rd f619 5 [[], [], [], [], []] [(19, .int .i64 ((rightP (⟨(⟨xo, xp, xm⟩ : GameL).ow, ((⟨xo, xp, xm⟩ : GameL).pr).set ((q : Int) / 2 : Int).toNat p, (⟨xo, xp, xm⟩ : GameL).mv⟩ : GameL)).2)), (18, .int .i64 ((rightP (⟨(⟨xo, xp, xm⟩ : GameL).ow, ((⟨xo, xp, xm⟩ : GameL).pr).set ((q : Int) / 2 : Int).toNat p, (⟨xo, xp, xm⟩ : GameL).mv⟩ : GameL)).1)), (146, .int .i64 ((rightP (⟨(⟨xo, xp, xm⟩ : GameL).ow, ((⟨xo, xp, xm⟩ : GameL).pr).set ((q : Int) / 2 : Int).toNat p, (⟨xo, xp, xm⟩ : GameL).mv⟩ : GameL)).2)), (145, .int .i64 ((rightP (⟨(⟨xo, xp, xm⟩ : GameL).ow, ((⟨xo, xp, xm⟩ : GameL).pr).set ((q : Int) / 2 : Int).toNat p, (⟨xo, xp, xm⟩ : GameL).mv⟩ : GameL)).1)), (142, .tuple #[.int .i64 ((rightP (⟨(⟨xo, xp, xm⟩ : GameL).ow, ((⟨xo, xp, xm⟩ : GameL).pr).set ((q : Int) / 2 : Int).toNat p, (⟨xo, xp, xm⟩ : GameL).mv⟩ : GameL)).1), .int .i64 ((rightP (⟨(⟨xo, xp, xm⟩ : GameL).ow, ((⟨xo, xp, xm⟩ : GameL).pr).set ((q : Int) / 2 : Int).toNat p, (⟨xo, xp, xm⟩ : GameL).mv⟩ : GameL)).2)])] [] (by kernel_rfl) trivial (fun act632 f631 => ?_)
      clear f619
      refine At.done rfl ?_
      refine t_n ?_
      refine wp_seq (cut (fun a_ w_ => ∃ (two : Bool), (Frm 244 a_ [(20, .bool (two)), (19, .int .i64 ((rightP (⟨(⟨xo, xp, xm⟩ : GameL).ow, ((⟨xo, xp, xm⟩ : GameL).pr).set ((q : Int) / 2 : Int).toNat p, (⟨xo, xp, xm⟩ : GameL).mv⟩ : GameL)).2)), (18, .int .i64 ((rightP (⟨(⟨xo, xp, xm⟩ : GameL).ow, ((⟨xo, xp, xm⟩ : GameL).pr).set ((q : Int) / 2 : Int).toNat p, (⟨xo, xp, xm⟩ : GameL).mv⟩ : GameL)).1)), (17, .bool (one)), (16, .int .i64 ((rightP (⟨((⟨xo, xp, xm⟩ : GameL).ow).set (q - 1 : Int).toNat o, (⟨xo, xp, xm⟩ : GameL).pr, (⟨xo, xp, xm⟩ : GameL).mv⟩ : GameL)).2)), (15, .int .i64 ((rightP (⟨((⟨xo, xp, xm⟩ : GameL).ow).set (q - 1 : Int).toNat o, (⟨xo, xp, xm⟩ : GameL).pr, (⟨xo, xp, xm⟩ : GameL).mv⟩ : GameL)).1)), (14, .pointer (some ⟨w424.heap.size, 0, none⟩)), (10, .pointer (some ⟨w21.heap.size, 0, none⟩)), (0, .int .i64 (q)), (9, .bool true), (3, .int .i64 (m))]) ∧ (Ext w w_) ∧ (RdT w_ 0 w.heap.size) ∧ (Bx w_ (w21.heap.size) [.slice A_52 xo.length c_53, .slice A_57 xp.length c_58, .slice A_63 xm.length c_64] 25) ∧ (OwnR w_ (Sx (w41.heap.size) [obk (A539), obk (A541), obk (A543), some (w424.heap.size), obk (A411), obk (A413), obk (A415), obk (A_63), obk (A_57)]) A_52 c_53 3 (xo : List Int)) ∧ (OwnR w_ (Sx (w41.heap.size) [obk (A539), obk (A541), obk (A543), some (w424.heap.size), obk (A411), obk (A413), obk (A415), obk (A_63), obk (A_52)]) A_57 c_58 3 (xp : List Int)) ∧ (OwnLL w_ (w41.heap.size) [obk (A539), obk (A541), obk (A543), some (w424.heap.size), obk (A411), obk (A413), obk (A415), obk (A_52), obk (A_57)] A_63 c_64 22 3 (xm : List (List Int))) ∧ (Bx w_ (w424.heap.size) [.slice A539 ((⟨xo, xp, xm⟩ : GameL).ow.length) c540, .slice A541 ((((⟨xo, xp, xm⟩ : GameL).pr).set ((q : Int) / 2 : Int).toNat p).length) c542, .slice A543 ((⟨xo, xp, xm⟩ : GameL).mv.length) c544] 25) ∧ (OwnR w_ (Sx (w524.heap.size) [obk (A_52), obk (A_57), obk (A_63), obk (A411), obk (A413), obk (A415), obk (A541), obk (A543)]) A539 c540 3 ((⟨xo, xp, xm⟩ : GameL).ow : List Int)) ∧ (OwnR w_ (Sx (w524.heap.size) [obk (A_52), obk (A_57), obk (A_63), obk (A411), obk (A413), obk (A415), obk (A539), obk (A543)]) A541 c542 3 (((⟨xo, xp, xm⟩ : GameL).pr).set ((q : Int) / 2 : Int).toNat p : List Int)) ∧ (OwnLL w_ (w524.heap.size) [obk (A_52), obk (A_57), obk (A_63), obk (A411), obk (A413), obk (A415), obk (A539), obk (A541)] A543 c544 22 3 ((⟨xo, xp, xm⟩ : GameL).mv : List (List Int))) ∧ (two = decide (0 ≤ p ∧ p ≤ 7)) ∧ (w617.heap.size ≤ w_.heap.size)) ?_ ?_)
      ·refine At.start ?_
       rcases Bool.eq_false_or_eq_true (decide ((p : Int) ≥ 0)) with h633 | h633
       ·have q634 := of_decide_eq_true h633
        refine At.rd f631 7 [[], [], [.as_ (.bool true)], [], [], [], []] [(20, .bool (decide ((p : Int) ≤ 7))), (152, .bool (decide ((p : Int) ≤ 7))), (151, .bool (decide ((p : Int) ≤ 7))), (150, .int .i64 (p)), (149, .bool true), (148, .bool (decide ((p : Int) ≥ 0))), (147, .int .i64 (p))] [((.bool (decide ((p : Int) ≥ 0)) : Value) = .bool true)] (by kernel_rfl) ⟨(congrArg Value.bool h633), trivial⟩ (fun act636 f635 => ?_)
        clear f631
        refine At.done rfl ?_
        refine t_n ?_
        have f637 := f635.sub (r := [(20, .bool (decide ((p : Int) ≤ 7))), (19, .int .i64 ((rightP (⟨(⟨xo, xp, xm⟩ : GameL).ow, ((⟨xo, xp, xm⟩ : GameL).pr).set ((q : Int) / 2 : Int).toNat p, (⟨xo, xp, xm⟩ : GameL).mv⟩ : GameL)).2)), (18, .int .i64 ((rightP (⟨(⟨xo, xp, xm⟩ : GameL).ow, ((⟨xo, xp, xm⟩ : GameL).pr).set ((q : Int) / 2 : Int).toNat p, (⟨xo, xp, xm⟩ : GameL).mv⟩ : GameL)).1)), (17, .bool (one)), (16, .int .i64 ((rightP (⟨((⟨xo, xp, xm⟩ : GameL).ow).set (q - 1 : Int).toNat o, (⟨xo, xp, xm⟩ : GameL).pr, (⟨xo, xp, xm⟩ : GameL).mv⟩ : GameL)).2)), (15, .int .i64 ((rightP (⟨((⟨xo, xp, xm⟩ : GameL).ow).set (q - 1 : Int).toNat o, (⟨xo, xp, xm⟩ : GameL).pr, (⟨xo, xp, xm⟩ : GameL).mv⟩ : GameL)).1)), (14, .pointer (some ⟨w424.heap.size, 0, none⟩)), (10, .pointer (some ⟨w21.heap.size, 0, none⟩)), (0, .int .i64 (q)), (9, .bool true), (3, .int .i64 (m))]) ⟨rfl, rfl, rfl, rfl, rfl, rfl, rfl, rfl, rfl, rfl, rfl, trivial⟩
        exact ⟨(decide ((p : Int) ≤ 7)), f637, e526, r527, bx528, ow565, ow566, ow567, bx577, ow545, ow601, ow547, (by first | exact (decide_eq_true (by omega)).symm | exact (decide_eq_false (by omega)).symm | (simp_all; done) | (rw [eq_comm, Bool.eq_iff_iff]; simp_all)), (by omega)⟩
       ·have q638 := of_decide_eq_false h633
        refine At.rd f631 7 [[], [], [.as_ (.bool false)], [], [], [], []] [(20, .bool false), (152, .bool false), (151, undef), (150, undef), (149, .bool false), (148, .bool (decide ((p : Int) ≥ 0))), (147, .int .i64 (p))] [((.bool (decide ((p : Int) ≥ 0)) : Value) = .bool false)] (by kernel_rfl) ⟨(congrArg Value.bool h633), trivial⟩ (fun act640 f639 => ?_)
        clear f631
        refine At.done rfl ?_
        refine t_n ?_
        have f641 := f639.sub (r := [(20, .bool false), (19, .int .i64 ((rightP (⟨(⟨xo, xp, xm⟩ : GameL).ow, ((⟨xo, xp, xm⟩ : GameL).pr).set ((q : Int) / 2 : Int).toNat p, (⟨xo, xp, xm⟩ : GameL).mv⟩ : GameL)).2)), (18, .int .i64 ((rightP (⟨(⟨xo, xp, xm⟩ : GameL).ow, ((⟨xo, xp, xm⟩ : GameL).pr).set ((q : Int) / 2 : Int).toNat p, (⟨xo, xp, xm⟩ : GameL).mv⟩ : GameL)).1)), (17, .bool (one)), (16, .int .i64 ((rightP (⟨((⟨xo, xp, xm⟩ : GameL).ow).set (q - 1 : Int).toNat o, (⟨xo, xp, xm⟩ : GameL).pr, (⟨xo, xp, xm⟩ : GameL).mv⟩ : GameL)).2)), (15, .int .i64 ((rightP (⟨((⟨xo, xp, xm⟩ : GameL).ow).set (q - 1 : Int).toNat o, (⟨xo, xp, xm⟩ : GameL).pr, (⟨xo, xp, xm⟩ : GameL).mv⟩ : GameL)).1)), (14, .pointer (some ⟨w424.heap.size, 0, none⟩)), (10, .pointer (some ⟨w21.heap.size, 0, none⟩)), (0, .int .i64 (q)), (9, .bool true), (3, .int .i64 (m))]) ⟨rfl, rfl, rfl, rfl, rfl, rfl, rfl, rfl, rfl, rfl, rfl, trivial⟩
        exact ⟨false, f641, e526, r527, bx528, ow565, ow566, ow567, bx577, ow545, ow601, ow547, (by first | exact (decide_eq_true (by omega)).symm | exact (decide_eq_false (by omega)).symm | (simp_all; done) | (rw [eq_comm, Bool.eq_iff_iff]; simp_all)), (by omega)⟩
      ·clear r527
       clear bx528
       clear ow565
       clear ow566
       clear ow567
       clear bx577
       clear ow545
       clear ow601
       clear ow547
       clear f631 e526
       intro act642 w643 ⟨two, f644, e645, r646, bx647, r648, r649, r650, bx651, r652, r653, r654, htwo, i655⟩
       have szw643 := e645.size
       have := bx647.lt
       have := bx651.lt
       refine wp_seq ?_
       refine At.start ?_
       refine At.rd f644 1 [[.ld (.slice A_52 xo.length c_53), .ld (.slice A_57 xp.length c_58), .ld (.slice A_63 xm.length c_64)]] [(153, .agg #[.slice A_52 xo.length c_53, .slice A_57 xp.length c_58, .slice A_63 xm.length c_64])] [(w643.cell? ⟨w21.heap.size, 0, none⟩ = some (.slice A_52 xo.length c_53)), (w643.cell? ⟨w21.heap.size, 1, none⟩ = some (.slice A_57 xp.length c_58)), (w643.cell? ⟨w21.heap.size, 2, none⟩ = some (.slice A_63 xm.length c_64))] (by kernel_rfl) ⟨(bx647.cell (i := 0) rfl), (bx647.cell (i := 1) rfl), (bx647.cell (i := 2) rfl), trivial⟩ (fun act657 f656 => ?_)
       clear f644
       refine At.call f656 17 #[.agg #[.slice A_52 xo.length c_53, .slice A_57 xp.length c_58, .slice A_63 xm.length c_64]] (some 154) (by kernel_rfl) (copyM_any (g := (⟨xo, xp, xm⟩ : GameL)) (RdG.mk (G := (⟨xo, xp, xm⟩ : GameL)) (r648.rdI0 (by first | omega | (simp only [List.length_cons, List.length_nil]; omega) | (simp; done) | (simp; omega))) (r649.rdI0 (by first | omega | (simp only [List.length_cons, List.length_nil]; omega) | (simp; done) | (simp; omega))) (r650.rdII0 (by first | omega | (simp only [List.length_cons, List.length_nil]; omega) | (simp; done) | (simp; omega)) (by assumption)) r648.cap r649.cap r650.cap)) ?_
       rintro e_ w671 ⟨A658, c659, A660, c661, A662, c663, rfl, he, ow664, ow665, ow666⟩
       have hip670 := inner_len (RdG.mv (RdG.mk (G := (⟨xo, xp, xm⟩ : GameL)) (r648.rdI0 (by first | omega | (simp only [List.length_cons, List.length_nil]; omega) | (simp; done) | (simp; omega))) (r649.rdI0 (by first | omega | (simp only [List.length_cons, List.length_nil]; omega) | (simp; done) | (simp; omega))) (r650.rdII0 (by first | omega | (simp only [List.length_cons, List.length_nil]; omega) | (simp; done) | (simp; omega)) (by assumption)) r648.cap r649.cap r650.cap))
       refine ⟨_, rfl, _, rfl, fun act672 f673 => ?_⟩
       clear f656
       have g674 := gr_ext he
       have lt675 := r648.lt
       have lt676 := r649.lt
       have lt677 := r650.lt
       have lt678 := r652.lt
       have lt679 := r653.lt
       have lt680 := r654.lt
       have szw671 := g674.size
       replace e645 := e645.gr g674 no_row
       replace r646 := r646.gr g674 (fun _ h => by cases h)
       replace bx647 := bx647.gr g674 (by simp)
       have ow684 : OwnR w671 (Sx (w41.heap.size) [obk (A658), obk (A660), obk (A662), obk (A539), obk (A541), obk (A543), some (w424.heap.size), obk (A411), obk (A413), obk (A415), obk (A_63), obk (A_57)]) A_52 c_53 3 (xo : List Int) := r648.grA g674 (fun _ _ h => by cases h) (fun k hk hs => ⟨(fun e => by have := ow664.ge _ e; omega), (fun e => by have := ow665.ge _ e; omega), (fun e => by have := ow666.ge _ e; omega), hs.1, hs.2.1, hs.2.2.1, hs.2.2.2.1, hs.2.2.2.2.1, hs.2.2.2.2.2.1, hs.2.2.2.2.2.2.1, hs.2.2.2.2.2.2.2.1, hs.2.2.2.2.2.2.2.2.1, hs.2.2.2.2.2.2.2.2.2⟩)
       clear r648
       have ow685 : OwnR w671 (Sx (w41.heap.size) [obk (A658), obk (A660), obk (A662), obk (A539), obk (A541), obk (A543), some (w424.heap.size), obk (A411), obk (A413), obk (A415), obk (A_63), obk (A_52)]) A_57 c_58 3 (xp : List Int) := r649.grA g674 (fun _ _ h => by cases h) (fun k hk hs => ⟨(fun e => by have := ow664.ge _ e; omega), (fun e => by have := ow665.ge _ e; omega), (fun e => by have := ow666.ge _ e; omega), hs.1, hs.2.1, hs.2.2.1, hs.2.2.2.1, hs.2.2.2.2.1, hs.2.2.2.2.2.1, hs.2.2.2.2.2.2.1, hs.2.2.2.2.2.2.2.1, hs.2.2.2.2.2.2.2.2.1, hs.2.2.2.2.2.2.2.2.2⟩)
       clear r649
       have ow686 : OwnLL w671 (w41.heap.size) [obk (A658), obk (A660), obk (A662), obk (A539), obk (A541), obk (A543), some (w424.heap.size), obk (A411), obk (A413), obk (A415), obk (A_52), obk (A_57)] A_63 c_64 22 3 (xm : List (List Int)) := r650.grA g674 (fun _ _ h => by cases h) (fun k hk hs => ⟨(fun e => by have := ow664.ge _ e; omega), (fun e => by have := ow665.ge _ e; omega), (fun e => by have := ow666.ge _ e; omega), hs.1, hs.2.1, hs.2.2.1, hs.2.2.2.1, hs.2.2.2.2.1, hs.2.2.2.2.2.1, hs.2.2.2.2.2.2.1, hs.2.2.2.2.2.2.2.1, hs.2.2.2.2.2.2.2.2.1, hs.2.2.2.2.2.2.2.2.2⟩)
       clear r650
       replace bx651 := bx651.gr g674 (by simp)
       have ow688 : OwnR w671 (Sx (w524.heap.size) [obk (A658), obk (A660), obk (A662), obk (A_52), obk (A_57), obk (A_63), obk (A411), obk (A413), obk (A415), obk (A541), obk (A543)]) A539 c540 3 ((⟨xo, xp, xm⟩ : GameL).ow : List Int) := r652.grA g674 (fun _ _ h => by cases h) (fun k hk hs => ⟨(fun e => by have := ow664.ge _ e; omega), (fun e => by have := ow665.ge _ e; omega), (fun e => by have := ow666.ge _ e; omega), hs.1, hs.2.1, hs.2.2.1, hs.2.2.2.1, hs.2.2.2.2.1, hs.2.2.2.2.2.1, hs.2.2.2.2.2.2.1, hs.2.2.2.2.2.2.2.1, hs.2.2.2.2.2.2.2.2⟩)
       clear r652
       have ow689 : OwnR w671 (Sx (w524.heap.size) [obk (A658), obk (A660), obk (A662), obk (A_52), obk (A_57), obk (A_63), obk (A411), obk (A413), obk (A415), obk (A539), obk (A543)]) A541 c542 3 (((⟨xo, xp, xm⟩ : GameL).pr).set ((q : Int) / 2 : Int).toNat p : List Int) := r653.grA g674 (fun _ _ h => by cases h) (fun k hk hs => ⟨(fun e => by have := ow664.ge _ e; omega), (fun e => by have := ow665.ge _ e; omega), (fun e => by have := ow666.ge _ e; omega), hs.1, hs.2.1, hs.2.2.1, hs.2.2.2.1, hs.2.2.2.2.1, hs.2.2.2.2.2.1, hs.2.2.2.2.2.2.1, hs.2.2.2.2.2.2.2.1, hs.2.2.2.2.2.2.2.2⟩)
       clear r653
       have ow690 : OwnLL w671 (w524.heap.size) [obk (A658), obk (A660), obk (A662), obk (A_52), obk (A_57), obk (A_63), obk (A411), obk (A413), obk (A415), obk (A539), obk (A541)] A543 c544 22 3 ((⟨xo, xp, xm⟩ : GameL).mv : List (List Int)) := r654.grA g674 (fun _ _ h => by cases h) (fun k hk hs => ⟨(fun e => by have := ow664.ge _ e; omega), (fun e => by have := ow665.ge _ e; omega), (fun e => by have := ow666.ge _ e; omega), hs.1, hs.2.1, hs.2.2.1, hs.2.2.2.1, hs.2.2.2.2.1, hs.2.2.2.2.2.1, hs.2.2.2.2.2.2.1, hs.2.2.2.2.2.2.2.1, hs.2.2.2.2.2.2.2.2⟩)
       clear r654
       replace ow664 : OwnR w671 (Sx (w643.heap.size) [obk (A_52), obk (A_57), obk (A_63), obk (A539), obk (A541), obk (A543), obk (A660), obk (A662)]) A658 c659 3 ((⟨xo, xp, xm⟩ : GameL).ow : List Int) := ow664.imp (fun g _ hs => ⟨(fun e => by have := lt675 _ e; have := Sx_base hs; omega), (fun e => by have := lt676 _ e; have := Sx_base hs; omega), (fun e => by have := lt677 _ e; have := Sx_base hs; omega), (fun e => by have := lt678 _ e; have := Sx_base hs; omega), (fun e => by have := lt679 _ e; have := Sx_base hs; omega), (fun e => by have := lt680 _ e; have := Sx_base hs; omega), hs⟩)
       replace ow665 : OwnR w671 (Sx (w643.heap.size) [obk (A_52), obk (A_57), obk (A_63), obk (A539), obk (A541), obk (A543), obk (A658), obk (A662)]) A660 c661 3 ((⟨xo, xp, xm⟩ : GameL).pr : List Int) := ow665.imp (fun g _ hs => ⟨(fun e => by have := lt675 _ e; have := Sx_base hs; omega), (fun e => by have := lt676 _ e; have := Sx_base hs; omega), (fun e => by have := lt677 _ e; have := Sx_base hs; omega), (fun e => by have := lt678 _ e; have := Sx_base hs; omega), (fun e => by have := lt679 _ e; have := Sx_base hs; omega), (fun e => by have := lt680 _ e; have := Sx_base hs; omega), hs⟩)
       replace ow666 : OwnLL w671 (w643.heap.size) [obk (A_52), obk (A_57), obk (A_63), obk (A539), obk (A541), obk (A543), obk (A658), obk (A660)] A662 c663 22 3 ((⟨xo, xp, xm⟩ : GameL).mv : List (List Int)) := ow666.imp (fun g _ hs => ⟨(fun e => by have := lt675 _ e; have := Sx_base hs; omega), (fun e => by have := lt676 _ e; have := Sx_base hs; omega), (fun e => by have := lt677 _ e; have := Sx_base hs; omega), (fun e => by have := lt678 _ e; have := Sx_base hs; omega), (fun e => by have := lt679 _ e; have := Sx_base hs; omega), (fun e => by have := lt680 _ e; have := Sx_base hs; omega), hs⟩)
       clear lt675 lt676 lt677 lt678 lt679 lt680
       clear g674 he
       refine At.store f673 (t := 25) (b := w424.heap.size) (off := 0) (v := .agg #[.slice A658 ((⟨xo, xp, xm⟩ : GameL).ow.length) c659, .slice A660 ((⟨xo, xp, xm⟩ : GameL).pr.length) c661, .slice A662 ((⟨xo, xp, xm⟩ : GameL).mv.length) c663]) (by kernel_rfl) bx651 (by kernel_rfl) (fun act698 w694 g695 bx696 f697 => ?_)
       clear f673
       replace bx696 : Bx w694 (w424.heap.size) [.slice A658 ((⟨xo, xp, xm⟩ : GameL).ow.length) c659, .slice A660 ((⟨xo, xp, xm⟩ : GameL).pr.length) c661, .slice A662 ((⟨xo, xp, xm⟩ : GameL).mv.length) c663] 25 := bx696
       have szw694 := g695.size
       replace e645 := e645.gr g695 (fun k h => by injection h; omega)
       replace r646 := r646.gr g695 (fun k h => by injection h; omega)
       replace bx647 := bx647.gr g695 (fun h => by injection h; omega)
       replace ow684 := ow684.gr g695 (fun k hk => hk.2.2.2.2.2.2.1)
       replace ow685 := ow685.gr g695 (fun k hk => hk.2.2.2.2.2.2.1)
       replace ow686 := ow686.gr g695 (fun k hk => hk.2.2.2.2.2.2.1)
       replace ow688 := ow688.gr g695 (fun k hk e => by have := Sx_base hk; injection e; omega)
       replace ow689 := ow689.gr g695 (fun k hk e => by have := Sx_base hk; injection e; omega)
       replace ow690 := ow690.gr g695 (fun k hk e => by have := Sx_base hk; injection e; omega)
       replace ow664 := ow664.gr g695 (fun k hk e => by have := Sx_base hk; injection e; omega)
       replace ow665 := ow665.gr g695 (fun k hk e => by have := Sx_base hk; injection e; omega)
       replace ow666 := ow666.gr g695 (fun k hk e => by have := Sx_base hk; injection e; omega)
       clear bx651 g695
       refine At.done rfl ?_
       refine t_n ?_
       clear bx647
       clear ow684
       clear ow685
       clear ow686
       clear ow688
       clear ow689
       clear ow690
       refine wp_seq ?_
       refine At.start ?_
       refine At.rd f697 3 [[], [.ld (.slice A662 ((⟨xo, xp, xm⟩ : GameL).mv.length) c663)], []] [(157, .int .i64 (m)), (156, .slice A662 ((⟨xo, xp, xm⟩ : GameL).mv.length) c663), (155, .pointer (some ⟨w424.heap.size, 2, none⟩))] [(w694.cell? ⟨w424.heap.size, 2, none⟩ = some (.slice A662 ((⟨xo, xp, xm⟩ : GameL).mv.length) c663))] (by kernel_rfl) ⟨(bx696.cell (i := 2) rfl), trivial⟩ (fun act712 f711 => ?_)
       clear f697
       refine At.seq f711 1 [[]] [(158, .slice (some ⟨w694.heap.size, 0, none⟩) 1 1)] (w694.alloc (.cells #[.int .i64 (m)] 3 (0, 0))) [] (by kernel_rfl) trivial (fun act716 w713 hw714 f715 => ?_)
       clear f711
       have g717 := gr_alloc hw714
       have szw713 := g717.size
       replace e645 := e645.gr g717 no_row
       replace r646 := r646.gr g717 (fun _ h => by cases h)
       replace bx696 := bx696.gr g717 (by simp)
       replace ow664 : OwnR w713 (Sx (w643.heap.size) [some (w694.heap.size), obk (A_52), obk (A_57), obk (A_63), obk (A539), obk (A541), obk (A543), obk (A660), obk (A662)]) A658 c659 3 ((⟨xo, xp, xm⟩ : GameL).ow : List Int) := ow664.grA g717 (fun _ _ h => by cases h) (fun k hk hs => ⟨(fun e => by injection e; omega), hs.1, hs.2.1, hs.2.2.1, hs.2.2.2.1, hs.2.2.2.2.1, hs.2.2.2.2.2.1, hs.2.2.2.2.2.2.1, hs.2.2.2.2.2.2.2.1, hs.2.2.2.2.2.2.2.2⟩)
       replace ow665 : OwnR w713 (Sx (w643.heap.size) [some (w694.heap.size), obk (A_52), obk (A_57), obk (A_63), obk (A539), obk (A541), obk (A543), obk (A658), obk (A662)]) A660 c661 3 ((⟨xo, xp, xm⟩ : GameL).pr : List Int) := ow665.grA g717 (fun _ _ h => by cases h) (fun k hk hs => ⟨(fun e => by injection e; omega), hs.1, hs.2.1, hs.2.2.1, hs.2.2.2.1, hs.2.2.2.2.1, hs.2.2.2.2.2.1, hs.2.2.2.2.2.2.1, hs.2.2.2.2.2.2.2.1, hs.2.2.2.2.2.2.2.2⟩)
       replace ow666 : OwnLL w713 (w643.heap.size) [some (w694.heap.size), obk (A_52), obk (A_57), obk (A_63), obk (A539), obk (A541), obk (A543), obk (A658), obk (A660)] A662 c663 22 3 ((⟨xo, xp, xm⟩ : GameL).mv : List (List Int)) := ow666.grA g717 (fun _ _ h => by cases h) (fun k hk hs => ⟨(fun e => by injection e; omega), hs.1, hs.2.1, hs.2.2.1, hs.2.2.2.1, hs.2.2.2.2.1, hs.2.2.2.2.2.1, hs.2.2.2.2.2.2.1, hs.2.2.2.2.2.2.2.1, hs.2.2.2.2.2.2.2.2⟩)
       have bx719 : Bx w713 (w694.heap.size) [.int .i64 (m)] 3 := Bx.new hw714
       have := bx719.lt
       clear g717 hw714
       obtain ⟨ad726, R729, C730, hA727, hb731, hc728, ow732, ow733⟩ := ow666.get (0) (by omega) (by omega)
       refine At.rd f715 1 [[.ad ad726]] [(159, .pointer (some (ad726.add ((0 : Int).toNat * 1))))] [(A662 = some ad726), (0 ≤ (0 : Int)), ((0 : Int) < ((⟨xo, xp, xm⟩ : GameL).mv.length : Nat))] (by kernel_rfl) ⟨hA727, (by omega), (by omega), trivial⟩ (fun act737 f736 => ?_)
       clear f715
       clear ow732
       clear ow733
       have ow738 : OwnR w713 (Sx (w694.heap.size) [obk (A658), obk (A660), obk (A662)]) (some ⟨w694.heap.size, 0, none⟩) 1 3 ([m] : List Int) := Bx.ownR (n := 0) (l := ([m] : List Int)) bx719 rfl ⟨(ow664.neb (fun g hs => hs.1)), (ow665.neb (fun g hs => hs.1)), (ow666.neb (fun g hs => hs.1)), (Nat.le_refl _)⟩ (show 1 ≤ maxLen by decide)
       clear bx719
       have ow739 : OwnLL w713 (w643.heap.size) [obk (some ⟨w694.heap.size, 0, none⟩), obk (A658), obk (A660)] A662 c663 22 3 ((⟨xo, xp, xm⟩ : GameL).mv : List (List Int)) := (ow666.imp (fun g _ hs => ⟨hs.1, hs.2.2.2.2.2.2.2.1, hs.2.2.2.2.2.2.2.2.1, hs.2.2.2.2.2.2.2.2.2⟩))
       have ow740 : OwnR w713 (Sx (w643.heap.size) [obk (A658), obk (A660)]) (some ⟨w694.heap.size, 0, none⟩) 1 3 ([m] : List Int) := ow738.imp (fun g _ hs => ⟨hs.1, hs.2.1, (by have := Sx_base hs; show w643.heap.size ≤ g; omega)⟩)
       have hip745 : ∀ i, i < (((⟨xo, xp, xm⟩ : GameL).mv).set (0 : Int).toNat [m]).length → ((((⟨xo, xp, xm⟩ : GameL).mv).set (0 : Int).toNat [m]).getD i []).length * 8 ≤ 140737488351232 := inner_set hip670 (by simp)
       refine At.act f736 (storeLLn (t := 22) (i := 0) (ad := ad726) (n := 1) (xs := [m]) (by kernel_rfl) (by kernel_rfl) hA727 ow739 ow740 (by first | rfl | omega | (simp; done) | (simp; omega)) (by omega) (by omega)) ?_
       rintro d_ v_ w741 ⟨rfl, g742, ow743⟩
       refine ⟨_, rfl, fun act747 f746 => ?_⟩
       clear f736
       have hl744 : (((⟨xo, xp, xm⟩ : GameL).mv).set (0 : Int).toNat [m]).length = ((⟨xo, xp, xm⟩ : GameL).mv).length := List.length_set
       clear ow666
       clear ow738
       clear ow740
       have szw741 := g742.size
       replace e645 := e645.gr g742 (fun k hk => by have := ow739.ge k hk; omega)
       replace r646 := r646.gr g742 (fun k hk => by have := ow739.ge k hk; omega)
       replace bx696 := bx696.gr g742 (fun e => by have := ow739.ge _ e; omega)
       replace ow664 := ow664.gr g742 (fun k hk => hk.2.2.2.2.2.2.2.2.1)
       replace ow665 := ow665.gr g742 (fun k hk => hk.2.2.2.2.2.2.2.2.1)
       clear ow739 g742
       replace bx696 : Bx w741 (w424.heap.size) [.slice A658 ((⟨xo, xp, xm⟩ : GameL).ow.length) c659, .slice A660 ((⟨xo, xp, xm⟩ : GameL).pr.length) c661, .slice A662 ((((⟨xo, xp, xm⟩ : GameL).mv).set (0 : Int).toNat [m]).length) c663] 25 := bx696.as (by first | rfl | (simp only [List.length_set]; done))
       refine At.done rfl ?_
       refine t_n ?_
       refine wp_seq ?_
       refine At.start ?_
       refine At.rd f746 1 [[.ld (.slice A658 ((⟨xo, xp, xm⟩ : GameL).ow.length) c659), .ld (.slice A660 ((⟨xo, xp, xm⟩ : GameL).pr.length) c661), .ld (.slice A662 ((((⟨xo, xp, xm⟩ : GameL).mv).set (0 : Int).toNat [m]).length) c663)]] [(161, .agg #[.slice A658 ((⟨xo, xp, xm⟩ : GameL).ow.length) c659, .slice A660 ((⟨xo, xp, xm⟩ : GameL).pr.length) c661, .slice A662 ((((⟨xo, xp, xm⟩ : GameL).mv).set (0 : Int).toNat [m]).length) c663])] [(w741.cell? ⟨w424.heap.size, 0, none⟩ = some (.slice A658 ((⟨xo, xp, xm⟩ : GameL).ow.length) c659)), (w741.cell? ⟨w424.heap.size, 1, none⟩ = some (.slice A660 ((⟨xo, xp, xm⟩ : GameL).pr.length) c661)), (w741.cell? ⟨w424.heap.size, 2, none⟩ = some (.slice A662 ((((⟨xo, xp, xm⟩ : GameL).mv).set (0 : Int).toNat [m]).length) c663))] (by kernel_rfl) ⟨(bx696.cell (i := 0) rfl), (bx696.cell (i := 1) rfl), (bx696.cell (i := 2) rfl), trivial⟩ (fun act754 f753 => ?_)
       clear f746
       refine At.call f753 14 #[.agg #[.slice A658 ((⟨xo, xp, xm⟩ : GameL).ow.length) c659, .slice A660 ((⟨xo, xp, xm⟩ : GameL).pr.length) c661, .slice A662 ((((⟨xo, xp, xm⟩ : GameL).mv).set (0 : Int).toNat [m]).length) c663]] (some 162) (by kernel_rfl) (right_any (g := (⟨(⟨xo, xp, xm⟩ : GameL).ow, (⟨xo, xp, xm⟩ : GameL).pr, ((⟨xo, xp, xm⟩ : GameL).mv).set (0 : Int).toNat [m]⟩ : GameL)) (RdG.mk (G := (⟨(⟨xo, xp, xm⟩ : GameL).ow, (⟨xo, xp, xm⟩ : GameL).pr, ((⟨xo, xp, xm⟩ : GameL).mv).set (0 : Int).toNat [m]⟩ : GameL)) (ow664.rdI0 (by first | omega | (simp only [List.length_cons, List.length_nil]; omega) | (simp; done) | (simp; omega))) (ow665.rdI0 (by first | omega | (simp only [List.length_cons, List.length_nil]; omega) | (simp; done) | (simp; omega))) (ow743.rdII0 (by first | omega | (simp only [List.length_cons, List.length_nil]; omega) | (simp; done) | (simp; omega)) hip745) ow664.cap ow665.cap ow743.cap)) ?_
       rintro e_ w755 ⟨rfl, he⟩
       refine ⟨_, rfl, _, rfl, fun act756 f757 => ?_⟩
       clear f753
       have g758 := gr_ext he
       have szw755 := g758.size
       replace e645 := e645.gr g758 no_row
       replace r646 := r646.gr g758 (fun _ h => by cases h)
       replace bx696 := bx696.gr g758 (by simp)
       replace ow664 := ow664.gr g758 (fun _ _ h => by cases h)
       replace ow665 := ow665.gr g758 (fun _ _ h => by cases h)
       replace ow743 := ow743.gr g758 (fun _ _ h => by cases h)
       clear g758 he
       refine At.rd f757 5 [[], [], [], [], []] [(22, .int .i64 ((rightP (⟨(⟨xo, xp, xm⟩ : GameL).ow, (⟨xo, xp, xm⟩ : GameL).pr, ((⟨xo, xp, xm⟩ : GameL).mv).set (0 : Int).toNat [m]⟩ : GameL)).2)), (21, .int .i64 ((rightP (⟨(⟨xo, xp, xm⟩ : GameL).ow, (⟨xo, xp, xm⟩ : GameL).pr, ((⟨xo, xp, xm⟩ : GameL).mv).set (0 : Int).toNat [m]⟩ : GameL)).1)), (164, .int .i64 ((rightP (⟨(⟨xo, xp, xm⟩ : GameL).ow, (⟨xo, xp, xm⟩ : GameL).pr, ((⟨xo, xp, xm⟩ : GameL).mv).set (0 : Int).toNat [m]⟩ : GameL)).2)), (163, .int .i64 ((rightP (⟨(⟨xo, xp, xm⟩ : GameL).ow, (⟨xo, xp, xm⟩ : GameL).pr, ((⟨xo, xp, xm⟩ : GameL).mv).set (0 : Int).toNat [m]⟩ : GameL)).1)), (160, .tuple #[.int .i64 ((rightP (⟨(⟨xo, xp, xm⟩ : GameL).ow, (⟨xo, xp, xm⟩ : GameL).pr, ((⟨xo, xp, xm⟩ : GameL).mv).set (0 : Int).toNat [m]⟩ : GameL)).1), .int .i64 ((rightP (⟨(⟨xo, xp, xm⟩ : GameL).ow, (⟨xo, xp, xm⟩ : GameL).pr, ((⟨xo, xp, xm⟩ : GameL).mv).set (0 : Int).toNat [m]⟩ : GameL)).2)])] [] (by kernel_rfl) trivial (fun act766 f765 => ?_)
       clear f757
       refine At.done rfl ?_
       refine t_n ?_
       refine wp_seq (cut (fun a_ w_ => ∃ (thr : Bool), (Frm 244 a_ [(23, .bool (thr)), (22, .int .i64 ((rightP (⟨(⟨xo, xp, xm⟩ : GameL).ow, (⟨xo, xp, xm⟩ : GameL).pr, ((⟨xo, xp, xm⟩ : GameL).mv).set (0 : Int).toNat [m]⟩ : GameL)).2)), (21, .int .i64 ((rightP (⟨(⟨xo, xp, xm⟩ : GameL).ow, (⟨xo, xp, xm⟩ : GameL).pr, ((⟨xo, xp, xm⟩ : GameL).mv).set (0 : Int).toNat [m]⟩ : GameL)).1)), (20, .bool (two)), (19, .int .i64 ((rightP (⟨(⟨xo, xp, xm⟩ : GameL).ow, ((⟨xo, xp, xm⟩ : GameL).pr).set ((q : Int) / 2 : Int).toNat p, (⟨xo, xp, xm⟩ : GameL).mv⟩ : GameL)).2)), (18, .int .i64 ((rightP (⟨(⟨xo, xp, xm⟩ : GameL).ow, ((⟨xo, xp, xm⟩ : GameL).pr).set ((q : Int) / 2 : Int).toNat p, (⟨xo, xp, xm⟩ : GameL).mv⟩ : GameL)).1)), (17, .bool (one)), (16, .int .i64 ((rightP (⟨((⟨xo, xp, xm⟩ : GameL).ow).set (q - 1 : Int).toNat o, (⟨xo, xp, xm⟩ : GameL).pr, (⟨xo, xp, xm⟩ : GameL).mv⟩ : GameL)).2)), (15, .int .i64 ((rightP (⟨((⟨xo, xp, xm⟩ : GameL).ow).set (q - 1 : Int).toNat o, (⟨xo, xp, xm⟩ : GameL).pr, (⟨xo, xp, xm⟩ : GameL).mv⟩ : GameL)).1)), (14, .pointer (some ⟨w424.heap.size, 0, none⟩)), (0, .int .i64 (q)), (9, .bool true)]) ∧ (Ext w w_) ∧ (RdT w_ 0 w.heap.size) ∧ (Bx w_ (w424.heap.size) [.slice A658 ((⟨xo, xp, xm⟩ : GameL).ow.length) c659, .slice A660 ((⟨xo, xp, xm⟩ : GameL).pr.length) c661, .slice A662 ((((⟨xo, xp, xm⟩ : GameL).mv).set (0 : Int).toNat [m]).length) c663] 25) ∧ (OwnR w_ (Sx (w643.heap.size) [obk (some ⟨w694.heap.size, 0, none⟩), obk (A_52), obk (A_57), obk (A_63), obk (A539), obk (A541), obk (A543), obk (A660), obk (A662)]) A658 c659 3 ((⟨xo, xp, xm⟩ : GameL).ow : List Int)) ∧ (OwnR w_ (Sx (w643.heap.size) [obk (some ⟨w694.heap.size, 0, none⟩), obk (A_52), obk (A_57), obk (A_63), obk (A539), obk (A541), obk (A543), obk (A658), obk (A662)]) A660 c661 3 ((⟨xo, xp, xm⟩ : GameL).pr : List Int)) ∧ (OwnLL w_ (w643.heap.size) [obk (A658), obk (A660)] A662 c663 22 3 (((⟨xo, xp, xm⟩ : GameL).mv).set (0 : Int).toNat [m] : List (List Int))) ∧ (thr = decide (0 ≤ m ∧ m < q)) ∧ (w755.heap.size ≤ w_.heap.size)) ?_ ?_)
       ·refine At.start ?_
        rcases Bool.eq_false_or_eq_true (decide ((m : Int) ≥ 0)) with h767 | h767
        ·have q768 := of_decide_eq_true h767
         refine At.rd f765 8 [[], [], [.as_ (.bool true)], [], [], [], [], []] [(23, .bool (decide ((m : Int) < q))), (171, .bool (decide ((m : Int) < q))), (170, .bool (decide ((m : Int) < q))), (169, .int .i64 (q)), (168, .int .i64 (m)), (167, .bool true), (166, .bool (decide ((m : Int) ≥ 0))), (165, .int .i64 (m))] [((.bool (decide ((m : Int) ≥ 0)) : Value) = .bool true)] (by kernel_rfl) ⟨(congrArg Value.bool h767), trivial⟩ (fun act770 f769 => ?_)
         clear f765
         refine At.done rfl ?_
         refine t_n ?_
         have f771 := f769.sub (r := [(23, .bool (decide ((m : Int) < q))), (22, .int .i64 ((rightP (⟨(⟨xo, xp, xm⟩ : GameL).ow, (⟨xo, xp, xm⟩ : GameL).pr, ((⟨xo, xp, xm⟩ : GameL).mv).set (0 : Int).toNat [m]⟩ : GameL)).2)), (21, .int .i64 ((rightP (⟨(⟨xo, xp, xm⟩ : GameL).ow, (⟨xo, xp, xm⟩ : GameL).pr, ((⟨xo, xp, xm⟩ : GameL).mv).set (0 : Int).toNat [m]⟩ : GameL)).1)), (20, .bool (two)), (19, .int .i64 ((rightP (⟨(⟨xo, xp, xm⟩ : GameL).ow, ((⟨xo, xp, xm⟩ : GameL).pr).set ((q : Int) / 2 : Int).toNat p, (⟨xo, xp, xm⟩ : GameL).mv⟩ : GameL)).2)), (18, .int .i64 ((rightP (⟨(⟨xo, xp, xm⟩ : GameL).ow, ((⟨xo, xp, xm⟩ : GameL).pr).set ((q : Int) / 2 : Int).toNat p, (⟨xo, xp, xm⟩ : GameL).mv⟩ : GameL)).1)), (17, .bool (one)), (16, .int .i64 ((rightP (⟨((⟨xo, xp, xm⟩ : GameL).ow).set (q - 1 : Int).toNat o, (⟨xo, xp, xm⟩ : GameL).pr, (⟨xo, xp, xm⟩ : GameL).mv⟩ : GameL)).2)), (15, .int .i64 ((rightP (⟨((⟨xo, xp, xm⟩ : GameL).ow).set (q - 1 : Int).toNat o, (⟨xo, xp, xm⟩ : GameL).pr, (⟨xo, xp, xm⟩ : GameL).mv⟩ : GameL)).1)), (14, .pointer (some ⟨w424.heap.size, 0, none⟩)), (0, .int .i64 (q)), (9, .bool true)]) ⟨rfl, rfl, rfl, rfl, rfl, rfl, rfl, rfl, rfl, rfl, rfl, rfl, trivial⟩
         exact ⟨(decide ((m : Int) < q)), f771, e645, r646, bx696, ow664, ow665, ow743, (by first | exact (decide_eq_true (by omega)).symm | exact (decide_eq_false (by omega)).symm | (simp_all; done) | (rw [eq_comm, Bool.eq_iff_iff]; simp_all)), (by omega)⟩
        ·have q772 := of_decide_eq_false h767
         refine At.rd f765 8 [[], [], [.as_ (.bool false)], [], [], [], [], []] [(23, .bool false), (171, .bool false), (170, undef), (169, undef), (168, undef), (167, .bool false), (166, .bool (decide ((m : Int) ≥ 0))), (165, .int .i64 (m))] [((.bool (decide ((m : Int) ≥ 0)) : Value) = .bool false)] (by kernel_rfl) ⟨(congrArg Value.bool h767), trivial⟩ (fun act774 f773 => ?_)
         clear f765
         refine At.done rfl ?_
         refine t_n ?_
         have f775 := f773.sub (r := [(23, .bool false), (22, .int .i64 ((rightP (⟨(⟨xo, xp, xm⟩ : GameL).ow, (⟨xo, xp, xm⟩ : GameL).pr, ((⟨xo, xp, xm⟩ : GameL).mv).set (0 : Int).toNat [m]⟩ : GameL)).2)), (21, .int .i64 ((rightP (⟨(⟨xo, xp, xm⟩ : GameL).ow, (⟨xo, xp, xm⟩ : GameL).pr, ((⟨xo, xp, xm⟩ : GameL).mv).set (0 : Int).toNat [m]⟩ : GameL)).1)), (20, .bool (two)), (19, .int .i64 ((rightP (⟨(⟨xo, xp, xm⟩ : GameL).ow, ((⟨xo, xp, xm⟩ : GameL).pr).set ((q : Int) / 2 : Int).toNat p, (⟨xo, xp, xm⟩ : GameL).mv⟩ : GameL)).2)), (18, .int .i64 ((rightP (⟨(⟨xo, xp, xm⟩ : GameL).ow, ((⟨xo, xp, xm⟩ : GameL).pr).set ((q : Int) / 2 : Int).toNat p, (⟨xo, xp, xm⟩ : GameL).mv⟩ : GameL)).1)), (17, .bool (one)), (16, .int .i64 ((rightP (⟨((⟨xo, xp, xm⟩ : GameL).ow).set (q - 1 : Int).toNat o, (⟨xo, xp, xm⟩ : GameL).pr, (⟨xo, xp, xm⟩ : GameL).mv⟩ : GameL)).2)), (15, .int .i64 ((rightP (⟨((⟨xo, xp, xm⟩ : GameL).ow).set (q - 1 : Int).toNat o, (⟨xo, xp, xm⟩ : GameL).pr, (⟨xo, xp, xm⟩ : GameL).mv⟩ : GameL)).1)), (14, .pointer (some ⟨w424.heap.size, 0, none⟩)), (0, .int .i64 (q)), (9, .bool true)]) ⟨rfl, rfl, rfl, rfl, rfl, rfl, rfl, rfl, rfl, rfl, rfl, rfl, trivial⟩
         exact ⟨false, f775, e645, r646, bx696, ow664, ow665, ow743, (by first | exact (decide_eq_true (by omega)).symm | exact (decide_eq_false (by omega)).symm | (simp_all; done) | (rw [eq_comm, Bool.eq_iff_iff]; simp_all)), (by omega)⟩
       ·clear r646
        clear bx696
        clear ow664
        clear ow665
        clear ow743
        clear f765 e645
        intro act776 w777 ⟨thr, f778, e779, r780, bx781, r782, r783, r784, hthr, i785⟩
        have szw777 := e779.size
        have := bx781.lt
        refine wp_seq ?_
        refine At.start ?_
        obtain ⟨ad786, R789, C790, hA787, hb791, hc788, ow792, ow793⟩ := r784.get (0) (by omega) (by omega)
        refine At.rd f778 3 [[], [.ld (.slice A662 ((((⟨xo, xp, xm⟩ : GameL).mv).set (0 : Int).toNat [m]).length) c663)], [.ad ad786]] [(174, .pointer (some (ad786.add ((0 : Int).toNat * 1)))), (173, .slice A662 ((((⟨xo, xp, xm⟩ : GameL).mv).set (0 : Int).toNat [m]).length) c663), (172, .pointer (some ⟨w424.heap.size, 2, none⟩))] [(w777.cell? ⟨w424.heap.size, 2, none⟩ = some (.slice A662 ((((⟨xo, xp, xm⟩ : GameL).mv).set (0 : Int).toNat [m]).length) c663)), (A662 = some ad786), (0 ≤ (0 : Int)), ((0 : Int) < ((((⟨xo, xp, xm⟩ : GameL).mv).set (0 : Int).toNat [m]).length : Nat))] (by kernel_rfl) ⟨(bx781.cell (i := 2) rfl), hA787, (by omega), (by omega), trivial⟩ (fun act797 f796 => ?_)
        clear f778
        clear ow792
        clear ow793
        have ow798 : OwnLL w777 (w643.heap.size) [obk none, obk (A658), obk (A660)] A662 c663 22 3 (((⟨xo, xp, xm⟩ : GameL).mv).set (0 : Int).toNat [m] : List (List Int)) := r784.imp (fun g _ hs => ⟨by simp [obk], hs.1, hs.2.1, hs.2.2⟩)
        have hip803 : ∀ i, i < ((((⟨xo, xp, xm⟩ : GameL).mv).set (0 : Int).toNat [m]).set (0 : Int).toNat ([] : List Int)).length → (((((⟨xo, xp, xm⟩ : GameL).mv).set (0 : Int).toNat [m]).set (0 : Int).toNat ([] : List Int)).getD i []).length * 8 ≤ 140737488351232 := inner_set hip745 (by simp)
        refine At.act f796 (storeLLn (t := 22) (i := 0) (ad := ad786) (n := 0) (xs := ([] : List Int)) (by kernel_rfl) (by kernel_rfl) hA787 ow798 OwnR.nil (by first | rfl | omega | (simp; done) | (simp; omega)) (by omega) (by omega)) ?_
        rintro d_ v_ w799 ⟨rfl, g800, ow801⟩
        refine ⟨_, rfl, fun act805 f804 => ?_⟩
        clear f796
        have hl802 : ((((⟨xo, xp, xm⟩ : GameL).mv).set (0 : Int).toNat [m]).set (0 : Int).toNat ([] : List Int)).length = (((⟨xo, xp, xm⟩ : GameL).mv).set (0 : Int).toNat [m]).length := List.length_set
        clear r784
        have szw799 := g800.size
        replace e779 := e779.gr g800 (fun k hk => by have := ow798.ge k hk; omega)
        replace r780 := r780.gr g800 (fun k hk => by have := ow798.ge k hk; omega)
        replace bx781 := bx781.gr g800 (fun e => by have := ow798.ge _ e; omega)
        have ow809 := r782.gr g800 (fun k hk => hk.2.2.2.2.2.2.2.2.1)
        clear r782
        have ow810 := r783.gr g800 (fun k hk => hk.2.2.2.2.2.2.2.2.1)
        clear r783
        clear ow798 g800
        replace bx781 : Bx w799 (w424.heap.size) [.slice A658 ((⟨xo, xp, xm⟩ : GameL).ow.length) c659, .slice A660 ((⟨xo, xp, xm⟩ : GameL).pr.length) c661, .slice A662 (((((⟨xo, xp, xm⟩ : GameL).mv).set (0 : Int).toNat [m]).set (0 : Int).toNat ([] : List Int)).length) c663] 25 := bx781.as (by first | rfl | (simp only [List.length_set]; done))
        refine At.done rfl ?_
        refine t_n ?_
        refine wp_seq ?_
        refine At.start ?_
        refine At.rd f804 1 [[.ld (.slice A658 ((⟨xo, xp, xm⟩ : GameL).ow.length) c659), .ld (.slice A660 ((⟨xo, xp, xm⟩ : GameL).pr.length) c661), .ld (.slice A662 (((((⟨xo, xp, xm⟩ : GameL).mv).set (0 : Int).toNat [m]).set (0 : Int).toNat ([] : List Int)).length) c663)]] [(176, .agg #[.slice A658 ((⟨xo, xp, xm⟩ : GameL).ow.length) c659, .slice A660 ((⟨xo, xp, xm⟩ : GameL).pr.length) c661, .slice A662 (((((⟨xo, xp, xm⟩ : GameL).mv).set (0 : Int).toNat [m]).set (0 : Int).toNat ([] : List Int)).length) c663])] [(w799.cell? ⟨w424.heap.size, 0, none⟩ = some (.slice A658 ((⟨xo, xp, xm⟩ : GameL).ow.length) c659)), (w799.cell? ⟨w424.heap.size, 1, none⟩ = some (.slice A660 ((⟨xo, xp, xm⟩ : GameL).pr.length) c661)), (w799.cell? ⟨w424.heap.size, 2, none⟩ = some (.slice A662 (((((⟨xo, xp, xm⟩ : GameL).mv).set (0 : Int).toNat [m]).set (0 : Int).toNat ([] : List Int)).length) c663))] (by kernel_rfl) ⟨(bx781.cell (i := 0) rfl), (bx781.cell (i := 1) rfl), (bx781.cell (i := 2) rfl), trivial⟩ (fun act812 f811 => ?_)
        clear f804
        refine At.call f811 14 #[.agg #[.slice A658 ((⟨xo, xp, xm⟩ : GameL).ow.length) c659, .slice A660 ((⟨xo, xp, xm⟩ : GameL).pr.length) c661, .slice A662 (((((⟨xo, xp, xm⟩ : GameL).mv).set (0 : Int).toNat [m]).set (0 : Int).toNat ([] : List Int)).length) c663]] (some 177) (by kernel_rfl) (right_any (g := (⟨(⟨xo, xp, xm⟩ : GameL).ow, (⟨xo, xp, xm⟩ : GameL).pr, (((⟨xo, xp, xm⟩ : GameL).mv).set (0 : Int).toNat [m]).set (0 : Int).toNat ([] : List Int)⟩ : GameL)) (RdG.mk (G := (⟨(⟨xo, xp, xm⟩ : GameL).ow, (⟨xo, xp, xm⟩ : GameL).pr, (((⟨xo, xp, xm⟩ : GameL).mv).set (0 : Int).toNat [m]).set (0 : Int).toNat ([] : List Int)⟩ : GameL)) (ow809.rdI0 (by first | omega | (simp only [List.length_cons, List.length_nil]; omega) | (simp; done) | (simp; omega))) (ow810.rdI0 (by first | omega | (simp only [List.length_cons, List.length_nil]; omega) | (simp; done) | (simp; omega))) (ow801.rdII0 (by first | omega | (simp only [List.length_cons, List.length_nil]; omega) | (simp; done) | (simp; omega)) hip803) ow809.cap ow810.cap ow801.cap)) ?_
        rintro e_ w813 ⟨rfl, he⟩
        refine ⟨_, rfl, _, rfl, fun act814 f815 => ?_⟩
        clear f811
        have g816 := gr_ext he
        have szw813 := g816.size
        replace e779 := e779.gr g816 no_row
        replace r780 := r780.gr g816 (fun _ h => by cases h)
        replace bx781 := bx781.gr g816 (by simp)
        replace ow809 := ow809.gr g816 (fun _ _ h => by cases h)
        replace ow810 := ow810.gr g816 (fun _ _ h => by cases h)
        replace ow801 := ow801.gr g816 (fun _ _ h => by cases h)
        clear g816 he
        refine At.rd f815 5 [[], [], [], [], []] [(25, .int .i64 ((rightP (⟨(⟨xo, xp, xm⟩ : GameL).ow, (⟨xo, xp, xm⟩ : GameL).pr, (((⟨xo, xp, xm⟩ : GameL).mv).set (0 : Int).toNat [m]).set (0 : Int).toNat ([] : List Int)⟩ : GameL)).2)), (24, .int .i64 ((rightP (⟨(⟨xo, xp, xm⟩ : GameL).ow, (⟨xo, xp, xm⟩ : GameL).pr, (((⟨xo, xp, xm⟩ : GameL).mv).set (0 : Int).toNat [m]).set (0 : Int).toNat ([] : List Int)⟩ : GameL)).1)), (179, .int .i64 ((rightP (⟨(⟨xo, xp, xm⟩ : GameL).ow, (⟨xo, xp, xm⟩ : GameL).pr, (((⟨xo, xp, xm⟩ : GameL).mv).set (0 : Int).toNat [m]).set (0 : Int).toNat ([] : List Int)⟩ : GameL)).2)), (178, .int .i64 ((rightP (⟨(⟨xo, xp, xm⟩ : GameL).ow, (⟨xo, xp, xm⟩ : GameL).pr, (((⟨xo, xp, xm⟩ : GameL).mv).set (0 : Int).toNat [m]).set (0 : Int).toNat ([] : List Int)⟩ : GameL)).1)), (175, .tuple #[.int .i64 ((rightP (⟨(⟨xo, xp, xm⟩ : GameL).ow, (⟨xo, xp, xm⟩ : GameL).pr, (((⟨xo, xp, xm⟩ : GameL).mv).set (0 : Int).toNat [m]).set (0 : Int).toNat ([] : List Int)⟩ : GameL)).1), .int .i64 ((rightP (⟨(⟨xo, xp, xm⟩ : GameL).ow, (⟨xo, xp, xm⟩ : GameL).pr, (((⟨xo, xp, xm⟩ : GameL).mv).set (0 : Int).toNat [m]).set (0 : Int).toNat ([] : List Int)⟩ : GameL)).2)])] [] (by kernel_rfl) trivial (fun act824 f823 => ?_)
        clear f815
        refine At.done rfl ?_
        refine t_n ?_
        clear bx781
        clear ow809
        clear ow810
        clear ow801
        refine wp_seq ?_
        have e1_ := lim_ow hR (i := q - 1) (o := o) (by omega) (by show q - 1 < (xo.length : Int); omega)
        have e2_ := lim_pr hR (i := q / 2) (p := p) (by omega) (by show q / 2 < (xo.length : Int); omega)
        have e3_ := lim_mv hR (m := m)
        have e4_ := lim_nil hR (m := m)
        have hlq : (((⟨xo, xp, xm⟩ : GameL).ow.length : Nat) : Int) = q := by show (xo.length : Int) = q; omega
        rw [hlq] at e3_
        refine At.start ?_
        rcases Bool.eq_false_or_eq_true (one) with h825 | h825
        ·rcases Bool.eq_false_or_eq_true (two) with h827 | h827
         ·rcases Bool.eq_false_or_eq_true (thr) with h829 | h829
          ·refine At.rd f823 65 [[], [], [], [], [], [.as_ (.bool true)], [], [], [], [.as_ (.bool true)], [], [], [], [], [], [], [], [], [], [], [], [], [], [], [.as_ (.bool true)], [], [], [], [.as_ (.bool true)], [], [], [], [], [], [], [], [], [], [], [], [], [], [], [.as_ (.bool true)], [], [], [], [.as_ (.bool true)], [], [], [], [], [], [], [.as_ (.bool true)], [], [], [], [.as_ (.bool true)], [], [], [], [.as_ (.bool true)], [], []] [(8, .bool true), (243, .bool true), (242, .bool true), (241, .int .i64 ((rightP (⟨(⟨xo, xp, xm⟩ : GameL).ow, (⟨xo, xp, xm⟩ : GameL).pr, (((⟨xo, xp, xm⟩ : GameL).mv).set (0 : Int).toNat [m]).set (0 : Int).toNat ([] : List Int)⟩ : GameL)).2)), (240, .bool true), (239, .bool true), (238, .bool true), (237, .int .i64 ((rightP (⟨(⟨xo, xp, xm⟩ : GameL).ow, (⟨xo, xp, xm⟩ : GameL).pr, (((⟨xo, xp, xm⟩ : GameL).mv).set (0 : Int).toNat [m]).set (0 : Int).toNat ([] : List Int)⟩ : GameL)).1)), (236, .bool true), (235, .bool true), (234, .bool true), (233, .int .i64 ((rightP (⟨(⟨xo, xp, xm⟩ : GameL).ow, (⟨xo, xp, xm⟩ : GameL).pr, ((⟨xo, xp, xm⟩ : GameL).mv).set (0 : Int).toNat [m]⟩ : GameL)).1)), (232, .bool true), (231, .bool true), (230, .bool true), (229, undef), (228, undef), (227, .bool true), (226, .bool (thr)), (225, .bool true), (224, .bool true), (223, .bool true), (222, .bool (thr)), (221, .bool (((rightP (⟨(⟨xo, xp, xm⟩ : GameL).ow, (⟨xo, xp, xm⟩ : GameL).pr, ((⟨xo, xp, xm⟩ : GameL).mv).set (0 : Int).toNat [m]⟩ : GameL)).2 : Int) == 0)), (220, .int .i64 ((rightP (⟨(⟨xo, xp, xm⟩ : GameL).ow, (⟨xo, xp, xm⟩ : GameL).pr, ((⟨xo, xp, xm⟩ : GameL).mv).set (0 : Int).toNat [m]⟩ : GameL)).2)), (219, .bool true), (218, .bool true), (217, .bool true), (216, undef), (215, undef), (214, undef), (213, undef), (212, undef), (211, undef), (210, undef), (209, undef), (208, .bool true), (207, .bool (two)), (206, .bool true), (205, .bool true), (204, .bool true), (203, .bool (two)), (202, .bool (((rightP (⟨(⟨xo, xp, xm⟩ : GameL).ow, ((⟨xo, xp, xm⟩ : GameL).pr).set ((q : Int) / 2 : Int).toNat p, (⟨xo, xp, xm⟩ : GameL).mv⟩ : GameL)).2 : Int) == 0)), (201, .int .i64 ((rightP (⟨(⟨xo, xp, xm⟩ : GameL).ow, ((⟨xo, xp, xm⟩ : GameL).pr).set ((q : Int) / 2 : Int).toNat p, (⟨xo, xp, xm⟩ : GameL).mv⟩ : GameL)).2)), (200, .bool true), (199, .bool true), (198, .bool true), (197, undef), (196, undef), (195, undef), (194, undef), (193, undef), (192, undef), (191, undef), (190, undef), (189, .bool true), (188, .bool (one)), (187, .bool true), (186, .bool true), (185, .bool true), (184, .bool (one)), (183, .bool (((rightP (⟨((⟨xo, xp, xm⟩ : GameL).ow).set (q - 1 : Int).toNat o, (⟨xo, xp, xm⟩ : GameL).pr, (⟨xo, xp, xm⟩ : GameL).mv⟩ : GameL)).2 : Int) == 0)), (182, .int .i64 ((rightP (⟨((⟨xo, xp, xm⟩ : GameL).ow).set (q - 1 : Int).toNat o, (⟨xo, xp, xm⟩ : GameL).pr, (⟨xo, xp, xm⟩ : GameL).mv⟩ : GameL)).2)), (181, .bool true), (180, .bool true)] [((.bool ((((rightP (⟨((⟨xo, xp, xm⟩ : GameL).ow).set (q - 1 : Int).toNat o, (⟨xo, xp, xm⟩ : GameL).pr, (⟨xo, xp, xm⟩ : GameL).mv⟩ : GameL)).2 : Int) == 0) == one) : Value) = .bool true), ((.bool (one) : Value) = .bool true), ((.bool ((((rightP (⟨(⟨xo, xp, xm⟩ : GameL).ow, ((⟨xo, xp, xm⟩ : GameL).pr).set ((q : Int) / 2 : Int).toNat p, (⟨xo, xp, xm⟩ : GameL).mv⟩ : GameL)).2 : Int) == 0) == two) : Value) = .bool true), ((.bool (two) : Value) = .bool true), ((.bool ((((rightP (⟨(⟨xo, xp, xm⟩ : GameL).ow, (⟨xo, xp, xm⟩ : GameL).pr, ((⟨xo, xp, xm⟩ : GameL).mv).set (0 : Int).toNat [m]⟩ : GameL)).2 : Int) == 0) == thr) : Value) = .bool true), ((.bool (thr) : Value) = .bool true), ((.bool (((rightP (⟨(⟨xo, xp, xm⟩ : GameL).ow, (⟨xo, xp, xm⟩ : GameL).pr, ((⟨xo, xp, xm⟩ : GameL).mv).set (0 : Int).toNat [m]⟩ : GameL)).1 : Int) == 0) : Value) = .bool true), ((.bool (((rightP (⟨(⟨xo, xp, xm⟩ : GameL).ow, (⟨xo, xp, xm⟩ : GameL).pr, (((⟨xo, xp, xm⟩ : GameL).mv).set (0 : Int).toNat [m]).set (0 : Int).toNat ([] : List Int)⟩ : GameL)).1 : Int) == 0) : Value) = .bool true), ((.bool (((rightP (⟨(⟨xo, xp, xm⟩ : GameL).ow, (⟨xo, xp, xm⟩ : GameL).pr, (((⟨xo, xp, xm⟩ : GameL).mv).set (0 : Int).toNat [m]).set (0 : Int).toNat ([] : List Int)⟩ : GameL)).2 : Int) == 17) : Value) = .bool true)] (by kernel_rfl) ⟨(congrArg Value.bool (bbT (lim_b e1_ hone (by decide)))), (congrArg Value.bool h825), (congrArg Value.bool (bbT (lim_b e2_ htwo (by decide)))), (congrArg Value.bool h827), (congrArg Value.bool (bbT (lim_b e3_ hthr (by decide)))), (congrArg Value.bool h829), (congrArg Value.bool (beqT (by rw [e3_]; split <;> rfl))), (congrArg Value.bool (beqT (by rw [e4_]))), (congrArg Value.bool (beqT (by rw [e4_]))), trivial⟩ (fun act832 f831 => ?_)
           clear f823
           refine At.done rfl ?_
           refine t_n ?_
           have f833 := f831.sub (r := [(8, .bool true)]) ⟨rfl, trivial⟩
           clear f831
           refine wp_ret ?_
           refine ret_ f833 [] [.bool true] [] (by kernel_rfl) trivial ?_
           exact ⟨rfl, e779⟩
          ·refine At.rd f823 65 [[], [], [], [], [], [.as_ (.bool true)], [], [], [], [.as_ (.bool true)], [], [], [], [], [], [], [], [], [], [], [], [], [], [], [.as_ (.bool true)], [], [], [], [.as_ (.bool true)], [], [], [], [], [], [], [], [], [], [], [], [], [], [], [.as_ (.bool true)], [], [], [], [.as_ (.bool false)], [], [.as_ (.bool true)], [], [], [], [], [.as_ (.bool true)], [], [], [], [.as_ (.bool true)], [], [], [], [.as_ (.bool true)], [], []] [(8, .bool true), (243, .bool true), (242, .bool true), (241, .int .i64 ((rightP (⟨(⟨xo, xp, xm⟩ : GameL).ow, (⟨xo, xp, xm⟩ : GameL).pr, (((⟨xo, xp, xm⟩ : GameL).mv).set (0 : Int).toNat [m]).set (0 : Int).toNat ([] : List Int)⟩ : GameL)).2)), (240, .bool true), (239, .bool true), (238, .bool true), (237, .int .i64 ((rightP (⟨(⟨xo, xp, xm⟩ : GameL).ow, (⟨xo, xp, xm⟩ : GameL).pr, (((⟨xo, xp, xm⟩ : GameL).mv).set (0 : Int).toNat [m]).set (0 : Int).toNat ([] : List Int)⟩ : GameL)).1)), (236, .bool true), (235, .bool true), (234, .bool true), (233, .int .i64 ((rightP (⟨(⟨xo, xp, xm⟩ : GameL).ow, (⟨xo, xp, xm⟩ : GameL).pr, ((⟨xo, xp, xm⟩ : GameL).mv).set (0 : Int).toNat [m]⟩ : GameL)).1)), (232, .bool true), (231, .bool true), (230, .bool true), (229, .bool true), (228, .int .i64 ((rightP (⟨(⟨xo, xp, xm⟩ : GameL).ow, (⟨xo, xp, xm⟩ : GameL).pr, ((⟨xo, xp, xm⟩ : GameL).mv).set (0 : Int).toNat [m]⟩ : GameL)).2)), (227, .bool false), (226, .bool (thr)), (225, .bool true), (224, .bool true), (223, .bool true), (222, .bool (thr)), (221, .bool (((rightP (⟨(⟨xo, xp, xm⟩ : GameL).ow, (⟨xo, xp, xm⟩ : GameL).pr, ((⟨xo, xp, xm⟩ : GameL).mv).set (0 : Int).toNat [m]⟩ : GameL)).2 : Int) == 0)), (220, .int .i64 ((rightP (⟨(⟨xo, xp, xm⟩ : GameL).ow, (⟨xo, xp, xm⟩ : GameL).pr, ((⟨xo, xp, xm⟩ : GameL).mv).set (0 : Int).toNat [m]⟩ : GameL)).2)), (219, .bool true), (218, .bool true), (217, .bool true), (216, undef), (215, undef), (214, undef), (213, undef), (212, undef), (211, undef), (210, undef), (209, undef), (208, .bool true), (207, .bool (two)), (206, .bool true), (205, .bool true), (204, .bool true), (203, .bool (two)), (202, .bool (((rightP (⟨(⟨xo, xp, xm⟩ : GameL).ow, ((⟨xo, xp, xm⟩ : GameL).pr).set ((q : Int) / 2 : Int).toNat p, (⟨xo, xp, xm⟩ : GameL).mv⟩ : GameL)).2 : Int) == 0)), (201, .int .i64 ((rightP (⟨(⟨xo, xp, xm⟩ : GameL).ow, ((⟨xo, xp, xm⟩ : GameL).pr).set ((q : Int) / 2 : Int).toNat p, (⟨xo, xp, xm⟩ : GameL).mv⟩ : GameL)).2)), (200, .bool true), (199, .bool true), (198, .bool true), (197, undef), (196, undef), (195, undef), (194, undef), (193, undef), (192, undef), (191, undef), (190, undef), (189, .bool true), (188, .bool (one)), (187, .bool true), (186, .bool true), (185, .bool true), (184, .bool (one)), (183, .bool (((rightP (⟨((⟨xo, xp, xm⟩ : GameL).ow).set (q - 1 : Int).toNat o, (⟨xo, xp, xm⟩ : GameL).pr, (⟨xo, xp, xm⟩ : GameL).mv⟩ : GameL)).2 : Int) == 0)), (182, .int .i64 ((rightP (⟨((⟨xo, xp, xm⟩ : GameL).ow).set (q - 1 : Int).toNat o, (⟨xo, xp, xm⟩ : GameL).pr, (⟨xo, xp, xm⟩ : GameL).mv⟩ : GameL)).2)), (181, .bool true), (180, .bool true)] [((.bool ((((rightP (⟨((⟨xo, xp, xm⟩ : GameL).ow).set (q - 1 : Int).toNat o, (⟨xo, xp, xm⟩ : GameL).pr, (⟨xo, xp, xm⟩ : GameL).mv⟩ : GameL)).2 : Int) == 0) == one) : Value) = .bool true), ((.bool (one) : Value) = .bool true), ((.bool ((((rightP (⟨(⟨xo, xp, xm⟩ : GameL).ow, ((⟨xo, xp, xm⟩ : GameL).pr).set ((q : Int) / 2 : Int).toNat p, (⟨xo, xp, xm⟩ : GameL).mv⟩ : GameL)).2 : Int) == 0) == two) : Value) = .bool true), ((.bool (two) : Value) = .bool true), ((.bool ((((rightP (⟨(⟨xo, xp, xm⟩ : GameL).ow, (⟨xo, xp, xm⟩ : GameL).pr, ((⟨xo, xp, xm⟩ : GameL).mv).set (0 : Int).toNat [m]⟩ : GameL)).2 : Int) == 0) == thr) : Value) = .bool true), ((.bool (thr) : Value) = .bool false), ((.bool (((rightP (⟨(⟨xo, xp, xm⟩ : GameL).ow, (⟨xo, xp, xm⟩ : GameL).pr, ((⟨xo, xp, xm⟩ : GameL).mv).set (0 : Int).toNat [m]⟩ : GameL)).2 : Int) == 16) : Value) = .bool true), ((.bool (((rightP (⟨(⟨xo, xp, xm⟩ : GameL).ow, (⟨xo, xp, xm⟩ : GameL).pr, ((⟨xo, xp, xm⟩ : GameL).mv).set (0 : Int).toNat [m]⟩ : GameL)).1 : Int) == 0) : Value) = .bool true), ((.bool (((rightP (⟨(⟨xo, xp, xm⟩ : GameL).ow, (⟨xo, xp, xm⟩ : GameL).pr, (((⟨xo, xp, xm⟩ : GameL).mv).set (0 : Int).toNat [m]).set (0 : Int).toNat ([] : List Int)⟩ : GameL)).1 : Int) == 0) : Value) = .bool true), ((.bool (((rightP (⟨(⟨xo, xp, xm⟩ : GameL).ow, (⟨xo, xp, xm⟩ : GameL).pr, (((⟨xo, xp, xm⟩ : GameL).mv).set (0 : Int).toNat [m]).set (0 : Int).toNat ([] : List Int)⟩ : GameL)).2 : Int) == 17) : Value) = .bool true)] (by kernel_rfl) ⟨(congrArg Value.bool (bbT (lim_b e1_ hone (by decide)))), (congrArg Value.bool h825), (congrArg Value.bool (bbT (lim_b e2_ htwo (by decide)))), (congrArg Value.bool h827), (congrArg Value.bool (bbT (lim_b e3_ hthr (by decide)))), (congrArg Value.bool h829), (congrArg Value.bool (beqT (by rw [lim_no e3_ hthr (by assumption)]))), (congrArg Value.bool (beqT (by rw [e3_]; split <;> rfl))), (congrArg Value.bool (beqT (by rw [e4_]))), (congrArg Value.bool (beqT (by rw [e4_]))), trivial⟩ (fun act836 f835 => ?_)
           clear f823
           refine At.done rfl ?_
           refine t_n ?_
           have f837 := f835.sub (r := [(8, .bool true)]) ⟨rfl, trivial⟩
           clear f835
           refine wp_ret ?_
           refine ret_ f837 [] [.bool true] [] (by kernel_rfl) trivial ?_
           exact ⟨rfl, e779⟩
         ·rcases Bool.eq_false_or_eq_true (thr) with h839 | h839
          ·refine At.rd f823 65 [[], [], [], [], [], [.as_ (.bool true)], [], [], [], [.as_ (.bool true)], [], [], [], [], [], [], [], [], [], [], [], [], [], [], [.as_ (.bool true)], [], [], [], [.as_ (.bool false)], [], [.as_ (.bool true)], [], [], [], [.as_ (.int .i64 ((q : Int) / 2))], [.as_ (.bool true)], [], [], [], [], [], [], [], [.as_ (.bool true)], [], [], [], [.as_ (.bool true)], [], [], [], [], [], [], [.as_ (.bool true)], [], [], [], [.as_ (.bool true)], [], [], [], [.as_ (.bool true)], [], []] [(8, .bool true), (243, .bool true), (242, .bool true), (241, .int .i64 ((rightP (⟨(⟨xo, xp, xm⟩ : GameL).ow, (⟨xo, xp, xm⟩ : GameL).pr, (((⟨xo, xp, xm⟩ : GameL).mv).set (0 : Int).toNat [m]).set (0 : Int).toNat ([] : List Int)⟩ : GameL)).2)), (240, .bool true), (239, .bool true), (238, .bool true), (237, .int .i64 ((rightP (⟨(⟨xo, xp, xm⟩ : GameL).ow, (⟨xo, xp, xm⟩ : GameL).pr, (((⟨xo, xp, xm⟩ : GameL).mv).set (0 : Int).toNat [m]).set (0 : Int).toNat ([] : List Int)⟩ : GameL)).1)), (236, .bool true), (235, .bool true), (234, .bool true), (233, .int .i64 ((rightP (⟨(⟨xo, xp, xm⟩ : GameL).ow, (⟨xo, xp, xm⟩ : GameL).pr, ((⟨xo, xp, xm⟩ : GameL).mv).set (0 : Int).toNat [m]⟩ : GameL)).1)), (232, .bool true), (231, .bool true), (230, .bool true), (229, undef), (228, undef), (227, .bool true), (226, .bool (thr)), (225, .bool true), (224, .bool true), (223, .bool true), (222, .bool (thr)), (221, .bool (((rightP (⟨(⟨xo, xp, xm⟩ : GameL).ow, (⟨xo, xp, xm⟩ : GameL).pr, ((⟨xo, xp, xm⟩ : GameL).mv).set (0 : Int).toNat [m]⟩ : GameL)).2 : Int) == 0)), (220, .int .i64 ((rightP (⟨(⟨xo, xp, xm⟩ : GameL).ow, (⟨xo, xp, xm⟩ : GameL).pr, ((⟨xo, xp, xm⟩ : GameL).mv).set (0 : Int).toNat [m]⟩ : GameL)).2)), (219, .bool true), (218, .bool true), (217, .bool true), (216, .bool true), (215, .bool true), (214, .int .i64 ((q : Int) / 2)), (213, .int .i64 (q)), (212, .int .i64 ((rightP (⟨(⟨xo, xp, xm⟩ : GameL).ow, ((⟨xo, xp, xm⟩ : GameL).pr).set ((q : Int) / 2 : Int).toNat p, (⟨xo, xp, xm⟩ : GameL).mv⟩ : GameL)).1)), (211, .bool true), (210, .bool true), (209, .int .i64 ((rightP (⟨(⟨xo, xp, xm⟩ : GameL).ow, ((⟨xo, xp, xm⟩ : GameL).pr).set ((q : Int) / 2 : Int).toNat p, (⟨xo, xp, xm⟩ : GameL).mv⟩ : GameL)).2)), (208, .bool false), (207, .bool (two)), (206, .bool true), (205, .bool true), (204, .bool true), (203, .bool (two)), (202, .bool (((rightP (⟨(⟨xo, xp, xm⟩ : GameL).ow, ((⟨xo, xp, xm⟩ : GameL).pr).set ((q : Int) / 2 : Int).toNat p, (⟨xo, xp, xm⟩ : GameL).mv⟩ : GameL)).2 : Int) == 0)), (201, .int .i64 ((rightP (⟨(⟨xo, xp, xm⟩ : GameL).ow, ((⟨xo, xp, xm⟩ : GameL).pr).set ((q : Int) / 2 : Int).toNat p, (⟨xo, xp, xm⟩ : GameL).mv⟩ : GameL)).2)), (200, .bool true), (199, .bool true), (198, .bool true), (197, undef), (196, undef), (195, undef), (194, undef), (193, undef), (192, undef), (191, undef), (190, undef), (189, .bool true), (188, .bool (one)), (187, .bool true), (186, .bool true), (185, .bool true), (184, .bool (one)), (183, .bool (((rightP (⟨((⟨xo, xp, xm⟩ : GameL).ow).set (q - 1 : Int).toNat o, (⟨xo, xp, xm⟩ : GameL).pr, (⟨xo, xp, xm⟩ : GameL).mv⟩ : GameL)).2 : Int) == 0)), (182, .int .i64 ((rightP (⟨((⟨xo, xp, xm⟩ : GameL).ow).set (q - 1 : Int).toNat o, (⟨xo, xp, xm⟩ : GameL).pr, (⟨xo, xp, xm⟩ : GameL).mv⟩ : GameL)).2)), (181, .bool true), (180, .bool true)] [((.bool ((((rightP (⟨((⟨xo, xp, xm⟩ : GameL).ow).set (q - 1 : Int).toNat o, (⟨xo, xp, xm⟩ : GameL).pr, (⟨xo, xp, xm⟩ : GameL).mv⟩ : GameL)).2 : Int) == 0) == one) : Value) = .bool true), ((.bool (one) : Value) = .bool true), ((.bool ((((rightP (⟨(⟨xo, xp, xm⟩ : GameL).ow, ((⟨xo, xp, xm⟩ : GameL).pr).set ((q : Int) / 2 : Int).toNat p, (⟨xo, xp, xm⟩ : GameL).mv⟩ : GameL)).2 : Int) == 0) == two) : Value) = .bool true), ((.bool (two) : Value) = .bool false), ((.bool (((rightP (⟨(⟨xo, xp, xm⟩ : GameL).ow, ((⟨xo, xp, xm⟩ : GameL).pr).set ((q : Int) / 2 : Int).toNat p, (⟨xo, xp, xm⟩ : GameL).mv⟩ : GameL)).2 : Int) == 15) : Value) = .bool true), ((2 : Int) ≠ 0), ((.int .i64 (IntKind.i64.wrap ((q : Int).tdiv 2)) : Value) = .int .i64 ((q : Int) / 2)), ((.bool (((rightP (⟨(⟨xo, xp, xm⟩ : GameL).ow, ((⟨xo, xp, xm⟩ : GameL).pr).set ((q : Int) / 2 : Int).toNat p, (⟨xo, xp, xm⟩ : GameL).mv⟩ : GameL)).1 : Int) == ((q : Int) / 2)) : Value) = .bool true), ((.bool ((((rightP (⟨(⟨xo, xp, xm⟩ : GameL).ow, (⟨xo, xp, xm⟩ : GameL).pr, ((⟨xo, xp, xm⟩ : GameL).mv).set (0 : Int).toNat [m]⟩ : GameL)).2 : Int) == 0) == thr) : Value) = .bool true), ((.bool (thr) : Value) = .bool true), ((.bool (((rightP (⟨(⟨xo, xp, xm⟩ : GameL).ow, (⟨xo, xp, xm⟩ : GameL).pr, ((⟨xo, xp, xm⟩ : GameL).mv).set (0 : Int).toNat [m]⟩ : GameL)).1 : Int) == 0) : Value) = .bool true), ((.bool (((rightP (⟨(⟨xo, xp, xm⟩ : GameL).ow, (⟨xo, xp, xm⟩ : GameL).pr, (((⟨xo, xp, xm⟩ : GameL).mv).set (0 : Int).toNat [m]).set (0 : Int).toNat ([] : List Int)⟩ : GameL)).1 : Int) == 0) : Value) = .bool true), ((.bool (((rightP (⟨(⟨xo, xp, xm⟩ : GameL).ow, (⟨xo, xp, xm⟩ : GameL).pr, (((⟨xo, xp, xm⟩ : GameL).mv).set (0 : Int).toNat [m]).set (0 : Int).toNat ([] : List Int)⟩ : GameL)).2 : Int) == 17) : Value) = .bool true)] (by kernel_rfl) ⟨(congrArg Value.bool (bbT (lim_b e1_ hone (by decide)))), (congrArg Value.bool h825), (congrArg Value.bool (bbT (lim_b e2_ htwo (by decide)))), (congrArg Value.bool h827), (congrArg Value.bool (beqT (by rw [lim_no e2_ htwo (by assumption)]))), (by omega), (congrArg (Value.int .i64) (w64q (by omega) (by omega) (by omega))), (congrArg Value.bool (beqT (by rw [lim_no e2_ htwo (by assumption)]))), (congrArg Value.bool (bbT (lim_b e3_ hthr (by decide)))), (congrArg Value.bool h839), (congrArg Value.bool (beqT (by rw [e3_]; split <;> rfl))), (congrArg Value.bool (beqT (by rw [e4_]))), (congrArg Value.bool (beqT (by rw [e4_]))), trivial⟩ (fun act842 f841 => ?_)
           clear f823
           refine At.done rfl ?_
           refine t_n ?_
           have f843 := f841.sub (r := [(8, .bool true)]) ⟨rfl, trivial⟩
           clear f841
           refine wp_ret ?_
           refine ret_ f843 [] [.bool true] [] (by kernel_rfl) trivial ?_
           exact ⟨rfl, e779⟩
          ·refine At.rd f823 65 [[], [], [], [], [], [.as_ (.bool true)], [], [], [], [.as_ (.bool true)], [], [], [], [], [], [], [], [], [], [], [], [], [], [], [.as_ (.bool true)], [], [], [], [.as_ (.bool false)], [], [.as_ (.bool true)], [], [], [], [.as_ (.int .i64 ((q : Int) / 2))], [.as_ (.bool true)], [], [], [], [], [], [], [], [.as_ (.bool true)], [], [], [], [.as_ (.bool false)], [], [.as_ (.bool true)], [], [], [], [], [.as_ (.bool true)], [], [], [], [.as_ (.bool true)], [], [], [], [.as_ (.bool true)], [], []] [(8, .bool true), (243, .bool true), (242, .bool true), (241, .int .i64 ((rightP (⟨(⟨xo, xp, xm⟩ : GameL).ow, (⟨xo, xp, xm⟩ : GameL).pr, (((⟨xo, xp, xm⟩ : GameL).mv).set (0 : Int).toNat [m]).set (0 : Int).toNat ([] : List Int)⟩ : GameL)).2)), (240, .bool true), (239, .bool true), (238, .bool true), (237, .int .i64 ((rightP (⟨(⟨xo, xp, xm⟩ : GameL).ow, (⟨xo, xp, xm⟩ : GameL).pr, (((⟨xo, xp, xm⟩ : GameL).mv).set (0 : Int).toNat [m]).set (0 : Int).toNat ([] : List Int)⟩ : GameL)).1)), (236, .bool true), (235, .bool true), (234, .bool true), (233, .int .i64 ((rightP (⟨(⟨xo, xp, xm⟩ : GameL).ow, (⟨xo, xp, xm⟩ : GameL).pr, ((⟨xo, xp, xm⟩ : GameL).mv).set (0 : Int).toNat [m]⟩ : GameL)).1)), (232, .bool true), (231, .bool true), (230, .bool true), (229, .bool true), (228, .int .i64 ((rightP (⟨(⟨xo, xp, xm⟩ : GameL).ow, (⟨xo, xp, xm⟩ : GameL).pr, ((⟨xo, xp, xm⟩ : GameL).mv).set (0 : Int).toNat [m]⟩ : GameL)).2)), (227, .bool false), (226, .bool (thr)), (225, .bool true), (224, .bool true), (223, .bool true), (222, .bool (thr)), (221, .bool (((rightP (⟨(⟨xo, xp, xm⟩ : GameL).ow, (⟨xo, xp, xm⟩ : GameL).pr, ((⟨xo, xp, xm⟩ : GameL).mv).set (0 : Int).toNat [m]⟩ : GameL)).2 : Int) == 0)), (220, .int .i64 ((rightP (⟨(⟨xo, xp, xm⟩ : GameL).ow, (⟨xo, xp, xm⟩ : GameL).pr, ((⟨xo, xp, xm⟩ : GameL).mv).set (0 : Int).toNat [m]⟩ : GameL)).2)), (219, .bool true), (218, .bool true), (217, .bool true), (216, .bool true), (215, .bool true), (214, .int .i64 ((q : Int) / 2)), (213, .int .i64 (q)), (212, .int .i64 ((rightP (⟨(⟨xo, xp, xm⟩ : GameL).ow, ((⟨xo, xp, xm⟩ : GameL).pr).set ((q : Int) / 2 : Int).toNat p, (⟨xo, xp, xm⟩ : GameL).mv⟩ : GameL)).1)), (211, .bool true), (210, .bool true), (209, .int .i64 ((rightP (⟨(⟨xo, xp, xm⟩ : GameL).ow, ((⟨xo, xp, xm⟩ : GameL).pr).set ((q : Int) / 2 : Int).toNat p, (⟨xo, xp, xm⟩ : GameL).mv⟩ : GameL)).2)), (208, .bool false), (207, .bool (two)), (206, .bool true), (205, .bool true), (204, .bool true), (203, .bool (two)), (202, .bool (((rightP (⟨(⟨xo, xp, xm⟩ : GameL).ow, ((⟨xo, xp, xm⟩ : GameL).pr).set ((q : Int) / 2 : Int).toNat p, (⟨xo, xp, xm⟩ : GameL).mv⟩ : GameL)).2 : Int) == 0)), (201, .int .i64 ((rightP (⟨(⟨xo, xp, xm⟩ : GameL).ow, ((⟨xo, xp, xm⟩ : GameL).pr).set ((q : Int) / 2 : Int).toNat p, (⟨xo, xp, xm⟩ : GameL).mv⟩ : GameL)).2)), (200, .bool true), (199, .bool true), (198, .bool true), (197, undef), (196, undef), (195, undef), (194, undef), (193, undef), (192, undef), (191, undef), (190, undef), (189, .bool true), (188, .bool (one)), (187, .bool true), (186, .bool true), (185, .bool true), (184, .bool (one)), (183, .bool (((rightP (⟨((⟨xo, xp, xm⟩ : GameL).ow).set (q - 1 : Int).toNat o, (⟨xo, xp, xm⟩ : GameL).pr, (⟨xo, xp, xm⟩ : GameL).mv⟩ : GameL)).2 : Int) == 0)), (182, .int .i64 ((rightP (⟨((⟨xo, xp, xm⟩ : GameL).ow).set (q - 1 : Int).toNat o, (⟨xo, xp, xm⟩ : GameL).pr, (⟨xo, xp, xm⟩ : GameL).mv⟩ : GameL)).2)), (181, .bool true), (180, .bool true)] [((.bool ((((rightP (⟨((⟨xo, xp, xm⟩ : GameL).ow).set (q - 1 : Int).toNat o, (⟨xo, xp, xm⟩ : GameL).pr, (⟨xo, xp, xm⟩ : GameL).mv⟩ : GameL)).2 : Int) == 0) == one) : Value) = .bool true), ((.bool (one) : Value) = .bool true), ((.bool ((((rightP (⟨(⟨xo, xp, xm⟩ : GameL).ow, ((⟨xo, xp, xm⟩ : GameL).pr).set ((q : Int) / 2 : Int).toNat p, (⟨xo, xp, xm⟩ : GameL).mv⟩ : GameL)).2 : Int) == 0) == two) : Value) = .bool true), ((.bool (two) : Value) = .bool false), ((.bool (((rightP (⟨(⟨xo, xp, xm⟩ : GameL).ow, ((⟨xo, xp, xm⟩ : GameL).pr).set ((q : Int) / 2 : Int).toNat p, (⟨xo, xp, xm⟩ : GameL).mv⟩ : GameL)).2 : Int) == 15) : Value) = .bool true), ((2 : Int) ≠ 0), ((.int .i64 (IntKind.i64.wrap ((q : Int).tdiv 2)) : Value) = .int .i64 ((q : Int) / 2)), ((.bool (((rightP (⟨(⟨xo, xp, xm⟩ : GameL).ow, ((⟨xo, xp, xm⟩ : GameL).pr).set ((q : Int) / 2 : Int).toNat p, (⟨xo, xp, xm⟩ : GameL).mv⟩ : GameL)).1 : Int) == ((q : Int) / 2)) : Value) = .bool true), ((.bool ((((rightP (⟨(⟨xo, xp, xm⟩ : GameL).ow, (⟨xo, xp, xm⟩ : GameL).pr, ((⟨xo, xp, xm⟩ : GameL).mv).set (0 : Int).toNat [m]⟩ : GameL)).2 : Int) == 0) == thr) : Value) = .bool true), ((.bool (thr) : Value) = .bool false), ((.bool (((rightP (⟨(⟨xo, xp, xm⟩ : GameL).ow, (⟨xo, xp, xm⟩ : GameL).pr, ((⟨xo, xp, xm⟩ : GameL).mv).set (0 : Int).toNat [m]⟩ : GameL)).2 : Int) == 16) : Value) = .bool true), ((.bool (((rightP (⟨(⟨xo, xp, xm⟩ : GameL).ow, (⟨xo, xp, xm⟩ : GameL).pr, ((⟨xo, xp, xm⟩ : GameL).mv).set (0 : Int).toNat [m]⟩ : GameL)).1 : Int) == 0) : Value) = .bool true), ((.bool (((rightP (⟨(⟨xo, xp, xm⟩ : GameL).ow, (⟨xo, xp, xm⟩ : GameL).pr, (((⟨xo, xp, xm⟩ : GameL).mv).set (0 : Int).toNat [m]).set (0 : Int).toNat ([] : List Int)⟩ : GameL)).1 : Int) == 0) : Value) = .bool true), ((.bool (((rightP (⟨(⟨xo, xp, xm⟩ : GameL).ow, (⟨xo, xp, xm⟩ : GameL).pr, (((⟨xo, xp, xm⟩ : GameL).mv).set (0 : Int).toNat [m]).set (0 : Int).toNat ([] : List Int)⟩ : GameL)).2 : Int) == 17) : Value) = .bool true)] (by kernel_rfl) ⟨(congrArg Value.bool (bbT (lim_b e1_ hone (by decide)))), (congrArg Value.bool h825), (congrArg Value.bool (bbT (lim_b e2_ htwo (by decide)))), (congrArg Value.bool h827), (congrArg Value.bool (beqT (by rw [lim_no e2_ htwo (by assumption)]))), (by omega), (congrArg (Value.int .i64) (w64q (by omega) (by omega) (by omega))), (congrArg Value.bool (beqT (by rw [lim_no e2_ htwo (by assumption)]))), (congrArg Value.bool (bbT (lim_b e3_ hthr (by decide)))), (congrArg Value.bool h839), (congrArg Value.bool (beqT (by rw [lim_no e3_ hthr (by assumption)]))), (congrArg Value.bool (beqT (by rw [e3_]; split <;> rfl))), (congrArg Value.bool (beqT (by rw [e4_]))), (congrArg Value.bool (beqT (by rw [e4_]))), trivial⟩ (fun act846 f845 => ?_)
           clear f823
           refine At.done rfl ?_
           refine t_n ?_
           have f847 := f845.sub (r := [(8, .bool true)]) ⟨rfl, trivial⟩
           clear f845
           refine wp_ret ?_
           refine ret_ f847 [] [.bool true] [] (by kernel_rfl) trivial ?_
           exact ⟨rfl, e779⟩
        ·rcases Bool.eq_false_or_eq_true (two) with h849 | h849
         ·rcases Bool.eq_false_or_eq_true (thr) with h851 | h851
          ·refine At.rd f823 65 [[], [], [], [], [], [.as_ (.bool true)], [], [], [], [.as_ (.bool false)], [], [.as_ (.bool true)], [], [], [], [.as_ (.int .i64 (q - 1))], [.as_ (.bool true)], [], [], [], [], [], [], [], [.as_ (.bool true)], [], [], [], [.as_ (.bool true)], [], [], [], [], [], [], [], [], [], [], [], [], [], [], [.as_ (.bool true)], [], [], [], [.as_ (.bool true)], [], [], [], [], [], [], [.as_ (.bool true)], [], [], [], [.as_ (.bool true)], [], [], [], [.as_ (.bool true)], [], []] [(8, .bool true), (243, .bool true), (242, .bool true), (241, .int .i64 ((rightP (⟨(⟨xo, xp, xm⟩ : GameL).ow, (⟨xo, xp, xm⟩ : GameL).pr, (((⟨xo, xp, xm⟩ : GameL).mv).set (0 : Int).toNat [m]).set (0 : Int).toNat ([] : List Int)⟩ : GameL)).2)), (240, .bool true), (239, .bool true), (238, .bool true), (237, .int .i64 ((rightP (⟨(⟨xo, xp, xm⟩ : GameL).ow, (⟨xo, xp, xm⟩ : GameL).pr, (((⟨xo, xp, xm⟩ : GameL).mv).set (0 : Int).toNat [m]).set (0 : Int).toNat ([] : List Int)⟩ : GameL)).1)), (236, .bool true), (235, .bool true), (234, .bool true), (233, .int .i64 ((rightP (⟨(⟨xo, xp, xm⟩ : GameL).ow, (⟨xo, xp, xm⟩ : GameL).pr, ((⟨xo, xp, xm⟩ : GameL).mv).set (0 : Int).toNat [m]⟩ : GameL)).1)), (232, .bool true), (231, .bool true), (230, .bool true), (229, undef), (228, undef), (227, .bool true), (226, .bool (thr)), (225, .bool true), (224, .bool true), (223, .bool true), (222, .bool (thr)), (221, .bool (((rightP (⟨(⟨xo, xp, xm⟩ : GameL).ow, (⟨xo, xp, xm⟩ : GameL).pr, ((⟨xo, xp, xm⟩ : GameL).mv).set (0 : Int).toNat [m]⟩ : GameL)).2 : Int) == 0)), (220, .int .i64 ((rightP (⟨(⟨xo, xp, xm⟩ : GameL).ow, (⟨xo, xp, xm⟩ : GameL).pr, ((⟨xo, xp, xm⟩ : GameL).mv).set (0 : Int).toNat [m]⟩ : GameL)).2)), (219, .bool true), (218, .bool true), (217, .bool true), (216, undef), (215, undef), (214, undef), (213, undef), (212, undef), (211, undef), (210, undef), (209, undef), (208, .bool true), (207, .bool (two)), (206, .bool true), (205, .bool true), (204, .bool true), (203, .bool (two)), (202, .bool (((rightP (⟨(⟨xo, xp, xm⟩ : GameL).ow, ((⟨xo, xp, xm⟩ : GameL).pr).set ((q : Int) / 2 : Int).toNat p, (⟨xo, xp, xm⟩ : GameL).mv⟩ : GameL)).2 : Int) == 0)), (201, .int .i64 ((rightP (⟨(⟨xo, xp, xm⟩ : GameL).ow, ((⟨xo, xp, xm⟩ : GameL).pr).set ((q : Int) / 2 : Int).toNat p, (⟨xo, xp, xm⟩ : GameL).mv⟩ : GameL)).2)), (200, .bool true), (199, .bool true), (198, .bool true), (197, .bool true), (196, .bool true), (195, .int .i64 (q - 1)), (194, .int .i64 (q)), (193, .int .i64 ((rightP (⟨((⟨xo, xp, xm⟩ : GameL).ow).set (q - 1 : Int).toNat o, (⟨xo, xp, xm⟩ : GameL).pr, (⟨xo, xp, xm⟩ : GameL).mv⟩ : GameL)).1)), (192, .bool true), (191, .bool true), (190, .int .i64 ((rightP (⟨((⟨xo, xp, xm⟩ : GameL).ow).set (q - 1 : Int).toNat o, (⟨xo, xp, xm⟩ : GameL).pr, (⟨xo, xp, xm⟩ : GameL).mv⟩ : GameL)).2)), (189, .bool false), (188, .bool (one)), (187, .bool true), (186, .bool true), (185, .bool true), (184, .bool (one)), (183, .bool (((rightP (⟨((⟨xo, xp, xm⟩ : GameL).ow).set (q - 1 : Int).toNat o, (⟨xo, xp, xm⟩ : GameL).pr, (⟨xo, xp, xm⟩ : GameL).mv⟩ : GameL)).2 : Int) == 0)), (182, .int .i64 ((rightP (⟨((⟨xo, xp, xm⟩ : GameL).ow).set (q - 1 : Int).toNat o, (⟨xo, xp, xm⟩ : GameL).pr, (⟨xo, xp, xm⟩ : GameL).mv⟩ : GameL)).2)), (181, .bool true), (180, .bool true)] [((.bool ((((rightP (⟨((⟨xo, xp, xm⟩ : GameL).ow).set (q - 1 : Int).toNat o, (⟨xo, xp, xm⟩ : GameL).pr, (⟨xo, xp, xm⟩ : GameL).mv⟩ : GameL)).2 : Int) == 0) == one) : Value) = .bool true), ((.bool (one) : Value) = .bool false), ((.bool (((rightP (⟨((⟨xo, xp, xm⟩ : GameL).ow).set (q - 1 : Int).toNat o, (⟨xo, xp, xm⟩ : GameL).pr, (⟨xo, xp, xm⟩ : GameL).mv⟩ : GameL)).2 : Int) == 14) : Value) = .bool true), ((.int .i64 (IntKind.i64.wrap (q - 1)) : Value) = .int .i64 (q - 1)), ((.bool (((rightP (⟨((⟨xo, xp, xm⟩ : GameL).ow).set (q - 1 : Int).toNat o, (⟨xo, xp, xm⟩ : GameL).pr, (⟨xo, xp, xm⟩ : GameL).mv⟩ : GameL)).1 : Int) == (q - 1)) : Value) = .bool true), ((.bool ((((rightP (⟨(⟨xo, xp, xm⟩ : GameL).ow, ((⟨xo, xp, xm⟩ : GameL).pr).set ((q : Int) / 2 : Int).toNat p, (⟨xo, xp, xm⟩ : GameL).mv⟩ : GameL)).2 : Int) == 0) == two) : Value) = .bool true), ((.bool (two) : Value) = .bool true), ((.bool ((((rightP (⟨(⟨xo, xp, xm⟩ : GameL).ow, (⟨xo, xp, xm⟩ : GameL).pr, ((⟨xo, xp, xm⟩ : GameL).mv).set (0 : Int).toNat [m]⟩ : GameL)).2 : Int) == 0) == thr) : Value) = .bool true), ((.bool (thr) : Value) = .bool true), ((.bool (((rightP (⟨(⟨xo, xp, xm⟩ : GameL).ow, (⟨xo, xp, xm⟩ : GameL).pr, ((⟨xo, xp, xm⟩ : GameL).mv).set (0 : Int).toNat [m]⟩ : GameL)).1 : Int) == 0) : Value) = .bool true), ((.bool (((rightP (⟨(⟨xo, xp, xm⟩ : GameL).ow, (⟨xo, xp, xm⟩ : GameL).pr, (((⟨xo, xp, xm⟩ : GameL).mv).set (0 : Int).toNat [m]).set (0 : Int).toNat ([] : List Int)⟩ : GameL)).1 : Int) == 0) : Value) = .bool true), ((.bool (((rightP (⟨(⟨xo, xp, xm⟩ : GameL).ow, (⟨xo, xp, xm⟩ : GameL).pr, (((⟨xo, xp, xm⟩ : GameL).mv).set (0 : Int).toNat [m]).set (0 : Int).toNat ([] : List Int)⟩ : GameL)).2 : Int) == 17) : Value) = .bool true)] (by kernel_rfl) ⟨(congrArg Value.bool (bbT (lim_b e1_ hone (by decide)))), (congrArg Value.bool h825), (congrArg Value.bool (beqT (by rw [lim_no e1_ hone (by assumption)]))), (w64 (by omega) (by omega)), (congrArg Value.bool (beqT (by rw [lim_no e1_ hone (by assumption)]))), (congrArg Value.bool (bbT (lim_b e2_ htwo (by decide)))), (congrArg Value.bool h849), (congrArg Value.bool (bbT (lim_b e3_ hthr (by decide)))), (congrArg Value.bool h851), (congrArg Value.bool (beqT (by rw [e3_]; split <;> rfl))), (congrArg Value.bool (beqT (by rw [e4_]))), (congrArg Value.bool (beqT (by rw [e4_]))), trivial⟩ (fun act854 f853 => ?_)
           clear f823
           refine At.done rfl ?_
           refine t_n ?_
           have f855 := f853.sub (r := [(8, .bool true)]) ⟨rfl, trivial⟩
           clear f853
           refine wp_ret ?_
           refine ret_ f855 [] [.bool true] [] (by kernel_rfl) trivial ?_
           exact ⟨rfl, e779⟩
          ·refine At.rd f823 65 [[], [], [], [], [], [.as_ (.bool true)], [], [], [], [.as_ (.bool false)], [], [.as_ (.bool true)], [], [], [], [.as_ (.int .i64 (q - 1))], [.as_ (.bool true)], [], [], [], [], [], [], [], [.as_ (.bool true)], [], [], [], [.as_ (.bool true)], [], [], [], [], [], [], [], [], [], [], [], [], [], [], [.as_ (.bool true)], [], [], [], [.as_ (.bool false)], [], [.as_ (.bool true)], [], [], [], [], [.as_ (.bool true)], [], [], [], [.as_ (.bool true)], [], [], [], [.as_ (.bool true)], [], []] [(8, .bool true), (243, .bool true), (242, .bool true), (241, .int .i64 ((rightP (⟨(⟨xo, xp, xm⟩ : GameL).ow, (⟨xo, xp, xm⟩ : GameL).pr, (((⟨xo, xp, xm⟩ : GameL).mv).set (0 : Int).toNat [m]).set (0 : Int).toNat ([] : List Int)⟩ : GameL)).2)), (240, .bool true), (239, .bool true), (238, .bool true), (237, .int .i64 ((rightP (⟨(⟨xo, xp, xm⟩ : GameL).ow, (⟨xo, xp, xm⟩ : GameL).pr, (((⟨xo, xp, xm⟩ : GameL).mv).set (0 : Int).toNat [m]).set (0 : Int).toNat ([] : List Int)⟩ : GameL)).1)), (236, .bool true), (235, .bool true), (234, .bool true), (233, .int .i64 ((rightP (⟨(⟨xo, xp, xm⟩ : GameL).ow, (⟨xo, xp, xm⟩ : GameL).pr, ((⟨xo, xp, xm⟩ : GameL).mv).set (0 : Int).toNat [m]⟩ : GameL)).1)), (232, .bool true), (231, .bool true), (230, .bool true), (229, .bool true), (228, .int .i64 ((rightP (⟨(⟨xo, xp, xm⟩ : GameL).ow, (⟨xo, xp, xm⟩ : GameL).pr, ((⟨xo, xp, xm⟩ : GameL).mv).set (0 : Int).toNat [m]⟩ : GameL)).2)), (227, .bool false), (226, .bool (thr)), (225, .bool true), (224, .bool true), (223, .bool true), (222, .bool (thr)), (221, .bool (((rightP (⟨(⟨xo, xp, xm⟩ : GameL).ow, (⟨xo, xp, xm⟩ : GameL).pr, ((⟨xo, xp, xm⟩ : GameL).mv).set (0 : Int).toNat [m]⟩ : GameL)).2 : Int) == 0)), (220, .int .i64 ((rightP (⟨(⟨xo, xp, xm⟩ : GameL).ow, (⟨xo, xp, xm⟩ : GameL).pr, ((⟨xo, xp, xm⟩ : GameL).mv).set (0 : Int).toNat [m]⟩ : GameL)).2)), (219, .bool true), (218, .bool true), (217, .bool true), (216, undef), (215, undef), (214, undef), (213, undef), (212, undef), (211, undef), (210, undef), (209, undef), (208, .bool true), (207, .bool (two)), (206, .bool true), (205, .bool true), (204, .bool true), (203, .bool (two)), (202, .bool (((rightP (⟨(⟨xo, xp, xm⟩ : GameL).ow, ((⟨xo, xp, xm⟩ : GameL).pr).set ((q : Int) / 2 : Int).toNat p, (⟨xo, xp, xm⟩ : GameL).mv⟩ : GameL)).2 : Int) == 0)), (201, .int .i64 ((rightP (⟨(⟨xo, xp, xm⟩ : GameL).ow, ((⟨xo, xp, xm⟩ : GameL).pr).set ((q : Int) / 2 : Int).toNat p, (⟨xo, xp, xm⟩ : GameL).mv⟩ : GameL)).2)), (200, .bool true), (199, .bool true), (198, .bool true), (197, .bool true), (196, .bool true), (195, .int .i64 (q - 1)), (194, .int .i64 (q)), (193, .int .i64 ((rightP (⟨((⟨xo, xp, xm⟩ : GameL).ow).set (q - 1 : Int).toNat o, (⟨xo, xp, xm⟩ : GameL).pr, (⟨xo, xp, xm⟩ : GameL).mv⟩ : GameL)).1)), (192, .bool true), (191, .bool true), (190, .int .i64 ((rightP (⟨((⟨xo, xp, xm⟩ : GameL).ow).set (q - 1 : Int).toNat o, (⟨xo, xp, xm⟩ : GameL).pr, (⟨xo, xp, xm⟩ : GameL).mv⟩ : GameL)).2)), (189, .bool false), (188, .bool (one)), (187, .bool true), (186, .bool true), (185, .bool true), (184, .bool (one)), (183, .bool (((rightP (⟨((⟨xo, xp, xm⟩ : GameL).ow).set (q - 1 : Int).toNat o, (⟨xo, xp, xm⟩ : GameL).pr, (⟨xo, xp, xm⟩ : GameL).mv⟩ : GameL)).2 : Int) == 0)), (182, .int .i64 ((rightP (⟨((⟨xo, xp, xm⟩ : GameL).ow).set (q - 1 : Int).toNat o, (⟨xo, xp, xm⟩ : GameL).pr, (⟨xo, xp, xm⟩ : GameL).mv⟩ : GameL)).2)), (181, .bool true), (180, .bool true)] [((.bool ((((rightP (⟨((⟨xo, xp, xm⟩ : GameL).ow).set (q - 1 : Int).toNat o, (⟨xo, xp, xm⟩ : GameL).pr, (⟨xo, xp, xm⟩ : GameL).mv⟩ : GameL)).2 : Int) == 0) == one) : Value) = .bool true), ((.bool (one) : Value) = .bool false), ((.bool (((rightP (⟨((⟨xo, xp, xm⟩ : GameL).ow).set (q - 1 : Int).toNat o, (⟨xo, xp, xm⟩ : GameL).pr, (⟨xo, xp, xm⟩ : GameL).mv⟩ : GameL)).2 : Int) == 14) : Value) = .bool true), ((.int .i64 (IntKind.i64.wrap (q - 1)) : Value) = .int .i64 (q - 1)), ((.bool (((rightP (⟨((⟨xo, xp, xm⟩ : GameL).ow).set (q - 1 : Int).toNat o, (⟨xo, xp, xm⟩ : GameL).pr, (⟨xo, xp, xm⟩ : GameL).mv⟩ : GameL)).1 : Int) == (q - 1)) : Value) = .bool true), ((.bool ((((rightP (⟨(⟨xo, xp, xm⟩ : GameL).ow, ((⟨xo, xp, xm⟩ : GameL).pr).set ((q : Int) / 2 : Int).toNat p, (⟨xo, xp, xm⟩ : GameL).mv⟩ : GameL)).2 : Int) == 0) == two) : Value) = .bool true), ((.bool (two) : Value) = .bool true), ((.bool ((((rightP (⟨(⟨xo, xp, xm⟩ : GameL).ow, (⟨xo, xp, xm⟩ : GameL).pr, ((⟨xo, xp, xm⟩ : GameL).mv).set (0 : Int).toNat [m]⟩ : GameL)).2 : Int) == 0) == thr) : Value) = .bool true), ((.bool (thr) : Value) = .bool false), ((.bool (((rightP (⟨(⟨xo, xp, xm⟩ : GameL).ow, (⟨xo, xp, xm⟩ : GameL).pr, ((⟨xo, xp, xm⟩ : GameL).mv).set (0 : Int).toNat [m]⟩ : GameL)).2 : Int) == 16) : Value) = .bool true), ((.bool (((rightP (⟨(⟨xo, xp, xm⟩ : GameL).ow, (⟨xo, xp, xm⟩ : GameL).pr, ((⟨xo, xp, xm⟩ : GameL).mv).set (0 : Int).toNat [m]⟩ : GameL)).1 : Int) == 0) : Value) = .bool true), ((.bool (((rightP (⟨(⟨xo, xp, xm⟩ : GameL).ow, (⟨xo, xp, xm⟩ : GameL).pr, (((⟨xo, xp, xm⟩ : GameL).mv).set (0 : Int).toNat [m]).set (0 : Int).toNat ([] : List Int)⟩ : GameL)).1 : Int) == 0) : Value) = .bool true), ((.bool (((rightP (⟨(⟨xo, xp, xm⟩ : GameL).ow, (⟨xo, xp, xm⟩ : GameL).pr, (((⟨xo, xp, xm⟩ : GameL).mv).set (0 : Int).toNat [m]).set (0 : Int).toNat ([] : List Int)⟩ : GameL)).2 : Int) == 17) : Value) = .bool true)] (by kernel_rfl) ⟨(congrArg Value.bool (bbT (lim_b e1_ hone (by decide)))), (congrArg Value.bool h825), (congrArg Value.bool (beqT (by rw [lim_no e1_ hone (by assumption)]))), (w64 (by omega) (by omega)), (congrArg Value.bool (beqT (by rw [lim_no e1_ hone (by assumption)]))), (congrArg Value.bool (bbT (lim_b e2_ htwo (by decide)))), (congrArg Value.bool h849), (congrArg Value.bool (bbT (lim_b e3_ hthr (by decide)))), (congrArg Value.bool h851), (congrArg Value.bool (beqT (by rw [lim_no e3_ hthr (by assumption)]))), (congrArg Value.bool (beqT (by rw [e3_]; split <;> rfl))), (congrArg Value.bool (beqT (by rw [e4_]))), (congrArg Value.bool (beqT (by rw [e4_]))), trivial⟩ (fun act858 f857 => ?_)
           clear f823
           refine At.done rfl ?_
           refine t_n ?_
           have f859 := f857.sub (r := [(8, .bool true)]) ⟨rfl, trivial⟩
           clear f857
           refine wp_ret ?_
           refine ret_ f859 [] [.bool true] [] (by kernel_rfl) trivial ?_
           exact ⟨rfl, e779⟩
         ·rcases Bool.eq_false_or_eq_true (thr) with h861 | h861
          ·refine At.rd f823 65 [[], [], [], [], [], [.as_ (.bool true)], [], [], [], [.as_ (.bool false)], [], [.as_ (.bool true)], [], [], [], [.as_ (.int .i64 (q - 1))], [.as_ (.bool true)], [], [], [], [], [], [], [], [.as_ (.bool true)], [], [], [], [.as_ (.bool false)], [], [.as_ (.bool true)], [], [], [], [.as_ (.int .i64 ((q : Int) / 2))], [.as_ (.bool true)], [], [], [], [], [], [], [], [.as_ (.bool true)], [], [], [], [.as_ (.bool true)], [], [], [], [], [], [], [.as_ (.bool true)], [], [], [], [.as_ (.bool true)], [], [], [], [.as_ (.bool true)], [], []] [(8, .bool true), (243, .bool true), (242, .bool true), (241, .int .i64 ((rightP (⟨(⟨xo, xp, xm⟩ : GameL).ow, (⟨xo, xp, xm⟩ : GameL).pr, (((⟨xo, xp, xm⟩ : GameL).mv).set (0 : Int).toNat [m]).set (0 : Int).toNat ([] : List Int)⟩ : GameL)).2)), (240, .bool true), (239, .bool true), (238, .bool true), (237, .int .i64 ((rightP (⟨(⟨xo, xp, xm⟩ : GameL).ow, (⟨xo, xp, xm⟩ : GameL).pr, (((⟨xo, xp, xm⟩ : GameL).mv).set (0 : Int).toNat [m]).set (0 : Int).toNat ([] : List Int)⟩ : GameL)).1)), (236, .bool true), (235, .bool true), (234, .bool true), (233, .int .i64 ((rightP (⟨(⟨xo, xp, xm⟩ : GameL).ow, (⟨xo, xp, xm⟩ : GameL).pr, ((⟨xo, xp, xm⟩ : GameL).mv).set (0 : Int).toNat [m]⟩ : GameL)).1)), (232, .bool true), (231, .bool true), (230, .bool true), (229, undef), (228, undef), (227, .bool true), (226, .bool (thr)), (225, .bool true), (224, .bool true), (223, .bool true), (222, .bool (thr)), (221, .bool (((rightP (⟨(⟨xo, xp, xm⟩ : GameL).ow, (⟨xo, xp, xm⟩ : GameL).pr, ((⟨xo, xp, xm⟩ : GameL).mv).set (0 : Int).toNat [m]⟩ : GameL)).2 : Int) == 0)), (220, .int .i64 ((rightP (⟨(⟨xo, xp, xm⟩ : GameL).ow, (⟨xo, xp, xm⟩ : GameL).pr, ((⟨xo, xp, xm⟩ : GameL).mv).set (0 : Int).toNat [m]⟩ : GameL)).2)), (219, .bool true), (218, .bool true), (217, .bool true), (216, .bool true), (215, .bool true), (214, .int .i64 ((q : Int) / 2)), (213, .int .i64 (q)), (212, .int .i64 ((rightP (⟨(⟨xo, xp, xm⟩ : GameL).ow, ((⟨xo, xp, xm⟩ : GameL).pr).set ((q : Int) / 2 : Int).toNat p, (⟨xo, xp, xm⟩ : GameL).mv⟩ : GameL)).1)), (211, .bool true), (210, .bool true), (209, .int .i64 ((rightP (⟨(⟨xo, xp, xm⟩ : GameL).ow, ((⟨xo, xp, xm⟩ : GameL).pr).set ((q : Int) / 2 : Int).toNat p, (⟨xo, xp, xm⟩ : GameL).mv⟩ : GameL)).2)), (208, .bool false), (207, .bool (two)), (206, .bool true), (205, .bool true), (204, .bool true), (203, .bool (two)), (202, .bool (((rightP (⟨(⟨xo, xp, xm⟩ : GameL).ow, ((⟨xo, xp, xm⟩ : GameL).pr).set ((q : Int) / 2 : Int).toNat p, (⟨xo, xp, xm⟩ : GameL).mv⟩ : GameL)).2 : Int) == 0)), (201, .int .i64 ((rightP (⟨(⟨xo, xp, xm⟩ : GameL).ow, ((⟨xo, xp, xm⟩ : GameL).pr).set ((q : Int) / 2 : Int).toNat p, (⟨xo, xp, xm⟩ : GameL).mv⟩ : GameL)).2)), (200, .bool true), (199, .bool true), (198, .bool true), (197, .bool true), (196, .bool true), (195, .int .i64 (q - 1)), (194, .int .i64 (q)), (193, .int .i64 ((rightP (⟨((⟨xo, xp, xm⟩ : GameL).ow).set (q - 1 : Int).toNat o, (⟨xo, xp, xm⟩ : GameL).pr, (⟨xo, xp, xm⟩ : GameL).mv⟩ : GameL)).1)), (192, .bool true), (191, .bool true), (190, .int .i64 ((rightP (⟨((⟨xo, xp, xm⟩ : GameL).ow).set (q - 1 : Int).toNat o, (⟨xo, xp, xm⟩ : GameL).pr, (⟨xo, xp, xm⟩ : GameL).mv⟩ : GameL)).2)), (189, .bool false), (188, .bool (one)), (187, .bool true), (186, .bool true), (185, .bool true), (184, .bool (one)), (183, .bool (((rightP (⟨((⟨xo, xp, xm⟩ : GameL).ow).set (q - 1 : Int).toNat o, (⟨xo, xp, xm⟩ : GameL).pr, (⟨xo, xp, xm⟩ : GameL).mv⟩ : GameL)).2 : Int) == 0)), (182, .int .i64 ((rightP (⟨((⟨xo, xp, xm⟩ : GameL).ow).set (q - 1 : Int).toNat o, (⟨xo, xp, xm⟩ : GameL).pr, (⟨xo, xp, xm⟩ : GameL).mv⟩ : GameL)).2)), (181, .bool true), (180, .bool true)] [((.bool ((((rightP (⟨((⟨xo, xp, xm⟩ : GameL).ow).set (q - 1 : Int).toNat o, (⟨xo, xp, xm⟩ : GameL).pr, (⟨xo, xp, xm⟩ : GameL).mv⟩ : GameL)).2 : Int) == 0) == one) : Value) = .bool true), ((.bool (one) : Value) = .bool false), ((.bool (((rightP (⟨((⟨xo, xp, xm⟩ : GameL).ow).set (q - 1 : Int).toNat o, (⟨xo, xp, xm⟩ : GameL).pr, (⟨xo, xp, xm⟩ : GameL).mv⟩ : GameL)).2 : Int) == 14) : Value) = .bool true), ((.int .i64 (IntKind.i64.wrap (q - 1)) : Value) = .int .i64 (q - 1)), ((.bool (((rightP (⟨((⟨xo, xp, xm⟩ : GameL).ow).set (q - 1 : Int).toNat o, (⟨xo, xp, xm⟩ : GameL).pr, (⟨xo, xp, xm⟩ : GameL).mv⟩ : GameL)).1 : Int) == (q - 1)) : Value) = .bool true), ((.bool ((((rightP (⟨(⟨xo, xp, xm⟩ : GameL).ow, ((⟨xo, xp, xm⟩ : GameL).pr).set ((q : Int) / 2 : Int).toNat p, (⟨xo, xp, xm⟩ : GameL).mv⟩ : GameL)).2 : Int) == 0) == two) : Value) = .bool true), ((.bool (two) : Value) = .bool false), ((.bool (((rightP (⟨(⟨xo, xp, xm⟩ : GameL).ow, ((⟨xo, xp, xm⟩ : GameL).pr).set ((q : Int) / 2 : Int).toNat p, (⟨xo, xp, xm⟩ : GameL).mv⟩ : GameL)).2 : Int) == 15) : Value) = .bool true), ((2 : Int) ≠ 0), ((.int .i64 (IntKind.i64.wrap ((q : Int).tdiv 2)) : Value) = .int .i64 ((q : Int) / 2)), ((.bool (((rightP (⟨(⟨xo, xp, xm⟩ : GameL).ow, ((⟨xo, xp, xm⟩ : GameL).pr).set ((q : Int) / 2 : Int).toNat p, (⟨xo, xp, xm⟩ : GameL).mv⟩ : GameL)).1 : Int) == ((q : Int) / 2)) : Value) = .bool true), ((.bool ((((rightP (⟨(⟨xo, xp, xm⟩ : GameL).ow, (⟨xo, xp, xm⟩ : GameL).pr, ((⟨xo, xp, xm⟩ : GameL).mv).set (0 : Int).toNat [m]⟩ : GameL)).2 : Int) == 0) == thr) : Value) = .bool true), ((.bool (thr) : Value) = .bool true), ((.bool (((rightP (⟨(⟨xo, xp, xm⟩ : GameL).ow, (⟨xo, xp, xm⟩ : GameL).pr, ((⟨xo, xp, xm⟩ : GameL).mv).set (0 : Int).toNat [m]⟩ : GameL)).1 : Int) == 0) : Value) = .bool true), ((.bool (((rightP (⟨(⟨xo, xp, xm⟩ : GameL).ow, (⟨xo, xp, xm⟩ : GameL).pr, (((⟨xo, xp, xm⟩ : GameL).mv).set (0 : Int).toNat [m]).set (0 : Int).toNat ([] : List Int)⟩ : GameL)).1 : Int) == 0) : Value) = .bool true), ((.bool (((rightP (⟨(⟨xo, xp, xm⟩ : GameL).ow, (⟨xo, xp, xm⟩ : GameL).pr, (((⟨xo, xp, xm⟩ : GameL).mv).set (0 : Int).toNat [m]).set (0 : Int).toNat ([] : List Int)⟩ : GameL)).2 : Int) == 17) : Value) = .bool true)] (by kernel_rfl) ⟨(congrArg Value.bool (bbT (lim_b e1_ hone (by decide)))), (congrArg Value.bool h825), (congrArg Value.bool (beqT (by rw [lim_no e1_ hone (by assumption)]))), (w64 (by omega) (by omega)), (congrArg Value.bool (beqT (by rw [lim_no e1_ hone (by assumption)]))), (congrArg Value.bool (bbT (lim_b e2_ htwo (by decide)))), (congrArg Value.bool h849), (congrArg Value.bool (beqT (by rw [lim_no e2_ htwo (by assumption)]))), (by omega), (congrArg (Value.int .i64) (w64q (by omega) (by omega) (by omega))), (congrArg Value.bool (beqT (by rw [lim_no e2_ htwo (by assumption)]))), (congrArg Value.bool (bbT (lim_b e3_ hthr (by decide)))), (congrArg Value.bool h861), (congrArg Value.bool (beqT (by rw [e3_]; split <;> rfl))), (congrArg Value.bool (beqT (by rw [e4_]))), (congrArg Value.bool (beqT (by rw [e4_]))), trivial⟩ (fun act864 f863 => ?_)
           clear f823
           refine At.done rfl ?_
           refine t_n ?_
           have f865 := f863.sub (r := [(8, .bool true)]) ⟨rfl, trivial⟩
           clear f863
           refine wp_ret ?_
           refine ret_ f865 [] [.bool true] [] (by kernel_rfl) trivial ?_
           exact ⟨rfl, e779⟩
          ·refine At.rd f823 65 [[], [], [], [], [], [.as_ (.bool true)], [], [], [], [.as_ (.bool false)], [], [.as_ (.bool true)], [], [], [], [.as_ (.int .i64 (q - 1))], [.as_ (.bool true)], [], [], [], [], [], [], [], [.as_ (.bool true)], [], [], [], [.as_ (.bool false)], [], [.as_ (.bool true)], [], [], [], [.as_ (.int .i64 ((q : Int) / 2))], [.as_ (.bool true)], [], [], [], [], [], [], [], [.as_ (.bool true)], [], [], [], [.as_ (.bool false)], [], [.as_ (.bool true)], [], [], [], [], [.as_ (.bool true)], [], [], [], [.as_ (.bool true)], [], [], [], [.as_ (.bool true)], [], []] [(8, .bool true), (243, .bool true), (242, .bool true), (241, .int .i64 ((rightP (⟨(⟨xo, xp, xm⟩ : GameL).ow, (⟨xo, xp, xm⟩ : GameL).pr, (((⟨xo, xp, xm⟩ : GameL).mv).set (0 : Int).toNat [m]).set (0 : Int).toNat ([] : List Int)⟩ : GameL)).2)), (240, .bool true), (239, .bool true), (238, .bool true), (237, .int .i64 ((rightP (⟨(⟨xo, xp, xm⟩ : GameL).ow, (⟨xo, xp, xm⟩ : GameL).pr, (((⟨xo, xp, xm⟩ : GameL).mv).set (0 : Int).toNat [m]).set (0 : Int).toNat ([] : List Int)⟩ : GameL)).1)), (236, .bool true), (235, .bool true), (234, .bool true), (233, .int .i64 ((rightP (⟨(⟨xo, xp, xm⟩ : GameL).ow, (⟨xo, xp, xm⟩ : GameL).pr, ((⟨xo, xp, xm⟩ : GameL).mv).set (0 : Int).toNat [m]⟩ : GameL)).1)), (232, .bool true), (231, .bool true), (230, .bool true), (229, .bool true), (228, .int .i64 ((rightP (⟨(⟨xo, xp, xm⟩ : GameL).ow, (⟨xo, xp, xm⟩ : GameL).pr, ((⟨xo, xp, xm⟩ : GameL).mv).set (0 : Int).toNat [m]⟩ : GameL)).2)), (227, .bool false), (226, .bool (thr)), (225, .bool true), (224, .bool true), (223, .bool true), (222, .bool (thr)), (221, .bool (((rightP (⟨(⟨xo, xp, xm⟩ : GameL).ow, (⟨xo, xp, xm⟩ : GameL).pr, ((⟨xo, xp, xm⟩ : GameL).mv).set (0 : Int).toNat [m]⟩ : GameL)).2 : Int) == 0)), (220, .int .i64 ((rightP (⟨(⟨xo, xp, xm⟩ : GameL).ow, (⟨xo, xp, xm⟩ : GameL).pr, ((⟨xo, xp, xm⟩ : GameL).mv).set (0 : Int).toNat [m]⟩ : GameL)).2)), (219, .bool true), (218, .bool true), (217, .bool true), (216, .bool true), (215, .bool true), (214, .int .i64 ((q : Int) / 2)), (213, .int .i64 (q)), (212, .int .i64 ((rightP (⟨(⟨xo, xp, xm⟩ : GameL).ow, ((⟨xo, xp, xm⟩ : GameL).pr).set ((q : Int) / 2 : Int).toNat p, (⟨xo, xp, xm⟩ : GameL).mv⟩ : GameL)).1)), (211, .bool true), (210, .bool true), (209, .int .i64 ((rightP (⟨(⟨xo, xp, xm⟩ : GameL).ow, ((⟨xo, xp, xm⟩ : GameL).pr).set ((q : Int) / 2 : Int).toNat p, (⟨xo, xp, xm⟩ : GameL).mv⟩ : GameL)).2)), (208, .bool false), (207, .bool (two)), (206, .bool true), (205, .bool true), (204, .bool true), (203, .bool (two)), (202, .bool (((rightP (⟨(⟨xo, xp, xm⟩ : GameL).ow, ((⟨xo, xp, xm⟩ : GameL).pr).set ((q : Int) / 2 : Int).toNat p, (⟨xo, xp, xm⟩ : GameL).mv⟩ : GameL)).2 : Int) == 0)), (201, .int .i64 ((rightP (⟨(⟨xo, xp, xm⟩ : GameL).ow, ((⟨xo, xp, xm⟩ : GameL).pr).set ((q : Int) / 2 : Int).toNat p, (⟨xo, xp, xm⟩ : GameL).mv⟩ : GameL)).2)), (200, .bool true), (199, .bool true), (198, .bool true), (197, .bool true), (196, .bool true), (195, .int .i64 (q - 1)), (194, .int .i64 (q)), (193, .int .i64 ((rightP (⟨((⟨xo, xp, xm⟩ : GameL).ow).set (q - 1 : Int).toNat o, (⟨xo, xp, xm⟩ : GameL).pr, (⟨xo, xp, xm⟩ : GameL).mv⟩ : GameL)).1)), (192, .bool true), (191, .bool true), (190, .int .i64 ((rightP (⟨((⟨xo, xp, xm⟩ : GameL).ow).set (q - 1 : Int).toNat o, (⟨xo, xp, xm⟩ : GameL).pr, (⟨xo, xp, xm⟩ : GameL).mv⟩ : GameL)).2)), (189, .bool false), (188, .bool (one)), (187, .bool true), (186, .bool true), (185, .bool true), (184, .bool (one)), (183, .bool (((rightP (⟨((⟨xo, xp, xm⟩ : GameL).ow).set (q - 1 : Int).toNat o, (⟨xo, xp, xm⟩ : GameL).pr, (⟨xo, xp, xm⟩ : GameL).mv⟩ : GameL)).2 : Int) == 0)), (182, .int .i64 ((rightP (⟨((⟨xo, xp, xm⟩ : GameL).ow).set (q - 1 : Int).toNat o, (⟨xo, xp, xm⟩ : GameL).pr, (⟨xo, xp, xm⟩ : GameL).mv⟩ : GameL)).2)), (181, .bool true), (180, .bool true)] [((.bool ((((rightP (⟨((⟨xo, xp, xm⟩ : GameL).ow).set (q - 1 : Int).toNat o, (⟨xo, xp, xm⟩ : GameL).pr, (⟨xo, xp, xm⟩ : GameL).mv⟩ : GameL)).2 : Int) == 0) == one) : Value) = .bool true), ((.bool (one) : Value) = .bool false), ((.bool (((rightP (⟨((⟨xo, xp, xm⟩ : GameL).ow).set (q - 1 : Int).toNat o, (⟨xo, xp, xm⟩ : GameL).pr, (⟨xo, xp, xm⟩ : GameL).mv⟩ : GameL)).2 : Int) == 14) : Value) = .bool true), ((.int .i64 (IntKind.i64.wrap (q - 1)) : Value) = .int .i64 (q - 1)), ((.bool (((rightP (⟨((⟨xo, xp, xm⟩ : GameL).ow).set (q - 1 : Int).toNat o, (⟨xo, xp, xm⟩ : GameL).pr, (⟨xo, xp, xm⟩ : GameL).mv⟩ : GameL)).1 : Int) == (q - 1)) : Value) = .bool true), ((.bool ((((rightP (⟨(⟨xo, xp, xm⟩ : GameL).ow, ((⟨xo, xp, xm⟩ : GameL).pr).set ((q : Int) / 2 : Int).toNat p, (⟨xo, xp, xm⟩ : GameL).mv⟩ : GameL)).2 : Int) == 0) == two) : Value) = .bool true), ((.bool (two) : Value) = .bool false), ((.bool (((rightP (⟨(⟨xo, xp, xm⟩ : GameL).ow, ((⟨xo, xp, xm⟩ : GameL).pr).set ((q : Int) / 2 : Int).toNat p, (⟨xo, xp, xm⟩ : GameL).mv⟩ : GameL)).2 : Int) == 15) : Value) = .bool true), ((2 : Int) ≠ 0), ((.int .i64 (IntKind.i64.wrap ((q : Int).tdiv 2)) : Value) = .int .i64 ((q : Int) / 2)), ((.bool (((rightP (⟨(⟨xo, xp, xm⟩ : GameL).ow, ((⟨xo, xp, xm⟩ : GameL).pr).set ((q : Int) / 2 : Int).toNat p, (⟨xo, xp, xm⟩ : GameL).mv⟩ : GameL)).1 : Int) == ((q : Int) / 2)) : Value) = .bool true), ((.bool ((((rightP (⟨(⟨xo, xp, xm⟩ : GameL).ow, (⟨xo, xp, xm⟩ : GameL).pr, ((⟨xo, xp, xm⟩ : GameL).mv).set (0 : Int).toNat [m]⟩ : GameL)).2 : Int) == 0) == thr) : Value) = .bool true), ((.bool (thr) : Value) = .bool false), ((.bool (((rightP (⟨(⟨xo, xp, xm⟩ : GameL).ow, (⟨xo, xp, xm⟩ : GameL).pr, ((⟨xo, xp, xm⟩ : GameL).mv).set (0 : Int).toNat [m]⟩ : GameL)).2 : Int) == 16) : Value) = .bool true), ((.bool (((rightP (⟨(⟨xo, xp, xm⟩ : GameL).ow, (⟨xo, xp, xm⟩ : GameL).pr, ((⟨xo, xp, xm⟩ : GameL).mv).set (0 : Int).toNat [m]⟩ : GameL)).1 : Int) == 0) : Value) = .bool true), ((.bool (((rightP (⟨(⟨xo, xp, xm⟩ : GameL).ow, (⟨xo, xp, xm⟩ : GameL).pr, (((⟨xo, xp, xm⟩ : GameL).mv).set (0 : Int).toNat [m]).set (0 : Int).toNat ([] : List Int)⟩ : GameL)).1 : Int) == 0) : Value) = .bool true), ((.bool (((rightP (⟨(⟨xo, xp, xm⟩ : GameL).ow, (⟨xo, xp, xm⟩ : GameL).pr, (((⟨xo, xp, xm⟩ : GameL).mv).set (0 : Int).toNat [m]).set (0 : Int).toNat ([] : List Int)⟩ : GameL)).2 : Int) == 17) : Value) = .bool true)] (by kernel_rfl) ⟨(congrArg Value.bool (bbT (lim_b e1_ hone (by decide)))), (congrArg Value.bool h825), (congrArg Value.bool (beqT (by rw [lim_no e1_ hone (by assumption)]))), (w64 (by omega) (by omega)), (congrArg Value.bool (beqT (by rw [lim_no e1_ hone (by assumption)]))), (congrArg Value.bool (bbT (lim_b e2_ htwo (by decide)))), (congrArg Value.bool h849), (congrArg Value.bool (beqT (by rw [lim_no e2_ htwo (by assumption)]))), (by omega), (congrArg (Value.int .i64) (w64q (by omega) (by omega) (by omega))), (congrArg Value.bool (beqT (by rw [lim_no e2_ htwo (by assumption)]))), (congrArg Value.bool (bbT (lim_b e3_ hthr (by decide)))), (congrArg Value.bool h861), (congrArg Value.bool (beqT (by rw [lim_no e3_ hthr (by assumption)]))), (congrArg Value.bool (beqT (by rw [e3_]; split <;> rfl))), (congrArg Value.bool (beqT (by rw [e4_]))), (congrArg Value.bool (beqT (by rw [e4_]))), trivial⟩ (fun act868 f867 => ?_)
           clear f823
           refine At.done rfl ?_
           refine t_n ?_
           have f869 := f867.sub (r := [(8, .bool true)]) ⟨rfl, trivial⟩
           clear f867
           refine wp_ret ?_
           refine ret_ f869 [] [.bool true] [] (by kernel_rfl) trivial ?_
           exact ⟨rfl, e779⟩

end Go.Proofs.YtkkophhnliplhaaDoor
