/- Contracts of Go functions: what each returns, for every input that its premises name; no memory of the caller is touched. Printed by a program. -/
import Derived.Test.YtnfkgfibinimmaaXf1
import Derived.Test.YtnfkgfibinimmaaXu3
namespace Go.Proofs.Ytnfkgfibinimmaa.X
open Go Go.RowKit
set_option linter.unusedVariables false      -- a premise may serve only to tell which way is taken
set_option linter.unusedSimpArgs false
theorem ttoF (W : Int) (xs ys : List Int) (s b l p q a : Int) (hp0 : 16 ≤ W ∧ W ≤ 4096) (hp1 : (xs.length : Int) = W) (hp2 : (ys.length : Int) = W) (hp3 : U64s xs) (hp4 : U64s ys) (hp5 : (s = 0 ∨ s = 1) ∧ 0 ≤ b ∧ b ≤ l ∧ l ≤ 4096) (hp6 : l = W) (hp7 : 0 ≤ p ∧ p ≤ q ∧ q ≤ b) (hp8 : 0 ≤ a ∧ a ≤ 18446744073709551615) : Pub Try.prog 36 [.agg (mr W xs ys (r5 s b l p q)), .u a] (fun rv => rv = .tup [.agg (mr W (tgX W xs ys s b l a) (tgY W xs ys s b l a) (r5 s (tgB W xs ys s b l a) l p q)), .u (tgT W xs ys s b l a), .i (tgE W xs ys s b l a)]) := by
  refine (tto W xs ys s b l p q a hp0 hp1 hp2 hp3 hp4 hp5 hp6 hp7 hp8).mono ?_
  rintro _ (⟨g0, rfl⟩ | ⟨g0, g1, rfl⟩ | ⟨g0, g1, g2, rfl⟩ | ⟨g0, g1, g2, g3, rfl⟩ | ⟨g0, g1, g2, g3, g4, g5, rfl⟩ | ⟨g0, g1, g2, g3, g4, g5, rfl⟩ | ⟨g0, g1, g2, g3, g4, g5, rfl⟩ | ⟨g0, g1, g2, g3, g4, g5, rfl⟩)
  · obtain ⟨e1, e2, e3, e4, e5⟩ := tg_of (W := W) (xs := xs) (ys := ys) (s := s) (b := b) (l := l) (a := a) (X := xs) (Y := ys) (B := b) (T := 0) (E := 0) (by unfold toR; repeat' (first | rw [if_pos (by omega)] | rw [if_neg (by omega)]); try rfl)
    rw [e1, e2, e3, e4, e5]
  · obtain ⟨e1, e2, e3, e4, e5⟩ := tg_of (W := W) (xs := xs) (ys := ys) (s := s) (b := b) (l := l) (a := a) (X := xs) (Y := ys) (B := b) (T := 0) (E := (oErr W xs ys a)) (by unfold toR; repeat' (first | rw [if_pos (by omega)] | rw [if_neg (by omega)]); try rfl)
    rw [e1, e2, e3, e4, e5]
  · obtain ⟨e1, e2, e3, e4, e5⟩ := tg_of (W := W) (xs := xs) (ys := ys) (s := s) (b := b) (l := l) (a := a) (X := xs) (Y := ys) (B := b) (T := 0) (E := 8) (by unfold toR; repeat' (first | rw [if_pos (by omega)] | rw [if_neg (by omega)]); try rfl)
    rw [e1, e2, e3, e4, e5]
  · obtain ⟨e1, e2, e3, e4, e5⟩ := tg_of (W := W) (xs := xs) (ys := ys) (s := s) (b := b) (l := l) (a := a) (X := xs) (Y := ys) (B := b) (T := a) (E := 0) (by unfold toR; repeat' (first | rw [if_pos (by omega)] | rw [if_neg (by omega)]); try rfl)
    rw [e1, e2, e3, e4, e5]
  · obtain ⟨e1, e2, e3, e4, e5⟩ := tg_of (W := W) (xs := xs) (ys := ys) (s := s) (b := b) (l := l) (a := a) (X := xs) (Y := ys) (B := b) (T := 0) (E := 10) (by unfold toR; repeat' (first | rw [if_pos (by omega)] | rw [if_neg (by omega)]); try rfl)
    rw [e1, e2, e3, e4, e5]
  · obtain ⟨e1, e2, e3, e4, e5⟩ := tg_of (W := W) (xs := xs) (ys := ys) (s := s) (b := b) (l := l) (a := a) (X := xs) (Y := ys) (B := b) (T := (ldw xs ys (a + 1))) (E := 0) (by unfold toR; repeat' (first | rw [if_pos (by omega)] | rw [if_neg (by omega)]); try rfl)
    rw [e1, e2, e3, e4, e5]
  · obtain ⟨e1, e2, e3, e4, e5⟩ := tg_of (W := W) (xs := xs) (ys := ys) (s := s) (b := b) (l := l) (a := a) (X := xs) (Y := ys) (B := b) (T := 0) (E := 4) (by unfold toR; repeat' (first | rw [if_pos (by omega)] | rw [if_neg (by omega)]); try rfl)
    rw [e1, e2, e3, e4, e5]
  · obtain ⟨e1, e2, e3, e4, e5⟩ := tg_of (W := W) (xs := xs) (ys := ys) (s := s) (b := b) (l := l) (a := a) (X := (tX xs ys a ((s + 1) * 4294967296 + b) (((ldw xs ys a / 4294967296) % 16777216) + 2))) (Y := (tY xs ys a ((s + 1) * 4294967296 + b) (((ldw xs ys a / 4294967296) % 16777216) + 2))) (B := (b + (((ldw xs ys a / 4294967296) % 16777216) + 2))) (T := ((s + 1) * 4294967296 + b)) (E := 0) (by unfold toR; repeat' (first | rw [if_pos (by omega)] | rw [if_neg (by omega)]); try rfl)
    rw [e1, e2, e3, e4, e5]

theorem osetF (W : Int) (xs ys : List Int) (a i v : Int) (hp0 : 16 ≤ W ∧ W ≤ 4096) (hp1 : (xs.length : Int) = W) (hp2 : (ys.length : Int) = W) (hp3 : U64s xs) (hp4 : U64s ys) (hp5 : 0 ≤ a ∧ a ≤ 18446744073709551615) (hp6 : -9223372036854775808 ≤ i ∧ i ≤ 9223372036854775807) (hp7 : 0 ≤ v ∧ v ≤ 18446744073709551615) : Pub Try.prog 37 [.agg (mm W xs ys), .u a, .i i, .u v] (fun rv => rv = .tup [.agg (mm W (sgX W xs ys a i v) (sgY W xs ys a i v)), .i (sgE W xs ys a i v)]) := by
  refine (oset W xs ys a i v hp0 hp1 hp2 hp3 hp4 hp5 hp6 hp7).mono ?_
  rintro _ (⟨g0, g1, g2, rfl⟩ | ⟨g0, g1, g2, rfl⟩ | ⟨g0, g1, rfl⟩ | ⟨g0, rfl⟩)
  · obtain ⟨e1, e2, e3⟩ := sg_of (W := W) (xs := xs) (ys := ys) (a := a) (i := i) (v := v) (X := (stx xs (a + 2 + i) v)) (Y := (sty ys (a + 2 + i) v)) (E := 0) (by unfold seR; repeat' (first | rw [if_pos (by omega)] | rw [if_neg (by omega)]); try rfl)
    rw [e1, e2, e3]
  · obtain ⟨e1, e2, e3⟩ := sg_of (W := W) (xs := xs) (ys := ys) (a := a) (i := i) (v := v) (X := xs) (Y := ys) (E := 7) (by unfold seR; repeat' (first | rw [if_pos (by omega)] | rw [if_neg (by omega)]); try rfl)
    rw [e1, e2, e3]
  · obtain ⟨e1, e2, e3⟩ := sg_of (W := W) (xs := xs) (ys := ys) (a := a) (i := i) (v := v) (X := xs) (Y := ys) (E := 8) (by unfold seR; repeat' (first | rw [if_pos (by omega)] | rw [if_neg (by omega)]); try rfl)
    rw [e1, e2, e3]
  · obtain ⟨e1, e2, e3⟩ := sg_of (W := W) (xs := xs) (ys := ys) (a := a) (i := i) (v := v) (X := xs) (Y := ys) (E := (oErr W xs ys a)) (by unfold seR; repeat' (first | rw [if_pos (by omega)] | rw [if_neg (by omega)]); try rfl)
    rw [e1, e2, e3]

set_option maxHeartbeats 8000000 in
theorem rone (W : Int) (xs ys : List Int) (s b l p q a i : Int) (hp0 : 16 ≤ W ∧ W ≤ 4096) (hp1 : (xs.length : Int) = W) (hp2 : (ys.length : Int) = W) (hp3 : U64s xs) (hp4 : U64s ys) (hp5 : (s = 0 ∨ s = 1) ∧ 0 ≤ b ∧ b ≤ l ∧ l ≤ 4096) (hp6 : l = W) (hp7 : 0 ≤ p ∧ p ≤ q ∧ q ≤ b) (hp8 : 0 ≤ a ∧ a ≤ 18446744073709551615) (hp9 : -9223372036854775808 ≤ i ∧ i ≤ 9223372036854775807) : Pub Try.prog 15 [.agg (mr W xs ys (r5 s b l p q)), .agg [.u a, .i i]] (fun rv => (((gE W xs ys a i) ≠ 0) ∧ rv = .tup [.agg (mr W xs ys (r5 s b l p q)), .i (gE W xs ys a i)]) ∨ (((gE W xs ys a i) = 0) ∧ ((1 ≤ a / 4294967296 ∧ a / 4294967296 ≤ 2 ∧ a / 4294967296 - 1 = s) ∨ (ldw xs ys (a + 1)) = 0) ∧ rv = .tup [.agg (mr W xs ys (r5 s b l p q)), .i 0]) ∨ (((gE W xs ys a i) = 0) ∧ (¬ ((1 ≤ a / 4294967296 ∧ a / 4294967296 ≤ 2 ∧ a / 4294967296 - 1 = s) ∨ (ldw xs ys (a + 1)) = 0)) ∧ ((isPtr ((ldw xs ys a / 4294967296) % 16777216) (ldw xs ys a % 4294967296) i) = true) ∧ ((tgE W xs ys s b l (ldw xs ys (a + 2 + i))) ≠ 0) ∧ rv = .tup [.agg (mr W (tgX W xs ys s b l (ldw xs ys (a + 2 + i))) (tgY W xs ys s b l (ldw xs ys (a + 2 + i))) (r5 s (tgB W xs ys s b l (ldw xs ys (a + 2 + i))) l p q)), .i (tgE W xs ys s b l (ldw xs ys (a + 2 + i)))]) ∨ (((gE W xs ys a i) = 0) ∧ (¬ ((1 ≤ a / 4294967296 ∧ a / 4294967296 ≤ 2 ∧ a / 4294967296 - 1 = s) ∨ (ldw xs ys (a + 1)) = 0)) ∧ ((isPtr ((ldw xs ys a / 4294967296) % 16777216) (ldw xs ys a % 4294967296) i) = true) ∧ ((tgE W xs ys s b l (ldw xs ys (a + 2 + i))) = 0) ∧ rv = .tup [.agg (mr W (sgX W (tgX W xs ys s b l (ldw xs ys (a + 2 + i))) (tgY W xs ys s b l (ldw xs ys (a + 2 + i))) (ldw xs ys (a + 1)) i (tgT W xs ys s b l (ldw xs ys (a + 2 + i)))) (sgY W (tgX W xs ys s b l (ldw xs ys (a + 2 + i))) (tgY W xs ys s b l (ldw xs ys (a + 2 + i))) (ldw xs ys (a + 1)) i (tgT W xs ys s b l (ldw xs ys (a + 2 + i)))) (r5 s (tgB W xs ys s b l (ldw xs ys (a + 2 + i))) l p q)), .i (sgE W (tgX W xs ys s b l (ldw xs ys (a + 2 + i))) (tgY W xs ys s b l (ldw xs ys (a + 2 + i))) (ldw xs ys (a + 1)) i (tgT W xs ys s b l (ldw xs ys (a + 2 + i))))]) ∨ (((gE W xs ys a i) = 0) ∧ (¬ ((1 ≤ a / 4294967296 ∧ a / 4294967296 ≤ 2 ∧ a / 4294967296 - 1 = s) ∨ (ldw xs ys (a + 1)) = 0)) ∧ ((isPtr ((ldw xs ys a / 4294967296) % 16777216) (ldw xs ys a % 4294967296) i) = false) ∧ rv = .tup [.agg (mr W (sgX W xs ys (ldw xs ys (a + 1)) i (ldw xs ys (a + 2 + i))) (sgY W xs ys (ldw xs ys (a + 1)) i (ldw xs ys (a + 2 + i))) (r5 s b l p q)), .i (sgE W xs ys (ldw xs ys (a + 1)) i (ldw xs ys (a + 2 + i)))])) := by
 refine pub_of TT_ok Try.func15 rfl (by decide) (Nat.le_of_ble_eq_true (by kernel_rfl)) (by kernel_rfl) ?_
 refine rg [] 4 ⟨[(5, .i 0), (4, .p 2), (3, .p 1), (2, .p 0)], [(2, .cells z8 31), (1, .cells [.u a, .i i] 56), (0, .cells (mr W xs ys (r5 s b l p q)) 31)], 3⟩ [] trivial ?_
 refine xw_seq ?_
 refine reg ?_
 refine rk [] 6 0 ⟨[(17, .i i), (15, .u a), (13, .agg (mm W xs ys)), (5, .i 0), (4, .p 2), (3, .p 1), (2, .p 0)], [(2, .cells z8 31), (1, .cells [.u a, .i i] 56), (0, .cells (mr W xs ys (r5 s b l p q)) 31)], 3⟩ [True, True, True] ⟨trivial, trivial, trivial, trivial⟩ ?_
 by_cases h0 : ((oErr W xs ys a) = 0) ∧ ((ldw xs ys a / 72057594037927936) ≠ 255) ∧ (0 ≤ i ∧ i < ((ldw xs ys a / 4294967296) % 16777216))
 ·
  refine pc (oget_1 W xs ys a i ‹_› ‹_› ‹_› ‹_› ‹_› ‹_› ‹_› (by omega) (by omega) (by omega)) ?_
  obtain ⟨h1, h2, h3⟩ := oErr_ok W xs ys a (by omega)
  have h4 : 0 ≤ (ldw xs ys (a + 2 + i)) ∧ (ldw xs ys (a + 2 + i)) ≤ 18446744073709551615 := ldw_ok xs ys (a + 2 + i) ‹_› ‹_›
  have h5 : 1 ≤ (a + 2 + i) / 4294967296 ∧ (a + 2 + i) / 4294967296 ≤ 2 ∧ (a + 2 + i) % 4294967296 < W := by omega
  have h6 : (gE W xs ys a i) = 0 := gE_0 (by omega) (by omega) (by omega)
  refine rk [] 7 7 ⟨[(8, .i 0), (7, .bool (isPtr (hL xs ys a) (hM xs ys a) i)), (6, .u (ldw xs ys (a + 2 + i))), (5, .i 0), (4, .p 2), (3, .p 1), (2, .p 0)], [(2, .cells z8 31), (1, .cells [.u a, .i i] 56), (0, .cells (mr W xs ys (r5 s b l p q)) 31)], 3⟩ [] trivial ?_
  refine en ?_
  refine an ?_
  refine xw_seq ?_
  refine reg ?_
  refine rk [] 4 0 ⟨[(26, .u a), (24, .agg (mm W xs ys)), (8, .i 0), (7, .bool (isPtr (hL xs ys a) (hM xs ys a) i)), (6, .u (ldw xs ys (a + 2 + i))), (5, .i 0), (4, .p 2), (3, .p 1), (2, .p 0)], [(2, .cells z8 31), (1, .cells [.u a, .i i] 56), (0, .cells (mr W xs ys (r5 s b l p q)) 31)], 3⟩ [True, True] ⟨trivial, trivial, trivial⟩ ?_
  refine pc (otwin_1 W xs ys a ‹_› ‹_› ‹_› ‹_› ‹_› ‹_› (by omega) (by omega)) ?_
  have h7 : 0 ≤ (ldw xs ys (a + 1)) ∧ (ldw xs ys (a + 1)) ≤ 18446744073709551615 := ldw_ok xs ys (a + 1) ‹_› ‹_›
  have h8 : 1 ≤ (a + 1) / 4294967296 ∧ (a + 1) / 4294967296 ≤ 2 ∧ (a + 1) % 4294967296 < W := by omega
  refine rk [] 5 5 ⟨[(9, .u (ldw xs ys (a + 1))), (8, .i 0), (7, .bool (isPtr (hL xs ys a) (hM xs ys a) i)), (6, .u (ldw xs ys (a + 2 + i))), (5, .i 0), (4, .p 2), (3, .p 1), (2, .p 0)], [(2, .cells z8 31), (1, .cells [.u a, .i i] 56), (0, .cells (mr W xs ys (r5 s b l p q)) 31)], 3⟩ [] trivial ?_
  refine en ?_
  refine an ?_
  refine xw_seq ?_
  refine xw_block ?_
  refine xw_seq ?_
  refine xw_block ?_
  refine xw_block ?_
  refine xw_seq ?_
  refine xw_seq ?_
  refine xw_seq ?_
  refine reg ?_
  refine rk [(1, .t)] 6 0 ⟨[(36, .u a), (34, .agg (mr W xs ys (r5 s b l p q))), (33, .t), (9, .u (ldw xs ys (a + 1))), (8, .i 0), (7, .bool (isPtr (hL xs ys a) (hM xs ys a) i)), (6, .u (ldw xs ys (a + 2 + i))), (5, .i 0), (4, .p 2), (3, .p 1), (2, .p 0)], [(2, .cells z8 31), (1, .cells [.u a, .i i] 56), (0, .cells (mr W xs ys (r5 s b l p q)) 31)], 3⟩ [(0 == 0) = true, True, True] ⟨beq_iff_eq.2 (by omega), trivial, trivial, trivial⟩ ?_
  by_cases h9 : 1 ≤ a / 4294967296 ∧ a / 4294967296 ≤ 2 ∧ a / 4294967296 - 1 = s
  ·
   refine pc (rpover_1 W xs ys s b l p q a ‹_› ‹_› ‹_› ‹_› ‹_› ‹_› ‹_› ‹_› ‹_› (by omega)) ?_
   refine rk [] 6 7 ⟨[(30, .t), (9, .u (ldw xs ys (a + 1))), (8, .i 0), (7, .bool (isPtr (hL xs ys a) (hM xs ys a) i)), (6, .u (ldw xs ys (a + 2 + i))), (5, .i 0), (4, .p 2), (3, .p 1), (2, .p 0)], [(2, .cells z8 31), (1, .cells [.u a, .i i] 56), (0, .cells (mr W xs ys (r5 s b l p q)) 31)], 3⟩ [True, True] ⟨trivial, trivial, trivial⟩ ?_
   refine en ?_
   refine an ?_
   refine ct ?_
   refine xw_exit ?_
   refine an_exit ?_
   refine an_exit ?_
   refine ib_same ?_
   refine ib ?_
   refine an ?_
   refine xw_seq ?_
   refine rg [] 4 ⟨[(5, .i 0), (9, .u (ldw xs ys (a + 1))), (7, .bool (isPtr (hL xs ys a) (hM xs ys a) i)), (6, .u (ldw xs ys (a + 2 + i))), (4, .p 2), (3, .p 1), (2, .p 0)], [(2, .cells (mr W xs ys (r5 s b l p q)) 31), (1, .cells [.u a, .i i] 56), (0, .cells (mr W xs ys (r5 s b l p q)) 31)], 3⟩ [True, True] ⟨trivial, trivial, trivial⟩ ?_
   refine xw_ret ?_
   refine an_ret ?_
   refine ib_ret ?_
   refine an_ret ?_
   exact bs (.tup [.agg (mr W xs ys (r5 s b l p q)), .i 0]) (Or.inr <| Or.inl <| ⟨(by omega), (by omega), rfl⟩)
  ·
   refine pc (rpover_2 W xs ys s b l p q a ‹_› ‹_› ‹_› ‹_› ‹_› ‹_› ‹_› ‹_› ‹_› (by omega)) ?_
   refine rk [(9, .bool ((ldw xs ys (a + 1)) == 0))] 6 7 ⟨[(30, .bool ((ldw xs ys (a + 1)) == 0)), (9, .u (ldw xs ys (a + 1))), (8, .i 0), (7, .bool (isPtr (hL xs ys a) (hM xs ys a) i)), (6, .u (ldw xs ys (a + 2 + i))), (5, .i 0), (4, .p 2), (3, .p 1), (2, .p 0)], [(2, .cells z8 31), (1, .cells [.u a, .i i] 56), (0, .cells (mr W xs ys (r5 s b l p q)) 31)], 3⟩ [((ldw xs ys (a + 1)) == 0) = ((ldw xs ys (a + 1)) == 0), True, True] ⟨rfl, trivial, trivial, trivial⟩ ?_
   refine en ?_
   refine an ?_
   refine xw_cond (b := ((ldw xs ys (a + 1)) == 0)) (by kernel_rfl) (fun h10 => ?_) (fun h10 => ?_)
   ·
    replace h10 : (ldw xs ys (a + 1)) = 0 := eq_of_beq h10
    refine xw_exit ?_
    refine an_exit ?_
    refine an_exit ?_
    refine ib_same ?_
    refine ib ?_
    refine an ?_
    refine xw_seq ?_
    refine rg [] 4 ⟨[(5, .i 0), (9, .u (ldw xs ys (a + 1))), (7, .bool (isPtr (hL xs ys a) (hM xs ys a) i)), (6, .u (ldw xs ys (a + 2 + i))), (4, .p 2), (3, .p 1), (2, .p 0)], [(2, .cells (mr W xs ys (r5 s b l p q)) 31), (1, .cells [.u a, .i i] 56), (0, .cells (mr W xs ys (r5 s b l p q)) 31)], 3⟩ [True, True] ⟨trivial, trivial, trivial⟩ ?_
    refine xw_ret ?_
    refine an_ret ?_
    refine ib_ret ?_
    refine an_ret ?_
    exact bs (.tup [.agg (mr W xs ys (r5 s b l p q)), .i 0]) (Or.inr <| Or.inl <| ⟨(by omega), (by omega), rfl⟩)
   ·
    replace h10 : (ldw xs ys (a + 1)) ≠ 0 := ne_of_beq_false h10
    refine xw_skip ?_
    refine an ?_
    refine rg [(1, .f)] 3 ⟨[(43, .f), (9, .u (ldw xs ys (a + 1))), (8, .i 0), (7, .bool (isPtr (hL xs ys a) (hM xs ys a) i)), (6, .u (ldw xs ys (a + 2 + i))), (5, .i 0), (4, .p 2), (3, .p 1), (2, .p 0)], [(2, .cells z8 31), (1, .cells [.u a, .i i] 56), (0, .cells (mr W xs ys (r5 s b l p q)) 31)], 3⟩ [(0 != 0) = false] ⟨bne_eq_false_iff_eq.2 (by omega), trivial⟩ ?_
    refine cf ?_
    refine xw_skip ?_
    refine an ?_
    refine xw_exit ?_
    refine ib_exit (by kernel_rfl) ?_
    refine ib_exit (by kernel_rfl) ?_
    refine an_exit ?_
    refine ib_same ?_
    refine an ?_
    refine xw_seq ?_
    refine rg [] 1 ⟨[(48, .bool (isPtr (hL xs ys a) (hM xs ys a) i)), (9, .u (ldw xs ys (a + 1))), (6, .u (ldw xs ys (a + 2 + i))), (5, .i 0), (4, .p 2), (3, .p 1), (2, .p 0)], [(2, .cells z8 31), (1, .cells [.u a, .i i] 56), (0, .cells (mr W xs ys (r5 s b l p q)) 31)], 3⟩ [] trivial ?_
    refine xw_cond (b := (isPtr ((ldw xs ys a / 4294967296) % 16777216) (ldw xs ys a % 4294967296) i)) (by kernel_rfl) (fun h11 => ?_) (fun h11 => ?_)
    ·
     replace h11 : isPtr ((ldw xs ys a / 4294967296) % 16777216) (ldw xs ys a % 4294967296) i = true := h11
     refine xw_seq ?_
     refine reg ?_
     refine rk [] 2 0 ⟨[(51, .u (ldw xs ys (a + 2 + i))), (50, .agg (mr W xs ys (r5 s b l p q))), (9, .u (ldw xs ys (a + 1))), (6, .u (ldw xs ys (a + 2 + i))), (5, .i 0), (4, .p 2), (3, .p 1), (2, .p 0)], [(2, .cells z8 31), (1, .cells [.u a, .i i] 56), (0, .cells (mr W xs ys (r5 s b l p q)) 31)], 3⟩ [True] ⟨trivial, trivial⟩ ?_
     refine pc (ttoF W xs ys s b l p q (ldw xs ys (a + 2 + i)) ‹_› ‹_› ‹_› ‹_› ‹_› ‹_› ‹_› ‹_› ‹_›) ?_
     obtain ⟨h12, h13, h14, h15, h16, h17, h18⟩ := tg_ok W xs ys s b l (ldw xs ys (a + 2 + i)) ‹_› ‹_› ‹_› ‹_› (by omega) (by omega) (by omega)
     refine rk [] 7 3 ⟨[(8, .i (tgE W xs ys s b l (ldw xs ys (a + 2 + i)))), (6, .u (tgT W xs ys s b l (ldw xs ys (a + 2 + i)))), (9, .u (ldw xs ys (a + 1))), (5, .i 0), (4, .p 2), (3, .p 1), (2, .p 0)], [(2, .cells z8 31), (1, .cells [.u a, .i i] 56), (0, .cells (mr W (tgX W xs ys s b l (ldw xs ys (a + 2 + i))) (tgY W xs ys s b l (ldw xs ys (a + 2 + i))) (r5 s (tgB W xs ys s b l (ldw xs ys (a + 2 + i))) l p q)) 31)], 3⟩ [True] ⟨trivial, trivial⟩ ?_
     refine en ?_
     refine an ?_
     refine rg [(1, .bool ((tgE W xs ys s b l (ldw xs ys (a + 2 + i))) != 0))] 2 ⟨[(57, .bool ((tgE W xs ys s b l (ldw xs ys (a + 2 + i))) != 0)), (8, .i (tgE W xs ys s b l (ldw xs ys (a + 2 + i)))), (6, .u (tgT W xs ys s b l (ldw xs ys (a + 2 + i)))), (9, .u (ldw xs ys (a + 1))), (5, .i 0), (4, .p 2), (3, .p 1), (2, .p 0)], [(2, .cells z8 31), (1, .cells [.u a, .i i] 56), (0, .cells (mr W (tgX W xs ys s b l (ldw xs ys (a + 2 + i))) (tgY W xs ys s b l (ldw xs ys (a + 2 + i))) (r5 s (tgB W xs ys s b l (ldw xs ys (a + 2 + i))) l p q)) 31)], 3⟩ [((tgE W xs ys s b l (ldw xs ys (a + 2 + i))) != 0) = ((tgE W xs ys s b l (ldw xs ys (a + 2 + i))) != 0)] ⟨rfl, trivial⟩ ?_
     refine xw_cond (b := ((tgE W xs ys s b l (ldw xs ys (a + 2 + i))) != 0)) (by kernel_rfl) (fun h19 => ?_) (fun h19 => ?_)
     ·
      replace h19 : (tgE W xs ys s b l (ldw xs ys (a + 2 + i))) ≠ 0 := bne_iff_ne.1 h19
      refine rg [] 4 ⟨[(5, .i (tgE W xs ys s b l (ldw xs ys (a + 2 + i)))), (6, .u (tgT W xs ys s b l (ldw xs ys (a + 2 + i)))), (9, .u (ldw xs ys (a + 1))), (4, .p 2), (3, .p 1), (2, .p 0)], [(2, .cells (mr W (tgX W xs ys s b l (ldw xs ys (a + 2 + i))) (tgY W xs ys s b l (ldw xs ys (a + 2 + i))) (r5 s (tgB W xs ys s b l (ldw xs ys (a + 2 + i))) l p q)) 31), (1, .cells [.u a, .i i] 56), (0, .cells (mr W (tgX W xs ys s b l (ldw xs ys (a + 2 + i))) (tgY W xs ys s b l (ldw xs ys (a + 2 + i))) (r5 s (tgB W xs ys s b l (ldw xs ys (a + 2 + i))) l p q)) 31)], 3⟩ [True, True] ⟨trivial, trivial, trivial⟩ ?_
      refine xw_ret ?_
      refine an_ret ?_
      exact bs (.tup [.agg (mr W (tgX W xs ys s b l (ldw xs ys (a + 2 + i))) (tgY W xs ys s b l (ldw xs ys (a + 2 + i))) (r5 s (tgB W xs ys s b l (ldw xs ys (a + 2 + i))) l p q)), .i (tgE W xs ys s b l (ldw xs ys (a + 2 + i)))]) (Or.inr <| Or.inr <| Or.inl <| ⟨(by omega), (by omega), (by omega), (by omega), rfl⟩)
     ·
      replace h19 : (tgE W xs ys s b l (ldw xs ys (a + 2 + i))) = 0 := bne_eq_false_iff_eq.1 h19
      refine xw_skip ?_
      refine an ?_
      refine xw_seq ?_
      refine reg ?_
      refine rk [] 6 0 ⟨[(66, .u (tgT W xs ys s b l (ldw xs ys (a + 2 + i)))), (65, .i i), (63, .u (ldw xs ys (a + 1))), (62, .agg (mm W (tgX W xs ys s b l (ldw xs ys (a + 2 + i))) (tgY W xs ys s b l (ldw xs ys (a + 2 + i))))), (8, .i (tgE W xs ys s b l (ldw xs ys (a + 2 + i)))), (5, .i 0), (4, .p 2), (2, .p 0)], [(2, .cells z8 31), (0, .cells (mr W (tgX W xs ys s b l (ldw xs ys (a + 2 + i))) (tgY W xs ys s b l (ldw xs ys (a + 2 + i))) (r5 s (tgB W xs ys s b l (ldw xs ys (a + 2 + i))) l p q)) 31)], 3⟩ [True, True] ⟨trivial, trivial, trivial⟩ ?_
      refine pc (osetF W (tgX W xs ys s b l (ldw xs ys (a + 2 + i))) (tgY W xs ys s b l (ldw xs ys (a + 2 + i))) (ldw xs ys (a + 1)) i (tgT W xs ys s b l (ldw xs ys (a + 2 + i))) ‹_› ‹_› ‹_› ‹_› ‹_› ‹_› ‹_› ‹_›) ?_
      obtain ⟨h20, h21, h22, h23, h24⟩ := sg_ok W (tgX W xs ys s b l (ldw xs ys (a + 2 + i))) (tgY W xs ys s b l (ldw xs ys (a + 2 + i))) (ldw xs ys (a + 1)) i (tgT W xs ys s b l (ldw xs ys (a + 2 + i))) ‹_› ‹_› ‹_› ‹_› (by omega)
      refine rk [] 6 7 ⟨[(8, .i (sgE W (tgX W xs ys s b l (ldw xs ys (a + 2 + i))) (tgY W xs ys s b l (ldw xs ys (a + 2 + i))) (ldw xs ys (a + 1)) i (tgT W xs ys s b l (ldw xs ys (a + 2 + i))))), (5, .i 0), (4, .p 2), (2, .p 0)], [(2, .cells z8 31), (0, .cells (mr W (sgX W (tgX W xs ys s b l (ldw xs ys (a + 2 + i))) (tgY W xs ys s b l (ldw xs ys (a + 2 + i))) (ldw xs ys (a + 1)) i (tgT W xs ys s b l (ldw xs ys (a + 2 + i)))) (sgY W (tgX W xs ys s b l (ldw xs ys (a + 2 + i))) (tgY W xs ys s b l (ldw xs ys (a + 2 + i))) (ldw xs ys (a + 1)) i (tgT W xs ys s b l (ldw xs ys (a + 2 + i)))) (r5 s (tgB W xs ys s b l (ldw xs ys (a + 2 + i))) l p q)) 31)], 3⟩ [True] ⟨trivial, trivial⟩ ?_
      refine en ?_
      refine an ?_
      refine rg [] 4 ⟨[(5, .i (sgE W (tgX W xs ys s b l (ldw xs ys (a + 2 + i))) (tgY W xs ys s b l (ldw xs ys (a + 2 + i))) (ldw xs ys (a + 1)) i (tgT W xs ys s b l (ldw xs ys (a + 2 + i))))), (4, .p 2)], [(2, .cells (mr W (sgX W (tgX W xs ys s b l (ldw xs ys (a + 2 + i))) (tgY W xs ys s b l (ldw xs ys (a + 2 + i))) (ldw xs ys (a + 1)) i (tgT W xs ys s b l (ldw xs ys (a + 2 + i)))) (sgY W (tgX W xs ys s b l (ldw xs ys (a + 2 + i))) (tgY W xs ys s b l (ldw xs ys (a + 2 + i))) (ldw xs ys (a + 1)) i (tgT W xs ys s b l (ldw xs ys (a + 2 + i)))) (r5 s (tgB W xs ys s b l (ldw xs ys (a + 2 + i))) l p q)) 31)], 3⟩ [True, True] ⟨trivial, trivial, trivial⟩ ?_
      refine xw_ret ?_
      exact bs (.tup [.agg (mr W (sgX W (tgX W xs ys s b l (ldw xs ys (a + 2 + i))) (tgY W xs ys s b l (ldw xs ys (a + 2 + i))) (ldw xs ys (a + 1)) i (tgT W xs ys s b l (ldw xs ys (a + 2 + i)))) (sgY W (tgX W xs ys s b l (ldw xs ys (a + 2 + i))) (tgY W xs ys s b l (ldw xs ys (a + 2 + i))) (ldw xs ys (a + 1)) i (tgT W xs ys s b l (ldw xs ys (a + 2 + i)))) (r5 s (tgB W xs ys s b l (ldw xs ys (a + 2 + i))) l p q)), .i (sgE W (tgX W xs ys s b l (ldw xs ys (a + 2 + i))) (tgY W xs ys s b l (ldw xs ys (a + 2 + i))) (ldw xs ys (a + 1)) i (tgT W xs ys s b l (ldw xs ys (a + 2 + i))))]) (Or.inr <| Or.inr <| Or.inr <| Or.inl <| ⟨(by omega), (by omega), (by omega), (by omega), rfl⟩)
    ·
     replace h11 : isPtr ((ldw xs ys a / 4294967296) % 16777216) (ldw xs ys a % 4294967296) i = false := h11
     refine xw_skip ?_
     refine an ?_
     refine xw_seq ?_
     refine reg ?_
     refine rk [] 6 0 ⟨[(66, .u (ldw xs ys (a + 2 + i))), (65, .i i), (63, .u (ldw xs ys (a + 1))), (62, .agg (mm W xs ys)), (5, .i 0), (4, .p 2), (2, .p 0)], [(2, .cells z8 31), (0, .cells (mr W xs ys (r5 s b l p q)) 31)], 3⟩ [True, True] ⟨trivial, trivial, trivial⟩ ?_
     refine pc (osetF W xs ys (ldw xs ys (a + 1)) i (ldw xs ys (a + 2 + i)) ‹_› ‹_› ‹_› ‹_› ‹_› ‹_› ‹_› ‹_›) ?_
     obtain ⟨h12, h13, h14, h15, h16⟩ := sg_ok W xs ys (ldw xs ys (a + 1)) i (ldw xs ys (a + 2 + i)) ‹_› ‹_› ‹_› ‹_› (by omega)
     refine rk [] 6 7 ⟨[(8, .i (sgE W xs ys (ldw xs ys (a + 1)) i (ldw xs ys (a + 2 + i)))), (5, .i 0), (4, .p 2), (2, .p 0)], [(2, .cells z8 31), (0, .cells (mr W (sgX W xs ys (ldw xs ys (a + 1)) i (ldw xs ys (a + 2 + i))) (sgY W xs ys (ldw xs ys (a + 1)) i (ldw xs ys (a + 2 + i))) (r5 s b l p q)) 31)], 3⟩ [True] ⟨trivial, trivial⟩ ?_
     refine en ?_
     refine an ?_
     refine rg [] 4 ⟨[(5, .i (sgE W xs ys (ldw xs ys (a + 1)) i (ldw xs ys (a + 2 + i)))), (4, .p 2)], [(2, .cells (mr W (sgX W xs ys (ldw xs ys (a + 1)) i (ldw xs ys (a + 2 + i))) (sgY W xs ys (ldw xs ys (a + 1)) i (ldw xs ys (a + 2 + i))) (r5 s b l p q)) 31)], 3⟩ [True, True] ⟨trivial, trivial, trivial⟩ ?_
     refine xw_ret ?_
     exact bs (.tup [.agg (mr W (sgX W xs ys (ldw xs ys (a + 1)) i (ldw xs ys (a + 2 + i))) (sgY W xs ys (ldw xs ys (a + 1)) i (ldw xs ys (a + 2 + i))) (r5 s b l p q)), .i (sgE W xs ys (ldw xs ys (a + 1)) i (ldw xs ys (a + 2 + i)))]) (Or.inr <| Or.inr <| Or.inr <| Or.inr <| ⟨(by omega), (by omega), (by omega), rfl⟩)
 ·
  by_cases h1 : ((oErr W xs ys a) = 0) ∧ ((ldw xs ys a / 72057594037927936) ≠ 255) ∧ (¬ (0 ≤ i ∧ i < ((ldw xs ys a / 4294967296) % 16777216)))
  ·
   refine pc (oget_2 W xs ys a i ‹_› ‹_› ‹_› ‹_› ‹_› ‹_› ‹_› (by omega) (by omega) (by omega)) ?_
   obtain ⟨h2, h3, h4⟩ := oErr_ok W xs ys a (by omega)
   have h5 : (gE W xs ys a i) = 7 := gE_7 (by omega) (by omega) (by omega)
   refine rk [] 7 7 ⟨[(8, .i 7), (7, .f), (6, .u 0), (5, .i 0), (4, .p 2), (3, .p 1), (2, .p 0)], [(2, .cells z8 31), (1, .cells [.u a, .i i] 56), (0, .cells (mr W xs ys (r5 s b l p q)) 31)], 3⟩ [] trivial ?_
   refine en ?_
   refine an ?_
   refine xw_seq ?_
   refine reg ?_
   refine rk [] 4 0 ⟨[(26, .u a), (24, .agg (mm W xs ys)), (8, .i 7), (7, .f), (6, .u 0), (5, .i 0), (4, .p 2), (3, .p 1), (2, .p 0)], [(2, .cells z8 31), (1, .cells [.u a, .i i] 56), (0, .cells (mr W xs ys (r5 s b l p q)) 31)], 3⟩ [True, True] ⟨trivial, trivial, trivial⟩ ?_
   refine pc (otwin_1 W xs ys a ‹_› ‹_› ‹_› ‹_› ‹_› ‹_› (by omega) (by omega)) ?_
   have h6 : 0 ≤ (ldw xs ys (a + 1)) ∧ (ldw xs ys (a + 1)) ≤ 18446744073709551615 := ldw_ok xs ys (a + 1) ‹_› ‹_›
   have h7 : 1 ≤ (a + 1) / 4294967296 ∧ (a + 1) / 4294967296 ≤ 2 ∧ (a + 1) % 4294967296 < W := by omega
   refine rk [] 5 5 ⟨[(9, .u (ldw xs ys (a + 1))), (8, .i 7), (7, .f), (6, .u 0), (5, .i 0), (4, .p 2), (3, .p 1), (2, .p 0)], [(2, .cells z8 31), (1, .cells [.u a, .i i] 56), (0, .cells (mr W xs ys (r5 s b l p q)) 31)], 3⟩ [] trivial ?_
   refine en ?_
   refine an ?_
   refine xw_seq ?_
   refine xw_block ?_
   refine xw_seq ?_
   refine xw_block ?_
   refine xw_block ?_
   refine xw_seq ?_
   refine xw_seq ?_
   refine rg [(1, .f)] 13 ⟨[(30, .f), (9, .u (ldw xs ys (a + 1))), (8, .i 7), (7, .f), (6, .u 0), (5, .i 0), (4, .p 2), (3, .p 1), (2, .p 0)], [(2, .cells z8 31), (1, .cells [.u a, .i i] 56), (0, .cells (mr W xs ys (r5 s b l p q)) 31)], 3⟩ [(7 == 0) = false, True] ⟨beq_eq_false_iff_ne.2 (by omega), trivial, trivial⟩ ?_
   refine cf ?_
   refine xw_skip ?_
   refine an ?_
   refine rg [(1, .t)] 3 ⟨[(43, .t), (9, .u (ldw xs ys (a + 1))), (8, .i 7), (7, .f), (6, .u 0), (5, .i 0), (4, .p 2), (3, .p 1), (2, .p 0)], [(2, .cells z8 31), (1, .cells [.u a, .i i] 56), (0, .cells (mr W xs ys (r5 s b l p q)) 31)], 3⟩ [(7 != 0) = true] ⟨bne_iff_ne.2 (by omega), trivial⟩ ?_
   refine ct ?_
   refine xw_exit ?_
   refine an_exit ?_
   refine ib_exit (by kernel_rfl) ?_
   refine ib_same ?_
   refine an ?_
   refine xw_seq ?_
   refine rg [] 4 ⟨[(5, .i 7), (9, .u (ldw xs ys (a + 1))), (7, .f), (6, .u 0), (4, .p 2), (3, .p 1), (2, .p 0)], [(2, .cells (mr W xs ys (r5 s b l p q)) 31), (1, .cells [.u a, .i i] 56), (0, .cells (mr W xs ys (r5 s b l p q)) 31)], 3⟩ [True, True] ⟨trivial, trivial, trivial⟩ ?_
   refine xw_ret ?_
   refine an_ret ?_
   refine ib_ret ?_
   refine an_ret ?_
   exact br (.tup [.agg (mr W xs ys (r5 s b l p q)), .i 7]) (.tup [.agg (mr W xs ys (r5 s b l p q)), .i (gE W xs ys a i)]) (wkd [(W : Int) = W, (false = true → false = true), (m64 xs) = (m64 xs), (false = true → false = true), (m64 ys) = (m64 ys), (s : Int) = s, (b : Int) = b, (l : Int) = l, (p : Int) = p, (q : Int) = q, (7 : Int) = (gE W xs ys a i)] (by kernel_rfl) ⟨rfl, id, rfl, id, rfl, rfl, rfl, rfl, rfl, rfl, (by omega), trivial⟩) (Or.inl <| ⟨(by omega), rfl⟩)
  ·
   by_cases h2 : ((oErr W xs ys a) = 0) ∧ ((ldw xs ys a / 72057594037927936) = 255)
   ·
    refine pc (oget_3 W xs ys a i ‹_› ‹_› ‹_› ‹_› ‹_› ‹_› ‹_› (by omega) (by omega)) ?_
    obtain ⟨h3, h4, h5⟩ := oErr_ok W xs ys a (by omega)
    have h6 : (gE W xs ys a i) = 8 := gE_8 (by omega) (by omega)
    refine rk [] 7 7 ⟨[(8, .i 8), (7, .f), (6, .u 0), (5, .i 0), (4, .p 2), (3, .p 1), (2, .p 0)], [(2, .cells z8 31), (1, .cells [.u a, .i i] 56), (0, .cells (mr W xs ys (r5 s b l p q)) 31)], 3⟩ [] trivial ?_
    refine en ?_
    refine an ?_
    refine xw_seq ?_
    refine reg ?_
    refine rk [] 4 0 ⟨[(26, .u a), (24, .agg (mm W xs ys)), (8, .i 8), (7, .f), (6, .u 0), (5, .i 0), (4, .p 2), (3, .p 1), (2, .p 0)], [(2, .cells z8 31), (1, .cells [.u a, .i i] 56), (0, .cells (mr W xs ys (r5 s b l p q)) 31)], 3⟩ [True, True] ⟨trivial, trivial, trivial⟩ ?_
    refine pc (otwin_2 W xs ys a ‹_› ‹_› ‹_› ‹_› ‹_› ‹_› (by omega) (by omega)) ?_
    refine rk [] 5 5 ⟨[(9, .u 0), (8, .i 8), (7, .f), (6, .u 0), (5, .i 0), (4, .p 2), (3, .p 1), (2, .p 0)], [(2, .cells z8 31), (1, .cells [.u a, .i i] 56), (0, .cells (mr W xs ys (r5 s b l p q)) 31)], 3⟩ [] trivial ?_
    refine en ?_
    refine an ?_
    refine xw_seq ?_
    refine xw_block ?_
    refine xw_seq ?_
    refine xw_block ?_
    refine xw_block ?_
    refine xw_seq ?_
    refine xw_seq ?_
    refine rg [(1, .f)] 13 ⟨[(30, .f), (9, .u 0), (8, .i 8), (7, .f), (6, .u 0), (5, .i 0), (4, .p 2), (3, .p 1), (2, .p 0)], [(2, .cells z8 31), (1, .cells [.u a, .i i] 56), (0, .cells (mr W xs ys (r5 s b l p q)) 31)], 3⟩ [(8 == 0) = false, True] ⟨beq_eq_false_iff_ne.2 (by omega), trivial, trivial⟩ ?_
    refine cf ?_
    refine xw_skip ?_
    refine an ?_
    refine rg [(1, .t)] 3 ⟨[(43, .t), (9, .u 0), (8, .i 8), (7, .f), (6, .u 0), (5, .i 0), (4, .p 2), (3, .p 1), (2, .p 0)], [(2, .cells z8 31), (1, .cells [.u a, .i i] 56), (0, .cells (mr W xs ys (r5 s b l p q)) 31)], 3⟩ [(8 != 0) = true] ⟨bne_iff_ne.2 (by omega), trivial⟩ ?_
    refine ct ?_
    refine xw_exit ?_
    refine an_exit ?_
    refine ib_exit (by kernel_rfl) ?_
    refine ib_same ?_
    refine an ?_
    refine xw_seq ?_
    refine rg [] 4 ⟨[(5, .i 8), (9, .u 0), (7, .f), (6, .u 0), (4, .p 2), (3, .p 1), (2, .p 0)], [(2, .cells (mr W xs ys (r5 s b l p q)) 31), (1, .cells [.u a, .i i] 56), (0, .cells (mr W xs ys (r5 s b l p q)) 31)], 3⟩ [True, True] ⟨trivial, trivial, trivial⟩ ?_
    refine xw_ret ?_
    refine an_ret ?_
    refine ib_ret ?_
    refine an_ret ?_
    exact br (.tup [.agg (mr W xs ys (r5 s b l p q)), .i 8]) (.tup [.agg (mr W xs ys (r5 s b l p q)), .i (gE W xs ys a i)]) (wkd [(W : Int) = W, (false = true → false = true), (m64 xs) = (m64 xs), (false = true → false = true), (m64 ys) = (m64 ys), (s : Int) = s, (b : Int) = b, (l : Int) = l, (p : Int) = p, (q : Int) = q, (8 : Int) = (gE W xs ys a i)] (by kernel_rfl) ⟨rfl, id, rfl, id, rfl, rfl, rfl, rfl, rfl, rfl, (by omega), trivial⟩) (Or.inl <| ⟨(by omega), rfl⟩)
   ·
    refine pc (oget_4 W xs ys a i ‹_› ‹_› ‹_› ‹_› ‹_› ‹_› ‹_› (by omega)) ?_
    have h3 : (oErr W xs ys a) = 2 ∨ (oErr W xs ys a) = 10 := oErr_no W xs ys a (by omega)
    have h4 : (gE W xs ys a i) = (oErr W xs ys a) := gE_e (by omega)
    refine rk [] 7 7 ⟨[(8, .i (oErr W xs ys a)), (7, .f), (6, .u 0), (5, .i 0), (4, .p 2), (3, .p 1), (2, .p 0)], [(2, .cells z8 31), (1, .cells [.u a, .i i] 56), (0, .cells (mr W xs ys (r5 s b l p q)) 31)], 3⟩ [] trivial ?_
    refine en ?_
    refine an ?_
    refine xw_seq ?_
    refine reg ?_
    refine rk [] 4 0 ⟨[(26, .u a), (24, .agg (mm W xs ys)), (8, .i (oErr W xs ys a)), (7, .f), (6, .u 0), (5, .i 0), (4, .p 2), (3, .p 1), (2, .p 0)], [(2, .cells z8 31), (1, .cells [.u a, .i i] 56), (0, .cells (mr W xs ys (r5 s b l p q)) 31)], 3⟩ [True, True] ⟨trivial, trivial, trivial⟩ ?_
    refine pc (otwin_3 W xs ys a ‹_› ‹_› ‹_› ‹_› ‹_› ‹_› (by omega)) ?_
    refine rk [] 5 5 ⟨[(9, .u 0), (8, .i (oErr W xs ys a)), (7, .f), (6, .u 0), (5, .i 0), (4, .p 2), (3, .p 1), (2, .p 0)], [(2, .cells z8 31), (1, .cells [.u a, .i i] 56), (0, .cells (mr W xs ys (r5 s b l p q)) 31)], 3⟩ [] trivial ?_
    refine en ?_
    refine an ?_
    refine xw_seq ?_
    refine xw_block ?_
    refine xw_seq ?_
    refine xw_block ?_
    refine xw_block ?_
    refine xw_seq ?_
    refine xw_seq ?_
    refine rg [(1, .f)] 13 ⟨[(30, .f), (9, .u 0), (8, .i (oErr W xs ys a)), (7, .f), (6, .u 0), (5, .i 0), (4, .p 2), (3, .p 1), (2, .p 0)], [(2, .cells z8 31), (1, .cells [.u a, .i i] 56), (0, .cells (mr W xs ys (r5 s b l p q)) 31)], 3⟩ [((oErr W xs ys a) == 0) = false, True] ⟨beq_eq_false_iff_ne.2 (by omega), trivial, trivial⟩ ?_
    refine cf ?_
    refine xw_skip ?_
    refine an ?_
    refine rg [(1, .t)] 3 ⟨[(43, .t), (9, .u 0), (8, .i (oErr W xs ys a)), (7, .f), (6, .u 0), (5, .i 0), (4, .p 2), (3, .p 1), (2, .p 0)], [(2, .cells z8 31), (1, .cells [.u a, .i i] 56), (0, .cells (mr W xs ys (r5 s b l p q)) 31)], 3⟩ [((oErr W xs ys a) != 0) = true] ⟨bne_iff_ne.2 (by omega), trivial⟩ ?_
    refine ct ?_
    refine xw_exit ?_
    refine an_exit ?_
    refine ib_exit (by kernel_rfl) ?_
    refine ib_same ?_
    refine an ?_
    refine xw_seq ?_
    refine rg [] 4 ⟨[(5, .i (oErr W xs ys a)), (9, .u 0), (7, .f), (6, .u 0), (4, .p 2), (3, .p 1), (2, .p 0)], [(2, .cells (mr W xs ys (r5 s b l p q)) 31), (1, .cells [.u a, .i i] 56), (0, .cells (mr W xs ys (r5 s b l p q)) 31)], 3⟩ [True, True] ⟨trivial, trivial, trivial⟩ ?_
    refine xw_ret ?_
    refine an_ret ?_
    refine ib_ret ?_
    refine an_ret ?_
    exact br (.tup [.agg (mr W xs ys (r5 s b l p q)), .i (oErr W xs ys a)]) (.tup [.agg (mr W xs ys (r5 s b l p q)), .i (gE W xs ys a i)]) (wkd [(W : Int) = W, (false = true → false = true), (m64 xs) = (m64 xs), (false = true → false = true), (m64 ys) = (m64 ys), (s : Int) = s, (b : Int) = b, (l : Int) = l, (p : Int) = p, (q : Int) = q, ((oErr W xs ys a) : Int) = (gE W xs ys a i)] (by kernel_rfl) ⟨rfl, id, rfl, id, rfl, rfl, rfl, rfl, rfl, rfl, (by omega), trivial⟩) (Or.inl <| ⟨(by omega), rfl⟩)

theorem roneF (W : Int) (xs ys : List Int) (s b l p q a i : Int) (hp0 : 16 ≤ W ∧ W ≤ 4096) (hp1 : (xs.length : Int) = W) (hp2 : (ys.length : Int) = W) (hp3 : U64s xs) (hp4 : U64s ys) (hp5 : (s = 0 ∨ s = 1) ∧ 0 ≤ b ∧ b ≤ l ∧ l ≤ 4096) (hp6 : l = W) (hp7 : 0 ≤ p ∧ p ≤ q ∧ q ≤ b) (hp8 : 0 ≤ a ∧ a ≤ 18446744073709551615) (hp9 : -9223372036854775808 ≤ i ∧ i ≤ 9223372036854775807) : Pub Try.prog 15 [.agg (mr W xs ys (r5 s b l p q)), .agg [.u a, .i i]] (fun rv => rv = .tup [.agg (mr W (rX W xs ys s b l a i) (rY W xs ys s b l a i) (r5 s (rB W xs ys s b l a i) l p q)), .i (rE W xs ys s b l a i)]) := by
  refine (rone W xs ys s b l p q a i hp0 hp1 hp2 hp3 hp4 hp5 hp6 hp7 hp8 hp9).mono ?_
  rintro _ (⟨g0, rfl⟩ | ⟨g0, g1, rfl⟩ | ⟨g0, g1, g2, g3, rfl⟩ | ⟨g0, g1, g2, g3, rfl⟩ | ⟨g0, g1, g2, rfl⟩)
  · obtain ⟨e1, e2, e3, e4⟩ := r_of (W := W) (xs := xs) (ys := ys) (s := s) (b := b) (l := l) (a := a) (i := i) (X := xs) (Y := ys) (B := b) (E := (gE W xs ys a i)) (by unfold roR; dsimp only; repeat' (first | rw [if_pos (by first | assumption | omega)] | rw [if_neg (by first | assumption | omega | simp_all)]); try rfl)
    rw [e1, e2, e3, e4]
  · obtain ⟨e1, e2, e3, e4⟩ := r_of (W := W) (xs := xs) (ys := ys) (s := s) (b := b) (l := l) (a := a) (i := i) (X := xs) (Y := ys) (B := b) (E := 0) (by unfold roR; dsimp only; repeat' (first | rw [if_pos (by first | assumption | omega)] | rw [if_neg (by first | assumption | omega | simp_all)]); try rfl)
    rw [e1, e2, e3, e4]
  · obtain ⟨e1, e2, e3, e4⟩ := r_of (W := W) (xs := xs) (ys := ys) (s := s) (b := b) (l := l) (a := a) (i := i) (X := (tgX W xs ys s b l (ldw xs ys (a + 2 + i)))) (Y := (tgY W xs ys s b l (ldw xs ys (a + 2 + i)))) (B := (tgB W xs ys s b l (ldw xs ys (a + 2 + i)))) (E := (tgE W xs ys s b l (ldw xs ys (a + 2 + i)))) (by unfold roR; dsimp only; repeat' (first | rw [if_pos (by first | assumption | omega)] | rw [if_neg (by first | assumption | omega | simp_all)]); try rfl)
    rw [e1, e2, e3, e4]
  · obtain ⟨e1, e2, e3, e4⟩ := r_of (W := W) (xs := xs) (ys := ys) (s := s) (b := b) (l := l) (a := a) (i := i) (X := (sgX W (tgX W xs ys s b l (ldw xs ys (a + 2 + i))) (tgY W xs ys s b l (ldw xs ys (a + 2 + i))) (ldw xs ys (a + 1)) i (tgT W xs ys s b l (ldw xs ys (a + 2 + i))))) (Y := (sgY W (tgX W xs ys s b l (ldw xs ys (a + 2 + i))) (tgY W xs ys s b l (ldw xs ys (a + 2 + i))) (ldw xs ys (a + 1)) i (tgT W xs ys s b l (ldw xs ys (a + 2 + i))))) (B := (tgB W xs ys s b l (ldw xs ys (a + 2 + i)))) (E := (sgE W (tgX W xs ys s b l (ldw xs ys (a + 2 + i))) (tgY W xs ys s b l (ldw xs ys (a + 2 + i))) (ldw xs ys (a + 1)) i (tgT W xs ys s b l (ldw xs ys (a + 2 + i))))) (by unfold roR; dsimp only; repeat' (first | rw [if_pos (by first | assumption | omega)] | rw [if_neg (by first | assumption | omega | simp_all)]); try rfl)
    rw [e1, e2, e3, e4]
  · obtain ⟨e1, e2, e3, e4⟩ := r_of (W := W) (xs := xs) (ys := ys) (s := s) (b := b) (l := l) (a := a) (i := i) (X := (sgX W xs ys (ldw xs ys (a + 1)) i (ldw xs ys (a + 2 + i)))) (Y := (sgY W xs ys (ldw xs ys (a + 1)) i (ldw xs ys (a + 2 + i)))) (B := b) (E := (sgE W xs ys (ldw xs ys (a + 1)) i (ldw xs ys (a + 2 + i)))) (by unfold roR; dsimp only; repeat' (first | rw [if_pos (by first | assumption | omega)] | rw [if_neg (by first | assumption | omega | simp_all)]); try rfl)
    rw [e1, e2, e3, e4]

set_option maxHeartbeats 8000000 in
theorem rall (W : Int) (xs ys : List Int) (s b l p q : Int) (es : List Ent) (hp0 : 16 ≤ W ∧ W ≤ 4096) (hp1 : (xs.length : Int) = W) (hp2 : (ys.length : Int) = W) (hp3 : U64s xs) (hp4 : U64s ys) (hp5 : (s = 0 ∨ s = 1) ∧ 0 ≤ b ∧ b ≤ l ∧ l ≤ 4096) (hp6 : l = W) (hp7 : 0 ≤ p ∧ p ≤ q ∧ q ≤ b) (hp8 : Ents es) (hp9 : (es.length : Int) ≤ 8796093022208) : Pub Try.prog 20 [.agg (mr W xs ys (r5 s b l p q)), .sl false 2 (List.map entS es)] (fun rv => rv = .tup [.agg (mr W (aX W xs ys s b l es) (aY W xs ys s b l es) (r5 s (aB W xs ys s b l es) l p q)), .i (aN W xs ys s b l es), .i (aE W xs ys s b l es)]) := by
 refine pub_of TT_ok Try.func20 rfl (by decide) (Nat.le_of_ble_eq_true (by kernel_rfl)) (by kernel_rfl) ?_
 refine rg [] 4 ⟨[(6, .i 0), (5, .i 0), (4, .p 1), (2, .p 0), (1, .sl false 2 (List.map entS es))], [(1, .cells z8 31), (0, .cells (mr W xs ys (r5 s b l p q)) 31)], 2⟩ [] trivial ?_
 refine xw_scope (α := {qq : Int × List Int × List Int × Int // (0 ≤ qq.1) ∧ (qq.1 ≤ (es.length : Int)) ∧ ((qq.2.1.length : Int) = W) ∧ ((qq.2.2.1.length : Int) = W) ∧ (U64s qq.2.1) ∧ (U64s qq.2.2.1) ∧ (b ≤ qq.2.2.2 ∧ qq.2.2.2 ≤ l) ∧ (raR W s l (xs, ys, b) es = addn qq.1 (raR W s l (qq.2.1, qq.2.2.1, qq.2.2.2) (es.drop (Int.toNat qq.1))))}) 0 rfl (fun pp => ⟨[(6, .i 0), (5, .i 0), (4, .p 1), (2, .p 0), (1, .sl false 2 (List.map entS es)), (7, .i pp.1.1)], [(1, .cells z8 31), (0, .cells (mr W pp.1.2.1 pp.1.2.2.1 [.i s, .i pp.1.2.2.2, .i l, .i p, .i q]) 31)], 2⟩) (fun pp => ((es.length : Int) - pp.1.1).toNat) ?_ ?_
 ·
  refine rg [] 1 ⟨[(7, .i 0), (6, .i 0), (5, .i 0), (4, .p 1), (2, .p 0), (1, .sl false 2 (List.map entS es))], [(1, .cells z8 31), (0, .cells (mr W xs ys (r5 s b l p q)) 31)], 2⟩ [] trivial ?_
  refine xw_seq ?_
  refine xw_label ?_
  refine an ?_
  refine xw_seq ?_
  refine rg [(2, .i ((es).length : Int)), (3, .bool (decide (((es).length : Int) ≤ 0)))] 4 ⟨[(13, .bool (decide (((es).length : Int) ≤ 0))), (12, .i ((es).length : Int)), (11, .sl false 2 (List.map entS es)), (10, .i 0), (7, .i 0), (6, .i 0), (5, .i 0), (4, .p 1), (2, .p 0), (1, .sl false 2 (List.map entS es))], [(1, .cells z8 31), (0, .cells (mr W xs ys (r5 s b l p q)) 31)], 2⟩ [((((List.map entS es)).length : Nat) : Int) = ((es).length : Int), (decide (((es).length : Int) ≤ 0)) = (decide (((es).length : Int) ≤ 0))] ⟨(by simp), rfl, trivial⟩ ?_
  refine xw_cond (b := (decide (((es).length : Int) ≤ 0))) (by kernel_rfl) (fun h0 => ?_) (fun h0 => ?_)
  ·
   replace h0 : (es.length : Int) ≤ 0 := of_decide_eq_true h0
   refine rg [] 5 ⟨[(6, .i 0), (5, .i 0), (15, .i 0), (14, .agg (mr W xs ys (r5 s b l p q))), (13, .bool (decide (((es).length : Int) ≤ 0))), (12, .i ((es).length : Int)), (11, .sl false 2 (List.map entS es)), (10, .i 0), (7, .i 0), (4, .p 1), (2, .p 0), (1, .sl false 2 (List.map entS es))], [(1, .cells (mr W xs ys (r5 s b l p q)) 31), (0, .cells (mr W xs ys (r5 s b l p q)) 31)], 2⟩ [True, True] ⟨trivial, trivial, trivial⟩ ?_
   refine xw_ret ?_
   refine an_ret ?_
   refine j0_ret ?_
   exact br (.tup [.agg (mr W xs ys (r5 s b l p q)), .i 0, .i 0]) (.tup [.agg (mr W (aX W xs ys s b l es) (aY W xs ys s b l es) (r5 s (aB W xs ys s b l es) l p q)), .i (aN W xs ys s b l es), .i (aE W xs ys s b l es)]) (wkd [(W : Int) = W, (false = true → false = true), (m64 xs) = (m64 (aX W xs ys s b l es)), (false = true → false = true), (m64 ys) = (m64 (aY W xs ys s b l es)), (s : Int) = s, (b : Int) = (aB W xs ys s b l es), (l : Int) = l, (p : Int) = p, (q : Int) = q, (0 : Int) = (aN W xs ys s b l es), (0 : Int) = (aE W xs ys s b l es)] (by kernel_rfl) ⟨rfl, id, (by first | rfl | exact congrArg _ (ra_end ra_0 (by omega)).1.symm | exact congrArg _ (ra_fail ra_0 (by omega) (by omega) (by omega)).1.symm | exact congrArg _ (ra_end ra_0 (by omega)).2.1.symm | exact congrArg _ (ra_fail ra_0 (by omega) (by omega) (by omega)).2.1.symm | exact congrArg _ (ra_end ‹_› (by omega)).1.symm | exact congrArg _ (ra_end ‹_› (by omega)).2.1.symm | exact congrArg _ (ra_fail ‹_› (by omega) (by omega) (by omega)).1.symm | exact congrArg _ (ra_fail ‹_› (by omega) (by omega) (by omega)).2.1.symm), id, (by first | rfl | exact congrArg _ (ra_end ra_0 (by omega)).1.symm | exact congrArg _ (ra_fail ra_0 (by omega) (by omega) (by omega)).1.symm | exact congrArg _ (ra_end ra_0 (by omega)).2.1.symm | exact congrArg _ (ra_fail ra_0 (by omega) (by omega) (by omega)).2.1.symm | exact congrArg _ (ra_end ‹_› (by omega)).1.symm | exact congrArg _ (ra_end ‹_› (by omega)).2.1.symm | exact congrArg _ (ra_fail ‹_› (by omega) (by omega) (by omega)).1.symm | exact congrArg _ (ra_fail ‹_› (by omega) (by omega) (by omega)).2.1.symm), rfl, (by first | rfl | omega | (have hq := ra_end (W := W) (s := s) (l := l) (xs := xs) (ys := ys) (b := b) (es := es) ra_0 (by omega); omega)), rfl, rfl, rfl, (by first | rfl | omega | (have hq := ra_end (W := W) (s := s) (l := l) (xs := xs) (ys := ys) (b := b) (es := es) ra_0 (by omega); omega)), (by first | rfl | omega | (have hq := ra_end (W := W) (s := s) (l := l) (xs := xs) (ys := ys) (b := b) (es := es) ra_0 (by omega); omega)), trivial⟩) rfl
  ·
   replace h0 : ¬ ((es.length : Int) ≤ 0) := of_decide_eq_false h0
   refine xw_skip ?_
   refine an ?_
   refine xw_seq ?_
   refine sreg hmix [([(1, .cells z8 31), (0, .cells (mr W xs ys (r5 s b l p q)) 31)], 2), ([(2, .cells z8 31), (1, .cells z8 31), (0, .cells (mr W xs ys (r5 s b l p q)) 31)], 3), ([(2, .cells (mr W (rX W xs ys s b l (eO es 0) (eF es 0)) (rY W xs ys s b l (eO es 0) (eF es 0)) (r5 s (rB W xs ys s b l (eO es 0) (eF es 0)) l p q)) 31), (1, .cells z8 31), (0, .cells (mr W xs ys (r5 s b l p q)) 31)], 3)] [9, 10] [(3, [1, 2]), (4, [1, 2, 3]), (5, [0, 1, 2, 3, 4]), (6, [0, 1, 2, 3, 4, 5]), (7, [0, 1, 2, 3, 4, 5, 6]), (8, [0, 1, 2, 3, 4, 5, 6]), (10, [0, 1, 2, 3, 4, 5, 6, 7, 9]), (11, [0, 1, 2, 3, 4, 5, 6, 7, 8, 9, 10])] (by kernel_rfl) (by kernel_rfl) (by kernel_rfl) (by kernel_rfl) (by kernel_rfl) ?_
   refine sr [(3, .agg [.u (eO es 0), .i (eF es 0)])] 4 0 [(20, .elt (.agg [.u (eO es 0), .i (eF es 0)])), (19, .i 0), (18, .sl false 2 (List.map entS es)), (17, .agg (mr W xs ys (r5 s b l p q))), (13, .bool (decide (((es).length : Int) ≤ 0))), (12, .i ((es).length : Int)), (11, .sl false 2 (List.map entS es)), (10, .i 0), (7, .i 0), (6, .i 0), (5, .i 0), (4, .p 1), (2, .p 0), (1, .sl false 2 (List.map entS es))] [True, (SV.agg (mr W xs ys (r5 s b l p q))) = SV.agg (mr W xs ys (r5 s b l p q)), True, True, True, (0 : Int) ≤ 0 ∧ 0 < ((((List.map entS es)).length : Nat) : Int) ∧ ((List.map entS es))[(0 : Int).toNat]? = some (.agg [.u (eO es 0), .i (eF es 0)]), (SV.elt (.agg [.u (eO es 0), .i (eF es 0)])) = SV.elt (.agg [.u (eO es 0), .i (eF es 0)]), (0 : Int) ≤ 0 ∧ 0 < ((((List.map entS es)).length : Nat) : Int) ∧ ((List.map entS es))[(0 : Int).toNat]? = some (.agg [.u (eO es 0), .i (eF es 0)])] ⟨trivial, rfl, trivial, trivial, trivial, (ix_ent (by omega) (by first | omega | (simp only [len_st]; omega) | (simp; done) | (simp; omega) | (simp [len_st, len_stx, len_sty, len_zx, len_zy]; omega))), rfl, (ix_ent (by omega) (by first | omega | (simp only [len_st]; omega) | (simp; done) | (simp; omega) | (simp [len_st, len_stx, len_sty, len_zx, len_zy]; omega))), trivial⟩ ?_
   have h1 : (0 ≤ (eO es 0) ∧ (eO es 0) ≤ 18446744073709551615) ∧ (-9223372036854775808 ≤ (eF es 0) ∧ (eF es 0) ≤ 9223372036854775807) := Ents.at (by first | assumption | exact U64s.st (by assumption) _ (by omega)) _
   refine sr [] 1 4 [(21, .agg [.u (eO es 0), .i (eF es 0)]), (20, .elt (.agg [.u (eO es 0), .i (eF es 0)])), (19, .i 0), (18, .sl false 2 (List.map entS es)), (17, .agg (mr W xs ys (r5 s b l p q))), (13, .bool (decide (((es).length : Int) ≤ 0))), (12, .i ((es).length : Int)), (11, .sl false 2 (List.map entS es)), (10, .i 0), (7, .i 0), (6, .i 0), (5, .i 0), (4, .p 1), (2, .p 0), (1, .sl false 2 (List.map entS es))] [True, (SV.agg [.u (eO es 0), .i (eF es 0)]) = SV.agg [.u (eO es 0), .i (eF es 0)], True] ⟨trivial, rfl, trivial, trivial⟩ ?_
   refine sc (roneF W xs ys s b l p q (eO es 0) (eF es 0) ‹_› ‹_› ‹_› ‹_› ‹_› ‹_› ‹_› ‹_› (by omega) (by omega)) ?_
   obtain ⟨h2, h3, h4, h5, h6, h7⟩ := r_ok W xs ys s b l (eO es 0) (eF es 0) ‹_› ‹_› ‹_› ‹_› (by omega) (by omega)
   have h8 : (rE W xs ys s b l (eO es 0) (eF es 0)) = 0 ∨ ((aN W xs ys s b l es) = 0 ∧ (aE W xs ys s b l es) = (rE W xs ys s b l (eO es 0) (eF es 0)) ∧ (aB W xs ys s b l es) = b) := (by first | exact ra_f1 ‹raR _ _ _ _ _ = _› (by omega) (by omega) | exact ra_f1 ra_0 (by omega) (by omega))
   refine sr [] 6 6 [(9, .i (rE W xs ys s b l (eO es 0) (eF es 0))), (8, .p 2), (24, .i (rE W xs ys s b l (eO es 0) (eF es 0))), (23, .agg (mr W (rX W xs ys s b l (eO es 0) (eF es 0)) (rY W xs ys s b l (eO es 0) (eF es 0)) (r5 s (rB W xs ys s b l (eO es 0) (eF es 0)) l p q))), (16, .tup [.agg (mr W (rX W xs ys s b l (eO es 0) (eF es 0)) (rY W xs ys s b l (eO es 0) (eF es 0)) (r5 s (rB W xs ys s b l (eO es 0) (eF es 0)) l p q)), .i (rE W xs ys s b l (eO es 0) (eF es 0))]), (22, .tup [.agg (mr W (rX W xs ys s b l (eO es 0) (eF es 0)) (rY W xs ys s b l (eO es 0) (eF es 0)) (r5 s (rB W xs ys s b l (eO es 0) (eF es 0)) l p q)), .i (rE W xs ys s b l (eO es 0) (eF es 0))]), (21, .agg [.u (eO es 0), .i (eF es 0)]), (20, .elt (.agg [.u (eO es 0), .i (eF es 0)])), (19, .i 0), (18, .sl false 2 (List.map entS es)), (17, .agg (mr W xs ys (r5 s b l p q))), (13, .bool (decide (((es).length : Int) ≤ 0))), (12, .i ((es).length : Int)), (11, .sl false 2 (List.map entS es)), (10, .i 0), (7, .i 0), (6, .i 0), (5, .i 0), (4, .p 1), (2, .p 0), (1, .sl false 2 (List.map entS es))] [True, True, True, True, ([(2, .cells z8 31), (1, .cells z8 31), (0, .cells (mr W xs ys (r5 s b l p q)) 31)] : Mem) = [(2, .cells z8 31), (1, .cells z8 31), (0, .cells (mr W xs ys (r5 s b l p q)) 31)], (3 : Nat) = 3, True, ([(2, .cells (mr W (rX W xs ys s b l (eO es 0) (eF es 0)) (rY W xs ys s b l (eO es 0) (eF es 0)) (r5 s (rB W xs ys s b l (eO es 0) (eF es 0)) l p q)) 31), (1, .cells z8 31), (0, .cells (mr W xs ys (r5 s b l p q)) 31)] : Mem) = [(2, .cells (mr W (rX W xs ys s b l (eO es 0) (eF es 0)) (rY W xs ys s b l (eO es 0) (eF es 0)) (r5 s (rB W xs ys s b l (eO es 0) (eF es 0)) l p q)) 31), (1, .cells z8 31), (0, .cells (mr W xs ys (r5 s b l p q)) 31)], (3 : Nat) = 3, True] ⟨trivial, trivial, trivial, trivial, rfl, rfl, trivial, rfl, rfl, trivial, trivial⟩ ?_
   refine sen ?_
   refine an ?_
   refine xw_seq ?_
   refine rg [(1, .bool ((rE W xs ys s b l (eO es 0) (eF es 0)) != 0))] 2 ⟨[(26, .bool ((rE W xs ys s b l (eO es 0) (eF es 0)) != 0)), (25, .i (rE W xs ys s b l (eO es 0) (eF es 0))), (9, .i (rE W xs ys s b l (eO es 0) (eF es 0))), (8, .p 2), (24, .i (rE W xs ys s b l (eO es 0) (eF es 0))), (23, .agg (mr W (rX W xs ys s b l (eO es 0) (eF es 0)) (rY W xs ys s b l (eO es 0) (eF es 0)) (r5 s (rB W xs ys s b l (eO es 0) (eF es 0)) l p q))), (16, .tup [.agg (mr W (rX W xs ys s b l (eO es 0) (eF es 0)) (rY W xs ys s b l (eO es 0) (eF es 0)) (r5 s (rB W xs ys s b l (eO es 0) (eF es 0)) l p q)), .i (rE W xs ys s b l (eO es 0) (eF es 0))]), (22, .tup [.agg (mr W (rX W xs ys s b l (eO es 0) (eF es 0)) (rY W xs ys s b l (eO es 0) (eF es 0)) (r5 s (rB W xs ys s b l (eO es 0) (eF es 0)) l p q)), .i (rE W xs ys s b l (eO es 0) (eF es 0))]), (21, .agg [.u (eO es 0), .i (eF es 0)]), (20, .elt (.agg [.u (eO es 0), .i (eF es 0)])), (19, .i 0), (18, .sl false 2 (List.map entS es)), (17, .agg (mr W xs ys (r5 s b l p q))), (13, .bool (decide (((es).length : Int) ≤ 0))), (12, .i ((es).length : Int)), (11, .sl false 2 (List.map entS es)), (10, .i 0), (7, .i 0), (6, .i 0), (5, .i 0), (4, .p 1), (2, .p 0), (1, .sl false 2 (List.map entS es))], [(2, .cells (mr W (rX W xs ys s b l (eO es 0) (eF es 0)) (rY W xs ys s b l (eO es 0) (eF es 0)) (r5 s (rB W xs ys s b l (eO es 0) (eF es 0)) l p q)) 31), (1, .cells z8 31), (0, .cells (mr W xs ys (r5 s b l p q)) 31)], 3⟩ [((rE W xs ys s b l (eO es 0) (eF es 0)) != 0) = ((rE W xs ys s b l (eO es 0) (eF es 0)) != 0)] ⟨rfl, trivial⟩ ?_
   refine xw_cond (b := ((rE W xs ys s b l (eO es 0) (eF es 0)) != 0)) (by kernel_rfl) (fun h9 => ?_) (fun h9 => ?_)
   ·
    replace h9 : (rE W xs ys s b l (eO es 0) (eF es 0)) ≠ 0 := bne_iff_ne.1 h9
    refine rg [] 6 ⟨[(6, .i (rE W xs ys s b l (eO es 0) (eF es 0))), (5, .i 0), (29, .i (rE W xs ys s b l (eO es 0) (eF es 0))), (28, .i 0), (27, .agg (mr W xs ys (r5 s b l p q))), (26, .bool ((rE W xs ys s b l (eO es 0) (eF es 0)) != 0)), (25, .i (rE W xs ys s b l (eO es 0) (eF es 0))), (9, .i (rE W xs ys s b l (eO es 0) (eF es 0))), (8, .p 2), (24, .i (rE W xs ys s b l (eO es 0) (eF es 0))), (23, .agg (mr W (rX W xs ys s b l (eO es 0) (eF es 0)) (rY W xs ys s b l (eO es 0) (eF es 0)) (r5 s (rB W xs ys s b l (eO es 0) (eF es 0)) l p q))), (16, .tup [.agg (mr W (rX W xs ys s b l (eO es 0) (eF es 0)) (rY W xs ys s b l (eO es 0) (eF es 0)) (r5 s (rB W xs ys s b l (eO es 0) (eF es 0)) l p q)), .i (rE W xs ys s b l (eO es 0) (eF es 0))]), (22, .tup [.agg (mr W (rX W xs ys s b l (eO es 0) (eF es 0)) (rY W xs ys s b l (eO es 0) (eF es 0)) (r5 s (rB W xs ys s b l (eO es 0) (eF es 0)) l p q)), .i (rE W xs ys s b l (eO es 0) (eF es 0))]), (21, .agg [.u (eO es 0), .i (eF es 0)]), (20, .elt (.agg [.u (eO es 0), .i (eF es 0)])), (19, .i 0), (18, .sl false 2 (List.map entS es)), (17, .agg (mr W xs ys (r5 s b l p q))), (13, .bool (decide (((es).length : Int) ≤ 0))), (12, .i ((es).length : Int)), (11, .sl false 2 (List.map entS es)), (10, .i 0), (7, .i 0), (4, .p 1), (2, .p 0), (1, .sl false 2 (List.map entS es))], [(2, .cells (mr W (rX W xs ys s b l (eO es 0) (eF es 0)) (rY W xs ys s b l (eO es 0) (eF es 0)) (r5 s (rB W xs ys s b l (eO es 0) (eF es 0)) l p q)) 31), (1, .cells (mr W xs ys (r5 s b l p q)) 31), (0, .cells (mr W xs ys (r5 s b l p q)) 31)], 3⟩ [True, True] ⟨trivial, trivial, trivial⟩ ?_
    refine xw_ret ?_
    refine an_ret ?_
    refine j0_ret ?_
    exact br (.tup [.agg (mr W xs ys (r5 s b l p q)), .i 0, .i (rE W xs ys s b l (eO es 0) (eF es 0))]) (.tup [.agg (mr W (aX W xs ys s b l es) (aY W xs ys s b l es) (r5 s (aB W xs ys s b l es) l p q)), .i (aN W xs ys s b l es), .i (aE W xs ys s b l es)]) (wkd [(W : Int) = W, (false = true → false = true), (m64 xs) = (m64 (aX W xs ys s b l es)), (false = true → false = true), (m64 ys) = (m64 (aY W xs ys s b l es)), (s : Int) = s, (b : Int) = (aB W xs ys s b l es), (l : Int) = l, (p : Int) = p, (q : Int) = q, (0 : Int) = (aN W xs ys s b l es), ((rE W xs ys s b l (eO es 0) (eF es 0)) : Int) = (aE W xs ys s b l es)] (by kernel_rfl) ⟨rfl, id, (by first | rfl | exact congrArg _ (ra_end ra_0 (by omega)).1.symm | exact congrArg _ (ra_fail ra_0 (by omega) (by omega) (by omega)).1.symm | exact congrArg _ (ra_end ra_0 (by omega)).2.1.symm | exact congrArg _ (ra_fail ra_0 (by omega) (by omega) (by omega)).2.1.symm | exact congrArg _ (ra_end ‹_› (by omega)).1.symm | exact congrArg _ (ra_end ‹_› (by omega)).2.1.symm | exact congrArg _ (ra_fail ‹_› (by omega) (by omega) (by omega)).1.symm | exact congrArg _ (ra_fail ‹_› (by omega) (by omega) (by omega)).2.1.symm), id, (by first | rfl | exact congrArg _ (ra_end ra_0 (by omega)).1.symm | exact congrArg _ (ra_fail ra_0 (by omega) (by omega) (by omega)).1.symm | exact congrArg _ (ra_end ra_0 (by omega)).2.1.symm | exact congrArg _ (ra_fail ra_0 (by omega) (by omega) (by omega)).2.1.symm | exact congrArg _ (ra_end ‹_› (by omega)).1.symm | exact congrArg _ (ra_end ‹_› (by omega)).2.1.symm | exact congrArg _ (ra_fail ‹_› (by omega) (by omega) (by omega)).1.symm | exact congrArg _ (ra_fail ‹_› (by omega) (by omega) (by omega)).2.1.symm), rfl, (by omega), rfl, rfl, rfl, (by omega), (by omega), trivial⟩) rfl
   ·
    replace h9 : (rE W xs ys s b l (eO es 0) (eF es 0)) = 0 := bne_eq_false_iff_eq.1 h9
    refine xw_skip ?_
    refine an ?_
    refine rg [] 2 ⟨[(30, .agg (mr W (rX W xs ys s b l (eO es 0) (eF es 0)) (rY W xs ys s b l (eO es 0) (eF es 0)) (r5 s (rB W xs ys s b l (eO es 0) (eF es 0)) l p q))), (26, .bool ((rE W xs ys s b l (eO es 0) (eF es 0)) != 0)), (25, .i (rE W xs ys s b l (eO es 0) (eF es 0))), (9, .i (rE W xs ys s b l (eO es 0) (eF es 0))), (8, .p 2), (24, .i (rE W xs ys s b l (eO es 0) (eF es 0))), (23, .agg (mr W (rX W xs ys s b l (eO es 0) (eF es 0)) (rY W xs ys s b l (eO es 0) (eF es 0)) (r5 s (rB W xs ys s b l (eO es 0) (eF es 0)) l p q))), (16, .tup [.agg (mr W (rX W xs ys s b l (eO es 0) (eF es 0)) (rY W xs ys s b l (eO es 0) (eF es 0)) (r5 s (rB W xs ys s b l (eO es 0) (eF es 0)) l p q)), .i (rE W xs ys s b l (eO es 0) (eF es 0))]), (22, .tup [.agg (mr W (rX W xs ys s b l (eO es 0) (eF es 0)) (rY W xs ys s b l (eO es 0) (eF es 0)) (r5 s (rB W xs ys s b l (eO es 0) (eF es 0)) l p q)), .i (rE W xs ys s b l (eO es 0) (eF es 0))]), (21, .agg [.u (eO es 0), .i (eF es 0)]), (20, .elt (.agg [.u (eO es 0), .i (eF es 0)])), (19, .i 0), (18, .sl false 2 (List.map entS es)), (17, .agg (mr W xs ys (r5 s b l p q))), (13, .bool (decide (((es).length : Int) ≤ 0))), (12, .i ((es).length : Int)), (11, .sl false 2 (List.map entS es)), (10, .i 0), (7, .i 0), (6, .i 0), (5, .i 0), (4, .p 1), (2, .p 0), (1, .sl false 2 (List.map entS es))], [(2, .cells (mr W (rX W xs ys s b l (eO es 0) (eF es 0)) (rY W xs ys s b l (eO es 0) (eF es 0)) (r5 s (rB W xs ys s b l (eO es 0) (eF es 0)) l p q)) 31), (1, .cells z8 31), (0, .cells (mr W (rX W xs ys s b l (eO es 0) (eF es 0)) (rY W xs ys s b l (eO es 0) (eF es 0)) (r5 s (rB W xs ys s b l (eO es 0) (eF es 0)) l p q)) 31)], 3⟩ [True, True] ⟨trivial, trivial, trivial⟩ ?_
    refine rg [(1, .i 1)] 3 ⟨[(7, .i 1), (32, .i 1), (31, .i 0), (30, .agg (mr W (rX W xs ys s b l (eO es 0) (eF es 0)) (rY W xs ys s b l (eO es 0) (eF es 0)) (r5 s (rB W xs ys s b l (eO es 0) (eF es 0)) l p q))), (26, .bool ((rE W xs ys s b l (eO es 0) (eF es 0)) != 0)), (25, .i (rE W xs ys s b l (eO es 0) (eF es 0))), (9, .i (rE W xs ys s b l (eO es 0) (eF es 0))), (8, .p 2), (24, .i (rE W xs ys s b l (eO es 0) (eF es 0))), (23, .agg (mr W (rX W xs ys s b l (eO es 0) (eF es 0)) (rY W xs ys s b l (eO es 0) (eF es 0)) (r5 s (rB W xs ys s b l (eO es 0) (eF es 0)) l p q))), (16, .tup [.agg (mr W (rX W xs ys s b l (eO es 0) (eF es 0)) (rY W xs ys s b l (eO es 0) (eF es 0)) (r5 s (rB W xs ys s b l (eO es 0) (eF es 0)) l p q)), .i (rE W xs ys s b l (eO es 0) (eF es 0))]), (22, .tup [.agg (mr W (rX W xs ys s b l (eO es 0) (eF es 0)) (rY W xs ys s b l (eO es 0) (eF es 0)) (r5 s (rB W xs ys s b l (eO es 0) (eF es 0)) l p q)), .i (rE W xs ys s b l (eO es 0) (eF es 0))]), (21, .agg [.u (eO es 0), .i (eF es 0)]), (20, .elt (.agg [.u (eO es 0), .i (eF es 0)])), (19, .i 0), (18, .sl false 2 (List.map entS es)), (17, .agg (mr W xs ys (r5 s b l p q))), (13, .bool (decide (((es).length : Int) ≤ 0))), (12, .i ((es).length : Int)), (11, .sl false 2 (List.map entS es)), (10, .i 0), (6, .i 0), (5, .i 0), (4, .p 1), (2, .p 0), (1, .sl false 2 (List.map entS es))], [(2, .cells (mr W (rX W xs ys s b l (eO es 0) (eF es 0)) (rY W xs ys s b l (eO es 0) (eF es 0)) (r5 s (rB W xs ys s b l (eO es 0) (eF es 0)) l p q)) 31), (1, .cells z8 31), (0, .cells (mr W (rX W xs ys s b l (eO es 0) (eF es 0)) (rY W xs ys s b l (eO es 0) (eF es 0)) (r5 s (rB W xs ys s b l (eO es 0) (eF es 0)) l p q)) 31)], 3⟩ [IntKind.i64.wrap (0 + 1) = 1] ⟨rfl, trivial⟩ ?_
    refine xw_goto ?_
    exact j0_goto ⟨(1, (rX W xs ys s b l (eO es 0) (eF es 0)), (rY W xs ys s b l (eO es 0) (eF es 0)), (rB W xs ys s b l (eO es 0) (eF es 0))), ⟨(show (0 : Int) ≤ 1 by omega), (show 1 ≤ (es.length : Int) by omega), (show ((rX W xs ys s b l (eO es 0) (eF es 0)).length : Int) = W by omega), (show ((rY W xs ys s b l (eO es 0) (eF es 0)).length : Int) = W by omega), (show U64s (rX W xs ys s b l (eO es 0) (eF es 0)) by omega), (show U64s (rY W xs ys s b l (eO es 0) (eF es 0)) by omega), (show b ≤ (rB W xs ys s b l (eO es 0) (eF es 0)) ∧ (rB W xs ys s b l (eO es 0) (eF es 0)) ≤ l by omega), (show raR W s l (xs, ys, b) es = addn 1 (raR W s l ((rX W xs ys s b l (eO es 0) (eF es 0)), (rY W xs ys s b l (eO es 0) (eF es 0)), (rB W xs ys s b l (eO es 0) (eF es 0))) (es.drop (Int.toNat 1))) by first | exact ra_0 | exact ra_next ‹_› (by omega) (by omega) (by omega) | exact ra_next (i := 0) ra_0 (by omega) (by omega) (by omega))⟩⟩ (le_of [] [(0 : Int) = 0, (0 : Int) = 0, (false = true → false = true), ((List.map entS es) : List SV) = (List.map entS es), (1 : Int) = 1, (0 : Int) = 0, (0 : Int) = 0, (0 : Int) = 0, (0 : Int) = 0, (0 : Int) = 0, (0 : Int) = 0, (W : Int) = W, (false = true → false = true), ((m64 (rX W xs ys s b l (eO es 0) (eF es 0))) : List SV) = (m64 (rX W xs ys s b l (eO es 0) (eF es 0))), (false = true → false = true), ((m64 (rY W xs ys s b l (eO es 0) (eF es 0))) : List SV) = (m64 (rY W xs ys s b l (eO es 0) (eF es 0))), (s : Int) = s, ((rB W xs ys s b l (eO es 0) (eF es 0)) : Int) = (rB W xs ys s b l (eO es 0) (eF es 0)), (l : Int) = l, (p : Int) = p, (q : Int) = q] (by kernel_rfl) ⟨rfl, rfl, id, rfl, rfl, rfl, rfl, rfl, rfl, rfl, rfl, rfl, id, rfl, id, rfl, rfl, rfl, rfl, rfl, rfl, trivial⟩)
 ·
  rintro ⟨⟨i1, xs1, ys1, b1⟩, h0, h1, h2, h3, h4, h5, h6, h7⟩
  try dsimp only at h0 h1 h2 h3 h4 h5 h6 h7
  show XW _ _ _ _ _ _ ⟨[(6, .int .i64 0), (5, .int .i64 0), (4, .loc 1 0), (2, .loc 0 0), (1, .sl false 2 (List.map entS es)), (7, .int .i64 i1)], [(1, .cells [.int .i64 0, .nils, .nils, .int .i64 0, .int .i64 0, .int .i64 0, .int .i64 0, .int .i64 0] 31), (0, .cells (mr W xs1 ys1 [.int .i64 s, .int .i64 b1, .int .i64 l, .int .i64 p, .int .i64 q]) 31)], 2⟩
  have h8 : i1 < (es.length : Int) ∨ ((aN W xs ys s b l es) = i1 ∧ (aE W xs ys s b l es) = 0 ∧ (aB W xs ys s b l es) = b1) := ra_e1 ‹_›
  refine xw_seq ?_
  refine xw_skip ?_
  refine an ?_
  refine xw_seq ?_
  refine rg [(2, .i ((es).length : Int)), (3, .bool (decide (((es).length : Int) ≤ i1)))] 4 ⟨[(13, .bool (decide (((es).length : Int) ≤ i1))), (12, .i ((es).length : Int)), (11, .sl false 2 (List.map entS es)), (10, .i i1), (6, .i 0), (5, .i 0), (4, .p 1), (2, .p 0), (1, .sl false 2 (List.map entS es)), (7, .i i1)], [(1, .cells z8 31), (0, .cells (mr W xs1 ys1 (r5 s b1 l p q)) 31)], 2⟩ [((((List.map entS es)).length : Nat) : Int) = ((es).length : Int), (decide (((es).length : Int) ≤ i1)) = (decide (((es).length : Int) ≤ i1))] ⟨(by simp), rfl, trivial⟩ ?_
  refine xw_cond (b := (decide (((es).length : Int) ≤ i1))) (by kernel_rfl) (fun h9 => ?_) (fun h9 => ?_)
  ·
   replace h9 : (es.length : Int) ≤ i1 := of_decide_eq_true h9
   refine rg [] 5 ⟨[(6, .i 0), (5, .i i1), (15, .i i1), (14, .agg (mr W xs1 ys1 (r5 s b1 l p q))), (13, .bool (decide (((es).length : Int) ≤ i1))), (12, .i ((es).length : Int)), (11, .sl false 2 (List.map entS es)), (10, .i i1), (4, .p 1), (2, .p 0), (1, .sl false 2 (List.map entS es)), (7, .i i1)], [(1, .cells (mr W xs1 ys1 (r5 s b1 l p q)) 31), (0, .cells (mr W xs1 ys1 (r5 s b1 l p q)) 31)], 2⟩ [True, True] ⟨trivial, trivial, trivial⟩ ?_
   refine xw_ret ?_
   refine an_ret ?_
   refine j1_ret ?_
   exact br (.tup [.agg (mr W xs1 ys1 (r5 s b1 l p q)), .i i1, .i 0]) (.tup [.agg (mr W (aX W xs ys s b l es) (aY W xs ys s b l es) (r5 s (aB W xs ys s b l es) l p q)), .i (aN W xs ys s b l es), .i (aE W xs ys s b l es)]) (wkd [(W : Int) = W, (false = true → false = true), (m64 xs1) = (m64 (aX W xs ys s b l es)), (false = true → false = true), (m64 ys1) = (m64 (aY W xs ys s b l es)), (s : Int) = s, (b1 : Int) = (aB W xs ys s b l es), (l : Int) = l, (p : Int) = p, (q : Int) = q, (i1 : Int) = (aN W xs ys s b l es), (0 : Int) = (aE W xs ys s b l es)] (by kernel_rfl) ⟨rfl, id, (by first | rfl | exact congrArg _ (ra_end ra_0 (by omega)).1.symm | exact congrArg _ (ra_fail ra_0 (by omega) (by omega) (by omega)).1.symm | exact congrArg _ (ra_end ra_0 (by omega)).2.1.symm | exact congrArg _ (ra_fail ra_0 (by omega) (by omega) (by omega)).2.1.symm | exact congrArg _ (ra_end ‹_› (by omega)).1.symm | exact congrArg _ (ra_end ‹_› (by omega)).2.1.symm | exact congrArg _ (ra_fail ‹_› (by omega) (by omega) (by omega)).1.symm | exact congrArg _ (ra_fail ‹_› (by omega) (by omega) (by omega)).2.1.symm), id, (by first | rfl | exact congrArg _ (ra_end ra_0 (by omega)).1.symm | exact congrArg _ (ra_fail ra_0 (by omega) (by omega) (by omega)).1.symm | exact congrArg _ (ra_end ra_0 (by omega)).2.1.symm | exact congrArg _ (ra_fail ra_0 (by omega) (by omega) (by omega)).2.1.symm | exact congrArg _ (ra_end ‹_› (by omega)).1.symm | exact congrArg _ (ra_end ‹_› (by omega)).2.1.symm | exact congrArg _ (ra_fail ‹_› (by omega) (by omega) (by omega)).1.symm | exact congrArg _ (ra_fail ‹_› (by omega) (by omega) (by omega)).2.1.symm), rfl, (by omega), rfl, rfl, rfl, (by omega), (by omega), trivial⟩) rfl
  ·
   replace h9 : ¬ ((es.length : Int) ≤ i1) := of_decide_eq_false h9
   refine xw_skip ?_
   refine an ?_
   refine xw_seq ?_
   refine sreg hmix [([(1, .cells z8 31), (0, .cells (mr W xs1 ys1 (r5 s b1 l p q)) 31)], 2), ([(2, .cells z8 31), (1, .cells z8 31), (0, .cells (mr W xs1 ys1 (r5 s b1 l p q)) 31)], 3), ([(2, .cells (mr W (rX W xs1 ys1 s b1 l (eO es i1) (eF es i1)) (rY W xs1 ys1 s b1 l (eO es i1) (eF es i1)) (r5 s (rB W xs1 ys1 s b1 l (eO es i1) (eF es i1)) l p q)) 31), (1, .cells z8 31), (0, .cells (mr W xs1 ys1 (r5 s b1 l p q)) 31)], 3)] [9, 10] [(3, [1, 2]), (4, [1, 2, 3]), (5, [0, 1, 2, 3, 4]), (6, [0, 1, 2, 3, 4, 5]), (7, [0, 1, 2, 3, 4, 5, 6]), (8, [0, 1, 2, 3, 4, 5, 6]), (10, [0, 1, 2, 3, 4, 5, 6, 7, 9]), (11, [0, 1, 2, 3, 4, 5, 6, 7, 8, 9, 10])] (by kernel_rfl) (by kernel_rfl) (by kernel_rfl) (by kernel_rfl) (by kernel_rfl) ?_
   refine sr [(3, .agg [.u (eO es i1), .i (eF es i1)])] 4 0 [(20, .elt (.agg [.u (eO es i1), .i (eF es i1)])), (19, .i i1), (18, .sl false 2 (List.map entS es)), (17, .agg (mr W xs1 ys1 (r5 s b1 l p q))), (13, .bool (decide (((es).length : Int) ≤ i1))), (12, .i ((es).length : Int)), (11, .sl false 2 (List.map entS es)), (10, .i i1), (6, .i 0), (5, .i 0), (4, .p 1), (2, .p 0), (1, .sl false 2 (List.map entS es)), (7, .i i1)] [True, (SV.agg (mr W xs1 ys1 (r5 s b1 l p q))) = SV.agg (mr W xs1 ys1 (r5 s b1 l p q)), True, True, True, (0 : Int) ≤ i1 ∧ i1 < ((((List.map entS es)).length : Nat) : Int) ∧ ((List.map entS es))[(i1 : Int).toNat]? = some (.agg [.u (eO es i1), .i (eF es i1)]), (SV.elt (.agg [.u (eO es i1), .i (eF es i1)])) = SV.elt (.agg [.u (eO es i1), .i (eF es i1)]), (0 : Int) ≤ i1 ∧ i1 < ((((List.map entS es)).length : Nat) : Int) ∧ ((List.map entS es))[(i1 : Int).toNat]? = some (.agg [.u (eO es i1), .i (eF es i1)])] ⟨trivial, rfl, trivial, trivial, trivial, (ix_ent (by omega) (by first | omega | (simp only [len_st]; omega) | (simp; done) | (simp; omega) | (simp [len_st, len_stx, len_sty, len_zx, len_zy]; omega))), rfl, (ix_ent (by omega) (by first | omega | (simp only [len_st]; omega) | (simp; done) | (simp; omega) | (simp [len_st, len_stx, len_sty, len_zx, len_zy]; omega))), trivial⟩ ?_
   have h10 : (0 ≤ (eO es i1) ∧ (eO es i1) ≤ 18446744073709551615) ∧ (-9223372036854775808 ≤ (eF es i1) ∧ (eF es i1) ≤ 9223372036854775807) := Ents.at (by first | assumption | exact U64s.st (by assumption) _ (by omega)) _
   refine sr [] 1 4 [(21, .agg [.u (eO es i1), .i (eF es i1)]), (20, .elt (.agg [.u (eO es i1), .i (eF es i1)])), (19, .i i1), (18, .sl false 2 (List.map entS es)), (17, .agg (mr W xs1 ys1 (r5 s b1 l p q))), (13, .bool (decide (((es).length : Int) ≤ i1))), (12, .i ((es).length : Int)), (11, .sl false 2 (List.map entS es)), (10, .i i1), (6, .i 0), (5, .i 0), (4, .p 1), (2, .p 0), (1, .sl false 2 (List.map entS es)), (7, .i i1)] [True, (SV.agg [.u (eO es i1), .i (eF es i1)]) = SV.agg [.u (eO es i1), .i (eF es i1)], True] ⟨trivial, rfl, trivial, trivial⟩ ?_
   refine sc (roneF W xs1 ys1 s b1 l p q (eO es i1) (eF es i1) ‹_› ‹_› ‹_› ‹_› ‹_› (by omega) ‹_› (by omega) (by omega) (by omega)) ?_
   obtain ⟨h11, h12, h13, h14, h15, h16⟩ := r_ok W xs1 ys1 s b1 l (eO es i1) (eF es i1) ‹_› ‹_› ‹_› ‹_› (by omega) (by omega)
   have h17 : (rE W xs1 ys1 s b1 l (eO es i1) (eF es i1)) = 0 ∨ ((aN W xs ys s b l es) = i1 ∧ (aE W xs ys s b l es) = (rE W xs1 ys1 s b1 l (eO es i1) (eF es i1)) ∧ (aB W xs ys s b l es) = b1) := (by first | exact ra_f1 ‹raR _ _ _ _ _ = _› (by omega) (by omega) | exact ra_f1 ra_0 (by omega) (by omega))
   refine sr [] 6 6 [(9, .i (rE W xs1 ys1 s b1 l (eO es i1) (eF es i1))), (8, .p 2), (24, .i (rE W xs1 ys1 s b1 l (eO es i1) (eF es i1))), (23, .agg (mr W (rX W xs1 ys1 s b1 l (eO es i1) (eF es i1)) (rY W xs1 ys1 s b1 l (eO es i1) (eF es i1)) (r5 s (rB W xs1 ys1 s b1 l (eO es i1) (eF es i1)) l p q))), (16, .tup [.agg (mr W (rX W xs1 ys1 s b1 l (eO es i1) (eF es i1)) (rY W xs1 ys1 s b1 l (eO es i1) (eF es i1)) (r5 s (rB W xs1 ys1 s b1 l (eO es i1) (eF es i1)) l p q)), .i (rE W xs1 ys1 s b1 l (eO es i1) (eF es i1))]), (22, .tup [.agg (mr W (rX W xs1 ys1 s b1 l (eO es i1) (eF es i1)) (rY W xs1 ys1 s b1 l (eO es i1) (eF es i1)) (r5 s (rB W xs1 ys1 s b1 l (eO es i1) (eF es i1)) l p q)), .i (rE W xs1 ys1 s b1 l (eO es i1) (eF es i1))]), (21, .agg [.u (eO es i1), .i (eF es i1)]), (20, .elt (.agg [.u (eO es i1), .i (eF es i1)])), (19, .i i1), (18, .sl false 2 (List.map entS es)), (17, .agg (mr W xs1 ys1 (r5 s b1 l p q))), (13, .bool (decide (((es).length : Int) ≤ i1))), (12, .i ((es).length : Int)), (11, .sl false 2 (List.map entS es)), (10, .i i1), (6, .i 0), (5, .i 0), (4, .p 1), (2, .p 0), (1, .sl false 2 (List.map entS es)), (7, .i i1)] [True, True, True, True, ([(2, .cells z8 31), (1, .cells z8 31), (0, .cells (mr W xs1 ys1 (r5 s b1 l p q)) 31)] : Mem) = [(2, .cells z8 31), (1, .cells z8 31), (0, .cells (mr W xs1 ys1 (r5 s b1 l p q)) 31)], (3 : Nat) = 3, True, ([(2, .cells (mr W (rX W xs1 ys1 s b1 l (eO es i1) (eF es i1)) (rY W xs1 ys1 s b1 l (eO es i1) (eF es i1)) (r5 s (rB W xs1 ys1 s b1 l (eO es i1) (eF es i1)) l p q)) 31), (1, .cells z8 31), (0, .cells (mr W xs1 ys1 (r5 s b1 l p q)) 31)] : Mem) = [(2, .cells (mr W (rX W xs1 ys1 s b1 l (eO es i1) (eF es i1)) (rY W xs1 ys1 s b1 l (eO es i1) (eF es i1)) (r5 s (rB W xs1 ys1 s b1 l (eO es i1) (eF es i1)) l p q)) 31), (1, .cells z8 31), (0, .cells (mr W xs1 ys1 (r5 s b1 l p q)) 31)], (3 : Nat) = 3, True] ⟨trivial, trivial, trivial, trivial, rfl, rfl, trivial, rfl, rfl, trivial, trivial⟩ ?_
   refine sen ?_
   refine an ?_
   refine xw_seq ?_
   refine rg [(1, .bool ((rE W xs1 ys1 s b1 l (eO es i1) (eF es i1)) != 0))] 2 ⟨[(26, .bool ((rE W xs1 ys1 s b1 l (eO es i1) (eF es i1)) != 0)), (25, .i (rE W xs1 ys1 s b1 l (eO es i1) (eF es i1))), (9, .i (rE W xs1 ys1 s b1 l (eO es i1) (eF es i1))), (8, .p 2), (24, .i (rE W xs1 ys1 s b1 l (eO es i1) (eF es i1))), (23, .agg (mr W (rX W xs1 ys1 s b1 l (eO es i1) (eF es i1)) (rY W xs1 ys1 s b1 l (eO es i1) (eF es i1)) (r5 s (rB W xs1 ys1 s b1 l (eO es i1) (eF es i1)) l p q))), (16, .tup [.agg (mr W (rX W xs1 ys1 s b1 l (eO es i1) (eF es i1)) (rY W xs1 ys1 s b1 l (eO es i1) (eF es i1)) (r5 s (rB W xs1 ys1 s b1 l (eO es i1) (eF es i1)) l p q)), .i (rE W xs1 ys1 s b1 l (eO es i1) (eF es i1))]), (22, .tup [.agg (mr W (rX W xs1 ys1 s b1 l (eO es i1) (eF es i1)) (rY W xs1 ys1 s b1 l (eO es i1) (eF es i1)) (r5 s (rB W xs1 ys1 s b1 l (eO es i1) (eF es i1)) l p q)), .i (rE W xs1 ys1 s b1 l (eO es i1) (eF es i1))]), (21, .agg [.u (eO es i1), .i (eF es i1)]), (20, .elt (.agg [.u (eO es i1), .i (eF es i1)])), (19, .i i1), (18, .sl false 2 (List.map entS es)), (17, .agg (mr W xs1 ys1 (r5 s b1 l p q))), (13, .bool (decide (((es).length : Int) ≤ i1))), (12, .i ((es).length : Int)), (11, .sl false 2 (List.map entS es)), (10, .i i1), (6, .i 0), (5, .i 0), (4, .p 1), (2, .p 0), (1, .sl false 2 (List.map entS es)), (7, .i i1)], [(2, .cells (mr W (rX W xs1 ys1 s b1 l (eO es i1) (eF es i1)) (rY W xs1 ys1 s b1 l (eO es i1) (eF es i1)) (r5 s (rB W xs1 ys1 s b1 l (eO es i1) (eF es i1)) l p q)) 31), (1, .cells z8 31), (0, .cells (mr W xs1 ys1 (r5 s b1 l p q)) 31)], 3⟩ [((rE W xs1 ys1 s b1 l (eO es i1) (eF es i1)) != 0) = ((rE W xs1 ys1 s b1 l (eO es i1) (eF es i1)) != 0)] ⟨rfl, trivial⟩ ?_
   refine xw_cond (b := ((rE W xs1 ys1 s b1 l (eO es i1) (eF es i1)) != 0)) (by kernel_rfl) (fun h18 => ?_) (fun h18 => ?_)
   ·
    replace h18 : (rE W xs1 ys1 s b1 l (eO es i1) (eF es i1)) ≠ 0 := bne_iff_ne.1 h18
    refine rg [] 6 ⟨[(6, .i (rE W xs1 ys1 s b1 l (eO es i1) (eF es i1))), (5, .i i1), (29, .i (rE W xs1 ys1 s b1 l (eO es i1) (eF es i1))), (28, .i i1), (27, .agg (mr W xs1 ys1 (r5 s b1 l p q))), (26, .bool ((rE W xs1 ys1 s b1 l (eO es i1) (eF es i1)) != 0)), (25, .i (rE W xs1 ys1 s b1 l (eO es i1) (eF es i1))), (9, .i (rE W xs1 ys1 s b1 l (eO es i1) (eF es i1))), (8, .p 2), (24, .i (rE W xs1 ys1 s b1 l (eO es i1) (eF es i1))), (23, .agg (mr W (rX W xs1 ys1 s b1 l (eO es i1) (eF es i1)) (rY W xs1 ys1 s b1 l (eO es i1) (eF es i1)) (r5 s (rB W xs1 ys1 s b1 l (eO es i1) (eF es i1)) l p q))), (16, .tup [.agg (mr W (rX W xs1 ys1 s b1 l (eO es i1) (eF es i1)) (rY W xs1 ys1 s b1 l (eO es i1) (eF es i1)) (r5 s (rB W xs1 ys1 s b1 l (eO es i1) (eF es i1)) l p q)), .i (rE W xs1 ys1 s b1 l (eO es i1) (eF es i1))]), (22, .tup [.agg (mr W (rX W xs1 ys1 s b1 l (eO es i1) (eF es i1)) (rY W xs1 ys1 s b1 l (eO es i1) (eF es i1)) (r5 s (rB W xs1 ys1 s b1 l (eO es i1) (eF es i1)) l p q)), .i (rE W xs1 ys1 s b1 l (eO es i1) (eF es i1))]), (21, .agg [.u (eO es i1), .i (eF es i1)]), (20, .elt (.agg [.u (eO es i1), .i (eF es i1)])), (19, .i i1), (18, .sl false 2 (List.map entS es)), (17, .agg (mr W xs1 ys1 (r5 s b1 l p q))), (13, .bool (decide (((es).length : Int) ≤ i1))), (12, .i ((es).length : Int)), (11, .sl false 2 (List.map entS es)), (10, .i i1), (4, .p 1), (2, .p 0), (1, .sl false 2 (List.map entS es)), (7, .i i1)], [(2, .cells (mr W (rX W xs1 ys1 s b1 l (eO es i1) (eF es i1)) (rY W xs1 ys1 s b1 l (eO es i1) (eF es i1)) (r5 s (rB W xs1 ys1 s b1 l (eO es i1) (eF es i1)) l p q)) 31), (1, .cells (mr W xs1 ys1 (r5 s b1 l p q)) 31), (0, .cells (mr W xs1 ys1 (r5 s b1 l p q)) 31)], 3⟩ [True, True] ⟨trivial, trivial, trivial⟩ ?_
    refine xw_ret ?_
    refine an_ret ?_
    refine j1_ret ?_
    exact br (.tup [.agg (mr W xs1 ys1 (r5 s b1 l p q)), .i i1, .i (rE W xs1 ys1 s b1 l (eO es i1) (eF es i1))]) (.tup [.agg (mr W (aX W xs ys s b l es) (aY W xs ys s b l es) (r5 s (aB W xs ys s b l es) l p q)), .i (aN W xs ys s b l es), .i (aE W xs ys s b l es)]) (wkd [(W : Int) = W, (false = true → false = true), (m64 xs1) = (m64 (aX W xs ys s b l es)), (false = true → false = true), (m64 ys1) = (m64 (aY W xs ys s b l es)), (s : Int) = s, (b1 : Int) = (aB W xs ys s b l es), (l : Int) = l, (p : Int) = p, (q : Int) = q, (i1 : Int) = (aN W xs ys s b l es), ((rE W xs1 ys1 s b1 l (eO es i1) (eF es i1)) : Int) = (aE W xs ys s b l es)] (by kernel_rfl) ⟨rfl, id, (by first | rfl | exact congrArg _ (ra_end ra_0 (by omega)).1.symm | exact congrArg _ (ra_fail ra_0 (by omega) (by omega) (by omega)).1.symm | exact congrArg _ (ra_end ra_0 (by omega)).2.1.symm | exact congrArg _ (ra_fail ra_0 (by omega) (by omega) (by omega)).2.1.symm | exact congrArg _ (ra_end ‹_› (by omega)).1.symm | exact congrArg _ (ra_end ‹_› (by omega)).2.1.symm | exact congrArg _ (ra_fail ‹_› (by omega) (by omega) (by omega)).1.symm | exact congrArg _ (ra_fail ‹_› (by omega) (by omega) (by omega)).2.1.symm), id, (by first | rfl | exact congrArg _ (ra_end ra_0 (by omega)).1.symm | exact congrArg _ (ra_fail ra_0 (by omega) (by omega) (by omega)).1.symm | exact congrArg _ (ra_end ra_0 (by omega)).2.1.symm | exact congrArg _ (ra_fail ra_0 (by omega) (by omega) (by omega)).2.1.symm | exact congrArg _ (ra_end ‹_› (by omega)).1.symm | exact congrArg _ (ra_end ‹_› (by omega)).2.1.symm | exact congrArg _ (ra_fail ‹_› (by omega) (by omega) (by omega)).1.symm | exact congrArg _ (ra_fail ‹_› (by omega) (by omega) (by omega)).2.1.symm), rfl, (by omega), rfl, rfl, rfl, (by omega), (by omega), trivial⟩) rfl
   ·
    replace h18 : (rE W xs1 ys1 s b1 l (eO es i1) (eF es i1)) = 0 := bne_eq_false_iff_eq.1 h18
    refine xw_skip ?_
    refine an ?_
    refine rg [] 2 ⟨[(30, .agg (mr W (rX W xs1 ys1 s b1 l (eO es i1) (eF es i1)) (rY W xs1 ys1 s b1 l (eO es i1) (eF es i1)) (r5 s (rB W xs1 ys1 s b1 l (eO es i1) (eF es i1)) l p q))), (26, .bool ((rE W xs1 ys1 s b1 l (eO es i1) (eF es i1)) != 0)), (25, .i (rE W xs1 ys1 s b1 l (eO es i1) (eF es i1))), (9, .i (rE W xs1 ys1 s b1 l (eO es i1) (eF es i1))), (8, .p 2), (24, .i (rE W xs1 ys1 s b1 l (eO es i1) (eF es i1))), (23, .agg (mr W (rX W xs1 ys1 s b1 l (eO es i1) (eF es i1)) (rY W xs1 ys1 s b1 l (eO es i1) (eF es i1)) (r5 s (rB W xs1 ys1 s b1 l (eO es i1) (eF es i1)) l p q))), (16, .tup [.agg (mr W (rX W xs1 ys1 s b1 l (eO es i1) (eF es i1)) (rY W xs1 ys1 s b1 l (eO es i1) (eF es i1)) (r5 s (rB W xs1 ys1 s b1 l (eO es i1) (eF es i1)) l p q)), .i (rE W xs1 ys1 s b1 l (eO es i1) (eF es i1))]), (22, .tup [.agg (mr W (rX W xs1 ys1 s b1 l (eO es i1) (eF es i1)) (rY W xs1 ys1 s b1 l (eO es i1) (eF es i1)) (r5 s (rB W xs1 ys1 s b1 l (eO es i1) (eF es i1)) l p q)), .i (rE W xs1 ys1 s b1 l (eO es i1) (eF es i1))]), (21, .agg [.u (eO es i1), .i (eF es i1)]), (20, .elt (.agg [.u (eO es i1), .i (eF es i1)])), (19, .i i1), (18, .sl false 2 (List.map entS es)), (17, .agg (mr W xs1 ys1 (r5 s b1 l p q))), (13, .bool (decide (((es).length : Int) ≤ i1))), (12, .i ((es).length : Int)), (11, .sl false 2 (List.map entS es)), (10, .i i1), (6, .i 0), (5, .i 0), (4, .p 1), (2, .p 0), (1, .sl false 2 (List.map entS es)), (7, .i i1)], [(2, .cells (mr W (rX W xs1 ys1 s b1 l (eO es i1) (eF es i1)) (rY W xs1 ys1 s b1 l (eO es i1) (eF es i1)) (r5 s (rB W xs1 ys1 s b1 l (eO es i1) (eF es i1)) l p q)) 31), (1, .cells z8 31), (0, .cells (mr W (rX W xs1 ys1 s b1 l (eO es i1) (eF es i1)) (rY W xs1 ys1 s b1 l (eO es i1) (eF es i1)) (r5 s (rB W xs1 ys1 s b1 l (eO es i1) (eF es i1)) l p q)) 31)], 3⟩ [True, True] ⟨trivial, trivial, trivial⟩ ?_
    refine rg [(1, .i (i1 + 1))] 3 ⟨[(7, .i (i1 + 1)), (32, .i (i1 + 1)), (31, .i i1), (30, .agg (mr W (rX W xs1 ys1 s b1 l (eO es i1) (eF es i1)) (rY W xs1 ys1 s b1 l (eO es i1) (eF es i1)) (r5 s (rB W xs1 ys1 s b1 l (eO es i1) (eF es i1)) l p q))), (26, .bool ((rE W xs1 ys1 s b1 l (eO es i1) (eF es i1)) != 0)), (25, .i (rE W xs1 ys1 s b1 l (eO es i1) (eF es i1))), (9, .i (rE W xs1 ys1 s b1 l (eO es i1) (eF es i1))), (8, .p 2), (24, .i (rE W xs1 ys1 s b1 l (eO es i1) (eF es i1))), (23, .agg (mr W (rX W xs1 ys1 s b1 l (eO es i1) (eF es i1)) (rY W xs1 ys1 s b1 l (eO es i1) (eF es i1)) (r5 s (rB W xs1 ys1 s b1 l (eO es i1) (eF es i1)) l p q))), (16, .tup [.agg (mr W (rX W xs1 ys1 s b1 l (eO es i1) (eF es i1)) (rY W xs1 ys1 s b1 l (eO es i1) (eF es i1)) (r5 s (rB W xs1 ys1 s b1 l (eO es i1) (eF es i1)) l p q)), .i (rE W xs1 ys1 s b1 l (eO es i1) (eF es i1))]), (22, .tup [.agg (mr W (rX W xs1 ys1 s b1 l (eO es i1) (eF es i1)) (rY W xs1 ys1 s b1 l (eO es i1) (eF es i1)) (r5 s (rB W xs1 ys1 s b1 l (eO es i1) (eF es i1)) l p q)), .i (rE W xs1 ys1 s b1 l (eO es i1) (eF es i1))]), (21, .agg [.u (eO es i1), .i (eF es i1)]), (20, .elt (.agg [.u (eO es i1), .i (eF es i1)])), (19, .i i1), (18, .sl false 2 (List.map entS es)), (17, .agg (mr W xs1 ys1 (r5 s b1 l p q))), (13, .bool (decide (((es).length : Int) ≤ i1))), (12, .i ((es).length : Int)), (11, .sl false 2 (List.map entS es)), (10, .i i1), (6, .i 0), (5, .i 0), (4, .p 1), (2, .p 0), (1, .sl false 2 (List.map entS es))], [(2, .cells (mr W (rX W xs1 ys1 s b1 l (eO es i1) (eF es i1)) (rY W xs1 ys1 s b1 l (eO es i1) (eF es i1)) (r5 s (rB W xs1 ys1 s b1 l (eO es i1) (eF es i1)) l p q)) 31), (1, .cells z8 31), (0, .cells (mr W (rX W xs1 ys1 s b1 l (eO es i1) (eF es i1)) (rY W xs1 ys1 s b1 l (eO es i1) (eF es i1)) (r5 s (rB W xs1 ys1 s b1 l (eO es i1) (eF es i1)) l p q)) 31)], 3⟩ [IntKind.i64.wrap (i1 + 1) = (i1 + 1)] ⟨i64_eq (by omega) (by omega), trivial⟩ ?_
    refine xw_goto ?_
    exact j1_goto ⟨((i1 + 1), (rX W xs1 ys1 s b1 l (eO es i1) (eF es i1)), (rY W xs1 ys1 s b1 l (eO es i1) (eF es i1)), (rB W xs1 ys1 s b1 l (eO es i1) (eF es i1))), ⟨(show 0 ≤ (i1 + 1) by omega), (show (i1 + 1) ≤ (es.length : Int) by omega), (show ((rX W xs1 ys1 s b1 l (eO es i1) (eF es i1)).length : Int) = W by omega), (show ((rY W xs1 ys1 s b1 l (eO es i1) (eF es i1)).length : Int) = W by omega), (show U64s (rX W xs1 ys1 s b1 l (eO es i1) (eF es i1)) by omega), (show U64s (rY W xs1 ys1 s b1 l (eO es i1) (eF es i1)) by omega), (show b ≤ (rB W xs1 ys1 s b1 l (eO es i1) (eF es i1)) ∧ (rB W xs1 ys1 s b1 l (eO es i1) (eF es i1)) ≤ l by omega), (show raR W s l (xs, ys, b) es = addn (i1 + 1) (raR W s l ((rX W xs1 ys1 s b1 l (eO es i1) (eF es i1)), (rY W xs1 ys1 s b1 l (eO es i1) (eF es i1)), (rB W xs1 ys1 s b1 l (eO es i1) (eF es i1))) (es.drop (Int.toNat (i1 + 1)))) by first | exact ra_0 | exact ra_next ‹_› (by omega) (by omega) (by omega) | exact ra_next (i := 0) ra_0 (by omega) (by omega) (by omega))⟩⟩ (le_of [] [(0 : Int) = 0, (0 : Int) = 0, (false = true → false = true), ((List.map entS es) : List SV) = (List.map entS es), ((i1 + 1) : Int) = (i1 + 1), (0 : Int) = 0, (0 : Int) = 0, (0 : Int) = 0, (0 : Int) = 0, (0 : Int) = 0, (0 : Int) = 0, (W : Int) = W, (false = true → false = true), ((m64 (rX W xs1 ys1 s b1 l (eO es i1) (eF es i1))) : List SV) = (m64 (rX W xs1 ys1 s b1 l (eO es i1) (eF es i1))), (false = true → false = true), ((m64 (rY W xs1 ys1 s b1 l (eO es i1) (eF es i1))) : List SV) = (m64 (rY W xs1 ys1 s b1 l (eO es i1) (eF es i1))), (s : Int) = s, ((rB W xs1 ys1 s b1 l (eO es i1) (eF es i1)) : Int) = (rB W xs1 ys1 s b1 l (eO es i1) (eF es i1)), (l : Int) = l, (p : Int) = p, (q : Int) = q] (by kernel_rfl) ⟨rfl, rfl, id, rfl, rfl, rfl, rfl, rfl, rfl, rfl, rfl, rfl, id, rfl, id, rfl, rfl, rfl, rfl, rfl, rfl, trivial⟩) (by show ((es.length : Int) - (i1 + 1)).toNat < ((es.length : Int) - i1).toNat; omega)

theorem rAll (W : Int) (xs ys : List Int) (s b l p q : Int) (es : List Ent) (hp0 : 16 ≤ W ∧ W ≤ 4096) (hp1 : (xs.length : Int) = W) (hp2 : (ys.length : Int) = W) (hp3 : U64s xs) (hp4 : U64s ys) (hp5 : (s = 0 ∨ s = 1) ∧ 0 ≤ b ∧ b ≤ l ∧ l ≤ 4096) (hp6 : l = W) (hp7 : 0 ≤ p ∧ p ≤ q ∧ q ≤ b) (hp8 : Ents es) (hp9 : (es.length : Int) ≤ 8796093022208) : Pub Try.prog 10 [.agg (mr W xs ys (r5 s b l p q)), .sl false 2 (List.map entS es)] (fun rv => rv = .tup [.agg (mr W (aX W xs ys s b l es) (aY W xs ys s b l es) (r5 s (aB W xs ys s b l es) l p q)), .i (aN W xs ys s b l es), .i (aE W xs ys s b l es)]) := by
 refine pub_of TT_ok Try.func10 rfl (by decide) (Nat.le_of_ble_eq_true (by kernel_rfl)) (by kernel_rfl) ?_
 refine rg [] 4 ⟨[(6, .i 0), (5, .i 0), (4, .p 1), (2, .p 0), (1, .sl false 2 (List.map entS es))], [(1, .cells z8 31), (0, .cells (mr W xs ys (r5 s b l p q)) 31)], 2⟩ [] trivial ?_
 refine xw_seq ?_
 refine reg ?_
 refine rk [] 2 0 ⟨[(8, .sl false 2 (List.map entS es)), (7, .agg (mr W xs ys (r5 s b l p q))), (6, .i 0), (5, .i 0), (4, .p 1)], [(1, .cells z8 31)], 2⟩ [True] ⟨trivial, trivial⟩ ?_
 refine pc (rall W xs ys s b l p q es ‹_› ‹_› ‹_› ‹_› ‹_› ‹_› ‹_› ‹_› ‹_› ‹_›) ?_
 obtain ⟨h0, h1, h2, h3, h4, h5⟩ := a_ok W xs ys s b l es ‹_› ‹_› ‹_› ‹_› (by omega) (by omega)
 have h6 : 0 ≤ (aN W xs ys s b l es) ∧ (aN W xs ys s b l es) ≤ (es.length : Int) := aN_le
 have h7 : ((aN W xs ys s b l es) = (es.length : Int) ∧ (aE W xs ys s b l es) = 0) ∨ ((aN W xs ys s b l es) < (es.length : Int) ∧ (aE W xs ys s b l es) ≠ 0) := aN_iff
 refine rk [] 6 3 ⟨[(6, .i (aE W xs ys s b l es)), (5, .i (aN W xs ys s b l es)), (4, .p 1)], [(1, .cells (mr W (aX W xs ys s b l es) (aY W xs ys s b l es) (r5 s (aB W xs ys s b l es) l p q)) 31)], 2⟩ [True] ⟨trivial, trivial⟩ ?_
 refine en ?_
 refine an ?_
 refine xw_ret ?_
 exact bs (.tup [.agg (mr W (aX W xs ys s b l es) (aY W xs ys s b l es) (r5 s (aB W xs ys s b l es) l p q)), .i (aN W xs ys s b l es), .i (aE W xs ys s b l es)]) rfl

theorem lfirst (es : List Ent) (hp0 : Ents es) (hp1 : (es.length : Int) ≤ 8796093022208) : Pub Try.prog 19 [.sl false 2 (List.map entS es)] (fun rv => (((es.length : Int) = 0) ∧ rv = .tup [.agg [.u 0, .i 0], .sl false 2 (List.map entS es), .f]) ∨ ((0 < (es.length : Int)) ∧ rv = .tup [.agg [.u (eO es 0), .i (eF es 0)], .sl false 2 (List.map entS (es.drop 1)), .t])) := by
 refine pub_of TT_ok Try.func19 rfl (by decide) (Nat.le_of_ble_eq_true (by kernel_rfl)) (by kernel_rfl) ?_
 refine rg [] 3 ⟨[(4, .f), (3, .nils), (2, .p 0), (0, .sl false 2 (List.map entS es))], [(0, .cells [.u 0, .i 0] 56)], 1⟩ [] trivial ?_
 refine xw_seq ?_
 refine rg [(1, .i ((es).length : Int)), (2, .bool (((es).length : Int) == 0))] 3 ⟨[(7, .bool (((es).length : Int) == 0)), (4, .f), (3, .nils), (2, .p 0), (0, .sl false 2 (List.map entS es))], [(0, .cells [.u 0, .i 0] 56)], 1⟩ [((((List.map entS es)).length : Nat) : Int) = ((es).length : Int), (((es).length : Int) == 0) = (((es).length : Int) == 0)] ⟨(by simp), rfl, trivial⟩ ?_
 refine xw_cond (b := (((es).length : Int) == 0)) (by kernel_rfl) (fun h0 => ?_) (fun h0 => ?_)
 ·
  replace h0 : (es.length : Int) = 0 := eq_of_beq h0
  refine rg [] 5 ⟨[(4, .f), (3, .sl false 2 (List.map entS es)), (2, .p 0), (0, .sl false 2 (List.map entS es))], [(0, .cells [.u 0, .i 0] 56)], 1⟩ [True] ⟨trivial, trivial⟩ ?_
  refine xw_ret ?_
  refine an_ret ?_
  exact bs (.tup [.agg [.u 0, .i 0], .sl false 2 (List.map entS es), .f]) (Or.inl <| ⟨(by omega), rfl⟩)
 ·
  replace h0 : (es.length : Int) ≠ 0 := ne_of_beq_false h0
  refine xw_skip ?_
  refine an ?_
  refine xw_seq ?_
  refine sreg hmix [([(0, .cells [.u 0, .i 0] 56)], 1), ([(0, .cells [.u (eO es 0), .i (eF es 0)] 56)], 1)] [9] [(1, [0]), (2, [0, 1]), (5, [4]), (7, [6]), (8, [3, 4, 5, 6, 7]), (9, [0, 1, 2]), (10, [0, 1, 2, 3, 4, 5, 6, 7, 8, 9]), (11, [0, 1, 2, 3, 4, 5, 6, 7, 8, 9, 10])] (by kernel_rfl) (by kernel_rfl) (by kernel_rfl) (by kernel_rfl) (by kernel_rfl) ?_
  refine sr [(1, .agg [.u (eO es 0), .i (eF es 0)])] 2 0 [(11, .elt (.agg [.u (eO es 0), .i (eF es 0)])), (10, .sl false 2 (List.map entS es)), (7, .bool (((es).length : Int) == 0)), (4, .f), (3, .nils), (2, .p 0), (0, .sl false 2 (List.map entS es))] [True, (0 : Int) ≤ 0 ∧ 0 < ((((List.map entS es)).length : Nat) : Int) ∧ ((List.map entS es))[(0 : Int).toNat]? = some (.agg [.u (eO es 0), .i (eF es 0)])] ⟨trivial, (ix_ent (by omega) (by first | omega | (simp only [len_st]; omega) | (simp; done) | (simp; omega) | (simp [len_st, len_stx, len_sty, len_zx, len_zy]; omega))), trivial⟩ ?_
  have h1 : (0 ≤ (eO es 0) ∧ (eO es 0) ≤ 18446744073709551615) ∧ (-9223372036854775808 ≤ (eF es 0) ∧ (eF es 0) ≤ 9223372036854775807) := Ents.at (by first | assumption | exact U64s.st (by assumption) _ (by omega)) _
  refine sr [(5, .i ((es).length : Int)), (7, .i ((es).length : Int))] 7 2 [(18, .sl true 2 ((((List.map entS es)).take (((es).length : Int) : Int).toNat).drop (1 : Int).toNat)), (17, .i ((es).length : Int)), (16, .sl false 2 (List.map entS es)), (15, .i ((es).length : Int)), (14, .sl false 2 (List.map entS es)), (13, .sl false 2 (List.map entS es)), (12, .agg [.u (eO es 0), .i (eF es 0)]), (11, .elt (.agg [.u (eO es 0), .i (eF es 0)])), (10, .sl false 2 (List.map entS es)), (7, .bool (((es).length : Int) == 0)), (4, .f), (3, .nils), (2, .p 0), (0, .sl false 2 (List.map entS es))] [True, True, True, ((((List.map entS es)).length : Nat) : Int) = ((es).length : Int), (SV.int .i64 ((es).length : Int)) = SV.int .i64 ((es).length : Int), ((((List.map entS es)).length : Nat) : Int) = ((es).length : Int), True, ((((List.map entS es)).length : Nat) : Int) = ((es).length : Int), (SV.int .i64 ((es).length : Int)) = SV.int .i64 ((es).length : Int), ((((List.map entS es)).length : Nat) : Int) = ((es).length : Int), (0 : Int) ≤ 1 ∧ 1 ≤ ((es).length : Int) ∧ ((es).length : Int) = ((es).length : Int) ∧ ((es).length : Int) ≤ ((((List.map entS es)).length : Nat) : Int), (SV.sl true 2 ((((List.map entS es)).take (((es).length : Int) : Int).toNat).drop (1 : Int).toNat)) = SV.sl true 2 ((((List.map entS es)).take (((es).length : Int) : Int).toNat).drop (1 : Int).toNat), (0 : Int) ≤ 1 ∧ 1 ≤ ((es).length : Int) ∧ ((es).length : Int) = ((es).length : Int) ∧ ((es).length : Int) ≤ ((((List.map entS es)).length : Nat) : Int)] ⟨trivial, trivial, trivial, (by simp), rfl, (by simp), trivial, (by simp), rfl, (by simp), ⟨by omega, by omega, by omega, by first | omega | (simp only [len_st]; omega) | (simp; done) | (simp; omega) | (simp [len_st, len_stx, len_sty, len_zx, len_zy]; omega)⟩, rfl, ⟨by omega, by omega, by omega, by first | omega | (simp only [len_st]; omega) | (simp; done) | (simp; omega) | (simp [len_st, len_stx, len_sty, len_zx, len_zy]; omega)⟩, trivial⟩ ?_
  refine ssets 18 (x := true) (z := 2) (L := ((((List.map entS es)).take (((es).length : Int) : Int).toNat).drop (1 : Int).toNat)) (L' := (List.map entS ((es.take (((es.length : Int) : Int).toNat)).drop ((1 : Int).toNat)))) (by kernel_rfl) mapf_cut ?_
  refine sr [] 3 9 [(4, .t), (3, .sl true 2 (List.map entS ((es.take (((es.length : Int) : Int).toNat)).drop ((1 : Int).toNat)))), (18, .sl true 2 (List.map entS ((es.take (((es.length : Int) : Int).toNat)).drop ((1 : Int).toNat)))), (18, .sl true 2 ((((List.map entS es)).take (((es).length : Int) : Int).toNat).drop (1 : Int).toNat)), (17, .i ((es).length : Int)), (16, .sl false 2 (List.map entS es)), (15, .i ((es).length : Int)), (14, .sl false 2 (List.map entS es)), (13, .sl false 2 (List.map entS es)), (12, .agg [.u (eO es 0), .i (eF es 0)]), (11, .elt (.agg [.u (eO es 0), .i (eF es 0)])), (10, .sl false 2 (List.map entS es)), (7, .bool (((es).length : Int) == 0)), (4, .f), (3, .nils), (2, .p 0), (0, .sl false 2 (List.map entS es))] [True, ([(0, .cells [.u (eO es 0), .i (eF es 0)] 56)] : Mem) = [(0, .cells [.u (eO es 0), .i (eF es 0)] 56)], (1 : Nat) = 1, True, True] ⟨trivial, rfl, rfl, trivial, trivial, trivial⟩ ?_
  refine sen ?_
  refine an ?_
  refine xw_ret ?_
  exact br (.tup [.agg [.u (eO es 0), .i (eF es 0)], .sl true 2 (List.map entS ((es.take (((es.length : Int) : Int).toNat)).drop ((1 : Int).toNat))), .t]) (.tup [.agg [.u (eO es 0), .i (eF es 0)], .sl false 2 (List.map entS (es.drop 1)), .t]) (wkd [((eO es 0) : Int) = (eO es 0), ((eF es 0) : Int) = (eF es 0), (false = true → true = true), (List.map entS ((es.take (((es.length : Int) : Int).toNat)).drop ((1 : Int).toNat))) = (List.map entS (es.drop 1)), true = true] (by kernel_rfl) ⟨rfl, rfl, (fun h => by cases h), (by first | rfl | exact congrArg _ tl_eq), rfl, trivial⟩) (Or.inr <| ⟨(by omega), rfl⟩)

theorem lfirst_2 (es : List Ent) (hp0 : Ents es) (hp1 : (es.length : Int) ≤ 8796093022208) (hp2 : 0 < (es.length : Int)) : Pub Try.prog 19 [.sl false 2 (List.map entS es)] (fun rv => rv = .tup [.agg [.u (eO es 0), .i (eF es 0)], .sl false 2 (List.map entS (es.drop 1)), .t]) := by
  refine (lfirst es hp0 hp1).mono ?_
  rintro _ (⟨g0, rfl⟩ | ⟨g0, rfl⟩)
  all_goals first | rfl | (exfalso; first | omega | grind)

theorem many (L : List (List Ent)) (hp0 : Lgs L) (hp1 : (L.length : Int) ≤ 10) : Pub Try.prog 7 [.sl false 1 (List.map logS L)] (fun rv => rv = .i ((flt L).length : Int)) := by
 refine pub_of TT_ok Try.func7 rfl (by decide) (Nat.le_of_ble_eq_true (by kernel_rfl)) (by kernel_rfl) ?_
 refine rg [] 1 ⟨[(2, .i 0), (0, .sl false 1 (List.map logS L))], [], 0⟩ [] trivial ?_
 refine rg [] 1 ⟨[(3, .i 0), (2, .i 0), (0, .sl false 1 (List.map logS L))], [], 0⟩ [] trivial ?_
 refine xw_seq ?_
 refine rg [] 1 ⟨[(4, .i 0), (3, .i 0), (2, .i 0), (0, .sl false 1 (List.map logS L))], [], 0⟩ [] trivial ?_
 refine xw_block ?_
 refine xw_loop (α := {q : Int × Int // (0 ≤ q.1) ∧ (q.1 ≤ (L.length : Int)) ∧ (q.2 = (mny L q.1))}) (fun p => ⟨[(4, .i p.1.1), (3, .i p.1.2), (2, .i 0), (0, .sl false 1 (List.map logS L))], [], 0⟩) (fun p => ((L.length : Int) - p.1.1).toNat) ⟨(0, 0), ⟨(by omega), (by omega), (show 0 = (mny L 0) by first | omega | (have hq := mny_0 L; omega))⟩⟩ (le_of [] [(0 : Int) = 0, (0 : Int) = 0, (0 : Int) = 0, (false = true → false = true), ((List.map logS L) : List SV) = (List.map logS L)] (by kernel_rfl) ⟨rfl, rfl, rfl, id, rfl, trivial⟩) ?_
 rintro ⟨⟨i1, n1⟩, h0, h1, h2⟩
 try dsimp only at h0 h1 h2
 show XW _ _ _ _ _ _ ⟨[(4, .int .i64 i1), (3, .int .i64 n1), (2, .int .i64 0), (0, .sl false 1 (List.map logS L))], [], 0⟩
 have h3 : 0 ≤ (mny L i1) ∧ (mny L i1) ≤ 8796093022208 * i1 := mny_le L ‹_› i1 (by omega)
 have h4 : (i1 < (L.length : Int) ∧ (mny L (i1 + 1)) = (mny L i1) + ((lg L i1).length : Int)) ∨ ((L.length : Int) ≤ i1 ∧ (mny L i1) = ((flt L).length : Int)) := mny_or (by omega)
 refine xw_seq ?_
 refine rg [(2, .i ((L).length : Int)), (3, .bool (decide (i1 < ((L).length : Int))))] 4 ⟨[(8, .bool (decide (i1 < ((L).length : Int)))), (4, .i i1), (3, .i n1), (2, .i 0), (0, .sl false 1 (List.map logS L))], [], 0⟩ [((((List.map logS L)).length : Nat) : Int) = ((L).length : Int), (decide (i1 < ((L).length : Int))) = (decide (i1 < ((L).length : Int)))] ⟨(by simp), rfl, trivial⟩ ?_
 refine xw_cond (b := (decide (i1 < ((L).length : Int)))) (by kernel_rfl) (fun h5 => ?_) (fun h5 => ?_)
 ·
  replace h5 : i1 < (L.length : Int) := of_decide_eq_true h5
  refine xw_skip ?_
  refine an ?_
  refine xw_seq ?_
  refine xw_block ?_
  refine reg ?_
  refine rk [(3, .sl false 2 (List.map entS (lg L i1)))] 4 0 ⟨[(14, .elt (.sl false 2 (List.map entS (lg L i1)))), (11, .i n1), (4, .i i1), (3, .i n1), (2, .i 0), (0, .sl false 1 (List.map logS L))], [], 0⟩ [(0 : Int) ≤ i1 ∧ i1 < ((((List.map logS L)).length : Nat) : Int) ∧ ((List.map logS L))[(i1 : Int).toNat]? = some (.sl false 2 (List.map entS (lg L i1)))] ⟨(ix_log (by omega) (by first | omega | (simp only [len_st]; omega) | (simp; done) | (simp; omega) | (simp [len_st, len_stx, len_sty, len_zx, len_zy]; omega))), trivial⟩ ?_
  have h6 : Ents (lg L i1) := (Lgs.lg (by first | assumption | exact U64s.st (by assumption) _ (by omega)) _).1
  have h7 : ((lg L i1).length : Int) ≤ 8796093022208 := (Lgs.lg (by first | assumption | exact U64s.st (by assumption) _ (by omega)) _).2
  refine rk [(5, .i (((lg L i1)).length : Int)), (6, .i (n1 + (((lg L i1)).length : Int)))] 4 4 ⟨[(3, .i (n1 + (((lg L i1)).length : Int))), (4, .i i1), (2, .i 0), (0, .sl false 1 (List.map logS L))], [], 0⟩ [True, ((((List.map entS (lg L i1))).length : Nat) : Int) = (((lg L i1)).length : Int), IntKind.i64.wrap (n1 + (((lg L i1)).length : Int)) = (n1 + (((lg L i1)).length : Int))] ⟨trivial, (by simp), i64_eq (by omega) (by omega), trivial⟩ ?_
  refine en ?_
  refine ib ?_
  refine an ?_
  refine re [(1, .i (i1 + 1))] 3 ⟨[(4, .i (i1 + 1)), (3, .i (n1 + (((lg L i1)).length : Int))), (2, .i 0), (0, .sl false 1 (List.map logS L))], [], 0⟩ [IntKind.i64.wrap (i1 + 1) = (i1 + 1)] ⟨i64_eq (by omega) (by omega), trivial⟩ ?_
  exact ag ⟨((i1 + 1), (n1 + (((lg L i1)).length : Int))), ⟨(by omega), (by omega), (show (n1 + (((lg L i1)).length : Int)) = (mny L (i1 + 1)) by omega)⟩⟩ (le_of [] [((i1 + 1) : Int) = (i1 + 1), ((n1 + (((lg L i1)).length : Int)) : Int) = (n1 + (((lg L i1)).length : Int)), (0 : Int) = 0, (false = true → false = true), ((List.map logS L) : List SV) = (List.map logS L)] (by kernel_rfl) ⟨rfl, rfl, rfl, id, rfl, trivial⟩) (by show ((L.length : Int) - (i1 + 1)).toNat < ((L.length : Int) - i1).toNat; omega)
 ·
  replace h5 : ¬ (i1 < (L.length : Int)) := of_decide_eq_false h5
  refine xw_exit ?_
  refine an_exit ?_
  refine ag_exit ?_
  refine ib_same ?_
  refine an ?_
  refine rg [] 2 ⟨[(2, .i n1)], [], 0⟩ [] trivial ?_
  refine xw_ret ?_
  exact br (.i n1) (.i ((flt L).length : Int)) (wkd [(n1 : Int) = ((flt L).length : Int)] (by kernel_rfl) ⟨(by omega), trivial⟩) rfl

set_option maxHeartbeats 8000000 in
theorem rlogs (W : Int) (xs ys : List Int) (s b l p q : Int) (L : List (List Ent)) (es : List Ent) (hp0 : 16 ≤ W ∧ W ≤ 4096) (hp1 : (xs.length : Int) = W) (hp2 : (ys.length : Int) = W) (hp3 : U64s xs) (hp4 : U64s ys) (hp5 : (s = 0 ∨ s = 1) ∧ 0 ≤ b ∧ b ≤ l ∧ l ≤ 4096) (hp6 : l = W) (hp7 : 0 ≤ p ∧ p ≤ q ∧ q ≤ b) (hp8 : Lgs L) (hp9 : (L.length : Int) ≤ 10) (hp10 : flt L = es) : Pub Try.prog 8 [.agg (mr W xs ys (r5 s b l p q)), .sl false 1 (List.map logS L)] (fun rv => (∃ L2 : List (List Ent), (Lgs L2) ∧ ((L2.length : Int) = (L.length : Int)) ∧ (((flt L2).length : Int) + (aN W xs ys s b l es) = ((flt L).length : Int)) ∧ rv = .tup [.agg (mr W (aX W xs ys s b l es) (aY W xs ys s b l es) (r5 s (aB W xs ys s b l es) l p q)), .sl false 1 (List.map logS L2), .i (aE W xs ys s b l es)])) := by
 refine pub_of TT_ok Try.func8 rfl (by decide) (Nat.le_of_ble_eq_true (by kernel_rfl)) (by kernel_rfl) ?_
 refine rg [] 4 ⟨[(6, .i 0), (5, .nils), (4, .p 1), (2, .p 0), (1, .sl false 1 (List.map logS L))], [(1, .cells z8 31), (0, .cells (mr W xs ys (r5 s b l p q)) 31)], 2⟩ [] trivial ?_
 refine xw_seq ?_
 refine reg ?_
 refine rk [] 1 0 ⟨[(15, .sl false 1 (List.map logS L)), (6, .i 0), (5, .nils), (4, .p 1), (2, .p 0), (1, .sl false 1 (List.map logS L))], [(1, .cells z8 31), (0, .cells (mr W xs ys (r5 s b l p q)) 31)], 2⟩ [] trivial ?_
 refine callx (f := 17) (args := [.sl false 1 (List.map logS L)]) (d := (some 16)) (by kernel_rfl) (xcall_of TT_ok Try.func17 rfl (by decide) (Nat.le_of_ble_eq_true (by kernel_rfl)) ?_)
 refine rg [] 1 ⟨[(2, .nils), (0, .sl false 1 (List.map logS L))], [(1, .cells z8 31), (0, .cells (mr W xs ys (r5 s b l p q)) 31)], 2⟩ [] trivial ?_
 refine xw_seq ?_
 refine xw_seq ?_
 refine reg ?_
 refine rk [] 1 0 ⟨[(3, .sl false 1 (List.map logS L)), (2, .nils), (0, .sl false 1 (List.map logS L))], [(1, .cells z8 31), (0, .cells (mr W xs ys (r5 s b l p q)) 31)], 2⟩ [] trivial ?_
 refine nilc_ TT_ok ((List.map logS L)) 4 (by kernel_rfl) (fun h0 => ?_) ?_
 ·
  replace h0 : ((L).length : Int) = 0 := mapf_nil h0
  refine en ?_
  refine an ?_
  refine ct ?_
  refine rg [] 1 ⟨[(2, .nils), (0, .sl false 1 (List.map logS L))], [(1, .cells z8 31), (0, .cells (mr W xs ys (r5 s b l p q)) 31)], 2⟩ [] trivial ?_
  refine xw_ret ?_
  refine an_ret ?_
  refine ⟨.nils, by kernel_rfl, ?_⟩
  show XOi _ _ _ _ _ _ _ ⟨[(16, .nils), (15, .sl false 1 (List.map logS L)), (6, .int .i64 0), (5, .nils), (4, .loc 1 0), (2, .loc 0 0), (1, .sl false 1 (List.map logS L))], [(1, .cells [.int .i64 0, .nils, .nils, .int .i64 0, .int .i64 0, .int .i64 0, .int .i64 0, .int .i64 0] 31), (0, .cells (mr W xs ys [.int .i64 s, .int .i64 b, .int .i64 l, .int .i64 p, .int .i64 q]) 31)], 2⟩
  refine rk [] 1 2 ⟨[(1, .nils), (6, .i 0), (5, .nils), (4, .p 1), (2, .p 0)], [(1, .cells z8 31), (0, .cells (mr W xs ys (r5 s b l p q)) 31)], 2⟩ [] trivial ?_
  refine en ?_
  refine an ?_
  refine xw_block ?_
  refine xw_unroll 1 ?_
  refine ul_step ?_
  refine xw_block ?_
  refine xw_seq ?_
  refine reg ?_
  refine rk [] 1 0 ⟨[(18, .nils), (1, .nils), (6, .i 0), (5, .nils), (4, .p 1), (2, .p 0)], [(1, .cells z8 31), (0, .cells (mr W xs ys (r5 s b l p q)) 31)], 2⟩ [] trivial ?_
  refine callx (f := 18) (args := [.nils]) (d := (some 19)) (by kernel_rfl) (xcall_of TT_ok Try.func18 rfl (by decide) (Nat.le_of_ble_eq_true (by kernel_rfl)) ?_)
  refine rg [] 2 ⟨[(3, .f), (2, .i 0), (0, .nils)], [(1, .cells z8 31), (0, .cells (mr W xs ys (r5 s b l p q)) 31)], 2⟩ [] trivial ?_
  refine xw_scope_u 0 1 rfl ?_
  refine rg [] 2 ⟨[(5, .f), (4, .i 0), (3, .f), (2, .i 0), (0, .nils)], [(1, .cells z8 31), (0, .cells (mr W xs ys (r5 s b l p q)) 31)], 2⟩ [] trivial ?_
  refine xw_seq ?_
  refine xw_label ?_
  refine an ?_
  refine xw_seq ?_
  refine rg [(1, .i 0)] 3 ⟨[(10, .i 0), (9, .i 0), (8, .nils), (5, .f), (4, .i 0), (3, .f), (2, .i 0), (0, .nils)], [(1, .cells z8 31), (0, .cells (mr W xs ys (r5 s b l p q)) 31)], 2⟩ [(0 : Int) = 0] ⟨rfl, trivial⟩ ?_
  refine xw_block ?_
  refine xw_unroll 1 ?_
  refine ul_step ?_
  refine rg [(0, .f)] 1 ⟨[(11, .f), (10, .i 0), (9, .i 0), (8, .nils), (5, .f), (4, .i 0), (3, .f), (2, .i 0), (0, .nils)], [(1, .cells z8 31), (0, .cells (mr W xs ys (r5 s b l p q)) 31)], 2⟩ [(decide (0 < 0)) = false] ⟨decide_eq_false (by omega), trivial⟩ ?_
  refine xw_seq ?_
  refine cf ?_
  refine xw_exit ?_
  refine an_exit ?_
  refine agu_exit ?_
  refine ib_same ?_
  refine an ?_
  refine rg [] 4 ⟨[(3, .f), (2, .i 0), (5, .f), (4, .i 0), (0, .nils)], [(1, .cells z8 31), (0, .cells (mr W xs ys (r5 s b l p q)) 31)], 2⟩ [] trivial ?_
  refine xw_ret ?_
  refine juu_ret ?_
  refine ⟨.tup [.i 0, .f], by kernel_rfl, ?_⟩
  show XOi _ _ _ _ _ _ _ ⟨[(19, .tup [.int .i64 0, .bool false]), (18, .nils), (1, .nils), (6, .int .i64 0), (5, .nils), (4, .loc 1 0), (2, .loc 0 0)], [(1, .cells [.int .i64 0, .nils, .nils, .int .i64 0, .int .i64 0, .int .i64 0, .int .i64 0, .int .i64 0] 31), (0, .cells (mr W xs ys [.int .i64 s, .int .i64 b, .int .i64 l, .int .i64 p, .int .i64 q]) 31)], 2⟩
  refine rk [] 5 2 ⟨[(8, .f), (7, .i 0), (1, .nils), (6, .i 0), (5, .nils), (4, .p 1), (2, .p 0)], [(1, .cells z8 31), (0, .cells (mr W xs ys (r5 s b l p q)) 31)], 2⟩ [] trivial ?_
  refine en ?_
  refine an ?_
  refine xw_seq ?_
  refine rg [] 2 ⟨[(23, .t), (7, .i 0), (1, .nils), (6, .i 0), (5, .nils), (4, .p 1), (2, .p 0)], [(1, .cells z8 31), (0, .cells (mr W xs ys (r5 s b l p q)) 31)], 2⟩ [] trivial ?_
  refine ct ?_
  refine rg [] 5 ⟨[(6, .i 0), (5, .nils), (7, .i 0), (1, .nils), (4, .p 1), (2, .p 0)], [(1, .cells (mr W xs ys (r5 s b l p q)) 31), (0, .cells (mr W xs ys (r5 s b l p q)) 31)], 2⟩ [True, True] ⟨trivial, trivial, trivial⟩ ?_
  refine xw_ret ?_
  refine an_ret ?_
  refine ib_ret ?_
  refine agu_ret ?_
  refine ib_ret ?_
  exact br (.tup [.agg (mr W xs ys (r5 s b l p q)), .nils, .i 0]) (.tup [.agg (mr W (aX W xs ys s b l es) (aY W xs ys s b l es) (r5 s (aB W xs ys s b l es) l p q)), .sl false 1 (List.map logS []), .i (aE W xs ys s b l es)]) (wkd [(W : Int) = W, (false = true → false = true), (m64 xs) = (m64 (aX W xs ys s b l es)), (false = true → false = true), (m64 ys) = (m64 (aY W xs ys s b l es)), (s : Int) = s, (b : Int) = (aB W xs ys s b l es), (l : Int) = l, (p : Int) = p, (q : Int) = q, ((List.map logS []) : List SV) = [], (0 : Int) = (aE W xs ys s b l es)] (by kernel_rfl) ⟨rfl, id, (by first | rfl | exact congrArg _ (lo_end ‹raR _ _ _ _ _ = _› (by omega)).1.symm | exact congrArg _ (lo_end ‹raR _ _ _ _ _ = _› (by omega)).2.1.symm | exact congrArg _ (lo_fail ‹raR _ _ _ _ _ = _› (i := j1) (by omega) (by omega) (by omega) (by omega) (by omega)).1.symm | exact congrArg _ (lo_fail ‹raR _ _ _ _ _ = _› (i := j1) (by omega) (by omega) (by omega) (by omega) (by omega)).2.1.symm | exact congrArg _ (lo_nil ‹_› (by omega)).1.symm | exact congrArg _ (lo_nil ‹_› (by omega)).2.1.symm), id, (by first | rfl | exact congrArg _ (lo_end ‹raR _ _ _ _ _ = _› (by omega)).1.symm | exact congrArg _ (lo_end ‹raR _ _ _ _ _ = _› (by omega)).2.1.symm | exact congrArg _ (lo_fail ‹raR _ _ _ _ _ = _› (i := j1) (by omega) (by omega) (by omega) (by omega) (by omega)).1.symm | exact congrArg _ (lo_fail ‹raR _ _ _ _ _ = _› (i := j1) (by omega) (by omega) (by omega) (by omega) (by omega)).2.1.symm | exact congrArg _ (lo_nil ‹_› (by omega)).1.symm | exact congrArg _ (lo_nil ‹_› (by omega)).2.1.symm), rfl, (by first | omega | assumption | rfl | (have hq := lo_nil (W := W) (s := s) (l := l) (xs := xs) (ys := ys) (b := b) (L := L) (es := es) ‹_› (by omega); omega) | (have hq := lo_nil (W := W) (s := s) (l := l) (xs := xs) (ys := ys) (b := b) (L := L) (es := es) ‹_› (by omega); have hz : (flt ([] : List (List Ent))).length = 0 := rfl; omega) | exact Lgs.nil | (simp; omega)), rfl, rfl, rfl, (by first | rfl | exact congrArg _ (lo_end ‹raR _ _ _ _ _ = _› (by omega)).1.symm | exact congrArg _ (lo_end ‹raR _ _ _ _ _ = _› (by omega)).2.1.symm | exact congrArg _ (lo_fail ‹raR _ _ _ _ _ = _› (i := j1) (by omega) (by omega) (by omega) (by omega) (by omega)).1.symm | exact congrArg _ (lo_fail ‹raR _ _ _ _ _ = _› (i := j1) (by omega) (by omega) (by omega) (by omega) (by omega)).2.1.symm | exact congrArg _ (lo_nil ‹_› (by omega)).1.symm | exact congrArg _ (lo_nil ‹_› (by omega)).2.1.symm), (by first | omega | assumption | rfl | (have hq := lo_nil (W := W) (s := s) (l := l) (xs := xs) (ys := ys) (b := b) (L := L) (es := es) ‹_› (by omega); omega) | (have hq := lo_nil (W := W) (s := s) (l := l) (xs := xs) (ys := ys) (b := b) (L := L) (es := es) ‹_› (by omega); have hz : (flt ([] : List (List Ent))).length = 0 := rfl; omega) | exact Lgs.nil | (simp; omega)), trivial⟩) (⟨[], (by first | omega | assumption | rfl | (have hq := lo_nil (W := W) (s := s) (l := l) (xs := xs) (ys := ys) (b := b) (L := L) (es := es) ‹_› (by omega); omega) | (have hq := lo_nil (W := W) (s := s) (l := l) (xs := xs) (ys := ys) (b := b) (L := L) (es := es) ‹_› (by omega); have hz : (flt ([] : List (List Ent))).length = 0 := rfl; omega) | exact Lgs.nil | (simp; omega)), (by first | omega | assumption | rfl | (have hq := lo_nil (W := W) (s := s) (l := l) (xs := xs) (ys := ys) (b := b) (L := L) (es := es) ‹_› (by omega); omega) | (have hq := lo_nil (W := W) (s := s) (l := l) (xs := xs) (ys := ys) (b := b) (L := L) (es := es) ‹_› (by omega); have hz : (flt ([] : List (List Ent))).length = 0 := rfl; omega) | exact Lgs.nil | (simp; omega)), (by first | omega | assumption | rfl | (have hq := lo_nil (W := W) (s := s) (l := l) (xs := xs) (ys := ys) (b := b) (L := L) (es := es) ‹_› (by omega); omega) | (have hq := lo_nil (W := W) (s := s) (l := l) (xs := xs) (ys := ys) (b := b) (L := L) (es := es) ‹_› (by omega); have hz : (flt ([] : List (List Ent))).length = 0 := rfl; omega) | exact Lgs.nil | (simp; omega)), rfl⟩)
 ·
  refine en ?_
  refine an ?_
  refine cf ?_
  refine xw_skip ?_
  refine an ?_
  refine xw_seq ?_
  refine reg ?_
  refine rk [] 3 0 ⟨[(7, .own 3), (2, .nils)], [(3, .row 1 40 (([]) ++ ((List.map logS L)))), (1, .cells z8 31), (0, .cells (mr W xs ys (r5 s b l p q)) 31)], 4⟩ [(∀ y ∈ ((List.map logS L) : List SV), ElemOk y) ∧ (false = true → 1 ≤ ((List.map logS L) : List SV).length ∧ ∀ x ∈ ([] : List SV), ElemOk x) ∧ (([] : List SV).length + ((List.map logS L) : List SV).length) * 24 ≤ 140737488355328 ∧ ([] : List SV).length + ((List.map logS L) : List SV).length ≤ 4611686018427387904] ⟨⟨elem_log, (fun h => by cases h), by first | omega | (simp only [len_st]; omega) | (simp; done) | (simp; omega) | (simp [len_st, len_stx, len_sty, len_zx, len_zy]; omega), by first | omega | (simp only [len_st]; omega) | (simp; done) | (simp; omega) | (simp [len_st, len_stx, len_sty, len_zx, len_zy]; omega)⟩, trivial⟩ ?_
  refine setr 3 (z := 1) (E := 40) (L := (([]) ++ ((List.map logS L)))) (L' := (List.map logS L)) (by kernel_rfl) nil_app ?_
  refine rk [] 1 3 ⟨[(2, .own 3)], [(3, .row 1 40 (List.map logS L)), (1, .cells z8 31), (0, .cells (mr W xs ys (r5 s b l p q)) 31)], 4⟩ [] trivial ?_
  refine en ?_
  refine an ?_
  refine xw_ret ?_
  refine ⟨.own 3, by kernel_rfl, ?_⟩
  show XOi _ _ _ _ _ _ _ ⟨[(16, .own 3), (15, .sl false 1 (List.map logS L)), (6, .int .i64 0), (5, .nils), (4, .loc 1 0), (2, .loc 0 0), (1, .sl false 1 (List.map logS L))], [(3, .row 1 40 (List.map logS L)), (1, .cells [.int .i64 0, .nils, .nils, .int .i64 0, .int .i64 0, .int .i64 0, .int .i64 0, .int .i64 0] 31), (0, .cells (mr W xs ys [.int .i64 s, .int .i64 b, .int .i64 l, .int .i64 p, .int .i64 q]) 31)], 4⟩
  refine rk [] 1 2 ⟨[(1, .own 3), (6, .i 0), (5, .nils), (4, .p 1), (2, .p 0)], [(3, .row 1 40 (List.map logS L)), (1, .cells z8 31), (0, .cells (mr W xs ys (r5 s b l p q)) 31)], 4⟩ [] trivial ?_
  refine en ?_
  refine an ?_
  refine xw_block ?_
  refine xw_loop (α := {qq : List Int × List Int × Int × List (List Ent) // ((qq.1.length : Int) = W) ∧ ((qq.2.1.length : Int) = W) ∧ (U64s qq.1) ∧ (U64s qq.2.1) ∧ (b ≤ qq.2.2.1 ∧ qq.2.2.1 ≤ l) ∧ (Lgs qq.2.2.2) ∧ ((qq.2.2.2.length : Int) = (L.length : Int)) ∧ (raR W s l (xs, ys, b) es = addn (((flt L).length : Int) - ((flt qq.2.2.2).length : Int)) (raR W s l (qq.1, qq.2.1, qq.2.2.1) (flt qq.2.2.2)))}) (fun pp => ⟨[(1, .own 3), (6, .i 0), (5, .nils), (4, .p 1), (2, .p 0)], [(3, .row 1 40 (List.map logS pp.1.2.2.2)), (1, .cells z8 31), (0, .cells (mr W pp.1.1 pp.1.2.1 [.i s, .i pp.1.2.2.1, .i l, .i p, .i q]) 31)], 4⟩) (fun pp => (((flt pp.1.2.2.2).length : Int)).toNat) ⟨(xs, ys, b, L), ⟨(show (xs.length : Int) = W by omega), (show (ys.length : Int) = W by omega), (show U64s xs by omega), (show U64s ys by omega), (show b ≤ b ∧ b ≤ l by omega), (show Lgs L by omega), (show (L.length : Int) = (L.length : Int) by omega), (show raR W s l (xs, ys, b) es = addn (((flt L).length : Int) - ((flt L).length : Int)) (raR W s l (xs, ys, b) (flt L)) by first | exact lo_0b ‹_› | exact lo_next2 ‹raR _ _ _ _ _ = _› (by omega) (by omega) (by omega) (by omega) (by omega))⟩⟩ (le_of [] [(0 : Int) = 0, ((List.map logS L) : List SV) = (List.map logS L), (0 : Int) = 0, (0 : Int) = 0, (0 : Int) = 0, (0 : Int) = 0, (0 : Int) = 0, (0 : Int) = 0, (W : Int) = W, (false = true → false = true), ((m64 xs) : List SV) = (m64 xs), (false = true → false = true), ((m64 ys) : List SV) = (m64 ys), (s : Int) = s, (b : Int) = b, (l : Int) = l, (p : Int) = p, (q : Int) = q] (by kernel_rfl) ⟨rfl, rfl, rfl, rfl, rfl, rfl, rfl, rfl, rfl, id, rfl, id, rfl, rfl, rfl, rfl, rfl, rfl, trivial⟩) ?_
  rintro ⟨⟨xs1, ys1, b1, L1⟩, h1, h2, h3, h4, h5, h6, h7, h8⟩
  try dsimp only at h1 h2 h3 h4 h5 h6 h7 h8
  show XW _ _ _ _ _ _ ⟨[(1, .own 3), (6, .int .i64 0), (5, .nils), (4, .loc 1 0), (2, .loc 0 0)], [(3, .row 1 40 (List.map logS L1)), (1, .cells [.int .i64 0, .nils, .nils, .int .i64 0, .int .i64 0, .int .i64 0, .int .i64 0, .int .i64 0] 31), (0, .cells (mr W xs1 ys1 [.int .i64 s, .int .i64 b1, .int .i64 l, .int .i64 p, .int .i64 q]) 31)], 4⟩
  have h9 : 0 < ((flt L1).length : Int) ∨ (((flt L1).length : Int) = 0 ∧ (aN W xs ys s b l es) = ((flt L).length : Int) ∧ (aE W xs ys s b l es) = 0 ∧ (aB W xs ys s b l es) = b1) := lo_e1 ‹_›
  refine xw_block ?_
  refine xw_seq ?_
  refine reg ?_
  refine rk [] 1 0 ⟨[(18, .own 3), (1, .own 3), (6, .i 0), (5, .nils), (4, .p 1), (2, .p 0)], [(3, .row 1 40 (List.map logS L1)), (1, .cells z8 31), (0, .cells (mr W xs1 ys1 (r5 s b1 l p q)) 31)], 4⟩ [] trivial ?_
  refine callx (f := 18) (args := [.own 3]) (d := (some 19)) (by kernel_rfl) (xcall_of TT_ok Try.func18 rfl (by decide) (Nat.le_of_ble_eq_true (by kernel_rfl)) ?_)
  refine rg [] 2 ⟨[(3, .f), (2, .i 0), (0, .own 3)], [(3, .row 1 40 (List.map logS L1)), (1, .cells z8 31), (0, .cells (mr W xs1 ys1 (r5 s b1 l p q)) 31)], 4⟩ [] trivial ?_
  refine xw_scope_u 0 1 rfl ?_
  refine rg [] 2 ⟨[(5, .f), (4, .i 0), (3, .f), (2, .i 0), (0, .own 3)], [(3, .row 1 40 (List.map logS L1)), (1, .cells z8 31), (0, .cells (mr W xs1 ys1 (r5 s b1 l p q)) 31)], 4⟩ [] trivial ?_
  refine xw_seq ?_
  refine xw_label ?_
  refine an ?_
  refine xw_seq ?_
  refine rg [(1, .i ((L1).length : Int))] 3 ⟨[(10, .i 0), (9, .i ((L1).length : Int)), (8, .own 3), (5, .f), (4, .i 0), (3, .f), (2, .i 0), (0, .own 3)], [(3, .row 1 40 (List.map logS L1)), (1, .cells z8 31), (0, .cells (mr W xs1 ys1 (r5 s b1 l p q)) 31)], 4⟩ [((((List.map logS L1)).length : Nat) : Int) = ((L1).length : Int)] ⟨(by simp), trivial⟩ ?_
  refine xw_block ?_
  refine xw_loop (α := {qq : Int // (0 ≤ qq) ∧ (qq ≤ (L1.length : Int)) ∧ ((mny L1 qq) = 0)}) (fun pp => ⟨[(10, .i pp.1), (9, .i ((L1).length : Int)), (8, .own 3), (5, .f), (4, .i 0), (3, .f), (2, .i 0), (0, .own 3)], [(3, .row 1 40 (List.map logS L1)), (1, .cells z8 31), (0, .cells (mr W xs1 ys1 (r5 s b1 l p q)) 31)], 4⟩) (fun pp => ((L1.length : Int) - pp.1).toNat) ⟨0, ⟨(by omega), (by omega), (by first | omega | exact mny_0 _)⟩⟩ (le_of [] [(0 : Int) = 0, (((L1).length : Int) : Int) = ((L1).length : Int), false = false, (0 : Int) = 0, false = false, (0 : Int) = 0, ((List.map logS L1) : List SV) = (List.map logS L1), (0 : Int) = 0, (0 : Int) = 0, (0 : Int) = 0, (0 : Int) = 0, (0 : Int) = 0, (0 : Int) = 0, (W : Int) = W, (false = true → false = true), ((m64 xs1) : List SV) = (m64 xs1), (false = true → false = true), ((m64 ys1) : List SV) = (m64 ys1), (s : Int) = s, (b1 : Int) = b1, (l : Int) = l, (p : Int) = p, (q : Int) = q] (by kernel_rfl) ⟨rfl, rfl, rfl, rfl, rfl, rfl, rfl, rfl, rfl, rfl, rfl, rfl, rfl, rfl, id, rfl, id, rfl, rfl, rfl, rfl, rfl, rfl, trivial⟩) ?_
  rintro ⟨j1, h10, h11, h12⟩
  show XW _ _ _ _ _ _ ⟨[(10, .int .i64 j1), (9, .int .i64 ((L1).length : Int)), (8, .own 3), (5, .bool false), (4, .int .i64 0), (3, .bool false), (2, .int .i64 0), (0, .own 3)], [(3, .row 1 40 (List.map logS L1)), (1, .cells [.int .i64 0, .nils, .nils, .int .i64 0, .int .i64 0, .int .i64 0, .int .i64 0, .int .i64 0] 31), (0, .cells (mr W xs1 ys1 [.int .i64 s, .int .i64 b1, .int .i64 l, .int .i64 p, .int .i64 q]) 31)], 4⟩
  have h13 : (j1 < (L1.length : Int) ∧ (mny L1 (j1 + 1)) = (mny L1 j1) + ((lg L1 j1).length : Int)) ∨ ((L1.length : Int) ≤ j1 ∧ (mny L1 j1) = ((flt L1).length : Int)) := mny_or (by omega)
  refine rg [(0, .bool (decide (j1 < ((L1).length : Int))))] 1 ⟨[(11, .bool (decide (j1 < ((L1).length : Int)))), (10, .i j1), (9, .i ((L1).length : Int)), (8, .own 3), (5, .f), (4, .i 0), (3, .f), (2, .i 0), (0, .own 3)], [(3, .row 1 40 (List.map logS L1)), (1, .cells z8 31), (0, .cells (mr W xs1 ys1 (r5 s b1 l p q)) 31)], 4⟩ [(decide (j1 < ((L1).length : Int))) = (decide (j1 < ((L1).length : Int)))] ⟨rfl, trivial⟩ ?_
  refine xw_seq ?_
  refine xw_cond (b := (decide (j1 < ((L1).length : Int)))) (by kernel_rfl) (fun h14 => ?_) (fun h14 => ?_)
  ·
   replace h14 : j1 < (L1.length : Int) := of_decide_eq_true h14
   refine xw_skip ?_
   refine an ?_
   refine xw_seq ?_
   refine xw_block ?_
   refine xw_seq ?_
   refine reg ?_
   refine rk [(2, .sl false 2 (List.map entS (lg L1 j1)))] 3 0 ⟨[(14, .sl false 2 (List.map entS (lg L1 j1))), (12, .i j1), (10, .i j1), (9, .i ((L1).length : Int)), (8, .own 3), (5, .f), (4, .i 0), (3, .f), (2, .i 0), (0, .own 3)], [(3, .row 1 40 (List.map logS L1)), (1, .cells z8 31), (0, .cells (mr W xs1 ys1 (r5 s b1 l p q)) 31)], 4⟩ [(0 : Int) ≤ j1 ∧ j1 < ((((List.map logS L1)).length : Nat) : Int), ((List.map logS L1))[(j1 : Int).toNat]? = some (.sl false 2 (List.map entS (lg L1 j1)))] ⟨⟨by omega, (by first | omega | (simp only [len_st]; omega) | (simp; done) | (simp; omega) | (simp [len_st, len_stx, len_sty, len_zx, len_zy]; omega))⟩, ((ix_log (by omega) (by first | omega | (simp only [len_st]; omega) | (simp; done) | (simp; omega) | (simp [len_st, len_stx, len_sty, len_zx, len_zy]; omega))).2.2), trivial⟩ ?_
   have h15 : Ents (lg L1 j1) := (Lgs.lg (by first | assumption | exact U64s.st (by assumption) _ (by omega)) _).1
   have h16 : ((lg L1 j1).length : Int) ≤ 8796093022208 := (Lgs.lg (by first | assumption | exact U64s.st (by assumption) _ (by omega)) _).2
   refine rk [] 2 3 ⟨[(7, .sl false 2 (List.map entS (lg L1 j1))), (6, .i j1), (10, .i j1), (9, .i ((L1).length : Int)), (8, .own 3), (5, .f), (4, .i 0), (3, .f), (2, .i 0), (0, .own 3)], [(3, .row 1 40 (List.map logS L1)), (1, .cells z8 31), (0, .cells (mr W xs1 ys1 (r5 s b1 l p q)) 31)], 4⟩ [] trivial ?_
   refine en ?_
   refine an ?_
   refine rg [(1, .i (((lg L1 j1)).length : Int)), (2, .bool (decide (0 < (((lg L1 j1)).length : Int))))] 3 ⟨[(17, .bool (decide (0 < (((lg L1 j1)).length : Int)))), (6, .i j1), (10, .i j1), (9, .i ((L1).length : Int)), (8, .own 3), (5, .f), (4, .i 0), (3, .f), (2, .i 0), (0, .own 3)], [(3, .row 1 40 (List.map logS L1)), (1, .cells z8 31), (0, .cells (mr W xs1 ys1 (r5 s b1 l p q)) 31)], 4⟩ [((((List.map entS (lg L1 j1))).length : Nat) : Int) = (((lg L1 j1)).length : Int), (decide (0 < (((lg L1 j1)).length : Int))) = (decide (0 < (((lg L1 j1)).length : Int)))] ⟨(by simp), rfl, trivial⟩ ?_
   refine xw_cond (b := (decide (0 < (((lg L1 j1)).length : Int)))) (by kernel_rfl) (fun h17 => ?_) (fun h17 => ?_)
   ·
    replace h17 : 0 < ((lg L1 j1).length : Int) := of_decide_eq_true h17
    refine rg [] 3 ⟨[(5, .t), (4, .i j1), (10, .i j1), (9, .i ((L1).length : Int)), (8, .own 3), (3, .f), (2, .i 0), (0, .own 3)], [(3, .row 1 40 (List.map logS L1)), (1, .cells z8 31), (0, .cells (mr W xs1 ys1 (r5 s b1 l p q)) 31)], 4⟩ [] trivial ?_
    refine xw_exit ?_
    refine ib_exit (by kernel_rfl) ?_
    refine an_exit ?_
    refine ag_exit ?_
    refine ib_same ?_
    refine an ?_
    refine rg [] 4 ⟨[(3, .t), (2, .i j1), (5, .t), (4, .i j1), (0, .own 3)], [(3, .row 1 40 (List.map logS L1)), (1, .cells z8 31), (0, .cells (mr W xs1 ys1 (r5 s b1 l p q)) 31)], 4⟩ [] trivial ?_
    refine xw_ret ?_
    refine juu_ret ?_
    refine ⟨.tup [.i j1, .t], by kernel_rfl, ?_⟩
    show XOi _ _ _ _ _ _ _ ⟨[(19, .tup [.int .i64 j1, .bool true]), (18, .own 3), (1, .own 3), (6, .int .i64 0), (5, .nils), (4, .loc 1 0), (2, .loc 0 0)], [(3, .row 1 40 (List.map logS L1)), (1, .cells [.int .i64 0, .nils, .nils, .int .i64 0, .int .i64 0, .int .i64 0, .int .i64 0, .int .i64 0] 31), (0, .cells (mr W xs1 ys1 [.int .i64 s, .int .i64 b1, .int .i64 l, .int .i64 p, .int .i64 q]) 31)], 4⟩
    refine rk [] 5 2 ⟨[(8, .t), (7, .i j1), (1, .own 3), (6, .i 0), (5, .nils), (4, .p 1), (2, .p 0)], [(3, .row 1 40 (List.map logS L1)), (1, .cells z8 31), (0, .cells (mr W xs1 ys1 (r5 s b1 l p q)) 31)], 4⟩ [] trivial ?_
    refine en ?_
    refine an ?_
    refine xw_seq ?_
    refine rg [] 2 ⟨[(23, .f), (7, .i j1), (1, .own 3), (6, .i 0), (5, .nils), (4, .p 1), (2, .p 0)], [(3, .row 1 40 (List.map logS L1)), (1, .cells z8 31), (0, .cells (mr W xs1 ys1 (r5 s b1 l p q)) 31)], 4⟩ [] trivial ?_
    refine cf ?_
    refine xw_skip ?_
    refine an ?_
    refine xw_seq ?_
    refine reg ?_
    refine rk [(3, .sl false 2 (List.map entS (lg L1 j1)))] 4 0 ⟨[(30, .sl false 2 (List.map entS (lg L1 j1))), (7, .i j1), (1, .own 3), (6, .i 0), (5, .nils), (4, .p 1), (2, .p 0)], [(3, .row 1 40 (List.map logS L1)), (1, .cells z8 31), (0, .cells (mr W xs1 ys1 (r5 s b1 l p q)) 31)], 4⟩ [(0 : Int) ≤ j1 ∧ j1 < ((((List.map logS L1)).length : Nat) : Int), ((List.map logS L1))[(j1 : Int).toNat]? = some (.sl false 2 (List.map entS (lg L1 j1)))] ⟨⟨by omega, (by first | omega | (simp only [len_st]; omega) | (simp; done) | (simp; omega) | (simp [len_st, len_stx, len_sty, len_zx, len_zy]; omega))⟩, ((ix_log (by omega) (by first | omega | (simp only [len_st]; omega) | (simp; done) | (simp; omega) | (simp [len_st, len_stx, len_sty, len_zx, len_zy]; omega))).2.2), trivial⟩ ?_
    have h18 : Ents (lg L1 j1) := (Lgs.lg (by first | assumption | exact U64s.st (by assumption) _ (by omega)) _).1
    have h19 : ((lg L1 j1).length : Int) ≤ 8796093022208 := (Lgs.lg (by first | assumption | exact U64s.st (by assumption) _ (by omega)) _).2
    refine pc (lfirst_2 (lg L1 j1) ‹_› ‹_› ‹_›) ?_
    have h20 : (0 ≤ (eO (lg L1 j1) 0) ∧ (eO (lg L1 j1) 0) ≤ 18446744073709551615) ∧ (-9223372036854775808 ≤ (eF (lg L1 j1) 0) ∧ (eF (lg L1 j1) 0) ≤ 9223372036854775807) := Ents.at ‹_› _
    refine rk [] 8 5 ⟨[(10, .sl false 2 (List.map entS ((lg L1 j1).drop 1))), (9, .p 4), (7, .i j1), (1, .own 3), (6, .i 0), (5, .nils), (4, .p 1), (2, .p 0)], [(4, .cells [.u (eO (lg L1 j1) 0), .i (eF (lg L1 j1) 0)] 56), (3, .row 1 40 (List.map logS L1)), (1, .cells z8 31), (0, .cells (mr W xs1 ys1 (r5 s b1 l p q)) 31)], 5⟩ [True] ⟨trivial, trivial⟩ ?_
    refine en ?_
    refine an ?_
    refine xw_seq ?_
    refine reg ?_
    refine rk [(2, .t)] 3 0 ⟨[(38, .sl false 2 (List.map entS [((eO (lg L1 j1) 0), (eF (lg L1 j1) 0))])), (36, .agg (mr W xs1 ys1 (r5 s b1 l p q))), (10, .sl false 2 (List.map entS ((lg L1 j1).drop 1))), (7, .i j1), (1, .own 3), (6, .i 0), (5, .nils), (4, .p 1), (2, .p 0)], [(3, .row 1 40 (List.map logS L1)), (1, .cells z8 31), (0, .cells (mr W xs1 ys1 (r5 s b1 l p q)) 31)], 5⟩ [True, True] ⟨trivial, trivial, trivial⟩ ?_
    refine pcall1 (args := [.agg (mr W xs1 ys1 (r5 s b1 l p q)), .sl false 2 (List.map entS [((eO (lg L1 j1) 0), (eF (lg L1 j1) 0))])]) (args' := [.agg (mr W xs1 ys1 (r5 s b1 l p q)), .sl false 2 (List.map entS [ ((eO (lg L1 j1) 0) , (eF (lg L1 j1) 0)) ])]) (d := (some 39)) (sv := .tup [.agg (mr W (aX W xs1 ys1 s b1 l [ ((eO (lg L1 j1) 0) , (eF (lg L1 j1) 0)) ]) (aY W xs1 ys1 s b1 l [ ((eO (lg L1 j1) 0) , (eF (lg L1 j1) 0)) ]) (r5 s (aB W xs1 ys1 s b1 l [ ((eO (lg L1 j1) 0) , (eF (lg L1 j1) 0)) ]) l p q)), .i (aN W xs1 ys1 s b1 l [ ((eO (lg L1 j1) 0) , (eF (lg L1 j1) 0)) ]), .i (aE W xs1 ys1 s b1 l [ ((eO (lg L1 j1) 0) , (eF (lg L1 j1) 0)) ])]) (by kernel_rfl) (rall W xs1 ys1 s b1 l p q [ ((eO (lg L1 j1) 0) , (eF (lg L1 j1) 0)) ] ‹_› ‹_› ‹_› ‹_› ‹_› (by omega) ‹_› (by omega) (by first | omega | assumption | rfl | (rw [len_zx]; assumption) | (rw [len_zy]; assumption) | exact U64s.zx (by assumption) _ _ | exact U64s.zy (by assumption) _ _ | exact U64s.rep _ | decide | (simp; done) | exact Ents.one (by omega) (by omega) | exact Ents.app ‹_› ‹_› | exact Lgs.two ‹_› ‹_› (by omega) (by omega) | exact flt_two _ _ | (simp; omega) | (simp; done)) (by first | omega | assumption | rfl | (rw [len_zx]; assumption) | (rw [len_zy]; assumption) | exact U64s.zx (by assumption) _ _ | exact U64s.zy (by assumption) _ _ | exact U64s.rep _ | decide | (simp; done) | exact Ents.one (by omega) (by omega) | exact Ents.app ‹_› ‹_› | exact Lgs.two ‹_› ‹_› (by omega) (by omega) | exact flt_two _ _ | (simp; omega) | (simp; done))) [(W : Int) = W, (false = true → false = true), ((m64 xs1) : List SV) = (m64 xs1), (false = true → false = true), ((m64 ys1) : List SV) = (m64 ys1), (s : Int) = s, (b1 : Int) = b1, (l : Int) = l, (p : Int) = p, (q : Int) = q, (false = true → false = true), ((List.map entS [((eO (lg L1 j1) 0), (eF (lg L1 j1) 0))]) : List SV) = (List.map entS [ ((eO (lg L1 j1) 0) , (eF (lg L1 j1) 0)) ])] (by kernel_rfl) ⟨rfl, id, rfl, id, rfl, rfl, rfl, rfl, rfl, rfl, id, rfl, trivial⟩ (by kernel_rfl) ?_
    obtain ⟨h21, h22, h23, h24, h25, h26⟩ := a_ok W xs1 ys1 s b1 l [ ((eO (lg L1 j1) 0) , (eF (lg L1 j1) 0)) ] ‹_› ‹_› ‹_› ‹_› (by omega) (by omega)
    have h27 : 0 ≤ (aN W xs1 ys1 s b1 l [ ((eO (lg L1 j1) 0) , (eF (lg L1 j1) 0)) ]) ∧ (aN W xs1 ys1 s b1 l [ ((eO (lg L1 j1) 0) , (eF (lg L1 j1) 0)) ]) ≤ ([ ((eO (lg L1 j1) 0) , (eF (lg L1 j1) 0)) ].length : Int) := aN_le
    have h28 : ((aN W xs1 ys1 s b1 l [ ((eO (lg L1 j1) 0) , (eF (lg L1 j1) 0)) ]) = ([ ((eO (lg L1 j1) 0) , (eF (lg L1 j1) 0)) ].length : Int) ∧ (aE W xs1 ys1 s b1 l [ ((eO (lg L1 j1) 0) , (eF (lg L1 j1) 0)) ]) = 0) ∨ ((aN W xs1 ys1 s b1 l [ ((eO (lg L1 j1) 0) , (eF (lg L1 j1) 0)) ]) < ([ ((eO (lg L1 j1) 0) , (eF (lg L1 j1) 0)) ].length : Int) ∧ (aE W xs1 ys1 s b1 l [ ((eO (lg L1 j1) 0) , (eF (lg L1 j1) 0)) ]) ≠ 0) := aN_iff
    have h29 : (aN W xs1 ys1 s b1 l [ ((eO (lg L1 j1) 0) , (eF (lg L1 j1) 0)) ]) ≠ 0 ∨ ((aN W xs ys s b l es) = ((flt L).length : Int) - ((flt L1).length : Int) ∧ (aE W xs ys s b l es) = (aE W xs1 ys1 s b1 l [ ((eO (lg L1 j1) 0) , (eF (lg L1 j1) 0)) ]) ∧ (aB W xs ys s b l es) = b1) := lo_f1 ‹raR _ _ _ _ _ = _› (by omega) (by omega) (by omega) (by omega)
    refine rk [] 8 4 ⟨[(14, .i (aE W xs1 ys1 s b1 l [ ((eO (lg L1 j1) 0) , (eF (lg L1 j1) 0)) ])), (13, .i (aN W xs1 ys1 s b1 l [ ((eO (lg L1 j1) 0) , (eF (lg L1 j1) 0)) ])), (12, .p 5), (10, .sl false 2 (List.map entS ((lg L1 j1).drop 1))), (7, .i j1), (1, .own 3), (6, .i 0), (5, .nils), (4, .p 1), (2, .p 0)], [(5, .cells (mr W (aX W xs1 ys1 s b1 l [ ((eO (lg L1 j1) 0) , (eF (lg L1 j1) 0)) ]) (aY W xs1 ys1 s b1 l [ ((eO (lg L1 j1) 0) , (eF (lg L1 j1) 0)) ]) (r5 s (aB W xs1 ys1 s b1 l [ ((eO (lg L1 j1) 0) , (eF (lg L1 j1) 0)) ]) l p q)) 31), (3, .row 1 40 (List.map logS L1)), (1, .cells z8 31), (0, .cells (mr W xs1 ys1 (r5 s b1 l p q)) 31)], 6⟩ [True] ⟨trivial, trivial⟩ ?_
    refine en ?_
    refine an ?_
    refine xw_seq ?_
    refine rg [(1, .bool ((aN W xs1 ys1 s b1 l [ ((eO (lg L1 j1) 0) , (eF (lg L1 j1) 0)) ]) == 0))] 2 ⟨[(44, .bool ((aN W xs1 ys1 s b1 l [ ((eO (lg L1 j1) 0) , (eF (lg L1 j1) 0)) ]) == 0)), (14, .i (aE W xs1 ys1 s b1 l [ ((eO (lg L1 j1) 0) , (eF (lg L1 j1) 0)) ])), (12, .p 5), (10, .sl false 2 (List.map entS ((lg L1 j1).drop 1))), (7, .i j1), (1, .own 3), (6, .i 0), (5, .nils), (4, .p 1), (2, .p 0)], [(5, .cells (mr W (aX W xs1 ys1 s b1 l [ ((eO (lg L1 j1) 0) , (eF (lg L1 j1) 0)) ]) (aY W xs1 ys1 s b1 l [ ((eO (lg L1 j1) 0) , (eF (lg L1 j1) 0)) ]) (r5 s (aB W xs1 ys1 s b1 l [ ((eO (lg L1 j1) 0) , (eF (lg L1 j1) 0)) ]) l p q)) 31), (3, .row 1 40 (List.map logS L1)), (1, .cells z8 31), (0, .cells (mr W xs1 ys1 (r5 s b1 l p q)) 31)], 6⟩ [((aN W xs1 ys1 s b1 l [ ((eO (lg L1 j1) 0) , (eF (lg L1 j1) 0)) ]) == 0) = ((aN W xs1 ys1 s b1 l [ ((eO (lg L1 j1) 0) , (eF (lg L1 j1) 0)) ]) == 0)] ⟨rfl, trivial⟩ ?_
    refine xw_cond (b := ((aN W xs1 ys1 s b1 l [ ((eO (lg L1 j1) 0) , (eF (lg L1 j1) 0)) ]) == 0)) (by kernel_rfl) (fun h30 => ?_) (fun h30 => ?_)
    ·
     replace h30 : (aN W xs1 ys1 s b1 l [ ((eO (lg L1 j1) 0) , (eF (lg L1 j1) 0)) ]) = 0 := eq_of_beq h30
     refine rg [] 6 ⟨[(6, .i (aE W xs1 ys1 s b1 l [ ((eO (lg L1 j1) 0) , (eF (lg L1 j1) 0)) ])), (5, .own 3), (12, .p 5), (10, .sl false 2 (List.map entS ((lg L1 j1).drop 1))), (7, .i j1), (1, .own 3), (4, .p 1), (2, .p 0)], [(5, .cells (mr W (aX W xs1 ys1 s b1 l [ ((eO (lg L1 j1) 0) , (eF (lg L1 j1) 0)) ]) (aY W xs1 ys1 s b1 l [ ((eO (lg L1 j1) 0) , (eF (lg L1 j1) 0)) ]) (r5 s (aB W xs1 ys1 s b1 l [ ((eO (lg L1 j1) 0) , (eF (lg L1 j1) 0)) ]) l p q)) 31), (3, .row 1 40 (List.map logS L1)), (1, .cells (mr W xs1 ys1 (r5 s b1 l p q)) 31), (0, .cells (mr W xs1 ys1 (r5 s b1 l p q)) 31)], 6⟩ [True, True] ⟨trivial, trivial, trivial⟩ ?_
     refine xw_ret ?_
     refine an_ret ?_
     refine ib_ret ?_
     refine ag_ret ?_
     refine ib_ret ?_
     exact bk_ret (.tup [.agg (mr W xs1 ys1 (r5 s b1 l p q)), .own 3, .i (aE W xs1 ys1 s b1 l [ ((eO (lg L1 j1) 0) , (eF (lg L1 j1) 0)) ])]) (.tup [.agg (mr W xs1 ys1 (r5 s b1 l p q)), .sl false 1 (List.map logS L1), .i (aE W xs1 ys1 s b1 l [ ((eO (lg L1 j1) 0) , (eF (lg L1 j1) 0)) ])]) (.tup [.agg (mr W (aX W xs ys s b l es) (aY W xs ys s b l es) (r5 s (aB W xs ys s b l es) l p q)), .sl false 1 (List.map logS L1), .i (aE W xs ys s b l es)]) (by kernel_rfl) (by kernel_rfl) (wkd [(W : Int) = W, (false = true → false = true), (m64 xs1) = (m64 (aX W xs ys s b l es)), (false = true → false = true), (m64 ys1) = (m64 (aY W xs ys s b l es)), (s : Int) = s, (b1 : Int) = (aB W xs ys s b l es), (l : Int) = l, (p : Int) = p, (q : Int) = q, (false = true → false = true), (List.map logS L1) = (List.map logS L1), ((aE W xs1 ys1 s b1 l [ ((eO (lg L1 j1) 0) , (eF (lg L1 j1) 0)) ]) : Int) = (aE W xs ys s b l es)] (by kernel_rfl) ⟨rfl, id, (by first | rfl | exact congrArg _ (lo_end ‹raR _ _ _ _ _ = _› (by omega)).1.symm | exact congrArg _ (lo_end ‹raR _ _ _ _ _ = _› (by omega)).2.1.symm | exact congrArg _ (lo_fail ‹raR _ _ _ _ _ = _› (i := j1) (by omega) (by omega) (by omega) (by omega) (by omega)).1.symm | exact congrArg _ (lo_fail ‹raR _ _ _ _ _ = _› (i := j1) (by omega) (by omega) (by omega) (by omega) (by omega)).2.1.symm | exact congrArg _ (lo_nil ‹_› (by omega)).1.symm | exact congrArg _ (lo_nil ‹_› (by omega)).2.1.symm), id, (by first | rfl | exact congrArg _ (lo_end ‹raR _ _ _ _ _ = _› (by omega)).1.symm | exact congrArg _ (lo_end ‹raR _ _ _ _ _ = _› (by omega)).2.1.symm | exact congrArg _ (lo_fail ‹raR _ _ _ _ _ = _› (i := j1) (by omega) (by omega) (by omega) (by omega) (by omega)).1.symm | exact congrArg _ (lo_fail ‹raR _ _ _ _ _ = _› (i := j1) (by omega) (by omega) (by omega) (by omega) (by omega)).2.1.symm | exact congrArg _ (lo_nil ‹_› (by omega)).1.symm | exact congrArg _ (lo_nil ‹_› (by omega)).2.1.symm), rfl, (by omega), rfl, rfl, rfl, id, rfl, (by omega), trivial⟩) (⟨L1, (by omega), (by omega), (by omega), rfl⟩)
    ·
     replace h30 : (aN W xs1 ys1 s b1 l [ ((eO (lg L1 j1) 0) , (eF (lg L1 j1) 0)) ]) ≠ 0 := ne_of_beq_false h30
     refine xw_skip ?_
     refine an ?_
     refine reg ?_
     refine rk [] 7 0 ⟨[(1, .own 3), (6, .i 0), (5, .nils), (4, .p 1), (2, .p 0)], [(3, .row 1 40 (((List.map logS L1)).set ((j1 : Int).toNat) (.sl false 2 (List.map entS ((lg L1 j1).drop 1))))), (1, .cells z8 31), (0, .cells (mr W (aX W xs1 ys1 s b1 l [ ((eO (lg L1 j1) 0) , (eF (lg L1 j1) 0)) ]) (aY W xs1 ys1 s b1 l [ ((eO (lg L1 j1) 0) , (eF (lg L1 j1) 0)) ]) (r5 s (aB W xs1 ys1 s b1 l [ ((eO (lg L1 j1) 0) , (eF (lg L1 j1) 0)) ]) l p q)) 31)], 6⟩ [True, True, (0 : Int) ≤ j1 ∧ j1 < ((((List.map logS L1)).length : Nat) : Int), ((j1 : Int).toNat) < ((List.map logS L1)).length] ⟨trivial, trivial, ⟨by omega, (by first | omega | (simp only [len_st]; omega) | (simp; done) | (simp; omega) | (simp [len_st, len_stx, len_sty, len_zx, len_zy]; omega))⟩, (by first | omega | (simp only [len_st]; omega) | (simp; done) | (simp; omega) | (simp [len_st, len_stx, len_sty, len_zx, len_zy]; omega)), trivial⟩ ?_
     refine setr 3 (z := 1) (E := 40) (L := (((List.map logS L1)).set ((j1 : Int).toNat) (.sl false 2 (List.map entS ((lg L1 j1).drop 1))))) (L' := (List.map logS (List.set L1 ((j1 : Int).toNat) ((lg L1 j1).drop 1)))) (by kernel_rfl) mapf_set ?_
     refine en ?_
     refine ib ?_
     exact ag ⟨((aX W xs1 ys1 s b1 l [ ((eO (lg L1 j1) 0) , (eF (lg L1 j1) 0)) ]), (aY W xs1 ys1 s b1 l [ ((eO (lg L1 j1) 0) , (eF (lg L1 j1) 0)) ]), (aB W xs1 ys1 s b1 l [ ((eO (lg L1 j1) 0) , (eF (lg L1 j1) 0)) ]), (List.set L1 ((j1 : Int).toNat) ((lg L1 j1).drop 1))), ⟨(show ((aX W xs1 ys1 s b1 l [ ((eO (lg L1 j1) 0) , (eF (lg L1 j1) 0)) ]).length : Int) = W by omega), (show ((aY W xs1 ys1 s b1 l [ ((eO (lg L1 j1) 0) , (eF (lg L1 j1) 0)) ]).length : Int) = W by omega), (show U64s (aX W xs1 ys1 s b1 l [ ((eO (lg L1 j1) 0) , (eF (lg L1 j1) 0)) ]) by omega), (show U64s (aY W xs1 ys1 s b1 l [ ((eO (lg L1 j1) 0) , (eF (lg L1 j1) 0)) ]) by omega), (show b ≤ (aB W xs1 ys1 s b1 l [ ((eO (lg L1 j1) 0) , (eF (lg L1 j1) 0)) ]) ∧ (aB W xs1 ys1 s b1 l [ ((eO (lg L1 j1) 0) , (eF (lg L1 j1) 0)) ]) ≤ l by omega), (show Lgs (List.set L1 ((j1 : Int).toNat) ((lg L1 j1).drop 1)) by first | assumption | exact Lgs.stl ‹_› _ (Ents.drop ‹_› _) (by simp only [List.length_drop]; omega)), (show ((List.set L1 ((j1 : Int).toNat) ((lg L1 j1).drop 1)).length : Int) = (L.length : Int) by first | rfl | (simp only [List.length_set]; omega)), (show raR W s l (xs, ys, b) es = addn (((flt L).length : Int) - ((flt (List.set L1 ((j1 : Int).toNat) ((lg L1 j1).drop 1))).length : Int)) (raR W s l ((aX W xs1 ys1 s b1 l [ ((eO (lg L1 j1) 0) , (eF (lg L1 j1) 0)) ]), (aY W xs1 ys1 s b1 l [ ((eO (lg L1 j1) 0) , (eF (lg L1 j1) 0)) ]), (aB W xs1 ys1 s b1 l [ ((eO (lg L1 j1) 0) , (eF (lg L1 j1) 0)) ])) (flt (List.set L1 ((j1 : Int).toNat) ((lg L1 j1).drop 1)))) by first | exact lo_0b ‹_› | exact lo_next2 ‹raR _ _ _ _ _ = _› (by omega) (by omega) (by omega) (by omega) (by omega))⟩⟩ (le_of [] [(0 : Int) = 0, ((List.map logS (List.set L1 ((j1 : Int).toNat) ((lg L1 j1).drop 1))) : List SV) = (List.map logS (List.set L1 ((j1 : Int).toNat) ((lg L1 j1).drop 1))), (0 : Int) = 0, (0 : Int) = 0, (0 : Int) = 0, (0 : Int) = 0, (0 : Int) = 0, (0 : Int) = 0, (W : Int) = W, (false = true → false = true), ((m64 (aX W xs1 ys1 s b1 l [ ((eO (lg L1 j1) 0) , (eF (lg L1 j1) 0)) ])) : List SV) = (m64 (aX W xs1 ys1 s b1 l [ ((eO (lg L1 j1) 0) , (eF (lg L1 j1) 0)) ])), (false = true → false = true), ((m64 (aY W xs1 ys1 s b1 l [ ((eO (lg L1 j1) 0) , (eF (lg L1 j1) 0)) ])) : List SV) = (m64 (aY W xs1 ys1 s b1 l [ ((eO (lg L1 j1) 0) , (eF (lg L1 j1) 0)) ])), (s : Int) = s, ((aB W xs1 ys1 s b1 l [ ((eO (lg L1 j1) 0) , (eF (lg L1 j1) 0)) ]) : Int) = (aB W xs1 ys1 s b1 l [ ((eO (lg L1 j1) 0) , (eF (lg L1 j1) 0)) ]), (l : Int) = l, (p : Int) = p, (q : Int) = q] (by kernel_rfl) ⟨rfl, rfl, rfl, rfl, rfl, rfl, rfl, rfl, rfl, id, rfl, id, rfl, rfl, rfl, rfl, rfl, rfl, trivial⟩) (by show (((flt (List.set L1 ((j1 : Int).toNat) ((lg L1 j1).drop 1))).length : Int)).toNat < (((flt L1).length : Int)).toNat; first | omega | (have hq := lo_less (L1 := L1) (i := j1) (by omega) (by omega) (by omega) (by omega); unfold stl at hq; omega))
   ·
    replace h17 : ¬ (0 < ((lg L1 j1).length : Int)) := of_decide_eq_false h17
    refine xw_skip ?_
    refine ib ?_
    refine an ?_
    refine re [(0, .i (j1 + 1))] 2 ⟨[(10, .i (j1 + 1)), (9, .i ((L1).length : Int)), (8, .own 3), (5, .f), (4, .i 0), (3, .f), (2, .i 0), (0, .own 3)], [(3, .row 1 40 (List.map logS L1)), (1, .cells z8 31), (0, .cells (mr W xs1 ys1 (r5 s b1 l p q)) 31)], 4⟩ [IntKind.i64.wrap (j1 + 1) = (j1 + 1)] ⟨i64_eq (by omega) (by omega), trivial⟩ ?_
    exact ag ⟨(j1 + 1), ⟨(by omega), (by omega), (by omega)⟩⟩ (le_of [] [((j1 + 1) : Int) = (j1 + 1), (((L1).length : Int) : Int) = ((L1).length : Int), false = false, (0 : Int) = 0, false = false, (0 : Int) = 0, ((List.map logS L1) : List SV) = (List.map logS L1), (0 : Int) = 0, (0 : Int) = 0, (0 : Int) = 0, (0 : Int) = 0, (0 : Int) = 0, (0 : Int) = 0, (W : Int) = W, (false = true → false = true), ((m64 xs1) : List SV) = (m64 xs1), (false = true → false = true), ((m64 ys1) : List SV) = (m64 ys1), (s : Int) = s, (b1 : Int) = b1, (l : Int) = l, (p : Int) = p, (q : Int) = q] (by kernel_rfl) ⟨rfl, rfl, rfl, rfl, rfl, rfl, rfl, rfl, rfl, rfl, rfl, rfl, rfl, rfl, id, rfl, id, rfl, rfl, rfl, rfl, rfl, rfl, trivial⟩) (by show ((L1.length : Int) - (j1 + 1)).toNat < ((L1.length : Int) - j1).toNat; omega)
  ·
   replace h14 : ¬ (j1 < (L1.length : Int)) := of_decide_eq_false h14
   refine xw_exit ?_
   refine an_exit ?_
   refine ag_exit ?_
   refine ib_same ?_
   refine an ?_
   refine rg [] 4 ⟨[(3, .f), (2, .i 0), (5, .f), (4, .i 0), (0, .own 3)], [(3, .row 1 40 (List.map logS L1)), (1, .cells z8 31), (0, .cells (mr W xs1 ys1 (r5 s b1 l p q)) 31)], 4⟩ [] trivial ?_
   refine xw_ret ?_
   refine juu_ret ?_
   refine ⟨.tup [.i 0, .f], by kernel_rfl, ?_⟩
   show XOi _ _ _ _ _ _ _ ⟨[(19, .tup [.int .i64 0, .bool false]), (18, .own 3), (1, .own 3), (6, .int .i64 0), (5, .nils), (4, .loc 1 0), (2, .loc 0 0)], [(3, .row 1 40 (List.map logS L1)), (1, .cells [.int .i64 0, .nils, .nils, .int .i64 0, .int .i64 0, .int .i64 0, .int .i64 0, .int .i64 0] 31), (0, .cells (mr W xs1 ys1 [.int .i64 s, .int .i64 b1, .int .i64 l, .int .i64 p, .int .i64 q]) 31)], 4⟩
   refine rk [] 5 2 ⟨[(8, .f), (7, .i 0), (1, .own 3), (6, .i 0), (5, .nils), (4, .p 1), (2, .p 0)], [(3, .row 1 40 (List.map logS L1)), (1, .cells z8 31), (0, .cells (mr W xs1 ys1 (r5 s b1 l p q)) 31)], 4⟩ [] trivial ?_
   refine en ?_
   refine an ?_
   refine xw_seq ?_
   refine rg [] 2 ⟨[(23, .t), (7, .i 0), (1, .own 3), (6, .i 0), (5, .nils), (4, .p 1), (2, .p 0)], [(3, .row 1 40 (List.map logS L1)), (1, .cells z8 31), (0, .cells (mr W xs1 ys1 (r5 s b1 l p q)) 31)], 4⟩ [] trivial ?_
   refine ct ?_
   refine rg [] 5 ⟨[(6, .i 0), (5, .own 3), (7, .i 0), (1, .own 3), (4, .p 1), (2, .p 0)], [(3, .row 1 40 (List.map logS L1)), (1, .cells (mr W xs1 ys1 (r5 s b1 l p q)) 31), (0, .cells (mr W xs1 ys1 (r5 s b1 l p q)) 31)], 4⟩ [True, True] ⟨trivial, trivial, trivial⟩ ?_
   refine xw_ret ?_
   refine an_ret ?_
   refine ib_ret ?_
   refine ag_ret ?_
   refine ib_ret ?_
   exact bk_ret (.tup [.agg (mr W xs1 ys1 (r5 s b1 l p q)), .own 3, .i 0]) (.tup [.agg (mr W xs1 ys1 (r5 s b1 l p q)), .sl false 1 (List.map logS L1), .i 0]) (.tup [.agg (mr W (aX W xs ys s b l es) (aY W xs ys s b l es) (r5 s (aB W xs ys s b l es) l p q)), .sl false 1 (List.map logS L1), .i (aE W xs ys s b l es)]) (by kernel_rfl) (by kernel_rfl) (wkd [(W : Int) = W, (false = true → false = true), (m64 xs1) = (m64 (aX W xs ys s b l es)), (false = true → false = true), (m64 ys1) = (m64 (aY W xs ys s b l es)), (s : Int) = s, (b1 : Int) = (aB W xs ys s b l es), (l : Int) = l, (p : Int) = p, (q : Int) = q, (false = true → false = true), (List.map logS L1) = (List.map logS L1), (0 : Int) = (aE W xs ys s b l es)] (by kernel_rfl) ⟨rfl, id, (by first | rfl | exact congrArg _ (lo_end ‹raR _ _ _ _ _ = _› (by omega)).1.symm | exact congrArg _ (lo_end ‹raR _ _ _ _ _ = _› (by omega)).2.1.symm | exact congrArg _ (lo_fail ‹raR _ _ _ _ _ = _› (i := j1) (by omega) (by omega) (by omega) (by omega) (by omega)).1.symm | exact congrArg _ (lo_fail ‹raR _ _ _ _ _ = _› (i := j1) (by omega) (by omega) (by omega) (by omega) (by omega)).2.1.symm | exact congrArg _ (lo_nil ‹_› (by omega)).1.symm | exact congrArg _ (lo_nil ‹_› (by omega)).2.1.symm), id, (by first | rfl | exact congrArg _ (lo_end ‹raR _ _ _ _ _ = _› (by omega)).1.symm | exact congrArg _ (lo_end ‹raR _ _ _ _ _ = _› (by omega)).2.1.symm | exact congrArg _ (lo_fail ‹raR _ _ _ _ _ = _› (i := j1) (by omega) (by omega) (by omega) (by omega) (by omega)).1.symm | exact congrArg _ (lo_fail ‹raR _ _ _ _ _ = _› (i := j1) (by omega) (by omega) (by omega) (by omega) (by omega)).2.1.symm | exact congrArg _ (lo_nil ‹_› (by omega)).1.symm | exact congrArg _ (lo_nil ‹_› (by omega)).2.1.symm), rfl, (by omega), rfl, rfl, rfl, id, rfl, (by omega), trivial⟩) (⟨L1, (by omega), (by omega), (by omega), rfl⟩)

end Go.Proofs.Ytnfkgfibinimmaa.X
