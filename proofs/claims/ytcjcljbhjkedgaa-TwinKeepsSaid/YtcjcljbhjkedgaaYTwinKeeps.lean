/- Contracts of Go functions: what each returns, for every input that its premises name; no memory of the caller is touched. Printed by a program. -/
import Derived.Test.YtcjcljbhjkedgaaXf2
namespace Go.Proofs.Ytcjcljbhjkedgaa.X
open Go Go.RowKit
set_option linter.unusedVariables false      -- a premise may serve only to tell which way is taken
set_option linter.unusedSimpArgs false
set_option maxHeartbeats 8000000 in
theorem twinKeeps (W : Int) (xs : List Int) (ys : List Int) (s : Int) (b : Int) (l : Int) (p : Int) (q : Int) (a : Int) (o : Int) (hp0 : -9223372036854775808 ≤ W ∧ W ≤ 9223372036854775807) (hp1 : U64s xs) (hp2 : U64s ys) (hp3 : -9223372036854775808 ≤ s ∧ s ≤ 9223372036854775807) (hp4 : -9223372036854775808 ≤ b ∧ b ≤ 9223372036854775807) (hp5 : -9223372036854775808 ≤ l ∧ l ≤ 9223372036854775807) (hp6 : -9223372036854775808 ≤ p ∧ p ≤ 9223372036854775807) (hp7 : -9223372036854775808 ≤ q ∧ q ≤ 9223372036854775807) (hp8 : 0 ≤ a ∧ a ≤ 18446744073709551615) (hp9 : 0 ≤ o ∧ o ≤ 18446744073709551615) : Pub Try.prog 8 [.agg (mm W xs ys ++ [.int .i64 s, .int .i64 b, .int .i64 l, .int .i64 p, .int .i64 q]), .int .u64 a, .int .u64 o] (fun rv => rv = .bool true) := by
 refine pub_of TT_ok Try.func8 rfl (by decide) (Nat.le_of_ble_eq_true (by kernel_rfl)) (by kernel_rfl) ?_
 refine rg [] 2 ⟨[(6, .f), (3, .p 0), (1, .u a), (2, .u o)], [(0, .cells (mm W xs ys ++ [.i s, .i b, .i l, .i p, .i q]) 54)], 1⟩ [] trivial ?_
 refine xw_seq ?_
 refine reg ?_
 refine pc (shown11 ) ?_
 refine rk [] 1 1 ⟨[(7, .t), (6, .f), (3, .p 0), (1, .u a), (2, .u o)], [(0, .cells (mm W xs ys ++ [.i s, .i b, .i l, .i p, .i q]) 54)], 1⟩ [] trivial ?_
 refine en ?_
 refine an ?_
 refine xw_seq ?_
 refine reg ?_
 refine rk [] 1 0 ⟨[(21, .agg (mm W xs ys ++ [.i s, .i b, .i l, .i p, .i q])), (7, .t), (6, .f), (3, .p 0), (1, .u a), (2, .u o)], [(0, .cells (mm W xs ys ++ [.i s, .i b, .i l, .i p, .i q]) 54)], 1⟩ [True] ⟨trivial, trivial⟩ ?_
 by_cases h0 : 16 ≤ W ∧ W ≤ 4096 ∧ (xs.length : Int) = W ∧ (ys.length : Int) = W ∧ (s = 0 ∨ s = 1) ∧ 0 ≤ b ∧ b ≤ l ∧ l ≤ 4096 ∧ l = W ∧ ((p = 0 ∧ q = 0) ∨ (0 ≤ p ∧ p ≤ q ∧ q ≤ b)) ∧ W ≤ 200
 ·
  refine pc (few11_1 W xs ys s b l p q ‹_› ‹_› ‹_› ‹_› ‹_› ‹_› ‹_›) ?_
  refine rk [] 1 2 ⟨[(8, .t), (7, .t), (6, .f), (3, .p 0), (1, .u a), (2, .u o)], [(0, .cells (mm W xs ys ++ [.i s, .i b, .i l, .i p, .i q]) 54)], 1⟩ [] trivial ?_
  refine en ?_
  refine an ?_
  refine xw_seq ?_
  refine rg [] 2 ⟨[(24, .f), (7, .t), (6, .f), (3, .p 0), (1, .u a), (2, .u o)], [(0, .cells (mm W xs ys ++ [.i s, .i b, .i l, .i p, .i q]) 54)], 1⟩ [] trivial ?_
  refine cf ?_
  refine xw_skip ?_
  refine an ?_
  refine xw_seq ?_
  refine reg ?_
  refine rk [] 2 0 ⟨[(28, .u a), (27, .agg (mm W xs ys ++ [.i s, .i b, .i l, .i p, .i q])), (7, .t), (6, .f), (3, .p 0), (1, .u a), (2, .u o)], [(0, .cells (mm W xs ys ++ [.i s, .i b, .i l, .i p, .i q]) 54)], 1⟩ [True] ⟨trivial, trivial⟩ ?_
  by_cases h1 : a = 0
  ·
   refine pc (tto_1 W xs ys s b l p q a (by omega) (by omega) (by omega) ‹_› ‹_› (by omega) (by omega) (by omega) ‹_› ‹_›) ?_
   refine rk [] 8 3 ⟨[(11, .i 0), (9, .p 1), (7, .t), (6, .f), (3, .p 0), (1, .u a), (2, .u o)], [(1, .cells (mm W xs ys ++ [.i s, .i b, .i l, .i p, .i q]) 54), (0, .cells (mm W xs ys ++ [.i s, .i b, .i l, .i p, .i q]) 54)], 2⟩ [True] ⟨trivial, trivial⟩ ?_
   refine en ?_
   refine an ?_
   refine xw_seq ?_
   refine reg ?_
   refine rk [] 3 0 ⟨[(36, .u o), (35, .agg (mm W xs ys)), (11, .i 0), (9, .p 1), (7, .t), (6, .f), (3, .p 0), (1, .u a), (2, .u o)], [(1, .cells (mm W xs ys ++ [.i s, .i b, .i l, .i p, .i q]) 54), (0, .cells (mm W xs ys ++ [.i s, .i b, .i l, .i p, .i q]) 54)], 2⟩ [True] ⟨trivial, trivial⟩ ?_
   by_cases h2 : 1 ≤ o / 4294967296 ∧ o / 4294967296 ≤ 2 ∧ o % 4294967296 < W
   ·
    refine pc (rload_1 W xs ys o (by omega) (by omega) (by omega) ‹_› ‹_› ‹_› (by omega)) ?_
    have h3 : 0 ≤ (ldw xs ys o) ∧ (ldw xs ys o) ≤ 18446744073709551615 := ldw_ok xs ys o ‹_› ‹_›
    refine rk [] 5 4 ⟨[(13, .i 0), (12, .u (ldw xs ys o)), (11, .i 0), (9, .p 1), (7, .t), (6, .f), (3, .p 0), (1, .u a), (2, .u o)], [(1, .cells (mm W xs ys ++ [.i s, .i b, .i l, .i p, .i q]) 54), (0, .cells (mm W xs ys ++ [.i s, .i b, .i l, .i p, .i q]) 54)], 2⟩ [] trivial ?_
    refine en ?_
    refine an ?_
    refine xw_seq ?_
    refine reg ?_
    refine rk [] 3 0 ⟨[(43, .u o), (42, .agg (mm W xs ys)), (13, .i 0), (12, .u (ldw xs ys o)), (11, .i 0), (9, .p 1), (7, .t), (6, .f), (3, .p 0), (1, .u a), (2, .u o)], [(1, .cells (mm W xs ys ++ [.i s, .i b, .i l, .i p, .i q]) 54), (0, .cells (mm W xs ys ++ [.i s, .i b, .i l, .i p, .i q]) 54)], 2⟩ [True] ⟨trivial, trivial⟩ ?_
    refine pc (rload_1 W xs ys o (by omega) (by omega) (by omega) ‹_› ‹_› ‹_› (by omega)) ?_
    refine rk [] 5 4 ⟨[(15, .i 0), (14, .u (ldw xs ys o)), (13, .i 0), (12, .u (ldw xs ys o)), (11, .i 0), (9, .p 1), (7, .t), (6, .f), (3, .p 0), (1, .u a), (2, .u o)], [(1, .cells (mm W xs ys ++ [.i s, .i b, .i l, .i p, .i q]) 54), (0, .cells (mm W xs ys ++ [.i s, .i b, .i l, .i p, .i q]) 54)], 2⟩ [] trivial ?_
    refine en ?_
    refine an ?_
    refine xw_seq ?_
    refine reg ?_
    refine rk [] 1 0 ⟨[(48, .u o), (15, .i 0), (14, .u (ldw xs ys o)), (13, .i 0), (12, .u (ldw xs ys o)), (11, .i 0), (9, .p 1), (7, .t), (6, .f), (3, .p 0), (1, .u a), (2, .u o)], [(1, .cells (mm W xs ys ++ [.i s, .i b, .i l, .i p, .i q]) 54), (0, .cells (mm W xs ys ++ [.i s, .i b, .i l, .i p, .i q]) 54)], 2⟩ [] trivial ?_
    refine pc (rwhere_1 o ‹_› (by omega)) ?_
    refine rk [] 7 2 ⟨[(18, .t), (17, .i (o % 4294967296)), (16, .i (o / 4294967296 - 1)), (15, .i 0), (14, .u (ldw xs ys o)), (13, .i 0), (12, .u (ldw xs ys o)), (11, .i 0), (9, .p 1), (7, .t), (6, .f), (3, .p 0), (1, .u a), (2, .u o)], [(1, .cells (mm W xs ys ++ [.i s, .i b, .i l, .i p, .i q]) 54), (0, .cells (mm W xs ys ++ [.i s, .i b, .i l, .i p, .i q]) 54)], 2⟩ [] trivial ?_
    refine en ?_
    refine an ?_
    refine xw_seq ?_
    refine reg ?_
    refine rk [(6, .bool ((o / 4294967296 - 1) == s))] 9 0 ⟨[(61, .bool ((o / 4294967296 - 1) == s)), (17, .i (o % 4294967296)), (15, .i 0), (14, .u (ldw xs ys o)), (13, .i 0), (12, .u (ldw xs ys o)), (11, .i 0), (9, .p 1), (7, .t), (6, .f), (3, .p 0), (1, .u a), (2, .u o)], [(1, .cells (mm W xs ys ++ [.i s, .i b, .i l, .i p, .i q]) 54), (0, .cells (mm W xs ys ++ [.i s, .i b, .i l, .i p, .i q]) 54)], 2⟩ [True, ((o / 4294967296 - 1) == s) = ((o / 4294967296 - 1) == s), True] ⟨trivial, rfl, trivial, trivial⟩ ?_
    refine splitr 61 (x := ((o / 4294967296 - 1) == s)) (by kernel_rfl) (fun h4 => ?_) (fun h4 => ?_)
    ·
     replace h4 : (o / 4294967296 - 1) = s := eq_of_beq h4
     refine rk [(13, .bool (decide (b ≤ (o % 4294967296))))] 7 9 ⟨[(68, .bool (decide (b ≤ (o % 4294967296)))), (17, .i (o % 4294967296)), (15, .i 0), (14, .u (ldw xs ys o)), (13, .i 0), (12, .u (ldw xs ys o)), (11, .i 0), (9, .p 1), (7, .t), (6, .f), (3, .p 0), (1, .u a), (2, .u o)], [(1, .cells (mm W xs ys ++ [.i s, .i b, .i l, .i p, .i q]) 54), (0, .cells (mm W xs ys ++ [.i s, .i b, .i l, .i p, .i q]) 54)], 2⟩ [True, (decide (b ≤ (o % 4294967296))) = (decide (b ≤ (o % 4294967296))), True] ⟨trivial, rfl, trivial, trivial⟩ ?_
     refine splitr 68 (x := (decide (b ≤ (o % 4294967296)))) (by kernel_rfl) (fun h5 => ?_) (fun h5 => ?_)
     ·
      replace h5 : b ≤ (o % 4294967296) := of_decide_eq_true h5
      refine rk [(20, .f)] 7 16 ⟨[(19, .f), (15, .i 0), (14, .u (ldw xs ys o)), (13, .i 0), (12, .u (ldw xs ys o)), (11, .i 0), (9, .p 1), (7, .t), (6, .f), (3, .p 0), (1, .u a), (2, .u o)], [(1, .cells (mm W xs ys ++ [.i s, .i b, .i l, .i p, .i q]) 54), (0, .cells (mm W xs ys ++ [.i s, .i b, .i l, .i p, .i q]) 54)], 2⟩ [True, (decide ((o % 4294967296) < b)) = false, True] ⟨trivial, decide_eq_false (by omega), trivial, trivial⟩ ?_
      refine en ?_
      refine an ?_
      refine rg [(4, .t), (9, .t), (25, .t), (29, .f), (37, .t), (47, .t)] 50 ⟨[(6, .t)], [], 2⟩ [(0 == 0) = true, True, ((ldw xs ys o) == (ldw xs ys o)) = true, True, True, True, True, True, ((p == p) && ((q == q) && true)) = true, True, (0 != 0) = false, True, True, (decide (b ≤ b)) = true, True, True, True, True, (s == s) = true, True] ⟨beq_iff_eq.2 (by omega), trivial, beq_iff_eq.2 (by omega), trivial, trivial, trivial, trivial, trivial, (by simp <;> omega), trivial, bne_eq_false_iff_eq.2 (by omega), trivial, trivial, decide_eq_true (by omega), trivial, trivial, trivial, trivial, beq_iff_eq.2 (by omega), trivial, trivial⟩ ?_
      refine xw_ret ?_
      exact bs (.t) rfl
     ·
      replace h5 : ¬ (b ≤ (o % 4294967296)) := of_decide_eq_false h5
      refine rk [] 7 16 ⟨[(19, .f), (15, .i 0), (14, .u (ldw xs ys o)), (13, .i 0), (12, .u (ldw xs ys o)), (11, .i 0), (9, .p 1), (7, .t), (6, .f), (3, .p 0), (1, .u a), (2, .u o)], [(1, .cells (mm W xs ys ++ [.i s, .i b, .i l, .i p, .i q]) 54), (0, .cells (mm W xs ys ++ [.i s, .i b, .i l, .i p, .i q]) 54)], 2⟩ [True] ⟨trivial, trivial⟩ ?_
      refine en ?_
      refine an ?_
      refine rg [(4, .t), (9, .t), (25, .t), (29, .f), (37, .t), (47, .t)] 50 ⟨[(6, .t)], [], 2⟩ [(0 == 0) = true, True, ((ldw xs ys o) == (ldw xs ys o)) = true, True, True, True, True, True, ((p == p) && ((q == q) && true)) = true, True, (0 != 0) = false, True, True, (decide (b ≤ b)) = true, True, True, True, True, (s == s) = true, True] ⟨beq_iff_eq.2 (by omega), trivial, beq_iff_eq.2 (by omega), trivial, trivial, trivial, trivial, trivial, (by simp <;> omega), trivial, bne_eq_false_iff_eq.2 (by omega), trivial, trivial, decide_eq_true (by omega), trivial, trivial, trivial, trivial, beq_iff_eq.2 (by omega), trivial, trivial⟩ ?_
      refine xw_ret ?_
      exact bs (.t) rfl
    ·
     replace h4 : (o / 4294967296 - 1) ≠ s := ne_of_beq_false h4
     refine rk [] 14 9 ⟨[(19, .f), (15, .i 0), (14, .u (ldw xs ys o)), (13, .i 0), (12, .u (ldw xs ys o)), (11, .i 0), (9, .p 1), (7, .t), (6, .f), (3, .p 0), (1, .u a), (2, .u o)], [(1, .cells (mm W xs ys ++ [.i s, .i b, .i l, .i p, .i q]) 54), (0, .cells (mm W xs ys ++ [.i s, .i b, .i l, .i p, .i q]) 54)], 2⟩ [True, True] ⟨trivial, trivial, trivial⟩ ?_
     refine en ?_
     refine an ?_
     refine rg [(4, .t), (9, .t), (25, .t), (29, .f), (37, .t), (47, .t)] 50 ⟨[(6, .t)], [], 2⟩ [(0 == 0) = true, True, ((ldw xs ys o) == (ldw xs ys o)) = true, True, True, True, True, True, ((p == p) && ((q == q) && true)) = true, True, (0 != 0) = false, True, True, (decide (b ≤ b)) = true, True, True, True, True, (s == s) = true, True] ⟨beq_iff_eq.2 (by omega), trivial, beq_iff_eq.2 (by omega), trivial, trivial, trivial, trivial, trivial, (by simp <;> omega), trivial, bne_eq_false_iff_eq.2 (by omega), trivial, trivial, decide_eq_true (by omega), trivial, trivial, trivial, trivial, beq_iff_eq.2 (by omega), trivial, trivial⟩ ?_
     refine xw_ret ?_
     exact bs (.t) rfl
   ·
    refine pc (rload_2 W xs ys o (by omega) (by omega) (by omega) ‹_› ‹_› ‹_› (by omega)) ?_
    refine rk [] 5 4 ⟨[(13, .i 2), (12, .u 0), (11, .i 0), (9, .p 1), (7, .t), (6, .f), (3, .p 0), (1, .u a), (2, .u o)], [(1, .cells (mm W xs ys ++ [.i s, .i b, .i l, .i p, .i q]) 54), (0, .cells (mm W xs ys ++ [.i s, .i b, .i l, .i p, .i q]) 54)], 2⟩ [] trivial ?_
    refine en ?_
    refine an ?_
    refine xw_seq ?_
    refine reg ?_
    refine rk [] 3 0 ⟨[(43, .u o), (42, .agg (mm W xs ys)), (13, .i 2), (12, .u 0), (11, .i 0), (9, .p 1), (7, .t), (6, .f), (3, .p 0), (1, .u a), (2, .u o)], [(1, .cells (mm W xs ys ++ [.i s, .i b, .i l, .i p, .i q]) 54), (0, .cells (mm W xs ys ++ [.i s, .i b, .i l, .i p, .i q]) 54)], 2⟩ [True] ⟨trivial, trivial⟩ ?_
    refine pc (rload_2 W xs ys o (by omega) (by omega) (by omega) ‹_› ‹_› ‹_› (by omega)) ?_
    refine rk [] 5 4 ⟨[(15, .i 2), (14, .u 0), (13, .i 2), (12, .u 0), (11, .i 0), (9, .p 1), (7, .t), (6, .f), (3, .p 0), (1, .u a), (2, .u o)], [(1, .cells (mm W xs ys ++ [.i s, .i b, .i l, .i p, .i q]) 54), (0, .cells (mm W xs ys ++ [.i s, .i b, .i l, .i p, .i q]) 54)], 2⟩ [] trivial ?_
    refine en ?_
    refine an ?_
    refine xw_seq ?_
    refine reg ?_
    refine rk [] 1 0 ⟨[(48, .u o), (15, .i 2), (14, .u 0), (13, .i 2), (12, .u 0), (11, .i 0), (9, .p 1), (7, .t), (6, .f), (3, .p 0), (1, .u a), (2, .u o)], [(1, .cells (mm W xs ys ++ [.i s, .i b, .i l, .i p, .i q]) 54), (0, .cells (mm W xs ys ++ [.i s, .i b, .i l, .i p, .i q]) 54)], 2⟩ [] trivial ?_
    by_cases h3 : 1 ≤ o / 4294967296 ∧ o / 4294967296 ≤ 2
    ·
     refine pc (rwhere_1 o ‹_› (by omega)) ?_
     refine rk [] 7 2 ⟨[(18, .t), (17, .i (o % 4294967296)), (16, .i (o / 4294967296 - 1)), (15, .i 2), (14, .u 0), (13, .i 2), (12, .u 0), (11, .i 0), (9, .p 1), (7, .t), (6, .f), (3, .p 0), (1, .u a), (2, .u o)], [(1, .cells (mm W xs ys ++ [.i s, .i b, .i l, .i p, .i q]) 54), (0, .cells (mm W xs ys ++ [.i s, .i b, .i l, .i p, .i q]) 54)], 2⟩ [] trivial ?_
     refine en ?_
     refine an ?_
     refine xw_seq ?_
     refine reg ?_
     refine rk [(6, .bool ((o / 4294967296 - 1) == s))] 9 0 ⟨[(61, .bool ((o / 4294967296 - 1) == s)), (17, .i (o % 4294967296)), (15, .i 2), (14, .u 0), (13, .i 2), (12, .u 0), (11, .i 0), (9, .p 1), (7, .t), (6, .f), (3, .p 0), (1, .u a), (2, .u o)], [(1, .cells (mm W xs ys ++ [.i s, .i b, .i l, .i p, .i q]) 54), (0, .cells (mm W xs ys ++ [.i s, .i b, .i l, .i p, .i q]) 54)], 2⟩ [True, ((o / 4294967296 - 1) == s) = ((o / 4294967296 - 1) == s), True] ⟨trivial, rfl, trivial, trivial⟩ ?_
     refine splitr 61 (x := ((o / 4294967296 - 1) == s)) (by kernel_rfl) (fun h4 => ?_) (fun h4 => ?_)
     ·
      replace h4 : (o / 4294967296 - 1) = s := eq_of_beq h4
      refine rk [(13, .t), (20, .f)] 14 9 ⟨[(19, .f), (15, .i 2), (14, .u 0), (13, .i 2), (12, .u 0), (11, .i 0), (9, .p 1), (7, .t), (6, .f), (3, .p 0), (1, .u a), (2, .u o)], [(1, .cells (mm W xs ys ++ [.i s, .i b, .i l, .i p, .i q]) 54), (0, .cells (mm W xs ys ++ [.i s, .i b, .i l, .i p, .i q]) 54)], 2⟩ [True, (decide (b ≤ (o % 4294967296))) = true, True, True, (decide ((o % 4294967296) < b)) = false, True] ⟨trivial, decide_eq_true (by omega), trivial, trivial, decide_eq_false (by omega), trivial, trivial⟩ ?_
      refine en ?_
      refine an ?_
      refine rg [(4, .t), (9, .t), (25, .t), (29, .f), (37, .t), (47, .t)] 50 ⟨[(6, .t)], [], 2⟩ [(2 == 2) = true, True, (0 == 0) = true, True, True, True, True, True, ((p == p) && ((q == q) && true)) = true, True, (0 != 0) = false, True, True, (decide (b ≤ b)) = true, True, True, True, True, (s == s) = true, True] ⟨beq_iff_eq.2 (by omega), trivial, beq_iff_eq.2 (by omega), trivial, trivial, trivial, trivial, trivial, (by simp <;> omega), trivial, bne_eq_false_iff_eq.2 (by omega), trivial, trivial, decide_eq_true (by omega), trivial, trivial, trivial, trivial, beq_iff_eq.2 (by omega), trivial, trivial⟩ ?_
      refine xw_ret ?_
      exact bs (.t) rfl
     ·
      replace h4 : (o / 4294967296 - 1) ≠ s := ne_of_beq_false h4
      refine rk [] 14 9 ⟨[(19, .f), (15, .i 2), (14, .u 0), (13, .i 2), (12, .u 0), (11, .i 0), (9, .p 1), (7, .t), (6, .f), (3, .p 0), (1, .u a), (2, .u o)], [(1, .cells (mm W xs ys ++ [.i s, .i b, .i l, .i p, .i q]) 54), (0, .cells (mm W xs ys ++ [.i s, .i b, .i l, .i p, .i q]) 54)], 2⟩ [True, True] ⟨trivial, trivial, trivial⟩ ?_
      refine en ?_
      refine an ?_
      refine rg [(4, .t), (9, .t), (25, .t), (29, .f), (37, .t), (47, .t)] 50 ⟨[(6, .t)], [], 2⟩ [(2 == 2) = true, True, (0 == 0) = true, True, True, True, True, True, ((p == p) && ((q == q) && true)) = true, True, (0 != 0) = false, True, True, (decide (b ≤ b)) = true, True, True, True, True, (s == s) = true, True] ⟨beq_iff_eq.2 (by omega), trivial, beq_iff_eq.2 (by omega), trivial, trivial, trivial, trivial, trivial, (by simp <;> omega), trivial, bne_eq_false_iff_eq.2 (by omega), trivial, trivial, decide_eq_true (by omega), trivial, trivial, trivial, trivial, beq_iff_eq.2 (by omega), trivial, trivial⟩ ?_
      refine xw_ret ?_
      exact bs (.t) rfl
    ·
     refine pc (rwhere_2 o ‹_› (by omega)) ?_
     refine rk [] 7 2 ⟨[(18, .f), (17, .i 0), (16, .i 0), (15, .i 2), (14, .u 0), (13, .i 2), (12, .u 0), (11, .i 0), (9, .p 1), (7, .t), (6, .f), (3, .p 0), (1, .u a), (2, .u o)], [(1, .cells (mm W xs ys ++ [.i s, .i b, .i l, .i p, .i q]) 54), (0, .cells (mm W xs ys ++ [.i s, .i b, .i l, .i p, .i q]) 54)], 2⟩ [] trivial ?_
     refine en ?_
     refine an ?_
     refine rg [] 23 ⟨[(19, .f), (15, .i 2), (14, .u 0), (13, .i 2), (12, .u 0), (11, .i 0), (9, .p 1), (7, .t), (6, .f), (3, .p 0), (1, .u a), (2, .u o)], [(1, .cells (mm W xs ys ++ [.i s, .i b, .i l, .i p, .i q]) 54), (0, .cells (mm W xs ys ++ [.i s, .i b, .i l, .i p, .i q]) 54)], 2⟩ [True, True, True] ⟨trivial, trivial, trivial, trivial⟩ ?_
     refine rg [(4, .t), (9, .t), (25, .t), (29, .f), (37, .t), (47, .t)] 50 ⟨[(6, .t)], [], 2⟩ [(2 == 2) = true, True, (0 == 0) = true, True, True, True, True, True, ((p == p) && ((q == q) && true)) = true, True, (0 != 0) = false, True, True, (decide (b ≤ b)) = true, True, True, True, True, (s == s) = true, True] ⟨beq_iff_eq.2 (by omega), trivial, beq_iff_eq.2 (by omega), trivial, trivial, trivial, trivial, trivial, (by simp <;> omega), trivial, bne_eq_false_iff_eq.2 (by omega), trivial, trivial, decide_eq_true (by omega), trivial, trivial, trivial, trivial, beq_iff_eq.2 (by omega), trivial, trivial⟩ ?_
     refine xw_ret ?_
     exact bs (.t) rfl
  ·
   by_cases h2 : ¬ ((oErr W xs ys a) = 0)
   ·
    refine pc (tto_2 W xs ys s b l p q a (by omega) (by omega) (by omega) ‹_› ‹_› (by omega) (by omega) (by omega) ‹_› (by omega) ‹_›) ?_
    have h3 : (oErr W xs ys a) = 2 ∨ (oErr W xs ys a) = 10 := oErr_no W xs ys a (by omega)
    refine rk [] 8 3 ⟨[(11, .i (oErr W xs ys a)), (9, .p 1), (7, .t), (6, .f), (3, .p 0), (1, .u a), (2, .u o)], [(1, .cells (mm W xs ys ++ [.i s, .i b, .i l, .i p, .i q]) 54), (0, .cells (mm W xs ys ++ [.i s, .i b, .i l, .i p, .i q]) 54)], 2⟩ [True] ⟨trivial, trivial⟩ ?_
    refine en ?_
    refine an ?_
    refine xw_seq ?_
    refine reg ?_
    refine rk [] 3 0 ⟨[(36, .u o), (35, .agg (mm W xs ys)), (11, .i (oErr W xs ys a)), (9, .p 1), (7, .t), (6, .f), (3, .p 0), (1, .u a), (2, .u o)], [(1, .cells (mm W xs ys ++ [.i s, .i b, .i l, .i p, .i q]) 54), (0, .cells (mm W xs ys ++ [.i s, .i b, .i l, .i p, .i q]) 54)], 2⟩ [True] ⟨trivial, trivial⟩ ?_
    by_cases h4 : 1 ≤ o / 4294967296 ∧ o / 4294967296 ≤ 2 ∧ o % 4294967296 < W
    ·
     refine pc (rload_1 W xs ys o (by omega) (by omega) (by omega) ‹_› ‹_› ‹_› (by omega)) ?_
     have h5 : 0 ≤ (ldw xs ys o) ∧ (ldw xs ys o) ≤ 18446744073709551615 := ldw_ok xs ys o ‹_› ‹_›
     refine rk [] 5 4 ⟨[(13, .i 0), (12, .u (ldw xs ys o)), (11, .i (oErr W xs ys a)), (9, .p 1), (7, .t), (6, .f), (3, .p 0), (1, .u a), (2, .u o)], [(1, .cells (mm W xs ys ++ [.i s, .i b, .i l, .i p, .i q]) 54), (0, .cells (mm W xs ys ++ [.i s, .i b, .i l, .i p, .i q]) 54)], 2⟩ [] trivial ?_
     refine en ?_
     refine an ?_
     refine xw_seq ?_
     refine reg ?_
     refine rk [] 3 0 ⟨[(43, .u o), (42, .agg (mm W xs ys)), (13, .i 0), (12, .u (ldw xs ys o)), (11, .i (oErr W xs ys a)), (9, .p 1), (7, .t), (6, .f), (3, .p 0), (1, .u a), (2, .u o)], [(1, .cells (mm W xs ys ++ [.i s, .i b, .i l, .i p, .i q]) 54), (0, .cells (mm W xs ys ++ [.i s, .i b, .i l, .i p, .i q]) 54)], 2⟩ [True] ⟨trivial, trivial⟩ ?_
     refine pc (rload_1 W xs ys o (by omega) (by omega) (by omega) ‹_› ‹_› ‹_› (by omega)) ?_
     refine rk [] 5 4 ⟨[(15, .i 0), (14, .u (ldw xs ys o)), (13, .i 0), (12, .u (ldw xs ys o)), (11, .i (oErr W xs ys a)), (9, .p 1), (7, .t), (6, .f), (3, .p 0), (1, .u a), (2, .u o)], [(1, .cells (mm W xs ys ++ [.i s, .i b, .i l, .i p, .i q]) 54), (0, .cells (mm W xs ys ++ [.i s, .i b, .i l, .i p, .i q]) 54)], 2⟩ [] trivial ?_
     refine en ?_
     refine an ?_
     refine xw_seq ?_
     refine reg ?_
     refine rk [] 1 0 ⟨[(48, .u o), (15, .i 0), (14, .u (ldw xs ys o)), (13, .i 0), (12, .u (ldw xs ys o)), (11, .i (oErr W xs ys a)), (9, .p 1), (7, .t), (6, .f), (3, .p 0), (1, .u a), (2, .u o)], [(1, .cells (mm W xs ys ++ [.i s, .i b, .i l, .i p, .i q]) 54), (0, .cells (mm W xs ys ++ [.i s, .i b, .i l, .i p, .i q]) 54)], 2⟩ [] trivial ?_
     refine pc (rwhere_1 o ‹_› (by omega)) ?_
     refine rk [] 7 2 ⟨[(18, .t), (17, .i (o % 4294967296)), (16, .i (o / 4294967296 - 1)), (15, .i 0), (14, .u (ldw xs ys o)), (13, .i 0), (12, .u (ldw xs ys o)), (11, .i (oErr W xs ys a)), (9, .p 1), (7, .t), (6, .f), (3, .p 0), (1, .u a), (2, .u o)], [(1, .cells (mm W xs ys ++ [.i s, .i b, .i l, .i p, .i q]) 54), (0, .cells (mm W xs ys ++ [.i s, .i b, .i l, .i p, .i q]) 54)], 2⟩ [] trivial ?_
     refine en ?_
     refine an ?_
     refine xw_seq ?_
     refine reg ?_
     refine rk [(6, .bool ((o / 4294967296 - 1) == s))] 9 0 ⟨[(61, .bool ((o / 4294967296 - 1) == s)), (17, .i (o % 4294967296)), (15, .i 0), (14, .u (ldw xs ys o)), (13, .i 0), (12, .u (ldw xs ys o)), (11, .i (oErr W xs ys a)), (9, .p 1), (7, .t), (6, .f), (3, .p 0), (1, .u a), (2, .u o)], [(1, .cells (mm W xs ys ++ [.i s, .i b, .i l, .i p, .i q]) 54), (0, .cells (mm W xs ys ++ [.i s, .i b, .i l, .i p, .i q]) 54)], 2⟩ [True, ((o / 4294967296 - 1) == s) = ((o / 4294967296 - 1) == s), True] ⟨trivial, rfl, trivial, trivial⟩ ?_
     refine splitr 61 (x := ((o / 4294967296 - 1) == s)) (by kernel_rfl) (fun h6 => ?_) (fun h6 => ?_)
     ·
      replace h6 : (o / 4294967296 - 1) = s := eq_of_beq h6
      refine rk [(13, .bool (decide (b ≤ (o % 4294967296))))] 7 9 ⟨[(68, .bool (decide (b ≤ (o % 4294967296)))), (17, .i (o % 4294967296)), (15, .i 0), (14, .u (ldw xs ys o)), (13, .i 0), (12, .u (ldw xs ys o)), (11, .i (oErr W xs ys a)), (9, .p 1), (7, .t), (6, .f), (3, .p 0), (1, .u a), (2, .u o)], [(1, .cells (mm W xs ys ++ [.i s, .i b, .i l, .i p, .i q]) 54), (0, .cells (mm W xs ys ++ [.i s, .i b, .i l, .i p, .i q]) 54)], 2⟩ [True, (decide (b ≤ (o % 4294967296))) = (decide (b ≤ (o % 4294967296))), True] ⟨trivial, rfl, trivial, trivial⟩ ?_
      refine splitr 68 (x := (decide (b ≤ (o % 4294967296)))) (by kernel_rfl) (fun h7 => ?_) (fun h7 => ?_)
      ·
       replace h7 : b ≤ (o % 4294967296) := of_decide_eq_true h7
       refine rk [(20, .f)] 7 16 ⟨[(19, .f), (15, .i 0), (14, .u (ldw xs ys o)), (13, .i 0), (12, .u (ldw xs ys o)), (11, .i (oErr W xs ys a)), (9, .p 1), (7, .t), (6, .f), (3, .p 0), (1, .u a), (2, .u o)], [(1, .cells (mm W xs ys ++ [.i s, .i b, .i l, .i p, .i q]) 54), (0, .cells (mm W xs ys ++ [.i s, .i b, .i l, .i p, .i q]) 54)], 2⟩ [True, (decide ((o % 4294967296) < b)) = false, True] ⟨trivial, decide_eq_false (by omega), trivial, trivial⟩ ?_
       refine en ?_
       refine an ?_
       refine rg [(4, .t), (9, .t), (25, .t), (29, .t), (47, .t)] 50 ⟨[(6, .t)], [], 2⟩ [(0 == 0) = true, True, ((ldw xs ys o) == (ldw xs ys o)) = true, True, True, True, True, True, ((p == p) && ((q == q) && true)) = true, True, ((oErr W xs ys a) != 0) = true, True, True, True, True, (s == s) = true, True] ⟨beq_iff_eq.2 (by omega), trivial, beq_iff_eq.2 (by omega), trivial, trivial, trivial, trivial, trivial, (by simp <;> omega), trivial, bne_iff_ne.2 (by omega), trivial, trivial, trivial, trivial, beq_iff_eq.2 (by omega), trivial, trivial⟩ ?_
       refine xw_ret ?_
       exact bs (.t) rfl
      ·
       replace h7 : ¬ (b ≤ (o % 4294967296)) := of_decide_eq_false h7
       refine rk [] 7 16 ⟨[(19, .f), (15, .i 0), (14, .u (ldw xs ys o)), (13, .i 0), (12, .u (ldw xs ys o)), (11, .i (oErr W xs ys a)), (9, .p 1), (7, .t), (6, .f), (3, .p 0), (1, .u a), (2, .u o)], [(1, .cells (mm W xs ys ++ [.i s, .i b, .i l, .i p, .i q]) 54), (0, .cells (mm W xs ys ++ [.i s, .i b, .i l, .i p, .i q]) 54)], 2⟩ [True] ⟨trivial, trivial⟩ ?_
       refine en ?_
       refine an ?_
       refine rg [(4, .t), (9, .t), (25, .t), (29, .t), (47, .t)] 50 ⟨[(6, .t)], [], 2⟩ [(0 == 0) = true, True, ((ldw xs ys o) == (ldw xs ys o)) = true, True, True, True, True, True, ((p == p) && ((q == q) && true)) = true, True, ((oErr W xs ys a) != 0) = true, True, True, True, True, (s == s) = true, True] ⟨beq_iff_eq.2 (by omega), trivial, beq_iff_eq.2 (by omega), trivial, trivial, trivial, trivial, trivial, (by simp <;> omega), trivial, bne_iff_ne.2 (by omega), trivial, trivial, trivial, trivial, beq_iff_eq.2 (by omega), trivial, trivial⟩ ?_
       refine xw_ret ?_
       exact bs (.t) rfl
     ·
      replace h6 : (o / 4294967296 - 1) ≠ s := ne_of_beq_false h6
      refine rk [] 14 9 ⟨[(19, .f), (15, .i 0), (14, .u (ldw xs ys o)), (13, .i 0), (12, .u (ldw xs ys o)), (11, .i (oErr W xs ys a)), (9, .p 1), (7, .t), (6, .f), (3, .p 0), (1, .u a), (2, .u o)], [(1, .cells (mm W xs ys ++ [.i s, .i b, .i l, .i p, .i q]) 54), (0, .cells (mm W xs ys ++ [.i s, .i b, .i l, .i p, .i q]) 54)], 2⟩ [True, True] ⟨trivial, trivial, trivial⟩ ?_
      refine en ?_
      refine an ?_
      refine rg [(4, .t), (9, .t), (25, .t), (29, .t), (47, .t)] 50 ⟨[(6, .t)], [], 2⟩ [(0 == 0) = true, True, ((ldw xs ys o) == (ldw xs ys o)) = true, True, True, True, True, True, ((p == p) && ((q == q) && true)) = true, True, ((oErr W xs ys a) != 0) = true, True, True, True, True, (s == s) = true, True] ⟨beq_iff_eq.2 (by omega), trivial, beq_iff_eq.2 (by omega), trivial, trivial, trivial, trivial, trivial, (by simp <;> omega), trivial, bne_iff_ne.2 (by omega), trivial, trivial, trivial, trivial, beq_iff_eq.2 (by omega), trivial, trivial⟩ ?_
      refine xw_ret ?_
      exact bs (.t) rfl
    ·
     refine pc (rload_2 W xs ys o (by omega) (by omega) (by omega) ‹_› ‹_› ‹_› (by omega)) ?_
     refine rk [] 5 4 ⟨[(13, .i 2), (12, .u 0), (11, .i (oErr W xs ys a)), (9, .p 1), (7, .t), (6, .f), (3, .p 0), (1, .u a), (2, .u o)], [(1, .cells (mm W xs ys ++ [.i s, .i b, .i l, .i p, .i q]) 54), (0, .cells (mm W xs ys ++ [.i s, .i b, .i l, .i p, .i q]) 54)], 2⟩ [] trivial ?_
     refine en ?_
     refine an ?_
     refine xw_seq ?_
     refine reg ?_
     refine rk [] 3 0 ⟨[(43, .u o), (42, .agg (mm W xs ys)), (13, .i 2), (12, .u 0), (11, .i (oErr W xs ys a)), (9, .p 1), (7, .t), (6, .f), (3, .p 0), (1, .u a), (2, .u o)], [(1, .cells (mm W xs ys ++ [.i s, .i b, .i l, .i p, .i q]) 54), (0, .cells (mm W xs ys ++ [.i s, .i b, .i l, .i p, .i q]) 54)], 2⟩ [True] ⟨trivial, trivial⟩ ?_
     refine pc (rload_2 W xs ys o (by omega) (by omega) (by omega) ‹_› ‹_› ‹_› (by omega)) ?_
     refine rk [] 5 4 ⟨[(15, .i 2), (14, .u 0), (13, .i 2), (12, .u 0), (11, .i (oErr W xs ys a)), (9, .p 1), (7, .t), (6, .f), (3, .p 0), (1, .u a), (2, .u o)], [(1, .cells (mm W xs ys ++ [.i s, .i b, .i l, .i p, .i q]) 54), (0, .cells (mm W xs ys ++ [.i s, .i b, .i l, .i p, .i q]) 54)], 2⟩ [] trivial ?_
     refine en ?_
     refine an ?_
     refine xw_seq ?_
     refine reg ?_
     refine rk [] 1 0 ⟨[(48, .u o), (15, .i 2), (14, .u 0), (13, .i 2), (12, .u 0), (11, .i (oErr W xs ys a)), (9, .p 1), (7, .t), (6, .f), (3, .p 0), (1, .u a), (2, .u o)], [(1, .cells (mm W xs ys ++ [.i s, .i b, .i l, .i p, .i q]) 54), (0, .cells (mm W xs ys ++ [.i s, .i b, .i l, .i p, .i q]) 54)], 2⟩ [] trivial ?_
     by_cases h5 : 1 ≤ o / 4294967296 ∧ o / 4294967296 ≤ 2
     ·
      refine pc (rwhere_1 o ‹_› (by omega)) ?_
      refine rk [] 7 2 ⟨[(18, .t), (17, .i (o % 4294967296)), (16, .i (o / 4294967296 - 1)), (15, .i 2), (14, .u 0), (13, .i 2), (12, .u 0), (11, .i (oErr W xs ys a)), (9, .p 1), (7, .t), (6, .f), (3, .p 0), (1, .u a), (2, .u o)], [(1, .cells (mm W xs ys ++ [.i s, .i b, .i l, .i p, .i q]) 54), (0, .cells (mm W xs ys ++ [.i s, .i b, .i l, .i p, .i q]) 54)], 2⟩ [] trivial ?_
      refine en ?_
      refine an ?_
      refine xw_seq ?_
      refine reg ?_
      refine rk [(6, .bool ((o / 4294967296 - 1) == s))] 9 0 ⟨[(61, .bool ((o / 4294967296 - 1) == s)), (17, .i (o % 4294967296)), (15, .i 2), (14, .u 0), (13, .i 2), (12, .u 0), (11, .i (oErr W xs ys a)), (9, .p 1), (7, .t), (6, .f), (3, .p 0), (1, .u a), (2, .u o)], [(1, .cells (mm W xs ys ++ [.i s, .i b, .i l, .i p, .i q]) 54), (0, .cells (mm W xs ys ++ [.i s, .i b, .i l, .i p, .i q]) 54)], 2⟩ [True, ((o / 4294967296 - 1) == s) = ((o / 4294967296 - 1) == s), True] ⟨trivial, rfl, trivial, trivial⟩ ?_
      refine splitr 61 (x := ((o / 4294967296 - 1) == s)) (by kernel_rfl) (fun h6 => ?_) (fun h6 => ?_)
      ·
       replace h6 : (o / 4294967296 - 1) = s := eq_of_beq h6
       refine rk [(13, .t), (20, .f)] 14 9 ⟨[(19, .f), (15, .i 2), (14, .u 0), (13, .i 2), (12, .u 0), (11, .i (oErr W xs ys a)), (9, .p 1), (7, .t), (6, .f), (3, .p 0), (1, .u a), (2, .u o)], [(1, .cells (mm W xs ys ++ [.i s, .i b, .i l, .i p, .i q]) 54), (0, .cells (mm W xs ys ++ [.i s, .i b, .i l, .i p, .i q]) 54)], 2⟩ [True, (decide (b ≤ (o % 4294967296))) = true, True, True, (decide ((o % 4294967296) < b)) = false, True] ⟨trivial, decide_eq_true (by omega), trivial, trivial, decide_eq_false (by omega), trivial, trivial⟩ ?_
       refine en ?_
       refine an ?_
       refine rg [(4, .t), (9, .t), (25, .t), (29, .t), (47, .t)] 50 ⟨[(6, .t)], [], 2⟩ [(2 == 2) = true, True, (0 == 0) = true, True, True, True, True, True, ((p == p) && ((q == q) && true)) = true, True, ((oErr W xs ys a) != 0) = true, True, True, True, True, (s == s) = true, True] ⟨beq_iff_eq.2 (by omega), trivial, beq_iff_eq.2 (by omega), trivial, trivial, trivial, trivial, trivial, (by simp <;> omega), trivial, bne_iff_ne.2 (by omega), trivial, trivial, trivial, trivial, beq_iff_eq.2 (by omega), trivial, trivial⟩ ?_
       refine xw_ret ?_
       exact bs (.t) rfl
      ·
       replace h6 : (o / 4294967296 - 1) ≠ s := ne_of_beq_false h6
       refine rk [] 14 9 ⟨[(19, .f), (15, .i 2), (14, .u 0), (13, .i 2), (12, .u 0), (11, .i (oErr W xs ys a)), (9, .p 1), (7, .t), (6, .f), (3, .p 0), (1, .u a), (2, .u o)], [(1, .cells (mm W xs ys ++ [.i s, .i b, .i l, .i p, .i q]) 54), (0, .cells (mm W xs ys ++ [.i s, .i b, .i l, .i p, .i q]) 54)], 2⟩ [True, True] ⟨trivial, trivial, trivial⟩ ?_
       refine en ?_
       refine an ?_
       refine rg [(4, .t), (9, .t), (25, .t), (29, .t), (47, .t)] 50 ⟨[(6, .t)], [], 2⟩ [(2 == 2) = true, True, (0 == 0) = true, True, True, True, True, True, ((p == p) && ((q == q) && true)) = true, True, ((oErr W xs ys a) != 0) = true, True, True, True, True, (s == s) = true, True] ⟨beq_iff_eq.2 (by omega), trivial, beq_iff_eq.2 (by omega), trivial, trivial, trivial, trivial, trivial, (by simp <;> omega), trivial, bne_iff_ne.2 (by omega), trivial, trivial, trivial, trivial, beq_iff_eq.2 (by omega), trivial, trivial⟩ ?_
       refine xw_ret ?_
       exact bs (.t) rfl
     ·
      refine pc (rwhere_2 o ‹_› (by omega)) ?_
      refine rk [] 7 2 ⟨[(18, .f), (17, .i 0), (16, .i 0), (15, .i 2), (14, .u 0), (13, .i 2), (12, .u 0), (11, .i (oErr W xs ys a)), (9, .p 1), (7, .t), (6, .f), (3, .p 0), (1, .u a), (2, .u o)], [(1, .cells (mm W xs ys ++ [.i s, .i b, .i l, .i p, .i q]) 54), (0, .cells (mm W xs ys ++ [.i s, .i b, .i l, .i p, .i q]) 54)], 2⟩ [] trivial ?_
      refine en ?_
      refine an ?_
      refine rg [] 23 ⟨[(19, .f), (15, .i 2), (14, .u 0), (13, .i 2), (12, .u 0), (11, .i (oErr W xs ys a)), (9, .p 1), (7, .t), (6, .f), (3, .p 0), (1, .u a), (2, .u o)], [(1, .cells (mm W xs ys ++ [.i s, .i b, .i l, .i p, .i q]) 54), (0, .cells (mm W xs ys ++ [.i s, .i b, .i l, .i p, .i q]) 54)], 2⟩ [True, True, True] ⟨trivial, trivial, trivial, trivial⟩ ?_
      refine rg [(4, .t), (9, .t), (25, .t), (29, .t), (47, .t)] 50 ⟨[(6, .t)], [], 2⟩ [(2 == 2) = true, True, (0 == 0) = true, True, True, True, True, True, ((p == p) && ((q == q) && true)) = true, True, ((oErr W xs ys a) != 0) = true, True, True, True, True, (s == s) = true, True] ⟨beq_iff_eq.2 (by omega), trivial, beq_iff_eq.2 (by omega), trivial, trivial, trivial, trivial, trivial, (by simp <;> omega), trivial, bne_iff_ne.2 (by omega), trivial, trivial, trivial, trivial, beq_iff_eq.2 (by omega), trivial, trivial⟩ ?_
      refine xw_ret ?_
      exact bs (.t) rfl
   ·
    by_cases h3 : (ldw xs ys a / 72057594037927936) = 255
    ·
     refine pc (tto_3 W xs ys s b l p q a (by omega) (by omega) (by omega) ‹_› ‹_› (by omega) (by omega) (by omega) ‹_› (by omega) (by omega) ‹_›) ?_
     obtain ⟨h4, h5, h6⟩ := oErr_ok W xs ys a (by omega)
     refine rk [] 8 3 ⟨[(11, .i 8), (9, .p 1), (7, .t), (6, .f), (3, .p 0), (1, .u a), (2, .u o)], [(1, .cells (mm W xs ys ++ [.i s, .i b, .i l, .i p, .i q]) 54), (0, .cells (mm W xs ys ++ [.i s, .i b, .i l, .i p, .i q]) 54)], 2⟩ [True] ⟨trivial, trivial⟩ ?_
     refine en ?_
     refine an ?_
     refine xw_seq ?_
     refine reg ?_
     refine rk [] 3 0 ⟨[(36, .u o), (35, .agg (mm W xs ys)), (11, .i 8), (9, .p 1), (7, .t), (6, .f), (3, .p 0), (1, .u a), (2, .u o)], [(1, .cells (mm W xs ys ++ [.i s, .i b, .i l, .i p, .i q]) 54), (0, .cells (mm W xs ys ++ [.i s, .i b, .i l, .i p, .i q]) 54)], 2⟩ [True] ⟨trivial, trivial⟩ ?_
     by_cases h7 : 1 ≤ o / 4294967296 ∧ o / 4294967296 ≤ 2 ∧ o % 4294967296 < W
     ·
      refine pc (rload_1 W xs ys o (by omega) (by omega) (by omega) ‹_› ‹_› ‹_› (by omega)) ?_
      have h8 : 0 ≤ (ldw xs ys o) ∧ (ldw xs ys o) ≤ 18446744073709551615 := ldw_ok xs ys o ‹_› ‹_›
      refine rk [] 5 4 ⟨[(13, .i 0), (12, .u (ldw xs ys o)), (11, .i 8), (9, .p 1), (7, .t), (6, .f), (3, .p 0), (1, .u a), (2, .u o)], [(1, .cells (mm W xs ys ++ [.i s, .i b, .i l, .i p, .i q]) 54), (0, .cells (mm W xs ys ++ [.i s, .i b, .i l, .i p, .i q]) 54)], 2⟩ [] trivial ?_
      refine en ?_
      refine an ?_
      refine xw_seq ?_
      refine reg ?_
      refine rk [] 3 0 ⟨[(43, .u o), (42, .agg (mm W xs ys)), (13, .i 0), (12, .u (ldw xs ys o)), (11, .i 8), (9, .p 1), (7, .t), (6, .f), (3, .p 0), (1, .u a), (2, .u o)], [(1, .cells (mm W xs ys ++ [.i s, .i b, .i l, .i p, .i q]) 54), (0, .cells (mm W xs ys ++ [.i s, .i b, .i l, .i p, .i q]) 54)], 2⟩ [True] ⟨trivial, trivial⟩ ?_
      refine pc (rload_1 W xs ys o (by omega) (by omega) (by omega) ‹_› ‹_› ‹_› (by omega)) ?_
      refine rk [] 5 4 ⟨[(15, .i 0), (14, .u (ldw xs ys o)), (13, .i 0), (12, .u (ldw xs ys o)), (11, .i 8), (9, .p 1), (7, .t), (6, .f), (3, .p 0), (1, .u a), (2, .u o)], [(1, .cells (mm W xs ys ++ [.i s, .i b, .i l, .i p, .i q]) 54), (0, .cells (mm W xs ys ++ [.i s, .i b, .i l, .i p, .i q]) 54)], 2⟩ [] trivial ?_
      refine en ?_
      refine an ?_
      refine xw_seq ?_
      refine reg ?_
      refine rk [] 1 0 ⟨[(48, .u o), (15, .i 0), (14, .u (ldw xs ys o)), (13, .i 0), (12, .u (ldw xs ys o)), (11, .i 8), (9, .p 1), (7, .t), (6, .f), (3, .p 0), (1, .u a), (2, .u o)], [(1, .cells (mm W xs ys ++ [.i s, .i b, .i l, .i p, .i q]) 54), (0, .cells (mm W xs ys ++ [.i s, .i b, .i l, .i p, .i q]) 54)], 2⟩ [] trivial ?_
      refine pc (rwhere_1 o ‹_› (by omega)) ?_
      refine rk [] 7 2 ⟨[(18, .t), (17, .i (o % 4294967296)), (16, .i (o / 4294967296 - 1)), (15, .i 0), (14, .u (ldw xs ys o)), (13, .i 0), (12, .u (ldw xs ys o)), (11, .i 8), (9, .p 1), (7, .t), (6, .f), (3, .p 0), (1, .u a), (2, .u o)], [(1, .cells (mm W xs ys ++ [.i s, .i b, .i l, .i p, .i q]) 54), (0, .cells (mm W xs ys ++ [.i s, .i b, .i l, .i p, .i q]) 54)], 2⟩ [] trivial ?_
      refine en ?_
      refine an ?_
      refine xw_seq ?_
      refine reg ?_
      refine rk [(6, .bool ((o / 4294967296 - 1) == s))] 9 0 ⟨[(61, .bool ((o / 4294967296 - 1) == s)), (17, .i (o % 4294967296)), (15, .i 0), (14, .u (ldw xs ys o)), (13, .i 0), (12, .u (ldw xs ys o)), (11, .i 8), (9, .p 1), (7, .t), (6, .f), (3, .p 0), (1, .u a), (2, .u o)], [(1, .cells (mm W xs ys ++ [.i s, .i b, .i l, .i p, .i q]) 54), (0, .cells (mm W xs ys ++ [.i s, .i b, .i l, .i p, .i q]) 54)], 2⟩ [True, ((o / 4294967296 - 1) == s) = ((o / 4294967296 - 1) == s), True] ⟨trivial, rfl, trivial, trivial⟩ ?_
      refine splitr 61 (x := ((o / 4294967296 - 1) == s)) (by kernel_rfl) (fun h9 => ?_) (fun h9 => ?_)
      ·
       replace h9 : (o / 4294967296 - 1) = s := eq_of_beq h9
       refine rk [(13, .bool (decide (b ≤ (o % 4294967296))))] 7 9 ⟨[(68, .bool (decide (b ≤ (o % 4294967296)))), (17, .i (o % 4294967296)), (15, .i 0), (14, .u (ldw xs ys o)), (13, .i 0), (12, .u (ldw xs ys o)), (11, .i 8), (9, .p 1), (7, .t), (6, .f), (3, .p 0), (1, .u a), (2, .u o)], [(1, .cells (mm W xs ys ++ [.i s, .i b, .i l, .i p, .i q]) 54), (0, .cells (mm W xs ys ++ [.i s, .i b, .i l, .i p, .i q]) 54)], 2⟩ [True, (decide (b ≤ (o % 4294967296))) = (decide (b ≤ (o % 4294967296))), True] ⟨trivial, rfl, trivial, trivial⟩ ?_
       refine splitr 68 (x := (decide (b ≤ (o % 4294967296)))) (by kernel_rfl) (fun h10 => ?_) (fun h10 => ?_)
       ·
        replace h10 : b ≤ (o % 4294967296) := of_decide_eq_true h10
        refine rk [(20, .f)] 7 16 ⟨[(19, .f), (15, .i 0), (14, .u (ldw xs ys o)), (13, .i 0), (12, .u (ldw xs ys o)), (11, .i 8), (9, .p 1), (7, .t), (6, .f), (3, .p 0), (1, .u a), (2, .u o)], [(1, .cells (mm W xs ys ++ [.i s, .i b, .i l, .i p, .i q]) 54), (0, .cells (mm W xs ys ++ [.i s, .i b, .i l, .i p, .i q]) 54)], 2⟩ [True, (decide ((o % 4294967296) < b)) = false, True] ⟨trivial, decide_eq_false (by omega), trivial, trivial⟩ ?_
        refine en ?_
        refine an ?_
        refine rg [(4, .t), (9, .t), (25, .t), (29, .t), (47, .t)] 50 ⟨[(6, .t)], [], 2⟩ [(0 == 0) = true, True, ((ldw xs ys o) == (ldw xs ys o)) = true, True, True, True, True, True, ((p == p) && ((q == q) && true)) = true, True, (8 != 0) = true, True, True, True, True, (s == s) = true, True] ⟨beq_iff_eq.2 (by omega), trivial, beq_iff_eq.2 (by omega), trivial, trivial, trivial, trivial, trivial, (by simp <;> omega), trivial, bne_iff_ne.2 (by omega), trivial, trivial, trivial, trivial, beq_iff_eq.2 (by omega), trivial, trivial⟩ ?_
        refine xw_ret ?_
        exact bs (.t) rfl
       ·
        replace h10 : ¬ (b ≤ (o % 4294967296)) := of_decide_eq_false h10
        refine rk [] 7 16 ⟨[(19, .f), (15, .i 0), (14, .u (ldw xs ys o)), (13, .i 0), (12, .u (ldw xs ys o)), (11, .i 8), (9, .p 1), (7, .t), (6, .f), (3, .p 0), (1, .u a), (2, .u o)], [(1, .cells (mm W xs ys ++ [.i s, .i b, .i l, .i p, .i q]) 54), (0, .cells (mm W xs ys ++ [.i s, .i b, .i l, .i p, .i q]) 54)], 2⟩ [True] ⟨trivial, trivial⟩ ?_
        refine en ?_
        refine an ?_
        refine rg [(4, .t), (9, .t), (25, .t), (29, .t), (47, .t)] 50 ⟨[(6, .t)], [], 2⟩ [(0 == 0) = true, True, ((ldw xs ys o) == (ldw xs ys o)) = true, True, True, True, True, True, ((p == p) && ((q == q) && true)) = true, True, (8 != 0) = true, True, True, True, True, (s == s) = true, True] ⟨beq_iff_eq.2 (by omega), trivial, beq_iff_eq.2 (by omega), trivial, trivial, trivial, trivial, trivial, (by simp <;> omega), trivial, bne_iff_ne.2 (by omega), trivial, trivial, trivial, trivial, beq_iff_eq.2 (by omega), trivial, trivial⟩ ?_
        refine xw_ret ?_
        exact bs (.t) rfl
      ·
       replace h9 : (o / 4294967296 - 1) ≠ s := ne_of_beq_false h9
       refine rk [] 14 9 ⟨[(19, .f), (15, .i 0), (14, .u (ldw xs ys o)), (13, .i 0), (12, .u (ldw xs ys o)), (11, .i 8), (9, .p 1), (7, .t), (6, .f), (3, .p 0), (1, .u a), (2, .u o)], [(1, .cells (mm W xs ys ++ [.i s, .i b, .i l, .i p, .i q]) 54), (0, .cells (mm W xs ys ++ [.i s, .i b, .i l, .i p, .i q]) 54)], 2⟩ [True, True] ⟨trivial, trivial, trivial⟩ ?_
       refine en ?_
       refine an ?_
       refine rg [(4, .t), (9, .t), (25, .t), (29, .t), (47, .t)] 50 ⟨[(6, .t)], [], 2⟩ [(0 == 0) = true, True, ((ldw xs ys o) == (ldw xs ys o)) = true, True, True, True, True, True, ((p == p) && ((q == q) && true)) = true, True, (8 != 0) = true, True, True, True, True, (s == s) = true, True] ⟨beq_iff_eq.2 (by omega), trivial, beq_iff_eq.2 (by omega), trivial, trivial, trivial, trivial, trivial, (by simp <;> omega), trivial, bne_iff_ne.2 (by omega), trivial, trivial, trivial, trivial, beq_iff_eq.2 (by omega), trivial, trivial⟩ ?_
       refine xw_ret ?_
       exact bs (.t) rfl
     ·
      refine pc (rload_2 W xs ys o (by omega) (by omega) (by omega) ‹_› ‹_› ‹_› (by omega)) ?_
      refine rk [] 5 4 ⟨[(13, .i 2), (12, .u 0), (11, .i 8), (9, .p 1), (7, .t), (6, .f), (3, .p 0), (1, .u a), (2, .u o)], [(1, .cells (mm W xs ys ++ [.i s, .i b, .i l, .i p, .i q]) 54), (0, .cells (mm W xs ys ++ [.i s, .i b, .i l, .i p, .i q]) 54)], 2⟩ [] trivial ?_
      refine en ?_
      refine an ?_
      refine xw_seq ?_
      refine reg ?_
      refine rk [] 3 0 ⟨[(43, .u o), (42, .agg (mm W xs ys)), (13, .i 2), (12, .u 0), (11, .i 8), (9, .p 1), (7, .t), (6, .f), (3, .p 0), (1, .u a), (2, .u o)], [(1, .cells (mm W xs ys ++ [.i s, .i b, .i l, .i p, .i q]) 54), (0, .cells (mm W xs ys ++ [.i s, .i b, .i l, .i p, .i q]) 54)], 2⟩ [True] ⟨trivial, trivial⟩ ?_
      refine pc (rload_2 W xs ys o (by omega) (by omega) (by omega) ‹_› ‹_› ‹_› (by omega)) ?_
      refine rk [] 5 4 ⟨[(15, .i 2), (14, .u 0), (13, .i 2), (12, .u 0), (11, .i 8), (9, .p 1), (7, .t), (6, .f), (3, .p 0), (1, .u a), (2, .u o)], [(1, .cells (mm W xs ys ++ [.i s, .i b, .i l, .i p, .i q]) 54), (0, .cells (mm W xs ys ++ [.i s, .i b, .i l, .i p, .i q]) 54)], 2⟩ [] trivial ?_
      refine en ?_
      refine an ?_
      refine xw_seq ?_
      refine reg ?_
      refine rk [] 1 0 ⟨[(48, .u o), (15, .i 2), (14, .u 0), (13, .i 2), (12, .u 0), (11, .i 8), (9, .p 1), (7, .t), (6, .f), (3, .p 0), (1, .u a), (2, .u o)], [(1, .cells (mm W xs ys ++ [.i s, .i b, .i l, .i p, .i q]) 54), (0, .cells (mm W xs ys ++ [.i s, .i b, .i l, .i p, .i q]) 54)], 2⟩ [] trivial ?_
      by_cases h8 : 1 ≤ o / 4294967296 ∧ o / 4294967296 ≤ 2
      ·
       refine pc (rwhere_1 o ‹_› (by omega)) ?_
       refine rk [] 7 2 ⟨[(18, .t), (17, .i (o % 4294967296)), (16, .i (o / 4294967296 - 1)), (15, .i 2), (14, .u 0), (13, .i 2), (12, .u 0), (11, .i 8), (9, .p 1), (7, .t), (6, .f), (3, .p 0), (1, .u a), (2, .u o)], [(1, .cells (mm W xs ys ++ [.i s, .i b, .i l, .i p, .i q]) 54), (0, .cells (mm W xs ys ++ [.i s, .i b, .i l, .i p, .i q]) 54)], 2⟩ [] trivial ?_
       refine en ?_
       refine an ?_
       refine xw_seq ?_
       refine reg ?_
       refine rk [(6, .bool ((o / 4294967296 - 1) == s))] 9 0 ⟨[(61, .bool ((o / 4294967296 - 1) == s)), (17, .i (o % 4294967296)), (15, .i 2), (14, .u 0), (13, .i 2), (12, .u 0), (11, .i 8), (9, .p 1), (7, .t), (6, .f), (3, .p 0), (1, .u a), (2, .u o)], [(1, .cells (mm W xs ys ++ [.i s, .i b, .i l, .i p, .i q]) 54), (0, .cells (mm W xs ys ++ [.i s, .i b, .i l, .i p, .i q]) 54)], 2⟩ [True, ((o / 4294967296 - 1) == s) = ((o / 4294967296 - 1) == s), True] ⟨trivial, rfl, trivial, trivial⟩ ?_
       refine splitr 61 (x := ((o / 4294967296 - 1) == s)) (by kernel_rfl) (fun h9 => ?_) (fun h9 => ?_)
       ·
        replace h9 : (o / 4294967296 - 1) = s := eq_of_beq h9
        refine rk [(13, .t), (20, .f)] 14 9 ⟨[(19, .f), (15, .i 2), (14, .u 0), (13, .i 2), (12, .u 0), (11, .i 8), (9, .p 1), (7, .t), (6, .f), (3, .p 0), (1, .u a), (2, .u o)], [(1, .cells (mm W xs ys ++ [.i s, .i b, .i l, .i p, .i q]) 54), (0, .cells (mm W xs ys ++ [.i s, .i b, .i l, .i p, .i q]) 54)], 2⟩ [True, (decide (b ≤ (o % 4294967296))) = true, True, True, (decide ((o % 4294967296) < b)) = false, True] ⟨trivial, decide_eq_true (by omega), trivial, trivial, decide_eq_false (by omega), trivial, trivial⟩ ?_
        refine en ?_
        refine an ?_
        refine rg [(4, .t), (9, .t), (25, .t), (29, .t), (47, .t)] 50 ⟨[(6, .t)], [], 2⟩ [(2 == 2) = true, True, (0 == 0) = true, True, True, True, True, True, ((p == p) && ((q == q) && true)) = true, True, (8 != 0) = true, True, True, True, True, (s == s) = true, True] ⟨beq_iff_eq.2 (by omega), trivial, beq_iff_eq.2 (by omega), trivial, trivial, trivial, trivial, trivial, (by simp <;> omega), trivial, bne_iff_ne.2 (by omega), trivial, trivial, trivial, trivial, beq_iff_eq.2 (by omega), trivial, trivial⟩ ?_
        refine xw_ret ?_
        exact bs (.t) rfl
       ·
        replace h9 : (o / 4294967296 - 1) ≠ s := ne_of_beq_false h9
        refine rk [] 14 9 ⟨[(19, .f), (15, .i 2), (14, .u 0), (13, .i 2), (12, .u 0), (11, .i 8), (9, .p 1), (7, .t), (6, .f), (3, .p 0), (1, .u a), (2, .u o)], [(1, .cells (mm W xs ys ++ [.i s, .i b, .i l, .i p, .i q]) 54), (0, .cells (mm W xs ys ++ [.i s, .i b, .i l, .i p, .i q]) 54)], 2⟩ [True, True] ⟨trivial, trivial, trivial⟩ ?_
        refine en ?_
        refine an ?_
        refine rg [(4, .t), (9, .t), (25, .t), (29, .t), (47, .t)] 50 ⟨[(6, .t)], [], 2⟩ [(2 == 2) = true, True, (0 == 0) = true, True, True, True, True, True, ((p == p) && ((q == q) && true)) = true, True, (8 != 0) = true, True, True, True, True, (s == s) = true, True] ⟨beq_iff_eq.2 (by omega), trivial, beq_iff_eq.2 (by omega), trivial, trivial, trivial, trivial, trivial, (by simp <;> omega), trivial, bne_iff_ne.2 (by omega), trivial, trivial, trivial, trivial, beq_iff_eq.2 (by omega), trivial, trivial⟩ ?_
        refine xw_ret ?_
        exact bs (.t) rfl
      ·
       refine pc (rwhere_2 o ‹_› (by omega)) ?_
       refine rk [] 7 2 ⟨[(18, .f), (17, .i 0), (16, .i 0), (15, .i 2), (14, .u 0), (13, .i 2), (12, .u 0), (11, .i 8), (9, .p 1), (7, .t), (6, .f), (3, .p 0), (1, .u a), (2, .u o)], [(1, .cells (mm W xs ys ++ [.i s, .i b, .i l, .i p, .i q]) 54), (0, .cells (mm W xs ys ++ [.i s, .i b, .i l, .i p, .i q]) 54)], 2⟩ [] trivial ?_
       refine en ?_
       refine an ?_
       refine rg [] 23 ⟨[(19, .f), (15, .i 2), (14, .u 0), (13, .i 2), (12, .u 0), (11, .i 8), (9, .p 1), (7, .t), (6, .f), (3, .p 0), (1, .u a), (2, .u o)], [(1, .cells (mm W xs ys ++ [.i s, .i b, .i l, .i p, .i q]) 54), (0, .cells (mm W xs ys ++ [.i s, .i b, .i l, .i p, .i q]) 54)], 2⟩ [True, True, True] ⟨trivial, trivial, trivial, trivial⟩ ?_
       refine rg [(4, .t), (9, .t), (25, .t), (29, .t), (47, .t)] 50 ⟨[(6, .t)], [], 2⟩ [(2 == 2) = true, True, (0 == 0) = true, True, True, True, True, True, ((p == p) && ((q == q) && true)) = true, True, (8 != 0) = true, True, True, True, True, (s == s) = true, True] ⟨beq_iff_eq.2 (by omega), trivial, beq_iff_eq.2 (by omega), trivial, trivial, trivial, trivial, trivial, (by simp <;> omega), trivial, bne_iff_ne.2 (by omega), trivial, trivial, trivial, trivial, beq_iff_eq.2 (by omega), trivial, trivial⟩ ?_
       refine xw_ret ?_
       exact bs (.t) rfl
    ·
     by_cases h4 : a / 4294967296 - 1 = s
     ·
      refine pc (tto_4 W xs ys s b l p q a (by omega) (by omega) (by omega) ‹_› ‹_› (by omega) (by omega) (by omega) ‹_› (by omega) (by omega) (by omega) ‹_›) ?_
      obtain ⟨h5, h6, h7⟩ := oErr_ok W xs ys a (by omega)
      have h8 : 1 ≤ (a + 1) / 4294967296 ∧ (a + 1) / 4294967296 ≤ 2 ∧ (a + 1) % 4294967296 < W := by omega
      have h9 : 0 ≤ (ldw xs ys (a + 1)) ∧ (ldw xs ys (a + 1)) ≤ 18446744073709551615 := ldw_ok xs ys (a + 1) ‹_› ‹_›
      refine rk [] 8 3 ⟨[(11, .i 0), (9, .p 1), (7, .t), (6, .f), (3, .p 0), (1, .u a), (2, .u o)], [(1, .cells (mm W xs ys ++ [.i s, .i b, .i l, .i p, .i q]) 54), (0, .cells (mm W xs ys ++ [.i s, .i b, .i l, .i p, .i q]) 54)], 2⟩ [True] ⟨trivial, trivial⟩ ?_
      refine en ?_
      refine an ?_
      refine xw_seq ?_
      refine reg ?_
      refine rk [] 3 0 ⟨[(36, .u o), (35, .agg (mm W xs ys)), (11, .i 0), (9, .p 1), (7, .t), (6, .f), (3, .p 0), (1, .u a), (2, .u o)], [(1, .cells (mm W xs ys ++ [.i s, .i b, .i l, .i p, .i q]) 54), (0, .cells (mm W xs ys ++ [.i s, .i b, .i l, .i p, .i q]) 54)], 2⟩ [True] ⟨trivial, trivial⟩ ?_
      by_cases h10 : 1 ≤ o / 4294967296 ∧ o / 4294967296 ≤ 2 ∧ o % 4294967296 < W
      ·
       refine pc (rload_1 W xs ys o (by omega) (by omega) (by omega) ‹_› ‹_› ‹_› (by omega)) ?_
       have h11 : 0 ≤ (ldw xs ys o) ∧ (ldw xs ys o) ≤ 18446744073709551615 := ldw_ok xs ys o ‹_› ‹_›
       refine rk [] 5 4 ⟨[(13, .i 0), (12, .u (ldw xs ys o)), (11, .i 0), (9, .p 1), (7, .t), (6, .f), (3, .p 0), (1, .u a), (2, .u o)], [(1, .cells (mm W xs ys ++ [.i s, .i b, .i l, .i p, .i q]) 54), (0, .cells (mm W xs ys ++ [.i s, .i b, .i l, .i p, .i q]) 54)], 2⟩ [] trivial ?_
       refine en ?_
       refine an ?_
       refine xw_seq ?_
       refine reg ?_
       refine rk [] 3 0 ⟨[(43, .u o), (42, .agg (mm W xs ys)), (13, .i 0), (12, .u (ldw xs ys o)), (11, .i 0), (9, .p 1), (7, .t), (6, .f), (3, .p 0), (1, .u a), (2, .u o)], [(1, .cells (mm W xs ys ++ [.i s, .i b, .i l, .i p, .i q]) 54), (0, .cells (mm W xs ys ++ [.i s, .i b, .i l, .i p, .i q]) 54)], 2⟩ [True] ⟨trivial, trivial⟩ ?_
       refine pc (rload_1 W xs ys o (by omega) (by omega) (by omega) ‹_› ‹_› ‹_› (by omega)) ?_
       refine rk [] 5 4 ⟨[(15, .i 0), (14, .u (ldw xs ys o)), (13, .i 0), (12, .u (ldw xs ys o)), (11, .i 0), (9, .p 1), (7, .t), (6, .f), (3, .p 0), (1, .u a), (2, .u o)], [(1, .cells (mm W xs ys ++ [.i s, .i b, .i l, .i p, .i q]) 54), (0, .cells (mm W xs ys ++ [.i s, .i b, .i l, .i p, .i q]) 54)], 2⟩ [] trivial ?_
       refine en ?_
       refine an ?_
       refine xw_seq ?_
       refine reg ?_
       refine rk [] 1 0 ⟨[(48, .u o), (15, .i 0), (14, .u (ldw xs ys o)), (13, .i 0), (12, .u (ldw xs ys o)), (11, .i 0), (9, .p 1), (7, .t), (6, .f), (3, .p 0), (1, .u a), (2, .u o)], [(1, .cells (mm W xs ys ++ [.i s, .i b, .i l, .i p, .i q]) 54), (0, .cells (mm W xs ys ++ [.i s, .i b, .i l, .i p, .i q]) 54)], 2⟩ [] trivial ?_
       refine pc (rwhere_1 o ‹_› (by omega)) ?_
       refine rk [] 7 2 ⟨[(18, .t), (17, .i (o % 4294967296)), (16, .i (o / 4294967296 - 1)), (15, .i 0), (14, .u (ldw xs ys o)), (13, .i 0), (12, .u (ldw xs ys o)), (11, .i 0), (9, .p 1), (7, .t), (6, .f), (3, .p 0), (1, .u a), (2, .u o)], [(1, .cells (mm W xs ys ++ [.i s, .i b, .i l, .i p, .i q]) 54), (0, .cells (mm W xs ys ++ [.i s, .i b, .i l, .i p, .i q]) 54)], 2⟩ [] trivial ?_
       refine en ?_
       refine an ?_
       refine xw_seq ?_
       refine reg ?_
       refine rk [(6, .bool ((o / 4294967296 - 1) == s))] 9 0 ⟨[(61, .bool ((o / 4294967296 - 1) == s)), (17, .i (o % 4294967296)), (15, .i 0), (14, .u (ldw xs ys o)), (13, .i 0), (12, .u (ldw xs ys o)), (11, .i 0), (9, .p 1), (7, .t), (6, .f), (3, .p 0), (1, .u a), (2, .u o)], [(1, .cells (mm W xs ys ++ [.i s, .i b, .i l, .i p, .i q]) 54), (0, .cells (mm W xs ys ++ [.i s, .i b, .i l, .i p, .i q]) 54)], 2⟩ [True, ((o / 4294967296 - 1) == s) = ((o / 4294967296 - 1) == s), True] ⟨trivial, rfl, trivial, trivial⟩ ?_
       refine splitr 61 (x := ((o / 4294967296 - 1) == s)) (by kernel_rfl) (fun h12 => ?_) (fun h12 => ?_)
       ·
        replace h12 : (o / 4294967296 - 1) = s := eq_of_beq h12
        refine rk [(13, .bool (decide (b ≤ (o % 4294967296))))] 7 9 ⟨[(68, .bool (decide (b ≤ (o % 4294967296)))), (17, .i (o % 4294967296)), (15, .i 0), (14, .u (ldw xs ys o)), (13, .i 0), (12, .u (ldw xs ys o)), (11, .i 0), (9, .p 1), (7, .t), (6, .f), (3, .p 0), (1, .u a), (2, .u o)], [(1, .cells (mm W xs ys ++ [.i s, .i b, .i l, .i p, .i q]) 54), (0, .cells (mm W xs ys ++ [.i s, .i b, .i l, .i p, .i q]) 54)], 2⟩ [True, (decide (b ≤ (o % 4294967296))) = (decide (b ≤ (o % 4294967296))), True] ⟨trivial, rfl, trivial, trivial⟩ ?_
        refine splitr 68 (x := (decide (b ≤ (o % 4294967296)))) (by kernel_rfl) (fun h13 => ?_) (fun h13 => ?_)
        ·
         replace h13 : b ≤ (o % 4294967296) := of_decide_eq_true h13
         refine rk [(20, .f)] 7 16 ⟨[(19, .f), (15, .i 0), (14, .u (ldw xs ys o)), (13, .i 0), (12, .u (ldw xs ys o)), (11, .i 0), (9, .p 1), (7, .t), (6, .f), (3, .p 0), (1, .u a), (2, .u o)], [(1, .cells (mm W xs ys ++ [.i s, .i b, .i l, .i p, .i q]) 54), (0, .cells (mm W xs ys ++ [.i s, .i b, .i l, .i p, .i q]) 54)], 2⟩ [True, (decide ((o % 4294967296) < b)) = false, True] ⟨trivial, decide_eq_false (by omega), trivial, trivial⟩ ?_
         refine en ?_
         refine an ?_
         refine rg [(4, .t), (9, .t), (25, .t), (29, .f), (37, .t), (47, .t)] 50 ⟨[(6, .t)], [], 2⟩ [(0 == 0) = true, True, ((ldw xs ys o) == (ldw xs ys o)) = true, True, True, True, True, True, ((p == p) && ((q == q) && true)) = true, True, (0 != 0) = false, True, True, (decide (b ≤ b)) = true, True, True, True, True, (s == s) = true, True] ⟨beq_iff_eq.2 (by omega), trivial, beq_iff_eq.2 (by omega), trivial, trivial, trivial, trivial, trivial, (by simp <;> omega), trivial, bne_eq_false_iff_eq.2 (by omega), trivial, trivial, decide_eq_true (by omega), trivial, trivial, trivial, trivial, beq_iff_eq.2 (by omega), trivial, trivial⟩ ?_
         refine xw_ret ?_
         exact bs (.t) rfl
        ·
         replace h13 : ¬ (b ≤ (o % 4294967296)) := of_decide_eq_false h13
         refine rk [] 7 16 ⟨[(19, .f), (15, .i 0), (14, .u (ldw xs ys o)), (13, .i 0), (12, .u (ldw xs ys o)), (11, .i 0), (9, .p 1), (7, .t), (6, .f), (3, .p 0), (1, .u a), (2, .u o)], [(1, .cells (mm W xs ys ++ [.i s, .i b, .i l, .i p, .i q]) 54), (0, .cells (mm W xs ys ++ [.i s, .i b, .i l, .i p, .i q]) 54)], 2⟩ [True] ⟨trivial, trivial⟩ ?_
         refine en ?_
         refine an ?_
         refine rg [(4, .t), (9, .t), (25, .t), (29, .f), (37, .t), (47, .t)] 50 ⟨[(6, .t)], [], 2⟩ [(0 == 0) = true, True, ((ldw xs ys o) == (ldw xs ys o)) = true, True, True, True, True, True, ((p == p) && ((q == q) && true)) = true, True, (0 != 0) = false, True, True, (decide (b ≤ b)) = true, True, True, True, True, (s == s) = true, True] ⟨beq_iff_eq.2 (by omega), trivial, beq_iff_eq.2 (by omega), trivial, trivial, trivial, trivial, trivial, (by simp <;> omega), trivial, bne_eq_false_iff_eq.2 (by omega), trivial, trivial, decide_eq_true (by omega), trivial, trivial, trivial, trivial, beq_iff_eq.2 (by omega), trivial, trivial⟩ ?_
         refine xw_ret ?_
         exact bs (.t) rfl
       ·
        replace h12 : (o / 4294967296 - 1) ≠ s := ne_of_beq_false h12
        refine rk [] 14 9 ⟨[(19, .f), (15, .i 0), (14, .u (ldw xs ys o)), (13, .i 0), (12, .u (ldw xs ys o)), (11, .i 0), (9, .p 1), (7, .t), (6, .f), (3, .p 0), (1, .u a), (2, .u o)], [(1, .cells (mm W xs ys ++ [.i s, .i b, .i l, .i p, .i q]) 54), (0, .cells (mm W xs ys ++ [.i s, .i b, .i l, .i p, .i q]) 54)], 2⟩ [True, True] ⟨trivial, trivial, trivial⟩ ?_
        refine en ?_
        refine an ?_
        refine rg [(4, .t), (9, .t), (25, .t), (29, .f), (37, .t), (47, .t)] 50 ⟨[(6, .t)], [], 2⟩ [(0 == 0) = true, True, ((ldw xs ys o) == (ldw xs ys o)) = true, True, True, True, True, True, ((p == p) && ((q == q) && true)) = true, True, (0 != 0) = false, True, True, (decide (b ≤ b)) = true, True, True, True, True, (s == s) = true, True] ⟨beq_iff_eq.2 (by omega), trivial, beq_iff_eq.2 (by omega), trivial, trivial, trivial, trivial, trivial, (by simp <;> omega), trivial, bne_eq_false_iff_eq.2 (by omega), trivial, trivial, decide_eq_true (by omega), trivial, trivial, trivial, trivial, beq_iff_eq.2 (by omega), trivial, trivial⟩ ?_
        refine xw_ret ?_
        exact bs (.t) rfl
      ·
       refine pc (rload_2 W xs ys o (by omega) (by omega) (by omega) ‹_› ‹_› ‹_› (by omega)) ?_
       refine rk [] 5 4 ⟨[(13, .i 2), (12, .u 0), (11, .i 0), (9, .p 1), (7, .t), (6, .f), (3, .p 0), (1, .u a), (2, .u o)], [(1, .cells (mm W xs ys ++ [.i s, .i b, .i l, .i p, .i q]) 54), (0, .cells (mm W xs ys ++ [.i s, .i b, .i l, .i p, .i q]) 54)], 2⟩ [] trivial ?_
       refine en ?_
       refine an ?_
       refine xw_seq ?_
       refine reg ?_
       refine rk [] 3 0 ⟨[(43, .u o), (42, .agg (mm W xs ys)), (13, .i 2), (12, .u 0), (11, .i 0), (9, .p 1), (7, .t), (6, .f), (3, .p 0), (1, .u a), (2, .u o)], [(1, .cells (mm W xs ys ++ [.i s, .i b, .i l, .i p, .i q]) 54), (0, .cells (mm W xs ys ++ [.i s, .i b, .i l, .i p, .i q]) 54)], 2⟩ [True] ⟨trivial, trivial⟩ ?_
       refine pc (rload_2 W xs ys o (by omega) (by omega) (by omega) ‹_› ‹_› ‹_› (by omega)) ?_
       refine rk [] 5 4 ⟨[(15, .i 2), (14, .u 0), (13, .i 2), (12, .u 0), (11, .i 0), (9, .p 1), (7, .t), (6, .f), (3, .p 0), (1, .u a), (2, .u o)], [(1, .cells (mm W xs ys ++ [.i s, .i b, .i l, .i p, .i q]) 54), (0, .cells (mm W xs ys ++ [.i s, .i b, .i l, .i p, .i q]) 54)], 2⟩ [] trivial ?_
       refine en ?_
       refine an ?_
       refine xw_seq ?_
       refine reg ?_
       refine rk [] 1 0 ⟨[(48, .u o), (15, .i 2), (14, .u 0), (13, .i 2), (12, .u 0), (11, .i 0), (9, .p 1), (7, .t), (6, .f), (3, .p 0), (1, .u a), (2, .u o)], [(1, .cells (mm W xs ys ++ [.i s, .i b, .i l, .i p, .i q]) 54), (0, .cells (mm W xs ys ++ [.i s, .i b, .i l, .i p, .i q]) 54)], 2⟩ [] trivial ?_
       by_cases h11 : 1 ≤ o / 4294967296 ∧ o / 4294967296 ≤ 2
       ·
        refine pc (rwhere_1 o ‹_› (by omega)) ?_
        refine rk [] 7 2 ⟨[(18, .t), (17, .i (o % 4294967296)), (16, .i (o / 4294967296 - 1)), (15, .i 2), (14, .u 0), (13, .i 2), (12, .u 0), (11, .i 0), (9, .p 1), (7, .t), (6, .f), (3, .p 0), (1, .u a), (2, .u o)], [(1, .cells (mm W xs ys ++ [.i s, .i b, .i l, .i p, .i q]) 54), (0, .cells (mm W xs ys ++ [.i s, .i b, .i l, .i p, .i q]) 54)], 2⟩ [] trivial ?_
        refine en ?_
        refine an ?_
        refine xw_seq ?_
        refine reg ?_
        refine rk [(6, .bool ((o / 4294967296 - 1) == s))] 9 0 ⟨[(61, .bool ((o / 4294967296 - 1) == s)), (17, .i (o % 4294967296)), (15, .i 2), (14, .u 0), (13, .i 2), (12, .u 0), (11, .i 0), (9, .p 1), (7, .t), (6, .f), (3, .p 0), (1, .u a), (2, .u o)], [(1, .cells (mm W xs ys ++ [.i s, .i b, .i l, .i p, .i q]) 54), (0, .cells (mm W xs ys ++ [.i s, .i b, .i l, .i p, .i q]) 54)], 2⟩ [True, ((o / 4294967296 - 1) == s) = ((o / 4294967296 - 1) == s), True] ⟨trivial, rfl, trivial, trivial⟩ ?_
        refine splitr 61 (x := ((o / 4294967296 - 1) == s)) (by kernel_rfl) (fun h12 => ?_) (fun h12 => ?_)
        ·
         replace h12 : (o / 4294967296 - 1) = s := eq_of_beq h12
         refine rk [(13, .t), (20, .f)] 14 9 ⟨[(19, .f), (15, .i 2), (14, .u 0), (13, .i 2), (12, .u 0), (11, .i 0), (9, .p 1), (7, .t), (6, .f), (3, .p 0), (1, .u a), (2, .u o)], [(1, .cells (mm W xs ys ++ [.i s, .i b, .i l, .i p, .i q]) 54), (0, .cells (mm W xs ys ++ [.i s, .i b, .i l, .i p, .i q]) 54)], 2⟩ [True, (decide (b ≤ (o % 4294967296))) = true, True, True, (decide ((o % 4294967296) < b)) = false, True] ⟨trivial, decide_eq_true (by omega), trivial, trivial, decide_eq_false (by omega), trivial, trivial⟩ ?_
         refine en ?_
         refine an ?_
         refine rg [(4, .t), (9, .t), (25, .t), (29, .f), (37, .t), (47, .t)] 50 ⟨[(6, .t)], [], 2⟩ [(2 == 2) = true, True, (0 == 0) = true, True, True, True, True, True, ((p == p) && ((q == q) && true)) = true, True, (0 != 0) = false, True, True, (decide (b ≤ b)) = true, True, True, True, True, (s == s) = true, True] ⟨beq_iff_eq.2 (by omega), trivial, beq_iff_eq.2 (by omega), trivial, trivial, trivial, trivial, trivial, (by simp <;> omega), trivial, bne_eq_false_iff_eq.2 (by omega), trivial, trivial, decide_eq_true (by omega), trivial, trivial, trivial, trivial, beq_iff_eq.2 (by omega), trivial, trivial⟩ ?_
         refine xw_ret ?_
         exact bs (.t) rfl
        ·
         replace h12 : (o / 4294967296 - 1) ≠ s := ne_of_beq_false h12
         refine rk [] 14 9 ⟨[(19, .f), (15, .i 2), (14, .u 0), (13, .i 2), (12, .u 0), (11, .i 0), (9, .p 1), (7, .t), (6, .f), (3, .p 0), (1, .u a), (2, .u o)], [(1, .cells (mm W xs ys ++ [.i s, .i b, .i l, .i p, .i q]) 54), (0, .cells (mm W xs ys ++ [.i s, .i b, .i l, .i p, .i q]) 54)], 2⟩ [True, True] ⟨trivial, trivial, trivial⟩ ?_
         refine en ?_
         refine an ?_
         refine rg [(4, .t), (9, .t), (25, .t), (29, .f), (37, .t), (47, .t)] 50 ⟨[(6, .t)], [], 2⟩ [(2 == 2) = true, True, (0 == 0) = true, True, True, True, True, True, ((p == p) && ((q == q) && true)) = true, True, (0 != 0) = false, True, True, (decide (b ≤ b)) = true, True, True, True, True, (s == s) = true, True] ⟨beq_iff_eq.2 (by omega), trivial, beq_iff_eq.2 (by omega), trivial, trivial, trivial, trivial, trivial, (by simp <;> omega), trivial, bne_eq_false_iff_eq.2 (by omega), trivial, trivial, decide_eq_true (by omega), trivial, trivial, trivial, trivial, beq_iff_eq.2 (by omega), trivial, trivial⟩ ?_
         refine xw_ret ?_
         exact bs (.t) rfl
       ·
        refine pc (rwhere_2 o ‹_› (by omega)) ?_
        refine rk [] 7 2 ⟨[(18, .f), (17, .i 0), (16, .i 0), (15, .i 2), (14, .u 0), (13, .i 2), (12, .u 0), (11, .i 0), (9, .p 1), (7, .t), (6, .f), (3, .p 0), (1, .u a), (2, .u o)], [(1, .cells (mm W xs ys ++ [.i s, .i b, .i l, .i p, .i q]) 54), (0, .cells (mm W xs ys ++ [.i s, .i b, .i l, .i p, .i q]) 54)], 2⟩ [] trivial ?_
        refine en ?_
        refine an ?_
        refine rg [] 23 ⟨[(19, .f), (15, .i 2), (14, .u 0), (13, .i 2), (12, .u 0), (11, .i 0), (9, .p 1), (7, .t), (6, .f), (3, .p 0), (1, .u a), (2, .u o)], [(1, .cells (mm W xs ys ++ [.i s, .i b, .i l, .i p, .i q]) 54), (0, .cells (mm W xs ys ++ [.i s, .i b, .i l, .i p, .i q]) 54)], 2⟩ [True, True, True] ⟨trivial, trivial, trivial, trivial⟩ ?_
        refine rg [(4, .t), (9, .t), (25, .t), (29, .f), (37, .t), (47, .t)] 50 ⟨[(6, .t)], [], 2⟩ [(2 == 2) = true, True, (0 == 0) = true, True, True, True, True, True, ((p == p) && ((q == q) && true)) = true, True, (0 != 0) = false, True, True, (decide (b ≤ b)) = true, True, True, True, True, (s == s) = true, True] ⟨beq_iff_eq.2 (by omega), trivial, beq_iff_eq.2 (by omega), trivial, trivial, trivial, trivial, trivial, (by simp <;> omega), trivial, bne_eq_false_iff_eq.2 (by omega), trivial, trivial, decide_eq_true (by omega), trivial, trivial, trivial, trivial, beq_iff_eq.2 (by omega), trivial, trivial⟩ ?_
        refine xw_ret ?_
        exact bs (.t) rfl
     ·
      by_cases h5 : ((ldw xs ys (a + 1)) ≠ 0) ∧ (¬ (1 ≤ (ldw xs ys (a + 1)) / 4294967296 ∧ (ldw xs ys (a + 1)) / 4294967296 ≤ 2 ∧ (ldw xs ys (a + 1)) / 4294967296 - 1 = s))
      ·
       refine pc (tto_5 W xs ys s b l p q a (by omega) (by omega) (by omega) ‹_› ‹_› (by omega) (by omega) (by omega) ‹_› (by omega) (by omega) (by omega) ‹_› (by omega) (by omega)) ?_
       obtain ⟨h6, h7, h8⟩ := oErr_ok W xs ys a (by omega)
       have h9 : 1 ≤ (a + 1) / 4294967296 ∧ (a + 1) / 4294967296 ≤ 2 ∧ (a + 1) % 4294967296 < W := by omega
       have h10 : 0 ≤ (ldw xs ys (a + 1)) ∧ (ldw xs ys (a + 1)) ≤ 18446744073709551615 := ldw_ok xs ys (a + 1) ‹_› ‹_›
       refine rk [] 8 3 ⟨[(11, .i 10), (9, .p 1), (7, .t), (6, .f), (3, .p 0), (1, .u a), (2, .u o)], [(1, .cells (mm W xs ys ++ [.i s, .i b, .i l, .i p, .i q]) 54), (0, .cells (mm W xs ys ++ [.i s, .i b, .i l, .i p, .i q]) 54)], 2⟩ [True] ⟨trivial, trivial⟩ ?_
       refine en ?_
       refine an ?_
       refine xw_seq ?_
       refine reg ?_
       refine rk [] 3 0 ⟨[(36, .u o), (35, .agg (mm W xs ys)), (11, .i 10), (9, .p 1), (7, .t), (6, .f), (3, .p 0), (1, .u a), (2, .u o)], [(1, .cells (mm W xs ys ++ [.i s, .i b, .i l, .i p, .i q]) 54), (0, .cells (mm W xs ys ++ [.i s, .i b, .i l, .i p, .i q]) 54)], 2⟩ [True] ⟨trivial, trivial⟩ ?_
       by_cases h11 : 1 ≤ o / 4294967296 ∧ o / 4294967296 ≤ 2 ∧ o % 4294967296 < W
       ·
        refine pc (rload_1 W xs ys o (by omega) (by omega) (by omega) ‹_› ‹_› ‹_› (by omega)) ?_
        have h12 : 0 ≤ (ldw xs ys o) ∧ (ldw xs ys o) ≤ 18446744073709551615 := ldw_ok xs ys o ‹_› ‹_›
        refine rk [] 5 4 ⟨[(13, .i 0), (12, .u (ldw xs ys o)), (11, .i 10), (9, .p 1), (7, .t), (6, .f), (3, .p 0), (1, .u a), (2, .u o)], [(1, .cells (mm W xs ys ++ [.i s, .i b, .i l, .i p, .i q]) 54), (0, .cells (mm W xs ys ++ [.i s, .i b, .i l, .i p, .i q]) 54)], 2⟩ [] trivial ?_
        refine en ?_
        refine an ?_
        refine xw_seq ?_
        refine reg ?_
        refine rk [] 3 0 ⟨[(43, .u o), (42, .agg (mm W xs ys)), (13, .i 0), (12, .u (ldw xs ys o)), (11, .i 10), (9, .p 1), (7, .t), (6, .f), (3, .p 0), (1, .u a), (2, .u o)], [(1, .cells (mm W xs ys ++ [.i s, .i b, .i l, .i p, .i q]) 54), (0, .cells (mm W xs ys ++ [.i s, .i b, .i l, .i p, .i q]) 54)], 2⟩ [True] ⟨trivial, trivial⟩ ?_
        refine pc (rload_1 W xs ys o (by omega) (by omega) (by omega) ‹_› ‹_› ‹_› (by omega)) ?_
        refine rk [] 5 4 ⟨[(15, .i 0), (14, .u (ldw xs ys o)), (13, .i 0), (12, .u (ldw xs ys o)), (11, .i 10), (9, .p 1), (7, .t), (6, .f), (3, .p 0), (1, .u a), (2, .u o)], [(1, .cells (mm W xs ys ++ [.i s, .i b, .i l, .i p, .i q]) 54), (0, .cells (mm W xs ys ++ [.i s, .i b, .i l, .i p, .i q]) 54)], 2⟩ [] trivial ?_
        refine en ?_
        refine an ?_
        refine xw_seq ?_
        refine reg ?_
        refine rk [] 1 0 ⟨[(48, .u o), (15, .i 0), (14, .u (ldw xs ys o)), (13, .i 0), (12, .u (ldw xs ys o)), (11, .i 10), (9, .p 1), (7, .t), (6, .f), (3, .p 0), (1, .u a), (2, .u o)], [(1, .cells (mm W xs ys ++ [.i s, .i b, .i l, .i p, .i q]) 54), (0, .cells (mm W xs ys ++ [.i s, .i b, .i l, .i p, .i q]) 54)], 2⟩ [] trivial ?_
        refine pc (rwhere_1 o ‹_› (by omega)) ?_
        refine rk [] 7 2 ⟨[(18, .t), (17, .i (o % 4294967296)), (16, .i (o / 4294967296 - 1)), (15, .i 0), (14, .u (ldw xs ys o)), (13, .i 0), (12, .u (ldw xs ys o)), (11, .i 10), (9, .p 1), (7, .t), (6, .f), (3, .p 0), (1, .u a), (2, .u o)], [(1, .cells (mm W xs ys ++ [.i s, .i b, .i l, .i p, .i q]) 54), (0, .cells (mm W xs ys ++ [.i s, .i b, .i l, .i p, .i q]) 54)], 2⟩ [] trivial ?_
        refine en ?_
        refine an ?_
        refine xw_seq ?_
        refine reg ?_
        refine rk [(6, .bool ((o / 4294967296 - 1) == s))] 9 0 ⟨[(61, .bool ((o / 4294967296 - 1) == s)), (17, .i (o % 4294967296)), (15, .i 0), (14, .u (ldw xs ys o)), (13, .i 0), (12, .u (ldw xs ys o)), (11, .i 10), (9, .p 1), (7, .t), (6, .f), (3, .p 0), (1, .u a), (2, .u o)], [(1, .cells (mm W xs ys ++ [.i s, .i b, .i l, .i p, .i q]) 54), (0, .cells (mm W xs ys ++ [.i s, .i b, .i l, .i p, .i q]) 54)], 2⟩ [True, ((o / 4294967296 - 1) == s) = ((o / 4294967296 - 1) == s), True] ⟨trivial, rfl, trivial, trivial⟩ ?_
        refine splitr 61 (x := ((o / 4294967296 - 1) == s)) (by kernel_rfl) (fun h13 => ?_) (fun h13 => ?_)
        ·
         replace h13 : (o / 4294967296 - 1) = s := eq_of_beq h13
         refine rk [(13, .bool (decide (b ≤ (o % 4294967296))))] 7 9 ⟨[(68, .bool (decide (b ≤ (o % 4294967296)))), (17, .i (o % 4294967296)), (15, .i 0), (14, .u (ldw xs ys o)), (13, .i 0), (12, .u (ldw xs ys o)), (11, .i 10), (9, .p 1), (7, .t), (6, .f), (3, .p 0), (1, .u a), (2, .u o)], [(1, .cells (mm W xs ys ++ [.i s, .i b, .i l, .i p, .i q]) 54), (0, .cells (mm W xs ys ++ [.i s, .i b, .i l, .i p, .i q]) 54)], 2⟩ [True, (decide (b ≤ (o % 4294967296))) = (decide (b ≤ (o % 4294967296))), True] ⟨trivial, rfl, trivial, trivial⟩ ?_
         refine splitr 68 (x := (decide (b ≤ (o % 4294967296)))) (by kernel_rfl) (fun h14 => ?_) (fun h14 => ?_)
         ·
          replace h14 : b ≤ (o % 4294967296) := of_decide_eq_true h14
          refine rk [(20, .f)] 7 16 ⟨[(19, .f), (15, .i 0), (14, .u (ldw xs ys o)), (13, .i 0), (12, .u (ldw xs ys o)), (11, .i 10), (9, .p 1), (7, .t), (6, .f), (3, .p 0), (1, .u a), (2, .u o)], [(1, .cells (mm W xs ys ++ [.i s, .i b, .i l, .i p, .i q]) 54), (0, .cells (mm W xs ys ++ [.i s, .i b, .i l, .i p, .i q]) 54)], 2⟩ [True, (decide ((o % 4294967296) < b)) = false, True] ⟨trivial, decide_eq_false (by omega), trivial, trivial⟩ ?_
          refine en ?_
          refine an ?_
          refine rg [(4, .t), (9, .t), (25, .t), (29, .t), (47, .t)] 50 ⟨[(6, .t)], [], 2⟩ [(0 == 0) = true, True, ((ldw xs ys o) == (ldw xs ys o)) = true, True, True, True, True, True, ((p == p) && ((q == q) && true)) = true, True, (10 != 0) = true, True, True, True, True, (s == s) = true, True] ⟨beq_iff_eq.2 (by omega), trivial, beq_iff_eq.2 (by omega), trivial, trivial, trivial, trivial, trivial, (by simp <;> omega), trivial, bne_iff_ne.2 (by omega), trivial, trivial, trivial, trivial, beq_iff_eq.2 (by omega), trivial, trivial⟩ ?_
          refine xw_ret ?_
          exact bs (.t) rfl
         ·
          replace h14 : ¬ (b ≤ (o % 4294967296)) := of_decide_eq_false h14
          refine rk [] 7 16 ⟨[(19, .f), (15, .i 0), (14, .u (ldw xs ys o)), (13, .i 0), (12, .u (ldw xs ys o)), (11, .i 10), (9, .p 1), (7, .t), (6, .f), (3, .p 0), (1, .u a), (2, .u o)], [(1, .cells (mm W xs ys ++ [.i s, .i b, .i l, .i p, .i q]) 54), (0, .cells (mm W xs ys ++ [.i s, .i b, .i l, .i p, .i q]) 54)], 2⟩ [True] ⟨trivial, trivial⟩ ?_
          refine en ?_
          refine an ?_
          refine rg [(4, .t), (9, .t), (25, .t), (29, .t), (47, .t)] 50 ⟨[(6, .t)], [], 2⟩ [(0 == 0) = true, True, ((ldw xs ys o) == (ldw xs ys o)) = true, True, True, True, True, True, ((p == p) && ((q == q) && true)) = true, True, (10 != 0) = true, True, True, True, True, (s == s) = true, True] ⟨beq_iff_eq.2 (by omega), trivial, beq_iff_eq.2 (by omega), trivial, trivial, trivial, trivial, trivial, (by simp <;> omega), trivial, bne_iff_ne.2 (by omega), trivial, trivial, trivial, trivial, beq_iff_eq.2 (by omega), trivial, trivial⟩ ?_
          refine xw_ret ?_
          exact bs (.t) rfl
        ·
         replace h13 : (o / 4294967296 - 1) ≠ s := ne_of_beq_false h13
         refine rk [] 14 9 ⟨[(19, .f), (15, .i 0), (14, .u (ldw xs ys o)), (13, .i 0), (12, .u (ldw xs ys o)), (11, .i 10), (9, .p 1), (7, .t), (6, .f), (3, .p 0), (1, .u a), (2, .u o)], [(1, .cells (mm W xs ys ++ [.i s, .i b, .i l, .i p, .i q]) 54), (0, .cells (mm W xs ys ++ [.i s, .i b, .i l, .i p, .i q]) 54)], 2⟩ [True, True] ⟨trivial, trivial, trivial⟩ ?_
         refine en ?_
         refine an ?_
         refine rg [(4, .t), (9, .t), (25, .t), (29, .t), (47, .t)] 50 ⟨[(6, .t)], [], 2⟩ [(0 == 0) = true, True, ((ldw xs ys o) == (ldw xs ys o)) = true, True, True, True, True, True, ((p == p) && ((q == q) && true)) = true, True, (10 != 0) = true, True, True, True, True, (s == s) = true, True] ⟨beq_iff_eq.2 (by omega), trivial, beq_iff_eq.2 (by omega), trivial, trivial, trivial, trivial, trivial, (by simp <;> omega), trivial, bne_iff_ne.2 (by omega), trivial, trivial, trivial, trivial, beq_iff_eq.2 (by omega), trivial, trivial⟩ ?_
         refine xw_ret ?_
         exact bs (.t) rfl
       ·
        refine pc (rload_2 W xs ys o (by omega) (by omega) (by omega) ‹_› ‹_› ‹_› (by omega)) ?_
        refine rk [] 5 4 ⟨[(13, .i 2), (12, .u 0), (11, .i 10), (9, .p 1), (7, .t), (6, .f), (3, .p 0), (1, .u a), (2, .u o)], [(1, .cells (mm W xs ys ++ [.i s, .i b, .i l, .i p, .i q]) 54), (0, .cells (mm W xs ys ++ [.i s, .i b, .i l, .i p, .i q]) 54)], 2⟩ [] trivial ?_
        refine en ?_
        refine an ?_
        refine xw_seq ?_
        refine reg ?_
        refine rk [] 3 0 ⟨[(43, .u o), (42, .agg (mm W xs ys)), (13, .i 2), (12, .u 0), (11, .i 10), (9, .p 1), (7, .t), (6, .f), (3, .p 0), (1, .u a), (2, .u o)], [(1, .cells (mm W xs ys ++ [.i s, .i b, .i l, .i p, .i q]) 54), (0, .cells (mm W xs ys ++ [.i s, .i b, .i l, .i p, .i q]) 54)], 2⟩ [True] ⟨trivial, trivial⟩ ?_
        refine pc (rload_2 W xs ys o (by omega) (by omega) (by omega) ‹_› ‹_› ‹_› (by omega)) ?_
        refine rk [] 5 4 ⟨[(15, .i 2), (14, .u 0), (13, .i 2), (12, .u 0), (11, .i 10), (9, .p 1), (7, .t), (6, .f), (3, .p 0), (1, .u a), (2, .u o)], [(1, .cells (mm W xs ys ++ [.i s, .i b, .i l, .i p, .i q]) 54), (0, .cells (mm W xs ys ++ [.i s, .i b, .i l, .i p, .i q]) 54)], 2⟩ [] trivial ?_
        refine en ?_
        refine an ?_
        refine xw_seq ?_
        refine reg ?_
        refine rk [] 1 0 ⟨[(48, .u o), (15, .i 2), (14, .u 0), (13, .i 2), (12, .u 0), (11, .i 10), (9, .p 1), (7, .t), (6, .f), (3, .p 0), (1, .u a), (2, .u o)], [(1, .cells (mm W xs ys ++ [.i s, .i b, .i l, .i p, .i q]) 54), (0, .cells (mm W xs ys ++ [.i s, .i b, .i l, .i p, .i q]) 54)], 2⟩ [] trivial ?_
        by_cases h12 : 1 ≤ o / 4294967296 ∧ o / 4294967296 ≤ 2
        ·
         refine pc (rwhere_1 o ‹_› (by omega)) ?_
         refine rk [] 7 2 ⟨[(18, .t), (17, .i (o % 4294967296)), (16, .i (o / 4294967296 - 1)), (15, .i 2), (14, .u 0), (13, .i 2), (12, .u 0), (11, .i 10), (9, .p 1), (7, .t), (6, .f), (3, .p 0), (1, .u a), (2, .u o)], [(1, .cells (mm W xs ys ++ [.i s, .i b, .i l, .i p, .i q]) 54), (0, .cells (mm W xs ys ++ [.i s, .i b, .i l, .i p, .i q]) 54)], 2⟩ [] trivial ?_
         refine en ?_
         refine an ?_
         refine xw_seq ?_
         refine reg ?_
         refine rk [(6, .bool ((o / 4294967296 - 1) == s))] 9 0 ⟨[(61, .bool ((o / 4294967296 - 1) == s)), (17, .i (o % 4294967296)), (15, .i 2), (14, .u 0), (13, .i 2), (12, .u 0), (11, .i 10), (9, .p 1), (7, .t), (6, .f), (3, .p 0), (1, .u a), (2, .u o)], [(1, .cells (mm W xs ys ++ [.i s, .i b, .i l, .i p, .i q]) 54), (0, .cells (mm W xs ys ++ [.i s, .i b, .i l, .i p, .i q]) 54)], 2⟩ [True, ((o / 4294967296 - 1) == s) = ((o / 4294967296 - 1) == s), True] ⟨trivial, rfl, trivial, trivial⟩ ?_
         refine splitr 61 (x := ((o / 4294967296 - 1) == s)) (by kernel_rfl) (fun h13 => ?_) (fun h13 => ?_)
         ·
          replace h13 : (o / 4294967296 - 1) = s := eq_of_beq h13
          refine rk [(13, .t), (20, .f)] 14 9 ⟨[(19, .f), (15, .i 2), (14, .u 0), (13, .i 2), (12, .u 0), (11, .i 10), (9, .p 1), (7, .t), (6, .f), (3, .p 0), (1, .u a), (2, .u o)], [(1, .cells (mm W xs ys ++ [.i s, .i b, .i l, .i p, .i q]) 54), (0, .cells (mm W xs ys ++ [.i s, .i b, .i l, .i p, .i q]) 54)], 2⟩ [True, (decide (b ≤ (o % 4294967296))) = true, True, True, (decide ((o % 4294967296) < b)) = false, True] ⟨trivial, decide_eq_true (by omega), trivial, trivial, decide_eq_false (by omega), trivial, trivial⟩ ?_
          refine en ?_
          refine an ?_
          refine rg [(4, .t), (9, .t), (25, .t), (29, .t), (47, .t)] 50 ⟨[(6, .t)], [], 2⟩ [(2 == 2) = true, True, (0 == 0) = true, True, True, True, True, True, ((p == p) && ((q == q) && true)) = true, True, (10 != 0) = true, True, True, True, True, (s == s) = true, True] ⟨beq_iff_eq.2 (by omega), trivial, beq_iff_eq.2 (by omega), trivial, trivial, trivial, trivial, trivial, (by simp <;> omega), trivial, bne_iff_ne.2 (by omega), trivial, trivial, trivial, trivial, beq_iff_eq.2 (by omega), trivial, trivial⟩ ?_
          refine xw_ret ?_
          exact bs (.t) rfl
         ·
          replace h13 : (o / 4294967296 - 1) ≠ s := ne_of_beq_false h13
          refine rk [] 14 9 ⟨[(19, .f), (15, .i 2), (14, .u 0), (13, .i 2), (12, .u 0), (11, .i 10), (9, .p 1), (7, .t), (6, .f), (3, .p 0), (1, .u a), (2, .u o)], [(1, .cells (mm W xs ys ++ [.i s, .i b, .i l, .i p, .i q]) 54), (0, .cells (mm W xs ys ++ [.i s, .i b, .i l, .i p, .i q]) 54)], 2⟩ [True, True] ⟨trivial, trivial, trivial⟩ ?_
          refine en ?_
          refine an ?_
          refine rg [(4, .t), (9, .t), (25, .t), (29, .t), (47, .t)] 50 ⟨[(6, .t)], [], 2⟩ [(2 == 2) = true, True, (0 == 0) = true, True, True, True, True, True, ((p == p) && ((q == q) && true)) = true, True, (10 != 0) = true, True, True, True, True, (s == s) = true, True] ⟨beq_iff_eq.2 (by omega), trivial, beq_iff_eq.2 (by omega), trivial, trivial, trivial, trivial, trivial, (by simp <;> omega), trivial, bne_iff_ne.2 (by omega), trivial, trivial, trivial, trivial, beq_iff_eq.2 (by omega), trivial, trivial⟩ ?_
          refine xw_ret ?_
          exact bs (.t) rfl
        ·
         refine pc (rwhere_2 o ‹_› (by omega)) ?_
         refine rk [] 7 2 ⟨[(18, .f), (17, .i 0), (16, .i 0), (15, .i 2), (14, .u 0), (13, .i 2), (12, .u 0), (11, .i 10), (9, .p 1), (7, .t), (6, .f), (3, .p 0), (1, .u a), (2, .u o)], [(1, .cells (mm W xs ys ++ [.i s, .i b, .i l, .i p, .i q]) 54), (0, .cells (mm W xs ys ++ [.i s, .i b, .i l, .i p, .i q]) 54)], 2⟩ [] trivial ?_
         refine en ?_
         refine an ?_
         refine rg [] 23 ⟨[(19, .f), (15, .i 2), (14, .u 0), (13, .i 2), (12, .u 0), (11, .i 10), (9, .p 1), (7, .t), (6, .f), (3, .p 0), (1, .u a), (2, .u o)], [(1, .cells (mm W xs ys ++ [.i s, .i b, .i l, .i p, .i q]) 54), (0, .cells (mm W xs ys ++ [.i s, .i b, .i l, .i p, .i q]) 54)], 2⟩ [True, True, True] ⟨trivial, trivial, trivial, trivial⟩ ?_
         refine rg [(4, .t), (9, .t), (25, .t), (29, .t), (47, .t)] 50 ⟨[(6, .t)], [], 2⟩ [(2 == 2) = true, True, (0 == 0) = true, True, True, True, True, True, ((p == p) && ((q == q) && true)) = true, True, (10 != 0) = true, True, True, True, True, (s == s) = true, True] ⟨beq_iff_eq.2 (by omega), trivial, beq_iff_eq.2 (by omega), trivial, trivial, trivial, trivial, trivial, (by simp <;> omega), trivial, bne_iff_ne.2 (by omega), trivial, trivial, trivial, trivial, beq_iff_eq.2 (by omega), trivial, trivial⟩ ?_
         refine xw_ret ?_
         exact bs (.t) rfl
      ·
       by_cases h6 : ((ldw xs ys (a + 1)) ≠ 0) ∧ (1 ≤ (ldw xs ys (a + 1)) / 4294967296 ∧ (ldw xs ys (a + 1)) / 4294967296 ≤ 2 ∧ (ldw xs ys (a + 1)) / 4294967296 - 1 = s)
       ·
        refine pc (tto_6 W xs ys s b l p q a (by omega) (by omega) (by omega) ‹_› ‹_› (by omega) (by omega) (by omega) ‹_› (by omega) (by omega) (by omega) ‹_› (by omega) (by omega)) ?_
        obtain ⟨h7, h8, h9⟩ := oErr_ok W xs ys a (by omega)
        have h10 : 1 ≤ (a + 1) / 4294967296 ∧ (a + 1) / 4294967296 ≤ 2 ∧ (a + 1) % 4294967296 < W := by omega
        have h11 : 0 ≤ (ldw xs ys (a + 1)) ∧ (ldw xs ys (a + 1)) ≤ 18446744073709551615 := ldw_ok xs ys (a + 1) ‹_› ‹_›
        refine rk [] 8 3 ⟨[(11, .i 0), (9, .p 1), (7, .t), (6, .f), (3, .p 0), (1, .u a), (2, .u o)], [(1, .cells (mm W xs ys ++ [.i s, .i b, .i l, .i p, .i q]) 54), (0, .cells (mm W xs ys ++ [.i s, .i b, .i l, .i p, .i q]) 54)], 2⟩ [True] ⟨trivial, trivial⟩ ?_
        refine en ?_
        refine an ?_
        refine xw_seq ?_
        refine reg ?_
        refine rk [] 3 0 ⟨[(36, .u o), (35, .agg (mm W xs ys)), (11, .i 0), (9, .p 1), (7, .t), (6, .f), (3, .p 0), (1, .u a), (2, .u o)], [(1, .cells (mm W xs ys ++ [.i s, .i b, .i l, .i p, .i q]) 54), (0, .cells (mm W xs ys ++ [.i s, .i b, .i l, .i p, .i q]) 54)], 2⟩ [True] ⟨trivial, trivial⟩ ?_
        by_cases h12 : 1 ≤ o / 4294967296 ∧ o / 4294967296 ≤ 2 ∧ o % 4294967296 < W
        ·
         refine pc (rload_1 W xs ys o (by omega) (by omega) (by omega) ‹_› ‹_› ‹_› (by omega)) ?_
         have h13 : 0 ≤ (ldw xs ys o) ∧ (ldw xs ys o) ≤ 18446744073709551615 := ldw_ok xs ys o ‹_› ‹_›
         refine rk [] 5 4 ⟨[(13, .i 0), (12, .u (ldw xs ys o)), (11, .i 0), (9, .p 1), (7, .t), (6, .f), (3, .p 0), (1, .u a), (2, .u o)], [(1, .cells (mm W xs ys ++ [.i s, .i b, .i l, .i p, .i q]) 54), (0, .cells (mm W xs ys ++ [.i s, .i b, .i l, .i p, .i q]) 54)], 2⟩ [] trivial ?_
         refine en ?_
         refine an ?_
         refine xw_seq ?_
         refine reg ?_
         refine rk [] 3 0 ⟨[(43, .u o), (42, .agg (mm W xs ys)), (13, .i 0), (12, .u (ldw xs ys o)), (11, .i 0), (9, .p 1), (7, .t), (6, .f), (3, .p 0), (1, .u a), (2, .u o)], [(1, .cells (mm W xs ys ++ [.i s, .i b, .i l, .i p, .i q]) 54), (0, .cells (mm W xs ys ++ [.i s, .i b, .i l, .i p, .i q]) 54)], 2⟩ [True] ⟨trivial, trivial⟩ ?_
         refine pc (rload_1 W xs ys o (by omega) (by omega) (by omega) ‹_› ‹_› ‹_› (by omega)) ?_
         refine rk [] 5 4 ⟨[(15, .i 0), (14, .u (ldw xs ys o)), (13, .i 0), (12, .u (ldw xs ys o)), (11, .i 0), (9, .p 1), (7, .t), (6, .f), (3, .p 0), (1, .u a), (2, .u o)], [(1, .cells (mm W xs ys ++ [.i s, .i b, .i l, .i p, .i q]) 54), (0, .cells (mm W xs ys ++ [.i s, .i b, .i l, .i p, .i q]) 54)], 2⟩ [] trivial ?_
         refine en ?_
         refine an ?_
         refine xw_seq ?_
         refine reg ?_
         refine rk [] 1 0 ⟨[(48, .u o), (15, .i 0), (14, .u (ldw xs ys o)), (13, .i 0), (12, .u (ldw xs ys o)), (11, .i 0), (9, .p 1), (7, .t), (6, .f), (3, .p 0), (1, .u a), (2, .u o)], [(1, .cells (mm W xs ys ++ [.i s, .i b, .i l, .i p, .i q]) 54), (0, .cells (mm W xs ys ++ [.i s, .i b, .i l, .i p, .i q]) 54)], 2⟩ [] trivial ?_
         refine pc (rwhere_1 o ‹_› (by omega)) ?_
         refine rk [] 7 2 ⟨[(18, .t), (17, .i (o % 4294967296)), (16, .i (o / 4294967296 - 1)), (15, .i 0), (14, .u (ldw xs ys o)), (13, .i 0), (12, .u (ldw xs ys o)), (11, .i 0), (9, .p 1), (7, .t), (6, .f), (3, .p 0), (1, .u a), (2, .u o)], [(1, .cells (mm W xs ys ++ [.i s, .i b, .i l, .i p, .i q]) 54), (0, .cells (mm W xs ys ++ [.i s, .i b, .i l, .i p, .i q]) 54)], 2⟩ [] trivial ?_
         refine en ?_
         refine an ?_
         refine xw_seq ?_
         refine reg ?_
         refine rk [(6, .bool ((o / 4294967296 - 1) == s))] 9 0 ⟨[(61, .bool ((o / 4294967296 - 1) == s)), (17, .i (o % 4294967296)), (15, .i 0), (14, .u (ldw xs ys o)), (13, .i 0), (12, .u (ldw xs ys o)), (11, .i 0), (9, .p 1), (7, .t), (6, .f), (3, .p 0), (1, .u a), (2, .u o)], [(1, .cells (mm W xs ys ++ [.i s, .i b, .i l, .i p, .i q]) 54), (0, .cells (mm W xs ys ++ [.i s, .i b, .i l, .i p, .i q]) 54)], 2⟩ [True, ((o / 4294967296 - 1) == s) = ((o / 4294967296 - 1) == s), True] ⟨trivial, rfl, trivial, trivial⟩ ?_
         refine splitr 61 (x := ((o / 4294967296 - 1) == s)) (by kernel_rfl) (fun h14 => ?_) (fun h14 => ?_)
         ·
          replace h14 : (o / 4294967296 - 1) = s := eq_of_beq h14
          refine rk [(13, .bool (decide (b ≤ (o % 4294967296))))] 7 9 ⟨[(68, .bool (decide (b ≤ (o % 4294967296)))), (17, .i (o % 4294967296)), (15, .i 0), (14, .u (ldw xs ys o)), (13, .i 0), (12, .u (ldw xs ys o)), (11, .i 0), (9, .p 1), (7, .t), (6, .f), (3, .p 0), (1, .u a), (2, .u o)], [(1, .cells (mm W xs ys ++ [.i s, .i b, .i l, .i p, .i q]) 54), (0, .cells (mm W xs ys ++ [.i s, .i b, .i l, .i p, .i q]) 54)], 2⟩ [True, (decide (b ≤ (o % 4294967296))) = (decide (b ≤ (o % 4294967296))), True] ⟨trivial, rfl, trivial, trivial⟩ ?_
          refine splitr 68 (x := (decide (b ≤ (o % 4294967296)))) (by kernel_rfl) (fun h15 => ?_) (fun h15 => ?_)
          ·
           replace h15 : b ≤ (o % 4294967296) := of_decide_eq_true h15
           refine rk [(20, .f)] 7 16 ⟨[(19, .f), (15, .i 0), (14, .u (ldw xs ys o)), (13, .i 0), (12, .u (ldw xs ys o)), (11, .i 0), (9, .p 1), (7, .t), (6, .f), (3, .p 0), (1, .u a), (2, .u o)], [(1, .cells (mm W xs ys ++ [.i s, .i b, .i l, .i p, .i q]) 54), (0, .cells (mm W xs ys ++ [.i s, .i b, .i l, .i p, .i q]) 54)], 2⟩ [True, (decide ((o % 4294967296) < b)) = false, True] ⟨trivial, decide_eq_false (by omega), trivial, trivial⟩ ?_
           refine en ?_
           refine an ?_
           refine rg [(4, .t), (9, .t), (25, .t), (29, .f), (37, .t), (47, .t)] 50 ⟨[(6, .t)], [], 2⟩ [(0 == 0) = true, True, ((ldw xs ys o) == (ldw xs ys o)) = true, True, True, True, True, True, ((p == p) && ((q == q) && true)) = true, True, (0 != 0) = false, True, True, (decide (b ≤ b)) = true, True, True, True, True, (s == s) = true, True] ⟨beq_iff_eq.2 (by omega), trivial, beq_iff_eq.2 (by omega), trivial, trivial, trivial, trivial, trivial, (by simp <;> omega), trivial, bne_eq_false_iff_eq.2 (by omega), trivial, trivial, decide_eq_true (by omega), trivial, trivial, trivial, trivial, beq_iff_eq.2 (by omega), trivial, trivial⟩ ?_
           refine xw_ret ?_
           exact bs (.t) rfl
          ·
           replace h15 : ¬ (b ≤ (o % 4294967296)) := of_decide_eq_false h15
           refine rk [] 7 16 ⟨[(19, .f), (15, .i 0), (14, .u (ldw xs ys o)), (13, .i 0), (12, .u (ldw xs ys o)), (11, .i 0), (9, .p 1), (7, .t), (6, .f), (3, .p 0), (1, .u a), (2, .u o)], [(1, .cells (mm W xs ys ++ [.i s, .i b, .i l, .i p, .i q]) 54), (0, .cells (mm W xs ys ++ [.i s, .i b, .i l, .i p, .i q]) 54)], 2⟩ [True] ⟨trivial, trivial⟩ ?_
           refine en ?_
           refine an ?_
           refine rg [(4, .t), (9, .t), (25, .t), (29, .f), (37, .t), (47, .t)] 50 ⟨[(6, .t)], [], 2⟩ [(0 == 0) = true, True, ((ldw xs ys o) == (ldw xs ys o)) = true, True, True, True, True, True, ((p == p) && ((q == q) && true)) = true, True, (0 != 0) = false, True, True, (decide (b ≤ b)) = true, True, True, True, True, (s == s) = true, True] ⟨beq_iff_eq.2 (by omega), trivial, beq_iff_eq.2 (by omega), trivial, trivial, trivial, trivial, trivial, (by simp <;> omega), trivial, bne_eq_false_iff_eq.2 (by omega), trivial, trivial, decide_eq_true (by omega), trivial, trivial, trivial, trivial, beq_iff_eq.2 (by omega), trivial, trivial⟩ ?_
           refine xw_ret ?_
           exact bs (.t) rfl
         ·
          replace h14 : (o / 4294967296 - 1) ≠ s := ne_of_beq_false h14
          refine rk [] 14 9 ⟨[(19, .f), (15, .i 0), (14, .u (ldw xs ys o)), (13, .i 0), (12, .u (ldw xs ys o)), (11, .i 0), (9, .p 1), (7, .t), (6, .f), (3, .p 0), (1, .u a), (2, .u o)], [(1, .cells (mm W xs ys ++ [.i s, .i b, .i l, .i p, .i q]) 54), (0, .cells (mm W xs ys ++ [.i s, .i b, .i l, .i p, .i q]) 54)], 2⟩ [True, True] ⟨trivial, trivial, trivial⟩ ?_
          refine en ?_
          refine an ?_
          refine rg [(4, .t), (9, .t), (25, .t), (29, .f), (37, .t), (47, .t)] 50 ⟨[(6, .t)], [], 2⟩ [(0 == 0) = true, True, ((ldw xs ys o) == (ldw xs ys o)) = true, True, True, True, True, True, ((p == p) && ((q == q) && true)) = true, True, (0 != 0) = false, True, True, (decide (b ≤ b)) = true, True, True, True, True, (s == s) = true, True] ⟨beq_iff_eq.2 (by omega), trivial, beq_iff_eq.2 (by omega), trivial, trivial, trivial, trivial, trivial, (by simp <;> omega), trivial, bne_eq_false_iff_eq.2 (by omega), trivial, trivial, decide_eq_true (by omega), trivial, trivial, trivial, trivial, beq_iff_eq.2 (by omega), trivial, trivial⟩ ?_
          refine xw_ret ?_
          exact bs (.t) rfl
        ·
         refine pc (rload_2 W xs ys o (by omega) (by omega) (by omega) ‹_› ‹_› ‹_› (by omega)) ?_
         refine rk [] 5 4 ⟨[(13, .i 2), (12, .u 0), (11, .i 0), (9, .p 1), (7, .t), (6, .f), (3, .p 0), (1, .u a), (2, .u o)], [(1, .cells (mm W xs ys ++ [.i s, .i b, .i l, .i p, .i q]) 54), (0, .cells (mm W xs ys ++ [.i s, .i b, .i l, .i p, .i q]) 54)], 2⟩ [] trivial ?_
         refine en ?_
         refine an ?_
         refine xw_seq ?_
         refine reg ?_
         refine rk [] 3 0 ⟨[(43, .u o), (42, .agg (mm W xs ys)), (13, .i 2), (12, .u 0), (11, .i 0), (9, .p 1), (7, .t), (6, .f), (3, .p 0), (1, .u a), (2, .u o)], [(1, .cells (mm W xs ys ++ [.i s, .i b, .i l, .i p, .i q]) 54), (0, .cells (mm W xs ys ++ [.i s, .i b, .i l, .i p, .i q]) 54)], 2⟩ [True] ⟨trivial, trivial⟩ ?_
         refine pc (rload_2 W xs ys o (by omega) (by omega) (by omega) ‹_› ‹_› ‹_› (by omega)) ?_
         refine rk [] 5 4 ⟨[(15, .i 2), (14, .u 0), (13, .i 2), (12, .u 0), (11, .i 0), (9, .p 1), (7, .t), (6, .f), (3, .p 0), (1, .u a), (2, .u o)], [(1, .cells (mm W xs ys ++ [.i s, .i b, .i l, .i p, .i q]) 54), (0, .cells (mm W xs ys ++ [.i s, .i b, .i l, .i p, .i q]) 54)], 2⟩ [] trivial ?_
         refine en ?_
         refine an ?_
         refine xw_seq ?_
         refine reg ?_
         refine rk [] 1 0 ⟨[(48, .u o), (15, .i 2), (14, .u 0), (13, .i 2), (12, .u 0), (11, .i 0), (9, .p 1), (7, .t), (6, .f), (3, .p 0), (1, .u a), (2, .u o)], [(1, .cells (mm W xs ys ++ [.i s, .i b, .i l, .i p, .i q]) 54), (0, .cells (mm W xs ys ++ [.i s, .i b, .i l, .i p, .i q]) 54)], 2⟩ [] trivial ?_
         by_cases h13 : 1 ≤ o / 4294967296 ∧ o / 4294967296 ≤ 2
         ·
          refine pc (rwhere_1 o ‹_› (by omega)) ?_
          refine rk [] 7 2 ⟨[(18, .t), (17, .i (o % 4294967296)), (16, .i (o / 4294967296 - 1)), (15, .i 2), (14, .u 0), (13, .i 2), (12, .u 0), (11, .i 0), (9, .p 1), (7, .t), (6, .f), (3, .p 0), (1, .u a), (2, .u o)], [(1, .cells (mm W xs ys ++ [.i s, .i b, .i l, .i p, .i q]) 54), (0, .cells (mm W xs ys ++ [.i s, .i b, .i l, .i p, .i q]) 54)], 2⟩ [] trivial ?_
          refine en ?_
          refine an ?_
          refine xw_seq ?_
          refine reg ?_
          refine rk [(6, .bool ((o / 4294967296 - 1) == s))] 9 0 ⟨[(61, .bool ((o / 4294967296 - 1) == s)), (17, .i (o % 4294967296)), (15, .i 2), (14, .u 0), (13, .i 2), (12, .u 0), (11, .i 0), (9, .p 1), (7, .t), (6, .f), (3, .p 0), (1, .u a), (2, .u o)], [(1, .cells (mm W xs ys ++ [.i s, .i b, .i l, .i p, .i q]) 54), (0, .cells (mm W xs ys ++ [.i s, .i b, .i l, .i p, .i q]) 54)], 2⟩ [True, ((o / 4294967296 - 1) == s) = ((o / 4294967296 - 1) == s), True] ⟨trivial, rfl, trivial, trivial⟩ ?_
          refine splitr 61 (x := ((o / 4294967296 - 1) == s)) (by kernel_rfl) (fun h14 => ?_) (fun h14 => ?_)
          ·
           replace h14 : (o / 4294967296 - 1) = s := eq_of_beq h14
           refine rk [(13, .t), (20, .f)] 14 9 ⟨[(19, .f), (15, .i 2), (14, .u 0), (13, .i 2), (12, .u 0), (11, .i 0), (9, .p 1), (7, .t), (6, .f), (3, .p 0), (1, .u a), (2, .u o)], [(1, .cells (mm W xs ys ++ [.i s, .i b, .i l, .i p, .i q]) 54), (0, .cells (mm W xs ys ++ [.i s, .i b, .i l, .i p, .i q]) 54)], 2⟩ [True, (decide (b ≤ (o % 4294967296))) = true, True, True, (decide ((o % 4294967296) < b)) = false, True] ⟨trivial, decide_eq_true (by omega), trivial, trivial, decide_eq_false (by omega), trivial, trivial⟩ ?_
           refine en ?_
           refine an ?_
           refine rg [(4, .t), (9, .t), (25, .t), (29, .f), (37, .t), (47, .t)] 50 ⟨[(6, .t)], [], 2⟩ [(2 == 2) = true, True, (0 == 0) = true, True, True, True, True, True, ((p == p) && ((q == q) && true)) = true, True, (0 != 0) = false, True, True, (decide (b ≤ b)) = true, True, True, True, True, (s == s) = true, True] ⟨beq_iff_eq.2 (by omega), trivial, beq_iff_eq.2 (by omega), trivial, trivial, trivial, trivial, trivial, (by simp <;> omega), trivial, bne_eq_false_iff_eq.2 (by omega), trivial, trivial, decide_eq_true (by omega), trivial, trivial, trivial, trivial, beq_iff_eq.2 (by omega), trivial, trivial⟩ ?_
           refine xw_ret ?_
           exact bs (.t) rfl
          ·
           replace h14 : (o / 4294967296 - 1) ≠ s := ne_of_beq_false h14
           refine rk [] 14 9 ⟨[(19, .f), (15, .i 2), (14, .u 0), (13, .i 2), (12, .u 0), (11, .i 0), (9, .p 1), (7, .t), (6, .f), (3, .p 0), (1, .u a), (2, .u o)], [(1, .cells (mm W xs ys ++ [.i s, .i b, .i l, .i p, .i q]) 54), (0, .cells (mm W xs ys ++ [.i s, .i b, .i l, .i p, .i q]) 54)], 2⟩ [True, True] ⟨trivial, trivial, trivial⟩ ?_
           refine en ?_
           refine an ?_
           refine rg [(4, .t), (9, .t), (25, .t), (29, .f), (37, .t), (47, .t)] 50 ⟨[(6, .t)], [], 2⟩ [(2 == 2) = true, True, (0 == 0) = true, True, True, True, True, True, ((p == p) && ((q == q) && true)) = true, True, (0 != 0) = false, True, True, (decide (b ≤ b)) = true, True, True, True, True, (s == s) = true, True] ⟨beq_iff_eq.2 (by omega), trivial, beq_iff_eq.2 (by omega), trivial, trivial, trivial, trivial, trivial, (by simp <;> omega), trivial, bne_eq_false_iff_eq.2 (by omega), trivial, trivial, decide_eq_true (by omega), trivial, trivial, trivial, trivial, beq_iff_eq.2 (by omega), trivial, trivial⟩ ?_
           refine xw_ret ?_
           exact bs (.t) rfl
         ·
          refine pc (rwhere_2 o ‹_› (by omega)) ?_
          refine rk [] 7 2 ⟨[(18, .f), (17, .i 0), (16, .i 0), (15, .i 2), (14, .u 0), (13, .i 2), (12, .u 0), (11, .i 0), (9, .p 1), (7, .t), (6, .f), (3, .p 0), (1, .u a), (2, .u o)], [(1, .cells (mm W xs ys ++ [.i s, .i b, .i l, .i p, .i q]) 54), (0, .cells (mm W xs ys ++ [.i s, .i b, .i l, .i p, .i q]) 54)], 2⟩ [] trivial ?_
          refine en ?_
          refine an ?_
          refine rg [] 23 ⟨[(19, .f), (15, .i 2), (14, .u 0), (13, .i 2), (12, .u 0), (11, .i 0), (9, .p 1), (7, .t), (6, .f), (3, .p 0), (1, .u a), (2, .u o)], [(1, .cells (mm W xs ys ++ [.i s, .i b, .i l, .i p, .i q]) 54), (0, .cells (mm W xs ys ++ [.i s, .i b, .i l, .i p, .i q]) 54)], 2⟩ [True, True, True] ⟨trivial, trivial, trivial, trivial⟩ ?_
          refine rg [(4, .t), (9, .t), (25, .t), (29, .f), (37, .t), (47, .t)] 50 ⟨[(6, .t)], [], 2⟩ [(2 == 2) = true, True, (0 == 0) = true, True, True, True, True, True, ((p == p) && ((q == q) && true)) = true, True, (0 != 0) = false, True, True, (decide (b ≤ b)) = true, True, True, True, True, (s == s) = true, True] ⟨beq_iff_eq.2 (by omega), trivial, beq_iff_eq.2 (by omega), trivial, trivial, trivial, trivial, trivial, (by simp <;> omega), trivial, bne_eq_false_iff_eq.2 (by omega), trivial, trivial, decide_eq_true (by omega), trivial, trivial, trivial, trivial, beq_iff_eq.2 (by omega), trivial, trivial⟩ ?_
          refine xw_ret ?_
          exact bs (.t) rfl
       ·
        by_cases h7 : l - b < (((ldw xs ys a / 4294967296) % 16777216) + 2)
        ·
         refine pc (tto_7 W xs ys s b l p q a (by omega) (by omega) (by omega) ‹_› ‹_› (by omega) (by omega) (by omega) ‹_› (by omega) (by omega) (by omega) ‹_› (by omega) ‹_›) ?_
         obtain ⟨h8, h9, h10⟩ := oErr_ok W xs ys a (by omega)
         have h11 : 1 ≤ (a + 1) / 4294967296 ∧ (a + 1) / 4294967296 ≤ 2 ∧ (a + 1) % 4294967296 < W := by omega
         have h12 : 0 ≤ (ldw xs ys (a + 1)) ∧ (ldw xs ys (a + 1)) ≤ 18446744073709551615 := ldw_ok xs ys (a + 1) ‹_› ‹_›
         refine rk [] 8 3 ⟨[(11, .i 4), (9, .p 1), (7, .t), (6, .f), (3, .p 0), (1, .u a), (2, .u o)], [(1, .cells (mm W xs ys ++ [.i s, .i b, .i l, .i p, .i q]) 54), (0, .cells (mm W xs ys ++ [.i s, .i b, .i l, .i p, .i q]) 54)], 2⟩ [True] ⟨trivial, trivial⟩ ?_
         refine en ?_
         refine an ?_
         refine xw_seq ?_
         refine reg ?_
         refine rk [] 3 0 ⟨[(36, .u o), (35, .agg (mm W xs ys)), (11, .i 4), (9, .p 1), (7, .t), (6, .f), (3, .p 0), (1, .u a), (2, .u o)], [(1, .cells (mm W xs ys ++ [.i s, .i b, .i l, .i p, .i q]) 54), (0, .cells (mm W xs ys ++ [.i s, .i b, .i l, .i p, .i q]) 54)], 2⟩ [True] ⟨trivial, trivial⟩ ?_
         by_cases h13 : 1 ≤ o / 4294967296 ∧ o / 4294967296 ≤ 2 ∧ o % 4294967296 < W
         ·
          refine pc (rload_1 W xs ys o (by omega) (by omega) (by omega) ‹_› ‹_› ‹_› (by omega)) ?_
          have h14 : 0 ≤ (ldw xs ys o) ∧ (ldw xs ys o) ≤ 18446744073709551615 := ldw_ok xs ys o ‹_› ‹_›
          refine rk [] 5 4 ⟨[(13, .i 0), (12, .u (ldw xs ys o)), (11, .i 4), (9, .p 1), (7, .t), (6, .f), (3, .p 0), (1, .u a), (2, .u o)], [(1, .cells (mm W xs ys ++ [.i s, .i b, .i l, .i p, .i q]) 54), (0, .cells (mm W xs ys ++ [.i s, .i b, .i l, .i p, .i q]) 54)], 2⟩ [] trivial ?_
          refine en ?_
          refine an ?_
          refine xw_seq ?_
          refine reg ?_
          refine rk [] 3 0 ⟨[(43, .u o), (42, .agg (mm W xs ys)), (13, .i 0), (12, .u (ldw xs ys o)), (11, .i 4), (9, .p 1), (7, .t), (6, .f), (3, .p 0), (1, .u a), (2, .u o)], [(1, .cells (mm W xs ys ++ [.i s, .i b, .i l, .i p, .i q]) 54), (0, .cells (mm W xs ys ++ [.i s, .i b, .i l, .i p, .i q]) 54)], 2⟩ [True] ⟨trivial, trivial⟩ ?_
          refine pc (rload_1 W xs ys o (by omega) (by omega) (by omega) ‹_› ‹_› ‹_› (by omega)) ?_
          refine rk [] 5 4 ⟨[(15, .i 0), (14, .u (ldw xs ys o)), (13, .i 0), (12, .u (ldw xs ys o)), (11, .i 4), (9, .p 1), (7, .t), (6, .f), (3, .p 0), (1, .u a), (2, .u o)], [(1, .cells (mm W xs ys ++ [.i s, .i b, .i l, .i p, .i q]) 54), (0, .cells (mm W xs ys ++ [.i s, .i b, .i l, .i p, .i q]) 54)], 2⟩ [] trivial ?_
          refine en ?_
          refine an ?_
          refine xw_seq ?_
          refine reg ?_
          refine rk [] 1 0 ⟨[(48, .u o), (15, .i 0), (14, .u (ldw xs ys o)), (13, .i 0), (12, .u (ldw xs ys o)), (11, .i 4), (9, .p 1), (7, .t), (6, .f), (3, .p 0), (1, .u a), (2, .u o)], [(1, .cells (mm W xs ys ++ [.i s, .i b, .i l, .i p, .i q]) 54), (0, .cells (mm W xs ys ++ [.i s, .i b, .i l, .i p, .i q]) 54)], 2⟩ [] trivial ?_
          refine pc (rwhere_1 o ‹_› (by omega)) ?_
          refine rk [] 7 2 ⟨[(18, .t), (17, .i (o % 4294967296)), (16, .i (o / 4294967296 - 1)), (15, .i 0), (14, .u (ldw xs ys o)), (13, .i 0), (12, .u (ldw xs ys o)), (11, .i 4), (9, .p 1), (7, .t), (6, .f), (3, .p 0), (1, .u a), (2, .u o)], [(1, .cells (mm W xs ys ++ [.i s, .i b, .i l, .i p, .i q]) 54), (0, .cells (mm W xs ys ++ [.i s, .i b, .i l, .i p, .i q]) 54)], 2⟩ [] trivial ?_
          refine en ?_
          refine an ?_
          refine xw_seq ?_
          refine reg ?_
          refine rk [(6, .bool ((o / 4294967296 - 1) == s))] 9 0 ⟨[(61, .bool ((o / 4294967296 - 1) == s)), (17, .i (o % 4294967296)), (15, .i 0), (14, .u (ldw xs ys o)), (13, .i 0), (12, .u (ldw xs ys o)), (11, .i 4), (9, .p 1), (7, .t), (6, .f), (3, .p 0), (1, .u a), (2, .u o)], [(1, .cells (mm W xs ys ++ [.i s, .i b, .i l, .i p, .i q]) 54), (0, .cells (mm W xs ys ++ [.i s, .i b, .i l, .i p, .i q]) 54)], 2⟩ [True, ((o / 4294967296 - 1) == s) = ((o / 4294967296 - 1) == s), True] ⟨trivial, rfl, trivial, trivial⟩ ?_
          refine splitr 61 (x := ((o / 4294967296 - 1) == s)) (by kernel_rfl) (fun h15 => ?_) (fun h15 => ?_)
          ·
           replace h15 : (o / 4294967296 - 1) = s := eq_of_beq h15
           refine rk [(13, .bool (decide (b ≤ (o % 4294967296))))] 7 9 ⟨[(68, .bool (decide (b ≤ (o % 4294967296)))), (17, .i (o % 4294967296)), (15, .i 0), (14, .u (ldw xs ys o)), (13, .i 0), (12, .u (ldw xs ys o)), (11, .i 4), (9, .p 1), (7, .t), (6, .f), (3, .p 0), (1, .u a), (2, .u o)], [(1, .cells (mm W xs ys ++ [.i s, .i b, .i l, .i p, .i q]) 54), (0, .cells (mm W xs ys ++ [.i s, .i b, .i l, .i p, .i q]) 54)], 2⟩ [True, (decide (b ≤ (o % 4294967296))) = (decide (b ≤ (o % 4294967296))), True] ⟨trivial, rfl, trivial, trivial⟩ ?_
           refine splitr 68 (x := (decide (b ≤ (o % 4294967296)))) (by kernel_rfl) (fun h16 => ?_) (fun h16 => ?_)
           ·
            replace h16 : b ≤ (o % 4294967296) := of_decide_eq_true h16
            refine rk [(20, .f)] 7 16 ⟨[(19, .f), (15, .i 0), (14, .u (ldw xs ys o)), (13, .i 0), (12, .u (ldw xs ys o)), (11, .i 4), (9, .p 1), (7, .t), (6, .f), (3, .p 0), (1, .u a), (2, .u o)], [(1, .cells (mm W xs ys ++ [.i s, .i b, .i l, .i p, .i q]) 54), (0, .cells (mm W xs ys ++ [.i s, .i b, .i l, .i p, .i q]) 54)], 2⟩ [True, (decide ((o % 4294967296) < b)) = false, True] ⟨trivial, decide_eq_false (by omega), trivial, trivial⟩ ?_
            refine en ?_
            refine an ?_
            refine rg [(4, .t), (9, .t), (25, .t), (29, .t), (47, .t)] 50 ⟨[(6, .t)], [], 2⟩ [(0 == 0) = true, True, ((ldw xs ys o) == (ldw xs ys o)) = true, True, True, True, True, True, ((p == p) && ((q == q) && true)) = true, True, (4 != 0) = true, True, True, True, True, (s == s) = true, True] ⟨beq_iff_eq.2 (by omega), trivial, beq_iff_eq.2 (by omega), trivial, trivial, trivial, trivial, trivial, (by simp <;> omega), trivial, bne_iff_ne.2 (by omega), trivial, trivial, trivial, trivial, beq_iff_eq.2 (by omega), trivial, trivial⟩ ?_
            refine xw_ret ?_
            exact bs (.t) rfl
           ·
            replace h16 : ¬ (b ≤ (o % 4294967296)) := of_decide_eq_false h16
            refine rk [] 7 16 ⟨[(19, .f), (15, .i 0), (14, .u (ldw xs ys o)), (13, .i 0), (12, .u (ldw xs ys o)), (11, .i 4), (9, .p 1), (7, .t), (6, .f), (3, .p 0), (1, .u a), (2, .u o)], [(1, .cells (mm W xs ys ++ [.i s, .i b, .i l, .i p, .i q]) 54), (0, .cells (mm W xs ys ++ [.i s, .i b, .i l, .i p, .i q]) 54)], 2⟩ [True] ⟨trivial, trivial⟩ ?_
            refine en ?_
            refine an ?_
            refine rg [(4, .t), (9, .t), (25, .t), (29, .t), (47, .t)] 50 ⟨[(6, .t)], [], 2⟩ [(0 == 0) = true, True, ((ldw xs ys o) == (ldw xs ys o)) = true, True, True, True, True, True, ((p == p) && ((q == q) && true)) = true, True, (4 != 0) = true, True, True, True, True, (s == s) = true, True] ⟨beq_iff_eq.2 (by omega), trivial, beq_iff_eq.2 (by omega), trivial, trivial, trivial, trivial, trivial, (by simp <;> omega), trivial, bne_iff_ne.2 (by omega), trivial, trivial, trivial, trivial, beq_iff_eq.2 (by omega), trivial, trivial⟩ ?_
            refine xw_ret ?_
            exact bs (.t) rfl
          ·
           replace h15 : (o / 4294967296 - 1) ≠ s := ne_of_beq_false h15
           refine rk [] 14 9 ⟨[(19, .f), (15, .i 0), (14, .u (ldw xs ys o)), (13, .i 0), (12, .u (ldw xs ys o)), (11, .i 4), (9, .p 1), (7, .t), (6, .f), (3, .p 0), (1, .u a), (2, .u o)], [(1, .cells (mm W xs ys ++ [.i s, .i b, .i l, .i p, .i q]) 54), (0, .cells (mm W xs ys ++ [.i s, .i b, .i l, .i p, .i q]) 54)], 2⟩ [True, True] ⟨trivial, trivial, trivial⟩ ?_
           refine en ?_
           refine an ?_
           refine rg [(4, .t), (9, .t), (25, .t), (29, .t), (47, .t)] 50 ⟨[(6, .t)], [], 2⟩ [(0 == 0) = true, True, ((ldw xs ys o) == (ldw xs ys o)) = true, True, True, True, True, True, ((p == p) && ((q == q) && true)) = true, True, (4 != 0) = true, True, True, True, True, (s == s) = true, True] ⟨beq_iff_eq.2 (by omega), trivial, beq_iff_eq.2 (by omega), trivial, trivial, trivial, trivial, trivial, (by simp <;> omega), trivial, bne_iff_ne.2 (by omega), trivial, trivial, trivial, trivial, beq_iff_eq.2 (by omega), trivial, trivial⟩ ?_
           refine xw_ret ?_
           exact bs (.t) rfl
         ·
          refine pc (rload_2 W xs ys o (by omega) (by omega) (by omega) ‹_› ‹_› ‹_› (by omega)) ?_
          refine rk [] 5 4 ⟨[(13, .i 2), (12, .u 0), (11, .i 4), (9, .p 1), (7, .t), (6, .f), (3, .p 0), (1, .u a), (2, .u o)], [(1, .cells (mm W xs ys ++ [.i s, .i b, .i l, .i p, .i q]) 54), (0, .cells (mm W xs ys ++ [.i s, .i b, .i l, .i p, .i q]) 54)], 2⟩ [] trivial ?_
          refine en ?_
          refine an ?_
          refine xw_seq ?_
          refine reg ?_
          refine rk [] 3 0 ⟨[(43, .u o), (42, .agg (mm W xs ys)), (13, .i 2), (12, .u 0), (11, .i 4), (9, .p 1), (7, .t), (6, .f), (3, .p 0), (1, .u a), (2, .u o)], [(1, .cells (mm W xs ys ++ [.i s, .i b, .i l, .i p, .i q]) 54), (0, .cells (mm W xs ys ++ [.i s, .i b, .i l, .i p, .i q]) 54)], 2⟩ [True] ⟨trivial, trivial⟩ ?_
          refine pc (rload_2 W xs ys o (by omega) (by omega) (by omega) ‹_› ‹_› ‹_› (by omega)) ?_
          refine rk [] 5 4 ⟨[(15, .i 2), (14, .u 0), (13, .i 2), (12, .u 0), (11, .i 4), (9, .p 1), (7, .t), (6, .f), (3, .p 0), (1, .u a), (2, .u o)], [(1, .cells (mm W xs ys ++ [.i s, .i b, .i l, .i p, .i q]) 54), (0, .cells (mm W xs ys ++ [.i s, .i b, .i l, .i p, .i q]) 54)], 2⟩ [] trivial ?_
          refine en ?_
          refine an ?_
          refine xw_seq ?_
          refine reg ?_
          refine rk [] 1 0 ⟨[(48, .u o), (15, .i 2), (14, .u 0), (13, .i 2), (12, .u 0), (11, .i 4), (9, .p 1), (7, .t), (6, .f), (3, .p 0), (1, .u a), (2, .u o)], [(1, .cells (mm W xs ys ++ [.i s, .i b, .i l, .i p, .i q]) 54), (0, .cells (mm W xs ys ++ [.i s, .i b, .i l, .i p, .i q]) 54)], 2⟩ [] trivial ?_
          by_cases h14 : 1 ≤ o / 4294967296 ∧ o / 4294967296 ≤ 2
          ·
           refine pc (rwhere_1 o ‹_› (by omega)) ?_
           refine rk [] 7 2 ⟨[(18, .t), (17, .i (o % 4294967296)), (16, .i (o / 4294967296 - 1)), (15, .i 2), (14, .u 0), (13, .i 2), (12, .u 0), (11, .i 4), (9, .p 1), (7, .t), (6, .f), (3, .p 0), (1, .u a), (2, .u o)], [(1, .cells (mm W xs ys ++ [.i s, .i b, .i l, .i p, .i q]) 54), (0, .cells (mm W xs ys ++ [.i s, .i b, .i l, .i p, .i q]) 54)], 2⟩ [] trivial ?_
           refine en ?_
           refine an ?_
           refine xw_seq ?_
           refine reg ?_
           refine rk [(6, .bool ((o / 4294967296 - 1) == s))] 9 0 ⟨[(61, .bool ((o / 4294967296 - 1) == s)), (17, .i (o % 4294967296)), (15, .i 2), (14, .u 0), (13, .i 2), (12, .u 0), (11, .i 4), (9, .p 1), (7, .t), (6, .f), (3, .p 0), (1, .u a), (2, .u o)], [(1, .cells (mm W xs ys ++ [.i s, .i b, .i l, .i p, .i q]) 54), (0, .cells (mm W xs ys ++ [.i s, .i b, .i l, .i p, .i q]) 54)], 2⟩ [True, ((o / 4294967296 - 1) == s) = ((o / 4294967296 - 1) == s), True] ⟨trivial, rfl, trivial, trivial⟩ ?_
           refine splitr 61 (x := ((o / 4294967296 - 1) == s)) (by kernel_rfl) (fun h15 => ?_) (fun h15 => ?_)
           ·
            replace h15 : (o / 4294967296 - 1) = s := eq_of_beq h15
            refine rk [(13, .t), (20, .f)] 14 9 ⟨[(19, .f), (15, .i 2), (14, .u 0), (13, .i 2), (12, .u 0), (11, .i 4), (9, .p 1), (7, .t), (6, .f), (3, .p 0), (1, .u a), (2, .u o)], [(1, .cells (mm W xs ys ++ [.i s, .i b, .i l, .i p, .i q]) 54), (0, .cells (mm W xs ys ++ [.i s, .i b, .i l, .i p, .i q]) 54)], 2⟩ [True, (decide (b ≤ (o % 4294967296))) = true, True, True, (decide ((o % 4294967296) < b)) = false, True] ⟨trivial, decide_eq_true (by omega), trivial, trivial, decide_eq_false (by omega), trivial, trivial⟩ ?_
            refine en ?_
            refine an ?_
            refine rg [(4, .t), (9, .t), (25, .t), (29, .t), (47, .t)] 50 ⟨[(6, .t)], [], 2⟩ [(2 == 2) = true, True, (0 == 0) = true, True, True, True, True, True, ((p == p) && ((q == q) && true)) = true, True, (4 != 0) = true, True, True, True, True, (s == s) = true, True] ⟨beq_iff_eq.2 (by omega), trivial, beq_iff_eq.2 (by omega), trivial, trivial, trivial, trivial, trivial, (by simp <;> omega), trivial, bne_iff_ne.2 (by omega), trivial, trivial, trivial, trivial, beq_iff_eq.2 (by omega), trivial, trivial⟩ ?_
            refine xw_ret ?_
            exact bs (.t) rfl
           ·
            replace h15 : (o / 4294967296 - 1) ≠ s := ne_of_beq_false h15
            refine rk [] 14 9 ⟨[(19, .f), (15, .i 2), (14, .u 0), (13, .i 2), (12, .u 0), (11, .i 4), (9, .p 1), (7, .t), (6, .f), (3, .p 0), (1, .u a), (2, .u o)], [(1, .cells (mm W xs ys ++ [.i s, .i b, .i l, .i p, .i q]) 54), (0, .cells (mm W xs ys ++ [.i s, .i b, .i l, .i p, .i q]) 54)], 2⟩ [True, True] ⟨trivial, trivial, trivial⟩ ?_
            refine en ?_
            refine an ?_
            refine rg [(4, .t), (9, .t), (25, .t), (29, .t), (47, .t)] 50 ⟨[(6, .t)], [], 2⟩ [(2 == 2) = true, True, (0 == 0) = true, True, True, True, True, True, ((p == p) && ((q == q) && true)) = true, True, (4 != 0) = true, True, True, True, True, (s == s) = true, True] ⟨beq_iff_eq.2 (by omega), trivial, beq_iff_eq.2 (by omega), trivial, trivial, trivial, trivial, trivial, (by simp <;> omega), trivial, bne_iff_ne.2 (by omega), trivial, trivial, trivial, trivial, beq_iff_eq.2 (by omega), trivial, trivial⟩ ?_
            refine xw_ret ?_
            exact bs (.t) rfl
          ·
           refine pc (rwhere_2 o ‹_› (by omega)) ?_
           refine rk [] 7 2 ⟨[(18, .f), (17, .i 0), (16, .i 0), (15, .i 2), (14, .u 0), (13, .i 2), (12, .u 0), (11, .i 4), (9, .p 1), (7, .t), (6, .f), (3, .p 0), (1, .u a), (2, .u o)], [(1, .cells (mm W xs ys ++ [.i s, .i b, .i l, .i p, .i q]) 54), (0, .cells (mm W xs ys ++ [.i s, .i b, .i l, .i p, .i q]) 54)], 2⟩ [] trivial ?_
           refine en ?_
           refine an ?_
           refine rg [] 23 ⟨[(19, .f), (15, .i 2), (14, .u 0), (13, .i 2), (12, .u 0), (11, .i 4), (9, .p 1), (7, .t), (6, .f), (3, .p 0), (1, .u a), (2, .u o)], [(1, .cells (mm W xs ys ++ [.i s, .i b, .i l, .i p, .i q]) 54), (0, .cells (mm W xs ys ++ [.i s, .i b, .i l, .i p, .i q]) 54)], 2⟩ [True, True, True] ⟨trivial, trivial, trivial, trivial⟩ ?_
           refine rg [(4, .t), (9, .t), (25, .t), (29, .t), (47, .t)] 50 ⟨[(6, .t)], [], 2⟩ [(2 == 2) = true, True, (0 == 0) = true, True, True, True, True, True, ((p == p) && ((q == q) && true)) = true, True, (4 != 0) = true, True, True, True, True, (s == s) = true, True] ⟨beq_iff_eq.2 (by omega), trivial, beq_iff_eq.2 (by omega), trivial, trivial, trivial, trivial, trivial, (by simp <;> omega), trivial, bne_iff_ne.2 (by omega), trivial, trivial, trivial, trivial, beq_iff_eq.2 (by omega), trivial, trivial⟩ ?_
           refine xw_ret ?_
           exact bs (.t) rfl
        ·
         refine pc (tto_8 W xs ys s b l p q a (by omega) (by omega) (by omega) ‹_› ‹_› (by omega) (by omega) (by omega) ‹_› (by omega) (by omega) (by omega) ‹_› (by omega) (by omega)) ?_
         obtain ⟨h8, h9, h10⟩ := oErr_ok W xs ys a (by omega)
         have h11 : 1 ≤ (a + 1) / 4294967296 ∧ (a + 1) / 4294967296 ≤ 2 ∧ (a + 1) % 4294967296 < W := by omega
         have h12 : 0 ≤ (ldw xs ys (a + 1)) ∧ (ldw xs ys (a + 1)) ≤ 18446744073709551615 := ldw_ok xs ys (a + 1) ‹_› ‹_›
         obtain ⟨h13, h14, h15, h16⟩ := tw_ok W xs ys a ((s + 1) * 4294967296 + b) (((ldw xs ys a / 4294967296) % 16777216) + 2) (by omega) (by omega) ‹_› ‹_› (by omega) (by omega) (by omega) (by omega)
         refine rk [] 8 3 ⟨[(11, .i 0), (9, .p 1), (7, .t), (6, .f), (3, .p 0), (1, .u a), (2, .u o)], [(1, .cells (mm W (tX xs ys a ((s + 1) * 4294967296 + b) ((hL xs ys a) + 2)) (tY xs ys a ((s + 1) * 4294967296 + b) ((hL xs ys a) + 2)) ++ [.i s, .i (b + ((hL xs ys a) + 2)), .i l, .i p, .i q]) 54), (0, .cells (mm W xs ys ++ [.i s, .i b, .i l, .i p, .i q]) 54)], 2⟩ [True] ⟨trivial, trivial⟩ ?_
         refine en ?_
         refine an ?_
         refine xw_seq ?_
         refine reg ?_
         refine rk [] 3 0 ⟨[(36, .u o), (35, .agg (mm W xs ys)), (11, .i 0), (9, .p 1), (7, .t), (6, .f), (3, .p 0), (1, .u a), (2, .u o)], [(1, .cells (mm W (tX xs ys a ((s + 1) * 4294967296 + b) ((hL xs ys a) + 2)) (tY xs ys a ((s + 1) * 4294967296 + b) ((hL xs ys a) + 2)) ++ [.i s, .i (b + ((hL xs ys a) + 2)), .i l, .i p, .i q]) 54), (0, .cells (mm W xs ys ++ [.i s, .i b, .i l, .i p, .i q]) 54)], 2⟩ [True] ⟨trivial, trivial⟩ ?_
         by_cases h17 : 1 ≤ o / 4294967296 ∧ o / 4294967296 ≤ 2 ∧ o % 4294967296 < W
         ·
          refine pc (rload_1 W xs ys o (by omega) (by omega) (by omega) ‹_› ‹_› ‹_› (by omega)) ?_
          have h18 : 0 ≤ (ldw xs ys o) ∧ (ldw xs ys o) ≤ 18446744073709551615 := ldw_ok xs ys o ‹_› ‹_›
          refine rk [] 5 4 ⟨[(13, .i 0), (12, .u (ldw xs ys o)), (11, .i 0), (9, .p 1), (7, .t), (6, .f), (3, .p 0), (1, .u a), (2, .u o)], [(1, .cells (mm W (tX xs ys a ((s + 1) * 4294967296 + b) ((hL xs ys a) + 2)) (tY xs ys a ((s + 1) * 4294967296 + b) ((hL xs ys a) + 2)) ++ [.i s, .i (b + ((hL xs ys a) + 2)), .i l, .i p, .i q]) 54), (0, .cells (mm W xs ys ++ [.i s, .i b, .i l, .i p, .i q]) 54)], 2⟩ [] trivial ?_
          refine en ?_
          refine an ?_
          refine xw_seq ?_
          refine reg ?_
          refine rk [] 3 0 ⟨[(43, .u o), (42, .agg (mm W (tX xs ys a ((s + 1) * 4294967296 + b) ((hL xs ys a) + 2)) (tY xs ys a ((s + 1) * 4294967296 + b) ((hL xs ys a) + 2)))), (13, .i 0), (12, .u (ldw xs ys o)), (11, .i 0), (9, .p 1), (7, .t), (6, .f), (3, .p 0), (1, .u a), (2, .u o)], [(1, .cells (mm W (tX xs ys a ((s + 1) * 4294967296 + b) ((hL xs ys a) + 2)) (tY xs ys a ((s + 1) * 4294967296 + b) ((hL xs ys a) + 2)) ++ [.i s, .i (b + ((hL xs ys a) + 2)), .i l, .i p, .i q]) 54), (0, .cells (mm W xs ys ++ [.i s, .i b, .i l, .i p, .i q]) 54)], 2⟩ [True] ⟨trivial, trivial⟩ ?_
          refine pc (rload_1 W (tX xs ys a ((s + 1) * 4294967296 + b) (((ldw xs ys a / 4294967296) % 16777216) + 2)) (tY xs ys a ((s + 1) * 4294967296 + b) (((ldw xs ys a / 4294967296) % 16777216) + 2)) o (by omega) ‹_› ‹_› ‹_› ‹_› ‹_› (by omega)) ?_
          have h19 : 0 ≤ (ldw (tX xs ys a ((s + 1) * 4294967296 + b) (((ldw xs ys a / 4294967296) % 16777216) + 2)) (tY xs ys a ((s + 1) * 4294967296 + b) (((ldw xs ys a / 4294967296) % 16777216) + 2)) o) ∧ (ldw (tX xs ys a ((s + 1) * 4294967296 + b) (((ldw xs ys a / 4294967296) % 16777216) + 2)) (tY xs ys a ((s + 1) * 4294967296 + b) (((ldw xs ys a / 4294967296) % 16777216) + 2)) o) ≤ 18446744073709551615 := ldw_ok (tX xs ys a ((s + 1) * 4294967296 + b) (((ldw xs ys a / 4294967296) % 16777216) + 2)) (tY xs ys a ((s + 1) * 4294967296 + b) (((ldw xs ys a / 4294967296) % 16777216) + 2)) o ‹_› ‹_›
          have h20 : (ldw (tX xs ys a ((s + 1) * 4294967296 + b) (((ldw xs ys a / 4294967296) % 16777216) + 2)) (tY xs ys a ((s + 1) * 4294967296 + b) (((ldw xs ys a / 4294967296) % 16777216) + 2)) o) = (ldw xs ys o) ∨ o = a + 1 ∨ (((s + 1) * 4294967296 + b) ≤ o ∧ o < ((s + 1) * 4294967296 + b) + (((ldw xs ys a / 4294967296) % 16777216) + 2)) := tw_d (show (xs.length : Int) = W by omega) (by omega) (by omega) (by omega) (by omega) (by omega) (by omega)
          refine rk [] 5 4 ⟨[(15, .i 0), (14, .u (ldw (tX xs ys a ((s + 1) * 4294967296 + b) ((hL xs ys a) + 2)) (tY xs ys a ((s + 1) * 4294967296 + b) ((hL xs ys a) + 2)) o)), (13, .i 0), (12, .u (ldw xs ys o)), (11, .i 0), (9, .p 1), (7, .t), (6, .f), (3, .p 0), (1, .u a), (2, .u o)], [(1, .cells (mm W (tX xs ys a ((s + 1) * 4294967296 + b) ((hL xs ys a) + 2)) (tY xs ys a ((s + 1) * 4294967296 + b) ((hL xs ys a) + 2)) ++ [.i s, .i (b + ((hL xs ys a) + 2)), .i l, .i p, .i q]) 54), (0, .cells (mm W xs ys ++ [.i s, .i b, .i l, .i p, .i q]) 54)], 2⟩ [] trivial ?_
          refine en ?_
          refine an ?_
          refine xw_seq ?_
          refine reg ?_
          refine rk [] 1 0 ⟨[(48, .u o), (15, .i 0), (14, .u (ldw (tX xs ys a ((s + 1) * 4294967296 + b) ((hL xs ys a) + 2)) (tY xs ys a ((s + 1) * 4294967296 + b) ((hL xs ys a) + 2)) o)), (13, .i 0), (12, .u (ldw xs ys o)), (11, .i 0), (9, .p 1), (7, .t), (6, .f), (3, .p 0), (1, .u a), (2, .u o)], [(1, .cells (mm W (tX xs ys a ((s + 1) * 4294967296 + b) ((hL xs ys a) + 2)) (tY xs ys a ((s + 1) * 4294967296 + b) ((hL xs ys a) + 2)) ++ [.i s, .i (b + ((hL xs ys a) + 2)), .i l, .i p, .i q]) 54), (0, .cells (mm W xs ys ++ [.i s, .i b, .i l, .i p, .i q]) 54)], 2⟩ [] trivial ?_
          refine pc (rwhere_1 o ‹_› (by omega)) ?_
          refine rk [] 7 2 ⟨[(18, .t), (17, .i (o % 4294967296)), (16, .i (o / 4294967296 - 1)), (15, .i 0), (14, .u (ldw (tX xs ys a ((s + 1) * 4294967296 + b) ((hL xs ys a) + 2)) (tY xs ys a ((s + 1) * 4294967296 + b) ((hL xs ys a) + 2)) o)), (13, .i 0), (12, .u (ldw xs ys o)), (11, .i 0), (9, .p 1), (7, .t), (6, .f), (3, .p 0), (1, .u a), (2, .u o)], [(1, .cells (mm W (tX xs ys a ((s + 1) * 4294967296 + b) ((hL xs ys a) + 2)) (tY xs ys a ((s + 1) * 4294967296 + b) ((hL xs ys a) + 2)) ++ [.i s, .i (b + ((hL xs ys a) + 2)), .i l, .i p, .i q]) 54), (0, .cells (mm W xs ys ++ [.i s, .i b, .i l, .i p, .i q]) 54)], 2⟩ [] trivial ?_
          refine en ?_
          refine an ?_
          refine xw_seq ?_
          refine reg ?_
          refine rk [(6, .bool ((o / 4294967296 - 1) == s))] 9 0 ⟨[(61, .bool ((o / 4294967296 - 1) == s)), (17, .i (o % 4294967296)), (15, .i 0), (14, .u (ldw (tX xs ys a ((s + 1) * 4294967296 + b) ((hL xs ys a) + 2)) (tY xs ys a ((s + 1) * 4294967296 + b) ((hL xs ys a) + 2)) o)), (13, .i 0), (12, .u (ldw xs ys o)), (11, .i 0), (9, .p 1), (7, .t), (6, .f), (3, .p 0), (1, .u a), (2, .u o)], [(1, .cells (mm W (tX xs ys a ((s + 1) * 4294967296 + b) ((hL xs ys a) + 2)) (tY xs ys a ((s + 1) * 4294967296 + b) ((hL xs ys a) + 2)) ++ [.i s, .i (b + ((hL xs ys a) + 2)), .i l, .i p, .i q]) 54), (0, .cells (mm W xs ys ++ [.i s, .i b, .i l, .i p, .i q]) 54)], 2⟩ [True, ((o / 4294967296 - 1) == s) = ((o / 4294967296 - 1) == s), True] ⟨trivial, rfl, trivial, trivial⟩ ?_
          refine splitr 61 (x := ((o / 4294967296 - 1) == s)) (by kernel_rfl) (fun h21 => ?_) (fun h21 => ?_)
          ·
           replace h21 : (o / 4294967296 - 1) = s := eq_of_beq h21
           refine rk [(13, .bool (decide (b ≤ (o % 4294967296))))] 7 9 ⟨[(68, .bool (decide (b ≤ (o % 4294967296)))), (17, .i (o % 4294967296)), (15, .i 0), (14, .u (ldw (tX xs ys a ((s + 1) * 4294967296 + b) ((hL xs ys a) + 2)) (tY xs ys a ((s + 1) * 4294967296 + b) ((hL xs ys a) + 2)) o)), (13, .i 0), (12, .u (ldw xs ys o)), (11, .i 0), (9, .p 1), (7, .t), (6, .f), (3, .p 0), (1, .u a), (2, .u o)], [(1, .cells (mm W (tX xs ys a ((s + 1) * 4294967296 + b) ((hL xs ys a) + 2)) (tY xs ys a ((s + 1) * 4294967296 + b) ((hL xs ys a) + 2)) ++ [.i s, .i (b + ((hL xs ys a) + 2)), .i l, .i p, .i q]) 54), (0, .cells (mm W xs ys ++ [.i s, .i b, .i l, .i p, .i q]) 54)], 2⟩ [True, (decide (b ≤ (o % 4294967296))) = (decide (b ≤ (o % 4294967296))), True] ⟨trivial, rfl, trivial, trivial⟩ ?_
           refine splitr 68 (x := (decide (b ≤ (o % 4294967296)))) (by kernel_rfl) (fun h22 => ?_) (fun h22 => ?_)
           ·
            replace h22 : b ≤ (o % 4294967296) := of_decide_eq_true h22
            refine rk [(20, .bool (decide ((o % 4294967296) < (b + (((ldw xs ys a / 4294967296) % 16777216) + 2)))))] 7 16 ⟨[(19, .bool (decide ((o % 4294967296) < (b + ((hL xs ys a) + 2))))), (15, .i 0), (14, .u (ldw (tX xs ys a ((s + 1) * 4294967296 + b) ((hL xs ys a) + 2)) (tY xs ys a ((s + 1) * 4294967296 + b) ((hL xs ys a) + 2)) o)), (13, .i 0), (12, .u (ldw xs ys o)), (11, .i 0), (9, .p 1), (7, .t), (6, .f), (3, .p 0), (1, .u a), (2, .u o)], [(1, .cells (mm W (tX xs ys a ((s + 1) * 4294967296 + b) ((hL xs ys a) + 2)) (tY xs ys a ((s + 1) * 4294967296 + b) ((hL xs ys a) + 2)) ++ [.i s, .i (b + ((hL xs ys a) + 2)), .i l, .i p, .i q]) 54), (0, .cells (mm W xs ys ++ [.i s, .i b, .i l, .i p, .i q]) 54)], 2⟩ [True, (decide ((o % 4294967296) < (b + (((ldw xs ys a / 4294967296) % 16777216) + 2)))) = (decide ((o % 4294967296) < (b + (((ldw xs ys a / 4294967296) % 16777216) + 2)))), True] ⟨trivial, rfl, trivial, trivial⟩ ?_
            refine en ?_
            refine an ?_
            refine xw_seq ?_
            refine reg ?_
            refine rk [(4, .t), (9, .bool ((ldw xs ys o) == (ldw (tX xs ys a ((s + 1) * 4294967296 + b) (((ldw xs ys a / 4294967296) % 16777216) + 2)) (tY xs ys a ((s + 1) * 4294967296 + b) (((ldw xs ys a / 4294967296) % 16777216) + 2)) o)))] 11 0 ⟨[(85, .bool ((ldw xs ys o) == (ldw (tX xs ys a ((s + 1) * 4294967296 + b) ((hL xs ys a) + 2)) (tY xs ys a ((s + 1) * 4294967296 + b) ((hL xs ys a) + 2)) o))), (81, .t), (19, .bool (decide ((o % 4294967296) < (b + ((hL xs ys a) + 2))))), (11, .i 0), (9, .p 1), (6, .f), (3, .p 0), (1, .u a), (2, .u o)], [(1, .cells (mm W (tX xs ys a ((s + 1) * 4294967296 + b) ((hL xs ys a) + 2)) (tY xs ys a ((s + 1) * 4294967296 + b) ((hL xs ys a) + 2)) ++ [.i s, .i (b + ((hL xs ys a) + 2)), .i l, .i p, .i q]) 54), (0, .cells (mm W xs ys ++ [.i s, .i b, .i l, .i p, .i q]) 54)], 2⟩ [(0 == 0) = true, True, ((ldw xs ys o) == (ldw (tX xs ys a ((s + 1) * 4294967296 + b) (((ldw xs ys a / 4294967296) % 16777216) + 2)) (tY xs ys a ((s + 1) * 4294967296 + b) (((ldw xs ys a / 4294967296) % 16777216) + 2)) o)) = ((ldw xs ys o) == (ldw (tX xs ys a ((s + 1) * 4294967296 + b) (((ldw xs ys a / 4294967296) % 16777216) + 2)) (tY xs ys a ((s + 1) * 4294967296 + b) (((ldw xs ys a / 4294967296) % 16777216) + 2)) o))] ⟨beq_iff_eq.2 (by omega), trivial, rfl, trivial⟩ ?_
            refine splitr 85 (x := ((ldw xs ys o) == (ldw (tX xs ys a ((s + 1) * 4294967296 + b) (((ldw xs ys a / 4294967296) % 16777216) + 2)) (tY xs ys a ((s + 1) * 4294967296 + b) (((ldw xs ys a / 4294967296) % 16777216) + 2)) o))) (by kernel_rfl) (fun h23 => ?_) (fun h23 => ?_)
            ·
             replace h23 : (ldw xs ys o) = (ldw (tX xs ys a ((s + 1) * 4294967296 + b) (((ldw xs ys a / 4294967296) % 16777216) + 2)) (tY xs ys a ((s + 1) * 4294967296 + b) (((ldw xs ys a / 4294967296) % 16777216) + 2)) o) := eq_of_beq h23
             refine rk [(25, .t), (29, .f), (37, .t), (47, .t)] 39 11 ⟨[(6, .t)], [], 2⟩ [True, True, True, True, True, ((p == p) && ((q == q) && true)) = true, True, (0 != 0) = false, True, True, (decide (b ≤ (b + (((ldw xs ys a / 4294967296) % 16777216) + 2)))) = true, True, True, True, True, (s == s) = true, True] ⟨trivial, trivial, trivial, trivial, trivial, (by simp <;> omega), trivial, bne_eq_false_iff_eq.2 (by omega), trivial, trivial, decide_eq_true (by omega), trivial, trivial, trivial, trivial, beq_iff_eq.2 (by omega), trivial, trivial⟩ ?_
             refine en ?_
             refine an ?_
             refine xw_ret ?_
             exact bs (.t) rfl
            ·
             replace h23 : (ldw xs ys o) ≠ (ldw (tX xs ys a ((s + 1) * 4294967296 + b) (((ldw xs ys a / 4294967296) % 16777216) + 2)) (tY xs ys a ((s + 1) * 4294967296 + b) (((ldw xs ys a / 4294967296) % 16777216) + 2)) o) := ne_of_beq_false h23
             refine rk [] 3 11 ⟨[(88, .bool (decide ((o % 4294967296) < (b + ((hL xs ys a) + 2))))), (81, .t), (11, .i 0), (9, .p 1), (6, .f), (3, .p 0), (1, .u a), (2, .u o)], [(1, .cells (mm W (tX xs ys a ((s + 1) * 4294967296 + b) ((hL xs ys a) + 2)) (tY xs ys a ((s + 1) * 4294967296 + b) ((hL xs ys a) + 2)) ++ [.i s, .i (b + ((hL xs ys a) + 2)), .i l, .i p, .i q]) 54), (0, .cells (mm W xs ys ++ [.i s, .i b, .i l, .i p, .i q]) 54)], 2⟩ [True] ⟨trivial, trivial⟩ ?_
             refine splitr 88 (x := (decide ((o % 4294967296) < (b + (((ldw xs ys a / 4294967296) % 16777216) + 2))))) (by kernel_rfl) (fun h24 => ?_) (fun h24 => ?_)
             ·
              replace h24 : (o % 4294967296) < (b + (((ldw xs ys a / 4294967296) % 16777216) + 2)) := of_decide_eq_true h24
              refine rk [(25, .t), (29, .f), (37, .t), (47, .t)] 36 14 ⟨[(6, .t)], [], 2⟩ [True, True, True, True, ((p == p) && ((q == q) && true)) = true, True, (0 != 0) = false, True, True, (decide (b ≤ (b + (((ldw xs ys a / 4294967296) % 16777216) + 2)))) = true, True, True, True, True, (s == s) = true, True] ⟨trivial, trivial, trivial, trivial, (by simp <;> omega), trivial, bne_eq_false_iff_eq.2 (by omega), trivial, trivial, decide_eq_true (by omega), trivial, trivial, trivial, trivial, beq_iff_eq.2 (by omega), trivial, trivial⟩ ?_
              refine en ?_
              refine an ?_
              refine xw_ret ?_
              exact bs (.t) rfl
             ·
              replace h24 : ¬ ((o % 4294967296) < (b + (((ldw xs ys a / 4294967296) % 16777216) + 2))) := of_decide_eq_false h24
              exfalso; first | omega | simp_all | grind
           ·
            replace h22 : ¬ (b ≤ (o % 4294967296)) := of_decide_eq_false h22
            refine rk [] 7 16 ⟨[(19, .f), (15, .i 0), (14, .u (ldw (tX xs ys a ((s + 1) * 4294967296 + b) ((hL xs ys a) + 2)) (tY xs ys a ((s + 1) * 4294967296 + b) ((hL xs ys a) + 2)) o)), (13, .i 0), (12, .u (ldw xs ys o)), (11, .i 0), (9, .p 1), (7, .t), (6, .f), (3, .p 0), (1, .u a), (2, .u o)], [(1, .cells (mm W (tX xs ys a ((s + 1) * 4294967296 + b) ((hL xs ys a) + 2)) (tY xs ys a ((s + 1) * 4294967296 + b) ((hL xs ys a) + 2)) ++ [.i s, .i (b + ((hL xs ys a) + 2)), .i l, .i p, .i q]) 54), (0, .cells (mm W xs ys ++ [.i s, .i b, .i l, .i p, .i q]) 54)], 2⟩ [True] ⟨trivial, trivial⟩ ?_
            refine en ?_
            refine an ?_
            refine rg [(4, .t), (9, .t), (25, .t), (29, .f), (37, .t), (47, .t)] 50 ⟨[(6, .t)], [], 2⟩ [(0 == 0) = true, True, ((ldw xs ys o) == (ldw (tX xs ys a ((s + 1) * 4294967296 + b) (((ldw xs ys a / 4294967296) % 16777216) + 2)) (tY xs ys a ((s + 1) * 4294967296 + b) (((ldw xs ys a / 4294967296) % 16777216) + 2)) o)) = true, True, True, True, True, True, ((p == p) && ((q == q) && true)) = true, True, (0 != 0) = false, True, True, (decide (b ≤ (b + (((ldw xs ys a / 4294967296) % 16777216) + 2)))) = true, True, True, True, True, (s == s) = true, True] ⟨beq_iff_eq.2 (by omega), trivial, beq_iff_eq.2 (by omega), trivial, trivial, trivial, trivial, trivial, (by simp <;> omega), trivial, bne_eq_false_iff_eq.2 (by omega), trivial, trivial, decide_eq_true (by omega), trivial, trivial, trivial, trivial, beq_iff_eq.2 (by omega), trivial, trivial⟩ ?_
            refine xw_ret ?_
            exact bs (.t) rfl
          ·
           replace h21 : (o / 4294967296 - 1) ≠ s := ne_of_beq_false h21
           refine rk [] 14 9 ⟨[(19, .f), (15, .i 0), (14, .u (ldw (tX xs ys a ((s + 1) * 4294967296 + b) ((hL xs ys a) + 2)) (tY xs ys a ((s + 1) * 4294967296 + b) ((hL xs ys a) + 2)) o)), (13, .i 0), (12, .u (ldw xs ys o)), (11, .i 0), (9, .p 1), (7, .t), (6, .f), (3, .p 0), (1, .u a), (2, .u o)], [(1, .cells (mm W (tX xs ys a ((s + 1) * 4294967296 + b) ((hL xs ys a) + 2)) (tY xs ys a ((s + 1) * 4294967296 + b) ((hL xs ys a) + 2)) ++ [.i s, .i (b + ((hL xs ys a) + 2)), .i l, .i p, .i q]) 54), (0, .cells (mm W xs ys ++ [.i s, .i b, .i l, .i p, .i q]) 54)], 2⟩ [True, True] ⟨trivial, trivial, trivial⟩ ?_
           refine en ?_
           refine an ?_
           refine xw_seq ?_
           refine reg ?_
           refine rk [(4, .t), (9, .bool ((ldw xs ys o) == (ldw (tX xs ys a ((s + 1) * 4294967296 + b) (((ldw xs ys a / 4294967296) % 16777216) + 2)) (tY xs ys a ((s + 1) * 4294967296 + b) (((ldw xs ys a / 4294967296) % 16777216) + 2)) o)))] 11 0 ⟨[(85, .bool ((ldw xs ys o) == (ldw (tX xs ys a ((s + 1) * 4294967296 + b) ((hL xs ys a) + 2)) (tY xs ys a ((s + 1) * 4294967296 + b) ((hL xs ys a) + 2)) o))), (81, .t), (19, .f), (11, .i 0), (9, .p 1), (6, .f), (3, .p 0), (1, .u a), (2, .u o)], [(1, .cells (mm W (tX xs ys a ((s + 1) * 4294967296 + b) ((hL xs ys a) + 2)) (tY xs ys a ((s + 1) * 4294967296 + b) ((hL xs ys a) + 2)) ++ [.i s, .i (b + ((hL xs ys a) + 2)), .i l, .i p, .i q]) 54), (0, .cells (mm W xs ys ++ [.i s, .i b, .i l, .i p, .i q]) 54)], 2⟩ [(0 == 0) = true, True, ((ldw xs ys o) == (ldw (tX xs ys a ((s + 1) * 4294967296 + b) (((ldw xs ys a / 4294967296) % 16777216) + 2)) (tY xs ys a ((s + 1) * 4294967296 + b) (((ldw xs ys a / 4294967296) % 16777216) + 2)) o)) = ((ldw xs ys o) == (ldw (tX xs ys a ((s + 1) * 4294967296 + b) (((ldw xs ys a / 4294967296) % 16777216) + 2)) (tY xs ys a ((s + 1) * 4294967296 + b) (((ldw xs ys a / 4294967296) % 16777216) + 2)) o))] ⟨beq_iff_eq.2 (by omega), trivial, rfl, trivial⟩ ?_
           refine splitr 85 (x := ((ldw xs ys o) == (ldw (tX xs ys a ((s + 1) * 4294967296 + b) (((ldw xs ys a / 4294967296) % 16777216) + 2)) (tY xs ys a ((s + 1) * 4294967296 + b) (((ldw xs ys a / 4294967296) % 16777216) + 2)) o))) (by kernel_rfl) (fun h22 => ?_) (fun h22 => ?_)
           ·
            replace h22 : (ldw xs ys o) = (ldw (tX xs ys a ((s + 1) * 4294967296 + b) (((ldw xs ys a / 4294967296) % 16777216) + 2)) (tY xs ys a ((s + 1) * 4294967296 + b) (((ldw xs ys a / 4294967296) % 16777216) + 2)) o) := eq_of_beq h22
            refine rk [(25, .t), (29, .f), (37, .t), (47, .t)] 39 11 ⟨[(6, .t)], [], 2⟩ [True, True, True, True, True, ((p == p) && ((q == q) && true)) = true, True, (0 != 0) = false, True, True, (decide (b ≤ (b + (((ldw xs ys a / 4294967296) % 16777216) + 2)))) = true, True, True, True, True, (s == s) = true, True] ⟨trivial, trivial, trivial, trivial, trivial, (by simp <;> omega), trivial, bne_eq_false_iff_eq.2 (by omega), trivial, trivial, decide_eq_true (by omega), trivial, trivial, trivial, trivial, beq_iff_eq.2 (by omega), trivial, trivial⟩ ?_
            refine en ?_
            refine an ?_
            refine xw_ret ?_
            exact bs (.t) rfl
           ·
            replace h22 : (ldw xs ys o) ≠ (ldw (tX xs ys a ((s + 1) * 4294967296 + b) (((ldw xs ys a / 4294967296) % 16777216) + 2)) (tY xs ys a ((s + 1) * 4294967296 + b) (((ldw xs ys a / 4294967296) % 16777216) + 2)) o) := ne_of_beq_false h22
            refine rk [(16, .i (a + 1)), (17, .t), (25, .t), (29, .f), (37, .t), (47, .t)] 39 11 ⟨[(6, .t)], [], 2⟩ [True, IntKind.u64.wrap (a + 1) = (a + 1), (o == (a + 1)) = true, True, True, True, True, ((p == p) && ((q == q) && true)) = true, True, (0 != 0) = false, True, True, (decide (b ≤ (b + (((ldw xs ys a / 4294967296) % 16777216) + 2)))) = true, True, True, True, True, (s == s) = true, True] ⟨trivial, u64_eq (by omega) (by omega), beq_iff_eq.2 (by omega), trivial, trivial, trivial, trivial, (by simp <;> omega), trivial, bne_eq_false_iff_eq.2 (by omega), trivial, trivial, decide_eq_true (by omega), trivial, trivial, trivial, trivial, beq_iff_eq.2 (by omega), trivial, trivial⟩ ?_
            refine en ?_
            refine an ?_
            refine xw_ret ?_
            exact bs (.t) rfl
         ·
          refine pc (rload_2 W xs ys o (by omega) (by omega) (by omega) ‹_› ‹_› ‹_› (by omega)) ?_
          refine rk [] 5 4 ⟨[(13, .i 2), (12, .u 0), (11, .i 0), (9, .p 1), (7, .t), (6, .f), (3, .p 0), (1, .u a), (2, .u o)], [(1, .cells (mm W (tX xs ys a ((s + 1) * 4294967296 + b) ((hL xs ys a) + 2)) (tY xs ys a ((s + 1) * 4294967296 + b) ((hL xs ys a) + 2)) ++ [.i s, .i (b + ((hL xs ys a) + 2)), .i l, .i p, .i q]) 54), (0, .cells (mm W xs ys ++ [.i s, .i b, .i l, .i p, .i q]) 54)], 2⟩ [] trivial ?_
          refine en ?_
          refine an ?_
          refine xw_seq ?_
          refine reg ?_
          refine rk [] 3 0 ⟨[(43, .u o), (42, .agg (mm W (tX xs ys a ((s + 1) * 4294967296 + b) ((hL xs ys a) + 2)) (tY xs ys a ((s + 1) * 4294967296 + b) ((hL xs ys a) + 2)))), (13, .i 2), (12, .u 0), (11, .i 0), (9, .p 1), (7, .t), (6, .f), (3, .p 0), (1, .u a), (2, .u o)], [(1, .cells (mm W (tX xs ys a ((s + 1) * 4294967296 + b) ((hL xs ys a) + 2)) (tY xs ys a ((s + 1) * 4294967296 + b) ((hL xs ys a) + 2)) ++ [.i s, .i (b + ((hL xs ys a) + 2)), .i l, .i p, .i q]) 54), (0, .cells (mm W xs ys ++ [.i s, .i b, .i l, .i p, .i q]) 54)], 2⟩ [True] ⟨trivial, trivial⟩ ?_
          refine pc (rload_2 W (tX xs ys a ((s + 1) * 4294967296 + b) (((ldw xs ys a / 4294967296) % 16777216) + 2)) (tY xs ys a ((s + 1) * 4294967296 + b) (((ldw xs ys a / 4294967296) % 16777216) + 2)) o (by omega) ‹_› ‹_› ‹_› ‹_› ‹_› (by omega)) ?_
          refine rk [] 5 4 ⟨[(15, .i 2), (14, .u 0), (13, .i 2), (12, .u 0), (11, .i 0), (9, .p 1), (7, .t), (6, .f), (3, .p 0), (1, .u a), (2, .u o)], [(1, .cells (mm W (tX xs ys a ((s + 1) * 4294967296 + b) ((hL xs ys a) + 2)) (tY xs ys a ((s + 1) * 4294967296 + b) ((hL xs ys a) + 2)) ++ [.i s, .i (b + ((hL xs ys a) + 2)), .i l, .i p, .i q]) 54), (0, .cells (mm W xs ys ++ [.i s, .i b, .i l, .i p, .i q]) 54)], 2⟩ [] trivial ?_
          refine en ?_
          refine an ?_
          refine xw_seq ?_
          refine reg ?_
          refine rk [] 1 0 ⟨[(48, .u o), (15, .i 2), (14, .u 0), (13, .i 2), (12, .u 0), (11, .i 0), (9, .p 1), (7, .t), (6, .f), (3, .p 0), (1, .u a), (2, .u o)], [(1, .cells (mm W (tX xs ys a ((s + 1) * 4294967296 + b) ((hL xs ys a) + 2)) (tY xs ys a ((s + 1) * 4294967296 + b) ((hL xs ys a) + 2)) ++ [.i s, .i (b + ((hL xs ys a) + 2)), .i l, .i p, .i q]) 54), (0, .cells (mm W xs ys ++ [.i s, .i b, .i l, .i p, .i q]) 54)], 2⟩ [] trivial ?_
          by_cases h18 : 1 ≤ o / 4294967296 ∧ o / 4294967296 ≤ 2
          ·
           refine pc (rwhere_1 o ‹_› (by omega)) ?_
           refine rk [] 7 2 ⟨[(18, .t), (17, .i (o % 4294967296)), (16, .i (o / 4294967296 - 1)), (15, .i 2), (14, .u 0), (13, .i 2), (12, .u 0), (11, .i 0), (9, .p 1), (7, .t), (6, .f), (3, .p 0), (1, .u a), (2, .u o)], [(1, .cells (mm W (tX xs ys a ((s + 1) * 4294967296 + b) ((hL xs ys a) + 2)) (tY xs ys a ((s + 1) * 4294967296 + b) ((hL xs ys a) + 2)) ++ [.i s, .i (b + ((hL xs ys a) + 2)), .i l, .i p, .i q]) 54), (0, .cells (mm W xs ys ++ [.i s, .i b, .i l, .i p, .i q]) 54)], 2⟩ [] trivial ?_
           refine en ?_
           refine an ?_
           refine xw_seq ?_
           refine reg ?_
           refine rk [(6, .bool ((o / 4294967296 - 1) == s))] 9 0 ⟨[(61, .bool ((o / 4294967296 - 1) == s)), (17, .i (o % 4294967296)), (15, .i 2), (14, .u 0), (13, .i 2), (12, .u 0), (11, .i 0), (9, .p 1), (7, .t), (6, .f), (3, .p 0), (1, .u a), (2, .u o)], [(1, .cells (mm W (tX xs ys a ((s + 1) * 4294967296 + b) ((hL xs ys a) + 2)) (tY xs ys a ((s + 1) * 4294967296 + b) ((hL xs ys a) + 2)) ++ [.i s, .i (b + ((hL xs ys a) + 2)), .i l, .i p, .i q]) 54), (0, .cells (mm W xs ys ++ [.i s, .i b, .i l, .i p, .i q]) 54)], 2⟩ [True, ((o / 4294967296 - 1) == s) = ((o / 4294967296 - 1) == s), True] ⟨trivial, rfl, trivial, trivial⟩ ?_
           refine splitr 61 (x := ((o / 4294967296 - 1) == s)) (by kernel_rfl) (fun h19 => ?_) (fun h19 => ?_)
           ·
            replace h19 : (o / 4294967296 - 1) = s := eq_of_beq h19
            refine rk [(13, .t), (20, .f)] 14 9 ⟨[(19, .f), (15, .i 2), (14, .u 0), (13, .i 2), (12, .u 0), (11, .i 0), (9, .p 1), (7, .t), (6, .f), (3, .p 0), (1, .u a), (2, .u o)], [(1, .cells (mm W (tX xs ys a ((s + 1) * 4294967296 + b) ((hL xs ys a) + 2)) (tY xs ys a ((s + 1) * 4294967296 + b) ((hL xs ys a) + 2)) ++ [.i s, .i (b + ((hL xs ys a) + 2)), .i l, .i p, .i q]) 54), (0, .cells (mm W xs ys ++ [.i s, .i b, .i l, .i p, .i q]) 54)], 2⟩ [True, (decide (b ≤ (o % 4294967296))) = true, True, True, (decide ((o % 4294967296) < (b + (((ldw xs ys a / 4294967296) % 16777216) + 2)))) = false, True] ⟨trivial, decide_eq_true (by omega), trivial, trivial, decide_eq_false (by omega), trivial, trivial⟩ ?_
            refine en ?_
            refine an ?_
            refine rg [(4, .t), (9, .t), (25, .t), (29, .f), (37, .t), (47, .t)] 50 ⟨[(6, .t)], [], 2⟩ [(2 == 2) = true, True, (0 == 0) = true, True, True, True, True, True, ((p == p) && ((q == q) && true)) = true, True, (0 != 0) = false, True, True, (decide (b ≤ (b + (((ldw xs ys a / 4294967296) % 16777216) + 2)))) = true, True, True, True, True, (s == s) = true, True] ⟨beq_iff_eq.2 (by omega), trivial, beq_iff_eq.2 (by omega), trivial, trivial, trivial, trivial, trivial, (by simp <;> omega), trivial, bne_eq_false_iff_eq.2 (by omega), trivial, trivial, decide_eq_true (by omega), trivial, trivial, trivial, trivial, beq_iff_eq.2 (by omega), trivial, trivial⟩ ?_
            refine xw_ret ?_
            exact bs (.t) rfl
           ·
            replace h19 : (o / 4294967296 - 1) ≠ s := ne_of_beq_false h19
            refine rk [] 14 9 ⟨[(19, .f), (15, .i 2), (14, .u 0), (13, .i 2), (12, .u 0), (11, .i 0), (9, .p 1), (7, .t), (6, .f), (3, .p 0), (1, .u a), (2, .u o)], [(1, .cells (mm W (tX xs ys a ((s + 1) * 4294967296 + b) ((hL xs ys a) + 2)) (tY xs ys a ((s + 1) * 4294967296 + b) ((hL xs ys a) + 2)) ++ [.i s, .i (b + ((hL xs ys a) + 2)), .i l, .i p, .i q]) 54), (0, .cells (mm W xs ys ++ [.i s, .i b, .i l, .i p, .i q]) 54)], 2⟩ [True, True] ⟨trivial, trivial, trivial⟩ ?_
            refine en ?_
            refine an ?_
            refine rg [(4, .t), (9, .t), (25, .t), (29, .f), (37, .t), (47, .t)] 50 ⟨[(6, .t)], [], 2⟩ [(2 == 2) = true, True, (0 == 0) = true, True, True, True, True, True, ((p == p) && ((q == q) && true)) = true, True, (0 != 0) = false, True, True, (decide (b ≤ (b + (((ldw xs ys a / 4294967296) % 16777216) + 2)))) = true, True, True, True, True, (s == s) = true, True] ⟨beq_iff_eq.2 (by omega), trivial, beq_iff_eq.2 (by omega), trivial, trivial, trivial, trivial, trivial, (by simp <;> omega), trivial, bne_eq_false_iff_eq.2 (by omega), trivial, trivial, decide_eq_true (by omega), trivial, trivial, trivial, trivial, beq_iff_eq.2 (by omega), trivial, trivial⟩ ?_
            refine xw_ret ?_
            exact bs (.t) rfl
          ·
           refine pc (rwhere_2 o ‹_› (by omega)) ?_
           refine rk [] 7 2 ⟨[(18, .f), (17, .i 0), (16, .i 0), (15, .i 2), (14, .u 0), (13, .i 2), (12, .u 0), (11, .i 0), (9, .p 1), (7, .t), (6, .f), (3, .p 0), (1, .u a), (2, .u o)], [(1, .cells (mm W (tX xs ys a ((s + 1) * 4294967296 + b) ((hL xs ys a) + 2)) (tY xs ys a ((s + 1) * 4294967296 + b) ((hL xs ys a) + 2)) ++ [.i s, .i (b + ((hL xs ys a) + 2)), .i l, .i p, .i q]) 54), (0, .cells (mm W xs ys ++ [.i s, .i b, .i l, .i p, .i q]) 54)], 2⟩ [] trivial ?_
           refine en ?_
           refine an ?_
           refine rg [] 23 ⟨[(19, .f), (15, .i 2), (14, .u 0), (13, .i 2), (12, .u 0), (11, .i 0), (9, .p 1), (7, .t), (6, .f), (3, .p 0), (1, .u a), (2, .u o)], [(1, .cells (mm W (tX xs ys a ((s + 1) * 4294967296 + b) ((hL xs ys a) + 2)) (tY xs ys a ((s + 1) * 4294967296 + b) ((hL xs ys a) + 2)) ++ [.i s, .i (b + ((hL xs ys a) + 2)), .i l, .i p, .i q]) 54), (0, .cells (mm W xs ys ++ [.i s, .i b, .i l, .i p, .i q]) 54)], 2⟩ [True, True, True] ⟨trivial, trivial, trivial, trivial⟩ ?_
           refine rg [(4, .t), (9, .t), (25, .t), (29, .f), (37, .t), (47, .t)] 50 ⟨[(6, .t)], [], 2⟩ [(2 == 2) = true, True, (0 == 0) = true, True, True, True, True, True, ((p == p) && ((q == q) && true)) = true, True, (0 != 0) = false, True, True, (decide (b ≤ (b + (((ldw xs ys a / 4294967296) % 16777216) + 2)))) = true, True, True, True, True, (s == s) = true, True] ⟨beq_iff_eq.2 (by omega), trivial, beq_iff_eq.2 (by omega), trivial, trivial, trivial, trivial, trivial, (by simp <;> omega), trivial, bne_eq_false_iff_eq.2 (by omega), trivial, trivial, decide_eq_true (by omega), trivial, trivial, trivial, trivial, beq_iff_eq.2 (by omega), trivial, trivial⟩ ?_
           refine xw_ret ?_
           exact bs (.t) rfl
 ·
  refine pc (few11_2 W xs ys s b l p q ‹_› ‹_› ‹_› ‹_› ‹_› ‹_› ‹_›) ?_
  refine rk [] 1 2 ⟨[(8, .f), (7, .t), (6, .f), (3, .p 0), (1, .u a), (2, .u o)], [(0, .cells (mm W xs ys ++ [.i s, .i b, .i l, .i p, .i q]) 54)], 1⟩ [] trivial ?_
  refine en ?_
  refine an ?_
  refine xw_seq ?_
  refine rg [] 2 ⟨[(24, .t), (7, .t), (6, .f), (3, .p 0), (1, .u a), (2, .u o)], [(0, .cells (mm W xs ys ++ [.i s, .i b, .i l, .i p, .i q]) 54)], 1⟩ [] trivial ?_
  refine ct ?_
  refine rg [] 2 ⟨[(6, .t), (7, .t), (3, .p 0), (1, .u a), (2, .u o)], [(0, .cells (mm W xs ys ++ [.i s, .i b, .i l, .i p, .i q]) 54)], 1⟩ [] trivial ?_
  refine xw_ret ?_
  refine an_ret ?_
  exact bs (.t) rfl

end Go.Proofs.Ytcjcljbhjkedgaa.X
