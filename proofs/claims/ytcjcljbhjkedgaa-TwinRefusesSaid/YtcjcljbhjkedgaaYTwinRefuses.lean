/- Contracts of Go functions: what each returns, for every input that its premises name; no memory of the caller is touched. Printed by a program. -/
import Derived.Test.YtcjcljbhjkedgaaXf2
namespace Go.Proofs.Ytcjcljbhjkedgaa.X
open Go Go.RowKit
set_option linter.unusedVariables false      -- a premise may serve only to tell which way is taken
set_option linter.unusedSimpArgs false
theorem twinRefuses (W : Int) (xs : List Int) (ys : List Int) (s : Int) (b : Int) (l : Int) (p : Int) (q : Int) (a : Int) (hp0 : -9223372036854775808 ≤ W ∧ W ≤ 9223372036854775807) (hp1 : U64s xs) (hp2 : U64s ys) (hp3 : -9223372036854775808 ≤ s ∧ s ≤ 9223372036854775807) (hp4 : -9223372036854775808 ≤ b ∧ b ≤ 9223372036854775807) (hp5 : -9223372036854775808 ≤ l ∧ l ≤ 9223372036854775807) (hp6 : -9223372036854775808 ≤ p ∧ p ≤ 9223372036854775807) (hp7 : -9223372036854775808 ≤ q ∧ q ≤ 9223372036854775807) (hp8 : 0 ≤ a ∧ a ≤ 18446744073709551615) : Pub Try.prog 9 [.agg (mm W xs ys ++ [.int .i64 s, .int .i64 b, .int .i64 l, .int .i64 p, .int .i64 q]), .int .u64 a] (fun rv => rv = .bool true) := by
 refine pub_of TT_ok Try.func9 rfl (by decide) (Nat.le_of_ble_eq_true (by kernel_rfl)) (by kernel_rfl) ?_
 refine rg [] 2 ⟨[(4, .f), (2, .p 0), (1, .u a)], [(0, .cells (mm W xs ys ++ [.i s, .i b, .i l, .i p, .i q]) 54)], 1⟩ [] trivial ?_
 refine xw_seq ?_
 refine reg ?_
 refine pc (shown11 ) ?_
 refine rk [] 1 1 ⟨[(5, .t), (4, .f), (2, .p 0), (1, .u a)], [(0, .cells (mm W xs ys ++ [.i s, .i b, .i l, .i p, .i q]) 54)], 1⟩ [] trivial ?_
 refine en ?_
 refine an ?_
 refine xw_seq ?_
 refine reg ?_
 refine rk [] 1 0 ⟨[(15, .agg (mm W xs ys ++ [.i s, .i b, .i l, .i p, .i q])), (5, .t), (4, .f), (2, .p 0), (1, .u a)], [(0, .cells (mm W xs ys ++ [.i s, .i b, .i l, .i p, .i q]) 54)], 1⟩ [True] ⟨trivial, trivial⟩ ?_
 by_cases h0 : 16 ≤ W ∧ W ≤ 4096 ∧ (xs.length : Int) = W ∧ (ys.length : Int) = W ∧ (s = 0 ∨ s = 1) ∧ 0 ≤ b ∧ b ≤ l ∧ l ≤ 4096 ∧ l = W ∧ ((p = 0 ∧ q = 0) ∨ (0 ≤ p ∧ p ≤ q ∧ q ≤ b)) ∧ W ≤ 200
 ·
  refine pc (few11_1 W xs ys s b l p q ‹_› ‹_› ‹_› ‹_› ‹_› ‹_› ‹_›) ?_
  refine rk [] 1 2 ⟨[(6, .t), (5, .t), (4, .f), (2, .p 0), (1, .u a)], [(0, .cells (mm W xs ys ++ [.i s, .i b, .i l, .i p, .i q]) 54)], 1⟩ [] trivial ?_
  refine en ?_
  refine an ?_
  refine xw_seq ?_
  refine rg [] 2 ⟨[(18, .f), (5, .t), (4, .f), (2, .p 0), (1, .u a)], [(0, .cells (mm W xs ys ++ [.i s, .i b, .i l, .i p, .i q]) 54)], 1⟩ [] trivial ?_
  refine cf ?_
  refine xw_skip ?_
  refine an ?_
  refine xw_seq ?_
  refine reg ?_
  refine rk [] 2 0 ⟨[(22, .u a), (21, .agg (mm W xs ys ++ [.i s, .i b, .i l, .i p, .i q])), (5, .t), (4, .f), (2, .p 0), (1, .u a)], [(0, .cells (mm W xs ys ++ [.i s, .i b, .i l, .i p, .i q]) 54)], 1⟩ [True] ⟨trivial, trivial⟩ ?_
  by_cases h1 : a = 0
  ·
   refine pc (tto_1 W xs ys s b l p q a (by omega) (by omega) (by omega) ‹_› ‹_› (by omega) (by omega) (by omega) ‹_› ‹_›) ?_
   refine rk [] 8 3 ⟨[(9, .i 0), (8, .u 0), (7, .p 1), (5, .t), (4, .f), (2, .p 0), (1, .u a)], [(1, .cells (mm W xs ys ++ [.i s, .i b, .i l, .i p, .i q]) 54), (0, .cells (mm W xs ys ++ [.i s, .i b, .i l, .i p, .i q]) 54)], 2⟩ [True] ⟨trivial, trivial⟩ ?_
   refine en ?_
   refine an ?_
   refine xw_seq ?_
   refine reg ?_
   refine rk [] 1 0 ⟨[(28, .agg (mm W xs ys ++ [.i s, .i b, .i l, .i p, .i q])), (9, .i 0), (8, .u 0), (7, .p 1), (5, .t), (4, .f), (2, .p 0), (1, .u a)], [(1, .cells (mm W xs ys ++ [.i s, .i b, .i l, .i p, .i q]) 54), (0, .cells (mm W xs ys ++ [.i s, .i b, .i l, .i p, .i q]) 54)], 2⟩ [True] ⟨trivial, trivial⟩ ?_
   refine pc (each1 W xs ys s b l p q (by omega) (by omega) (by omega) ‹_› ‹_› (by omega) (by omega) (by omega)) ?_
   refine rk [] 8 2 ⟨[(12, .i 0), (11, .nils), (10, .p 2), (9, .i 0), (8, .u 0), (7, .p 1), (5, .t), (4, .f), (2, .p 0), (1, .u a)], [(2, .cells (mm W xs ys ++ [.i s, .i b, .i l, .i p, .i q]) 54), (1, .cells (mm W xs ys ++ [.i s, .i b, .i l, .i p, .i q]) 54), (0, .cells (mm W xs ys ++ [.i s, .i b, .i l, .i p, .i q]) 54)], 3⟩ [True] ⟨trivial, trivial⟩ ?_
   refine en ?_
   refine an ?_
   refine xw_seq ?_
   refine reg ?_
   refine rk [] 2 0 ⟨[(34, .agg (mm W xs ys ++ [.i s, .i b, .i l, .i p, .i q])), (33, .agg (mm W xs ys ++ [.i s, .i b, .i l, .i p, .i q])), (12, .i 0), (11, .nils), (9, .i 0), (8, .u 0), (7, .p 1), (5, .t), (4, .f), (2, .p 0), (1, .u a)], [(1, .cells (mm W xs ys ++ [.i s, .i b, .i l, .i p, .i q]) 54), (0, .cells (mm W xs ys ++ [.i s, .i b, .i l, .i p, .i q]) 54)], 3⟩ [True, True] ⟨trivial, trivial, trivial⟩ ?_
   refine pc (rrsame_1 W xs ys s b l p q W xs ys s b l p q ‹_› ‹_› ‹_› ‹_› (by omega) (by omega) (by omega) (by omega) ‹_› ‹_› ‹_› ‹_› ‹_› ‹_› ‹_› ‹_› ‹_› ‹_› ‹_› ‹_› ⟨rfl, rfl, rfl, rfl, rfl, rfl, rfl, rfl⟩) ?_
   refine rk [] 1 3 ⟨[(13, .t), (12, .i 0), (11, .nils), (9, .i 0), (8, .u 0), (7, .p 1), (5, .t), (4, .f), (2, .p 0), (1, .u a)], [(1, .cells (mm W xs ys ++ [.i s, .i b, .i l, .i p, .i q]) 54), (0, .cells (mm W xs ys ++ [.i s, .i b, .i l, .i p, .i q]) 54)], 3⟩ [] trivial ?_
   refine en ?_
   refine an ?_
   refine rg [(6, .i 0), (7, .t), (11, .t), (15, .t), (28, .f), (31, .t), (34, .t)] 39 ⟨[(4, .t)], [], 3⟩ [True, (0 : Int) = 0, (0 == 0) = true, True, (0 == 0) = true, True, (0 == 0) = true, True, True, (a != 0) = false, (0 == 0) = true, (0 == 0) = true, True, True, True] ⟨trivial, rfl, beq_iff_eq.2 (by omega), trivial, beq_iff_eq.2 (by omega), trivial, beq_iff_eq.2 (by omega), trivial, trivial, bne_eq_false_iff_eq.2 (by omega), beq_iff_eq.2 (by omega), beq_iff_eq.2 (by omega), trivial, trivial, trivial, trivial⟩ ?_
   refine xw_ret ?_
   exact bs (.t) rfl
  ·
   by_cases h2 : ¬ ((oErr W xs ys a) = 0)
   ·
    refine pc (tto_2 W xs ys s b l p q a (by omega) (by omega) (by omega) ‹_› ‹_› (by omega) (by omega) (by omega) ‹_› (by omega) ‹_›) ?_
    have h3 : (oErr W xs ys a) = 2 ∨ (oErr W xs ys a) = 10 := oErr_no W xs ys a (by omega)
    refine rk [] 8 3 ⟨[(9, .i (oErr W xs ys a)), (8, .u 0), (7, .p 1), (5, .t), (4, .f), (2, .p 0), (1, .u a)], [(1, .cells (mm W xs ys ++ [.i s, .i b, .i l, .i p, .i q]) 54), (0, .cells (mm W xs ys ++ [.i s, .i b, .i l, .i p, .i q]) 54)], 2⟩ [True] ⟨trivial, trivial⟩ ?_
    refine en ?_
    refine an ?_
    refine xw_seq ?_
    refine reg ?_
    refine rk [] 1 0 ⟨[(28, .agg (mm W xs ys ++ [.i s, .i b, .i l, .i p, .i q])), (9, .i (oErr W xs ys a)), (8, .u 0), (7, .p 1), (5, .t), (4, .f), (2, .p 0), (1, .u a)], [(1, .cells (mm W xs ys ++ [.i s, .i b, .i l, .i p, .i q]) 54), (0, .cells (mm W xs ys ++ [.i s, .i b, .i l, .i p, .i q]) 54)], 2⟩ [True] ⟨trivial, trivial⟩ ?_
    refine pc (each1 W xs ys s b l p q (by omega) (by omega) (by omega) ‹_› ‹_› (by omega) (by omega) (by omega)) ?_
    refine rk [] 8 2 ⟨[(12, .i 0), (11, .nils), (10, .p 2), (9, .i (oErr W xs ys a)), (8, .u 0), (7, .p 1), (5, .t), (4, .f), (2, .p 0), (1, .u a)], [(2, .cells (mm W xs ys ++ [.i s, .i b, .i l, .i p, .i q]) 54), (1, .cells (mm W xs ys ++ [.i s, .i b, .i l, .i p, .i q]) 54), (0, .cells (mm W xs ys ++ [.i s, .i b, .i l, .i p, .i q]) 54)], 3⟩ [True] ⟨trivial, trivial⟩ ?_
    refine en ?_
    refine an ?_
    refine xw_seq ?_
    refine reg ?_
    refine rk [] 2 0 ⟨[(34, .agg (mm W xs ys ++ [.i s, .i b, .i l, .i p, .i q])), (33, .agg (mm W xs ys ++ [.i s, .i b, .i l, .i p, .i q])), (12, .i 0), (11, .nils), (9, .i (oErr W xs ys a)), (8, .u 0), (7, .p 1), (5, .t), (4, .f), (2, .p 0), (1, .u a)], [(1, .cells (mm W xs ys ++ [.i s, .i b, .i l, .i p, .i q]) 54), (0, .cells (mm W xs ys ++ [.i s, .i b, .i l, .i p, .i q]) 54)], 3⟩ [True, True] ⟨trivial, trivial, trivial⟩ ?_
    refine pc (rrsame_1 W xs ys s b l p q W xs ys s b l p q ‹_› ‹_› ‹_› ‹_› (by omega) (by omega) (by omega) (by omega) ‹_› ‹_› ‹_› ‹_› ‹_› ‹_› ‹_› ‹_› ‹_› ‹_› ‹_› ‹_› ⟨rfl, rfl, rfl, rfl, rfl, rfl, rfl, rfl⟩) ?_
    refine rk [] 1 3 ⟨[(13, .t), (12, .i 0), (11, .nils), (9, .i (oErr W xs ys a)), (8, .u 0), (7, .p 1), (5, .t), (4, .f), (2, .p 0), (1, .u a)], [(1, .cells (mm W xs ys ++ [.i s, .i b, .i l, .i p, .i q]) 54), (0, .cells (mm W xs ys ++ [.i s, .i b, .i l, .i p, .i q]) 54)], 3⟩ [] trivial ?_
    refine en ?_
    refine an ?_
    refine xw_seq ?_
    refine reg ?_
    refine rk [(6, .i 0), (7, .t), (11, .t), (15, .f), (18, .t)] 22 0 ⟨[(57, .agg (mm W xs ys ++ [.i s, .i b, .i l, .i p, .i q])), (56, .agg (mm W xs ys ++ [.i s, .i b, .i l, .i p, .i q])), (55, .t), (52, .f), (49, .t), (9, .i (oErr W xs ys a)), (8, .u 0), (4, .f), (1, .u a)], [], 3⟩ [True, (0 : Int) = 0, (0 == 0) = true, True, (0 == 0) = true, True, ((oErr W xs ys a) == 0) = false, (0 == 0) = true, True, True] ⟨trivial, rfl, beq_iff_eq.2 (by omega), trivial, beq_iff_eq.2 (by omega), trivial, beq_eq_false_iff_ne.2 (by omega), beq_iff_eq.2 (by omega), trivial, trivial, trivial⟩ ?_
    refine pc (rrsame_1 W xs ys s b l p q W xs ys s b l p q ‹_› ‹_› ‹_› ‹_› (by omega) (by omega) (by omega) (by omega) ‹_› ‹_› ‹_› ‹_› ‹_› ‹_› ‹_› ‹_› ‹_› ‹_› ‹_› ‹_› ⟨rfl, rfl, rfl, rfl, rfl, rfl, rfl, rfl⟩) ?_
    refine rk [(28, .t)] 16 23 ⟨[(4, .t)], [], 3⟩ [True, True, True, (a != 0) = true, True, True] ⟨trivial, trivial, trivial, bne_iff_ne.2 (by omega), trivial, trivial, trivial⟩ ?_
    refine en ?_
    refine an ?_
    refine xw_ret ?_
    exact bs (.t) rfl
   ·
    by_cases h3 : (ldw xs ys a / 72057594037927936) = 255
    ·
     refine pc (tto_3 W xs ys s b l p q a (by omega) (by omega) (by omega) ‹_› ‹_› (by omega) (by omega) (by omega) ‹_› (by omega) (by omega) ‹_›) ?_
     obtain ⟨h4, h5, h6⟩ := oErr_ok W xs ys a (by omega)
     refine rk [] 8 3 ⟨[(9, .i 8), (8, .u 0), (7, .p 1), (5, .t), (4, .f), (2, .p 0), (1, .u a)], [(1, .cells (mm W xs ys ++ [.i s, .i b, .i l, .i p, .i q]) 54), (0, .cells (mm W xs ys ++ [.i s, .i b, .i l, .i p, .i q]) 54)], 2⟩ [True] ⟨trivial, trivial⟩ ?_
     refine en ?_
     refine an ?_
     refine xw_seq ?_
     refine reg ?_
     refine rk [] 1 0 ⟨[(28, .agg (mm W xs ys ++ [.i s, .i b, .i l, .i p, .i q])), (9, .i 8), (8, .u 0), (7, .p 1), (5, .t), (4, .f), (2, .p 0), (1, .u a)], [(1, .cells (mm W xs ys ++ [.i s, .i b, .i l, .i p, .i q]) 54), (0, .cells (mm W xs ys ++ [.i s, .i b, .i l, .i p, .i q]) 54)], 2⟩ [True] ⟨trivial, trivial⟩ ?_
     refine pc (each1 W xs ys s b l p q (by omega) (by omega) (by omega) ‹_› ‹_› (by omega) (by omega) (by omega)) ?_
     refine rk [] 8 2 ⟨[(12, .i 0), (11, .nils), (10, .p 2), (9, .i 8), (8, .u 0), (7, .p 1), (5, .t), (4, .f), (2, .p 0), (1, .u a)], [(2, .cells (mm W xs ys ++ [.i s, .i b, .i l, .i p, .i q]) 54), (1, .cells (mm W xs ys ++ [.i s, .i b, .i l, .i p, .i q]) 54), (0, .cells (mm W xs ys ++ [.i s, .i b, .i l, .i p, .i q]) 54)], 3⟩ [True] ⟨trivial, trivial⟩ ?_
     refine en ?_
     refine an ?_
     refine xw_seq ?_
     refine reg ?_
     refine rk [] 2 0 ⟨[(34, .agg (mm W xs ys ++ [.i s, .i b, .i l, .i p, .i q])), (33, .agg (mm W xs ys ++ [.i s, .i b, .i l, .i p, .i q])), (12, .i 0), (11, .nils), (9, .i 8), (8, .u 0), (7, .p 1), (5, .t), (4, .f), (2, .p 0), (1, .u a)], [(1, .cells (mm W xs ys ++ [.i s, .i b, .i l, .i p, .i q]) 54), (0, .cells (mm W xs ys ++ [.i s, .i b, .i l, .i p, .i q]) 54)], 3⟩ [True, True] ⟨trivial, trivial, trivial⟩ ?_
     refine pc (rrsame_1 W xs ys s b l p q W xs ys s b l p q ‹_› ‹_› ‹_› ‹_› (by omega) (by omega) (by omega) (by omega) ‹_› ‹_› ‹_› ‹_› ‹_› ‹_› ‹_› ‹_› ‹_› ‹_› ‹_› ‹_› ⟨rfl, rfl, rfl, rfl, rfl, rfl, rfl, rfl⟩) ?_
     refine rk [] 1 3 ⟨[(13, .t), (12, .i 0), (11, .nils), (9, .i 8), (8, .u 0), (7, .p 1), (5, .t), (4, .f), (2, .p 0), (1, .u a)], [(1, .cells (mm W xs ys ++ [.i s, .i b, .i l, .i p, .i q]) 54), (0, .cells (mm W xs ys ++ [.i s, .i b, .i l, .i p, .i q]) 54)], 3⟩ [] trivial ?_
     refine en ?_
     refine an ?_
     refine xw_seq ?_
     refine reg ?_
     refine rk [(6, .i 0), (7, .t), (11, .t), (15, .f), (18, .t)] 22 0 ⟨[(57, .agg (mm W xs ys ++ [.i s, .i b, .i l, .i p, .i q])), (56, .agg (mm W xs ys ++ [.i s, .i b, .i l, .i p, .i q])), (55, .t), (52, .f), (49, .t), (9, .i 8), (8, .u 0), (4, .f), (1, .u a)], [], 3⟩ [True, (0 : Int) = 0, (0 == 0) = true, True, (0 == 0) = true, True, (8 == 0) = false, (0 == 0) = true, True, True] ⟨trivial, rfl, beq_iff_eq.2 (by omega), trivial, beq_iff_eq.2 (by omega), trivial, beq_eq_false_iff_ne.2 (by omega), beq_iff_eq.2 (by omega), trivial, trivial, trivial⟩ ?_
     refine pc (rrsame_1 W xs ys s b l p q W xs ys s b l p q ‹_› ‹_› ‹_› ‹_› (by omega) (by omega) (by omega) (by omega) ‹_› ‹_› ‹_› ‹_› ‹_› ‹_› ‹_› ‹_› ‹_› ‹_› ‹_› ‹_› ⟨rfl, rfl, rfl, rfl, rfl, rfl, rfl, rfl⟩) ?_
     refine rk [(28, .t)] 16 23 ⟨[(4, .t)], [], 3⟩ [True, True, True, (a != 0) = true, True, True] ⟨trivial, trivial, trivial, bne_iff_ne.2 (by omega), trivial, trivial, trivial⟩ ?_
     refine en ?_
     refine an ?_
     refine xw_ret ?_
     exact bs (.t) rfl
    ·
     by_cases h4 : a / 4294967296 - 1 = s
     ·
      refine pc (tto_4 W xs ys s b l p q a (by omega) (by omega) (by omega) ‹_› ‹_› (by omega) (by omega) (by omega) ‹_› (by omega) (by omega) (by omega) ‹_›) ?_
      obtain ⟨h5, h6, h7⟩ := oErr_ok W xs ys a (by omega)
      have h8 : 1 ≤ (a + 1) / 4294967296 ∧ (a + 1) / 4294967296 ≤ 2 ∧ (a + 1) % 4294967296 < W := by omega
      have h9 : 0 ≤ (ldw xs ys (a + 1)) ∧ (ldw xs ys (a + 1)) ≤ 18446744073709551615 := ldw_ok xs ys (a + 1) ‹_› ‹_›
      refine rk [] 8 3 ⟨[(9, .i 0), (8, .u a), (7, .p 1), (5, .t), (4, .f), (2, .p 0), (1, .u a)], [(1, .cells (mm W xs ys ++ [.i s, .i b, .i l, .i p, .i q]) 54), (0, .cells (mm W xs ys ++ [.i s, .i b, .i l, .i p, .i q]) 54)], 2⟩ [True] ⟨trivial, trivial⟩ ?_
      refine en ?_
      refine an ?_
      refine xw_seq ?_
      refine reg ?_
      refine rk [] 1 0 ⟨[(28, .agg (mm W xs ys ++ [.i s, .i b, .i l, .i p, .i q])), (9, .i 0), (8, .u a), (7, .p 1), (5, .t), (4, .f), (2, .p 0), (1, .u a)], [(1, .cells (mm W xs ys ++ [.i s, .i b, .i l, .i p, .i q]) 54), (0, .cells (mm W xs ys ++ [.i s, .i b, .i l, .i p, .i q]) 54)], 2⟩ [True] ⟨trivial, trivial⟩ ?_
      refine pc (each1 W xs ys s b l p q (by omega) (by omega) (by omega) ‹_› ‹_› (by omega) (by omega) (by omega)) ?_
      refine rk [] 8 2 ⟨[(12, .i 0), (11, .nils), (10, .p 2), (9, .i 0), (8, .u a), (7, .p 1), (5, .t), (4, .f), (2, .p 0), (1, .u a)], [(2, .cells (mm W xs ys ++ [.i s, .i b, .i l, .i p, .i q]) 54), (1, .cells (mm W xs ys ++ [.i s, .i b, .i l, .i p, .i q]) 54), (0, .cells (mm W xs ys ++ [.i s, .i b, .i l, .i p, .i q]) 54)], 3⟩ [True] ⟨trivial, trivial⟩ ?_
      refine en ?_
      refine an ?_
      refine xw_seq ?_
      refine reg ?_
      refine rk [] 2 0 ⟨[(34, .agg (mm W xs ys ++ [.i s, .i b, .i l, .i p, .i q])), (33, .agg (mm W xs ys ++ [.i s, .i b, .i l, .i p, .i q])), (12, .i 0), (11, .nils), (9, .i 0), (8, .u a), (7, .p 1), (5, .t), (4, .f), (2, .p 0), (1, .u a)], [(1, .cells (mm W xs ys ++ [.i s, .i b, .i l, .i p, .i q]) 54), (0, .cells (mm W xs ys ++ [.i s, .i b, .i l, .i p, .i q]) 54)], 3⟩ [True, True] ⟨trivial, trivial, trivial⟩ ?_
      refine pc (rrsame_1 W xs ys s b l p q W xs ys s b l p q ‹_› ‹_› ‹_› ‹_› (by omega) (by omega) (by omega) (by omega) ‹_› ‹_› ‹_› ‹_› ‹_› ‹_› ‹_› ‹_› ‹_› ‹_› ‹_› ‹_› ⟨rfl, rfl, rfl, rfl, rfl, rfl, rfl, rfl⟩) ?_
      refine rk [] 1 3 ⟨[(13, .t), (12, .i 0), (11, .nils), (9, .i 0), (8, .u a), (7, .p 1), (5, .t), (4, .f), (2, .p 0), (1, .u a)], [(1, .cells (mm W xs ys ++ [.i s, .i b, .i l, .i p, .i q]) 54), (0, .cells (mm W xs ys ++ [.i s, .i b, .i l, .i p, .i q]) 54)], 3⟩ [] trivial ?_
      refine en ?_
      refine an ?_
      refine rg [(6, .i 0), (7, .t), (11, .t), (15, .t), (28, .t)] 39 ⟨[(4, .t)], [], 3⟩ [True, (0 : Int) = 0, (0 == 0) = true, True, (0 == 0) = true, True, (0 == 0) = true, True, True, (a != 0) = true, True, True] ⟨trivial, rfl, beq_iff_eq.2 (by omega), trivial, beq_iff_eq.2 (by omega), trivial, beq_iff_eq.2 (by omega), trivial, trivial, bne_iff_ne.2 (by omega), trivial, trivial, trivial⟩ ?_
      refine xw_ret ?_
      exact bs (.t) rfl
     ·
      by_cases h5 : ((ldw xs ys (a + 1)) ≠ 0) ∧ (¬ (1 ≤ (ldw xs ys (a + 1)) / 4294967296 ∧ (ldw xs ys (a + 1)) / 4294967296 ≤ 2 ∧ (ldw xs ys (a + 1)) / 4294967296 - 1 = s))
      ·
       refine pc (tto_5 W xs ys s b l p q a (by omega) (by omega) (by omega) ‹_› ‹_› (by omega) (by omega) (by omega) ‹_› (by omega) (by omega) (by omega) ‹_› (by omega) (by omega)) ?_
       obtain ⟨h6, h7, h8⟩ := oErr_ok W xs ys a (by omega)
       have h9 : 1 ≤ (a + 1) / 4294967296 ∧ (a + 1) / 4294967296 ≤ 2 ∧ (a + 1) % 4294967296 < W := by omega
       have h10 : 0 ≤ (ldw xs ys (a + 1)) ∧ (ldw xs ys (a + 1)) ≤ 18446744073709551615 := ldw_ok xs ys (a + 1) ‹_› ‹_›
       refine rk [] 8 3 ⟨[(9, .i 10), (8, .u 0), (7, .p 1), (5, .t), (4, .f), (2, .p 0), (1, .u a)], [(1, .cells (mm W xs ys ++ [.i s, .i b, .i l, .i p, .i q]) 54), (0, .cells (mm W xs ys ++ [.i s, .i b, .i l, .i p, .i q]) 54)], 2⟩ [True] ⟨trivial, trivial⟩ ?_
       refine en ?_
       refine an ?_
       refine xw_seq ?_
       refine reg ?_
       refine rk [] 1 0 ⟨[(28, .agg (mm W xs ys ++ [.i s, .i b, .i l, .i p, .i q])), (9, .i 10), (8, .u 0), (7, .p 1), (5, .t), (4, .f), (2, .p 0), (1, .u a)], [(1, .cells (mm W xs ys ++ [.i s, .i b, .i l, .i p, .i q]) 54), (0, .cells (mm W xs ys ++ [.i s, .i b, .i l, .i p, .i q]) 54)], 2⟩ [True] ⟨trivial, trivial⟩ ?_
       refine pc (each1 W xs ys s b l p q (by omega) (by omega) (by omega) ‹_› ‹_› (by omega) (by omega) (by omega)) ?_
       refine rk [] 8 2 ⟨[(12, .i 0), (11, .nils), (10, .p 2), (9, .i 10), (8, .u 0), (7, .p 1), (5, .t), (4, .f), (2, .p 0), (1, .u a)], [(2, .cells (mm W xs ys ++ [.i s, .i b, .i l, .i p, .i q]) 54), (1, .cells (mm W xs ys ++ [.i s, .i b, .i l, .i p, .i q]) 54), (0, .cells (mm W xs ys ++ [.i s, .i b, .i l, .i p, .i q]) 54)], 3⟩ [True] ⟨trivial, trivial⟩ ?_
       refine en ?_
       refine an ?_
       refine xw_seq ?_
       refine reg ?_
       refine rk [] 2 0 ⟨[(34, .agg (mm W xs ys ++ [.i s, .i b, .i l, .i p, .i q])), (33, .agg (mm W xs ys ++ [.i s, .i b, .i l, .i p, .i q])), (12, .i 0), (11, .nils), (9, .i 10), (8, .u 0), (7, .p 1), (5, .t), (4, .f), (2, .p 0), (1, .u a)], [(1, .cells (mm W xs ys ++ [.i s, .i b, .i l, .i p, .i q]) 54), (0, .cells (mm W xs ys ++ [.i s, .i b, .i l, .i p, .i q]) 54)], 3⟩ [True, True] ⟨trivial, trivial, trivial⟩ ?_
       refine pc (rrsame_1 W xs ys s b l p q W xs ys s b l p q ‹_› ‹_› ‹_› ‹_› (by omega) (by omega) (by omega) (by omega) ‹_› ‹_› ‹_› ‹_› ‹_› ‹_› ‹_› ‹_› ‹_› ‹_› ‹_› ‹_› ⟨rfl, rfl, rfl, rfl, rfl, rfl, rfl, rfl⟩) ?_
       refine rk [] 1 3 ⟨[(13, .t), (12, .i 0), (11, .nils), (9, .i 10), (8, .u 0), (7, .p 1), (5, .t), (4, .f), (2, .p 0), (1, .u a)], [(1, .cells (mm W xs ys ++ [.i s, .i b, .i l, .i p, .i q]) 54), (0, .cells (mm W xs ys ++ [.i s, .i b, .i l, .i p, .i q]) 54)], 3⟩ [] trivial ?_
       refine en ?_
       refine an ?_
       refine xw_seq ?_
       refine reg ?_
       refine rk [(6, .i 0), (7, .t), (11, .t), (15, .f), (18, .t)] 22 0 ⟨[(57, .agg (mm W xs ys ++ [.i s, .i b, .i l, .i p, .i q])), (56, .agg (mm W xs ys ++ [.i s, .i b, .i l, .i p, .i q])), (55, .t), (52, .f), (49, .t), (9, .i 10), (8, .u 0), (4, .f), (1, .u a)], [], 3⟩ [True, (0 : Int) = 0, (0 == 0) = true, True, (0 == 0) = true, True, (10 == 0) = false, (0 == 0) = true, True, True] ⟨trivial, rfl, beq_iff_eq.2 (by omega), trivial, beq_iff_eq.2 (by omega), trivial, beq_eq_false_iff_ne.2 (by omega), beq_iff_eq.2 (by omega), trivial, trivial, trivial⟩ ?_
       refine pc (rrsame_1 W xs ys s b l p q W xs ys s b l p q ‹_› ‹_› ‹_› ‹_› (by omega) (by omega) (by omega) (by omega) ‹_› ‹_› ‹_› ‹_› ‹_› ‹_› ‹_› ‹_› ‹_› ‹_› ‹_› ‹_› ⟨rfl, rfl, rfl, rfl, rfl, rfl, rfl, rfl⟩) ?_
       refine rk [(28, .t)] 16 23 ⟨[(4, .t)], [], 3⟩ [True, True, True, (a != 0) = true, True, True] ⟨trivial, trivial, trivial, bne_iff_ne.2 (by omega), trivial, trivial, trivial⟩ ?_
       refine en ?_
       refine an ?_
       refine xw_ret ?_
       exact bs (.t) rfl
      ·
       by_cases h6 : ((ldw xs ys (a + 1)) ≠ 0) ∧ (1 ≤ (ldw xs ys (a + 1)) / 4294967296 ∧ (ldw xs ys (a + 1)) / 4294967296 ≤ 2 ∧ (ldw xs ys (a + 1)) / 4294967296 - 1 = s)
       ·
        refine pc (tto_6 W xs ys s b l p q a (by omega) (by omega) (by omega) ‹_› ‹_› (by omega) (by omega) (by omega) ‹_› (by omega) (by omega) (by omega) ‹_› (by omega) (by omega)) ?_
        obtain ⟨h7, h8, h9⟩ := oErr_ok W xs ys a (by omega)
        have h10 : 1 ≤ (a + 1) / 4294967296 ∧ (a + 1) / 4294967296 ≤ 2 ∧ (a + 1) % 4294967296 < W := by omega
        have h11 : 0 ≤ (ldw xs ys (a + 1)) ∧ (ldw xs ys (a + 1)) ≤ 18446744073709551615 := ldw_ok xs ys (a + 1) ‹_› ‹_›
        refine rk [] 8 3 ⟨[(9, .i 0), (8, .u (ldw xs ys (a + 1))), (7, .p 1), (5, .t), (4, .f), (2, .p 0), (1, .u a)], [(1, .cells (mm W xs ys ++ [.i s, .i b, .i l, .i p, .i q]) 54), (0, .cells (mm W xs ys ++ [.i s, .i b, .i l, .i p, .i q]) 54)], 2⟩ [True] ⟨trivial, trivial⟩ ?_
        refine en ?_
        refine an ?_
        refine xw_seq ?_
        refine reg ?_
        refine rk [] 1 0 ⟨[(28, .agg (mm W xs ys ++ [.i s, .i b, .i l, .i p, .i q])), (9, .i 0), (8, .u (ldw xs ys (a + 1))), (7, .p 1), (5, .t), (4, .f), (2, .p 0), (1, .u a)], [(1, .cells (mm W xs ys ++ [.i s, .i b, .i l, .i p, .i q]) 54), (0, .cells (mm W xs ys ++ [.i s, .i b, .i l, .i p, .i q]) 54)], 2⟩ [True] ⟨trivial, trivial⟩ ?_
        refine pc (each1 W xs ys s b l p q (by omega) (by omega) (by omega) ‹_› ‹_› (by omega) (by omega) (by omega)) ?_
        refine rk [] 8 2 ⟨[(12, .i 0), (11, .nils), (10, .p 2), (9, .i 0), (8, .u (ldw xs ys (a + 1))), (7, .p 1), (5, .t), (4, .f), (2, .p 0), (1, .u a)], [(2, .cells (mm W xs ys ++ [.i s, .i b, .i l, .i p, .i q]) 54), (1, .cells (mm W xs ys ++ [.i s, .i b, .i l, .i p, .i q]) 54), (0, .cells (mm W xs ys ++ [.i s, .i b, .i l, .i p, .i q]) 54)], 3⟩ [True] ⟨trivial, trivial⟩ ?_
        refine en ?_
        refine an ?_
        refine xw_seq ?_
        refine reg ?_
        refine rk [] 2 0 ⟨[(34, .agg (mm W xs ys ++ [.i s, .i b, .i l, .i p, .i q])), (33, .agg (mm W xs ys ++ [.i s, .i b, .i l, .i p, .i q])), (12, .i 0), (11, .nils), (9, .i 0), (8, .u (ldw xs ys (a + 1))), (7, .p 1), (5, .t), (4, .f), (2, .p 0), (1, .u a)], [(1, .cells (mm W xs ys ++ [.i s, .i b, .i l, .i p, .i q]) 54), (0, .cells (mm W xs ys ++ [.i s, .i b, .i l, .i p, .i q]) 54)], 3⟩ [True, True] ⟨trivial, trivial, trivial⟩ ?_
        refine pc (rrsame_1 W xs ys s b l p q W xs ys s b l p q ‹_› ‹_› ‹_› ‹_› (by omega) (by omega) (by omega) (by omega) ‹_› ‹_› ‹_› ‹_› ‹_› ‹_› ‹_› ‹_› ‹_› ‹_› ‹_› ‹_› ⟨rfl, rfl, rfl, rfl, rfl, rfl, rfl, rfl⟩) ?_
        refine rk [] 1 3 ⟨[(13, .t), (12, .i 0), (11, .nils), (9, .i 0), (8, .u (ldw xs ys (a + 1))), (7, .p 1), (5, .t), (4, .f), (2, .p 0), (1, .u a)], [(1, .cells (mm W xs ys ++ [.i s, .i b, .i l, .i p, .i q]) 54), (0, .cells (mm W xs ys ++ [.i s, .i b, .i l, .i p, .i q]) 54)], 3⟩ [] trivial ?_
        refine en ?_
        refine an ?_
        refine rg [(6, .i 0), (7, .t), (11, .t), (15, .t), (28, .t)] 39 ⟨[(4, .t)], [], 3⟩ [True, (0 : Int) = 0, (0 == 0) = true, True, (0 == 0) = true, True, (0 == 0) = true, True, True, (a != 0) = true, True, True] ⟨trivial, rfl, beq_iff_eq.2 (by omega), trivial, beq_iff_eq.2 (by omega), trivial, beq_iff_eq.2 (by omega), trivial, trivial, bne_iff_ne.2 (by omega), trivial, trivial, trivial⟩ ?_
        refine xw_ret ?_
        exact bs (.t) rfl
       ·
        by_cases h7 : l - b < (((ldw xs ys a / 4294967296) % 16777216) + 2)
        ·
         refine pc (tto_7 W xs ys s b l p q a (by omega) (by omega) (by omega) ‹_› ‹_› (by omega) (by omega) (by omega) ‹_› (by omega) (by omega) (by omega) ‹_› (by omega) ‹_›) ?_
         obtain ⟨h8, h9, h10⟩ := oErr_ok W xs ys a (by omega)
         have h11 : 1 ≤ (a + 1) / 4294967296 ∧ (a + 1) / 4294967296 ≤ 2 ∧ (a + 1) % 4294967296 < W := by omega
         have h12 : 0 ≤ (ldw xs ys (a + 1)) ∧ (ldw xs ys (a + 1)) ≤ 18446744073709551615 := ldw_ok xs ys (a + 1) ‹_› ‹_›
         refine rk [] 8 3 ⟨[(9, .i 4), (8, .u 0), (7, .p 1), (5, .t), (4, .f), (2, .p 0), (1, .u a)], [(1, .cells (mm W xs ys ++ [.i s, .i b, .i l, .i p, .i q]) 54), (0, .cells (mm W xs ys ++ [.i s, .i b, .i l, .i p, .i q]) 54)], 2⟩ [True] ⟨trivial, trivial⟩ ?_
         refine en ?_
         refine an ?_
         refine xw_seq ?_
         refine reg ?_
         refine rk [] 1 0 ⟨[(28, .agg (mm W xs ys ++ [.i s, .i b, .i l, .i p, .i q])), (9, .i 4), (8, .u 0), (7, .p 1), (5, .t), (4, .f), (2, .p 0), (1, .u a)], [(1, .cells (mm W xs ys ++ [.i s, .i b, .i l, .i p, .i q]) 54), (0, .cells (mm W xs ys ++ [.i s, .i b, .i l, .i p, .i q]) 54)], 2⟩ [True] ⟨trivial, trivial⟩ ?_
         refine pc (each1 W xs ys s b l p q (by omega) (by omega) (by omega) ‹_› ‹_› (by omega) (by omega) (by omega)) ?_
         refine rk [] 8 2 ⟨[(12, .i 0), (11, .nils), (10, .p 2), (9, .i 4), (8, .u 0), (7, .p 1), (5, .t), (4, .f), (2, .p 0), (1, .u a)], [(2, .cells (mm W xs ys ++ [.i s, .i b, .i l, .i p, .i q]) 54), (1, .cells (mm W xs ys ++ [.i s, .i b, .i l, .i p, .i q]) 54), (0, .cells (mm W xs ys ++ [.i s, .i b, .i l, .i p, .i q]) 54)], 3⟩ [True] ⟨trivial, trivial⟩ ?_
         refine en ?_
         refine an ?_
         refine xw_seq ?_
         refine reg ?_
         refine rk [] 2 0 ⟨[(34, .agg (mm W xs ys ++ [.i s, .i b, .i l, .i p, .i q])), (33, .agg (mm W xs ys ++ [.i s, .i b, .i l, .i p, .i q])), (12, .i 0), (11, .nils), (9, .i 4), (8, .u 0), (7, .p 1), (5, .t), (4, .f), (2, .p 0), (1, .u a)], [(1, .cells (mm W xs ys ++ [.i s, .i b, .i l, .i p, .i q]) 54), (0, .cells (mm W xs ys ++ [.i s, .i b, .i l, .i p, .i q]) 54)], 3⟩ [True, True] ⟨trivial, trivial, trivial⟩ ?_
         refine pc (rrsame_1 W xs ys s b l p q W xs ys s b l p q ‹_› ‹_› ‹_› ‹_› (by omega) (by omega) (by omega) (by omega) ‹_› ‹_› ‹_› ‹_› ‹_› ‹_› ‹_› ‹_› ‹_› ‹_› ‹_› ‹_› ⟨rfl, rfl, rfl, rfl, rfl, rfl, rfl, rfl⟩) ?_
         refine rk [] 1 3 ⟨[(13, .t), (12, .i 0), (11, .nils), (9, .i 4), (8, .u 0), (7, .p 1), (5, .t), (4, .f), (2, .p 0), (1, .u a)], [(1, .cells (mm W xs ys ++ [.i s, .i b, .i l, .i p, .i q]) 54), (0, .cells (mm W xs ys ++ [.i s, .i b, .i l, .i p, .i q]) 54)], 3⟩ [] trivial ?_
         refine en ?_
         refine an ?_
         refine xw_seq ?_
         refine reg ?_
         refine rk [(6, .i 0), (7, .t), (11, .t), (15, .f), (18, .t)] 22 0 ⟨[(57, .agg (mm W xs ys ++ [.i s, .i b, .i l, .i p, .i q])), (56, .agg (mm W xs ys ++ [.i s, .i b, .i l, .i p, .i q])), (55, .t), (52, .f), (49, .t), (9, .i 4), (8, .u 0), (4, .f), (1, .u a)], [], 3⟩ [True, (0 : Int) = 0, (0 == 0) = true, True, (0 == 0) = true, True, (4 == 0) = false, (0 == 0) = true, True, True] ⟨trivial, rfl, beq_iff_eq.2 (by omega), trivial, beq_iff_eq.2 (by omega), trivial, beq_eq_false_iff_ne.2 (by omega), beq_iff_eq.2 (by omega), trivial, trivial, trivial⟩ ?_
         refine pc (rrsame_1 W xs ys s b l p q W xs ys s b l p q ‹_› ‹_› ‹_› ‹_› (by omega) (by omega) (by omega) (by omega) ‹_› ‹_› ‹_› ‹_› ‹_› ‹_› ‹_› ‹_› ‹_› ‹_› ‹_› ‹_› ⟨rfl, rfl, rfl, rfl, rfl, rfl, rfl, rfl⟩) ?_
         refine rk [(28, .t)] 16 23 ⟨[(4, .t)], [], 3⟩ [True, True, True, (a != 0) = true, True, True] ⟨trivial, trivial, trivial, bne_iff_ne.2 (by omega), trivial, trivial, trivial⟩ ?_
         refine en ?_
         refine an ?_
         refine xw_ret ?_
         exact bs (.t) rfl
        ·
         refine pc (tto_8 W xs ys s b l p q a (by omega) (by omega) (by omega) ‹_› ‹_› (by omega) (by omega) (by omega) ‹_› (by omega) (by omega) (by omega) ‹_› (by omega) (by omega)) ?_
         obtain ⟨h8, h9, h10⟩ := oErr_ok W xs ys a (by omega)
         have h11 : 1 ≤ (a + 1) / 4294967296 ∧ (a + 1) / 4294967296 ≤ 2 ∧ (a + 1) % 4294967296 < W := by omega
         have h12 : 0 ≤ (ldw xs ys (a + 1)) ∧ (ldw xs ys (a + 1)) ≤ 18446744073709551615 := ldw_ok xs ys (a + 1) ‹_› ‹_›
         obtain ⟨h13, h14, h15, h16⟩ := tw_ok W xs ys a ((s + 1) * 4294967296 + b) (((ldw xs ys a / 4294967296) % 16777216) + 2) (by omega) (by omega) ‹_› ‹_› (by omega) (by omega) (by omega) (by omega)
         refine rk [] 8 3 ⟨[(9, .i 0), (8, .u ((s + 1) * 4294967296 + b)), (7, .p 1), (5, .t), (4, .f), (2, .p 0), (1, .u a)], [(1, .cells (mm W (tX xs ys a ((s + 1) * 4294967296 + b) ((hL xs ys a) + 2)) (tY xs ys a ((s + 1) * 4294967296 + b) ((hL xs ys a) + 2)) ++ [.i s, .i (b + ((hL xs ys a) + 2)), .i l, .i p, .i q]) 54), (0, .cells (mm W xs ys ++ [.i s, .i b, .i l, .i p, .i q]) 54)], 2⟩ [True] ⟨trivial, trivial⟩ ?_
         refine en ?_
         refine an ?_
         refine xw_seq ?_
         refine reg ?_
         refine rk [] 1 0 ⟨[(28, .agg (mm W xs ys ++ [.i s, .i b, .i l, .i p, .i q])), (9, .i 0), (8, .u ((s + 1) * 4294967296 + b)), (7, .p 1), (5, .t), (4, .f), (2, .p 0), (1, .u a)], [(1, .cells (mm W (tX xs ys a ((s + 1) * 4294967296 + b) ((hL xs ys a) + 2)) (tY xs ys a ((s + 1) * 4294967296 + b) ((hL xs ys a) + 2)) ++ [.i s, .i (b + ((hL xs ys a) + 2)), .i l, .i p, .i q]) 54), (0, .cells (mm W xs ys ++ [.i s, .i b, .i l, .i p, .i q]) 54)], 2⟩ [True] ⟨trivial, trivial⟩ ?_
         refine pc (each1 W xs ys s b l p q (by omega) (by omega) (by omega) ‹_› ‹_› (by omega) (by omega) (by omega)) ?_
         refine rk [] 8 2 ⟨[(12, .i 0), (11, .nils), (10, .p 2), (9, .i 0), (8, .u ((s + 1) * 4294967296 + b)), (7, .p 1), (5, .t), (4, .f), (2, .p 0), (1, .u a)], [(2, .cells (mm W xs ys ++ [.i s, .i b, .i l, .i p, .i q]) 54), (1, .cells (mm W (tX xs ys a ((s + 1) * 4294967296 + b) ((hL xs ys a) + 2)) (tY xs ys a ((s + 1) * 4294967296 + b) ((hL xs ys a) + 2)) ++ [.i s, .i (b + ((hL xs ys a) + 2)), .i l, .i p, .i q]) 54), (0, .cells (mm W xs ys ++ [.i s, .i b, .i l, .i p, .i q]) 54)], 3⟩ [True] ⟨trivial, trivial⟩ ?_
         refine en ?_
         refine an ?_
         refine xw_seq ?_
         refine reg ?_
         refine rk [] 2 0 ⟨[(34, .agg (mm W xs ys ++ [.i s, .i b, .i l, .i p, .i q])), (33, .agg (mm W xs ys ++ [.i s, .i b, .i l, .i p, .i q])), (12, .i 0), (11, .nils), (9, .i 0), (8, .u ((s + 1) * 4294967296 + b)), (7, .p 1), (5, .t), (4, .f), (2, .p 0), (1, .u a)], [(1, .cells (mm W (tX xs ys a ((s + 1) * 4294967296 + b) ((hL xs ys a) + 2)) (tY xs ys a ((s + 1) * 4294967296 + b) ((hL xs ys a) + 2)) ++ [.i s, .i (b + ((hL xs ys a) + 2)), .i l, .i p, .i q]) 54), (0, .cells (mm W xs ys ++ [.i s, .i b, .i l, .i p, .i q]) 54)], 3⟩ [True, True] ⟨trivial, trivial, trivial⟩ ?_
         refine pc (rrsame_1 W xs ys s b l p q W xs ys s b l p q ‹_› ‹_› ‹_› ‹_› (by omega) (by omega) (by omega) (by omega) ‹_› ‹_› ‹_› ‹_› ‹_› ‹_› ‹_› ‹_› ‹_› ‹_› ‹_› ‹_› ⟨rfl, rfl, rfl, rfl, rfl, rfl, rfl, rfl⟩) ?_
         refine rk [] 1 3 ⟨[(13, .t), (12, .i 0), (11, .nils), (9, .i 0), (8, .u ((s + 1) * 4294967296 + b)), (7, .p 1), (5, .t), (4, .f), (2, .p 0), (1, .u a)], [(1, .cells (mm W (tX xs ys a ((s + 1) * 4294967296 + b) ((hL xs ys a) + 2)) (tY xs ys a ((s + 1) * 4294967296 + b) ((hL xs ys a) + 2)) ++ [.i s, .i (b + ((hL xs ys a) + 2)), .i l, .i p, .i q]) 54), (0, .cells (mm W xs ys ++ [.i s, .i b, .i l, .i p, .i q]) 54)], 3⟩ [] trivial ?_
         refine en ?_
         refine an ?_
         refine rg [(6, .i 0), (7, .t), (11, .t), (15, .t), (28, .t)] 39 ⟨[(4, .t)], [], 3⟩ [True, (0 : Int) = 0, (0 == 0) = true, True, (0 == 0) = true, True, (0 == 0) = true, True, True, (a != 0) = true, True, True] ⟨trivial, rfl, beq_iff_eq.2 (by omega), trivial, beq_iff_eq.2 (by omega), trivial, beq_iff_eq.2 (by omega), trivial, trivial, bne_iff_ne.2 (by omega), trivial, trivial, trivial⟩ ?_
         refine xw_ret ?_
         exact bs (.t) rfl
 ·
  refine pc (few11_2 W xs ys s b l p q ‹_› ‹_› ‹_› ‹_› ‹_› ‹_› ‹_›) ?_
  refine rk [] 1 2 ⟨[(6, .f), (5, .t), (4, .f), (2, .p 0), (1, .u a)], [(0, .cells (mm W xs ys ++ [.i s, .i b, .i l, .i p, .i q]) 54)], 1⟩ [] trivial ?_
  refine en ?_
  refine an ?_
  refine xw_seq ?_
  refine rg [] 2 ⟨[(18, .t), (5, .t), (4, .f), (2, .p 0), (1, .u a)], [(0, .cells (mm W xs ys ++ [.i s, .i b, .i l, .i p, .i q]) 54)], 1⟩ [] trivial ?_
  refine ct ?_
  refine rg [] 2 ⟨[(4, .t), (5, .t), (2, .p 0), (1, .u a)], [(0, .cells (mm W xs ys ++ [.i s, .i b, .i l, .i p, .i q]) 54)], 1⟩ [] trivial ?_
  refine xw_ret ?_
  refine an_ret ?_
  exact bs (.t) rfl

end Go.Proofs.Ytcjcljbhjkedgaa.X
