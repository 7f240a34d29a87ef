/- Contracts of Go functions: what each returns, for every input that its premises name; no memory of the caller is touched. Printed by a program. -/
import Derived.Test.YtkiaoafmlekndaaXf1
namespace Go.Proofs.Ytkiaoafmlekndaa.X
open Go Go.RowKit
set_option linter.unusedVariables false      -- a premise may serve only to tell which way is taken
set_option linter.unusedSimpArgs false
theorem one0 (W : Int) (xs : List Int) (ys : List Int) (s : Int) (b : Int) (l : Int) (p : Int) (q : Int) (a : Int) (i : Int) (hp0 : 16 ≤ W ∧ W ≤ 4096) (hp1 : (xs.length : Int) = W) (hp2 : (ys.length : Int) = W) (hp3 : U64s xs) (hp4 : U64s ys) (hp5 : (s = 0 ∨ s = 1) ∧ 0 ≤ b ∧ b ≤ l ∧ l ≤ 4096) (hp6 : l = W) (hp7 : 0 ≤ p ∧ p ≤ q ∧ q ≤ b) (hp8 : 0 ≤ a ∧ a ≤ 18446744073709551615) (hp9 : -9223372036854775808 ≤ i ∧ i ≤ 9223372036854775807) (hp10 : (oErr W xs ys a) ≠ 0 ∨ (ldw xs ys a / 72057594037927936) = 255 ∨ (1 ≤ a / 4294967296 ∧ a / 4294967296 ≤ 2 ∧ a / 4294967296 - 1 = s) ∨ (ldw xs ys (a + 1)) = 0) : Pub Try.prog 22 [.agg (mr W xs ys [.int .i64 s, .int .i64 b, .int .i64 l, .int .i64 p, .int .i64 q]), .agg [.int .u64 a, .int .i64 i]] (fun rv => (∃ E1 : Int, (0 ≤ E1 ∧ E1 ≤ 100) ∧ rv = .tup [.agg (mr W xs ys [.int .i64 s, .int .i64 b, .int .i64 l, .int .i64 p, .int .i64 q]), .int .i64 E1])) := by
 refine pub_of TT_ok Try.func22 rfl (by decide) (Nat.le_of_ble_eq_true (by kernel_rfl)) (by kernel_rfl) ?_
 refine rg [] 4 ⟨[(5, .i 0), (4, .p 2), (3, .p 1), (2, .p 0)], [(2, .cells [.i 0, .nils, .nils, .i 0, .i 0, .i 0, .i 0, .i 0] 31), (1, .cells [.u a, .i i] 56), (0, .cells (mr W xs ys [.i s, .i b, .i l, .i p, .i q]) 31)], 3⟩ [] trivial ?_
 refine xw_seq ?_
 refine reg ?_
 refine rk [] 6 0 ⟨[(17, .i i), (15, .u a), (13, .agg (mm W xs ys)), (5, .i 0), (4, .p 2), (3, .p 1), (2, .p 0)], [(2, .cells [.i 0, .nils, .nils, .i 0, .i 0, .i 0, .i 0, .i 0] 31), (1, .cells [.u a, .i i] 56), (0, .cells (mr W xs ys [.i s, .i b, .i l, .i p, .i q]) 31)], 3⟩ [True, True, True] ⟨trivial, trivial, trivial, trivial⟩ ?_
 by_cases h0 : ((oErr W xs ys a) = 0) ∧ ((ldw xs ys a / 72057594037927936) ≠ 255) ∧ (0 ≤ i ∧ i < ((ldw xs ys a / 4294967296) % 16777216))
 ·
  refine pc (oget_1 W xs ys a i ‹_› ‹_› ‹_› ‹_› ‹_› ‹_› ‹_› (by omega) (by omega) (by omega)) ?_
  obtain ⟨h1, h2, h3⟩ := oErr_ok W xs ys a (by omega)
  have h4 : 0 ≤ (ldw xs ys (a + 2 + i)) ∧ (ldw xs ys (a + 2 + i)) ≤ 18446744073709551615 := ldw_ok xs ys (a + 2 + i) ‹_› ‹_›
  have h5 : 1 ≤ (a + 2 + i) / 4294967296 ∧ (a + 2 + i) / 4294967296 ≤ 2 ∧ (a + 2 + i) % 4294967296 < W := by omega
  refine rk [] 7 7 ⟨[(8, .i 0), (7, .bool (isPtr (hL xs ys a) (hM xs ys a) i)), (6, .u (ldw xs ys (a + 2 + i))), (5, .i 0), (4, .p 2), (3, .p 1), (2, .p 0)], [(2, .cells [.i 0, .nils, .nils, .i 0, .i 0, .i 0, .i 0, .i 0] 31), (1, .cells [.u a, .i i] 56), (0, .cells (mr W xs ys [.i s, .i b, .i l, .i p, .i q]) 31)], 3⟩ [] trivial ?_
  refine en ?_
  refine an ?_
  refine xw_seq ?_
  refine reg ?_
  refine rk [] 4 0 ⟨[(26, .u a), (24, .agg (mm W xs ys)), (8, .i 0), (7, .bool (isPtr (hL xs ys a) (hM xs ys a) i)), (6, .u (ldw xs ys (a + 2 + i))), (5, .i 0), (4, .p 2), (3, .p 1), (2, .p 0)], [(2, .cells [.i 0, .nils, .nils, .i 0, .i 0, .i 0, .i 0, .i 0] 31), (1, .cells [.u a, .i i] 56), (0, .cells (mr W xs ys [.i s, .i b, .i l, .i p, .i q]) 31)], 3⟩ [True, True] ⟨trivial, trivial, trivial⟩ ?_
  refine pc (otwin_1 W xs ys a ‹_› ‹_› ‹_› ‹_› ‹_› ‹_› (by omega) (by omega)) ?_
  have h6 : 0 ≤ (ldw xs ys (a + 1)) ∧ (ldw xs ys (a + 1)) ≤ 18446744073709551615 := ldw_ok xs ys (a + 1) ‹_› ‹_›
  have h7 : 1 ≤ (a + 1) / 4294967296 ∧ (a + 1) / 4294967296 ≤ 2 ∧ (a + 1) % 4294967296 < W := by omega
  refine rk [] 5 5 ⟨[(9, .u (ldw xs ys (a + 1))), (8, .i 0), (7, .bool (isPtr (hL xs ys a) (hM xs ys a) i)), (6, .u (ldw xs ys (a + 2 + i))), (5, .i 0), (4, .p 2), (3, .p 1), (2, .p 0)], [(2, .cells [.i 0, .nils, .nils, .i 0, .i 0, .i 0, .i 0, .i 0] 31), (1, .cells [.u a, .i i] 56), (0, .cells (mr W xs ys [.i s, .i b, .i l, .i p, .i q]) 31)], 3⟩ [] trivial ?_
  refine en ?_
  refine an ?_
  refine xw_seq ?_
  refine xw_block ?_
  refine xw_seq ?_
  refine xw_block ?_
  refine xw_block ?_
  refine xw_seq ?_
  refine xw_seq ?_
  refine xw_seq ?_
  refine reg ?_
  refine rk [(1, .t)] 6 0 ⟨[(36, .u a), (34, .agg (mr W xs ys [.i s, .i b, .i l, .i p, .i q])), (33, .t), (9, .u (ldw xs ys (a + 1))), (8, .i 0), (7, .bool (isPtr (hL xs ys a) (hM xs ys a) i)), (6, .u (ldw xs ys (a + 2 + i))), (5, .i 0), (4, .p 2), (3, .p 1), (2, .p 0)], [(2, .cells [.i 0, .nils, .nils, .i 0, .i 0, .i 0, .i 0, .i 0] 31), (1, .cells [.u a, .i i] 56), (0, .cells (mr W xs ys [.i s, .i b, .i l, .i p, .i q]) 31)], 3⟩ [(0 == 0) = true, True, True] ⟨beq_iff_eq.2 (by omega), trivial, trivial, trivial⟩ ?_
  by_cases h8 : 1 ≤ a / 4294967296 ∧ a / 4294967296 ≤ 2 ∧ a / 4294967296 - 1 = s
  ·
   refine pc (rpover_1 W xs ys s b l p q a ‹_› ‹_› ‹_› ‹_› ‹_› ‹_› ‹_› ‹_› ‹_› (by omega)) ?_
   refine rk [] 6 7 ⟨[(30, .t), (9, .u (ldw xs ys (a + 1))), (8, .i 0), (7, .bool (isPtr (hL xs ys a) (hM xs ys a) i)), (6, .u (ldw xs ys (a + 2 + i))), (5, .i 0), (4, .p 2), (3, .p 1), (2, .p 0)], [(2, .cells [.i 0, .nils, .nils, .i 0, .i 0, .i 0, .i 0, .i 0] 31), (1, .cells [.u a, .i i] 56), (0, .cells (mr W xs ys [.i s, .i b, .i l, .i p, .i q]) 31)], 3⟩ [True, True] ⟨trivial, trivial, trivial⟩ ?_
   refine en ?_
   refine an ?_
   refine ct ?_
   refine xw_exit ?_
   refine an_exit ?_
   refine an_exit ?_
   refine ib_same ?_
   refine ib ?_
   refine an ?_
   refine xw_seq ?_
   refine rg [] 4 ⟨[(5, .i 0), (9, .u (ldw xs ys (a + 1))), (7, .bool (isPtr (hL xs ys a) (hM xs ys a) i)), (6, .u (ldw xs ys (a + 2 + i))), (4, .p 2), (3, .p 1), (2, .p 0)], [(2, .cells (mr W xs ys [.i s, .i b, .i l, .i p, .i q]) 31), (1, .cells [.u a, .i i] 56), (0, .cells (mr W xs ys [.i s, .i b, .i l, .i p, .i q]) 31)], 3⟩ [True, True] ⟨trivial, trivial, trivial⟩ ?_
   refine xw_ret ?_
   refine an_ret ?_
   refine ib_ret ?_
   refine an_ret ?_
   exact bs (.tup [.agg (mr W xs ys [.i s, .i b, .i l, .i p, .i q]), .i 0]) (⟨0, (by omega), rfl⟩)
  ·
   refine pc (rpover_2 W xs ys s b l p q a ‹_› ‹_› ‹_› ‹_› ‹_› ‹_› ‹_› ‹_› ‹_› (by omega)) ?_
   refine rk [(9, .t)] 6 7 ⟨[(30, .t), (9, .u (ldw xs ys (a + 1))), (8, .i 0), (7, .bool (isPtr (hL xs ys a) (hM xs ys a) i)), (6, .u (ldw xs ys (a + 2 + i))), (5, .i 0), (4, .p 2), (3, .p 1), (2, .p 0)], [(2, .cells [.i 0, .nils, .nils, .i 0, .i 0, .i 0, .i 0, .i 0] 31), (1, .cells [.u a, .i i] 56), (0, .cells (mr W xs ys [.i s, .i b, .i l, .i p, .i q]) 31)], 3⟩ [((ldw xs ys (a + 1)) == 0) = true, True, True] ⟨beq_iff_eq.2 (by omega), trivial, trivial, trivial⟩ ?_
   refine en ?_
   refine an ?_
   refine ct ?_
   refine xw_exit ?_
   refine an_exit ?_
   refine an_exit ?_
   refine ib_same ?_
   refine ib ?_
   refine an ?_
   refine xw_seq ?_
   refine rg [] 4 ⟨[(5, .i 0), (9, .u (ldw xs ys (a + 1))), (7, .bool (isPtr (hL xs ys a) (hM xs ys a) i)), (6, .u (ldw xs ys (a + 2 + i))), (4, .p 2), (3, .p 1), (2, .p 0)], [(2, .cells (mr W xs ys [.i s, .i b, .i l, .i p, .i q]) 31), (1, .cells [.u a, .i i] 56), (0, .cells (mr W xs ys [.i s, .i b, .i l, .i p, .i q]) 31)], 3⟩ [True, True] ⟨trivial, trivial, trivial⟩ ?_
   refine xw_ret ?_
   refine an_ret ?_
   refine ib_ret ?_
   refine an_ret ?_
   exact bs (.tup [.agg (mr W xs ys [.i s, .i b, .i l, .i p, .i q]), .i 0]) (⟨0, (by omega), rfl⟩)
 ·
  by_cases h1 : ((oErr W xs ys a) = 0) ∧ ((ldw xs ys a / 72057594037927936) ≠ 255) ∧ (¬ (0 ≤ i ∧ i < ((ldw xs ys a / 4294967296) % 16777216)))
  ·
   refine pc (oget_2 W xs ys a i ‹_› ‹_› ‹_› ‹_› ‹_› ‹_› ‹_› (by omega) (by omega) (by omega)) ?_
   obtain ⟨h2, h3, h4⟩ := oErr_ok W xs ys a (by omega)
   refine rk [] 7 7 ⟨[(8, .i 7), (7, .f), (6, .u 0), (5, .i 0), (4, .p 2), (3, .p 1), (2, .p 0)], [(2, .cells [.i 0, .nils, .nils, .i 0, .i 0, .i 0, .i 0, .i 0] 31), (1, .cells [.u a, .i i] 56), (0, .cells (mr W xs ys [.i s, .i b, .i l, .i p, .i q]) 31)], 3⟩ [] trivial ?_
   refine en ?_
   refine an ?_
   refine xw_seq ?_
   refine reg ?_
   refine rk [] 4 0 ⟨[(26, .u a), (24, .agg (mm W xs ys)), (8, .i 7), (7, .f), (6, .u 0), (5, .i 0), (4, .p 2), (3, .p 1), (2, .p 0)], [(2, .cells [.i 0, .nils, .nils, .i 0, .i 0, .i 0, .i 0, .i 0] 31), (1, .cells [.u a, .i i] 56), (0, .cells (mr W xs ys [.i s, .i b, .i l, .i p, .i q]) 31)], 3⟩ [True, True] ⟨trivial, trivial, trivial⟩ ?_
   refine pc (otwin_1 W xs ys a ‹_› ‹_› ‹_› ‹_› ‹_› ‹_› (by omega) (by omega)) ?_
   have h5 : 0 ≤ (ldw xs ys (a + 1)) ∧ (ldw xs ys (a + 1)) ≤ 18446744073709551615 := ldw_ok xs ys (a + 1) ‹_› ‹_›
   have h6 : 1 ≤ (a + 1) / 4294967296 ∧ (a + 1) / 4294967296 ≤ 2 ∧ (a + 1) % 4294967296 < W := by omega
   refine rk [] 5 5 ⟨[(9, .u (ldw xs ys (a + 1))), (8, .i 7), (7, .f), (6, .u 0), (5, .i 0), (4, .p 2), (3, .p 1), (2, .p 0)], [(2, .cells [.i 0, .nils, .nils, .i 0, .i 0, .i 0, .i 0, .i 0] 31), (1, .cells [.u a, .i i] 56), (0, .cells (mr W xs ys [.i s, .i b, .i l, .i p, .i q]) 31)], 3⟩ [] trivial ?_
   refine en ?_
   refine an ?_
   refine xw_seq ?_
   refine xw_block ?_
   refine xw_seq ?_
   refine xw_block ?_
   refine xw_block ?_
   refine xw_seq ?_
   refine xw_seq ?_
   refine rg [(1, .f)] 13 ⟨[(30, .f), (9, .u (ldw xs ys (a + 1))), (8, .i 7), (7, .f), (6, .u 0), (5, .i 0), (4, .p 2), (3, .p 1), (2, .p 0)], [(2, .cells [.i 0, .nils, .nils, .i 0, .i 0, .i 0, .i 0, .i 0] 31), (1, .cells [.u a, .i i] 56), (0, .cells (mr W xs ys [.i s, .i b, .i l, .i p, .i q]) 31)], 3⟩ [(7 == 0) = false, True] ⟨beq_eq_false_iff_ne.2 (by omega), trivial, trivial⟩ ?_
   refine cf ?_
   refine xw_skip ?_
   refine an ?_
   refine rg [(1, .t)] 3 ⟨[(43, .t), (9, .u (ldw xs ys (a + 1))), (8, .i 7), (7, .f), (6, .u 0), (5, .i 0), (4, .p 2), (3, .p 1), (2, .p 0)], [(2, .cells [.i 0, .nils, .nils, .i 0, .i 0, .i 0, .i 0, .i 0] 31), (1, .cells [.u a, .i i] 56), (0, .cells (mr W xs ys [.i s, .i b, .i l, .i p, .i q]) 31)], 3⟩ [(7 != 0) = true] ⟨bne_iff_ne.2 (by omega), trivial⟩ ?_
   refine ct ?_
   refine xw_exit ?_
   refine an_exit ?_
   refine ib_exit (by kernel_rfl) ?_
   refine ib_same ?_
   refine an ?_
   refine xw_seq ?_
   refine rg [] 4 ⟨[(5, .i 7), (9, .u (ldw xs ys (a + 1))), (7, .f), (6, .u 0), (4, .p 2), (3, .p 1), (2, .p 0)], [(2, .cells (mr W xs ys [.i s, .i b, .i l, .i p, .i q]) 31), (1, .cells [.u a, .i i] 56), (0, .cells (mr W xs ys [.i s, .i b, .i l, .i p, .i q]) 31)], 3⟩ [True, True] ⟨trivial, trivial, trivial⟩ ?_
   refine xw_ret ?_
   refine an_ret ?_
   refine ib_ret ?_
   refine an_ret ?_
   exact bs (.tup [.agg (mr W xs ys [.i s, .i b, .i l, .i p, .i q]), .i 7]) (⟨7, (by omega), rfl⟩)
  ·
   by_cases h2 : ((oErr W xs ys a) = 0) ∧ ((ldw xs ys a / 72057594037927936) = 255)
   ·
    refine pc (oget_3 W xs ys a i ‹_› ‹_› ‹_› ‹_› ‹_› ‹_› ‹_› (by omega) (by omega)) ?_
    obtain ⟨h3, h4, h5⟩ := oErr_ok W xs ys a (by omega)
    refine rk [] 7 7 ⟨[(8, .i 8), (7, .f), (6, .u 0), (5, .i 0), (4, .p 2), (3, .p 1), (2, .p 0)], [(2, .cells [.i 0, .nils, .nils, .i 0, .i 0, .i 0, .i 0, .i 0] 31), (1, .cells [.u a, .i i] 56), (0, .cells (mr W xs ys [.i s, .i b, .i l, .i p, .i q]) 31)], 3⟩ [] trivial ?_
    refine en ?_
    refine an ?_
    refine xw_seq ?_
    refine reg ?_
    refine rk [] 4 0 ⟨[(26, .u a), (24, .agg (mm W xs ys)), (8, .i 8), (7, .f), (6, .u 0), (5, .i 0), (4, .p 2), (3, .p 1), (2, .p 0)], [(2, .cells [.i 0, .nils, .nils, .i 0, .i 0, .i 0, .i 0, .i 0] 31), (1, .cells [.u a, .i i] 56), (0, .cells (mr W xs ys [.i s, .i b, .i l, .i p, .i q]) 31)], 3⟩ [True, True] ⟨trivial, trivial, trivial⟩ ?_
    refine pc (otwin_2 W xs ys a ‹_› ‹_› ‹_› ‹_› ‹_› ‹_› (by omega) (by omega)) ?_
    refine rk [] 5 5 ⟨[(9, .u 0), (8, .i 8), (7, .f), (6, .u 0), (5, .i 0), (4, .p 2), (3, .p 1), (2, .p 0)], [(2, .cells [.i 0, .nils, .nils, .i 0, .i 0, .i 0, .i 0, .i 0] 31), (1, .cells [.u a, .i i] 56), (0, .cells (mr W xs ys [.i s, .i b, .i l, .i p, .i q]) 31)], 3⟩ [] trivial ?_
    refine en ?_
    refine an ?_
    refine xw_seq ?_
    refine xw_block ?_
    refine xw_seq ?_
    refine xw_block ?_
    refine xw_block ?_
    refine xw_seq ?_
    refine xw_seq ?_
    refine rg [(1, .f)] 13 ⟨[(30, .f), (9, .u 0), (8, .i 8), (7, .f), (6, .u 0), (5, .i 0), (4, .p 2), (3, .p 1), (2, .p 0)], [(2, .cells [.i 0, .nils, .nils, .i 0, .i 0, .i 0, .i 0, .i 0] 31), (1, .cells [.u a, .i i] 56), (0, .cells (mr W xs ys [.i s, .i b, .i l, .i p, .i q]) 31)], 3⟩ [(8 == 0) = false, True] ⟨beq_eq_false_iff_ne.2 (by omega), trivial, trivial⟩ ?_
    refine cf ?_
    refine xw_skip ?_
    refine an ?_
    refine rg [(1, .t)] 3 ⟨[(43, .t), (9, .u 0), (8, .i 8), (7, .f), (6, .u 0), (5, .i 0), (4, .p 2), (3, .p 1), (2, .p 0)], [(2, .cells [.i 0, .nils, .nils, .i 0, .i 0, .i 0, .i 0, .i 0] 31), (1, .cells [.u a, .i i] 56), (0, .cells (mr W xs ys [.i s, .i b, .i l, .i p, .i q]) 31)], 3⟩ [(8 != 0) = true] ⟨bne_iff_ne.2 (by omega), trivial⟩ ?_
    refine ct ?_
    refine xw_exit ?_
    refine an_exit ?_
    refine ib_exit (by kernel_rfl) ?_
    refine ib_same ?_
    refine an ?_
    refine xw_seq ?_
    refine rg [] 4 ⟨[(5, .i 8), (9, .u 0), (7, .f), (6, .u 0), (4, .p 2), (3, .p 1), (2, .p 0)], [(2, .cells (mr W xs ys [.i s, .i b, .i l, .i p, .i q]) 31), (1, .cells [.u a, .i i] 56), (0, .cells (mr W xs ys [.i s, .i b, .i l, .i p, .i q]) 31)], 3⟩ [True, True] ⟨trivial, trivial, trivial⟩ ?_
    refine xw_ret ?_
    refine an_ret ?_
    refine ib_ret ?_
    refine an_ret ?_
    exact bs (.tup [.agg (mr W xs ys [.i s, .i b, .i l, .i p, .i q]), .i 8]) (⟨8, (by omega), rfl⟩)
   ·
    refine pc (oget_4 W xs ys a i ‹_› ‹_› ‹_› ‹_› ‹_› ‹_› ‹_› (by omega)) ?_
    have h3 : (oErr W xs ys a) = 2 ∨ (oErr W xs ys a) = 10 := oErr_no W xs ys a (by omega)
    refine rk [] 7 7 ⟨[(8, .i (oErr W xs ys a)), (7, .f), (6, .u 0), (5, .i 0), (4, .p 2), (3, .p 1), (2, .p 0)], [(2, .cells [.i 0, .nils, .nils, .i 0, .i 0, .i 0, .i 0, .i 0] 31), (1, .cells [.u a, .i i] 56), (0, .cells (mr W xs ys [.i s, .i b, .i l, .i p, .i q]) 31)], 3⟩ [] trivial ?_
    refine en ?_
    refine an ?_
    refine xw_seq ?_
    refine reg ?_
    refine rk [] 4 0 ⟨[(26, .u a), (24, .agg (mm W xs ys)), (8, .i (oErr W xs ys a)), (7, .f), (6, .u 0), (5, .i 0), (4, .p 2), (3, .p 1), (2, .p 0)], [(2, .cells [.i 0, .nils, .nils, .i 0, .i 0, .i 0, .i 0, .i 0] 31), (1, .cells [.u a, .i i] 56), (0, .cells (mr W xs ys [.i s, .i b, .i l, .i p, .i q]) 31)], 3⟩ [True, True] ⟨trivial, trivial, trivial⟩ ?_
    refine pc (otwin_3 W xs ys a ‹_› ‹_› ‹_› ‹_› ‹_› ‹_› (by omega)) ?_
    refine rk [] 5 5 ⟨[(9, .u 0), (8, .i (oErr W xs ys a)), (7, .f), (6, .u 0), (5, .i 0), (4, .p 2), (3, .p 1), (2, .p 0)], [(2, .cells [.i 0, .nils, .nils, .i 0, .i 0, .i 0, .i 0, .i 0] 31), (1, .cells [.u a, .i i] 56), (0, .cells (mr W xs ys [.i s, .i b, .i l, .i p, .i q]) 31)], 3⟩ [] trivial ?_
    refine en ?_
    refine an ?_
    refine xw_seq ?_
    refine xw_block ?_
    refine xw_seq ?_
    refine xw_block ?_
    refine xw_block ?_
    refine xw_seq ?_
    refine xw_seq ?_
    refine rg [(1, .f)] 13 ⟨[(30, .f), (9, .u 0), (8, .i (oErr W xs ys a)), (7, .f), (6, .u 0), (5, .i 0), (4, .p 2), (3, .p 1), (2, .p 0)], [(2, .cells [.i 0, .nils, .nils, .i 0, .i 0, .i 0, .i 0, .i 0] 31), (1, .cells [.u a, .i i] 56), (0, .cells (mr W xs ys [.i s, .i b, .i l, .i p, .i q]) 31)], 3⟩ [((oErr W xs ys a) == 0) = false, True] ⟨beq_eq_false_iff_ne.2 (by omega), trivial, trivial⟩ ?_
    refine cf ?_
    refine xw_skip ?_
    refine an ?_
    refine rg [(1, .t)] 3 ⟨[(43, .t), (9, .u 0), (8, .i (oErr W xs ys a)), (7, .f), (6, .u 0), (5, .i 0), (4, .p 2), (3, .p 1), (2, .p 0)], [(2, .cells [.i 0, .nils, .nils, .i 0, .i 0, .i 0, .i 0, .i 0] 31), (1, .cells [.u a, .i i] 56), (0, .cells (mr W xs ys [.i s, .i b, .i l, .i p, .i q]) 31)], 3⟩ [((oErr W xs ys a) != 0) = true] ⟨bne_iff_ne.2 (by omega), trivial⟩ ?_
    refine ct ?_
    refine xw_exit ?_
    refine an_exit ?_
    refine ib_exit (by kernel_rfl) ?_
    refine ib_same ?_
    refine an ?_
    refine xw_seq ?_
    refine rg [] 4 ⟨[(5, .i (oErr W xs ys a)), (9, .u 0), (7, .f), (6, .u 0), (4, .p 2), (3, .p 1), (2, .p 0)], [(2, .cells (mr W xs ys [.i s, .i b, .i l, .i p, .i q]) 31), (1, .cells [.u a, .i i] 56), (0, .cells (mr W xs ys [.i s, .i b, .i l, .i p, .i q]) 31)], 3⟩ [True, True] ⟨trivial, trivial, trivial⟩ ?_
    refine xw_ret ?_
    refine an_ret ?_
    refine ib_ret ?_
    refine an_ret ?_
    exact bs (.tup [.agg (mr W xs ys [.i s, .i b, .i l, .i p, .i q]), .i (oErr W xs ys a)]) (⟨(oErr W xs ys a), (by omega), rfl⟩)

theorem clone0  : Pub Try.prog 39 [.nils] (fun rv => rv = .nils) := by
 refine pub_of TT_ok Try.func39 rfl (by decide) (Nat.le_of_ble_eq_true (by kernel_rfl)) (by kernel_rfl) ?_
 refine rg [] 1 ⟨[(2, .nils), (0, .nils)], [], 0⟩ [] trivial ?_
 refine xw_seq ?_
 refine rg [] 2 ⟨[(4, .t), (2, .nils), (0, .nils)], [], 0⟩ [True] ⟨trivial, trivial⟩ ?_
 refine ct ?_
 refine rg [] 1 ⟨[(2, .nils), (0, .nils)], [], 0⟩ [] trivial ?_
 refine xw_ret ?_
 refine an_ret ?_
 exact bs (.nils) rfl

theorem next0  : Pub Try.prog 40 [.nils] (fun rv => rv = .tup [.int .i64 0, .bool false]) := by
 refine pub_of TT_ok Try.func40 rfl (by decide) (Nat.le_of_ble_eq_true (by kernel_rfl)) (by kernel_rfl) ?_
 refine rg [] 2 ⟨[(3, .f), (2, .i 0), (0, .nils)], [], 0⟩ [] trivial ?_
 refine xw_scope_u 0 1 rfl ?_
 refine rg [] 2 ⟨[(5, .f), (4, .i 0), (3, .f), (2, .i 0), (0, .nils)], [], 0⟩ [] trivial ?_
 refine xw_seq ?_
 refine xw_label ?_
 refine an ?_
 refine xw_seq ?_
 refine rg [(1, .i 0)] 3 ⟨[(10, .i 0), (9, .i 0), (8, .nils), (5, .f), (4, .i 0), (3, .f), (2, .i 0), (0, .nils)], [], 0⟩ [(0 : Int) = 0] ⟨rfl, trivial⟩ ?_
 refine xw_block ?_
 refine xw_unroll 1 ?_
 refine ul_step ?_
 refine rg [(0, .f)] 1 ⟨[(11, .f), (10, .i 0), (9, .i 0), (8, .nils), (5, .f), (4, .i 0), (3, .f), (2, .i 0), (0, .nils)], [], 0⟩ [(decide (0 < 0)) = false] ⟨decide_eq_false (by omega), trivial⟩ ?_
 refine xw_seq ?_
 refine cf ?_
 refine xw_exit ?_
 refine an_exit ?_
 refine agu_exit ?_
 refine ib_same ?_
 refine an ?_
 refine rg [] 4 ⟨[(3, .f), (2, .i 0), (5, .f), (4, .i 0), (0, .nils)], [], 0⟩ [] trivial ?_
 refine xw_ret ?_
 refine juu_ret ?_
 exact bs (.tup [.i 0, .f]) rfl

theorem all0 (W : Int) (xs : List Int) (ys : List Int) (s : Int) (b : Int) (l : Int) (p : Int) (q : Int) (hp0 : 16 ≤ W ∧ W ≤ 4096) (hp1 : (xs.length : Int) = W) (hp2 : (ys.length : Int) = W) (hp3 : U64s xs) (hp4 : U64s ys) (hp5 : (s = 0 ∨ s = 1) ∧ 0 ≤ b ∧ b ≤ l ∧ l ≤ 4096) (hp6 : l = W) (hp7 : 0 ≤ p ∧ p ≤ q ∧ q ≤ b) : Pub Try.prog 42 [.agg (mr W xs ys [.int .i64 s, .int .i64 b, .int .i64 l, .int .i64 p, .int .i64 q]), .nils] (fun rv => rv = .tup [.agg (mr W xs ys [.int .i64 s, .int .i64 b, .int .i64 l, .int .i64 p, .int .i64 q]), .int .i64 0, .int .i64 0]) := by
 refine pub_of TT_ok Try.func42 rfl (by decide) (Nat.le_of_ble_eq_true (by kernel_rfl)) (by kernel_rfl) ?_
 refine rg [] 4 ⟨[(6, .i 0), (5, .i 0), (4, .p 1), (2, .p 0), (1, .nils)], [(1, .cells [.i 0, .nils, .nils, .i 0, .i 0, .i 0, .i 0, .i 0] 31), (0, .cells (mr W xs ys [.i s, .i b, .i l, .i p, .i q]) 31)], 2⟩ [] trivial ?_
 refine xw_scope_u 0 1 rfl ?_
 refine rg [] 1 ⟨[(7, .i 0), (6, .i 0), (5, .i 0), (4, .p 1), (2, .p 0), (1, .nils)], [(1, .cells [.i 0, .nils, .nils, .i 0, .i 0, .i 0, .i 0, .i 0] 31), (0, .cells (mr W xs ys [.i s, .i b, .i l, .i p, .i q]) 31)], 2⟩ [] trivial ?_
 refine xw_seq ?_
 refine xw_label ?_
 refine an ?_
 refine xw_seq ?_
 refine rg [(2, .i 0), (3, .t)] 4 ⟨[(13, .t), (7, .i 0), (6, .i 0), (5, .i 0), (4, .p 1), (2, .p 0), (1, .nils)], [(1, .cells [.i 0, .nils, .nils, .i 0, .i 0, .i 0, .i 0, .i 0] 31), (0, .cells (mr W xs ys [.i s, .i b, .i l, .i p, .i q]) 31)], 2⟩ [(0 : Int) = 0, (decide (0 ≤ 0)) = true] ⟨rfl, decide_eq_true (by omega), trivial⟩ ?_
 refine ct ?_
 refine rg [] 5 ⟨[(6, .i 0), (5, .i 0), (7, .i 0), (4, .p 1), (2, .p 0), (1, .nils)], [(1, .cells (mr W xs ys [.i s, .i b, .i l, .i p, .i q]) 31), (0, .cells (mr W xs ys [.i s, .i b, .i l, .i p, .i q]) 31)], 2⟩ [True, True] ⟨trivial, trivial, trivial⟩ ?_
 refine xw_ret ?_
 refine an_ret ?_
 refine juu_ret ?_
 exact bs (.tup [.agg (mr W xs ys [.i s, .i b, .i l, .i p, .i q]), .i 0, .i 0]) rfl

theorem all1 (W : Int) (xs : List Int) (ys : List Int) (s : Int) (b : Int) (l : Int) (p : Int) (q : Int) (hp0 : 16 ≤ W ∧ W ≤ 4096) (hp1 : (xs.length : Int) = W) (hp2 : (ys.length : Int) = W) (hp3 : U64s xs) (hp4 : U64s ys) (hp5 : (s = 0 ∨ s = 1) ∧ 0 ≤ b ∧ b ≤ l ∧ l ≤ 4096) (hp6 : l = W) (hp7 : 0 ≤ p ∧ p ≤ q ∧ q ≤ b) : Pub Try.prog 18 [.agg (mr W xs ys [.int .i64 s, .int .i64 b, .int .i64 l, .int .i64 p, .int .i64 q]), .nils] (fun rv => rv = .tup [.agg (mr W xs ys [.int .i64 s, .int .i64 b, .int .i64 l, .int .i64 p, .int .i64 q]), .int .i64 0, .int .i64 0]) := by
 refine pub_of TT_ok Try.func18 rfl (by decide) (Nat.le_of_ble_eq_true (by kernel_rfl)) (by kernel_rfl) ?_
 refine rg [] 4 ⟨[(6, .i 0), (5, .i 0), (4, .p 1), (2, .p 0), (1, .nils)], [(1, .cells [.i 0, .nils, .nils, .i 0, .i 0, .i 0, .i 0, .i 0] 31), (0, .cells (mr W xs ys [.i s, .i b, .i l, .i p, .i q]) 31)], 2⟩ [] trivial ?_
 refine xw_seq ?_
 refine reg ?_
 refine rk [] 2 0 ⟨[(8, .nils), (7, .agg (mr W xs ys [.i s, .i b, .i l, .i p, .i q])), (6, .i 0), (5, .i 0), (4, .p 1)], [(1, .cells [.i 0, .nils, .nils, .i 0, .i 0, .i 0, .i 0, .i 0] 31)], 2⟩ [True] ⟨trivial, trivial⟩ ?_
 refine pc (all0 W xs ys s b l p q ‹_› ‹_› ‹_› ‹_› ‹_› ‹_› ‹_› ‹_›) ?_
 refine rk [] 6 3 ⟨[(6, .i 0), (5, .i 0), (4, .p 1)], [(1, .cells (mr W xs ys [.i s, .i b, .i l, .i p, .i q]) 31)], 2⟩ [True] ⟨trivial, trivial⟩ ?_
 refine en ?_
 refine an ?_
 refine xw_ret ?_
 exact bs (.tup [.agg (mr W xs ys [.i s, .i b, .i l, .i p, .i q]), .i 0, .i 0]) rfl

theorem logs0 (W : Int) (xs : List Int) (ys : List Int) (s : Int) (b : Int) (l : Int) (p : Int) (q : Int) (hp0 : 16 ≤ W ∧ W ≤ 4096) (hp1 : (xs.length : Int) = W) (hp2 : (ys.length : Int) = W) (hp3 : U64s xs) (hp4 : U64s ys) (hp5 : (s = 0 ∨ s = 1) ∧ 0 ≤ b ∧ b ≤ l ∧ l ≤ 4096) (hp6 : l = W) (hp7 : 0 ≤ p ∧ p ≤ q ∧ q ≤ b) : Pub Try.prog 16 [.agg (mr W xs ys [.int .i64 s, .int .i64 b, .int .i64 l, .int .i64 p, .int .i64 q]), .nils] (fun rv => rv = .tup [.agg (mr W xs ys [.int .i64 s, .int .i64 b, .int .i64 l, .int .i64 p, .int .i64 q]), .nils, .int .i64 0]) := by
 refine pub_of TT_ok Try.func16 rfl (by decide) (Nat.le_of_ble_eq_true (by kernel_rfl)) (by kernel_rfl) ?_
 refine rg [] 4 ⟨[(6, .i 0), (5, .nils), (4, .p 1), (2, .p 0), (1, .nils)], [(1, .cells [.i 0, .nils, .nils, .i 0, .i 0, .i 0, .i 0, .i 0] 31), (0, .cells (mr W xs ys [.i s, .i b, .i l, .i p, .i q]) 31)], 2⟩ [] trivial ?_
 refine xw_seq ?_
 refine reg ?_
 refine rk [] 1 0 ⟨[(15, .nils), (6, .i 0), (5, .nils), (4, .p 1), (2, .p 0), (1, .nils)], [(1, .cells [.i 0, .nils, .nils, .i 0, .i 0, .i 0, .i 0, .i 0] 31), (0, .cells (mr W xs ys [.i s, .i b, .i l, .i p, .i q]) 31)], 2⟩ [] trivial ?_
 refine pc (clone0 ) ?_
 refine rk [] 1 2 ⟨[(1, .nils), (6, .i 0), (5, .nils), (4, .p 1), (2, .p 0)], [(1, .cells [.i 0, .nils, .nils, .i 0, .i 0, .i 0, .i 0, .i 0] 31), (0, .cells (mr W xs ys [.i s, .i b, .i l, .i p, .i q]) 31)], 2⟩ [] trivial ?_
 refine en ?_
 refine an ?_
 refine xw_block ?_
 refine xw_unroll 1 ?_
 refine ul_step ?_
 refine xw_block ?_
 refine xw_seq ?_
 refine reg ?_
 refine rk [] 1 0 ⟨[(18, .nils), (1, .nils), (6, .i 0), (5, .nils), (4, .p 1), (2, .p 0)], [(1, .cells [.i 0, .nils, .nils, .i 0, .i 0, .i 0, .i 0, .i 0] 31), (0, .cells (mr W xs ys [.i s, .i b, .i l, .i p, .i q]) 31)], 2⟩ [] trivial ?_
 refine pc (next0 ) ?_
 refine rk [] 5 2 ⟨[(8, .f), (7, .i 0), (1, .nils), (6, .i 0), (5, .nils), (4, .p 1), (2, .p 0)], [(1, .cells [.i 0, .nils, .nils, .i 0, .i 0, .i 0, .i 0, .i 0] 31), (0, .cells (mr W xs ys [.i s, .i b, .i l, .i p, .i q]) 31)], 2⟩ [] trivial ?_
 refine en ?_
 refine an ?_
 refine xw_seq ?_
 refine rg [] 2 ⟨[(23, .t), (7, .i 0), (1, .nils), (6, .i 0), (5, .nils), (4, .p 1), (2, .p 0)], [(1, .cells [.i 0, .nils, .nils, .i 0, .i 0, .i 0, .i 0, .i 0] 31), (0, .cells (mr W xs ys [.i s, .i b, .i l, .i p, .i q]) 31)], 2⟩ [] trivial ?_
 refine ct ?_
 refine rg [] 5 ⟨[(6, .i 0), (5, .nils), (7, .i 0), (1, .nils), (4, .p 1), (2, .p 0)], [(1, .cells (mr W xs ys [.i s, .i b, .i l, .i p, .i q]) 31), (0, .cells (mr W xs ys [.i s, .i b, .i l, .i p, .i q]) 31)], 2⟩ [True, True] ⟨trivial, trivial, trivial⟩ ?_
 refine xw_ret ?_
 refine an_ret ?_
 refine ib_ret ?_
 refine agu_ret ?_
 refine ib_ret ?_
 exact bs (.tup [.agg (mr W xs ys [.i s, .i b, .i l, .i p, .i q]), .nils, .i 0]) rfl

end Go.Proofs.Ytkiaoafmlekndaa.X
