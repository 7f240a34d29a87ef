/- Contracts of Go functions: what each returns, for every input that its premises name; no memory of the caller is touched. Printed by a program. -/
import Derived.Test.YtcjcljbhjkedgaaXc5
import Derived.Test.YtcjcljbhjkedgaaXq3
namespace Go.Proofs.Ytcjcljbhjkedgaa.X
open Go Go.RowKit
set_option linter.unusedVariables false      -- a premise may serve only to tell which way is taken
set_option linter.unusedSimpArgs false
set_option maxHeartbeats 8000000 in
theorem objectTwins (W : Int) (xs : List Int) (ys : List Int) (a : Int) (b : Int) (n : Int) (hp0 : -9223372036854775808 ≤ W ∧ W ≤ 9223372036854775807) (hp1 : U64s xs) (hp2 : U64s ys) (hp3 : 0 ≤ a ∧ a ≤ 18446744073709551615) (hp4 : 0 ≤ b ∧ b ≤ 18446744073709551615) (hp5 : -9223372036854775808 ≤ n ∧ n ≤ 9223372036854775807) : Pub Try.prog 7 [.agg (mm W xs ys ++ [.int .u64 a, .int .u64 b, .int .i64 n])] (fun rv => rv = .bool true) := by
 refine pub_of TT_ok Try.func7 rfl (by decide) (Nat.le_of_ble_eq_true (by kernel_rfl)) (by kernel_rfl) ?_
 refine rg [] 2 ⟨[(2, .f), (1, .p 0)], [(0, .cells (mm W xs ys ++ [.u a, .u b, .i n]) 63)], 1⟩ [] trivial ?_
 refine rg [] 4 ⟨[(3, .p 1), (2, .f), (1, .p 0)], [(1, .cells (mm W xs ys) 25), (0, .cells (mm W xs ys ++ [.u a, .u b, .i n]) 63)], 2⟩ [True, True] ⟨trivial, trivial, trivial⟩ ?_
 refine rg [] 3 ⟨[(4, .u a), (3, .p 1), (2, .f), (1, .p 0)], [(1, .cells (mm W xs ys) 25), (0, .cells (mm W xs ys ++ [.u a, .u b, .i n]) 63)], 2⟩ [True] ⟨trivial, trivial⟩ ?_
 refine rg [] 3 ⟨[(5, .u b), (4, .u a), (3, .p 1), (2, .f), (1, .p 0)], [(1, .cells (mm W xs ys) 25), (0, .cells (mm W xs ys ++ [.u a, .u b, .i n]) 63)], 2⟩ [True] ⟨trivial, trivial⟩ ?_
 refine rg [] 3 ⟨[(6, .i n), (5, .u b), (4, .u a), (3, .p 1), (2, .f)], [(1, .cells (mm W xs ys) 25)], 2⟩ [True] ⟨trivial, trivial⟩ ?_
 refine xw_seq ?_
 refine reg ?_
 refine pc (shown5 ) ?_
 refine rk [] 1 1 ⟨[(7, .t), (6, .i n), (5, .u b), (4, .u a), (3, .p 1), (2, .f)], [(1, .cells (mm W xs ys) 25)], 2⟩ [] trivial ?_
 refine en ?_
 refine an ?_
 refine xw_seq ?_
 refine reg ?_
 refine rk [] 1 0 ⟨[(33, .agg (mm W xs ys)), (7, .t), (6, .i n), (5, .u b), (4, .u a), (3, .p 1), (2, .f)], [(1, .cells (mm W xs ys) 25)], 2⟩ [True] ⟨trivial, trivial⟩ ?_
 by_cases h0 : 16 ≤ W ∧ W ≤ 200 ∧ (xs.length : Int) = W ∧ (ys.length : Int) = W
 ·
  refine pc (few5_1 W xs ys ‹_› ‹_›) ?_
  refine rk [] 1 2 ⟨[(8, .t), (7, .t), (6, .i n), (5, .u b), (4, .u a), (3, .p 1), (2, .f)], [(1, .cells (mm W xs ys) 25)], 2⟩ [] trivial ?_
  refine en ?_
  refine an ?_
  refine xw_seq ?_
  refine rg [] 2 ⟨[(36, .f), (7, .t), (6, .i n), (5, .u b), (4, .u a), (3, .p 1), (2, .f)], [(1, .cells (mm W xs ys) 25)], 2⟩ [] trivial ?_
  refine cf ?_
  refine xw_skip ?_
  refine an ?_
  refine xw_seq ?_
  refine reg ?_
  refine rk [] 2 0 ⟨[(40, .u a), (39, .agg (mm W xs ys)), (7, .t), (6, .i n), (5, .u b), (4, .u a), (3, .p 1), (2, .f)], [(1, .cells (mm W xs ys) 25)], 2⟩ [True] ⟨trivial, trivial⟩ ?_
  by_cases h1 : ((oErr W xs ys a) = 0) ∧ ((ldw xs ys a / 72057594037927936) ≠ 255)
  ·
   refine pc (otwin_1 W xs ys a (by omega) (by omega) (by omega) ‹_› ‹_› ‹_› (by omega) (by omega)) ?_
   obtain ⟨h2, h3, h4⟩ := oErr_ok W xs ys a (by omega)
   have h5 : 0 ≤ (ldw xs ys (a + 1)) ∧ (ldw xs ys (a + 1)) ≤ 18446744073709551615 := ldw_ok xs ys (a + 1) ‹_› ‹_›
   have h6 : 1 ≤ (a + 1) / 4294967296 ∧ (a + 1) / 4294967296 ≤ 2 ∧ (a + 1) % 4294967296 < W := by omega
   refine rk [] 5 3 ⟨[(10, .i 0), (9, .u (ldw xs ys (a + 1))), (7, .t), (6, .i n), (5, .u b), (4, .u a), (3, .p 1), (2, .f)], [(1, .cells (mm W xs ys) 25)], 2⟩ [] trivial ?_
   refine en ?_
   refine an ?_
   refine xw_seq ?_
   refine reg ?_
   refine rk [] 2 0 ⟨[(46, .u a), (45, .agg (mm W xs ys)), (10, .i 0), (9, .u (ldw xs ys (a + 1))), (7, .t), (6, .i n), (5, .u b), (4, .u a), (3, .p 1), (2, .f)], [(1, .cells (mm W xs ys) 25)], 2⟩ [True] ⟨trivial, trivial⟩ ?_
   refine pc (rotwin_1 W xs ys a (by omega) (by omega) (by omega) ‹_› ‹_› ‹_› (by omega) (by omega)) ?_
   obtain ⟨h7, h8, h9⟩ := oErr_ok W xs ys a (by omega)
   have h10 : 0 ≤ (ldw xs ys (a + 1)) ∧ (ldw xs ys (a + 1)) ≤ 18446744073709551615 := ldw_ok xs ys (a + 1) ‹_› ‹_›
   have h11 : 1 ≤ (a + 1) / 4294967296 ∧ (a + 1) / 4294967296 ≤ 2 ∧ (a + 1) % 4294967296 < W := by omega
   refine rk [] 5 3 ⟨[(12, .i 0), (11, .u (ldw xs ys (a + 1))), (10, .i 0), (9, .u (ldw xs ys (a + 1))), (7, .t), (6, .i n), (5, .u b), (4, .u a), (3, .p 1), (2, .f)], [(1, .cells (mm W xs ys) 25)], 2⟩ [] trivial ?_
   refine en ?_
   refine an ?_
   refine xw_seq ?_
   refine reg ?_
   refine rk [] 3 0 ⟨[(53, .u b), (52, .u a), (51, .agg (mm W xs ys)), (12, .i 0), (11, .u (ldw xs ys (a + 1))), (10, .i 0), (9, .u (ldw xs ys (a + 1))), (7, .t), (6, .i n), (5, .u b), (4, .u a), (3, .p 1), (2, .f)], [(1, .cells (mm W xs ys) 25)], 2⟩ [True] ⟨trivial, trivial⟩ ?_
   by_cases h12 : (ldw xs ys (a + 1)) = 0
   ·
    refine pc (ojoin_1 W xs ys a b (by omega) (by omega) (by omega) ‹_› ‹_› ‹_› ‹_› (by omega) (by omega) ‹_›) ?_
    obtain ⟨h13, h14, h15⟩ := oErr_ok W xs ys a (by omega)
    have h16 : 1 ≤ (a + 1) / 4294967296 ∧ (a + 1) / 4294967296 ≤ 2 ∧ (a + 1) % 4294967296 < W := by omega
    obtain ⟨h17, h18, h19, h20⟩ := stx_ok W xs ys (a + 1) b (by omega) (by omega) ‹_› ‹_› (by omega)
    refine rk [] 8 4 ⟨[(15, .i 0), (14, .t), (13, .p 2), (12, .i 0), (11, .u (ldw xs ys (a + 1))), (10, .i 0), (9, .u (ldw xs ys (a + 1))), (7, .t), (6, .i n), (5, .u b), (4, .u a), (3, .p 1), (2, .f)], [(2, .cells (mm W (stx xs (a + 1) b) (sty ys (a + 1) b)) 25), (1, .cells (mm W xs ys) 25)], 3⟩ [True] ⟨trivial, trivial⟩ ?_
    refine en ?_
    refine an ?_
    refine xw_seq ?_
    refine reg ?_
    refine rk [] 3 0 ⟨[(61, .u b), (60, .u a), (59, .agg (mm W xs ys)), (15, .i 0), (14, .t), (13, .p 2), (12, .i 0), (11, .u (ldw xs ys (a + 1))), (10, .i 0), (9, .u (ldw xs ys (a + 1))), (7, .t), (6, .i n), (4, .u a), (3, .p 1), (2, .f)], [(2, .cells (mm W (stx xs (a + 1) b) (sty ys (a + 1) b)) 25), (1, .cells (mm W xs ys) 25)], 3⟩ [True] ⟨trivial, trivial⟩ ?_
    refine pc (rojoin_1 W xs ys a b (by omega) (by omega) (by omega) ‹_› ‹_› ‹_› ‹_› (by omega) (by omega) ‹_›) ?_
    obtain ⟨h21, h22, h23⟩ := oErr_ok W xs ys a (by omega)
    have h24 : 1 ≤ (a + 1) / 4294967296 ∧ (a + 1) / 4294967296 ≤ 2 ∧ (a + 1) % 4294967296 < W := by omega
    obtain ⟨h25, h26, h27, h28⟩ := stx_ok W xs ys (a + 1) b (by omega) (by omega) ‹_› ‹_› (by omega)
    refine rk [] 8 4 ⟨[(18, .i 0), (17, .t), (16, .p 3), (15, .i 0), (14, .t), (13, .p 2), (12, .i 0), (11, .u (ldw xs ys (a + 1))), (10, .i 0), (9, .u (ldw xs ys (a + 1))), (7, .t), (6, .i n), (4, .u a), (3, .p 1), (2, .f)], [(3, .cells (mm W (stx xs (a + 1) b) (sty ys (a + 1) b)) 25), (2, .cells (mm W (stx xs (a + 1) b) (sty ys (a + 1) b)) 25), (1, .cells (mm W xs ys) 25)], 4⟩ [True] ⟨trivial, trivial⟩ ?_
    refine en ?_
    refine an ?_
    refine xw_seq ?_
    refine reg ?_
    refine rk [] 3 0 ⟨[(69, .i n), (68, .u a), (67, .agg (mm W xs ys)), (18, .i 0), (17, .t), (16, .p 3), (15, .i 0), (14, .t), (13, .p 2), (12, .i 0), (11, .u (ldw xs ys (a + 1))), (10, .i 0), (9, .u (ldw xs ys (a + 1))), (7, .t), (6, .i n), (4, .u a), (3, .p 1), (2, .f)], [(3, .cells (mm W (stx xs (a + 1) b) (sty ys (a + 1) b)) 25), (2, .cells (mm W (stx xs (a + 1) b) (sty ys (a + 1) b)) 25), (1, .cells (mm W xs ys) 25)], 4⟩ [True] ⟨trivial, trivial⟩ ?_
    by_cases h29 : (1 ≤ n ∧ n ≤ 65536) ∧ ((a % 4294967296) + n ≤ W)
    ·
     refine pc (ofill_1 W xs ys a n (by omega) (by omega) (by omega) ‹_› ‹_› ‹_› ‹_› (by omega) (by omega) (by omega)) ?_
     obtain ⟨h30, h31, h32, h33, h34, h35⟩ := fill_ok W xs ys a n (by omega) (by omega) ‹_› ‹_› (by omega) (by omega) (by omega) (by omega)
     refine rk [] 6 4 ⟨[(20, .i 0), (19, .p 4), (18, .i 0), (17, .t), (16, .p 3), (15, .i 0), (14, .t), (13, .p 2), (12, .i 0), (11, .u (ldw xs ys (a + 1))), (10, .i 0), (9, .u (ldw xs ys (a + 1))), (7, .t), (6, .i n), (4, .u a), (3, .p 1), (2, .f)], [(4, .cells (mm W (px xs a 255 (n - 1) 0) (py ys a 255 (n - 1) 0)) 25), (3, .cells (mm W (stx xs (a + 1) b) (sty ys (a + 1) b)) 25), (2, .cells (mm W (stx xs (a + 1) b) (sty ys (a + 1) b)) 25), (1, .cells (mm W xs ys) 25)], 5⟩ [True] ⟨trivial, trivial⟩ ?_
     refine en ?_
     refine an ?_
     refine xw_seq ?_
     refine reg ?_
     refine rk [] 3 0 ⟨[(76, .i n), (75, .u a), (74, .agg (mm W xs ys)), (20, .i 0), (19, .p 4), (18, .i 0), (17, .t), (16, .p 3), (15, .i 0), (14, .t), (13, .p 2), (12, .i 0), (11, .u (ldw xs ys (a + 1))), (10, .i 0), (9, .u (ldw xs ys (a + 1))), (7, .t), (2, .f)], [(4, .cells (mm W (px xs a 255 (n - 1) 0) (py ys a 255 (n - 1) 0)) 25), (3, .cells (mm W (stx xs (a + 1) b) (sty ys (a + 1) b)) 25), (2, .cells (mm W (stx xs (a + 1) b) (sty ys (a + 1) b)) 25)], 5⟩ [True] ⟨trivial, trivial⟩ ?_
     refine pc (rofill_1 W xs ys a n (by omega) (by omega) (by omega) ‹_› ‹_› ‹_› ‹_› (by omega) (by omega) (by omega)) ?_
     obtain ⟨h36, h37, h38, h39, h40, h41⟩ := fill_ok W xs ys a n (by omega) (by omega) ‹_› ‹_› (by omega) (by omega) (by omega) (by omega)
     refine rk [] 6 4 ⟨[(22, .i 0), (21, .p 5), (20, .i 0), (19, .p 4), (18, .i 0), (17, .t), (16, .p 3), (15, .i 0), (14, .t), (13, .p 2), (12, .i 0), (11, .u (ldw xs ys (a + 1))), (10, .i 0), (9, .u (ldw xs ys (a + 1))), (7, .t), (2, .f)], [(5, .cells (mm W (px xs a 255 (n - 1) 0) (py ys a 255 (n - 1) 0)) 25), (4, .cells (mm W (px xs a 255 (n - 1) 0) (py ys a 255 (n - 1) 0)) 25), (3, .cells (mm W (stx xs (a + 1) b) (sty ys (a + 1) b)) 25), (2, .cells (mm W (stx xs (a + 1) b) (sty ys (a + 1) b)) 25)], 6⟩ [True] ⟨trivial, trivial⟩ ?_
     refine en ?_
     refine an ?_
     refine xw_seq ?_
     refine reg ?_
     refine rk [] 2 0 ⟨[(81, .agg (mm W (stx xs (a + 1) b) (sty ys (a + 1) b))), (80, .agg (mm W (stx xs (a + 1) b) (sty ys (a + 1) b))), (22, .i 0), (21, .p 5), (20, .i 0), (19, .p 4), (18, .i 0), (17, .t), (15, .i 0), (14, .t), (12, .i 0), (11, .u (ldw xs ys (a + 1))), (10, .i 0), (9, .u (ldw xs ys (a + 1))), (7, .t), (2, .f)], [(5, .cells (mm W (px xs a 255 (n - 1) 0) (py ys a 255 (n - 1) 0)) 25), (4, .cells (mm W (px xs a 255 (n - 1) 0) (py ys a 255 (n - 1) 0)) 25)], 6⟩ [True, True] ⟨trivial, trivial, trivial⟩ ?_
     refine pc (rsame_1 W (stx xs (a + 1) b) (sty ys (a + 1) b) W (stx xs (a + 1) b) (sty ys (a + 1) b) ‹_› ‹_› ‹_› ‹_› (by omega) (by omega) (by omega) (by omega) ‹_› ‹_› ⟨rfl, rfl, rfl⟩) ?_
     refine rk [] 3 3 ⟨[(85, .agg (mm W (px xs a 255 (n - 1) 0) (py ys a 255 (n - 1) 0))), (84, .agg (mm W (px xs a 255 (n - 1) 0) (py ys a 255 (n - 1) 0))), (83, .t), (22, .i 0), (20, .i 0), (18, .i 0), (17, .t), (15, .i 0), (14, .t), (12, .i 0), (11, .u (ldw xs ys (a + 1))), (10, .i 0), (9, .u (ldw xs ys (a + 1))), (7, .t), (2, .f)], [], 6⟩ [True, True] ⟨trivial, trivial, trivial⟩ ?_
     refine pc (rsame_1 W (px xs a 255 (n - 1) 0) (py ys a 255 (n - 1) 0) W (px xs a 255 (n - 1) 0) (py ys a 255 (n - 1) 0) ‹_› ‹_› ‹_› ‹_› (by omega) (by omega) (by omega) (by omega) ‹_› ‹_› ⟨rfl, rfl, rfl⟩) ?_
     refine rk [] 2 7 ⟨[(23, .t), (22, .i 0), (20, .i 0), (18, .i 0), (17, .t), (15, .i 0), (14, .t), (12, .i 0), (11, .u (ldw xs ys (a + 1))), (10, .i 0), (9, .u (ldw xs ys (a + 1))), (7, .t), (2, .f)], [], 6⟩ [True] ⟨trivial, trivial⟩ ?_
     refine en ?_
     refine an ?_
     refine rg [(7, .t), (12, .t), (17, .t), (22, .t), (27, .t)] 30 ⟨[(2, .t)], [], 6⟩ [True, ((ldw xs ys (a + 1)) == (ldw xs ys (a + 1))) = true, True, (0 == 0) = true, True, (true == true) = true, True, (0 == 0) = true, True, (0 == 0) = true, True] ⟨trivial, beq_iff_eq.2 (by omega), trivial, beq_iff_eq.2 (by omega), trivial, rfl, trivial, beq_iff_eq.2 (by omega), trivial, beq_iff_eq.2 (by omega), trivial, trivial⟩ ?_
     refine xw_ret ?_
     exact bs (.t) rfl
    ·
     by_cases h30 : (1 ≤ n ∧ n ≤ 65536) ∧ (¬ ((1 ≤ a / 4294967296 ∧ a / 4294967296 ≤ 2 ∧ a % 4294967296 < W) ∧ (a % 4294967296) + n ≤ W))
     ·
      refine pc (ofill_2 W xs ys a n (by omega) (by omega) (by omega) ‹_› ‹_› ‹_› ‹_› (by omega) (by omega)) ?_
      refine rk [] 6 4 ⟨[(20, .i 2), (19, .p 4), (18, .i 0), (17, .t), (16, .p 3), (15, .i 0), (14, .t), (13, .p 2), (12, .i 0), (11, .u (ldw xs ys (a + 1))), (10, .i 0), (9, .u (ldw xs ys (a + 1))), (7, .t), (6, .i n), (4, .u a), (3, .p 1), (2, .f)], [(4, .cells (mm W xs ys) 25), (3, .cells (mm W (stx xs (a + 1) b) (sty ys (a + 1) b)) 25), (2, .cells (mm W (stx xs (a + 1) b) (sty ys (a + 1) b)) 25), (1, .cells (mm W xs ys) 25)], 5⟩ [True] ⟨trivial, trivial⟩ ?_
      refine en ?_
      refine an ?_
      refine xw_seq ?_
      refine reg ?_
      refine rk [] 3 0 ⟨[(76, .i n), (75, .u a), (74, .agg (mm W xs ys)), (20, .i 2), (19, .p 4), (18, .i 0), (17, .t), (16, .p 3), (15, .i 0), (14, .t), (13, .p 2), (12, .i 0), (11, .u (ldw xs ys (a + 1))), (10, .i 0), (9, .u (ldw xs ys (a + 1))), (7, .t), (2, .f)], [(4, .cells (mm W xs ys) 25), (3, .cells (mm W (stx xs (a + 1) b) (sty ys (a + 1) b)) 25), (2, .cells (mm W (stx xs (a + 1) b) (sty ys (a + 1) b)) 25)], 5⟩ [True] ⟨trivial, trivial⟩ ?_
      refine pc (rofill_2 W xs ys a n (by omega) (by omega) (by omega) ‹_› ‹_› ‹_› ‹_› (by omega) (by omega)) ?_
      refine rk [] 6 4 ⟨[(22, .i 2), (21, .p 5), (20, .i 2), (19, .p 4), (18, .i 0), (17, .t), (16, .p 3), (15, .i 0), (14, .t), (13, .p 2), (12, .i 0), (11, .u (ldw xs ys (a + 1))), (10, .i 0), (9, .u (ldw xs ys (a + 1))), (7, .t), (2, .f)], [(5, .cells (mm W xs ys) 25), (4, .cells (mm W xs ys) 25), (3, .cells (mm W (stx xs (a + 1) b) (sty ys (a + 1) b)) 25), (2, .cells (mm W (stx xs (a + 1) b) (sty ys (a + 1) b)) 25)], 6⟩ [True] ⟨trivial, trivial⟩ ?_
      refine en ?_
      refine an ?_
      refine xw_seq ?_
      refine reg ?_
      refine rk [] 2 0 ⟨[(81, .agg (mm W (stx xs (a + 1) b) (sty ys (a + 1) b))), (80, .agg (mm W (stx xs (a + 1) b) (sty ys (a + 1) b))), (22, .i 2), (21, .p 5), (20, .i 2), (19, .p 4), (18, .i 0), (17, .t), (15, .i 0), (14, .t), (12, .i 0), (11, .u (ldw xs ys (a + 1))), (10, .i 0), (9, .u (ldw xs ys (a + 1))), (7, .t), (2, .f)], [(5, .cells (mm W xs ys) 25), (4, .cells (mm W xs ys) 25)], 6⟩ [True, True] ⟨trivial, trivial, trivial⟩ ?_
      refine pc (rsame_1 W (stx xs (a + 1) b) (sty ys (a + 1) b) W (stx xs (a + 1) b) (sty ys (a + 1) b) ‹_› ‹_› ‹_› ‹_› (by omega) (by omega) (by omega) (by omega) ‹_› ‹_› ⟨rfl, rfl, rfl⟩) ?_
      refine rk [] 3 3 ⟨[(85, .agg (mm W xs ys)), (84, .agg (mm W xs ys)), (83, .t), (22, .i 2), (20, .i 2), (18, .i 0), (17, .t), (15, .i 0), (14, .t), (12, .i 0), (11, .u (ldw xs ys (a + 1))), (10, .i 0), (9, .u (ldw xs ys (a + 1))), (7, .t), (2, .f)], [], 6⟩ [True, True] ⟨trivial, trivial, trivial⟩ ?_
      refine pc (rsame_1 W xs ys W xs ys ‹_› ‹_› ‹_› ‹_› (by omega) (by omega) (by omega) (by omega) ‹_› ‹_› ⟨rfl, rfl, rfl⟩) ?_
      refine rk [] 2 7 ⟨[(23, .t), (22, .i 2), (20, .i 2), (18, .i 0), (17, .t), (15, .i 0), (14, .t), (12, .i 0), (11, .u (ldw xs ys (a + 1))), (10, .i 0), (9, .u (ldw xs ys (a + 1))), (7, .t), (2, .f)], [], 6⟩ [True] ⟨trivial, trivial⟩ ?_
      refine en ?_
      refine an ?_
      refine rg [(7, .t), (12, .t), (17, .t), (22, .t), (27, .t)] 30 ⟨[(2, .t)], [], 6⟩ [True, ((ldw xs ys (a + 1)) == (ldw xs ys (a + 1))) = true, True, (0 == 0) = true, True, (true == true) = true, True, (0 == 0) = true, True, (2 == 2) = true, True] ⟨trivial, beq_iff_eq.2 (by omega), trivial, beq_iff_eq.2 (by omega), trivial, rfl, trivial, beq_iff_eq.2 (by omega), trivial, beq_iff_eq.2 (by omega), trivial, trivial⟩ ?_
      refine xw_ret ?_
      exact bs (.t) rfl
     ·
      refine pc (ofill_3 W xs ys a n (by omega) (by omega) (by omega) ‹_› ‹_› ‹_› ‹_› (by omega)) ?_
      refine rk [] 6 4 ⟨[(20, .i 1), (19, .p 4), (18, .i 0), (17, .t), (16, .p 3), (15, .i 0), (14, .t), (13, .p 2), (12, .i 0), (11, .u (ldw xs ys (a + 1))), (10, .i 0), (9, .u (ldw xs ys (a + 1))), (7, .t), (6, .i n), (4, .u a), (3, .p 1), (2, .f)], [(4, .cells (mm W xs ys) 25), (3, .cells (mm W (stx xs (a + 1) b) (sty ys (a + 1) b)) 25), (2, .cells (mm W (stx xs (a + 1) b) (sty ys (a + 1) b)) 25), (1, .cells (mm W xs ys) 25)], 5⟩ [True] ⟨trivial, trivial⟩ ?_
      refine en ?_
      refine an ?_
      refine xw_seq ?_
      refine reg ?_
      refine rk [] 3 0 ⟨[(76, .i n), (75, .u a), (74, .agg (mm W xs ys)), (20, .i 1), (19, .p 4), (18, .i 0), (17, .t), (16, .p 3), (15, .i 0), (14, .t), (13, .p 2), (12, .i 0), (11, .u (ldw xs ys (a + 1))), (10, .i 0), (9, .u (ldw xs ys (a + 1))), (7, .t), (2, .f)], [(4, .cells (mm W xs ys) 25), (3, .cells (mm W (stx xs (a + 1) b) (sty ys (a + 1) b)) 25), (2, .cells (mm W (stx xs (a + 1) b) (sty ys (a + 1) b)) 25)], 5⟩ [True] ⟨trivial, trivial⟩ ?_
      refine pc (rofill_3 W xs ys a n (by omega) (by omega) (by omega) ‹_› ‹_› ‹_› ‹_› (by omega)) ?_
      refine rk [] 6 4 ⟨[(22, .i 1), (21, .p 5), (20, .i 1), (19, .p 4), (18, .i 0), (17, .t), (16, .p 3), (15, .i 0), (14, .t), (13, .p 2), (12, .i 0), (11, .u (ldw xs ys (a + 1))), (10, .i 0), (9, .u (ldw xs ys (a + 1))), (7, .t), (2, .f)], [(5, .cells (mm W xs ys) 25), (4, .cells (mm W xs ys) 25), (3, .cells (mm W (stx xs (a + 1) b) (sty ys (a + 1) b)) 25), (2, .cells (mm W (stx xs (a + 1) b) (sty ys (a + 1) b)) 25)], 6⟩ [True] ⟨trivial, trivial⟩ ?_
      refine en ?_
      refine an ?_
      refine xw_seq ?_
      refine reg ?_
      refine rk [] 2 0 ⟨[(81, .agg (mm W (stx xs (a + 1) b) (sty ys (a + 1) b))), (80, .agg (mm W (stx xs (a + 1) b) (sty ys (a + 1) b))), (22, .i 1), (21, .p 5), (20, .i 1), (19, .p 4), (18, .i 0), (17, .t), (15, .i 0), (14, .t), (12, .i 0), (11, .u (ldw xs ys (a + 1))), (10, .i 0), (9, .u (ldw xs ys (a + 1))), (7, .t), (2, .f)], [(5, .cells (mm W xs ys) 25), (4, .cells (mm W xs ys) 25)], 6⟩ [True, True] ⟨trivial, trivial, trivial⟩ ?_
      refine pc (rsame_1 W (stx xs (a + 1) b) (sty ys (a + 1) b) W (stx xs (a + 1) b) (sty ys (a + 1) b) ‹_› ‹_› ‹_› ‹_› (by omega) (by omega) (by omega) (by omega) ‹_› ‹_› ⟨rfl, rfl, rfl⟩) ?_
      refine rk [] 3 3 ⟨[(85, .agg (mm W xs ys)), (84, .agg (mm W xs ys)), (83, .t), (22, .i 1), (20, .i 1), (18, .i 0), (17, .t), (15, .i 0), (14, .t), (12, .i 0), (11, .u (ldw xs ys (a + 1))), (10, .i 0), (9, .u (ldw xs ys (a + 1))), (7, .t), (2, .f)], [], 6⟩ [True, True] ⟨trivial, trivial, trivial⟩ ?_
      refine pc (rsame_1 W xs ys W xs ys ‹_› ‹_› ‹_› ‹_› (by omega) (by omega) (by omega) (by omega) ‹_› ‹_› ⟨rfl, rfl, rfl⟩) ?_
      refine rk [] 2 7 ⟨[(23, .t), (22, .i 1), (20, .i 1), (18, .i 0), (17, .t), (15, .i 0), (14, .t), (12, .i 0), (11, .u (ldw xs ys (a + 1))), (10, .i 0), (9, .u (ldw xs ys (a + 1))), (7, .t), (2, .f)], [], 6⟩ [True] ⟨trivial, trivial⟩ ?_
      refine en ?_
      refine an ?_
      refine rg [(7, .t), (12, .t), (17, .t), (22, .t), (27, .t)] 30 ⟨[(2, .t)], [], 6⟩ [True, ((ldw xs ys (a + 1)) == (ldw xs ys (a + 1))) = true, True, (0 == 0) = true, True, (true == true) = true, True, (0 == 0) = true, True, (1 == 1) = true, True] ⟨trivial, beq_iff_eq.2 (by omega), trivial, beq_iff_eq.2 (by omega), trivial, rfl, trivial, beq_iff_eq.2 (by omega), trivial, beq_iff_eq.2 (by omega), trivial, trivial⟩ ?_
      refine xw_ret ?_
      exact bs (.t) rfl
   ·
    refine pc (ojoin_2 W xs ys a b (by omega) (by omega) (by omega) ‹_› ‹_› ‹_› ‹_› (by omega) (by omega) (by omega)) ?_
    obtain ⟨h13, h14, h15⟩ := oErr_ok W xs ys a (by omega)
    have h16 : 1 ≤ (a + 1) / 4294967296 ∧ (a + 1) / 4294967296 ≤ 2 ∧ (a + 1) % 4294967296 < W := by omega
    refine rk [] 8 4 ⟨[(15, .i 0), (14, .f), (13, .p 2), (12, .i 0), (11, .u (ldw xs ys (a + 1))), (10, .i 0), (9, .u (ldw xs ys (a + 1))), (7, .t), (6, .i n), (5, .u b), (4, .u a), (3, .p 1), (2, .f)], [(2, .cells (mm W xs ys) 25), (1, .cells (mm W xs ys) 25)], 3⟩ [True] ⟨trivial, trivial⟩ ?_
    refine en ?_
    refine an ?_
    refine xw_seq ?_
    refine reg ?_
    refine rk [] 3 0 ⟨[(61, .u b), (60, .u a), (59, .agg (mm W xs ys)), (15, .i 0), (14, .f), (13, .p 2), (12, .i 0), (11, .u (ldw xs ys (a + 1))), (10, .i 0), (9, .u (ldw xs ys (a + 1))), (7, .t), (6, .i n), (4, .u a), (3, .p 1), (2, .f)], [(2, .cells (mm W xs ys) 25), (1, .cells (mm W xs ys) 25)], 3⟩ [True] ⟨trivial, trivial⟩ ?_
    refine pc (rojoin_2 W xs ys a b (by omega) (by omega) (by omega) ‹_› ‹_› ‹_› ‹_› (by omega) (by omega) (by omega)) ?_
    obtain ⟨h17, h18, h19⟩ := oErr_ok W xs ys a (by omega)
    have h20 : 1 ≤ (a + 1) / 4294967296 ∧ (a + 1) / 4294967296 ≤ 2 ∧ (a + 1) % 4294967296 < W := by omega
    refine rk [] 8 4 ⟨[(18, .i 0), (17, .f), (16, .p 3), (15, .i 0), (14, .f), (13, .p 2), (12, .i 0), (11, .u (ldw xs ys (a + 1))), (10, .i 0), (9, .u (ldw xs ys (a + 1))), (7, .t), (6, .i n), (4, .u a), (3, .p 1), (2, .f)], [(3, .cells (mm W xs ys) 25), (2, .cells (mm W xs ys) 25), (1, .cells (mm W xs ys) 25)], 4⟩ [True] ⟨trivial, trivial⟩ ?_
    refine en ?_
    refine an ?_
    refine xw_seq ?_
    refine reg ?_
    refine rk [] 3 0 ⟨[(69, .i n), (68, .u a), (67, .agg (mm W xs ys)), (18, .i 0), (17, .f), (16, .p 3), (15, .i 0), (14, .f), (13, .p 2), (12, .i 0), (11, .u (ldw xs ys (a + 1))), (10, .i 0), (9, .u (ldw xs ys (a + 1))), (7, .t), (6, .i n), (4, .u a), (3, .p 1), (2, .f)], [(3, .cells (mm W xs ys) 25), (2, .cells (mm W xs ys) 25), (1, .cells (mm W xs ys) 25)], 4⟩ [True] ⟨trivial, trivial⟩ ?_
    by_cases h21 : (1 ≤ n ∧ n ≤ 65536) ∧ ((a % 4294967296) + n ≤ W)
    ·
     refine pc (ofill_1 W xs ys a n (by omega) (by omega) (by omega) ‹_› ‹_› ‹_› ‹_› (by omega) (by omega) (by omega)) ?_
     obtain ⟨h22, h23, h24, h25, h26, h27⟩ := fill_ok W xs ys a n (by omega) (by omega) ‹_› ‹_› (by omega) (by omega) (by omega) (by omega)
     refine rk [] 6 4 ⟨[(20, .i 0), (19, .p 4), (18, .i 0), (17, .f), (16, .p 3), (15, .i 0), (14, .f), (13, .p 2), (12, .i 0), (11, .u (ldw xs ys (a + 1))), (10, .i 0), (9, .u (ldw xs ys (a + 1))), (7, .t), (6, .i n), (4, .u a), (3, .p 1), (2, .f)], [(4, .cells (mm W (px xs a 255 (n - 1) 0) (py ys a 255 (n - 1) 0)) 25), (3, .cells (mm W xs ys) 25), (2, .cells (mm W xs ys) 25), (1, .cells (mm W xs ys) 25)], 5⟩ [True] ⟨trivial, trivial⟩ ?_
     refine en ?_
     refine an ?_
     refine xw_seq ?_
     refine reg ?_
     refine rk [] 3 0 ⟨[(76, .i n), (75, .u a), (74, .agg (mm W xs ys)), (20, .i 0), (19, .p 4), (18, .i 0), (17, .f), (16, .p 3), (15, .i 0), (14, .f), (13, .p 2), (12, .i 0), (11, .u (ldw xs ys (a + 1))), (10, .i 0), (9, .u (ldw xs ys (a + 1))), (7, .t), (2, .f)], [(4, .cells (mm W (px xs a 255 (n - 1) 0) (py ys a 255 (n - 1) 0)) 25), (3, .cells (mm W xs ys) 25), (2, .cells (mm W xs ys) 25)], 5⟩ [True] ⟨trivial, trivial⟩ ?_
     refine pc (rofill_1 W xs ys a n (by omega) (by omega) (by omega) ‹_› ‹_› ‹_› ‹_› (by omega) (by omega) (by omega)) ?_
     obtain ⟨h28, h29, h30, h31, h32, h33⟩ := fill_ok W xs ys a n (by omega) (by omega) ‹_› ‹_› (by omega) (by omega) (by omega) (by omega)
     refine rk [] 6 4 ⟨[(22, .i 0), (21, .p 5), (20, .i 0), (19, .p 4), (18, .i 0), (17, .f), (16, .p 3), (15, .i 0), (14, .f), (13, .p 2), (12, .i 0), (11, .u (ldw xs ys (a + 1))), (10, .i 0), (9, .u (ldw xs ys (a + 1))), (7, .t), (2, .f)], [(5, .cells (mm W (px xs a 255 (n - 1) 0) (py ys a 255 (n - 1) 0)) 25), (4, .cells (mm W (px xs a 255 (n - 1) 0) (py ys a 255 (n - 1) 0)) 25), (3, .cells (mm W xs ys) 25), (2, .cells (mm W xs ys) 25)], 6⟩ [True] ⟨trivial, trivial⟩ ?_
     refine en ?_
     refine an ?_
     refine xw_seq ?_
     refine reg ?_
     refine rk [] 2 0 ⟨[(81, .agg (mm W xs ys)), (80, .agg (mm W xs ys)), (22, .i 0), (21, .p 5), (20, .i 0), (19, .p 4), (18, .i 0), (17, .f), (15, .i 0), (14, .f), (12, .i 0), (11, .u (ldw xs ys (a + 1))), (10, .i 0), (9, .u (ldw xs ys (a + 1))), (7, .t), (2, .f)], [(5, .cells (mm W (px xs a 255 (n - 1) 0) (py ys a 255 (n - 1) 0)) 25), (4, .cells (mm W (px xs a 255 (n - 1) 0) (py ys a 255 (n - 1) 0)) 25)], 6⟩ [True, True] ⟨trivial, trivial, trivial⟩ ?_
     refine pc (rsame_1 W xs ys W xs ys ‹_› ‹_› ‹_› ‹_› (by omega) (by omega) (by omega) (by omega) ‹_› ‹_› ⟨rfl, rfl, rfl⟩) ?_
     refine rk [] 3 3 ⟨[(85, .agg (mm W (px xs a 255 (n - 1) 0) (py ys a 255 (n - 1) 0))), (84, .agg (mm W (px xs a 255 (n - 1) 0) (py ys a 255 (n - 1) 0))), (83, .t), (22, .i 0), (20, .i 0), (18, .i 0), (17, .f), (15, .i 0), (14, .f), (12, .i 0), (11, .u (ldw xs ys (a + 1))), (10, .i 0), (9, .u (ldw xs ys (a + 1))), (7, .t), (2, .f)], [], 6⟩ [True, True] ⟨trivial, trivial, trivial⟩ ?_
     refine pc (rsame_1 W (px xs a 255 (n - 1) 0) (py ys a 255 (n - 1) 0) W (px xs a 255 (n - 1) 0) (py ys a 255 (n - 1) 0) ‹_› ‹_› ‹_› ‹_› (by omega) (by omega) (by omega) (by omega) ‹_› ‹_› ⟨rfl, rfl, rfl⟩) ?_
     refine rk [] 2 7 ⟨[(23, .t), (22, .i 0), (20, .i 0), (18, .i 0), (17, .f), (15, .i 0), (14, .f), (12, .i 0), (11, .u (ldw xs ys (a + 1))), (10, .i 0), (9, .u (ldw xs ys (a + 1))), (7, .t), (2, .f)], [], 6⟩ [True] ⟨trivial, trivial⟩ ?_
     refine en ?_
     refine an ?_
     refine rg [(7, .t), (12, .t), (17, .t), (22, .t), (27, .t)] 30 ⟨[(2, .t)], [], 6⟩ [True, ((ldw xs ys (a + 1)) == (ldw xs ys (a + 1))) = true, True, (0 == 0) = true, True, (false == false) = true, True, (0 == 0) = true, True, (0 == 0) = true, True] ⟨trivial, beq_iff_eq.2 (by omega), trivial, beq_iff_eq.2 (by omega), trivial, rfl, trivial, beq_iff_eq.2 (by omega), trivial, beq_iff_eq.2 (by omega), trivial, trivial⟩ ?_
     refine xw_ret ?_
     exact bs (.t) rfl
    ·
     by_cases h22 : (1 ≤ n ∧ n ≤ 65536) ∧ (¬ ((1 ≤ a / 4294967296 ∧ a / 4294967296 ≤ 2 ∧ a % 4294967296 < W) ∧ (a % 4294967296) + n ≤ W))
     ·
      refine pc (ofill_2 W xs ys a n (by omega) (by omega) (by omega) ‹_› ‹_› ‹_› ‹_› (by omega) (by omega)) ?_
      refine rk [] 6 4 ⟨[(20, .i 2), (19, .p 4), (18, .i 0), (17, .f), (16, .p 3), (15, .i 0), (14, .f), (13, .p 2), (12, .i 0), (11, .u (ldw xs ys (a + 1))), (10, .i 0), (9, .u (ldw xs ys (a + 1))), (7, .t), (6, .i n), (4, .u a), (3, .p 1), (2, .f)], [(4, .cells (mm W xs ys) 25), (3, .cells (mm W xs ys) 25), (2, .cells (mm W xs ys) 25), (1, .cells (mm W xs ys) 25)], 5⟩ [True] ⟨trivial, trivial⟩ ?_
      refine en ?_
      refine an ?_
      refine xw_seq ?_
      refine reg ?_
      refine rk [] 3 0 ⟨[(76, .i n), (75, .u a), (74, .agg (mm W xs ys)), (20, .i 2), (19, .p 4), (18, .i 0), (17, .f), (16, .p 3), (15, .i 0), (14, .f), (13, .p 2), (12, .i 0), (11, .u (ldw xs ys (a + 1))), (10, .i 0), (9, .u (ldw xs ys (a + 1))), (7, .t), (2, .f)], [(4, .cells (mm W xs ys) 25), (3, .cells (mm W xs ys) 25), (2, .cells (mm W xs ys) 25)], 5⟩ [True] ⟨trivial, trivial⟩ ?_
      refine pc (rofill_2 W xs ys a n (by omega) (by omega) (by omega) ‹_› ‹_› ‹_› ‹_› (by omega) (by omega)) ?_
      refine rk [] 6 4 ⟨[(22, .i 2), (21, .p 5), (20, .i 2), (19, .p 4), (18, .i 0), (17, .f), (16, .p 3), (15, .i 0), (14, .f), (13, .p 2), (12, .i 0), (11, .u (ldw xs ys (a + 1))), (10, .i 0), (9, .u (ldw xs ys (a + 1))), (7, .t), (2, .f)], [(5, .cells (mm W xs ys) 25), (4, .cells (mm W xs ys) 25), (3, .cells (mm W xs ys) 25), (2, .cells (mm W xs ys) 25)], 6⟩ [True] ⟨trivial, trivial⟩ ?_
      refine en ?_
      refine an ?_
      refine xw_seq ?_
      refine reg ?_
      refine rk [] 2 0 ⟨[(81, .agg (mm W xs ys)), (80, .agg (mm W xs ys)), (22, .i 2), (21, .p 5), (20, .i 2), (19, .p 4), (18, .i 0), (17, .f), (15, .i 0), (14, .f), (12, .i 0), (11, .u (ldw xs ys (a + 1))), (10, .i 0), (9, .u (ldw xs ys (a + 1))), (7, .t), (2, .f)], [(5, .cells (mm W xs ys) 25), (4, .cells (mm W xs ys) 25)], 6⟩ [True, True] ⟨trivial, trivial, trivial⟩ ?_
      refine pc (rsame_1 W xs ys W xs ys ‹_› ‹_› ‹_› ‹_› (by omega) (by omega) (by omega) (by omega) ‹_› ‹_› ⟨rfl, rfl, rfl⟩) ?_
      refine rk [] 3 3 ⟨[(85, .agg (mm W xs ys)), (84, .agg (mm W xs ys)), (83, .t), (22, .i 2), (20, .i 2), (18, .i 0), (17, .f), (15, .i 0), (14, .f), (12, .i 0), (11, .u (ldw xs ys (a + 1))), (10, .i 0), (9, .u (ldw xs ys (a + 1))), (7, .t), (2, .f)], [], 6⟩ [True, True] ⟨trivial, trivial, trivial⟩ ?_
      refine pc (rsame_1 W xs ys W xs ys ‹_› ‹_› ‹_› ‹_› (by omega) (by omega) (by omega) (by omega) ‹_› ‹_› ⟨rfl, rfl, rfl⟩) ?_
      refine rk [] 2 7 ⟨[(23, .t), (22, .i 2), (20, .i 2), (18, .i 0), (17, .f), (15, .i 0), (14, .f), (12, .i 0), (11, .u (ldw xs ys (a + 1))), (10, .i 0), (9, .u (ldw xs ys (a + 1))), (7, .t), (2, .f)], [], 6⟩ [True] ⟨trivial, trivial⟩ ?_
      refine en ?_
      refine an ?_
      refine rg [(7, .t), (12, .t), (17, .t), (22, .t), (27, .t)] 30 ⟨[(2, .t)], [], 6⟩ [True, ((ldw xs ys (a + 1)) == (ldw xs ys (a + 1))) = true, True, (0 == 0) = true, True, (false == false) = true, True, (0 == 0) = true, True, (2 == 2) = true, True] ⟨trivial, beq_iff_eq.2 (by omega), trivial, beq_iff_eq.2 (by omega), trivial, rfl, trivial, beq_iff_eq.2 (by omega), trivial, beq_iff_eq.2 (by omega), trivial, trivial⟩ ?_
      refine xw_ret ?_
      exact bs (.t) rfl
     ·
      refine pc (ofill_3 W xs ys a n (by omega) (by omega) (by omega) ‹_› ‹_› ‹_› ‹_› (by omega)) ?_
      refine rk [] 6 4 ⟨[(20, .i 1), (19, .p 4), (18, .i 0), (17, .f), (16, .p 3), (15, .i 0), (14, .f), (13, .p 2), (12, .i 0), (11, .u (ldw xs ys (a + 1))), (10, .i 0), (9, .u (ldw xs ys (a + 1))), (7, .t), (6, .i n), (4, .u a), (3, .p 1), (2, .f)], [(4, .cells (mm W xs ys) 25), (3, .cells (mm W xs ys) 25), (2, .cells (mm W xs ys) 25), (1, .cells (mm W xs ys) 25)], 5⟩ [True] ⟨trivial, trivial⟩ ?_
      refine en ?_
      refine an ?_
      refine xw_seq ?_
      refine reg ?_
      refine rk [] 3 0 ⟨[(76, .i n), (75, .u a), (74, .agg (mm W xs ys)), (20, .i 1), (19, .p 4), (18, .i 0), (17, .f), (16, .p 3), (15, .i 0), (14, .f), (13, .p 2), (12, .i 0), (11, .u (ldw xs ys (a + 1))), (10, .i 0), (9, .u (ldw xs ys (a + 1))), (7, .t), (2, .f)], [(4, .cells (mm W xs ys) 25), (3, .cells (mm W xs ys) 25), (2, .cells (mm W xs ys) 25)], 5⟩ [True] ⟨trivial, trivial⟩ ?_
      refine pc (rofill_3 W xs ys a n (by omega) (by omega) (by omega) ‹_› ‹_› ‹_› ‹_› (by omega)) ?_
      refine rk [] 6 4 ⟨[(22, .i 1), (21, .p 5), (20, .i 1), (19, .p 4), (18, .i 0), (17, .f), (16, .p 3), (15, .i 0), (14, .f), (13, .p 2), (12, .i 0), (11, .u (ldw xs ys (a + 1))), (10, .i 0), (9, .u (ldw xs ys (a + 1))), (7, .t), (2, .f)], [(5, .cells (mm W xs ys) 25), (4, .cells (mm W xs ys) 25), (3, .cells (mm W xs ys) 25), (2, .cells (mm W xs ys) 25)], 6⟩ [True] ⟨trivial, trivial⟩ ?_
      refine en ?_
      refine an ?_
      refine xw_seq ?_
      refine reg ?_
      refine rk [] 2 0 ⟨[(81, .agg (mm W xs ys)), (80, .agg (mm W xs ys)), (22, .i 1), (21, .p 5), (20, .i 1), (19, .p 4), (18, .i 0), (17, .f), (15, .i 0), (14, .f), (12, .i 0), (11, .u (ldw xs ys (a + 1))), (10, .i 0), (9, .u (ldw xs ys (a + 1))), (7, .t), (2, .f)], [(5, .cells (mm W xs ys) 25), (4, .cells (mm W xs ys) 25)], 6⟩ [True, True] ⟨trivial, trivial, trivial⟩ ?_
      refine pc (rsame_1 W xs ys W xs ys ‹_› ‹_› ‹_› ‹_› (by omega) (by omega) (by omega) (by omega) ‹_› ‹_› ⟨rfl, rfl, rfl⟩) ?_
      refine rk [] 3 3 ⟨[(85, .agg (mm W xs ys)), (84, .agg (mm W xs ys)), (83, .t), (22, .i 1), (20, .i 1), (18, .i 0), (17, .f), (15, .i 0), (14, .f), (12, .i 0), (11, .u (ldw xs ys (a + 1))), (10, .i 0), (9, .u (ldw xs ys (a + 1))), (7, .t), (2, .f)], [], 6⟩ [True, True] ⟨trivial, trivial, trivial⟩ ?_
      refine pc (rsame_1 W xs ys W xs ys ‹_› ‹_› ‹_› ‹_› (by omega) (by omega) (by omega) (by omega) ‹_› ‹_› ⟨rfl, rfl, rfl⟩) ?_
      refine rk [] 2 7 ⟨[(23, .t), (22, .i 1), (20, .i 1), (18, .i 0), (17, .f), (15, .i 0), (14, .f), (12, .i 0), (11, .u (ldw xs ys (a + 1))), (10, .i 0), (9, .u (ldw xs ys (a + 1))), (7, .t), (2, .f)], [], 6⟩ [True] ⟨trivial, trivial⟩ ?_
      refine en ?_
      refine an ?_
      refine rg [(7, .t), (12, .t), (17, .t), (22, .t), (27, .t)] 30 ⟨[(2, .t)], [], 6⟩ [True, ((ldw xs ys (a + 1)) == (ldw xs ys (a + 1))) = true, True, (0 == 0) = true, True, (false == false) = true, True, (0 == 0) = true, True, (1 == 1) = true, True] ⟨trivial, beq_iff_eq.2 (by omega), trivial, beq_iff_eq.2 (by omega), trivial, rfl, trivial, beq_iff_eq.2 (by omega), trivial, beq_iff_eq.2 (by omega), trivial, trivial⟩ ?_
      refine xw_ret ?_
      exact bs (.t) rfl
  ·
   by_cases h2 : ((oErr W xs ys a) = 0) ∧ ((ldw xs ys a / 72057594037927936) = 255)
   ·
    refine pc (otwin_2 W xs ys a (by omega) (by omega) (by omega) ‹_› ‹_› ‹_› (by omega) (by omega)) ?_
    obtain ⟨h3, h4, h5⟩ := oErr_ok W xs ys a (by omega)
    refine rk [] 5 3 ⟨[(10, .i 8), (9, .u 0), (7, .t), (6, .i n), (5, .u b), (4, .u a), (3, .p 1), (2, .f)], [(1, .cells (mm W xs ys) 25)], 2⟩ [] trivial ?_
    refine en ?_
    refine an ?_
    refine xw_seq ?_
    refine reg ?_
    refine rk [] 2 0 ⟨[(46, .u a), (45, .agg (mm W xs ys)), (10, .i 8), (9, .u 0), (7, .t), (6, .i n), (5, .u b), (4, .u a), (3, .p 1), (2, .f)], [(1, .cells (mm W xs ys) 25)], 2⟩ [True] ⟨trivial, trivial⟩ ?_
    refine pc (rotwin_2 W xs ys a (by omega) (by omega) (by omega) ‹_› ‹_› ‹_› (by omega) (by omega)) ?_
    obtain ⟨h6, h7, h8⟩ := oErr_ok W xs ys a (by omega)
    refine rk [] 5 3 ⟨[(12, .i 8), (11, .u 0), (10, .i 8), (9, .u 0), (7, .t), (6, .i n), (5, .u b), (4, .u a), (3, .p 1), (2, .f)], [(1, .cells (mm W xs ys) 25)], 2⟩ [] trivial ?_
    refine en ?_
    refine an ?_
    refine xw_seq ?_
    refine reg ?_
    refine rk [] 3 0 ⟨[(53, .u b), (52, .u a), (51, .agg (mm W xs ys)), (12, .i 8), (11, .u 0), (10, .i 8), (9, .u 0), (7, .t), (6, .i n), (5, .u b), (4, .u a), (3, .p 1), (2, .f)], [(1, .cells (mm W xs ys) 25)], 2⟩ [True] ⟨trivial, trivial⟩ ?_
    refine pc (ojoin_3 W xs ys a b (by omega) (by omega) (by omega) ‹_› ‹_› ‹_› ‹_› (by omega) (by omega)) ?_
    obtain ⟨h9, h10, h11⟩ := oErr_ok W xs ys a (by omega)
    refine rk [] 8 4 ⟨[(15, .i 8), (14, .f), (13, .p 2), (12, .i 8), (11, .u 0), (10, .i 8), (9, .u 0), (7, .t), (6, .i n), (5, .u b), (4, .u a), (3, .p 1), (2, .f)], [(2, .cells (mm W xs ys) 25), (1, .cells (mm W xs ys) 25)], 3⟩ [True] ⟨trivial, trivial⟩ ?_
    refine en ?_
    refine an ?_
    refine xw_seq ?_
    refine reg ?_
    refine rk [] 3 0 ⟨[(61, .u b), (60, .u a), (59, .agg (mm W xs ys)), (15, .i 8), (14, .f), (13, .p 2), (12, .i 8), (11, .u 0), (10, .i 8), (9, .u 0), (7, .t), (6, .i n), (4, .u a), (3, .p 1), (2, .f)], [(2, .cells (mm W xs ys) 25), (1, .cells (mm W xs ys) 25)], 3⟩ [True] ⟨trivial, trivial⟩ ?_
    refine pc (rojoin_3 W xs ys a b (by omega) (by omega) (by omega) ‹_› ‹_› ‹_› ‹_› (by omega) (by omega)) ?_
    obtain ⟨h12, h13, h14⟩ := oErr_ok W xs ys a (by omega)
    refine rk [] 8 4 ⟨[(18, .i 8), (17, .f), (16, .p 3), (15, .i 8), (14, .f), (13, .p 2), (12, .i 8), (11, .u 0), (10, .i 8), (9, .u 0), (7, .t), (6, .i n), (4, .u a), (3, .p 1), (2, .f)], [(3, .cells (mm W xs ys) 25), (2, .cells (mm W xs ys) 25), (1, .cells (mm W xs ys) 25)], 4⟩ [True] ⟨trivial, trivial⟩ ?_
    refine en ?_
    refine an ?_
    refine xw_seq ?_
    refine reg ?_
    refine rk [] 3 0 ⟨[(69, .i n), (68, .u a), (67, .agg (mm W xs ys)), (18, .i 8), (17, .f), (16, .p 3), (15, .i 8), (14, .f), (13, .p 2), (12, .i 8), (11, .u 0), (10, .i 8), (9, .u 0), (7, .t), (6, .i n), (4, .u a), (3, .p 1), (2, .f)], [(3, .cells (mm W xs ys) 25), (2, .cells (mm W xs ys) 25), (1, .cells (mm W xs ys) 25)], 4⟩ [True] ⟨trivial, trivial⟩ ?_
    by_cases h15 : (1 ≤ n ∧ n ≤ 65536) ∧ ((a % 4294967296) + n ≤ W)
    ·
     refine pc (ofill_1 W xs ys a n (by omega) (by omega) (by omega) ‹_› ‹_› ‹_› ‹_› (by omega) (by omega) (by omega)) ?_
     obtain ⟨h16, h17, h18, h19, h20, h21⟩ := fill_ok W xs ys a n (by omega) (by omega) ‹_› ‹_› (by omega) (by omega) (by omega) (by omega)
     refine rk [] 6 4 ⟨[(20, .i 0), (19, .p 4), (18, .i 8), (17, .f), (16, .p 3), (15, .i 8), (14, .f), (13, .p 2), (12, .i 8), (11, .u 0), (10, .i 8), (9, .u 0), (7, .t), (6, .i n), (4, .u a), (3, .p 1), (2, .f)], [(4, .cells (mm W (px xs a 255 (n - 1) 0) (py ys a 255 (n - 1) 0)) 25), (3, .cells (mm W xs ys) 25), (2, .cells (mm W xs ys) 25), (1, .cells (mm W xs ys) 25)], 5⟩ [True] ⟨trivial, trivial⟩ ?_
     refine en ?_
     refine an ?_
     refine xw_seq ?_
     refine reg ?_
     refine rk [] 3 0 ⟨[(76, .i n), (75, .u a), (74, .agg (mm W xs ys)), (20, .i 0), (19, .p 4), (18, .i 8), (17, .f), (16, .p 3), (15, .i 8), (14, .f), (13, .p 2), (12, .i 8), (11, .u 0), (10, .i 8), (9, .u 0), (7, .t), (2, .f)], [(4, .cells (mm W (px xs a 255 (n - 1) 0) (py ys a 255 (n - 1) 0)) 25), (3, .cells (mm W xs ys) 25), (2, .cells (mm W xs ys) 25)], 5⟩ [True] ⟨trivial, trivial⟩ ?_
     refine pc (rofill_1 W xs ys a n (by omega) (by omega) (by omega) ‹_› ‹_› ‹_› ‹_› (by omega) (by omega) (by omega)) ?_
     obtain ⟨h22, h23, h24, h25, h26, h27⟩ := fill_ok W xs ys a n (by omega) (by omega) ‹_› ‹_› (by omega) (by omega) (by omega) (by omega)
     refine rk [] 6 4 ⟨[(22, .i 0), (21, .p 5), (20, .i 0), (19, .p 4), (18, .i 8), (17, .f), (16, .p 3), (15, .i 8), (14, .f), (13, .p 2), (12, .i 8), (11, .u 0), (10, .i 8), (9, .u 0), (7, .t), (2, .f)], [(5, .cells (mm W (px xs a 255 (n - 1) 0) (py ys a 255 (n - 1) 0)) 25), (4, .cells (mm W (px xs a 255 (n - 1) 0) (py ys a 255 (n - 1) 0)) 25), (3, .cells (mm W xs ys) 25), (2, .cells (mm W xs ys) 25)], 6⟩ [True] ⟨trivial, trivial⟩ ?_
     refine en ?_
     refine an ?_
     refine xw_seq ?_
     refine reg ?_
     refine rk [] 2 0 ⟨[(81, .agg (mm W xs ys)), (80, .agg (mm W xs ys)), (22, .i 0), (21, .p 5), (20, .i 0), (19, .p 4), (18, .i 8), (17, .f), (15, .i 8), (14, .f), (12, .i 8), (11, .u 0), (10, .i 8), (9, .u 0), (7, .t), (2, .f)], [(5, .cells (mm W (px xs a 255 (n - 1) 0) (py ys a 255 (n - 1) 0)) 25), (4, .cells (mm W (px xs a 255 (n - 1) 0) (py ys a 255 (n - 1) 0)) 25)], 6⟩ [True, True] ⟨trivial, trivial, trivial⟩ ?_
     refine pc (rsame_1 W xs ys W xs ys ‹_› ‹_› ‹_› ‹_› (by omega) (by omega) (by omega) (by omega) ‹_› ‹_› ⟨rfl, rfl, rfl⟩) ?_
     refine rk [] 3 3 ⟨[(85, .agg (mm W (px xs a 255 (n - 1) 0) (py ys a 255 (n - 1) 0))), (84, .agg (mm W (px xs a 255 (n - 1) 0) (py ys a 255 (n - 1) 0))), (83, .t), (22, .i 0), (20, .i 0), (18, .i 8), (17, .f), (15, .i 8), (14, .f), (12, .i 8), (11, .u 0), (10, .i 8), (9, .u 0), (7, .t), (2, .f)], [], 6⟩ [True, True] ⟨trivial, trivial, trivial⟩ ?_
     refine pc (rsame_1 W (px xs a 255 (n - 1) 0) (py ys a 255 (n - 1) 0) W (px xs a 255 (n - 1) 0) (py ys a 255 (n - 1) 0) ‹_› ‹_› ‹_› ‹_› (by omega) (by omega) (by omega) (by omega) ‹_› ‹_› ⟨rfl, rfl, rfl⟩) ?_
     refine rk [] 2 7 ⟨[(23, .t), (22, .i 0), (20, .i 0), (18, .i 8), (17, .f), (15, .i 8), (14, .f), (12, .i 8), (11, .u 0), (10, .i 8), (9, .u 0), (7, .t), (2, .f)], [], 6⟩ [True] ⟨trivial, trivial⟩ ?_
     refine en ?_
     refine an ?_
     refine rg [(7, .t), (12, .t), (17, .t), (22, .t), (27, .t)] 30 ⟨[(2, .t)], [], 6⟩ [True, (0 == 0) = true, True, (8 == 8) = true, True, (false == false) = true, True, (8 == 8) = true, True, (0 == 0) = true, True] ⟨trivial, beq_iff_eq.2 (by omega), trivial, beq_iff_eq.2 (by omega), trivial, rfl, trivial, beq_iff_eq.2 (by omega), trivial, beq_iff_eq.2 (by omega), trivial, trivial⟩ ?_
     refine xw_ret ?_
     exact bs (.t) rfl
    ·
     by_cases h16 : (1 ≤ n ∧ n ≤ 65536) ∧ (¬ ((1 ≤ a / 4294967296 ∧ a / 4294967296 ≤ 2 ∧ a % 4294967296 < W) ∧ (a % 4294967296) + n ≤ W))
     ·
      refine pc (ofill_2 W xs ys a n (by omega) (by omega) (by omega) ‹_› ‹_› ‹_› ‹_› (by omega) (by omega)) ?_
      refine rk [] 6 4 ⟨[(20, .i 2), (19, .p 4), (18, .i 8), (17, .f), (16, .p 3), (15, .i 8), (14, .f), (13, .p 2), (12, .i 8), (11, .u 0), (10, .i 8), (9, .u 0), (7, .t), (6, .i n), (4, .u a), (3, .p 1), (2, .f)], [(4, .cells (mm W xs ys) 25), (3, .cells (mm W xs ys) 25), (2, .cells (mm W xs ys) 25), (1, .cells (mm W xs ys) 25)], 5⟩ [True] ⟨trivial, trivial⟩ ?_
      refine en ?_
      refine an ?_
      refine xw_seq ?_
      refine reg ?_
      refine rk [] 3 0 ⟨[(76, .i n), (75, .u a), (74, .agg (mm W xs ys)), (20, .i 2), (19, .p 4), (18, .i 8), (17, .f), (16, .p 3), (15, .i 8), (14, .f), (13, .p 2), (12, .i 8), (11, .u 0), (10, .i 8), (9, .u 0), (7, .t), (2, .f)], [(4, .cells (mm W xs ys) 25), (3, .cells (mm W xs ys) 25), (2, .cells (mm W xs ys) 25)], 5⟩ [True] ⟨trivial, trivial⟩ ?_
      refine pc (rofill_2 W xs ys a n (by omega) (by omega) (by omega) ‹_› ‹_› ‹_› ‹_› (by omega) (by omega)) ?_
      refine rk [] 6 4 ⟨[(22, .i 2), (21, .p 5), (20, .i 2), (19, .p 4), (18, .i 8), (17, .f), (16, .p 3), (15, .i 8), (14, .f), (13, .p 2), (12, .i 8), (11, .u 0), (10, .i 8), (9, .u 0), (7, .t), (2, .f)], [(5, .cells (mm W xs ys) 25), (4, .cells (mm W xs ys) 25), (3, .cells (mm W xs ys) 25), (2, .cells (mm W xs ys) 25)], 6⟩ [True] ⟨trivial, trivial⟩ ?_
      refine en ?_
      refine an ?_
      refine xw_seq ?_
      refine reg ?_
      refine rk [] 2 0 ⟨[(81, .agg (mm W xs ys)), (80, .agg (mm W xs ys)), (22, .i 2), (21, .p 5), (20, .i 2), (19, .p 4), (18, .i 8), (17, .f), (15, .i 8), (14, .f), (12, .i 8), (11, .u 0), (10, .i 8), (9, .u 0), (7, .t), (2, .f)], [(5, .cells (mm W xs ys) 25), (4, .cells (mm W xs ys) 25)], 6⟩ [True, True] ⟨trivial, trivial, trivial⟩ ?_
      refine pc (rsame_1 W xs ys W xs ys ‹_› ‹_› ‹_› ‹_› (by omega) (by omega) (by omega) (by omega) ‹_› ‹_› ⟨rfl, rfl, rfl⟩) ?_
      refine rk [] 3 3 ⟨[(85, .agg (mm W xs ys)), (84, .agg (mm W xs ys)), (83, .t), (22, .i 2), (20, .i 2), (18, .i 8), (17, .f), (15, .i 8), (14, .f), (12, .i 8), (11, .u 0), (10, .i 8), (9, .u 0), (7, .t), (2, .f)], [], 6⟩ [True, True] ⟨trivial, trivial, trivial⟩ ?_
      refine pc (rsame_1 W xs ys W xs ys ‹_› ‹_› ‹_› ‹_› (by omega) (by omega) (by omega) (by omega) ‹_› ‹_› ⟨rfl, rfl, rfl⟩) ?_
      refine rk [] 2 7 ⟨[(23, .t), (22, .i 2), (20, .i 2), (18, .i 8), (17, .f), (15, .i 8), (14, .f), (12, .i 8), (11, .u 0), (10, .i 8), (9, .u 0), (7, .t), (2, .f)], [], 6⟩ [True] ⟨trivial, trivial⟩ ?_
      refine en ?_
      refine an ?_
      refine rg [(7, .t), (12, .t), (17, .t), (22, .t), (27, .t)] 30 ⟨[(2, .t)], [], 6⟩ [True, (0 == 0) = true, True, (8 == 8) = true, True, (false == false) = true, True, (8 == 8) = true, True, (2 == 2) = true, True] ⟨trivial, beq_iff_eq.2 (by omega), trivial, beq_iff_eq.2 (by omega), trivial, rfl, trivial, beq_iff_eq.2 (by omega), trivial, beq_iff_eq.2 (by omega), trivial, trivial⟩ ?_
      refine xw_ret ?_
      exact bs (.t) rfl
     ·
      refine pc (ofill_3 W xs ys a n (by omega) (by omega) (by omega) ‹_› ‹_› ‹_› ‹_› (by omega)) ?_
      refine rk [] 6 4 ⟨[(20, .i 1), (19, .p 4), (18, .i 8), (17, .f), (16, .p 3), (15, .i 8), (14, .f), (13, .p 2), (12, .i 8), (11, .u 0), (10, .i 8), (9, .u 0), (7, .t), (6, .i n), (4, .u a), (3, .p 1), (2, .f)], [(4, .cells (mm W xs ys) 25), (3, .cells (mm W xs ys) 25), (2, .cells (mm W xs ys) 25), (1, .cells (mm W xs ys) 25)], 5⟩ [True] ⟨trivial, trivial⟩ ?_
      refine en ?_
      refine an ?_
      refine xw_seq ?_
      refine reg ?_
      refine rk [] 3 0 ⟨[(76, .i n), (75, .u a), (74, .agg (mm W xs ys)), (20, .i 1), (19, .p 4), (18, .i 8), (17, .f), (16, .p 3), (15, .i 8), (14, .f), (13, .p 2), (12, .i 8), (11, .u 0), (10, .i 8), (9, .u 0), (7, .t), (2, .f)], [(4, .cells (mm W xs ys) 25), (3, .cells (mm W xs ys) 25), (2, .cells (mm W xs ys) 25)], 5⟩ [True] ⟨trivial, trivial⟩ ?_
      refine pc (rofill_3 W xs ys a n (by omega) (by omega) (by omega) ‹_› ‹_› ‹_› ‹_› (by omega)) ?_
      refine rk [] 6 4 ⟨[(22, .i 1), (21, .p 5), (20, .i 1), (19, .p 4), (18, .i 8), (17, .f), (16, .p 3), (15, .i 8), (14, .f), (13, .p 2), (12, .i 8), (11, .u 0), (10, .i 8), (9, .u 0), (7, .t), (2, .f)], [(5, .cells (mm W xs ys) 25), (4, .cells (mm W xs ys) 25), (3, .cells (mm W xs ys) 25), (2, .cells (mm W xs ys) 25)], 6⟩ [True] ⟨trivial, trivial⟩ ?_
      refine en ?_
      refine an ?_
      refine xw_seq ?_
      refine reg ?_
      refine rk [] 2 0 ⟨[(81, .agg (mm W xs ys)), (80, .agg (mm W xs ys)), (22, .i 1), (21, .p 5), (20, .i 1), (19, .p 4), (18, .i 8), (17, .f), (15, .i 8), (14, .f), (12, .i 8), (11, .u 0), (10, .i 8), (9, .u 0), (7, .t), (2, .f)], [(5, .cells (mm W xs ys) 25), (4, .cells (mm W xs ys) 25)], 6⟩ [True, True] ⟨trivial, trivial, trivial⟩ ?_
      refine pc (rsame_1 W xs ys W xs ys ‹_› ‹_› ‹_› ‹_› (by omega) (by omega) (by omega) (by omega) ‹_› ‹_› ⟨rfl, rfl, rfl⟩) ?_
      refine rk [] 3 3 ⟨[(85, .agg (mm W xs ys)), (84, .agg (mm W xs ys)), (83, .t), (22, .i 1), (20, .i 1), (18, .i 8), (17, .f), (15, .i 8), (14, .f), (12, .i 8), (11, .u 0), (10, .i 8), (9, .u 0), (7, .t), (2, .f)], [], 6⟩ [True, True] ⟨trivial, trivial, trivial⟩ ?_
      refine pc (rsame_1 W xs ys W xs ys ‹_› ‹_› ‹_› ‹_› (by omega) (by omega) (by omega) (by omega) ‹_› ‹_› ⟨rfl, rfl, rfl⟩) ?_
      refine rk [] 2 7 ⟨[(23, .t), (22, .i 1), (20, .i 1), (18, .i 8), (17, .f), (15, .i 8), (14, .f), (12, .i 8), (11, .u 0), (10, .i 8), (9, .u 0), (7, .t), (2, .f)], [], 6⟩ [True] ⟨trivial, trivial⟩ ?_
      refine en ?_
      refine an ?_
      refine rg [(7, .t), (12, .t), (17, .t), (22, .t), (27, .t)] 30 ⟨[(2, .t)], [], 6⟩ [True, (0 == 0) = true, True, (8 == 8) = true, True, (false == false) = true, True, (8 == 8) = true, True, (1 == 1) = true, True] ⟨trivial, beq_iff_eq.2 (by omega), trivial, beq_iff_eq.2 (by omega), trivial, rfl, trivial, beq_iff_eq.2 (by omega), trivial, beq_iff_eq.2 (by omega), trivial, trivial⟩ ?_
      refine xw_ret ?_
      exact bs (.t) rfl
   ·
    refine pc (otwin_3 W xs ys a (by omega) (by omega) (by omega) ‹_› ‹_› ‹_› (by omega)) ?_
    have h3 : (oErr W xs ys a) = 2 ∨ (oErr W xs ys a) = 10 := oErr_no W xs ys a (by omega)
    refine rk [] 5 3 ⟨[(10, .i (oErr W xs ys a)), (9, .u 0), (7, .t), (6, .i n), (5, .u b), (4, .u a), (3, .p 1), (2, .f)], [(1, .cells (mm W xs ys) 25)], 2⟩ [] trivial ?_
    refine en ?_
    refine an ?_
    refine xw_seq ?_
    refine reg ?_
    refine rk [] 2 0 ⟨[(46, .u a), (45, .agg (mm W xs ys)), (10, .i (oErr W xs ys a)), (9, .u 0), (7, .t), (6, .i n), (5, .u b), (4, .u a), (3, .p 1), (2, .f)], [(1, .cells (mm W xs ys) 25)], 2⟩ [True] ⟨trivial, trivial⟩ ?_
    refine pc (rotwin_3 W xs ys a (by omega) (by omega) (by omega) ‹_› ‹_› ‹_› (by omega)) ?_
    have h4 : (oErr W xs ys a) = 2 ∨ (oErr W xs ys a) = 10 := oErr_no W xs ys a (by omega)
    refine rk [] 5 3 ⟨[(12, .i (oErr W xs ys a)), (11, .u 0), (10, .i (oErr W xs ys a)), (9, .u 0), (7, .t), (6, .i n), (5, .u b), (4, .u a), (3, .p 1), (2, .f)], [(1, .cells (mm W xs ys) 25)], 2⟩ [] trivial ?_
    refine en ?_
    refine an ?_
    refine xw_seq ?_
    refine reg ?_
    refine rk [] 3 0 ⟨[(53, .u b), (52, .u a), (51, .agg (mm W xs ys)), (12, .i (oErr W xs ys a)), (11, .u 0), (10, .i (oErr W xs ys a)), (9, .u 0), (7, .t), (6, .i n), (5, .u b), (4, .u a), (3, .p 1), (2, .f)], [(1, .cells (mm W xs ys) 25)], 2⟩ [True] ⟨trivial, trivial⟩ ?_
    refine pc (ojoin_4 W xs ys a b (by omega) (by omega) (by omega) ‹_› ‹_› ‹_› ‹_› (by omega)) ?_
    have h5 : (oErr W xs ys a) = 2 ∨ (oErr W xs ys a) = 10 := oErr_no W xs ys a (by omega)
    refine rk [] 8 4 ⟨[(15, .i (oErr W xs ys a)), (14, .f), (13, .p 2), (12, .i (oErr W xs ys a)), (11, .u 0), (10, .i (oErr W xs ys a)), (9, .u 0), (7, .t), (6, .i n), (5, .u b), (4, .u a), (3, .p 1), (2, .f)], [(2, .cells (mm W xs ys) 25), (1, .cells (mm W xs ys) 25)], 3⟩ [True] ⟨trivial, trivial⟩ ?_
    refine en ?_
    refine an ?_
    refine xw_seq ?_
    refine reg ?_
    refine rk [] 3 0 ⟨[(61, .u b), (60, .u a), (59, .agg (mm W xs ys)), (15, .i (oErr W xs ys a)), (14, .f), (13, .p 2), (12, .i (oErr W xs ys a)), (11, .u 0), (10, .i (oErr W xs ys a)), (9, .u 0), (7, .t), (6, .i n), (4, .u a), (3, .p 1), (2, .f)], [(2, .cells (mm W xs ys) 25), (1, .cells (mm W xs ys) 25)], 3⟩ [True] ⟨trivial, trivial⟩ ?_
    refine pc (rojoin_4 W xs ys a b (by omega) (by omega) (by omega) ‹_› ‹_› ‹_› ‹_› (by omega)) ?_
    have h6 : (oErr W xs ys a) = 2 ∨ (oErr W xs ys a) = 10 := oErr_no W xs ys a (by omega)
    refine rk [] 8 4 ⟨[(18, .i (oErr W xs ys a)), (17, .f), (16, .p 3), (15, .i (oErr W xs ys a)), (14, .f), (13, .p 2), (12, .i (oErr W xs ys a)), (11, .u 0), (10, .i (oErr W xs ys a)), (9, .u 0), (7, .t), (6, .i n), (4, .u a), (3, .p 1), (2, .f)], [(3, .cells (mm W xs ys) 25), (2, .cells (mm W xs ys) 25), (1, .cells (mm W xs ys) 25)], 4⟩ [True] ⟨trivial, trivial⟩ ?_
    refine en ?_
    refine an ?_
    refine xw_seq ?_
    refine reg ?_
    refine rk [] 3 0 ⟨[(69, .i n), (68, .u a), (67, .agg (mm W xs ys)), (18, .i (oErr W xs ys a)), (17, .f), (16, .p 3), (15, .i (oErr W xs ys a)), (14, .f), (13, .p 2), (12, .i (oErr W xs ys a)), (11, .u 0), (10, .i (oErr W xs ys a)), (9, .u 0), (7, .t), (6, .i n), (4, .u a), (3, .p 1), (2, .f)], [(3, .cells (mm W xs ys) 25), (2, .cells (mm W xs ys) 25), (1, .cells (mm W xs ys) 25)], 4⟩ [True] ⟨trivial, trivial⟩ ?_
    by_cases h7 : (1 ≤ n ∧ n ≤ 65536) ∧ (1 ≤ a / 4294967296 ∧ a / 4294967296 ≤ 2 ∧ a % 4294967296 < W) ∧ ((a % 4294967296) + n ≤ W)
    ·
     refine pc (ofill_1 W xs ys a n (by omega) (by omega) (by omega) ‹_› ‹_› ‹_› ‹_› (by omega) (by omega) (by omega)) ?_
     obtain ⟨h8, h9, h10, h11, h12, h13⟩ := fill_ok W xs ys a n (by omega) (by omega) ‹_› ‹_› (by omega) (by omega) (by omega) (by omega)
     refine rk [] 6 4 ⟨[(20, .i 0), (19, .p 4), (18, .i (oErr W xs ys a)), (17, .f), (16, .p 3), (15, .i (oErr W xs ys a)), (14, .f), (13, .p 2), (12, .i (oErr W xs ys a)), (11, .u 0), (10, .i (oErr W xs ys a)), (9, .u 0), (7, .t), (6, .i n), (4, .u a), (3, .p 1), (2, .f)], [(4, .cells (mm W (px xs a 255 (n - 1) 0) (py ys a 255 (n - 1) 0)) 25), (3, .cells (mm W xs ys) 25), (2, .cells (mm W xs ys) 25), (1, .cells (mm W xs ys) 25)], 5⟩ [True] ⟨trivial, trivial⟩ ?_
     refine en ?_
     refine an ?_
     refine xw_seq ?_
     refine reg ?_
     refine rk [] 3 0 ⟨[(76, .i n), (75, .u a), (74, .agg (mm W xs ys)), (20, .i 0), (19, .p 4), (18, .i (oErr W xs ys a)), (17, .f), (16, .p 3), (15, .i (oErr W xs ys a)), (14, .f), (13, .p 2), (12, .i (oErr W xs ys a)), (11, .u 0), (10, .i (oErr W xs ys a)), (9, .u 0), (7, .t), (2, .f)], [(4, .cells (mm W (px xs a 255 (n - 1) 0) (py ys a 255 (n - 1) 0)) 25), (3, .cells (mm W xs ys) 25), (2, .cells (mm W xs ys) 25)], 5⟩ [True] ⟨trivial, trivial⟩ ?_
     refine pc (rofill_1 W xs ys a n (by omega) (by omega) (by omega) ‹_› ‹_› ‹_› ‹_› (by omega) (by omega) (by omega)) ?_
     obtain ⟨h14, h15, h16, h17, h18, h19⟩ := fill_ok W xs ys a n (by omega) (by omega) ‹_› ‹_› (by omega) (by omega) (by omega) (by omega)
     refine rk [] 6 4 ⟨[(22, .i 0), (21, .p 5), (20, .i 0), (19, .p 4), (18, .i (oErr W xs ys a)), (17, .f), (16, .p 3), (15, .i (oErr W xs ys a)), (14, .f), (13, .p 2), (12, .i (oErr W xs ys a)), (11, .u 0), (10, .i (oErr W xs ys a)), (9, .u 0), (7, .t), (2, .f)], [(5, .cells (mm W (px xs a 255 (n - 1) 0) (py ys a 255 (n - 1) 0)) 25), (4, .cells (mm W (px xs a 255 (n - 1) 0) (py ys a 255 (n - 1) 0)) 25), (3, .cells (mm W xs ys) 25), (2, .cells (mm W xs ys) 25)], 6⟩ [True] ⟨trivial, trivial⟩ ?_
     refine en ?_
     refine an ?_
     refine xw_seq ?_
     refine reg ?_
     refine rk [] 2 0 ⟨[(81, .agg (mm W xs ys)), (80, .agg (mm W xs ys)), (22, .i 0), (21, .p 5), (20, .i 0), (19, .p 4), (18, .i (oErr W xs ys a)), (17, .f), (15, .i (oErr W xs ys a)), (14, .f), (12, .i (oErr W xs ys a)), (11, .u 0), (10, .i (oErr W xs ys a)), (9, .u 0), (7, .t), (2, .f)], [(5, .cells (mm W (px xs a 255 (n - 1) 0) (py ys a 255 (n - 1) 0)) 25), (4, .cells (mm W (px xs a 255 (n - 1) 0) (py ys a 255 (n - 1) 0)) 25)], 6⟩ [True, True] ⟨trivial, trivial, trivial⟩ ?_
     refine pc (rsame_1 W xs ys W xs ys ‹_› ‹_› ‹_› ‹_› (by omega) (by omega) (by omega) (by omega) ‹_› ‹_› ⟨rfl, rfl, rfl⟩) ?_
     refine rk [] 3 3 ⟨[(85, .agg (mm W (px xs a 255 (n - 1) 0) (py ys a 255 (n - 1) 0))), (84, .agg (mm W (px xs a 255 (n - 1) 0) (py ys a 255 (n - 1) 0))), (83, .t), (22, .i 0), (20, .i 0), (18, .i (oErr W xs ys a)), (17, .f), (15, .i (oErr W xs ys a)), (14, .f), (12, .i (oErr W xs ys a)), (11, .u 0), (10, .i (oErr W xs ys a)), (9, .u 0), (7, .t), (2, .f)], [], 6⟩ [True, True] ⟨trivial, trivial, trivial⟩ ?_
     refine pc (rsame_1 W (px xs a 255 (n - 1) 0) (py ys a 255 (n - 1) 0) W (px xs a 255 (n - 1) 0) (py ys a 255 (n - 1) 0) ‹_› ‹_› ‹_› ‹_› (by omega) (by omega) (by omega) (by omega) ‹_› ‹_› ⟨rfl, rfl, rfl⟩) ?_
     refine rk [] 2 7 ⟨[(23, .t), (22, .i 0), (20, .i 0), (18, .i (oErr W xs ys a)), (17, .f), (15, .i (oErr W xs ys a)), (14, .f), (12, .i (oErr W xs ys a)), (11, .u 0), (10, .i (oErr W xs ys a)), (9, .u 0), (7, .t), (2, .f)], [], 6⟩ [True] ⟨trivial, trivial⟩ ?_
     refine en ?_
     refine an ?_
     refine rg [(7, .t), (12, .t), (17, .t), (22, .t), (27, .t)] 30 ⟨[(2, .t)], [], 6⟩ [True, (0 == 0) = true, True, ((oErr W xs ys a) == (oErr W xs ys a)) = true, True, (false == false) = true, True, ((oErr W xs ys a) == (oErr W xs ys a)) = true, True, (0 == 0) = true, True] ⟨trivial, beq_iff_eq.2 (by omega), trivial, beq_iff_eq.2 (by omega), trivial, rfl, trivial, beq_iff_eq.2 (by omega), trivial, beq_iff_eq.2 (by omega), trivial, trivial⟩ ?_
     refine xw_ret ?_
     exact bs (.t) rfl
    ·
     by_cases h8 : (1 ≤ n ∧ n ≤ 65536) ∧ (¬ ((1 ≤ a / 4294967296 ∧ a / 4294967296 ≤ 2 ∧ a % 4294967296 < W) ∧ (a % 4294967296) + n ≤ W))
     ·
      refine pc (ofill_2 W xs ys a n (by omega) (by omega) (by omega) ‹_› ‹_› ‹_› ‹_› (by omega) (by omega)) ?_
      refine rk [] 6 4 ⟨[(20, .i 2), (19, .p 4), (18, .i (oErr W xs ys a)), (17, .f), (16, .p 3), (15, .i (oErr W xs ys a)), (14, .f), (13, .p 2), (12, .i (oErr W xs ys a)), (11, .u 0), (10, .i (oErr W xs ys a)), (9, .u 0), (7, .t), (6, .i n), (4, .u a), (3, .p 1), (2, .f)], [(4, .cells (mm W xs ys) 25), (3, .cells (mm W xs ys) 25), (2, .cells (mm W xs ys) 25), (1, .cells (mm W xs ys) 25)], 5⟩ [True] ⟨trivial, trivial⟩ ?_
      refine en ?_
      refine an ?_
      refine xw_seq ?_
      refine reg ?_
      refine rk [] 3 0 ⟨[(76, .i n), (75, .u a), (74, .agg (mm W xs ys)), (20, .i 2), (19, .p 4), (18, .i (oErr W xs ys a)), (17, .f), (16, .p 3), (15, .i (oErr W xs ys a)), (14, .f), (13, .p 2), (12, .i (oErr W xs ys a)), (11, .u 0), (10, .i (oErr W xs ys a)), (9, .u 0), (7, .t), (2, .f)], [(4, .cells (mm W xs ys) 25), (3, .cells (mm W xs ys) 25), (2, .cells (mm W xs ys) 25)], 5⟩ [True] ⟨trivial, trivial⟩ ?_
      by_cases h9 : (1 ≤ a / 4294967296 ∧ a / 4294967296 ≤ 2 ∧ a % 4294967296 < W) ∧ ((a % 4294967296) + n ≤ W)
      ·
       exfalso; first | omega | simp_all | grind
      ·
       refine pc (rofill_2 W xs ys a n (by omega) (by omega) (by omega) ‹_› ‹_› ‹_› ‹_› (by omega) (by omega)) ?_
       refine rk [] 6 4 ⟨[(22, .i 2), (21, .p 5), (20, .i 2), (19, .p 4), (18, .i (oErr W xs ys a)), (17, .f), (16, .p 3), (15, .i (oErr W xs ys a)), (14, .f), (13, .p 2), (12, .i (oErr W xs ys a)), (11, .u 0), (10, .i (oErr W xs ys a)), (9, .u 0), (7, .t), (2, .f)], [(5, .cells (mm W xs ys) 25), (4, .cells (mm W xs ys) 25), (3, .cells (mm W xs ys) 25), (2, .cells (mm W xs ys) 25)], 6⟩ [True] ⟨trivial, trivial⟩ ?_
       refine en ?_
       refine an ?_
       refine xw_seq ?_
       refine reg ?_
       refine rk [] 2 0 ⟨[(81, .agg (mm W xs ys)), (80, .agg (mm W xs ys)), (22, .i 2), (21, .p 5), (20, .i 2), (19, .p 4), (18, .i (oErr W xs ys a)), (17, .f), (15, .i (oErr W xs ys a)), (14, .f), (12, .i (oErr W xs ys a)), (11, .u 0), (10, .i (oErr W xs ys a)), (9, .u 0), (7, .t), (2, .f)], [(5, .cells (mm W xs ys) 25), (4, .cells (mm W xs ys) 25)], 6⟩ [True, True] ⟨trivial, trivial, trivial⟩ ?_
       refine pc (rsame_1 W xs ys W xs ys ‹_› ‹_› ‹_› ‹_› (by omega) (by omega) (by omega) (by omega) ‹_› ‹_› ⟨rfl, rfl, rfl⟩) ?_
       refine rk [] 3 3 ⟨[(85, .agg (mm W xs ys)), (84, .agg (mm W xs ys)), (83, .t), (22, .i 2), (20, .i 2), (18, .i (oErr W xs ys a)), (17, .f), (15, .i (oErr W xs ys a)), (14, .f), (12, .i (oErr W xs ys a)), (11, .u 0), (10, .i (oErr W xs ys a)), (9, .u 0), (7, .t), (2, .f)], [], 6⟩ [True, True] ⟨trivial, trivial, trivial⟩ ?_
       refine pc (rsame_1 W xs ys W xs ys ‹_› ‹_› ‹_› ‹_› (by omega) (by omega) (by omega) (by omega) ‹_› ‹_› ⟨rfl, rfl, rfl⟩) ?_
       refine rk [] 2 7 ⟨[(23, .t), (22, .i 2), (20, .i 2), (18, .i (oErr W xs ys a)), (17, .f), (15, .i (oErr W xs ys a)), (14, .f), (12, .i (oErr W xs ys a)), (11, .u 0), (10, .i (oErr W xs ys a)), (9, .u 0), (7, .t), (2, .f)], [], 6⟩ [True] ⟨trivial, trivial⟩ ?_
       refine en ?_
       refine an ?_
       refine rg [(7, .t), (12, .t), (17, .t), (22, .t), (27, .t)] 30 ⟨[(2, .t)], [], 6⟩ [True, (0 == 0) = true, True, ((oErr W xs ys a) == (oErr W xs ys a)) = true, True, (false == false) = true, True, ((oErr W xs ys a) == (oErr W xs ys a)) = true, True, (2 == 2) = true, True] ⟨trivial, beq_iff_eq.2 (by omega), trivial, beq_iff_eq.2 (by omega), trivial, rfl, trivial, beq_iff_eq.2 (by omega), trivial, beq_iff_eq.2 (by omega), trivial, trivial⟩ ?_
       refine xw_ret ?_
       exact bs (.t) rfl
     ·
      refine pc (ofill_3 W xs ys a n (by omega) (by omega) (by omega) ‹_› ‹_› ‹_› ‹_› (by omega)) ?_
      refine rk [] 6 4 ⟨[(20, .i 1), (19, .p 4), (18, .i (oErr W xs ys a)), (17, .f), (16, .p 3), (15, .i (oErr W xs ys a)), (14, .f), (13, .p 2), (12, .i (oErr W xs ys a)), (11, .u 0), (10, .i (oErr W xs ys a)), (9, .u 0), (7, .t), (6, .i n), (4, .u a), (3, .p 1), (2, .f)], [(4, .cells (mm W xs ys) 25), (3, .cells (mm W xs ys) 25), (2, .cells (mm W xs ys) 25), (1, .cells (mm W xs ys) 25)], 5⟩ [True] ⟨trivial, trivial⟩ ?_
      refine en ?_
      refine an ?_
      refine xw_seq ?_
      refine reg ?_
      refine rk [] 3 0 ⟨[(76, .i n), (75, .u a), (74, .agg (mm W xs ys)), (20, .i 1), (19, .p 4), (18, .i (oErr W xs ys a)), (17, .f), (16, .p 3), (15, .i (oErr W xs ys a)), (14, .f), (13, .p 2), (12, .i (oErr W xs ys a)), (11, .u 0), (10, .i (oErr W xs ys a)), (9, .u 0), (7, .t), (2, .f)], [(4, .cells (mm W xs ys) 25), (3, .cells (mm W xs ys) 25), (2, .cells (mm W xs ys) 25)], 5⟩ [True] ⟨trivial, trivial⟩ ?_
      refine pc (rofill_3 W xs ys a n (by omega) (by omega) (by omega) ‹_› ‹_› ‹_› ‹_› (by omega)) ?_
      refine rk [] 6 4 ⟨[(22, .i 1), (21, .p 5), (20, .i 1), (19, .p 4), (18, .i (oErr W xs ys a)), (17, .f), (16, .p 3), (15, .i (oErr W xs ys a)), (14, .f), (13, .p 2), (12, .i (oErr W xs ys a)), (11, .u 0), (10, .i (oErr W xs ys a)), (9, .u 0), (7, .t), (2, .f)], [(5, .cells (mm W xs ys) 25), (4, .cells (mm W xs ys) 25), (3, .cells (mm W xs ys) 25), (2, .cells (mm W xs ys) 25)], 6⟩ [True] ⟨trivial, trivial⟩ ?_
      refine en ?_
      refine an ?_
      refine xw_seq ?_
      refine reg ?_
      refine rk [] 2 0 ⟨[(81, .agg (mm W xs ys)), (80, .agg (mm W xs ys)), (22, .i 1), (21, .p 5), (20, .i 1), (19, .p 4), (18, .i (oErr W xs ys a)), (17, .f), (15, .i (oErr W xs ys a)), (14, .f), (12, .i (oErr W xs ys a)), (11, .u 0), (10, .i (oErr W xs ys a)), (9, .u 0), (7, .t), (2, .f)], [(5, .cells (mm W xs ys) 25), (4, .cells (mm W xs ys) 25)], 6⟩ [True, True] ⟨trivial, trivial, trivial⟩ ?_
      refine pc (rsame_1 W xs ys W xs ys ‹_› ‹_› ‹_› ‹_› (by omega) (by omega) (by omega) (by omega) ‹_› ‹_› ⟨rfl, rfl, rfl⟩) ?_
      refine rk [] 3 3 ⟨[(85, .agg (mm W xs ys)), (84, .agg (mm W xs ys)), (83, .t), (22, .i 1), (20, .i 1), (18, .i (oErr W xs ys a)), (17, .f), (15, .i (oErr W xs ys a)), (14, .f), (12, .i (oErr W xs ys a)), (11, .u 0), (10, .i (oErr W xs ys a)), (9, .u 0), (7, .t), (2, .f)], [], 6⟩ [True, True] ⟨trivial, trivial, trivial⟩ ?_
      refine pc (rsame_1 W xs ys W xs ys ‹_› ‹_› ‹_› ‹_› (by omega) (by omega) (by omega) (by omega) ‹_› ‹_› ⟨rfl, rfl, rfl⟩) ?_
      refine rk [] 2 7 ⟨[(23, .t), (22, .i 1), (20, .i 1), (18, .i (oErr W xs ys a)), (17, .f), (15, .i (oErr W xs ys a)), (14, .f), (12, .i (oErr W xs ys a)), (11, .u 0), (10, .i (oErr W xs ys a)), (9, .u 0), (7, .t), (2, .f)], [], 6⟩ [True] ⟨trivial, trivial⟩ ?_
      refine en ?_
      refine an ?_
      refine rg [(7, .t), (12, .t), (17, .t), (22, .t), (27, .t)] 30 ⟨[(2, .t)], [], 6⟩ [True, (0 == 0) = true, True, ((oErr W xs ys a) == (oErr W xs ys a)) = true, True, (false == false) = true, True, ((oErr W xs ys a) == (oErr W xs ys a)) = true, True, (1 == 1) = true, True] ⟨trivial, beq_iff_eq.2 (by omega), trivial, beq_iff_eq.2 (by omega), trivial, rfl, trivial, beq_iff_eq.2 (by omega), trivial, beq_iff_eq.2 (by omega), trivial, trivial⟩ ?_
      refine xw_ret ?_
      exact bs (.t) rfl
 ·
  refine pc (few5_2 W xs ys ‹_› ‹_›) ?_
  refine rk [] 1 2 ⟨[(8, .f), (7, .t), (6, .i n), (5, .u b), (4, .u a), (3, .p 1), (2, .f)], [(1, .cells (mm W xs ys) 25)], 2⟩ [] trivial ?_
  refine en ?_
  refine an ?_
  refine xw_seq ?_
  refine rg [] 2 ⟨[(36, .t), (7, .t), (6, .i n), (5, .u b), (4, .u a), (3, .p 1), (2, .f)], [(1, .cells (mm W xs ys) 25)], 2⟩ [] trivial ?_
  refine ct ?_
  refine rg [] 2 ⟨[(2, .t), (7, .t), (6, .i n), (5, .u b), (4, .u a), (3, .p 1)], [(1, .cells (mm W xs ys) 25)], 2⟩ [] trivial ?_
  refine xw_ret ?_
  refine an_ret ?_
  exact bs (.t) rfl

end Go.Proofs.Ytcjcljbhjkedgaa.X
