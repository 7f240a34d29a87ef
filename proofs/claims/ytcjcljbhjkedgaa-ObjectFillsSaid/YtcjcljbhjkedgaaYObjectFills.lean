/- Contracts of Go functions: what each returns, for every input that its premises name; no memory of the caller is touched. Printed by a program. -/
import Derived.Test.YtcjcljbhjkedgaaXc5
import Derived.Test.YtcjcljbhjkedgaaXq3
namespace Go.Proofs.Ytcjcljbhjkedgaa.X
open Go Go.RowKit
set_option linter.unusedVariables false      -- a premise may serve only to tell which way is taken
set_option linter.unusedSimpArgs false
theorem objectFills (W : Int) (xs : List Int) (ys : List Int) (a : Int) (n : Int) (i : Int) (hp0 : -9223372036854775808 ≤ W ∧ W ≤ 9223372036854775807) (hp1 : U64s xs) (hp2 : U64s ys) (hp3 : 0 ≤ a ∧ a ≤ 18446744073709551615) (hp4 : -9223372036854775808 ≤ n ∧ n ≤ 9223372036854775807) (hp5 : -9223372036854775808 ≤ i ∧ i ≤ 9223372036854775807) : Pub Try.prog 4 [.agg (mm W xs ys ++ [.int .u64 a, .int .i64 n, .int .i64 i])] (fun rv => rv = .bool true) := by
 refine pub_of TT_ok Try.func4 rfl (by decide) (Nat.le_of_ble_eq_true (by kernel_rfl)) (by kernel_rfl) ?_
 refine rg [] 2 ⟨[(2, .f), (1, .p 0)], [(0, .cells (mm W xs ys ++ [.u a, .i n, .i i]) 44)], 1⟩ [] trivial ?_
 refine rg [] 4 ⟨[(3, .p 1), (2, .f), (1, .p 0)], [(1, .cells (mm W xs ys) 25), (0, .cells (mm W xs ys ++ [.u a, .i n, .i i]) 44)], 2⟩ [True, True] ⟨trivial, trivial, trivial⟩ ?_
 refine rg [] 3 ⟨[(4, .u a), (3, .p 1), (2, .f), (1, .p 0)], [(1, .cells (mm W xs ys) 25), (0, .cells (mm W xs ys ++ [.u a, .i n, .i i]) 44)], 2⟩ [True] ⟨trivial, trivial⟩ ?_
 refine rg [] 3 ⟨[(5, .i n), (4, .u a), (3, .p 1), (2, .f), (1, .p 0)], [(1, .cells (mm W xs ys) 25), (0, .cells (mm W xs ys ++ [.u a, .i n, .i i]) 44)], 2⟩ [True] ⟨trivial, trivial⟩ ?_
 refine rg [] 3 ⟨[(6, .i i), (5, .i n), (4, .u a), (3, .p 1), (2, .f)], [(1, .cells (mm W xs ys) 25)], 2⟩ [True] ⟨trivial, trivial⟩ ?_
 refine xw_seq ?_
 refine reg ?_
 refine pc (shown5 ) ?_
 refine rk [] 1 1 ⟨[(7, .t), (6, .i i), (5, .i n), (4, .u a), (3, .p 1), (2, .f)], [(1, .cells (mm W xs ys) 25)], 2⟩ [] trivial ?_
 refine en ?_
 refine an ?_
 refine xw_seq ?_
 refine reg ?_
 refine rk [] 1 0 ⟨[(27, .agg (mm W xs ys)), (7, .t), (6, .i i), (5, .i n), (4, .u a), (3, .p 1), (2, .f)], [(1, .cells (mm W xs ys) 25)], 2⟩ [True] ⟨trivial, trivial⟩ ?_
 by_cases h0 : 16 ≤ W ∧ W ≤ 200 ∧ (xs.length : Int) = W ∧ (ys.length : Int) = W
 ·
  refine pc (few5_1 W xs ys ‹_› ‹_›) ?_
  refine rk [] 1 2 ⟨[(8, .t), (7, .t), (6, .i i), (5, .i n), (4, .u a), (3, .p 1), (2, .f)], [(1, .cells (mm W xs ys) 25)], 2⟩ [] trivial ?_
  refine en ?_
  refine an ?_
  refine xw_seq ?_
  refine rg [] 2 ⟨[(30, .f), (7, .t), (6, .i i), (5, .i n), (4, .u a), (3, .p 1), (2, .f)], [(1, .cells (mm W xs ys) 25)], 2⟩ [] trivial ?_
  refine cf ?_
  refine xw_skip ?_
  refine an ?_
  refine xw_seq ?_
  refine reg ?_
  refine rk [] 3 0 ⟨[(35, .i n), (34, .u a), (33, .agg (mm W xs ys)), (7, .t), (6, .i i), (5, .i n), (4, .u a), (3, .p 1), (2, .f)], [(1, .cells (mm W xs ys) 25)], 2⟩ [True] ⟨trivial, trivial⟩ ?_
  by_cases h1 : (1 ≤ n ∧ n ≤ 65536) ∧ (1 ≤ a / 4294967296 ∧ a / 4294967296 ≤ 2 ∧ a % 4294967296 < W) ∧ ((a % 4294967296) + n ≤ W)
  ·
   refine pc (ofill_1 W xs ys a n (by omega) (by omega) (by omega) ‹_› ‹_› ‹_› ‹_› (by omega) (by omega) (by omega)) ?_
   obtain ⟨h2, h3, h4, h5, h6, h7⟩ := fill_ok W xs ys a n (by omega) (by omega) ‹_› ‹_› (by omega) (by omega) (by omega) (by omega)
   refine rk [] 6 4 ⟨[(10, .i 0), (9, .p 2), (7, .t), (6, .i i), (5, .i n), (4, .u a), (3, .p 1), (2, .f)], [(2, .cells (mm W (px xs a 255 (n - 1) 0) (py ys a 255 (n - 1) 0)) 25), (1, .cells (mm W xs ys) 25)], 3⟩ [True] ⟨trivial, trivial⟩ ?_
   refine en ?_
   refine an ?_
   refine xw_seq ?_
   refine rg [(1, .f)] 2 ⟨[(40, .f), (9, .p 2), (7, .t), (6, .i i), (5, .i n), (4, .u a), (3, .p 1), (2, .f)], [(2, .cells (mm W (px xs a 255 (n - 1) 0) (py ys a 255 (n - 1) 0)) 25), (1, .cells (mm W xs ys) 25)], 3⟩ [(0 != 0) = false] ⟨bne_eq_false_iff_eq.2 (by omega), trivial⟩ ?_
   refine cf ?_
   refine xw_skip ?_
   refine an ?_
   refine xw_seq ?_
   refine reg ?_
   refine rk [] 2 0 ⟨[(49, .u a), (48, .agg (mm W (px xs a 255 (n - 1) 0) (py ys a 255 (n - 1) 0))), (9, .p 2), (7, .t), (6, .i i), (5, .i n), (4, .u a), (2, .f)], [(2, .cells (mm W (px xs a 255 (n - 1) 0) (py ys a 255 (n - 1) 0)) 25)], 3⟩ [True] ⟨trivial, trivial⟩ ?_
   refine pc (oat_1 W (px xs a 255 (n - 1) 0) (py ys a 255 (n - 1) 0) a (by omega) ‹_› ‹_› ‹_› ‹_› ‹_› ‹_›) ?_
   obtain ⟨h8, h9, h10⟩ := oErr_ok W (px xs a 255 (n - 1) 0) (py ys a 255 (n - 1) 0) a ‹_›
   refine rk [] 6 3 ⟨[(12, .i 0), (11, .p 3), (9, .p 2), (7, .t), (6, .i i), (5, .i n), (4, .u a), (2, .f)], [(3, .cells [.i (hT (px xs a 255 (n - 1) 0) (py ys a 255 (n - 1) 0) a), .i (hL (px xs a 255 (n - 1) 0) (py ys a 255 (n - 1) 0) a), .u (hM (px xs a 255 (n - 1) 0) (py ys a 255 (n - 1) 0) a)] 35), (2, .cells (mm W (px xs a 255 (n - 1) 0) (py ys a 255 (n - 1) 0)) 25)], 4⟩ [True] ⟨trivial, trivial⟩ ?_
   refine en ?_
   refine an ?_
   refine xw_seq ?_
   refine reg ?_
   refine rk [] 3 0 ⟨[(56, .i i), (55, .u a), (54, .agg (mm W (px xs a 255 (n - 1) 0) (py ys a 255 (n - 1) 0))), (12, .i 0), (11, .p 3), (9, .p 2), (7, .t), (5, .i n), (4, .u a), (2, .f)], [(3, .cells [.i (hT (px xs a 255 (n - 1) 0) (py ys a 255 (n - 1) 0) a), .i (hL (px xs a 255 (n - 1) 0) (py ys a 255 (n - 1) 0) a), .u (hM (px xs a 255 (n - 1) 0) (py ys a 255 (n - 1) 0) a)] 35), (2, .cells (mm W (px xs a 255 (n - 1) 0) (py ys a 255 (n - 1) 0)) 25)], 4⟩ [True] ⟨trivial, trivial⟩ ?_
   refine pc (oget_3 W (px xs a 255 (n - 1) 0) (py ys a 255 (n - 1) 0) a i (by omega) ‹_› ‹_› ‹_› ‹_› ‹_› ‹_› ‹_› (by omega)) ?_
   obtain ⟨h11, h12, h13⟩ := oErr_ok W (px xs a 255 (n - 1) 0) (py ys a 255 (n - 1) 0) a ‹_›
   refine rk [] 7 4 ⟨[(15, .i 8), (12, .i 0), (11, .p 3), (9, .p 2), (7, .t), (5, .i n), (4, .u a), (2, .f)], [(3, .cells [.i (hT (px xs a 255 (n - 1) 0) (py ys a 255 (n - 1) 0) a), .i (hL (px xs a 255 (n - 1) 0) (py ys a 255 (n - 1) 0) a), .u (hM (px xs a 255 (n - 1) 0) (py ys a 255 (n - 1) 0) a)] 35), (2, .cells (mm W (px xs a 255 (n - 1) 0) (py ys a 255 (n - 1) 0)) 25)], 4⟩ [] trivial ?_
   refine en ?_
   refine an ?_
   refine xw_seq ?_
   refine reg ?_
   refine rk [] 2 0 ⟨[(63, .u a), (62, .agg (mm W (px xs a 255 (n - 1) 0) (py ys a 255 (n - 1) 0))), (15, .i 8), (12, .i 0), (11, .p 3), (7, .t), (5, .i n), (2, .f)], [(3, .cells [.i (hT (px xs a 255 (n - 1) 0) (py ys a 255 (n - 1) 0) a), .i (hL (px xs a 255 (n - 1) 0) (py ys a 255 (n - 1) 0) a), .u (hM (px xs a 255 (n - 1) 0) (py ys a 255 (n - 1) 0) a)] 35)], 4⟩ [True] ⟨trivial, trivial⟩ ?_
   refine pc (otwin_2 W (px xs a 255 (n - 1) 0) (py ys a 255 (n - 1) 0) a (by omega) ‹_› ‹_› ‹_› ‹_› ‹_› ‹_› (by omega)) ?_
   obtain ⟨h14, h15, h16⟩ := oErr_ok W (px xs a 255 (n - 1) 0) (py ys a 255 (n - 1) 0) a ‹_›
   refine rk [] 5 3 ⟨[(17, .i 8), (15, .i 8), (12, .i 0), (11, .p 3), (7, .t), (5, .i n), (2, .f)], [(3, .cells [.i (hT (px xs a 255 (n - 1) 0) (py ys a 255 (n - 1) 0) a), .i (hL (px xs a 255 (n - 1) 0) (py ys a 255 (n - 1) 0) a), .u (hM (px xs a 255 (n - 1) 0) (py ys a 255 (n - 1) 0) a)] 35)], 4⟩ [] trivial ?_
   refine en ?_
   refine an ?_
   refine xw_seq ?_
   refine reg ?_
   refine rk [(3, .t), (8, .t)] 12 0 ⟨[(78, .agg [.i (hT (px xs a 255 (n - 1) 0) (py ys a 255 (n - 1) 0) a), .i (hL (px xs a 255 (n - 1) 0) (py ys a 255 (n - 1) 0) a), .u (hM (px xs a 255 (n - 1) 0) (py ys a 255 (n - 1) 0) a)]), (77, .t), (17, .i 8), (15, .i 8), (5, .i n), (2, .f)], [], 4⟩ [(0 == 0) = true, True, True, ((ldw (px xs a 255 (n - 1) 0) (py ys a 255 (n - 1) 0) a / 72057594037927936) == 255) = true, True, True] ⟨beq_iff_eq.2 (by omega), trivial, trivial, beq_iff_eq.2 (by omega), trivial, trivial, trivial⟩ ?_
   refine pc (rhwords_1 (ldw (px xs a 255 (n - 1) 0) (py ys a 255 (n - 1) 0) a / 72057594037927936) ((ldw (px xs a 255 (n - 1) 0) (py ys a 255 (n - 1) 0) a / 4294967296) % 16777216) (ldw (px xs a 255 (n - 1) 0) (py ys a 255 (n - 1) 0) a % 4294967296) (by omega) (by omega) (by omega) (by omega) (by omega)) ?_
   refine rk [(14, .t), (18, .t), (22, .t)] 12 13 ⟨[(2, .t)], [], 4⟩ [((((ldw (px xs a 255 (n - 1) 0) (py ys a 255 (n - 1) 0) a / 4294967296) % 16777216) + 1) == n) = true, True, (8 == 8) = true, True, (8 == 8) = true, True] ⟨beq_iff_eq.2 (by omega), trivial, beq_iff_eq.2 (by omega), trivial, beq_iff_eq.2 (by omega), trivial, trivial⟩ ?_
   refine en ?_
   refine an ?_
   refine xw_ret ?_
   exact bs (.t) rfl
  ·
   by_cases h2 : (1 ≤ n ∧ n ≤ 65536) ∧ (¬ ((1 ≤ a / 4294967296 ∧ a / 4294967296 ≤ 2 ∧ a % 4294967296 < W) ∧ (a % 4294967296) + n ≤ W))
   ·
    refine pc (ofill_2 W xs ys a n (by omega) (by omega) (by omega) ‹_› ‹_› ‹_› ‹_› (by omega) (by omega)) ?_
    refine rk [] 6 4 ⟨[(10, .i 2), (9, .p 2), (7, .t), (6, .i i), (5, .i n), (4, .u a), (3, .p 1), (2, .f)], [(2, .cells (mm W xs ys) 25), (1, .cells (mm W xs ys) 25)], 3⟩ [True] ⟨trivial, trivial⟩ ?_
    refine en ?_
    refine an ?_
    refine xw_seq ?_
    refine rg [(1, .t)] 2 ⟨[(40, .t), (9, .p 2), (7, .t), (6, .i i), (5, .i n), (4, .u a), (3, .p 1), (2, .f)], [(2, .cells (mm W xs ys) 25), (1, .cells (mm W xs ys) 25)], 3⟩ [(2 != 0) = true] ⟨bne_iff_ne.2 (by omega), trivial⟩ ?_
    refine ct ?_
    refine xw_seq ?_
    refine reg ?_
    refine rk [] 4 0 ⟨[(44, .agg (mm W xs ys)), (43, .agg (mm W xs ys)), (42, .t), (9, .p 2), (7, .t), (6, .i i), (5, .i n), (4, .u a), (2, .f)], [(2, .cells (mm W xs ys) 25)], 3⟩ [True, True] ⟨trivial, trivial, trivial⟩ ?_
    refine pc (rsame_1 W xs ys W xs ys ‹_› ‹_› ‹_› ‹_› (by omega) (by omega) (by omega) (by omega) ‹_› ‹_› ⟨rfl, rfl, rfl⟩) ?_
    refine rk [] 2 5 ⟨[(2, .t), (9, .p 2), (7, .t), (6, .i i), (5, .i n), (4, .u a)], [(2, .cells (mm W xs ys) 25)], 3⟩ [True] ⟨trivial, trivial⟩ ?_
    refine en ?_
    refine an ?_
    refine xw_ret ?_
    refine an_ret ?_
    exact bs (.t) rfl
   ·
    refine pc (ofill_3 W xs ys a n (by omega) (by omega) (by omega) ‹_› ‹_› ‹_› ‹_› (by omega)) ?_
    refine rk [] 6 4 ⟨[(10, .i 1), (9, .p 2), (7, .t), (6, .i i), (5, .i n), (4, .u a), (3, .p 1), (2, .f)], [(2, .cells (mm W xs ys) 25), (1, .cells (mm W xs ys) 25)], 3⟩ [True] ⟨trivial, trivial⟩ ?_
    refine en ?_
    refine an ?_
    refine xw_seq ?_
    refine rg [(1, .t)] 2 ⟨[(40, .t), (9, .p 2), (7, .t), (6, .i i), (5, .i n), (4, .u a), (3, .p 1), (2, .f)], [(2, .cells (mm W xs ys) 25), (1, .cells (mm W xs ys) 25)], 3⟩ [(1 != 0) = true] ⟨bne_iff_ne.2 (by omega), trivial⟩ ?_
    refine ct ?_
    refine xw_seq ?_
    refine reg ?_
    refine rk [] 4 0 ⟨[(44, .agg (mm W xs ys)), (43, .agg (mm W xs ys)), (42, .t), (9, .p 2), (7, .t), (6, .i i), (5, .i n), (4, .u a), (2, .f)], [(2, .cells (mm W xs ys) 25)], 3⟩ [True, True] ⟨trivial, trivial, trivial⟩ ?_
    refine pc (rsame_1 W xs ys W xs ys ‹_› ‹_› ‹_› ‹_› (by omega) (by omega) (by omega) (by omega) ‹_› ‹_› ⟨rfl, rfl, rfl⟩) ?_
    refine rk [] 2 5 ⟨[(2, .t), (9, .p 2), (7, .t), (6, .i i), (5, .i n), (4, .u a)], [(2, .cells (mm W xs ys) 25)], 3⟩ [True] ⟨trivial, trivial⟩ ?_
    refine en ?_
    refine an ?_
    refine xw_ret ?_
    refine an_ret ?_
    exact bs (.t) rfl
 ·
  refine pc (few5_2 W xs ys ‹_› ‹_›) ?_
  refine rk [] 1 2 ⟨[(8, .f), (7, .t), (6, .i i), (5, .i n), (4, .u a), (3, .p 1), (2, .f)], [(1, .cells (mm W xs ys) 25)], 2⟩ [] trivial ?_
  refine en ?_
  refine an ?_
  refine xw_seq ?_
  refine rg [] 2 ⟨[(30, .t), (7, .t), (6, .i i), (5, .i n), (4, .u a), (3, .p 1), (2, .f)], [(1, .cells (mm W xs ys) 25)], 2⟩ [] trivial ?_
  refine ct ?_
  refine rg [] 2 ⟨[(2, .t), (7, .t), (6, .i i), (5, .i n), (4, .u a), (3, .p 1)], [(1, .cells (mm W xs ys) 25)], 2⟩ [] trivial ?_
  refine xw_ret ?_
  refine an_ret ?_
  exact bs (.t) rfl

end Go.Proofs.Ytcjcljbhjkedgaa.X
