/- Contracts of Go functions: what each returns, for every input that its premises name; no memory of the caller is touched. Printed by a program. -/
import Derived.Test.YtiilcckpoibhhaaXc5
namespace Go.Proofs.Ytiilcckpoibhhaa.X
open Go Go.RowKit
set_option linter.unusedVariables false      -- a premise may serve only to tell which way is taken
set_option maxHeartbeats 8000000 in
theorem objectActs (W : Int) (xs : List Int) (ys : List Int) (a : Int) (t : Int) (l : Int) (m : Int) (i : Int) (v : Int) (hp0 : -9223372036854775808 ≤ W ∧ W ≤ 9223372036854775807) (hp1 : U64s xs) (hp2 : U64s ys) (hp3 : 0 ≤ a ∧ a ≤ 18446744073709551615) (hp4 : -9223372036854775808 ≤ t ∧ t ≤ 9223372036854775807) (hp5 : -9223372036854775808 ≤ l ∧ l ≤ 9223372036854775807) (hp6 : 0 ≤ m ∧ m ≤ 18446744073709551615) (hp7 : -9223372036854775808 ≤ i ∧ i ≤ 9223372036854775807) (hp8 : 0 ≤ v ∧ v ≤ 18446744073709551615) : Pub Try.prog 13 [.agg (mm W xs ys ++ [.int .u64 a, .int .i64 t, .int .i64 l, .int .u64 m, .int .i64 i, .int .u64 v])] (fun rv => rv = .bool true) := by
 refine pub_of TT_ok Try.func13 rfl (by decide) (Nat.le_of_ble_eq_true (by kernel_rfl)) (by kernel_rfl) ?_
 refine rg [] 2 ⟨[(2, .f), (1, .p 0)], [(0, .cells (mm W xs ys ++ [.u a, .i t, .i l, .u m, .i i, .u v]) 73)], 1⟩ [] trivial ?_
 refine rg [] 4 ⟨[(3, .p 1), (2, .f), (1, .p 0)], [(1, .cells (mm W xs ys) 45), (0, .cells (mm W xs ys ++ [.u a, .i t, .i l, .u m, .i i, .u v]) 73)], 2⟩ [True, True] ⟨trivial, trivial, trivial⟩ ?_
 refine rg [] 3 ⟨[(4, .u a), (3, .p 1), (2, .f), (1, .p 0)], [(1, .cells (mm W xs ys) 45), (0, .cells (mm W xs ys ++ [.u a, .i t, .i l, .u m, .i i, .u v]) 73)], 2⟩ [True] ⟨trivial, trivial⟩ ?_
 refine rg [] 4 ⟨[(5, .p 2), (4, .u a), (3, .p 1), (2, .f), (1, .p 0)], [(2, .cells [.i t, .i l, .u m] 54), (1, .cells (mm W xs ys) 45), (0, .cells (mm W xs ys ++ [.u a, .i t, .i l, .u m, .i i, .u v]) 73)], 3⟩ [True, True] ⟨trivial, trivial, trivial⟩ ?_
 refine rg [] 3 ⟨[(6, .i i), (5, .p 2), (4, .u a), (3, .p 1), (2, .f), (1, .p 0)], [(2, .cells [.i t, .i l, .u m] 54), (1, .cells (mm W xs ys) 45), (0, .cells (mm W xs ys ++ [.u a, .i t, .i l, .u m, .i i, .u v]) 73)], 3⟩ [True] ⟨trivial, trivial⟩ ?_
 refine rg [] 3 ⟨[(7, .u v), (6, .i i), (5, .p 2), (4, .u a), (3, .p 1), (2, .f)], [(2, .cells [.i t, .i l, .u m] 54), (1, .cells (mm W xs ys) 45)], 3⟩ [True] ⟨trivial, trivial⟩ ?_
 refine xw_seq ?_
 refine reg ?_
 refine pc (shown5 ) ?_
 refine rk [] 1 1 ⟨[(8, .t), (7, .u v), (6, .i i), (5, .p 2), (4, .u a), (3, .p 1), (2, .f)], [(2, .cells [.i t, .i l, .u m] 54), (1, .cells (mm W xs ys) 45)], 3⟩ [] trivial ?_
 refine en ?_
 refine an ?_
 refine xw_seq ?_
 refine reg ?_
 refine rk [] 1 0 ⟨[(40, .agg (mm W xs ys)), (8, .t), (7, .u v), (6, .i i), (5, .p 2), (4, .u a), (3, .p 1), (2, .f)], [(2, .cells [.i t, .i l, .u m] 54), (1, .cells (mm W xs ys) 45)], 3⟩ [True] ⟨trivial, trivial⟩ ?_
 by_cases h0 : 16 ≤ W ∧ W ≤ 200 ∧ (xs.length : Int) = W ∧ (ys.length : Int) = W
 ·
  refine pc (few5_1 W xs ys ‹_› ‹_›) ?_
  refine rk [] 1 2 ⟨[(9, .t), (8, .t), (7, .u v), (6, .i i), (5, .p 2), (4, .u a), (3, .p 1), (2, .f)], [(2, .cells [.i t, .i l, .u m] 54), (1, .cells (mm W xs ys) 45)], 3⟩ [] trivial ?_
  refine en ?_
  refine an ?_
  refine xw_seq ?_
  refine rg [] 2 ⟨[(43, .f), (8, .t), (7, .u v), (6, .i i), (5, .p 2), (4, .u a), (3, .p 1), (2, .f)], [(2, .cells [.i t, .i l, .u m] 54), (1, .cells (mm W xs ys) 45)], 3⟩ [] trivial ?_
  refine cf ?_
  refine xw_skip ?_
  refine an ?_
  refine xw_seq ?_
  refine reg ?_
  refine rk [] 3 0 ⟨[(48, .agg [.i t, .i l, .u m]), (47, .u a), (46, .agg (mm W xs ys)), (8, .t), (7, .u v), (6, .i i), (5, .p 2), (4, .u a), (3, .p 1), (2, .f)], [(2, .cells [.i t, .i l, .u m] 54), (1, .cells (mm W xs ys) 45)], 3⟩ [True, True] ⟨trivial, trivial, trivial⟩ ?_
  by_cases h1 : ((t = 255 ∧ 0 ≤ l ∧ l ≤ 65535 ∧ m = 0) ∨ (1 ≤ t ∧ t ≤ 200 ∧ 0 ≤ l ∧ l ≤ 16 ∧ m < 2 ^ (Int.toNat l) ∧ m < 65536)) ∧ (1 ≤ a / 4294967296 ∧ a / 4294967296 ≤ 2 ∧ a % 4294967296 < W) ∧ ((t = 255 ∧ (a % 4294967296) + l + 1 ≤ W) ∨ (t ≠ 255 ∧ (a % 4294967296) + l + 2 ≤ W))
  ·
   refine pc (oput_1 W xs ys a t l m (by omega) (by omega) (by omega) ‹_› ‹_› ‹_› ‹_› ‹_› ‹_› (by first | omega | decide) (by omega) (by omega)) ?_
   obtain ⟨h2, h3, h4, h5, h6, h7⟩ := put_ok W xs ys a t l m (by omega) (by omega) ‹_› ‹_› (by omega) (by omega) (by omega) (by first | omega | decide) (by omega)
   refine rk [] 6 4 ⟨[(11, .i 0), (10, .p 3), (8, .t), (7, .u v), (6, .i i), (5, .p 2), (4, .u a), (3, .p 1), (2, .f)], [(3, .cells (mm W (px xs a t l m) (py ys a t l m)) 45), (2, .cells [.i t, .i l, .u m] 54), (1, .cells (mm W xs ys) 45)], 4⟩ [True] ⟨trivial, trivial⟩ ?_
   refine en ?_
   refine an ?_
   refine xw_seq ?_
   refine reg ?_
   refine rk [] 3 0 ⟨[(55, .agg [.i t, .i l, .u m]), (54, .u a), (53, .agg (mm W xs ys)), (11, .i 0), (10, .p 3), (8, .t), (7, .u v), (6, .i i), (4, .u a), (3, .p 1), (2, .f)], [(3, .cells (mm W (px xs a t l m) (py ys a t l m)) 45), (1, .cells (mm W xs ys) 45)], 4⟩ [True, True] ⟨trivial, trivial, trivial⟩ ?_
   refine pc (roput_1 W xs ys a t l m (by omega) (by omega) (by omega) ‹_› ‹_› ‹_› ‹_› ‹_› ‹_› (by first | omega | decide) (by omega) (by omega)) ?_
   obtain ⟨h8, h9, h10, h11, h12, h13⟩ := put_ok W xs ys a t l m (by omega) (by omega) ‹_› ‹_› (by omega) (by omega) (by omega) (by first | omega | decide) (by omega)
   refine rk [] 6 4 ⟨[(13, .i 0), (12, .p 4), (11, .i 0), (10, .p 3), (8, .t), (7, .u v), (6, .i i), (4, .u a), (3, .p 1), (2, .f)], [(4, .cells (mm W (px xs a t l m) (py ys a t l m)) 45), (3, .cells (mm W (px xs a t l m) (py ys a t l m)) 45), (1, .cells (mm W xs ys) 45)], 5⟩ [True] ⟨trivial, trivial⟩ ?_
   refine en ?_
   refine an ?_
   refine xw_seq ?_
   refine reg ?_
   refine rk [] 2 0 ⟨[(61, .u a), (60, .agg (mm W xs ys)), (13, .i 0), (12, .p 4), (11, .i 0), (10, .p 3), (8, .t), (7, .u v), (6, .i i), (4, .u a), (3, .p 1), (2, .f)], [(4, .cells (mm W (px xs a t l m) (py ys a t l m)) 45), (3, .cells (mm W (px xs a t l m) (py ys a t l m)) 45), (1, .cells (mm W xs ys) 45)], 5⟩ [True] ⟨trivial, trivial⟩ ?_
   by_cases h14 : (oErr W xs ys a) = 0
   ·
    refine pc (oat_1 W xs ys a (by omega) (by omega) (by omega) ‹_› ‹_› ‹_› ‹_›) ?_
    obtain ⟨h15, h16, h17⟩ := oErr_ok W xs ys a ‹_›
    refine rk [] 6 3 ⟨[(15, .i 0), (14, .p 5), (13, .i 0), (12, .p 4), (11, .i 0), (10, .p 3), (8, .t), (7, .u v), (6, .i i), (4, .u a), (3, .p 1), (2, .f)], [(5, .cells [.i (hT xs ys a), .i (hL xs ys a), .u (hM xs ys a)] 54), (4, .cells (mm W (px xs a t l m) (py ys a t l m)) 45), (3, .cells (mm W (px xs a t l m) (py ys a t l m)) 45), (1, .cells (mm W xs ys) 45)], 6⟩ [True] ⟨trivial, trivial⟩ ?_
    refine en ?_
    refine an ?_
    refine xw_seq ?_
    refine reg ?_
    refine rk [] 2 0 ⟨[(67, .u a), (66, .agg (mm W xs ys)), (15, .i 0), (14, .p 5), (13, .i 0), (12, .p 4), (11, .i 0), (10, .p 3), (8, .t), (7, .u v), (6, .i i), (4, .u a), (3, .p 1), (2, .f)], [(5, .cells [.i (hT xs ys a), .i (hL xs ys a), .u (hM xs ys a)] 54), (4, .cells (mm W (px xs a t l m) (py ys a t l m)) 45), (3, .cells (mm W (px xs a t l m) (py ys a t l m)) 45), (1, .cells (mm W xs ys) 45)], 6⟩ [True] ⟨trivial, trivial⟩ ?_
    refine pc (roat_1 W xs ys a (by omega) (by omega) (by omega) ‹_› ‹_› ‹_› ‹_›) ?_
    obtain ⟨h18, h19, h20⟩ := oErr_ok W xs ys a ‹_›
    refine rk [] 6 3 ⟨[(17, .i 0), (16, .p 6), (15, .i 0), (14, .p 5), (13, .i 0), (12, .p 4), (11, .i 0), (10, .p 3), (8, .t), (7, .u v), (6, .i i), (4, .u a), (3, .p 1), (2, .f)], [(6, .cells [.i (hT xs ys a), .i (hL xs ys a), .u (hM xs ys a)] 54), (5, .cells [.i (hT xs ys a), .i (hL xs ys a), .u (hM xs ys a)] 54), (4, .cells (mm W (px xs a t l m) (py ys a t l m)) 45), (3, .cells (mm W (px xs a t l m) (py ys a t l m)) 45), (1, .cells (mm W xs ys) 45)], 7⟩ [True] ⟨trivial, trivial⟩ ?_
    refine en ?_
    refine an ?_
    refine xw_seq ?_
    refine reg ?_
    refine rk [] 3 0 ⟨[(74, .i i), (73, .u a), (72, .agg (mm W xs ys)), (17, .i 0), (16, .p 6), (15, .i 0), (14, .p 5), (13, .i 0), (12, .p 4), (11, .i 0), (10, .p 3), (8, .t), (7, .u v), (6, .i i), (4, .u a), (3, .p 1), (2, .f)], [(6, .cells [.i (hT xs ys a), .i (hL xs ys a), .u (hM xs ys a)] 54), (5, .cells [.i (hT xs ys a), .i (hL xs ys a), .u (hM xs ys a)] 54), (4, .cells (mm W (px xs a t l m) (py ys a t l m)) 45), (3, .cells (mm W (px xs a t l m) (py ys a t l m)) 45), (1, .cells (mm W xs ys) 45)], 7⟩ [True] ⟨trivial, trivial⟩ ?_
    by_cases h21 : ((ldw xs ys a / 72057594037927936) ≠ 255) ∧ (0 ≤ i ∧ i < ((ldw xs ys a / 4294967296) % 16777216))
    ·
     refine pc (oget_1 W xs ys a i (by omega) (by omega) (by omega) ‹_› ‹_› ‹_› ‹_› ‹_› (by omega) (by omega)) ?_
     obtain ⟨h22, h23, h24⟩ := oErr_ok W xs ys a ‹_›
     have h25 : 0 ≤ (ldw xs ys (a + 2 + i)) ∧ (ldw xs ys (a + 2 + i)) ≤ 18446744073709551615 := ldw_ok xs ys (a + 2 + i) ‹_› ‹_›
     have h26 : 1 ≤ (a + 2 + i) / 4294967296 ∧ (a + 2 + i) / 4294967296 ≤ 2 ∧ (a + 2 + i) % 4294967296 < W := by omega
     refine rk [] 7 4 ⟨[(20, .i 0), (19, .bool (isPtr (hL xs ys a) (hM xs ys a) i)), (18, .u (ldw xs ys (a + 2 + i))), (17, .i 0), (16, .p 6), (15, .i 0), (14, .p 5), (13, .i 0), (12, .p 4), (11, .i 0), (10, .p 3), (8, .t), (7, .u v), (6, .i i), (4, .u a), (3, .p 1), (2, .f)], [(6, .cells [.i (hT xs ys a), .i (hL xs ys a), .u (hM xs ys a)] 54), (5, .cells [.i (hT xs ys a), .i (hL xs ys a), .u (hM xs ys a)] 54), (4, .cells (mm W (px xs a t l m) (py ys a t l m)) 45), (3, .cells (mm W (px xs a t l m) (py ys a t l m)) 45), (1, .cells (mm W xs ys) 45)], 7⟩ [] trivial ?_
     refine en ?_
     refine an ?_
     refine xw_seq ?_
     refine reg ?_
     refine rk [] 3 0 ⟨[(82, .i i), (81, .u a), (80, .agg (mm W xs ys)), (20, .i 0), (19, .bool (isPtr (hL xs ys a) (hM xs ys a) i)), (18, .u (ldw xs ys (a + 2 + i))), (17, .i 0), (16, .p 6), (15, .i 0), (14, .p 5), (13, .i 0), (12, .p 4), (11, .i 0), (10, .p 3), (8, .t), (7, .u v), (6, .i i), (4, .u a), (3, .p 1), (2, .f)], [(6, .cells [.i (hT xs ys a), .i (hL xs ys a), .u (hM xs ys a)] 54), (5, .cells [.i (hT xs ys a), .i (hL xs ys a), .u (hM xs ys a)] 54), (4, .cells (mm W (px xs a t l m) (py ys a t l m)) 45), (3, .cells (mm W (px xs a t l m) (py ys a t l m)) 45), (1, .cells (mm W xs ys) 45)], 7⟩ [True] ⟨trivial, trivial⟩ ?_
     refine pc (roget_1 W xs ys a i (by omega) (by omega) (by omega) ‹_› ‹_› ‹_› ‹_› ‹_› (by omega) (by omega)) ?_
     obtain ⟨h27, h28, h29⟩ := oErr_ok W xs ys a ‹_›
     have h30 : 0 ≤ (ldw xs ys (a + 2 + i)) ∧ (ldw xs ys (a + 2 + i)) ≤ 18446744073709551615 := ldw_ok xs ys (a + 2 + i) ‹_› ‹_›
     have h31 : 1 ≤ (a + 2 + i) / 4294967296 ∧ (a + 2 + i) / 4294967296 ≤ 2 ∧ (a + 2 + i) % 4294967296 < W := by omega
     refine rk [] 7 4 ⟨[(23, .i 0), (22, .bool (isPtr (hL xs ys a) (hM xs ys a) i)), (21, .u (ldw xs ys (a + 2 + i))), (20, .i 0), (19, .bool (isPtr (hL xs ys a) (hM xs ys a) i)), (18, .u (ldw xs ys (a + 2 + i))), (17, .i 0), (16, .p 6), (15, .i 0), (14, .p 5), (13, .i 0), (12, .p 4), (11, .i 0), (10, .p 3), (8, .t), (7, .u v), (6, .i i), (4, .u a), (3, .p 1), (2, .f)], [(6, .cells [.i (hT xs ys a), .i (hL xs ys a), .u (hM xs ys a)] 54), (5, .cells [.i (hT xs ys a), .i (hL xs ys a), .u (hM xs ys a)] 54), (4, .cells (mm W (px xs a t l m) (py ys a t l m)) 45), (3, .cells (mm W (px xs a t l m) (py ys a t l m)) 45), (1, .cells (mm W xs ys) 45)], 7⟩ [] trivial ?_
     refine en ?_
     refine an ?_
     refine xw_seq ?_
     refine reg ?_
     refine rk [] 4 0 ⟨[(91, .u v), (90, .i i), (89, .u a), (88, .agg (mm W xs ys)), (23, .i 0), (22, .bool (isPtr (hL xs ys a) (hM xs ys a) i)), (21, .u (ldw xs ys (a + 2 + i))), (20, .i 0), (19, .bool (isPtr (hL xs ys a) (hM xs ys a) i)), (18, .u (ldw xs ys (a + 2 + i))), (17, .i 0), (16, .p 6), (15, .i 0), (14, .p 5), (13, .i 0), (12, .p 4), (11, .i 0), (10, .p 3), (8, .t), (7, .u v), (6, .i i), (4, .u a), (3, .p 1), (2, .f)], [(6, .cells [.i (hT xs ys a), .i (hL xs ys a), .u (hM xs ys a)] 54), (5, .cells [.i (hT xs ys a), .i (hL xs ys a), .u (hM xs ys a)] 54), (4, .cells (mm W (px xs a t l m) (py ys a t l m)) 45), (3, .cells (mm W (px xs a t l m) (py ys a t l m)) 45), (1, .cells (mm W xs ys) 45)], 7⟩ [True] ⟨trivial, trivial⟩ ?_
     refine pc (oset_1 W xs ys a i v (by omega) (by omega) (by omega) ‹_› ‹_› ‹_› ‹_› ‹_› ‹_› (by omega) (by omega)) ?_
     obtain ⟨h32, h33, h34⟩ := oErr_ok W xs ys a ‹_›
     obtain ⟨h35, h36, h37, h38⟩ := stx_ok W xs ys (a + 2 + i) v (by omega) (by omega) ‹_› ‹_› (by omega)
     refine rk [] 6 5 ⟨[(25, .i 0), (24, .p 7), (23, .i 0), (22, .bool (isPtr (hL xs ys a) (hM xs ys a) i)), (21, .u (ldw xs ys (a + 2 + i))), (20, .i 0), (19, .bool (isPtr (hL xs ys a) (hM xs ys a) i)), (18, .u (ldw xs ys (a + 2 + i))), (17, .i 0), (16, .p 6), (15, .i 0), (14, .p 5), (13, .i 0), (12, .p 4), (11, .i 0), (10, .p 3), (8, .t), (7, .u v), (6, .i i), (4, .u a), (3, .p 1), (2, .f)], [(7, .cells (mm W (stx xs (a + 2 + i) v) (sty ys (a + 2 + i) v)) 45), (6, .cells [.i (hT xs ys a), .i (hL xs ys a), .u (hM xs ys a)] 54), (5, .cells [.i (hT xs ys a), .i (hL xs ys a), .u (hM xs ys a)] 54), (4, .cells (mm W (px xs a t l m) (py ys a t l m)) 45), (3, .cells (mm W (px xs a t l m) (py ys a t l m)) 45), (1, .cells (mm W xs ys) 45)], 8⟩ [True] ⟨trivial, trivial⟩ ?_
     refine en ?_
     refine an ?_
     refine xw_seq ?_
     refine reg ?_
     refine rk [] 4 0 ⟨[(99, .u v), (98, .i i), (97, .u a), (96, .agg (mm W xs ys)), (25, .i 0), (24, .p 7), (23, .i 0), (22, .bool (isPtr (hL xs ys a) (hM xs ys a) i)), (21, .u (ldw xs ys (a + 2 + i))), (20, .i 0), (19, .bool (isPtr (hL xs ys a) (hM xs ys a) i)), (18, .u (ldw xs ys (a + 2 + i))), (17, .i 0), (16, .p 6), (15, .i 0), (14, .p 5), (13, .i 0), (12, .p 4), (11, .i 0), (10, .p 3), (8, .t), (2, .f)], [(7, .cells (mm W (stx xs (a + 2 + i) v) (sty ys (a + 2 + i) v)) 45), (6, .cells [.i (hT xs ys a), .i (hL xs ys a), .u (hM xs ys a)] 54), (5, .cells [.i (hT xs ys a), .i (hL xs ys a), .u (hM xs ys a)] 54), (4, .cells (mm W (px xs a t l m) (py ys a t l m)) 45), (3, .cells (mm W (px xs a t l m) (py ys a t l m)) 45)], 8⟩ [True] ⟨trivial, trivial⟩ ?_
     refine pc (roset_1 W xs ys a i v (by omega) (by omega) (by omega) ‹_› ‹_› ‹_› ‹_› ‹_› ‹_› (by omega) (by omega)) ?_
     obtain ⟨h39, h40, h41⟩ := oErr_ok W xs ys a ‹_›
     obtain ⟨h42, h43, h44, h45⟩ := stx_ok W xs ys (a + 2 + i) v (by omega) (by omega) ‹_› ‹_› (by omega)
     refine rk [] 6 5 ⟨[(27, .i 0), (26, .p 8), (25, .i 0), (24, .p 7), (23, .i 0), (22, .bool (isPtr (hL xs ys a) (hM xs ys a) i)), (21, .u (ldw xs ys (a + 2 + i))), (20, .i 0), (19, .bool (isPtr (hL xs ys a) (hM xs ys a) i)), (18, .u (ldw xs ys (a + 2 + i))), (17, .i 0), (16, .p 6), (15, .i 0), (14, .p 5), (13, .i 0), (12, .p 4), (11, .i 0), (10, .p 3), (8, .t), (2, .f)], [(8, .cells (mm W (stx xs (a + 2 + i) v) (sty ys (a + 2 + i) v)) 45), (7, .cells (mm W (stx xs (a + 2 + i) v) (sty ys (a + 2 + i) v)) 45), (6, .cells [.i (hT xs ys a), .i (hL xs ys a), .u (hM xs ys a)] 54), (5, .cells [.i (hT xs ys a), .i (hL xs ys a), .u (hM xs ys a)] 54), (4, .cells (mm W (px xs a t l m) (py ys a t l m)) 45), (3, .cells (mm W (px xs a t l m) (py ys a t l m)) 45)], 9⟩ [True] ⟨trivial, trivial⟩ ?_
     refine en ?_
     refine an ?_
     refine xw_seq ?_
     refine reg ?_
     refine rk [] 2 0 ⟨[(104, .agg (mm W (px xs a t l m) (py ys a t l m))), (103, .agg (mm W (px xs a t l m) (py ys a t l m))), (27, .i 0), (26, .p 8), (25, .i 0), (24, .p 7), (23, .i 0), (22, .bool (isPtr (hL xs ys a) (hM xs ys a) i)), (21, .u (ldw xs ys (a + 2 + i))), (20, .i 0), (19, .bool (isPtr (hL xs ys a) (hM xs ys a) i)), (18, .u (ldw xs ys (a + 2 + i))), (17, .i 0), (16, .p 6), (15, .i 0), (14, .p 5), (13, .i 0), (11, .i 0), (8, .t), (2, .f)], [(8, .cells (mm W (stx xs (a + 2 + i) v) (sty ys (a + 2 + i) v)) 45), (7, .cells (mm W (stx xs (a + 2 + i) v) (sty ys (a + 2 + i) v)) 45), (6, .cells [.i (hT xs ys a), .i (hL xs ys a), .u (hM xs ys a)] 54), (5, .cells [.i (hT xs ys a), .i (hL xs ys a), .u (hM xs ys a)] 54)], 9⟩ [True, True] ⟨trivial, trivial, trivial⟩ ?_
     refine pc (rsame_1 W (px xs a t l m) (py ys a t l m) W (px xs a t l m) (py ys a t l m) ‹_› ‹_› ‹_› ‹_› (by omega) (by omega) (by omega) (by omega) ‹_› ‹_› ⟨rfl, rfl, rfl⟩) ?_
     refine rk [] 3 3 ⟨[(108, .agg (mm W (stx xs (a + 2 + i) v) (sty ys (a + 2 + i) v))), (107, .agg (mm W (stx xs (a + 2 + i) v) (sty ys (a + 2 + i) v))), (106, .t), (27, .i 0), (25, .i 0), (23, .i 0), (22, .bool (isPtr (hL xs ys a) (hM xs ys a) i)), (21, .u (ldw xs ys (a + 2 + i))), (20, .i 0), (19, .bool (isPtr (hL xs ys a) (hM xs ys a) i)), (18, .u (ldw xs ys (a + 2 + i))), (17, .i 0), (16, .p 6), (15, .i 0), (14, .p 5), (13, .i 0), (11, .i 0), (8, .t), (2, .f)], [(6, .cells [.i (hT xs ys a), .i (hL xs ys a), .u (hM xs ys a)] 54), (5, .cells [.i (hT xs ys a), .i (hL xs ys a), .u (hM xs ys a)] 54)], 9⟩ [True, True] ⟨trivial, trivial, trivial⟩ ?_
     refine pc (rsame_1 W (stx xs (a + 2 + i) v) (sty ys (a + 2 + i) v) W (stx xs (a + 2 + i) v) (sty ys (a + 2 + i) v) ‹_› ‹_› ‹_› ‹_› (by omega) (by omega) (by omega) (by omega) ‹_› ‹_› ⟨rfl, rfl, rfl⟩) ?_
     refine rk [] 2 7 ⟨[(28, .t), (27, .i 0), (25, .i 0), (23, .i 0), (22, .bool (isPtr (hL xs ys a) (hM xs ys a) i)), (21, .u (ldw xs ys (a + 2 + i))), (20, .i 0), (19, .bool (isPtr (hL xs ys a) (hM xs ys a) i)), (18, .u (ldw xs ys (a + 2 + i))), (17, .i 0), (16, .p 6), (15, .i 0), (14, .p 5), (13, .i 0), (11, .i 0), (8, .t), (2, .f)], [(6, .cells [.i (hT xs ys a), .i (hL xs ys a), .u (hM xs ys a)] 54), (5, .cells [.i (hT xs ys a), .i (hL xs ys a), .u (hM xs ys a)] 54)], 9⟩ [True] ⟨trivial, trivial⟩ ?_
     refine en ?_
     refine an ?_
     refine xw_seq ?_
     refine reg ?_
     refine rk [(7, .t), (12, .t), (17, .t), (22, .t), (27, .bool ((isPtr ((ldw xs ys a / 4294967296) % 16777216) (ldw xs ys a % 4294967296) i) == (isPtr ((ldw xs ys a / 4294967296) % 16777216) (ldw xs ys a % 4294967296) i)))] 30 0 ⟨[(140, .bool ((isPtr (hL xs ys a) (hM xs ys a) i) == (isPtr (hL xs ys a) (hM xs ys a) i))), (27, .i 0), (25, .i 0), (23, .i 0), (20, .i 0), (2, .f)], [], 9⟩ [True, (0 == 0) = true, True, True, True, (((ldw xs ys a / 72057594037927936) == (ldw xs ys a / 72057594037927936)) && ((((ldw xs ys a / 4294967296) % 16777216) == ((ldw xs ys a / 4294967296) % 16777216)) && (((ldw xs ys a % 4294967296) == (ldw xs ys a % 4294967296)) && true))) = true, True, (0 == 0) = true, True, ((ldw xs ys (a + 2 + i)) == (ldw xs ys (a + 2 + i))) = true, True, ((isPtr ((ldw xs ys a / 4294967296) % 16777216) (ldw xs ys a % 4294967296) i) == (isPtr ((ldw xs ys a / 4294967296) % 16777216) (ldw xs ys a % 4294967296) i)) = ((isPtr ((ldw xs ys a / 4294967296) % 16777216) (ldw xs ys a % 4294967296) i) == (isPtr ((ldw xs ys a / 4294967296) % 16777216) (ldw xs ys a % 4294967296) i)), True] ⟨trivial, beq_iff_eq.2 (by omega), trivial, trivial, trivial, (by simp <;> omega), trivial, beq_iff_eq.2 (by omega), trivial, beq_iff_eq.2 (by omega), trivial, rfl, trivial, trivial⟩ ?_
     refine splitr 140 (x := ((isPtr ((ldw xs ys a / 4294967296) % 16777216) (ldw xs ys a % 4294967296) i) == (isPtr ((ldw xs ys a / 4294967296) % 16777216) (ldw xs ys a % 4294967296) i))) (by kernel_rfl) (fun h46 => ?_) (fun h46 => ?_)
     ·
      replace h46 : (isPtr ((ldw xs ys a / 4294967296) % 16777216) (ldw xs ys a % 4294967296) i) = (isPtr ((ldw xs ys a / 4294967296) % 16777216) (ldw xs ys a % 4294967296) i) := eq_of_beq h46
      refine rk [(32, .t), (37, .t)] 10 30 ⟨[(2, .t)], [], 9⟩ [(0 == 0) = true, True, (0 == 0) = true, True] ⟨beq_iff_eq.2 (by omega), trivial, beq_iff_eq.2 (by omega), trivial, trivial⟩ ?_
      refine en ?_
      refine an ?_
      refine xw_ret ?_
      exact bs (.t) rfl
     ·
      replace h46 : (isPtr ((ldw xs ys a / 4294967296) % 16777216) (ldw xs ys a % 4294967296) i) ≠ (isPtr ((ldw xs ys a / 4294967296) % 16777216) (ldw xs ys a % 4294967296) i) := ne_of_beq_false h46
      exfalso; first | omega | simp_all | grind
    ·
     by_cases h22 : ((ldw xs ys a / 72057594037927936) ≠ 255) ∧ (¬ (0 ≤ i ∧ i < ((ldw xs ys a / 4294967296) % 16777216)))
     ·
      refine pc (oget_2 W xs ys a i (by omega) (by omega) (by omega) ‹_› ‹_› ‹_› ‹_› ‹_› (by omega) (by omega)) ?_
      obtain ⟨h23, h24, h25⟩ := oErr_ok W xs ys a ‹_›
      refine rk [] 7 4 ⟨[(20, .i 7), (19, .f), (18, .u 0), (17, .i 0), (16, .p 6), (15, .i 0), (14, .p 5), (13, .i 0), (12, .p 4), (11, .i 0), (10, .p 3), (8, .t), (7, .u v), (6, .i i), (4, .u a), (3, .p 1), (2, .f)], [(6, .cells [.i (hT xs ys a), .i (hL xs ys a), .u (hM xs ys a)] 54), (5, .cells [.i (hT xs ys a), .i (hL xs ys a), .u (hM xs ys a)] 54), (4, .cells (mm W (px xs a t l m) (py ys a t l m)) 45), (3, .cells (mm W (px xs a t l m) (py ys a t l m)) 45), (1, .cells (mm W xs ys) 45)], 7⟩ [] trivial ?_
      refine en ?_
      refine an ?_
      refine xw_seq ?_
      refine reg ?_
      refine rk [] 3 0 ⟨[(82, .i i), (81, .u a), (80, .agg (mm W xs ys)), (20, .i 7), (19, .f), (18, .u 0), (17, .i 0), (16, .p 6), (15, .i 0), (14, .p 5), (13, .i 0), (12, .p 4), (11, .i 0), (10, .p 3), (8, .t), (7, .u v), (6, .i i), (4, .u a), (3, .p 1), (2, .f)], [(6, .cells [.i (hT xs ys a), .i (hL xs ys a), .u (hM xs ys a)] 54), (5, .cells [.i (hT xs ys a), .i (hL xs ys a), .u (hM xs ys a)] 54), (4, .cells (mm W (px xs a t l m) (py ys a t l m)) 45), (3, .cells (mm W (px xs a t l m) (py ys a t l m)) 45), (1, .cells (mm W xs ys) 45)], 7⟩ [True] ⟨trivial, trivial⟩ ?_
      refine pc (roget_2 W xs ys a i (by omega) (by omega) (by omega) ‹_› ‹_› ‹_› ‹_› ‹_› (by omega) (by omega)) ?_
      obtain ⟨h26, h27, h28⟩ := oErr_ok W xs ys a ‹_›
      refine rk [] 7 4 ⟨[(23, .i 7), (22, .f), (21, .u 0), (20, .i 7), (19, .f), (18, .u 0), (17, .i 0), (16, .p 6), (15, .i 0), (14, .p 5), (13, .i 0), (12, .p 4), (11, .i 0), (10, .p 3), (8, .t), (7, .u v), (6, .i i), (4, .u a), (3, .p 1), (2, .f)], [(6, .cells [.i (hT xs ys a), .i (hL xs ys a), .u (hM xs ys a)] 54), (5, .cells [.i (hT xs ys a), .i (hL xs ys a), .u (hM xs ys a)] 54), (4, .cells (mm W (px xs a t l m) (py ys a t l m)) 45), (3, .cells (mm W (px xs a t l m) (py ys a t l m)) 45), (1, .cells (mm W xs ys) 45)], 7⟩ [] trivial ?_
      refine en ?_
      refine an ?_
      refine xw_seq ?_
      refine reg ?_
      refine rk [] 4 0 ⟨[(91, .u v), (90, .i i), (89, .u a), (88, .agg (mm W xs ys)), (23, .i 7), (22, .f), (21, .u 0), (20, .i 7), (19, .f), (18, .u 0), (17, .i 0), (16, .p 6), (15, .i 0), (14, .p 5), (13, .i 0), (12, .p 4), (11, .i 0), (10, .p 3), (8, .t), (7, .u v), (6, .i i), (4, .u a), (3, .p 1), (2, .f)], [(6, .cells [.i (hT xs ys a), .i (hL xs ys a), .u (hM xs ys a)] 54), (5, .cells [.i (hT xs ys a), .i (hL xs ys a), .u (hM xs ys a)] 54), (4, .cells (mm W (px xs a t l m) (py ys a t l m)) 45), (3, .cells (mm W (px xs a t l m) (py ys a t l m)) 45), (1, .cells (mm W xs ys) 45)], 7⟩ [True] ⟨trivial, trivial⟩ ?_
      refine pc (oset_2 W xs ys a i v (by omega) (by omega) (by omega) ‹_› ‹_› ‹_› ‹_› ‹_› ‹_› (by omega) (by omega)) ?_
      obtain ⟨h29, h30, h31⟩ := oErr_ok W xs ys a ‹_›
      refine rk [] 6 5 ⟨[(25, .i 7), (24, .p 7), (23, .i 7), (22, .f), (21, .u 0), (20, .i 7), (19, .f), (18, .u 0), (17, .i 0), (16, .p 6), (15, .i 0), (14, .p 5), (13, .i 0), (12, .p 4), (11, .i 0), (10, .p 3), (8, .t), (7, .u v), (6, .i i), (4, .u a), (3, .p 1), (2, .f)], [(7, .cells (mm W xs ys) 45), (6, .cells [.i (hT xs ys a), .i (hL xs ys a), .u (hM xs ys a)] 54), (5, .cells [.i (hT xs ys a), .i (hL xs ys a), .u (hM xs ys a)] 54), (4, .cells (mm W (px xs a t l m) (py ys a t l m)) 45), (3, .cells (mm W (px xs a t l m) (py ys a t l m)) 45), (1, .cells (mm W xs ys) 45)], 8⟩ [True] ⟨trivial, trivial⟩ ?_
      refine en ?_
      refine an ?_
      refine xw_seq ?_
      refine reg ?_
      refine rk [] 4 0 ⟨[(99, .u v), (98, .i i), (97, .u a), (96, .agg (mm W xs ys)), (25, .i 7), (24, .p 7), (23, .i 7), (22, .f), (21, .u 0), (20, .i 7), (19, .f), (18, .u 0), (17, .i 0), (16, .p 6), (15, .i 0), (14, .p 5), (13, .i 0), (12, .p 4), (11, .i 0), (10, .p 3), (8, .t), (2, .f)], [(7, .cells (mm W xs ys) 45), (6, .cells [.i (hT xs ys a), .i (hL xs ys a), .u (hM xs ys a)] 54), (5, .cells [.i (hT xs ys a), .i (hL xs ys a), .u (hM xs ys a)] 54), (4, .cells (mm W (px xs a t l m) (py ys a t l m)) 45), (3, .cells (mm W (px xs a t l m) (py ys a t l m)) 45)], 8⟩ [True] ⟨trivial, trivial⟩ ?_
      refine pc (roset_2 W xs ys a i v (by omega) (by omega) (by omega) ‹_› ‹_› ‹_› ‹_› ‹_› ‹_› (by omega) (by omega)) ?_
      obtain ⟨h32, h33, h34⟩ := oErr_ok W xs ys a ‹_›
      refine rk [] 6 5 ⟨[(27, .i 7), (26, .p 8), (25, .i 7), (24, .p 7), (23, .i 7), (22, .f), (21, .u 0), (20, .i 7), (19, .f), (18, .u 0), (17, .i 0), (16, .p 6), (15, .i 0), (14, .p 5), (13, .i 0), (12, .p 4), (11, .i 0), (10, .p 3), (8, .t), (2, .f)], [(8, .cells (mm W xs ys) 45), (7, .cells (mm W xs ys) 45), (6, .cells [.i (hT xs ys a), .i (hL xs ys a), .u (hM xs ys a)] 54), (5, .cells [.i (hT xs ys a), .i (hL xs ys a), .u (hM xs ys a)] 54), (4, .cells (mm W (px xs a t l m) (py ys a t l m)) 45), (3, .cells (mm W (px xs a t l m) (py ys a t l m)) 45)], 9⟩ [True] ⟨trivial, trivial⟩ ?_
      refine en ?_
      refine an ?_
      refine xw_seq ?_
      refine reg ?_
      refine rk [] 2 0 ⟨[(104, .agg (mm W (px xs a t l m) (py ys a t l m))), (103, .agg (mm W (px xs a t l m) (py ys a t l m))), (27, .i 7), (26, .p 8), (25, .i 7), (24, .p 7), (23, .i 7), (22, .f), (21, .u 0), (20, .i 7), (19, .f), (18, .u 0), (17, .i 0), (16, .p 6), (15, .i 0), (14, .p 5), (13, .i 0), (11, .i 0), (8, .t), (2, .f)], [(8, .cells (mm W xs ys) 45), (7, .cells (mm W xs ys) 45), (6, .cells [.i (hT xs ys a), .i (hL xs ys a), .u (hM xs ys a)] 54), (5, .cells [.i (hT xs ys a), .i (hL xs ys a), .u (hM xs ys a)] 54)], 9⟩ [True, True] ⟨trivial, trivial, trivial⟩ ?_
      refine pc (rsame_1 W (px xs a t l m) (py ys a t l m) W (px xs a t l m) (py ys a t l m) ‹_› ‹_› ‹_› ‹_› (by omega) (by omega) (by omega) (by omega) ‹_› ‹_› ⟨rfl, rfl, rfl⟩) ?_
      refine rk [] 3 3 ⟨[(108, .agg (mm W xs ys)), (107, .agg (mm W xs ys)), (106, .t), (27, .i 7), (25, .i 7), (23, .i 7), (22, .f), (21, .u 0), (20, .i 7), (19, .f), (18, .u 0), (17, .i 0), (16, .p 6), (15, .i 0), (14, .p 5), (13, .i 0), (11, .i 0), (8, .t), (2, .f)], [(6, .cells [.i (hT xs ys a), .i (hL xs ys a), .u (hM xs ys a)] 54), (5, .cells [.i (hT xs ys a), .i (hL xs ys a), .u (hM xs ys a)] 54)], 9⟩ [True, True] ⟨trivial, trivial, trivial⟩ ?_
      refine pc (rsame_1 W xs ys W xs ys ‹_› ‹_› ‹_› ‹_› (by omega) (by omega) (by omega) (by omega) ‹_› ‹_› ⟨rfl, rfl, rfl⟩) ?_
      refine rk [] 2 7 ⟨[(28, .t), (27, .i 7), (25, .i 7), (23, .i 7), (22, .f), (21, .u 0), (20, .i 7), (19, .f), (18, .u 0), (17, .i 0), (16, .p 6), (15, .i 0), (14, .p 5), (13, .i 0), (11, .i 0), (8, .t), (2, .f)], [(6, .cells [.i (hT xs ys a), .i (hL xs ys a), .u (hM xs ys a)] 54), (5, .cells [.i (hT xs ys a), .i (hL xs ys a), .u (hM xs ys a)] 54)], 9⟩ [True] ⟨trivial, trivial⟩ ?_
      refine en ?_
      refine an ?_
      refine rg [(7, .t), (12, .t), (17, .t), (22, .t), (27, .t), (32, .t), (37, .t)] 40 ⟨[(2, .t)], [], 9⟩ [True, (0 == 0) = true, True, True, True, (((ldw xs ys a / 72057594037927936) == (ldw xs ys a / 72057594037927936)) && ((((ldw xs ys a / 4294967296) % 16777216) == ((ldw xs ys a / 4294967296) % 16777216)) && (((ldw xs ys a % 4294967296) == (ldw xs ys a % 4294967296)) && true))) = true, True, (0 == 0) = true, True, (0 == 0) = true, True, (false == false) = true, True, (7 == 7) = true, True, (7 == 7) = true, True] ⟨trivial, beq_iff_eq.2 (by omega), trivial, trivial, trivial, (by simp <;> omega), trivial, beq_iff_eq.2 (by omega), trivial, beq_iff_eq.2 (by omega), trivial, rfl, trivial, beq_iff_eq.2 (by omega), trivial, beq_iff_eq.2 (by omega), trivial, trivial⟩ ?_
      refine xw_ret ?_
      exact bs (.t) rfl
     ·
      refine pc (oget_3 W xs ys a i (by omega) (by omega) (by omega) ‹_› ‹_› ‹_› ‹_› ‹_› (by omega)) ?_
      obtain ⟨h23, h24, h25⟩ := oErr_ok W xs ys a ‹_›
      refine rk [] 7 4 ⟨[(20, .i 8), (19, .f), (18, .u 0), (17, .i 0), (16, .p 6), (15, .i 0), (14, .p 5), (13, .i 0), (12, .p 4), (11, .i 0), (10, .p 3), (8, .t), (7, .u v), (6, .i i), (4, .u a), (3, .p 1), (2, .f)], [(6, .cells [.i (hT xs ys a), .i (hL xs ys a), .u (hM xs ys a)] 54), (5, .cells [.i (hT xs ys a), .i (hL xs ys a), .u (hM xs ys a)] 54), (4, .cells (mm W (px xs a t l m) (py ys a t l m)) 45), (3, .cells (mm W (px xs a t l m) (py ys a t l m)) 45), (1, .cells (mm W xs ys) 45)], 7⟩ [] trivial ?_
      refine en ?_
      refine an ?_
      refine xw_seq ?_
      refine reg ?_
      refine rk [] 3 0 ⟨[(82, .i i), (81, .u a), (80, .agg (mm W xs ys)), (20, .i 8), (19, .f), (18, .u 0), (17, .i 0), (16, .p 6), (15, .i 0), (14, .p 5), (13, .i 0), (12, .p 4), (11, .i 0), (10, .p 3), (8, .t), (7, .u v), (6, .i i), (4, .u a), (3, .p 1), (2, .f)], [(6, .cells [.i (hT xs ys a), .i (hL xs ys a), .u (hM xs ys a)] 54), (5, .cells [.i (hT xs ys a), .i (hL xs ys a), .u (hM xs ys a)] 54), (4, .cells (mm W (px xs a t l m) (py ys a t l m)) 45), (3, .cells (mm W (px xs a t l m) (py ys a t l m)) 45), (1, .cells (mm W xs ys) 45)], 7⟩ [True] ⟨trivial, trivial⟩ ?_
      refine pc (roget_3 W xs ys a i (by omega) (by omega) (by omega) ‹_› ‹_› ‹_› ‹_› ‹_› (by omega)) ?_
      obtain ⟨h26, h27, h28⟩ := oErr_ok W xs ys a ‹_›
      refine rk [] 7 4 ⟨[(23, .i 8), (22, .f), (21, .u 0), (20, .i 8), (19, .f), (18, .u 0), (17, .i 0), (16, .p 6), (15, .i 0), (14, .p 5), (13, .i 0), (12, .p 4), (11, .i 0), (10, .p 3), (8, .t), (7, .u v), (6, .i i), (4, .u a), (3, .p 1), (2, .f)], [(6, .cells [.i (hT xs ys a), .i (hL xs ys a), .u (hM xs ys a)] 54), (5, .cells [.i (hT xs ys a), .i (hL xs ys a), .u (hM xs ys a)] 54), (4, .cells (mm W (px xs a t l m) (py ys a t l m)) 45), (3, .cells (mm W (px xs a t l m) (py ys a t l m)) 45), (1, .cells (mm W xs ys) 45)], 7⟩ [] trivial ?_
      refine en ?_
      refine an ?_
      refine xw_seq ?_
      refine reg ?_
      refine rk [] 4 0 ⟨[(91, .u v), (90, .i i), (89, .u a), (88, .agg (mm W xs ys)), (23, .i 8), (22, .f), (21, .u 0), (20, .i 8), (19, .f), (18, .u 0), (17, .i 0), (16, .p 6), (15, .i 0), (14, .p 5), (13, .i 0), (12, .p 4), (11, .i 0), (10, .p 3), (8, .t), (7, .u v), (6, .i i), (4, .u a), (3, .p 1), (2, .f)], [(6, .cells [.i (hT xs ys a), .i (hL xs ys a), .u (hM xs ys a)] 54), (5, .cells [.i (hT xs ys a), .i (hL xs ys a), .u (hM xs ys a)] 54), (4, .cells (mm W (px xs a t l m) (py ys a t l m)) 45), (3, .cells (mm W (px xs a t l m) (py ys a t l m)) 45), (1, .cells (mm W xs ys) 45)], 7⟩ [True] ⟨trivial, trivial⟩ ?_
      refine pc (oset_3 W xs ys a i v (by omega) (by omega) (by omega) ‹_› ‹_› ‹_› ‹_› ‹_› ‹_› (by omega)) ?_
      obtain ⟨h29, h30, h31⟩ := oErr_ok W xs ys a ‹_›
      refine rk [] 6 5 ⟨[(25, .i 8), (24, .p 7), (23, .i 8), (22, .f), (21, .u 0), (20, .i 8), (19, .f), (18, .u 0), (17, .i 0), (16, .p 6), (15, .i 0), (14, .p 5), (13, .i 0), (12, .p 4), (11, .i 0), (10, .p 3), (8, .t), (7, .u v), (6, .i i), (4, .u a), (3, .p 1), (2, .f)], [(7, .cells (mm W xs ys) 45), (6, .cells [.i (hT xs ys a), .i (hL xs ys a), .u (hM xs ys a)] 54), (5, .cells [.i (hT xs ys a), .i (hL xs ys a), .u (hM xs ys a)] 54), (4, .cells (mm W (px xs a t l m) (py ys a t l m)) 45), (3, .cells (mm W (px xs a t l m) (py ys a t l m)) 45), (1, .cells (mm W xs ys) 45)], 8⟩ [True] ⟨trivial, trivial⟩ ?_
      refine en ?_
      refine an ?_
      refine xw_seq ?_
      refine reg ?_
      refine rk [] 4 0 ⟨[(99, .u v), (98, .i i), (97, .u a), (96, .agg (mm W xs ys)), (25, .i 8), (24, .p 7), (23, .i 8), (22, .f), (21, .u 0), (20, .i 8), (19, .f), (18, .u 0), (17, .i 0), (16, .p 6), (15, .i 0), (14, .p 5), (13, .i 0), (12, .p 4), (11, .i 0), (10, .p 3), (8, .t), (2, .f)], [(7, .cells (mm W xs ys) 45), (6, .cells [.i (hT xs ys a), .i (hL xs ys a), .u (hM xs ys a)] 54), (5, .cells [.i (hT xs ys a), .i (hL xs ys a), .u (hM xs ys a)] 54), (4, .cells (mm W (px xs a t l m) (py ys a t l m)) 45), (3, .cells (mm W (px xs a t l m) (py ys a t l m)) 45)], 8⟩ [True] ⟨trivial, trivial⟩ ?_
      refine pc (roset_3 W xs ys a i v (by omega) (by omega) (by omega) ‹_› ‹_› ‹_› ‹_› ‹_› ‹_› (by omega)) ?_
      obtain ⟨h32, h33, h34⟩ := oErr_ok W xs ys a ‹_›
      refine rk [] 6 5 ⟨[(27, .i 8), (26, .p 8), (25, .i 8), (24, .p 7), (23, .i 8), (22, .f), (21, .u 0), (20, .i 8), (19, .f), (18, .u 0), (17, .i 0), (16, .p 6), (15, .i 0), (14, .p 5), (13, .i 0), (12, .p 4), (11, .i 0), (10, .p 3), (8, .t), (2, .f)], [(8, .cells (mm W xs ys) 45), (7, .cells (mm W xs ys) 45), (6, .cells [.i (hT xs ys a), .i (hL xs ys a), .u (hM xs ys a)] 54), (5, .cells [.i (hT xs ys a), .i (hL xs ys a), .u (hM xs ys a)] 54), (4, .cells (mm W (px xs a t l m) (py ys a t l m)) 45), (3, .cells (mm W (px xs a t l m) (py ys a t l m)) 45)], 9⟩ [True] ⟨trivial, trivial⟩ ?_
      refine en ?_
      refine an ?_
      refine xw_seq ?_
      refine reg ?_
      refine rk [] 2 0 ⟨[(104, .agg (mm W (px xs a t l m) (py ys a t l m))), (103, .agg (mm W (px xs a t l m) (py ys a t l m))), (27, .i 8), (26, .p 8), (25, .i 8), (24, .p 7), (23, .i 8), (22, .f), (21, .u 0), (20, .i 8), (19, .f), (18, .u 0), (17, .i 0), (16, .p 6), (15, .i 0), (14, .p 5), (13, .i 0), (11, .i 0), (8, .t), (2, .f)], [(8, .cells (mm W xs ys) 45), (7, .cells (mm W xs ys) 45), (6, .cells [.i (hT xs ys a), .i (hL xs ys a), .u (hM xs ys a)] 54), (5, .cells [.i (hT xs ys a), .i (hL xs ys a), .u (hM xs ys a)] 54)], 9⟩ [True, True] ⟨trivial, trivial, trivial⟩ ?_
      refine pc (rsame_1 W (px xs a t l m) (py ys a t l m) W (px xs a t l m) (py ys a t l m) ‹_› ‹_› ‹_› ‹_› (by omega) (by omega) (by omega) (by omega) ‹_› ‹_› ⟨rfl, rfl, rfl⟩) ?_
      refine rk [] 3 3 ⟨[(108, .agg (mm W xs ys)), (107, .agg (mm W xs ys)), (106, .t), (27, .i 8), (25, .i 8), (23, .i 8), (22, .f), (21, .u 0), (20, .i 8), (19, .f), (18, .u 0), (17, .i 0), (16, .p 6), (15, .i 0), (14, .p 5), (13, .i 0), (11, .i 0), (8, .t), (2, .f)], [(6, .cells [.i (hT xs ys a), .i (hL xs ys a), .u (hM xs ys a)] 54), (5, .cells [.i (hT xs ys a), .i (hL xs ys a), .u (hM xs ys a)] 54)], 9⟩ [True, True] ⟨trivial, trivial, trivial⟩ ?_
      refine pc (rsame_1 W xs ys W xs ys ‹_› ‹_› ‹_› ‹_› (by omega) (by omega) (by omega) (by omega) ‹_› ‹_› ⟨rfl, rfl, rfl⟩) ?_
      refine rk [] 2 7 ⟨[(28, .t), (27, .i 8), (25, .i 8), (23, .i 8), (22, .f), (21, .u 0), (20, .i 8), (19, .f), (18, .u 0), (17, .i 0), (16, .p 6), (15, .i 0), (14, .p 5), (13, .i 0), (11, .i 0), (8, .t), (2, .f)], [(6, .cells [.i (hT xs ys a), .i (hL xs ys a), .u (hM xs ys a)] 54), (5, .cells [.i (hT xs ys a), .i (hL xs ys a), .u (hM xs ys a)] 54)], 9⟩ [True] ⟨trivial, trivial⟩ ?_
      refine en ?_
      refine an ?_
      refine rg [(7, .t), (12, .t), (17, .t), (22, .t), (27, .t), (32, .t), (37, .t)] 40 ⟨[(2, .t)], [], 9⟩ [True, (0 == 0) = true, True, True, True, (((ldw xs ys a / 72057594037927936) == (ldw xs ys a / 72057594037927936)) && ((((ldw xs ys a / 4294967296) % 16777216) == ((ldw xs ys a / 4294967296) % 16777216)) && (((ldw xs ys a % 4294967296) == (ldw xs ys a % 4294967296)) && true))) = true, True, (0 == 0) = true, True, (0 == 0) = true, True, (false == false) = true, True, (8 == 8) = true, True, (8 == 8) = true, True] ⟨trivial, beq_iff_eq.2 (by omega), trivial, trivial, trivial, (by simp <;> omega), trivial, beq_iff_eq.2 (by omega), trivial, beq_iff_eq.2 (by omega), trivial, rfl, trivial, beq_iff_eq.2 (by omega), trivial, beq_iff_eq.2 (by omega), trivial, trivial⟩ ?_
      refine xw_ret ?_
      exact bs (.t) rfl
   ·
    refine pc (oat_2 W xs ys a (by omega) (by omega) (by omega) ‹_› ‹_› ‹_› ‹_›) ?_
    have h15 : (oErr W xs ys a) = 2 ∨ (oErr W xs ys a) = 10 := oErr_no W xs ys a (by omega)
    refine rk [] 6 3 ⟨[(15, .i (oErr W xs ys a)), (14, .p 5), (13, .i 0), (12, .p 4), (11, .i 0), (10, .p 3), (8, .t), (7, .u v), (6, .i i), (4, .u a), (3, .p 1), (2, .f)], [(5, .cells [.i 0, .i 0, .u 0] 54), (4, .cells (mm W (px xs a t l m) (py ys a t l m)) 45), (3, .cells (mm W (px xs a t l m) (py ys a t l m)) 45), (1, .cells (mm W xs ys) 45)], 6⟩ [True] ⟨trivial, trivial⟩ ?_
    refine en ?_
    refine an ?_
    refine xw_seq ?_
    refine reg ?_
    refine rk [] 2 0 ⟨[(67, .u a), (66, .agg (mm W xs ys)), (15, .i (oErr W xs ys a)), (14, .p 5), (13, .i 0), (12, .p 4), (11, .i 0), (10, .p 3), (8, .t), (7, .u v), (6, .i i), (4, .u a), (3, .p 1), (2, .f)], [(5, .cells [.i 0, .i 0, .u 0] 54), (4, .cells (mm W (px xs a t l m) (py ys a t l m)) 45), (3, .cells (mm W (px xs a t l m) (py ys a t l m)) 45), (1, .cells (mm W xs ys) 45)], 6⟩ [True] ⟨trivial, trivial⟩ ?_
    refine pc (roat_2 W xs ys a (by omega) (by omega) (by omega) ‹_› ‹_› ‹_› ‹_›) ?_
    have h16 : (oErr W xs ys a) = 2 ∨ (oErr W xs ys a) = 10 := oErr_no W xs ys a (by omega)
    refine rk [] 6 3 ⟨[(17, .i (oErr W xs ys a)), (16, .p 6), (15, .i (oErr W xs ys a)), (14, .p 5), (13, .i 0), (12, .p 4), (11, .i 0), (10, .p 3), (8, .t), (7, .u v), (6, .i i), (4, .u a), (3, .p 1), (2, .f)], [(6, .cells [.i 0, .i 0, .u 0] 54), (5, .cells [.i 0, .i 0, .u 0] 54), (4, .cells (mm W (px xs a t l m) (py ys a t l m)) 45), (3, .cells (mm W (px xs a t l m) (py ys a t l m)) 45), (1, .cells (mm W xs ys) 45)], 7⟩ [True] ⟨trivial, trivial⟩ ?_
    refine en ?_
    refine an ?_
    refine xw_seq ?_
    refine reg ?_
    refine rk [] 3 0 ⟨[(74, .i i), (73, .u a), (72, .agg (mm W xs ys)), (17, .i (oErr W xs ys a)), (16, .p 6), (15, .i (oErr W xs ys a)), (14, .p 5), (13, .i 0), (12, .p 4), (11, .i 0), (10, .p 3), (8, .t), (7, .u v), (6, .i i), (4, .u a), (3, .p 1), (2, .f)], [(6, .cells [.i 0, .i 0, .u 0] 54), (5, .cells [.i 0, .i 0, .u 0] 54), (4, .cells (mm W (px xs a t l m) (py ys a t l m)) 45), (3, .cells (mm W (px xs a t l m) (py ys a t l m)) 45), (1, .cells (mm W xs ys) 45)], 7⟩ [True] ⟨trivial, trivial⟩ ?_
    refine pc (oget_4 W xs ys a i (by omega) (by omega) (by omega) ‹_› ‹_› ‹_› ‹_› ‹_›) ?_
    have h17 : (oErr W xs ys a) = 2 ∨ (oErr W xs ys a) = 10 := oErr_no W xs ys a (by omega)
    refine rk [] 7 4 ⟨[(20, .i (oErr W xs ys a)), (19, .f), (18, .u 0), (17, .i (oErr W xs ys a)), (16, .p 6), (15, .i (oErr W xs ys a)), (14, .p 5), (13, .i 0), (12, .p 4), (11, .i 0), (10, .p 3), (8, .t), (7, .u v), (6, .i i), (4, .u a), (3, .p 1), (2, .f)], [(6, .cells [.i 0, .i 0, .u 0] 54), (5, .cells [.i 0, .i 0, .u 0] 54), (4, .cells (mm W (px xs a t l m) (py ys a t l m)) 45), (3, .cells (mm W (px xs a t l m) (py ys a t l m)) 45), (1, .cells (mm W xs ys) 45)], 7⟩ [] trivial ?_
    refine en ?_
    refine an ?_
    refine xw_seq ?_
    refine reg ?_
    refine rk [] 3 0 ⟨[(82, .i i), (81, .u a), (80, .agg (mm W xs ys)), (20, .i (oErr W xs ys a)), (19, .f), (18, .u 0), (17, .i (oErr W xs ys a)), (16, .p 6), (15, .i (oErr W xs ys a)), (14, .p 5), (13, .i 0), (12, .p 4), (11, .i 0), (10, .p 3), (8, .t), (7, .u v), (6, .i i), (4, .u a), (3, .p 1), (2, .f)], [(6, .cells [.i 0, .i 0, .u 0] 54), (5, .cells [.i 0, .i 0, .u 0] 54), (4, .cells (mm W (px xs a t l m) (py ys a t l m)) 45), (3, .cells (mm W (px xs a t l m) (py ys a t l m)) 45), (1, .cells (mm W xs ys) 45)], 7⟩ [True] ⟨trivial, trivial⟩ ?_
    refine pc (roget_4 W xs ys a i (by omega) (by omega) (by omega) ‹_› ‹_› ‹_› ‹_› ‹_›) ?_
    have h18 : (oErr W xs ys a) = 2 ∨ (oErr W xs ys a) = 10 := oErr_no W xs ys a (by omega)
    refine rk [] 7 4 ⟨[(23, .i (oErr W xs ys a)), (22, .f), (21, .u 0), (20, .i (oErr W xs ys a)), (19, .f), (18, .u 0), (17, .i (oErr W xs ys a)), (16, .p 6), (15, .i (oErr W xs ys a)), (14, .p 5), (13, .i 0), (12, .p 4), (11, .i 0), (10, .p 3), (8, .t), (7, .u v), (6, .i i), (4, .u a), (3, .p 1), (2, .f)], [(6, .cells [.i 0, .i 0, .u 0] 54), (5, .cells [.i 0, .i 0, .u 0] 54), (4, .cells (mm W (px xs a t l m) (py ys a t l m)) 45), (3, .cells (mm W (px xs a t l m) (py ys a t l m)) 45), (1, .cells (mm W xs ys) 45)], 7⟩ [] trivial ?_
    refine en ?_
    refine an ?_
    refine xw_seq ?_
    refine reg ?_
    refine rk [] 4 0 ⟨[(91, .u v), (90, .i i), (89, .u a), (88, .agg (mm W xs ys)), (23, .i (oErr W xs ys a)), (22, .f), (21, .u 0), (20, .i (oErr W xs ys a)), (19, .f), (18, .u 0), (17, .i (oErr W xs ys a)), (16, .p 6), (15, .i (oErr W xs ys a)), (14, .p 5), (13, .i 0), (12, .p 4), (11, .i 0), (10, .p 3), (8, .t), (7, .u v), (6, .i i), (4, .u a), (3, .p 1), (2, .f)], [(6, .cells [.i 0, .i 0, .u 0] 54), (5, .cells [.i 0, .i 0, .u 0] 54), (4, .cells (mm W (px xs a t l m) (py ys a t l m)) 45), (3, .cells (mm W (px xs a t l m) (py ys a t l m)) 45), (1, .cells (mm W xs ys) 45)], 7⟩ [True] ⟨trivial, trivial⟩ ?_
    refine pc (oset_4 W xs ys a i v (by omega) (by omega) (by omega) ‹_› ‹_› ‹_› ‹_› ‹_› ‹_›) ?_
    have h19 : (oErr W xs ys a) = 2 ∨ (oErr W xs ys a) = 10 := oErr_no W xs ys a (by omega)
    refine rk [] 6 5 ⟨[(25, .i (oErr W xs ys a)), (24, .p 7), (23, .i (oErr W xs ys a)), (22, .f), (21, .u 0), (20, .i (oErr W xs ys a)), (19, .f), (18, .u 0), (17, .i (oErr W xs ys a)), (16, .p 6), (15, .i (oErr W xs ys a)), (14, .p 5), (13, .i 0), (12, .p 4), (11, .i 0), (10, .p 3), (8, .t), (7, .u v), (6, .i i), (4, .u a), (3, .p 1), (2, .f)], [(7, .cells (mm W xs ys) 45), (6, .cells [.i 0, .i 0, .u 0] 54), (5, .cells [.i 0, .i 0, .u 0] 54), (4, .cells (mm W (px xs a t l m) (py ys a t l m)) 45), (3, .cells (mm W (px xs a t l m) (py ys a t l m)) 45), (1, .cells (mm W xs ys) 45)], 8⟩ [True] ⟨trivial, trivial⟩ ?_
    refine en ?_
    refine an ?_
    refine xw_seq ?_
    refine reg ?_
    refine rk [] 4 0 ⟨[(99, .u v), (98, .i i), (97, .u a), (96, .agg (mm W xs ys)), (25, .i (oErr W xs ys a)), (24, .p 7), (23, .i (oErr W xs ys a)), (22, .f), (21, .u 0), (20, .i (oErr W xs ys a)), (19, .f), (18, .u 0), (17, .i (oErr W xs ys a)), (16, .p 6), (15, .i (oErr W xs ys a)), (14, .p 5), (13, .i 0), (12, .p 4), (11, .i 0), (10, .p 3), (8, .t), (2, .f)], [(7, .cells (mm W xs ys) 45), (6, .cells [.i 0, .i 0, .u 0] 54), (5, .cells [.i 0, .i 0, .u 0] 54), (4, .cells (mm W (px xs a t l m) (py ys a t l m)) 45), (3, .cells (mm W (px xs a t l m) (py ys a t l m)) 45)], 8⟩ [True] ⟨trivial, trivial⟩ ?_
    refine pc (roset_4 W xs ys a i v (by omega) (by omega) (by omega) ‹_› ‹_› ‹_› ‹_› ‹_› ‹_›) ?_
    have h20 : (oErr W xs ys a) = 2 ∨ (oErr W xs ys a) = 10 := oErr_no W xs ys a (by omega)
    refine rk [] 6 5 ⟨[(27, .i (oErr W xs ys a)), (26, .p 8), (25, .i (oErr W xs ys a)), (24, .p 7), (23, .i (oErr W xs ys a)), (22, .f), (21, .u 0), (20, .i (oErr W xs ys a)), (19, .f), (18, .u 0), (17, .i (oErr W xs ys a)), (16, .p 6), (15, .i (oErr W xs ys a)), (14, .p 5), (13, .i 0), (12, .p 4), (11, .i 0), (10, .p 3), (8, .t), (2, .f)], [(8, .cells (mm W xs ys) 45), (7, .cells (mm W xs ys) 45), (6, .cells [.i 0, .i 0, .u 0] 54), (5, .cells [.i 0, .i 0, .u 0] 54), (4, .cells (mm W (px xs a t l m) (py ys a t l m)) 45), (3, .cells (mm W (px xs a t l m) (py ys a t l m)) 45)], 9⟩ [True] ⟨trivial, trivial⟩ ?_
    refine en ?_
    refine an ?_
    refine xw_seq ?_
    refine reg ?_
    refine rk [] 2 0 ⟨[(104, .agg (mm W (px xs a t l m) (py ys a t l m))), (103, .agg (mm W (px xs a t l m) (py ys a t l m))), (27, .i (oErr W xs ys a)), (26, .p 8), (25, .i (oErr W xs ys a)), (24, .p 7), (23, .i (oErr W xs ys a)), (22, .f), (21, .u 0), (20, .i (oErr W xs ys a)), (19, .f), (18, .u 0), (17, .i (oErr W xs ys a)), (16, .p 6), (15, .i (oErr W xs ys a)), (14, .p 5), (13, .i 0), (11, .i 0), (8, .t), (2, .f)], [(8, .cells (mm W xs ys) 45), (7, .cells (mm W xs ys) 45), (6, .cells [.i 0, .i 0, .u 0] 54), (5, .cells [.i 0, .i 0, .u 0] 54)], 9⟩ [True, True] ⟨trivial, trivial, trivial⟩ ?_
    refine pc (rsame_1 W (px xs a t l m) (py ys a t l m) W (px xs a t l m) (py ys a t l m) ‹_› ‹_› ‹_› ‹_› (by omega) (by omega) (by omega) (by omega) ‹_› ‹_› ⟨rfl, rfl, rfl⟩) ?_
    refine rk [] 3 3 ⟨[(108, .agg (mm W xs ys)), (107, .agg (mm W xs ys)), (106, .t), (27, .i (oErr W xs ys a)), (25, .i (oErr W xs ys a)), (23, .i (oErr W xs ys a)), (22, .f), (21, .u 0), (20, .i (oErr W xs ys a)), (19, .f), (18, .u 0), (17, .i (oErr W xs ys a)), (16, .p 6), (15, .i (oErr W xs ys a)), (14, .p 5), (13, .i 0), (11, .i 0), (8, .t), (2, .f)], [(6, .cells [.i 0, .i 0, .u 0] 54), (5, .cells [.i 0, .i 0, .u 0] 54)], 9⟩ [True, True] ⟨trivial, trivial, trivial⟩ ?_
    refine pc (rsame_1 W xs ys W xs ys ‹_› ‹_› ‹_› ‹_› (by omega) (by omega) (by omega) (by omega) ‹_› ‹_› ⟨rfl, rfl, rfl⟩) ?_
    refine rk [] 2 7 ⟨[(28, .t), (27, .i (oErr W xs ys a)), (25, .i (oErr W xs ys a)), (23, .i (oErr W xs ys a)), (22, .f), (21, .u 0), (20, .i (oErr W xs ys a)), (19, .f), (18, .u 0), (17, .i (oErr W xs ys a)), (16, .p 6), (15, .i (oErr W xs ys a)), (14, .p 5), (13, .i 0), (11, .i 0), (8, .t), (2, .f)], [(6, .cells [.i 0, .i 0, .u 0] 54), (5, .cells [.i 0, .i 0, .u 0] 54)], 9⟩ [True] ⟨trivial, trivial⟩ ?_
    refine en ?_
    refine an ?_
    refine rg [(7, .t), (12, .t), (17, .t), (22, .t), (27, .t), (32, .t), (37, .t)] 40 ⟨[(2, .t)], [], 9⟩ [True, (0 == 0) = true, True, True, True, ((0 == 0) && ((0 == 0) && ((0 == 0) && true))) = true, True, ((oErr W xs ys a) == (oErr W xs ys a)) = true, True, (0 == 0) = true, True, (false == false) = true, True, ((oErr W xs ys a) == (oErr W xs ys a)) = true, True, ((oErr W xs ys a) == (oErr W xs ys a)) = true, True] ⟨trivial, beq_iff_eq.2 (by omega), trivial, trivial, trivial, (by simp <;> omega), trivial, beq_iff_eq.2 (by omega), trivial, beq_iff_eq.2 (by omega), trivial, rfl, trivial, beq_iff_eq.2 (by omega), trivial, beq_iff_eq.2 (by omega), trivial, trivial⟩ ?_
    refine xw_ret ?_
    exact bs (.t) rfl
  ·
   by_cases h2 : ((t = 255 ∧ 0 ≤ l ∧ l ≤ 65535 ∧ m = 0) ∨ (1 ≤ t ∧ t ≤ 200 ∧ 0 ≤ l ∧ l ≤ 16 ∧ m < 2 ^ (Int.toNat l) ∧ m < 65536)) ∧ (¬ ((1 ≤ a / 4294967296 ∧ a / 4294967296 ≤ 2 ∧ a % 4294967296 < W) ∧ ((t = 255 ∧ (a % 4294967296) + l + 1 ≤ W) ∨ (t ≠ 255 ∧ (a % 4294967296) + l + 2 ≤ W))))
   ·
    refine pc (oput_2 W xs ys a t l m (by omega) (by omega) (by omega) ‹_› ‹_› ‹_› ‹_› ‹_› ‹_› (by first | omega | decide) (by omega)) ?_
    refine rk [] 6 4 ⟨[(11, .i 2), (10, .p 3), (8, .t), (7, .u v), (6, .i i), (5, .p 2), (4, .u a), (3, .p 1), (2, .f)], [(3, .cells (mm W xs ys) 45), (2, .cells [.i t, .i l, .u m] 54), (1, .cells (mm W xs ys) 45)], 4⟩ [True] ⟨trivial, trivial⟩ ?_
    refine en ?_
    refine an ?_
    refine xw_seq ?_
    refine reg ?_
    refine rk [] 3 0 ⟨[(55, .agg [.i t, .i l, .u m]), (54, .u a), (53, .agg (mm W xs ys)), (11, .i 2), (10, .p 3), (8, .t), (7, .u v), (6, .i i), (4, .u a), (3, .p 1), (2, .f)], [(3, .cells (mm W xs ys) 45), (1, .cells (mm W xs ys) 45)], 4⟩ [True, True] ⟨trivial, trivial, trivial⟩ ?_
    by_cases h3 : (1 ≤ a / 4294967296 ∧ a / 4294967296 ≤ 2 ∧ a % 4294967296 < W) ∧ ((t = 255 ∧ (a % 4294967296) + l + 1 ≤ W) ∨ (t ≠ 255 ∧ (a % 4294967296) + l + 2 ≤ W))
    ·
     exfalso; first | omega | simp_all | grind
    ·
     refine pc (roput_2 W xs ys a t l m (by omega) (by omega) (by omega) ‹_› ‹_› ‹_› ‹_› ‹_› ‹_› (by first | omega | decide) (by omega)) ?_
     refine rk [] 6 4 ⟨[(13, .i 2), (12, .p 4), (11, .i 2), (10, .p 3), (8, .t), (7, .u v), (6, .i i), (4, .u a), (3, .p 1), (2, .f)], [(4, .cells (mm W xs ys) 45), (3, .cells (mm W xs ys) 45), (1, .cells (mm W xs ys) 45)], 5⟩ [True] ⟨trivial, trivial⟩ ?_
     refine en ?_
     refine an ?_
     refine xw_seq ?_
     refine reg ?_
     refine rk [] 2 0 ⟨[(61, .u a), (60, .agg (mm W xs ys)), (13, .i 2), (12, .p 4), (11, .i 2), (10, .p 3), (8, .t), (7, .u v), (6, .i i), (4, .u a), (3, .p 1), (2, .f)], [(4, .cells (mm W xs ys) 45), (3, .cells (mm W xs ys) 45), (1, .cells (mm W xs ys) 45)], 5⟩ [True] ⟨trivial, trivial⟩ ?_
     by_cases h4 : (oErr W xs ys a) = 0
     ·
      refine pc (oat_1 W xs ys a (by omega) (by omega) (by omega) ‹_› ‹_› ‹_› ‹_›) ?_
      obtain ⟨h5, h6, h7⟩ := oErr_ok W xs ys a ‹_›
      refine rk [] 6 3 ⟨[(15, .i 0), (14, .p 5), (13, .i 2), (12, .p 4), (11, .i 2), (10, .p 3), (8, .t), (7, .u v), (6, .i i), (4, .u a), (3, .p 1), (2, .f)], [(5, .cells [.i (hT xs ys a), .i (hL xs ys a), .u (hM xs ys a)] 54), (4, .cells (mm W xs ys) 45), (3, .cells (mm W xs ys) 45), (1, .cells (mm W xs ys) 45)], 6⟩ [True] ⟨trivial, trivial⟩ ?_
      refine en ?_
      refine an ?_
      refine xw_seq ?_
      refine reg ?_
      refine rk [] 2 0 ⟨[(67, .u a), (66, .agg (mm W xs ys)), (15, .i 0), (14, .p 5), (13, .i 2), (12, .p 4), (11, .i 2), (10, .p 3), (8, .t), (7, .u v), (6, .i i), (4, .u a), (3, .p 1), (2, .f)], [(5, .cells [.i (hT xs ys a), .i (hL xs ys a), .u (hM xs ys a)] 54), (4, .cells (mm W xs ys) 45), (3, .cells (mm W xs ys) 45), (1, .cells (mm W xs ys) 45)], 6⟩ [True] ⟨trivial, trivial⟩ ?_
      refine pc (roat_1 W xs ys a (by omega) (by omega) (by omega) ‹_› ‹_› ‹_› ‹_›) ?_
      obtain ⟨h8, h9, h10⟩ := oErr_ok W xs ys a ‹_›
      refine rk [] 6 3 ⟨[(17, .i 0), (16, .p 6), (15, .i 0), (14, .p 5), (13, .i 2), (12, .p 4), (11, .i 2), (10, .p 3), (8, .t), (7, .u v), (6, .i i), (4, .u a), (3, .p 1), (2, .f)], [(6, .cells [.i (hT xs ys a), .i (hL xs ys a), .u (hM xs ys a)] 54), (5, .cells [.i (hT xs ys a), .i (hL xs ys a), .u (hM xs ys a)] 54), (4, .cells (mm W xs ys) 45), (3, .cells (mm W xs ys) 45), (1, .cells (mm W xs ys) 45)], 7⟩ [True] ⟨trivial, trivial⟩ ?_
      refine en ?_
      refine an ?_
      refine xw_seq ?_
      refine reg ?_
      refine rk [] 3 0 ⟨[(74, .i i), (73, .u a), (72, .agg (mm W xs ys)), (17, .i 0), (16, .p 6), (15, .i 0), (14, .p 5), (13, .i 2), (12, .p 4), (11, .i 2), (10, .p 3), (8, .t), (7, .u v), (6, .i i), (4, .u a), (3, .p 1), (2, .f)], [(6, .cells [.i (hT xs ys a), .i (hL xs ys a), .u (hM xs ys a)] 54), (5, .cells [.i (hT xs ys a), .i (hL xs ys a), .u (hM xs ys a)] 54), (4, .cells (mm W xs ys) 45), (3, .cells (mm W xs ys) 45), (1, .cells (mm W xs ys) 45)], 7⟩ [True] ⟨trivial, trivial⟩ ?_
      by_cases h11 : ((ldw xs ys a / 72057594037927936) ≠ 255) ∧ (0 ≤ i ∧ i < ((ldw xs ys a / 4294967296) % 16777216))
      ·
       refine pc (oget_1 W xs ys a i (by omega) (by omega) (by omega) ‹_› ‹_› ‹_› ‹_› ‹_› (by omega) (by omega)) ?_
       obtain ⟨h12, h13, h14⟩ := oErr_ok W xs ys a ‹_›
       have h15 : 0 ≤ (ldw xs ys (a + 2 + i)) ∧ (ldw xs ys (a + 2 + i)) ≤ 18446744073709551615 := ldw_ok xs ys (a + 2 + i) ‹_› ‹_›
       have h16 : 1 ≤ (a + 2 + i) / 4294967296 ∧ (a + 2 + i) / 4294967296 ≤ 2 ∧ (a + 2 + i) % 4294967296 < W := by omega
       refine rk [] 7 4 ⟨[(20, .i 0), (19, .bool (isPtr (hL xs ys a) (hM xs ys a) i)), (18, .u (ldw xs ys (a + 2 + i))), (17, .i 0), (16, .p 6), (15, .i 0), (14, .p 5), (13, .i 2), (12, .p 4), (11, .i 2), (10, .p 3), (8, .t), (7, .u v), (6, .i i), (4, .u a), (3, .p 1), (2, .f)], [(6, .cells [.i (hT xs ys a), .i (hL xs ys a), .u (hM xs ys a)] 54), (5, .cells [.i (hT xs ys a), .i (hL xs ys a), .u (hM xs ys a)] 54), (4, .cells (mm W xs ys) 45), (3, .cells (mm W xs ys) 45), (1, .cells (mm W xs ys) 45)], 7⟩ [] trivial ?_
       refine en ?_
       refine an ?_
       refine xw_seq ?_
       refine reg ?_
       refine rk [] 3 0 ⟨[(82, .i i), (81, .u a), (80, .agg (mm W xs ys)), (20, .i 0), (19, .bool (isPtr (hL xs ys a) (hM xs ys a) i)), (18, .u (ldw xs ys (a + 2 + i))), (17, .i 0), (16, .p 6), (15, .i 0), (14, .p 5), (13, .i 2), (12, .p 4), (11, .i 2), (10, .p 3), (8, .t), (7, .u v), (6, .i i), (4, .u a), (3, .p 1), (2, .f)], [(6, .cells [.i (hT xs ys a), .i (hL xs ys a), .u (hM xs ys a)] 54), (5, .cells [.i (hT xs ys a), .i (hL xs ys a), .u (hM xs ys a)] 54), (4, .cells (mm W xs ys) 45), (3, .cells (mm W xs ys) 45), (1, .cells (mm W xs ys) 45)], 7⟩ [True] ⟨trivial, trivial⟩ ?_
       refine pc (roget_1 W xs ys a i (by omega) (by omega) (by omega) ‹_› ‹_› ‹_› ‹_› ‹_› (by omega) (by omega)) ?_
       obtain ⟨h17, h18, h19⟩ := oErr_ok W xs ys a ‹_›
       have h20 : 0 ≤ (ldw xs ys (a + 2 + i)) ∧ (ldw xs ys (a + 2 + i)) ≤ 18446744073709551615 := ldw_ok xs ys (a + 2 + i) ‹_› ‹_›
       have h21 : 1 ≤ (a + 2 + i) / 4294967296 ∧ (a + 2 + i) / 4294967296 ≤ 2 ∧ (a + 2 + i) % 4294967296 < W := by omega
       refine rk [] 7 4 ⟨[(23, .i 0), (22, .bool (isPtr (hL xs ys a) (hM xs ys a) i)), (21, .u (ldw xs ys (a + 2 + i))), (20, .i 0), (19, .bool (isPtr (hL xs ys a) (hM xs ys a) i)), (18, .u (ldw xs ys (a + 2 + i))), (17, .i 0), (16, .p 6), (15, .i 0), (14, .p 5), (13, .i 2), (12, .p 4), (11, .i 2), (10, .p 3), (8, .t), (7, .u v), (6, .i i), (4, .u a), (3, .p 1), (2, .f)], [(6, .cells [.i (hT xs ys a), .i (hL xs ys a), .u (hM xs ys a)] 54), (5, .cells [.i (hT xs ys a), .i (hL xs ys a), .u (hM xs ys a)] 54), (4, .cells (mm W xs ys) 45), (3, .cells (mm W xs ys) 45), (1, .cells (mm W xs ys) 45)], 7⟩ [] trivial ?_
       refine en ?_
       refine an ?_
       refine xw_seq ?_
       refine reg ?_
       refine rk [] 4 0 ⟨[(91, .u v), (90, .i i), (89, .u a), (88, .agg (mm W xs ys)), (23, .i 0), (22, .bool (isPtr (hL xs ys a) (hM xs ys a) i)), (21, .u (ldw xs ys (a + 2 + i))), (20, .i 0), (19, .bool (isPtr (hL xs ys a) (hM xs ys a) i)), (18, .u (ldw xs ys (a + 2 + i))), (17, .i 0), (16, .p 6), (15, .i 0), (14, .p 5), (13, .i 2), (12, .p 4), (11, .i 2), (10, .p 3), (8, .t), (7, .u v), (6, .i i), (4, .u a), (3, .p 1), (2, .f)], [(6, .cells [.i (hT xs ys a), .i (hL xs ys a), .u (hM xs ys a)] 54), (5, .cells [.i (hT xs ys a), .i (hL xs ys a), .u (hM xs ys a)] 54), (4, .cells (mm W xs ys) 45), (3, .cells (mm W xs ys) 45), (1, .cells (mm W xs ys) 45)], 7⟩ [True] ⟨trivial, trivial⟩ ?_
       refine pc (oset_1 W xs ys a i v (by omega) (by omega) (by omega) ‹_› ‹_› ‹_› ‹_› ‹_› ‹_› (by omega) (by omega)) ?_
       obtain ⟨h22, h23, h24⟩ := oErr_ok W xs ys a ‹_›
       obtain ⟨h25, h26, h27, h28⟩ := stx_ok W xs ys (a + 2 + i) v (by omega) (by omega) ‹_› ‹_› (by omega)
       refine rk [] 6 5 ⟨[(25, .i 0), (24, .p 7), (23, .i 0), (22, .bool (isPtr (hL xs ys a) (hM xs ys a) i)), (21, .u (ldw xs ys (a + 2 + i))), (20, .i 0), (19, .bool (isPtr (hL xs ys a) (hM xs ys a) i)), (18, .u (ldw xs ys (a + 2 + i))), (17, .i 0), (16, .p 6), (15, .i 0), (14, .p 5), (13, .i 2), (12, .p 4), (11, .i 2), (10, .p 3), (8, .t), (7, .u v), (6, .i i), (4, .u a), (3, .p 1), (2, .f)], [(7, .cells (mm W (stx xs (a + 2 + i) v) (sty ys (a + 2 + i) v)) 45), (6, .cells [.i (hT xs ys a), .i (hL xs ys a), .u (hM xs ys a)] 54), (5, .cells [.i (hT xs ys a), .i (hL xs ys a), .u (hM xs ys a)] 54), (4, .cells (mm W xs ys) 45), (3, .cells (mm W xs ys) 45), (1, .cells (mm W xs ys) 45)], 8⟩ [True] ⟨trivial, trivial⟩ ?_
       refine en ?_
       refine an ?_
       refine xw_seq ?_
       refine reg ?_
       refine rk [] 4 0 ⟨[(99, .u v), (98, .i i), (97, .u a), (96, .agg (mm W xs ys)), (25, .i 0), (24, .p 7), (23, .i 0), (22, .bool (isPtr (hL xs ys a) (hM xs ys a) i)), (21, .u (ldw xs ys (a + 2 + i))), (20, .i 0), (19, .bool (isPtr (hL xs ys a) (hM xs ys a) i)), (18, .u (ldw xs ys (a + 2 + i))), (17, .i 0), (16, .p 6), (15, .i 0), (14, .p 5), (13, .i 2), (12, .p 4), (11, .i 2), (10, .p 3), (8, .t), (2, .f)], [(7, .cells (mm W (stx xs (a + 2 + i) v) (sty ys (a + 2 + i) v)) 45), (6, .cells [.i (hT xs ys a), .i (hL xs ys a), .u (hM xs ys a)] 54), (5, .cells [.i (hT xs ys a), .i (hL xs ys a), .u (hM xs ys a)] 54), (4, .cells (mm W xs ys) 45), (3, .cells (mm W xs ys) 45)], 8⟩ [True] ⟨trivial, trivial⟩ ?_
       refine pc (roset_1 W xs ys a i v (by omega) (by omega) (by omega) ‹_› ‹_› ‹_› ‹_› ‹_› ‹_› (by omega) (by omega)) ?_
       obtain ⟨h29, h30, h31⟩ := oErr_ok W xs ys a ‹_›
       obtain ⟨h32, h33, h34, h35⟩ := stx_ok W xs ys (a + 2 + i) v (by omega) (by omega) ‹_› ‹_› (by omega)
       refine rk [] 6 5 ⟨[(27, .i 0), (26, .p 8), (25, .i 0), (24, .p 7), (23, .i 0), (22, .bool (isPtr (hL xs ys a) (hM xs ys a) i)), (21, .u (ldw xs ys (a + 2 + i))), (20, .i 0), (19, .bool (isPtr (hL xs ys a) (hM xs ys a) i)), (18, .u (ldw xs ys (a + 2 + i))), (17, .i 0), (16, .p 6), (15, .i 0), (14, .p 5), (13, .i 2), (12, .p 4), (11, .i 2), (10, .p 3), (8, .t), (2, .f)], [(8, .cells (mm W (stx xs (a + 2 + i) v) (sty ys (a + 2 + i) v)) 45), (7, .cells (mm W (stx xs (a + 2 + i) v) (sty ys (a + 2 + i) v)) 45), (6, .cells [.i (hT xs ys a), .i (hL xs ys a), .u (hM xs ys a)] 54), (5, .cells [.i (hT xs ys a), .i (hL xs ys a), .u (hM xs ys a)] 54), (4, .cells (mm W xs ys) 45), (3, .cells (mm W xs ys) 45)], 9⟩ [True] ⟨trivial, trivial⟩ ?_
       refine en ?_
       refine an ?_
       refine xw_seq ?_
       refine reg ?_
       refine rk [] 2 0 ⟨[(104, .agg (mm W xs ys)), (103, .agg (mm W xs ys)), (27, .i 0), (26, .p 8), (25, .i 0), (24, .p 7), (23, .i 0), (22, .bool (isPtr (hL xs ys a) (hM xs ys a) i)), (21, .u (ldw xs ys (a + 2 + i))), (20, .i 0), (19, .bool (isPtr (hL xs ys a) (hM xs ys a) i)), (18, .u (ldw xs ys (a + 2 + i))), (17, .i 0), (16, .p 6), (15, .i 0), (14, .p 5), (13, .i 2), (11, .i 2), (8, .t), (2, .f)], [(8, .cells (mm W (stx xs (a + 2 + i) v) (sty ys (a + 2 + i) v)) 45), (7, .cells (mm W (stx xs (a + 2 + i) v) (sty ys (a + 2 + i) v)) 45), (6, .cells [.i (hT xs ys a), .i (hL xs ys a), .u (hM xs ys a)] 54), (5, .cells [.i (hT xs ys a), .i (hL xs ys a), .u (hM xs ys a)] 54)], 9⟩ [True, True] ⟨trivial, trivial, trivial⟩ ?_
       refine pc (rsame_1 W xs ys W xs ys ‹_› ‹_› ‹_› ‹_› (by omega) (by omega) (by omega) (by omega) ‹_› ‹_› ⟨rfl, rfl, rfl⟩) ?_
       refine rk [] 3 3 ⟨[(108, .agg (mm W (stx xs (a + 2 + i) v) (sty ys (a + 2 + i) v))), (107, .agg (mm W (stx xs (a + 2 + i) v) (sty ys (a + 2 + i) v))), (106, .t), (27, .i 0), (25, .i 0), (23, .i 0), (22, .bool (isPtr (hL xs ys a) (hM xs ys a) i)), (21, .u (ldw xs ys (a + 2 + i))), (20, .i 0), (19, .bool (isPtr (hL xs ys a) (hM xs ys a) i)), (18, .u (ldw xs ys (a + 2 + i))), (17, .i 0), (16, .p 6), (15, .i 0), (14, .p 5), (13, .i 2), (11, .i 2), (8, .t), (2, .f)], [(6, .cells [.i (hT xs ys a), .i (hL xs ys a), .u (hM xs ys a)] 54), (5, .cells [.i (hT xs ys a), .i (hL xs ys a), .u (hM xs ys a)] 54)], 9⟩ [True, True] ⟨trivial, trivial, trivial⟩ ?_
       refine pc (rsame_1 W (stx xs (a + 2 + i) v) (sty ys (a + 2 + i) v) W (stx xs (a + 2 + i) v) (sty ys (a + 2 + i) v) ‹_› ‹_› ‹_› ‹_› (by omega) (by omega) (by omega) (by omega) ‹_› ‹_› ⟨rfl, rfl, rfl⟩) ?_
       refine rk [] 2 7 ⟨[(28, .t), (27, .i 0), (25, .i 0), (23, .i 0), (22, .bool (isPtr (hL xs ys a) (hM xs ys a) i)), (21, .u (ldw xs ys (a + 2 + i))), (20, .i 0), (19, .bool (isPtr (hL xs ys a) (hM xs ys a) i)), (18, .u (ldw xs ys (a + 2 + i))), (17, .i 0), (16, .p 6), (15, .i 0), (14, .p 5), (13, .i 2), (11, .i 2), (8, .t), (2, .f)], [(6, .cells [.i (hT xs ys a), .i (hL xs ys a), .u (hM xs ys a)] 54), (5, .cells [.i (hT xs ys a), .i (hL xs ys a), .u (hM xs ys a)] 54)], 9⟩ [True] ⟨trivial, trivial⟩ ?_
       refine en ?_
       refine an ?_
       refine xw_seq ?_
       refine reg ?_
       refine rk [(7, .t), (12, .t), (17, .t), (22, .t), (27, .bool ((isPtr ((ldw xs ys a / 4294967296) % 16777216) (ldw xs ys a % 4294967296) i) == (isPtr ((ldw xs ys a / 4294967296) % 16777216) (ldw xs ys a % 4294967296) i)))] 30 0 ⟨[(140, .bool ((isPtr (hL xs ys a) (hM xs ys a) i) == (isPtr (hL xs ys a) (hM xs ys a) i))), (27, .i 0), (25, .i 0), (23, .i 0), (20, .i 0), (2, .f)], [], 9⟩ [True, (2 == 2) = true, True, True, True, (((ldw xs ys a / 72057594037927936) == (ldw xs ys a / 72057594037927936)) && ((((ldw xs ys a / 4294967296) % 16777216) == ((ldw xs ys a / 4294967296) % 16777216)) && (((ldw xs ys a % 4294967296) == (ldw xs ys a % 4294967296)) && true))) = true, True, (0 == 0) = true, True, ((ldw xs ys (a + 2 + i)) == (ldw xs ys (a + 2 + i))) = true, True, ((isPtr ((ldw xs ys a / 4294967296) % 16777216) (ldw xs ys a % 4294967296) i) == (isPtr ((ldw xs ys a / 4294967296) % 16777216) (ldw xs ys a % 4294967296) i)) = ((isPtr ((ldw xs ys a / 4294967296) % 16777216) (ldw xs ys a % 4294967296) i) == (isPtr ((ldw xs ys a / 4294967296) % 16777216) (ldw xs ys a % 4294967296) i)), True] ⟨trivial, beq_iff_eq.2 (by omega), trivial, trivial, trivial, (by simp <;> omega), trivial, beq_iff_eq.2 (by omega), trivial, beq_iff_eq.2 (by omega), trivial, rfl, trivial, trivial⟩ ?_
       refine splitr 140 (x := ((isPtr ((ldw xs ys a / 4294967296) % 16777216) (ldw xs ys a % 4294967296) i) == (isPtr ((ldw xs ys a / 4294967296) % 16777216) (ldw xs ys a % 4294967296) i))) (by kernel_rfl) (fun h36 => ?_) (fun h36 => ?_)
       ·
        replace h36 : (isPtr ((ldw xs ys a / 4294967296) % 16777216) (ldw xs ys a % 4294967296) i) = (isPtr ((ldw xs ys a / 4294967296) % 16777216) (ldw xs ys a % 4294967296) i) := eq_of_beq h36
        refine rk [(32, .t), (37, .t)] 10 30 ⟨[(2, .t)], [], 9⟩ [(0 == 0) = true, True, (0 == 0) = true, True] ⟨beq_iff_eq.2 (by omega), trivial, beq_iff_eq.2 (by omega), trivial, trivial⟩ ?_
        refine en ?_
        refine an ?_
        refine xw_ret ?_
        exact bs (.t) rfl
       ·
        replace h36 : (isPtr ((ldw xs ys a / 4294967296) % 16777216) (ldw xs ys a % 4294967296) i) ≠ (isPtr ((ldw xs ys a / 4294967296) % 16777216) (ldw xs ys a % 4294967296) i) := ne_of_beq_false h36
        exfalso; first | omega | simp_all | grind
      ·
       by_cases h12 : ((ldw xs ys a / 72057594037927936) ≠ 255) ∧ (¬ (0 ≤ i ∧ i < ((ldw xs ys a / 4294967296) % 16777216)))
       ·
        refine pc (oget_2 W xs ys a i (by omega) (by omega) (by omega) ‹_› ‹_› ‹_› ‹_› ‹_› (by omega) (by omega)) ?_
        obtain ⟨h13, h14, h15⟩ := oErr_ok W xs ys a ‹_›
        refine rk [] 7 4 ⟨[(20, .i 7), (19, .f), (18, .u 0), (17, .i 0), (16, .p 6), (15, .i 0), (14, .p 5), (13, .i 2), (12, .p 4), (11, .i 2), (10, .p 3), (8, .t), (7, .u v), (6, .i i), (4, .u a), (3, .p 1), (2, .f)], [(6, .cells [.i (hT xs ys a), .i (hL xs ys a), .u (hM xs ys a)] 54), (5, .cells [.i (hT xs ys a), .i (hL xs ys a), .u (hM xs ys a)] 54), (4, .cells (mm W xs ys) 45), (3, .cells (mm W xs ys) 45), (1, .cells (mm W xs ys) 45)], 7⟩ [] trivial ?_
        refine en ?_
        refine an ?_
        refine xw_seq ?_
        refine reg ?_
        refine rk [] 3 0 ⟨[(82, .i i), (81, .u a), (80, .agg (mm W xs ys)), (20, .i 7), (19, .f), (18, .u 0), (17, .i 0), (16, .p 6), (15, .i 0), (14, .p 5), (13, .i 2), (12, .p 4), (11, .i 2), (10, .p 3), (8, .t), (7, .u v), (6, .i i), (4, .u a), (3, .p 1), (2, .f)], [(6, .cells [.i (hT xs ys a), .i (hL xs ys a), .u (hM xs ys a)] 54), (5, .cells [.i (hT xs ys a), .i (hL xs ys a), .u (hM xs ys a)] 54), (4, .cells (mm W xs ys) 45), (3, .cells (mm W xs ys) 45), (1, .cells (mm W xs ys) 45)], 7⟩ [True] ⟨trivial, trivial⟩ ?_
        refine pc (roget_2 W xs ys a i (by omega) (by omega) (by omega) ‹_› ‹_› ‹_› ‹_› ‹_› (by omega) (by omega)) ?_
        obtain ⟨h16, h17, h18⟩ := oErr_ok W xs ys a ‹_›
        refine rk [] 7 4 ⟨[(23, .i 7), (22, .f), (21, .u 0), (20, .i 7), (19, .f), (18, .u 0), (17, .i 0), (16, .p 6), (15, .i 0), (14, .p 5), (13, .i 2), (12, .p 4), (11, .i 2), (10, .p 3), (8, .t), (7, .u v), (6, .i i), (4, .u a), (3, .p 1), (2, .f)], [(6, .cells [.i (hT xs ys a), .i (hL xs ys a), .u (hM xs ys a)] 54), (5, .cells [.i (hT xs ys a), .i (hL xs ys a), .u (hM xs ys a)] 54), (4, .cells (mm W xs ys) 45), (3, .cells (mm W xs ys) 45), (1, .cells (mm W xs ys) 45)], 7⟩ [] trivial ?_
        refine en ?_
        refine an ?_
        refine xw_seq ?_
        refine reg ?_
        refine rk [] 4 0 ⟨[(91, .u v), (90, .i i), (89, .u a), (88, .agg (mm W xs ys)), (23, .i 7), (22, .f), (21, .u 0), (20, .i 7), (19, .f), (18, .u 0), (17, .i 0), (16, .p 6), (15, .i 0), (14, .p 5), (13, .i 2), (12, .p 4), (11, .i 2), (10, .p 3), (8, .t), (7, .u v), (6, .i i), (4, .u a), (3, .p 1), (2, .f)], [(6, .cells [.i (hT xs ys a), .i (hL xs ys a), .u (hM xs ys a)] 54), (5, .cells [.i (hT xs ys a), .i (hL xs ys a), .u (hM xs ys a)] 54), (4, .cells (mm W xs ys) 45), (3, .cells (mm W xs ys) 45), (1, .cells (mm W xs ys) 45)], 7⟩ [True] ⟨trivial, trivial⟩ ?_
        refine pc (oset_2 W xs ys a i v (by omega) (by omega) (by omega) ‹_› ‹_› ‹_› ‹_› ‹_› ‹_› (by omega) (by omega)) ?_
        obtain ⟨h19, h20, h21⟩ := oErr_ok W xs ys a ‹_›
        refine rk [] 6 5 ⟨[(25, .i 7), (24, .p 7), (23, .i 7), (22, .f), (21, .u 0), (20, .i 7), (19, .f), (18, .u 0), (17, .i 0), (16, .p 6), (15, .i 0), (14, .p 5), (13, .i 2), (12, .p 4), (11, .i 2), (10, .p 3), (8, .t), (7, .u v), (6, .i i), (4, .u a), (3, .p 1), (2, .f)], [(7, .cells (mm W xs ys) 45), (6, .cells [.i (hT xs ys a), .i (hL xs ys a), .u (hM xs ys a)] 54), (5, .cells [.i (hT xs ys a), .i (hL xs ys a), .u (hM xs ys a)] 54), (4, .cells (mm W xs ys) 45), (3, .cells (mm W xs ys) 45), (1, .cells (mm W xs ys) 45)], 8⟩ [True] ⟨trivial, trivial⟩ ?_
        refine en ?_
        refine an ?_
        refine xw_seq ?_
        refine reg ?_
        refine rk [] 4 0 ⟨[(99, .u v), (98, .i i), (97, .u a), (96, .agg (mm W xs ys)), (25, .i 7), (24, .p 7), (23, .i 7), (22, .f), (21, .u 0), (20, .i 7), (19, .f), (18, .u 0), (17, .i 0), (16, .p 6), (15, .i 0), (14, .p 5), (13, .i 2), (12, .p 4), (11, .i 2), (10, .p 3), (8, .t), (2, .f)], [(7, .cells (mm W xs ys) 45), (6, .cells [.i (hT xs ys a), .i (hL xs ys a), .u (hM xs ys a)] 54), (5, .cells [.i (hT xs ys a), .i (hL xs ys a), .u (hM xs ys a)] 54), (4, .cells (mm W xs ys) 45), (3, .cells (mm W xs ys) 45)], 8⟩ [True] ⟨trivial, trivial⟩ ?_
        refine pc (roset_2 W xs ys a i v (by omega) (by omega) (by omega) ‹_› ‹_› ‹_› ‹_› ‹_› ‹_› (by omega) (by omega)) ?_
        obtain ⟨h22, h23, h24⟩ := oErr_ok W xs ys a ‹_›
        refine rk [] 6 5 ⟨[(27, .i 7), (26, .p 8), (25, .i 7), (24, .p 7), (23, .i 7), (22, .f), (21, .u 0), (20, .i 7), (19, .f), (18, .u 0), (17, .i 0), (16, .p 6), (15, .i 0), (14, .p 5), (13, .i 2), (12, .p 4), (11, .i 2), (10, .p 3), (8, .t), (2, .f)], [(8, .cells (mm W xs ys) 45), (7, .cells (mm W xs ys) 45), (6, .cells [.i (hT xs ys a), .i (hL xs ys a), .u (hM xs ys a)] 54), (5, .cells [.i (hT xs ys a), .i (hL xs ys a), .u (hM xs ys a)] 54), (4, .cells (mm W xs ys) 45), (3, .cells (mm W xs ys) 45)], 9⟩ [True] ⟨trivial, trivial⟩ ?_
        refine en ?_
        refine an ?_
        refine xw_seq ?_
        refine reg ?_
        refine rk [] 2 0 ⟨[(104, .agg (mm W xs ys)), (103, .agg (mm W xs ys)), (27, .i 7), (26, .p 8), (25, .i 7), (24, .p 7), (23, .i 7), (22, .f), (21, .u 0), (20, .i 7), (19, .f), (18, .u 0), (17, .i 0), (16, .p 6), (15, .i 0), (14, .p 5), (13, .i 2), (11, .i 2), (8, .t), (2, .f)], [(8, .cells (mm W xs ys) 45), (7, .cells (mm W xs ys) 45), (6, .cells [.i (hT xs ys a), .i (hL xs ys a), .u (hM xs ys a)] 54), (5, .cells [.i (hT xs ys a), .i (hL xs ys a), .u (hM xs ys a)] 54)], 9⟩ [True, True] ⟨trivial, trivial, trivial⟩ ?_
        refine pc (rsame_1 W xs ys W xs ys ‹_› ‹_› ‹_› ‹_› (by omega) (by omega) (by omega) (by omega) ‹_› ‹_› ⟨rfl, rfl, rfl⟩) ?_
        refine rk [] 3 3 ⟨[(108, .agg (mm W xs ys)), (107, .agg (mm W xs ys)), (106, .t), (27, .i 7), (25, .i 7), (23, .i 7), (22, .f), (21, .u 0), (20, .i 7), (19, .f), (18, .u 0), (17, .i 0), (16, .p 6), (15, .i 0), (14, .p 5), (13, .i 2), (11, .i 2), (8, .t), (2, .f)], [(6, .cells [.i (hT xs ys a), .i (hL xs ys a), .u (hM xs ys a)] 54), (5, .cells [.i (hT xs ys a), .i (hL xs ys a), .u (hM xs ys a)] 54)], 9⟩ [True, True] ⟨trivial, trivial, trivial⟩ ?_
        refine pc (rsame_1 W xs ys W xs ys ‹_› ‹_› ‹_› ‹_› (by omega) (by omega) (by omega) (by omega) ‹_› ‹_› ⟨rfl, rfl, rfl⟩) ?_
        refine rk [] 2 7 ⟨[(28, .t), (27, .i 7), (25, .i 7), (23, .i 7), (22, .f), (21, .u 0), (20, .i 7), (19, .f), (18, .u 0), (17, .i 0), (16, .p 6), (15, .i 0), (14, .p 5), (13, .i 2), (11, .i 2), (8, .t), (2, .f)], [(6, .cells [.i (hT xs ys a), .i (hL xs ys a), .u (hM xs ys a)] 54), (5, .cells [.i (hT xs ys a), .i (hL xs ys a), .u (hM xs ys a)] 54)], 9⟩ [True] ⟨trivial, trivial⟩ ?_
        refine en ?_
        refine an ?_
        refine rg [(7, .t), (12, .t), (17, .t), (22, .t), (27, .t), (32, .t), (37, .t)] 40 ⟨[(2, .t)], [], 9⟩ [True, (2 == 2) = true, True, True, True, (((ldw xs ys a / 72057594037927936) == (ldw xs ys a / 72057594037927936)) && ((((ldw xs ys a / 4294967296) % 16777216) == ((ldw xs ys a / 4294967296) % 16777216)) && (((ldw xs ys a % 4294967296) == (ldw xs ys a % 4294967296)) && true))) = true, True, (0 == 0) = true, True, (0 == 0) = true, True, (false == false) = true, True, (7 == 7) = true, True, (7 == 7) = true, True] ⟨trivial, beq_iff_eq.2 (by omega), trivial, trivial, trivial, (by simp <;> omega), trivial, beq_iff_eq.2 (by omega), trivial, beq_iff_eq.2 (by omega), trivial, rfl, trivial, beq_iff_eq.2 (by omega), trivial, beq_iff_eq.2 (by omega), trivial, trivial⟩ ?_
        refine xw_ret ?_
        exact bs (.t) rfl
       ·
        refine pc (oget_3 W xs ys a i (by omega) (by omega) (by omega) ‹_› ‹_› ‹_› ‹_› ‹_› (by omega)) ?_
        obtain ⟨h13, h14, h15⟩ := oErr_ok W xs ys a ‹_›
        refine rk [] 7 4 ⟨[(20, .i 8), (19, .f), (18, .u 0), (17, .i 0), (16, .p 6), (15, .i 0), (14, .p 5), (13, .i 2), (12, .p 4), (11, .i 2), (10, .p 3), (8, .t), (7, .u v), (6, .i i), (4, .u a), (3, .p 1), (2, .f)], [(6, .cells [.i (hT xs ys a), .i (hL xs ys a), .u (hM xs ys a)] 54), (5, .cells [.i (hT xs ys a), .i (hL xs ys a), .u (hM xs ys a)] 54), (4, .cells (mm W xs ys) 45), (3, .cells (mm W xs ys) 45), (1, .cells (mm W xs ys) 45)], 7⟩ [] trivial ?_
        refine en ?_
        refine an ?_
        refine xw_seq ?_
        refine reg ?_
        refine rk [] 3 0 ⟨[(82, .i i), (81, .u a), (80, .agg (mm W xs ys)), (20, .i 8), (19, .f), (18, .u 0), (17, .i 0), (16, .p 6), (15, .i 0), (14, .p 5), (13, .i 2), (12, .p 4), (11, .i 2), (10, .p 3), (8, .t), (7, .u v), (6, .i i), (4, .u a), (3, .p 1), (2, .f)], [(6, .cells [.i (hT xs ys a), .i (hL xs ys a), .u (hM xs ys a)] 54), (5, .cells [.i (hT xs ys a), .i (hL xs ys a), .u (hM xs ys a)] 54), (4, .cells (mm W xs ys) 45), (3, .cells (mm W xs ys) 45), (1, .cells (mm W xs ys) 45)], 7⟩ [True] ⟨trivial, trivial⟩ ?_
        refine pc (roget_3 W xs ys a i (by omega) (by omega) (by omega) ‹_› ‹_› ‹_› ‹_› ‹_› (by omega)) ?_
        obtain ⟨h16, h17, h18⟩ := oErr_ok W xs ys a ‹_›
        refine rk [] 7 4 ⟨[(23, .i 8), (22, .f), (21, .u 0), (20, .i 8), (19, .f), (18, .u 0), (17, .i 0), (16, .p 6), (15, .i 0), (14, .p 5), (13, .i 2), (12, .p 4), (11, .i 2), (10, .p 3), (8, .t), (7, .u v), (6, .i i), (4, .u a), (3, .p 1), (2, .f)], [(6, .cells [.i (hT xs ys a), .i (hL xs ys a), .u (hM xs ys a)] 54), (5, .cells [.i (hT xs ys a), .i (hL xs ys a), .u (hM xs ys a)] 54), (4, .cells (mm W xs ys) 45), (3, .cells (mm W xs ys) 45), (1, .cells (mm W xs ys) 45)], 7⟩ [] trivial ?_
        refine en ?_
        refine an ?_
        refine xw_seq ?_
        refine reg ?_
        refine rk [] 4 0 ⟨[(91, .u v), (90, .i i), (89, .u a), (88, .agg (mm W xs ys)), (23, .i 8), (22, .f), (21, .u 0), (20, .i 8), (19, .f), (18, .u 0), (17, .i 0), (16, .p 6), (15, .i 0), (14, .p 5), (13, .i 2), (12, .p 4), (11, .i 2), (10, .p 3), (8, .t), (7, .u v), (6, .i i), (4, .u a), (3, .p 1), (2, .f)], [(6, .cells [.i (hT xs ys a), .i (hL xs ys a), .u (hM xs ys a)] 54), (5, .cells [.i (hT xs ys a), .i (hL xs ys a), .u (hM xs ys a)] 54), (4, .cells (mm W xs ys) 45), (3, .cells (mm W xs ys) 45), (1, .cells (mm W xs ys) 45)], 7⟩ [True] ⟨trivial, trivial⟩ ?_
        refine pc (oset_3 W xs ys a i v (by omega) (by omega) (by omega) ‹_› ‹_› ‹_› ‹_› ‹_› ‹_› (by omega)) ?_
        obtain ⟨h19, h20, h21⟩ := oErr_ok W xs ys a ‹_›
        refine rk [] 6 5 ⟨[(25, .i 8), (24, .p 7), (23, .i 8), (22, .f), (21, .u 0), (20, .i 8), (19, .f), (18, .u 0), (17, .i 0), (16, .p 6), (15, .i 0), (14, .p 5), (13, .i 2), (12, .p 4), (11, .i 2), (10, .p 3), (8, .t), (7, .u v), (6, .i i), (4, .u a), (3, .p 1), (2, .f)], [(7, .cells (mm W xs ys) 45), (6, .cells [.i (hT xs ys a), .i (hL xs ys a), .u (hM xs ys a)] 54), (5, .cells [.i (hT xs ys a), .i (hL xs ys a), .u (hM xs ys a)] 54), (4, .cells (mm W xs ys) 45), (3, .cells (mm W xs ys) 45), (1, .cells (mm W xs ys) 45)], 8⟩ [True] ⟨trivial, trivial⟩ ?_
        refine en ?_
        refine an ?_
        refine xw_seq ?_
        refine reg ?_
        refine rk [] 4 0 ⟨[(99, .u v), (98, .i i), (97, .u a), (96, .agg (mm W xs ys)), (25, .i 8), (24, .p 7), (23, .i 8), (22, .f), (21, .u 0), (20, .i 8), (19, .f), (18, .u 0), (17, .i 0), (16, .p 6), (15, .i 0), (14, .p 5), (13, .i 2), (12, .p 4), (11, .i 2), (10, .p 3), (8, .t), (2, .f)], [(7, .cells (mm W xs ys) 45), (6, .cells [.i (hT xs ys a), .i (hL xs ys a), .u (hM xs ys a)] 54), (5, .cells [.i (hT xs ys a), .i (hL xs ys a), .u (hM xs ys a)] 54), (4, .cells (mm W xs ys) 45), (3, .cells (mm W xs ys) 45)], 8⟩ [True] ⟨trivial, trivial⟩ ?_
        refine pc (roset_3 W xs ys a i v (by omega) (by omega) (by omega) ‹_› ‹_› ‹_› ‹_› ‹_› ‹_› (by omega)) ?_
        obtain ⟨h22, h23, h24⟩ := oErr_ok W xs ys a ‹_›
        refine rk [] 6 5 ⟨[(27, .i 8), (26, .p 8), (25, .i 8), (24, .p 7), (23, .i 8), (22, .f), (21, .u 0), (20, .i 8), (19, .f), (18, .u 0), (17, .i 0), (16, .p 6), (15, .i 0), (14, .p 5), (13, .i 2), (12, .p 4), (11, .i 2), (10, .p 3), (8, .t), (2, .f)], [(8, .cells (mm W xs ys) 45), (7, .cells (mm W xs ys) 45), (6, .cells [.i (hT xs ys a), .i (hL xs ys a), .u (hM xs ys a)] 54), (5, .cells [.i (hT xs ys a), .i (hL xs ys a), .u (hM xs ys a)] 54), (4, .cells (mm W xs ys) 45), (3, .cells (mm W xs ys) 45)], 9⟩ [True] ⟨trivial, trivial⟩ ?_
        refine en ?_
        refine an ?_
        refine xw_seq ?_
        refine reg ?_
        refine rk [] 2 0 ⟨[(104, .agg (mm W xs ys)), (103, .agg (mm W xs ys)), (27, .i 8), (26, .p 8), (25, .i 8), (24, .p 7), (23, .i 8), (22, .f), (21, .u 0), (20, .i 8), (19, .f), (18, .u 0), (17, .i 0), (16, .p 6), (15, .i 0), (14, .p 5), (13, .i 2), (11, .i 2), (8, .t), (2, .f)], [(8, .cells (mm W xs ys) 45), (7, .cells (mm W xs ys) 45), (6, .cells [.i (hT xs ys a), .i (hL xs ys a), .u (hM xs ys a)] 54), (5, .cells [.i (hT xs ys a), .i (hL xs ys a), .u (hM xs ys a)] 54)], 9⟩ [True, True] ⟨trivial, trivial, trivial⟩ ?_
        refine pc (rsame_1 W xs ys W xs ys ‹_› ‹_› ‹_› ‹_› (by omega) (by omega) (by omega) (by omega) ‹_› ‹_› ⟨rfl, rfl, rfl⟩) ?_
        refine rk [] 3 3 ⟨[(108, .agg (mm W xs ys)), (107, .agg (mm W xs ys)), (106, .t), (27, .i 8), (25, .i 8), (23, .i 8), (22, .f), (21, .u 0), (20, .i 8), (19, .f), (18, .u 0), (17, .i 0), (16, .p 6), (15, .i 0), (14, .p 5), (13, .i 2), (11, .i 2), (8, .t), (2, .f)], [(6, .cells [.i (hT xs ys a), .i (hL xs ys a), .u (hM xs ys a)] 54), (5, .cells [.i (hT xs ys a), .i (hL xs ys a), .u (hM xs ys a)] 54)], 9⟩ [True, True] ⟨trivial, trivial, trivial⟩ ?_
        refine pc (rsame_1 W xs ys W xs ys ‹_› ‹_› ‹_› ‹_› (by omega) (by omega) (by omega) (by omega) ‹_› ‹_› ⟨rfl, rfl, rfl⟩) ?_
        refine rk [] 2 7 ⟨[(28, .t), (27, .i 8), (25, .i 8), (23, .i 8), (22, .f), (21, .u 0), (20, .i 8), (19, .f), (18, .u 0), (17, .i 0), (16, .p 6), (15, .i 0), (14, .p 5), (13, .i 2), (11, .i 2), (8, .t), (2, .f)], [(6, .cells [.i (hT xs ys a), .i (hL xs ys a), .u (hM xs ys a)] 54), (5, .cells [.i (hT xs ys a), .i (hL xs ys a), .u (hM xs ys a)] 54)], 9⟩ [True] ⟨trivial, trivial⟩ ?_
        refine en ?_
        refine an ?_
        refine rg [(7, .t), (12, .t), (17, .t), (22, .t), (27, .t), (32, .t), (37, .t)] 40 ⟨[(2, .t)], [], 9⟩ [True, (2 == 2) = true, True, True, True, (((ldw xs ys a / 72057594037927936) == (ldw xs ys a / 72057594037927936)) && ((((ldw xs ys a / 4294967296) % 16777216) == ((ldw xs ys a / 4294967296) % 16777216)) && (((ldw xs ys a % 4294967296) == (ldw xs ys a % 4294967296)) && true))) = true, True, (0 == 0) = true, True, (0 == 0) = true, True, (false == false) = true, True, (8 == 8) = true, True, (8 == 8) = true, True] ⟨trivial, beq_iff_eq.2 (by omega), trivial, trivial, trivial, (by simp <;> omega), trivial, beq_iff_eq.2 (by omega), trivial, beq_iff_eq.2 (by omega), trivial, rfl, trivial, beq_iff_eq.2 (by omega), trivial, beq_iff_eq.2 (by omega), trivial, trivial⟩ ?_
        refine xw_ret ?_
        exact bs (.t) rfl
     ·
      refine pc (oat_2 W xs ys a (by omega) (by omega) (by omega) ‹_› ‹_› ‹_› ‹_›) ?_
      have h5 : (oErr W xs ys a) = 2 ∨ (oErr W xs ys a) = 10 := oErr_no W xs ys a (by omega)
      refine rk [] 6 3 ⟨[(15, .i (oErr W xs ys a)), (14, .p 5), (13, .i 2), (12, .p 4), (11, .i 2), (10, .p 3), (8, .t), (7, .u v), (6, .i i), (4, .u a), (3, .p 1), (2, .f)], [(5, .cells [.i 0, .i 0, .u 0] 54), (4, .cells (mm W xs ys) 45), (3, .cells (mm W xs ys) 45), (1, .cells (mm W xs ys) 45)], 6⟩ [True] ⟨trivial, trivial⟩ ?_
      refine en ?_
      refine an ?_
      refine xw_seq ?_
      refine reg ?_
      refine rk [] 2 0 ⟨[(67, .u a), (66, .agg (mm W xs ys)), (15, .i (oErr W xs ys a)), (14, .p 5), (13, .i 2), (12, .p 4), (11, .i 2), (10, .p 3), (8, .t), (7, .u v), (6, .i i), (4, .u a), (3, .p 1), (2, .f)], [(5, .cells [.i 0, .i 0, .u 0] 54), (4, .cells (mm W xs ys) 45), (3, .cells (mm W xs ys) 45), (1, .cells (mm W xs ys) 45)], 6⟩ [True] ⟨trivial, trivial⟩ ?_
      refine pc (roat_2 W xs ys a (by omega) (by omega) (by omega) ‹_› ‹_› ‹_› ‹_›) ?_
      have h6 : (oErr W xs ys a) = 2 ∨ (oErr W xs ys a) = 10 := oErr_no W xs ys a (by omega)
      refine rk [] 6 3 ⟨[(17, .i (oErr W xs ys a)), (16, .p 6), (15, .i (oErr W xs ys a)), (14, .p 5), (13, .i 2), (12, .p 4), (11, .i 2), (10, .p 3), (8, .t), (7, .u v), (6, .i i), (4, .u a), (3, .p 1), (2, .f)], [(6, .cells [.i 0, .i 0, .u 0] 54), (5, .cells [.i 0, .i 0, .u 0] 54), (4, .cells (mm W xs ys) 45), (3, .cells (mm W xs ys) 45), (1, .cells (mm W xs ys) 45)], 7⟩ [True] ⟨trivial, trivial⟩ ?_
      refine en ?_
      refine an ?_
      refine xw_seq ?_
      refine reg ?_
      refine rk [] 3 0 ⟨[(74, .i i), (73, .u a), (72, .agg (mm W xs ys)), (17, .i (oErr W xs ys a)), (16, .p 6), (15, .i (oErr W xs ys a)), (14, .p 5), (13, .i 2), (12, .p 4), (11, .i 2), (10, .p 3), (8, .t), (7, .u v), (6, .i i), (4, .u a), (3, .p 1), (2, .f)], [(6, .cells [.i 0, .i 0, .u 0] 54), (5, .cells [.i 0, .i 0, .u 0] 54), (4, .cells (mm W xs ys) 45), (3, .cells (mm W xs ys) 45), (1, .cells (mm W xs ys) 45)], 7⟩ [True] ⟨trivial, trivial⟩ ?_
      refine pc (oget_4 W xs ys a i (by omega) (by omega) (by omega) ‹_› ‹_› ‹_› ‹_› ‹_›) ?_
      have h7 : (oErr W xs ys a) = 2 ∨ (oErr W xs ys a) = 10 := oErr_no W xs ys a (by omega)
      refine rk [] 7 4 ⟨[(20, .i (oErr W xs ys a)), (19, .f), (18, .u 0), (17, .i (oErr W xs ys a)), (16, .p 6), (15, .i (oErr W xs ys a)), (14, .p 5), (13, .i 2), (12, .p 4), (11, .i 2), (10, .p 3), (8, .t), (7, .u v), (6, .i i), (4, .u a), (3, .p 1), (2, .f)], [(6, .cells [.i 0, .i 0, .u 0] 54), (5, .cells [.i 0, .i 0, .u 0] 54), (4, .cells (mm W xs ys) 45), (3, .cells (mm W xs ys) 45), (1, .cells (mm W xs ys) 45)], 7⟩ [] trivial ?_
      refine en ?_
      refine an ?_
      refine xw_seq ?_
      refine reg ?_
      refine rk [] 3 0 ⟨[(82, .i i), (81, .u a), (80, .agg (mm W xs ys)), (20, .i (oErr W xs ys a)), (19, .f), (18, .u 0), (17, .i (oErr W xs ys a)), (16, .p 6), (15, .i (oErr W xs ys a)), (14, .p 5), (13, .i 2), (12, .p 4), (11, .i 2), (10, .p 3), (8, .t), (7, .u v), (6, .i i), (4, .u a), (3, .p 1), (2, .f)], [(6, .cells [.i 0, .i 0, .u 0] 54), (5, .cells [.i 0, .i 0, .u 0] 54), (4, .cells (mm W xs ys) 45), (3, .cells (mm W xs ys) 45), (1, .cells (mm W xs ys) 45)], 7⟩ [True] ⟨trivial, trivial⟩ ?_
      refine pc (roget_4 W xs ys a i (by omega) (by omega) (by omega) ‹_› ‹_› ‹_› ‹_› ‹_›) ?_
      have h8 : (oErr W xs ys a) = 2 ∨ (oErr W xs ys a) = 10 := oErr_no W xs ys a (by omega)
      refine rk [] 7 4 ⟨[(23, .i (oErr W xs ys a)), (22, .f), (21, .u 0), (20, .i (oErr W xs ys a)), (19, .f), (18, .u 0), (17, .i (oErr W xs ys a)), (16, .p 6), (15, .i (oErr W xs ys a)), (14, .p 5), (13, .i 2), (12, .p 4), (11, .i 2), (10, .p 3), (8, .t), (7, .u v), (6, .i i), (4, .u a), (3, .p 1), (2, .f)], [(6, .cells [.i 0, .i 0, .u 0] 54), (5, .cells [.i 0, .i 0, .u 0] 54), (4, .cells (mm W xs ys) 45), (3, .cells (mm W xs ys) 45), (1, .cells (mm W xs ys) 45)], 7⟩ [] trivial ?_
      refine en ?_
      refine an ?_
      refine xw_seq ?_
      refine reg ?_
      refine rk [] 4 0 ⟨[(91, .u v), (90, .i i), (89, .u a), (88, .agg (mm W xs ys)), (23, .i (oErr W xs ys a)), (22, .f), (21, .u 0), (20, .i (oErr W xs ys a)), (19, .f), (18, .u 0), (17, .i (oErr W xs ys a)), (16, .p 6), (15, .i (oErr W xs ys a)), (14, .p 5), (13, .i 2), (12, .p 4), (11, .i 2), (10, .p 3), (8, .t), (7, .u v), (6, .i i), (4, .u a), (3, .p 1), (2, .f)], [(6, .cells [.i 0, .i 0, .u 0] 54), (5, .cells [.i 0, .i 0, .u 0] 54), (4, .cells (mm W xs ys) 45), (3, .cells (mm W xs ys) 45), (1, .cells (mm W xs ys) 45)], 7⟩ [True] ⟨trivial, trivial⟩ ?_
      refine pc (oset_4 W xs ys a i v (by omega) (by omega) (by omega) ‹_› ‹_› ‹_› ‹_› ‹_› ‹_›) ?_
      have h9 : (oErr W xs ys a) = 2 ∨ (oErr W xs ys a) = 10 := oErr_no W xs ys a (by omega)
      refine rk [] 6 5 ⟨[(25, .i (oErr W xs ys a)), (24, .p 7), (23, .i (oErr W xs ys a)), (22, .f), (21, .u 0), (20, .i (oErr W xs ys a)), (19, .f), (18, .u 0), (17, .i (oErr W xs ys a)), (16, .p 6), (15, .i (oErr W xs ys a)), (14, .p 5), (13, .i 2), (12, .p 4), (11, .i 2), (10, .p 3), (8, .t), (7, .u v), (6, .i i), (4, .u a), (3, .p 1), (2, .f)], [(7, .cells (mm W xs ys) 45), (6, .cells [.i 0, .i 0, .u 0] 54), (5, .cells [.i 0, .i 0, .u 0] 54), (4, .cells (mm W xs ys) 45), (3, .cells (mm W xs ys) 45), (1, .cells (mm W xs ys) 45)], 8⟩ [True] ⟨trivial, trivial⟩ ?_
      refine en ?_
      refine an ?_
      refine xw_seq ?_
      refine reg ?_
      refine rk [] 4 0 ⟨[(99, .u v), (98, .i i), (97, .u a), (96, .agg (mm W xs ys)), (25, .i (oErr W xs ys a)), (24, .p 7), (23, .i (oErr W xs ys a)), (22, .f), (21, .u 0), (20, .i (oErr W xs ys a)), (19, .f), (18, .u 0), (17, .i (oErr W xs ys a)), (16, .p 6), (15, .i (oErr W xs ys a)), (14, .p 5), (13, .i 2), (12, .p 4), (11, .i 2), (10, .p 3), (8, .t), (2, .f)], [(7, .cells (mm W xs ys) 45), (6, .cells [.i 0, .i 0, .u 0] 54), (5, .cells [.i 0, .i 0, .u 0] 54), (4, .cells (mm W xs ys) 45), (3, .cells (mm W xs ys) 45)], 8⟩ [True] ⟨trivial, trivial⟩ ?_
      refine pc (roset_4 W xs ys a i v (by omega) (by omega) (by omega) ‹_› ‹_› ‹_› ‹_› ‹_› ‹_›) ?_
      have h10 : (oErr W xs ys a) = 2 ∨ (oErr W xs ys a) = 10 := oErr_no W xs ys a (by omega)
      refine rk [] 6 5 ⟨[(27, .i (oErr W xs ys a)), (26, .p 8), (25, .i (oErr W xs ys a)), (24, .p 7), (23, .i (oErr W xs ys a)), (22, .f), (21, .u 0), (20, .i (oErr W xs ys a)), (19, .f), (18, .u 0), (17, .i (oErr W xs ys a)), (16, .p 6), (15, .i (oErr W xs ys a)), (14, .p 5), (13, .i 2), (12, .p 4), (11, .i 2), (10, .p 3), (8, .t), (2, .f)], [(8, .cells (mm W xs ys) 45), (7, .cells (mm W xs ys) 45), (6, .cells [.i 0, .i 0, .u 0] 54), (5, .cells [.i 0, .i 0, .u 0] 54), (4, .cells (mm W xs ys) 45), (3, .cells (mm W xs ys) 45)], 9⟩ [True] ⟨trivial, trivial⟩ ?_
      refine en ?_
      refine an ?_
      refine xw_seq ?_
      refine reg ?_
      refine rk [] 2 0 ⟨[(104, .agg (mm W xs ys)), (103, .agg (mm W xs ys)), (27, .i (oErr W xs ys a)), (26, .p 8), (25, .i (oErr W xs ys a)), (24, .p 7), (23, .i (oErr W xs ys a)), (22, .f), (21, .u 0), (20, .i (oErr W xs ys a)), (19, .f), (18, .u 0), (17, .i (oErr W xs ys a)), (16, .p 6), (15, .i (oErr W xs ys a)), (14, .p 5), (13, .i 2), (11, .i 2), (8, .t), (2, .f)], [(8, .cells (mm W xs ys) 45), (7, .cells (mm W xs ys) 45), (6, .cells [.i 0, .i 0, .u 0] 54), (5, .cells [.i 0, .i 0, .u 0] 54)], 9⟩ [True, True] ⟨trivial, trivial, trivial⟩ ?_
      refine pc (rsame_1 W xs ys W xs ys ‹_› ‹_› ‹_› ‹_› (by omega) (by omega) (by omega) (by omega) ‹_› ‹_› ⟨rfl, rfl, rfl⟩) ?_
      refine rk [] 3 3 ⟨[(108, .agg (mm W xs ys)), (107, .agg (mm W xs ys)), (106, .t), (27, .i (oErr W xs ys a)), (25, .i (oErr W xs ys a)), (23, .i (oErr W xs ys a)), (22, .f), (21, .u 0), (20, .i (oErr W xs ys a)), (19, .f), (18, .u 0), (17, .i (oErr W xs ys a)), (16, .p 6), (15, .i (oErr W xs ys a)), (14, .p 5), (13, .i 2), (11, .i 2), (8, .t), (2, .f)], [(6, .cells [.i 0, .i 0, .u 0] 54), (5, .cells [.i 0, .i 0, .u 0] 54)], 9⟩ [True, True] ⟨trivial, trivial, trivial⟩ ?_
      refine pc (rsame_1 W xs ys W xs ys ‹_› ‹_› ‹_› ‹_› (by omega) (by omega) (by omega) (by omega) ‹_› ‹_› ⟨rfl, rfl, rfl⟩) ?_
      refine rk [] 2 7 ⟨[(28, .t), (27, .i (oErr W xs ys a)), (25, .i (oErr W xs ys a)), (23, .i (oErr W xs ys a)), (22, .f), (21, .u 0), (20, .i (oErr W xs ys a)), (19, .f), (18, .u 0), (17, .i (oErr W xs ys a)), (16, .p 6), (15, .i (oErr W xs ys a)), (14, .p 5), (13, .i 2), (11, .i 2), (8, .t), (2, .f)], [(6, .cells [.i 0, .i 0, .u 0] 54), (5, .cells [.i 0, .i 0, .u 0] 54)], 9⟩ [True] ⟨trivial, trivial⟩ ?_
      refine en ?_
      refine an ?_
      refine rg [(7, .t), (12, .t), (17, .t), (22, .t), (27, .t), (32, .t), (37, .t)] 40 ⟨[(2, .t)], [], 9⟩ [True, (2 == 2) = true, True, True, True, ((0 == 0) && ((0 == 0) && ((0 == 0) && true))) = true, True, ((oErr W xs ys a) == (oErr W xs ys a)) = true, True, (0 == 0) = true, True, (false == false) = true, True, ((oErr W xs ys a) == (oErr W xs ys a)) = true, True, ((oErr W xs ys a) == (oErr W xs ys a)) = true, True] ⟨trivial, beq_iff_eq.2 (by omega), trivial, trivial, trivial, (by simp <;> omega), trivial, beq_iff_eq.2 (by omega), trivial, beq_iff_eq.2 (by omega), trivial, rfl, trivial, beq_iff_eq.2 (by omega), trivial, beq_iff_eq.2 (by omega), trivial, trivial⟩ ?_
      refine xw_ret ?_
      exact bs (.t) rfl
   ·
    refine pc (oput_3 W xs ys a t l m (by omega) (by omega) (by omega) ‹_› ‹_› ‹_› ‹_› ‹_› ‹_› (by first | omega | decide)) ?_
    have h3 : (headErr t l m) ≠ 0 := headErr_ne (by omega) (by omega)
    refine rk [] 6 4 ⟨[(11, .i (headErr t l m)), (10, .p 3), (8, .t), (7, .u v), (6, .i i), (5, .p 2), (4, .u a), (3, .p 1), (2, .f)], [(3, .cells (mm W xs ys) 45), (2, .cells [.i t, .i l, .u m] 54), (1, .cells (mm W xs ys) 45)], 4⟩ [True] ⟨trivial, trivial⟩ ?_
    refine en ?_
    refine an ?_
    refine xw_seq ?_
    refine reg ?_
    refine rk [] 3 0 ⟨[(55, .agg [.i t, .i l, .u m]), (54, .u a), (53, .agg (mm W xs ys)), (11, .i (headErr t l m)), (10, .p 3), (8, .t), (7, .u v), (6, .i i), (4, .u a), (3, .p 1), (2, .f)], [(3, .cells (mm W xs ys) 45), (1, .cells (mm W xs ys) 45)], 4⟩ [True, True] ⟨trivial, trivial, trivial⟩ ?_
    refine pc (roput_3 W xs ys a t l m (by omega) (by omega) (by omega) ‹_› ‹_› ‹_› ‹_› ‹_› ‹_› (by first | omega | decide)) ?_
    have h4 : (headErr t l m) ≠ 0 := headErr_ne (by omega) (by omega)
    refine rk [] 6 4 ⟨[(13, .i (headErr t l m)), (12, .p 4), (11, .i (headErr t l m)), (10, .p 3), (8, .t), (7, .u v), (6, .i i), (4, .u a), (3, .p 1), (2, .f)], [(4, .cells (mm W xs ys) 45), (3, .cells (mm W xs ys) 45), (1, .cells (mm W xs ys) 45)], 5⟩ [True] ⟨trivial, trivial⟩ ?_
    refine en ?_
    refine an ?_
    refine xw_seq ?_
    refine reg ?_
    refine rk [] 2 0 ⟨[(61, .u a), (60, .agg (mm W xs ys)), (13, .i (headErr t l m)), (12, .p 4), (11, .i (headErr t l m)), (10, .p 3), (8, .t), (7, .u v), (6, .i i), (4, .u a), (3, .p 1), (2, .f)], [(4, .cells (mm W xs ys) 45), (3, .cells (mm W xs ys) 45), (1, .cells (mm W xs ys) 45)], 5⟩ [True] ⟨trivial, trivial⟩ ?_
    by_cases h5 : (oErr W xs ys a) = 0
    ·
     refine pc (oat_1 W xs ys a (by omega) (by omega) (by omega) ‹_› ‹_› ‹_› ‹_›) ?_
     obtain ⟨h6, h7, h8⟩ := oErr_ok W xs ys a ‹_›
     refine rk [] 6 3 ⟨[(15, .i 0), (14, .p 5), (13, .i (headErr t l m)), (12, .p 4), (11, .i (headErr t l m)), (10, .p 3), (8, .t), (7, .u v), (6, .i i), (4, .u a), (3, .p 1), (2, .f)], [(5, .cells [.i (hT xs ys a), .i (hL xs ys a), .u (hM xs ys a)] 54), (4, .cells (mm W xs ys) 45), (3, .cells (mm W xs ys) 45), (1, .cells (mm W xs ys) 45)], 6⟩ [True] ⟨trivial, trivial⟩ ?_
     refine en ?_
     refine an ?_
     refine xw_seq ?_
     refine reg ?_
     refine rk [] 2 0 ⟨[(67, .u a), (66, .agg (mm W xs ys)), (15, .i 0), (14, .p 5), (13, .i (headErr t l m)), (12, .p 4), (11, .i (headErr t l m)), (10, .p 3), (8, .t), (7, .u v), (6, .i i), (4, .u a), (3, .p 1), (2, .f)], [(5, .cells [.i (hT xs ys a), .i (hL xs ys a), .u (hM xs ys a)] 54), (4, .cells (mm W xs ys) 45), (3, .cells (mm W xs ys) 45), (1, .cells (mm W xs ys) 45)], 6⟩ [True] ⟨trivial, trivial⟩ ?_
     refine pc (roat_1 W xs ys a (by omega) (by omega) (by omega) ‹_› ‹_› ‹_› ‹_›) ?_
     obtain ⟨h9, h10, h11⟩ := oErr_ok W xs ys a ‹_›
     refine rk [] 6 3 ⟨[(17, .i 0), (16, .p 6), (15, .i 0), (14, .p 5), (13, .i (headErr t l m)), (12, .p 4), (11, .i (headErr t l m)), (10, .p 3), (8, .t), (7, .u v), (6, .i i), (4, .u a), (3, .p 1), (2, .f)], [(6, .cells [.i (hT xs ys a), .i (hL xs ys a), .u (hM xs ys a)] 54), (5, .cells [.i (hT xs ys a), .i (hL xs ys a), .u (hM xs ys a)] 54), (4, .cells (mm W xs ys) 45), (3, .cells (mm W xs ys) 45), (1, .cells (mm W xs ys) 45)], 7⟩ [True] ⟨trivial, trivial⟩ ?_
     refine en ?_
     refine an ?_
     refine xw_seq ?_
     refine reg ?_
     refine rk [] 3 0 ⟨[(74, .i i), (73, .u a), (72, .agg (mm W xs ys)), (17, .i 0), (16, .p 6), (15, .i 0), (14, .p 5), (13, .i (headErr t l m)), (12, .p 4), (11, .i (headErr t l m)), (10, .p 3), (8, .t), (7, .u v), (6, .i i), (4, .u a), (3, .p 1), (2, .f)], [(6, .cells [.i (hT xs ys a), .i (hL xs ys a), .u (hM xs ys a)] 54), (5, .cells [.i (hT xs ys a), .i (hL xs ys a), .u (hM xs ys a)] 54), (4, .cells (mm W xs ys) 45), (3, .cells (mm W xs ys) 45), (1, .cells (mm W xs ys) 45)], 7⟩ [True] ⟨trivial, trivial⟩ ?_
     by_cases h12 : ((ldw xs ys a / 72057594037927936) ≠ 255) ∧ (0 ≤ i ∧ i < ((ldw xs ys a / 4294967296) % 16777216))
     ·
      refine pc (oget_1 W xs ys a i (by omega) (by omega) (by omega) ‹_› ‹_› ‹_› ‹_› ‹_› (by omega) (by omega)) ?_
      obtain ⟨h13, h14, h15⟩ := oErr_ok W xs ys a ‹_›
      have h16 : 0 ≤ (ldw xs ys (a + 2 + i)) ∧ (ldw xs ys (a + 2 + i)) ≤ 18446744073709551615 := ldw_ok xs ys (a + 2 + i) ‹_› ‹_›
      have h17 : 1 ≤ (a + 2 + i) / 4294967296 ∧ (a + 2 + i) / 4294967296 ≤ 2 ∧ (a + 2 + i) % 4294967296 < W := by omega
      refine rk [] 7 4 ⟨[(20, .i 0), (19, .bool (isPtr (hL xs ys a) (hM xs ys a) i)), (18, .u (ldw xs ys (a + 2 + i))), (17, .i 0), (16, .p 6), (15, .i 0), (14, .p 5), (13, .i (headErr t l m)), (12, .p 4), (11, .i (headErr t l m)), (10, .p 3), (8, .t), (7, .u v), (6, .i i), (4, .u a), (3, .p 1), (2, .f)], [(6, .cells [.i (hT xs ys a), .i (hL xs ys a), .u (hM xs ys a)] 54), (5, .cells [.i (hT xs ys a), .i (hL xs ys a), .u (hM xs ys a)] 54), (4, .cells (mm W xs ys) 45), (3, .cells (mm W xs ys) 45), (1, .cells (mm W xs ys) 45)], 7⟩ [] trivial ?_
      refine en ?_
      refine an ?_
      refine xw_seq ?_
      refine reg ?_
      refine rk [] 3 0 ⟨[(82, .i i), (81, .u a), (80, .agg (mm W xs ys)), (20, .i 0), (19, .bool (isPtr (hL xs ys a) (hM xs ys a) i)), (18, .u (ldw xs ys (a + 2 + i))), (17, .i 0), (16, .p 6), (15, .i 0), (14, .p 5), (13, .i (headErr t l m)), (12, .p 4), (11, .i (headErr t l m)), (10, .p 3), (8, .t), (7, .u v), (6, .i i), (4, .u a), (3, .p 1), (2, .f)], [(6, .cells [.i (hT xs ys a), .i (hL xs ys a), .u (hM xs ys a)] 54), (5, .cells [.i (hT xs ys a), .i (hL xs ys a), .u (hM xs ys a)] 54), (4, .cells (mm W xs ys) 45), (3, .cells (mm W xs ys) 45), (1, .cells (mm W xs ys) 45)], 7⟩ [True] ⟨trivial, trivial⟩ ?_
      refine pc (roget_1 W xs ys a i (by omega) (by omega) (by omega) ‹_› ‹_› ‹_› ‹_› ‹_› (by omega) (by omega)) ?_
      obtain ⟨h18, h19, h20⟩ := oErr_ok W xs ys a ‹_›
      have h21 : 0 ≤ (ldw xs ys (a + 2 + i)) ∧ (ldw xs ys (a + 2 + i)) ≤ 18446744073709551615 := ldw_ok xs ys (a + 2 + i) ‹_› ‹_›
      have h22 : 1 ≤ (a + 2 + i) / 4294967296 ∧ (a + 2 + i) / 4294967296 ≤ 2 ∧ (a + 2 + i) % 4294967296 < W := by omega
      refine rk [] 7 4 ⟨[(23, .i 0), (22, .bool (isPtr (hL xs ys a) (hM xs ys a) i)), (21, .u (ldw xs ys (a + 2 + i))), (20, .i 0), (19, .bool (isPtr (hL xs ys a) (hM xs ys a) i)), (18, .u (ldw xs ys (a + 2 + i))), (17, .i 0), (16, .p 6), (15, .i 0), (14, .p 5), (13, .i (headErr t l m)), (12, .p 4), (11, .i (headErr t l m)), (10, .p 3), (8, .t), (7, .u v), (6, .i i), (4, .u a), (3, .p 1), (2, .f)], [(6, .cells [.i (hT xs ys a), .i (hL xs ys a), .u (hM xs ys a)] 54), (5, .cells [.i (hT xs ys a), .i (hL xs ys a), .u (hM xs ys a)] 54), (4, .cells (mm W xs ys) 45), (3, .cells (mm W xs ys) 45), (1, .cells (mm W xs ys) 45)], 7⟩ [] trivial ?_
      refine en ?_
      refine an ?_
      refine xw_seq ?_
      refine reg ?_
      refine rk [] 4 0 ⟨[(91, .u v), (90, .i i), (89, .u a), (88, .agg (mm W xs ys)), (23, .i 0), (22, .bool (isPtr (hL xs ys a) (hM xs ys a) i)), (21, .u (ldw xs ys (a + 2 + i))), (20, .i 0), (19, .bool (isPtr (hL xs ys a) (hM xs ys a) i)), (18, .u (ldw xs ys (a + 2 + i))), (17, .i 0), (16, .p 6), (15, .i 0), (14, .p 5), (13, .i (headErr t l m)), (12, .p 4), (11, .i (headErr t l m)), (10, .p 3), (8, .t), (7, .u v), (6, .i i), (4, .u a), (3, .p 1), (2, .f)], [(6, .cells [.i (hT xs ys a), .i (hL xs ys a), .u (hM xs ys a)] 54), (5, .cells [.i (hT xs ys a), .i (hL xs ys a), .u (hM xs ys a)] 54), (4, .cells (mm W xs ys) 45), (3, .cells (mm W xs ys) 45), (1, .cells (mm W xs ys) 45)], 7⟩ [True] ⟨trivial, trivial⟩ ?_
      refine pc (oset_1 W xs ys a i v (by omega) (by omega) (by omega) ‹_› ‹_› ‹_› ‹_› ‹_› ‹_› (by omega) (by omega)) ?_
      obtain ⟨h23, h24, h25⟩ := oErr_ok W xs ys a ‹_›
      obtain ⟨h26, h27, h28, h29⟩ := stx_ok W xs ys (a + 2 + i) v (by omega) (by omega) ‹_› ‹_› (by omega)
      refine rk [] 6 5 ⟨[(25, .i 0), (24, .p 7), (23, .i 0), (22, .bool (isPtr (hL xs ys a) (hM xs ys a) i)), (21, .u (ldw xs ys (a + 2 + i))), (20, .i 0), (19, .bool (isPtr (hL xs ys a) (hM xs ys a) i)), (18, .u (ldw xs ys (a + 2 + i))), (17, .i 0), (16, .p 6), (15, .i 0), (14, .p 5), (13, .i (headErr t l m)), (12, .p 4), (11, .i (headErr t l m)), (10, .p 3), (8, .t), (7, .u v), (6, .i i), (4, .u a), (3, .p 1), (2, .f)], [(7, .cells (mm W (stx xs (a + 2 + i) v) (sty ys (a + 2 + i) v)) 45), (6, .cells [.i (hT xs ys a), .i (hL xs ys a), .u (hM xs ys a)] 54), (5, .cells [.i (hT xs ys a), .i (hL xs ys a), .u (hM xs ys a)] 54), (4, .cells (mm W xs ys) 45), (3, .cells (mm W xs ys) 45), (1, .cells (mm W xs ys) 45)], 8⟩ [True] ⟨trivial, trivial⟩ ?_
      refine en ?_
      refine an ?_
      refine xw_seq ?_
      refine reg ?_
      refine rk [] 4 0 ⟨[(99, .u v), (98, .i i), (97, .u a), (96, .agg (mm W xs ys)), (25, .i 0), (24, .p 7), (23, .i 0), (22, .bool (isPtr (hL xs ys a) (hM xs ys a) i)), (21, .u (ldw xs ys (a + 2 + i))), (20, .i 0), (19, .bool (isPtr (hL xs ys a) (hM xs ys a) i)), (18, .u (ldw xs ys (a + 2 + i))), (17, .i 0), (16, .p 6), (15, .i 0), (14, .p 5), (13, .i (headErr t l m)), (12, .p 4), (11, .i (headErr t l m)), (10, .p 3), (8, .t), (2, .f)], [(7, .cells (mm W (stx xs (a + 2 + i) v) (sty ys (a + 2 + i) v)) 45), (6, .cells [.i (hT xs ys a), .i (hL xs ys a), .u (hM xs ys a)] 54), (5, .cells [.i (hT xs ys a), .i (hL xs ys a), .u (hM xs ys a)] 54), (4, .cells (mm W xs ys) 45), (3, .cells (mm W xs ys) 45)], 8⟩ [True] ⟨trivial, trivial⟩ ?_
      refine pc (roset_1 W xs ys a i v (by omega) (by omega) (by omega) ‹_› ‹_› ‹_› ‹_› ‹_› ‹_› (by omega) (by omega)) ?_
      obtain ⟨h30, h31, h32⟩ := oErr_ok W xs ys a ‹_›
      obtain ⟨h33, h34, h35, h36⟩ := stx_ok W xs ys (a + 2 + i) v (by omega) (by omega) ‹_› ‹_› (by omega)
      refine rk [] 6 5 ⟨[(27, .i 0), (26, .p 8), (25, .i 0), (24, .p 7), (23, .i 0), (22, .bool (isPtr (hL xs ys a) (hM xs ys a) i)), (21, .u (ldw xs ys (a + 2 + i))), (20, .i 0), (19, .bool (isPtr (hL xs ys a) (hM xs ys a) i)), (18, .u (ldw xs ys (a + 2 + i))), (17, .i 0), (16, .p 6), (15, .i 0), (14, .p 5), (13, .i (headErr t l m)), (12, .p 4), (11, .i (headErr t l m)), (10, .p 3), (8, .t), (2, .f)], [(8, .cells (mm W (stx xs (a + 2 + i) v) (sty ys (a + 2 + i) v)) 45), (7, .cells (mm W (stx xs (a + 2 + i) v) (sty ys (a + 2 + i) v)) 45), (6, .cells [.i (hT xs ys a), .i (hL xs ys a), .u (hM xs ys a)] 54), (5, .cells [.i (hT xs ys a), .i (hL xs ys a), .u (hM xs ys a)] 54), (4, .cells (mm W xs ys) 45), (3, .cells (mm W xs ys) 45)], 9⟩ [True] ⟨trivial, trivial⟩ ?_
      refine en ?_
      refine an ?_
      refine xw_seq ?_
      refine reg ?_
      refine rk [] 2 0 ⟨[(104, .agg (mm W xs ys)), (103, .agg (mm W xs ys)), (27, .i 0), (26, .p 8), (25, .i 0), (24, .p 7), (23, .i 0), (22, .bool (isPtr (hL xs ys a) (hM xs ys a) i)), (21, .u (ldw xs ys (a + 2 + i))), (20, .i 0), (19, .bool (isPtr (hL xs ys a) (hM xs ys a) i)), (18, .u (ldw xs ys (a + 2 + i))), (17, .i 0), (16, .p 6), (15, .i 0), (14, .p 5), (13, .i (headErr t l m)), (11, .i (headErr t l m)), (8, .t), (2, .f)], [(8, .cells (mm W (stx xs (a + 2 + i) v) (sty ys (a + 2 + i) v)) 45), (7, .cells (mm W (stx xs (a + 2 + i) v) (sty ys (a + 2 + i) v)) 45), (6, .cells [.i (hT xs ys a), .i (hL xs ys a), .u (hM xs ys a)] 54), (5, .cells [.i (hT xs ys a), .i (hL xs ys a), .u (hM xs ys a)] 54)], 9⟩ [True, True] ⟨trivial, trivial, trivial⟩ ?_
      refine pc (rsame_1 W xs ys W xs ys ‹_› ‹_› ‹_› ‹_› (by omega) (by omega) (by omega) (by omega) ‹_› ‹_› ⟨rfl, rfl, rfl⟩) ?_
      refine rk [] 3 3 ⟨[(108, .agg (mm W (stx xs (a + 2 + i) v) (sty ys (a + 2 + i) v))), (107, .agg (mm W (stx xs (a + 2 + i) v) (sty ys (a + 2 + i) v))), (106, .t), (27, .i 0), (25, .i 0), (23, .i 0), (22, .bool (isPtr (hL xs ys a) (hM xs ys a) i)), (21, .u (ldw xs ys (a + 2 + i))), (20, .i 0), (19, .bool (isPtr (hL xs ys a) (hM xs ys a) i)), (18, .u (ldw xs ys (a + 2 + i))), (17, .i 0), (16, .p 6), (15, .i 0), (14, .p 5), (13, .i (headErr t l m)), (11, .i (headErr t l m)), (8, .t), (2, .f)], [(6, .cells [.i (hT xs ys a), .i (hL xs ys a), .u (hM xs ys a)] 54), (5, .cells [.i (hT xs ys a), .i (hL xs ys a), .u (hM xs ys a)] 54)], 9⟩ [True, True] ⟨trivial, trivial, trivial⟩ ?_
      refine pc (rsame_1 W (stx xs (a + 2 + i) v) (sty ys (a + 2 + i) v) W (stx xs (a + 2 + i) v) (sty ys (a + 2 + i) v) ‹_› ‹_› ‹_› ‹_› (by omega) (by omega) (by omega) (by omega) ‹_› ‹_› ⟨rfl, rfl, rfl⟩) ?_
      refine rk [] 2 7 ⟨[(28, .t), (27, .i 0), (25, .i 0), (23, .i 0), (22, .bool (isPtr (hL xs ys a) (hM xs ys a) i)), (21, .u (ldw xs ys (a + 2 + i))), (20, .i 0), (19, .bool (isPtr (hL xs ys a) (hM xs ys a) i)), (18, .u (ldw xs ys (a + 2 + i))), (17, .i 0), (16, .p 6), (15, .i 0), (14, .p 5), (13, .i (headErr t l m)), (11, .i (headErr t l m)), (8, .t), (2, .f)], [(6, .cells [.i (hT xs ys a), .i (hL xs ys a), .u (hM xs ys a)] 54), (5, .cells [.i (hT xs ys a), .i (hL xs ys a), .u (hM xs ys a)] 54)], 9⟩ [True] ⟨trivial, trivial⟩ ?_
      refine en ?_
      refine an ?_
      refine xw_seq ?_
      refine reg ?_
      refine rk [(7, .t), (12, .t), (17, .t), (22, .t), (27, .bool ((isPtr ((ldw xs ys a / 4294967296) % 16777216) (ldw xs ys a % 4294967296) i) == (isPtr ((ldw xs ys a / 4294967296) % 16777216) (ldw xs ys a % 4294967296) i)))] 30 0 ⟨[(140, .bool ((isPtr (hL xs ys a) (hM xs ys a) i) == (isPtr (hL xs ys a) (hM xs ys a) i))), (27, .i 0), (25, .i 0), (23, .i 0), (20, .i 0), (2, .f)], [], 9⟩ [True, ((headErr t l m) == (headErr t l m)) = true, True, True, True, (((ldw xs ys a / 72057594037927936) == (ldw xs ys a / 72057594037927936)) && ((((ldw xs ys a / 4294967296) % 16777216) == ((ldw xs ys a / 4294967296) % 16777216)) && (((ldw xs ys a % 4294967296) == (ldw xs ys a % 4294967296)) && true))) = true, True, (0 == 0) = true, True, ((ldw xs ys (a + 2 + i)) == (ldw xs ys (a + 2 + i))) = true, True, ((isPtr ((ldw xs ys a / 4294967296) % 16777216) (ldw xs ys a % 4294967296) i) == (isPtr ((ldw xs ys a / 4294967296) % 16777216) (ldw xs ys a % 4294967296) i)) = ((isPtr ((ldw xs ys a / 4294967296) % 16777216) (ldw xs ys a % 4294967296) i) == (isPtr ((ldw xs ys a / 4294967296) % 16777216) (ldw xs ys a % 4294967296) i)), True] ⟨trivial, beq_iff_eq.2 (by omega), trivial, trivial, trivial, (by simp <;> omega), trivial, beq_iff_eq.2 (by omega), trivial, beq_iff_eq.2 (by omega), trivial, rfl, trivial, trivial⟩ ?_
      refine splitr 140 (x := ((isPtr ((ldw xs ys a / 4294967296) % 16777216) (ldw xs ys a % 4294967296) i) == (isPtr ((ldw xs ys a / 4294967296) % 16777216) (ldw xs ys a % 4294967296) i))) (by kernel_rfl) (fun h37 => ?_) (fun h37 => ?_)
      ·
       replace h37 : (isPtr ((ldw xs ys a / 4294967296) % 16777216) (ldw xs ys a % 4294967296) i) = (isPtr ((ldw xs ys a / 4294967296) % 16777216) (ldw xs ys a % 4294967296) i) := eq_of_beq h37
       refine rk [(32, .t), (37, .t)] 10 30 ⟨[(2, .t)], [], 9⟩ [(0 == 0) = true, True, (0 == 0) = true, True] ⟨beq_iff_eq.2 (by omega), trivial, beq_iff_eq.2 (by omega), trivial, trivial⟩ ?_
       refine en ?_
       refine an ?_
       refine xw_ret ?_
       exact bs (.t) rfl
      ·
       replace h37 : (isPtr ((ldw xs ys a / 4294967296) % 16777216) (ldw xs ys a % 4294967296) i) ≠ (isPtr ((ldw xs ys a / 4294967296) % 16777216) (ldw xs ys a % 4294967296) i) := ne_of_beq_false h37
       exfalso; first | omega | simp_all | grind
     ·
      by_cases h13 : ((ldw xs ys a / 72057594037927936) ≠ 255) ∧ (¬ (0 ≤ i ∧ i < ((ldw xs ys a / 4294967296) % 16777216)))
      ·
       refine pc (oget_2 W xs ys a i (by omega) (by omega) (by omega) ‹_› ‹_› ‹_› ‹_› ‹_› (by omega) (by omega)) ?_
       obtain ⟨h14, h15, h16⟩ := oErr_ok W xs ys a ‹_›
       refine rk [] 7 4 ⟨[(20, .i 7), (19, .f), (18, .u 0), (17, .i 0), (16, .p 6), (15, .i 0), (14, .p 5), (13, .i (headErr t l m)), (12, .p 4), (11, .i (headErr t l m)), (10, .p 3), (8, .t), (7, .u v), (6, .i i), (4, .u a), (3, .p 1), (2, .f)], [(6, .cells [.i (hT xs ys a), .i (hL xs ys a), .u (hM xs ys a)] 54), (5, .cells [.i (hT xs ys a), .i (hL xs ys a), .u (hM xs ys a)] 54), (4, .cells (mm W xs ys) 45), (3, .cells (mm W xs ys) 45), (1, .cells (mm W xs ys) 45)], 7⟩ [] trivial ?_
       refine en ?_
       refine an ?_
       refine xw_seq ?_
       refine reg ?_
       refine rk [] 3 0 ⟨[(82, .i i), (81, .u a), (80, .agg (mm W xs ys)), (20, .i 7), (19, .f), (18, .u 0), (17, .i 0), (16, .p 6), (15, .i 0), (14, .p 5), (13, .i (headErr t l m)), (12, .p 4), (11, .i (headErr t l m)), (10, .p 3), (8, .t), (7, .u v), (6, .i i), (4, .u a), (3, .p 1), (2, .f)], [(6, .cells [.i (hT xs ys a), .i (hL xs ys a), .u (hM xs ys a)] 54), (5, .cells [.i (hT xs ys a), .i (hL xs ys a), .u (hM xs ys a)] 54), (4, .cells (mm W xs ys) 45), (3, .cells (mm W xs ys) 45), (1, .cells (mm W xs ys) 45)], 7⟩ [True] ⟨trivial, trivial⟩ ?_
       refine pc (roget_2 W xs ys a i (by omega) (by omega) (by omega) ‹_› ‹_› ‹_› ‹_› ‹_› (by omega) (by omega)) ?_
       obtain ⟨h17, h18, h19⟩ := oErr_ok W xs ys a ‹_›
       refine rk [] 7 4 ⟨[(23, .i 7), (22, .f), (21, .u 0), (20, .i 7), (19, .f), (18, .u 0), (17, .i 0), (16, .p 6), (15, .i 0), (14, .p 5), (13, .i (headErr t l m)), (12, .p 4), (11, .i (headErr t l m)), (10, .p 3), (8, .t), (7, .u v), (6, .i i), (4, .u a), (3, .p 1), (2, .f)], [(6, .cells [.i (hT xs ys a), .i (hL xs ys a), .u (hM xs ys a)] 54), (5, .cells [.i (hT xs ys a), .i (hL xs ys a), .u (hM xs ys a)] 54), (4, .cells (mm W xs ys) 45), (3, .cells (mm W xs ys) 45), (1, .cells (mm W xs ys) 45)], 7⟩ [] trivial ?_
       refine en ?_
       refine an ?_
       refine xw_seq ?_
       refine reg ?_
       refine rk [] 4 0 ⟨[(91, .u v), (90, .i i), (89, .u a), (88, .agg (mm W xs ys)), (23, .i 7), (22, .f), (21, .u 0), (20, .i 7), (19, .f), (18, .u 0), (17, .i 0), (16, .p 6), (15, .i 0), (14, .p 5), (13, .i (headErr t l m)), (12, .p 4), (11, .i (headErr t l m)), (10, .p 3), (8, .t), (7, .u v), (6, .i i), (4, .u a), (3, .p 1), (2, .f)], [(6, .cells [.i (hT xs ys a), .i (hL xs ys a), .u (hM xs ys a)] 54), (5, .cells [.i (hT xs ys a), .i (hL xs ys a), .u (hM xs ys a)] 54), (4, .cells (mm W xs ys) 45), (3, .cells (mm W xs ys) 45), (1, .cells (mm W xs ys) 45)], 7⟩ [True] ⟨trivial, trivial⟩ ?_
       refine pc (oset_2 W xs ys a i v (by omega) (by omega) (by omega) ‹_› ‹_› ‹_› ‹_› ‹_› ‹_› (by omega) (by omega)) ?_
       obtain ⟨h20, h21, h22⟩ := oErr_ok W xs ys a ‹_›
       refine rk [] 6 5 ⟨[(25, .i 7), (24, .p 7), (23, .i 7), (22, .f), (21, .u 0), (20, .i 7), (19, .f), (18, .u 0), (17, .i 0), (16, .p 6), (15, .i 0), (14, .p 5), (13, .i (headErr t l m)), (12, .p 4), (11, .i (headErr t l m)), (10, .p 3), (8, .t), (7, .u v), (6, .i i), (4, .u a), (3, .p 1), (2, .f)], [(7, .cells (mm W xs ys) 45), (6, .cells [.i (hT xs ys a), .i (hL xs ys a), .u (hM xs ys a)] 54), (5, .cells [.i (hT xs ys a), .i (hL xs ys a), .u (hM xs ys a)] 54), (4, .cells (mm W xs ys) 45), (3, .cells (mm W xs ys) 45), (1, .cells (mm W xs ys) 45)], 8⟩ [True] ⟨trivial, trivial⟩ ?_
       refine en ?_
       refine an ?_
       refine xw_seq ?_
       refine reg ?_
       refine rk [] 4 0 ⟨[(99, .u v), (98, .i i), (97, .u a), (96, .agg (mm W xs ys)), (25, .i 7), (24, .p 7), (23, .i 7), (22, .f), (21, .u 0), (20, .i 7), (19, .f), (18, .u 0), (17, .i 0), (16, .p 6), (15, .i 0), (14, .p 5), (13, .i (headErr t l m)), (12, .p 4), (11, .i (headErr t l m)), (10, .p 3), (8, .t), (2, .f)], [(7, .cells (mm W xs ys) 45), (6, .cells [.i (hT xs ys a), .i (hL xs ys a), .u (hM xs ys a)] 54), (5, .cells [.i (hT xs ys a), .i (hL xs ys a), .u (hM xs ys a)] 54), (4, .cells (mm W xs ys) 45), (3, .cells (mm W xs ys) 45)], 8⟩ [True] ⟨trivial, trivial⟩ ?_
       refine pc (roset_2 W xs ys a i v (by omega) (by omega) (by omega) ‹_› ‹_› ‹_› ‹_› ‹_› ‹_› (by omega) (by omega)) ?_
       obtain ⟨h23, h24, h25⟩ := oErr_ok W xs ys a ‹_›
       refine rk [] 6 5 ⟨[(27, .i 7), (26, .p 8), (25, .i 7), (24, .p 7), (23, .i 7), (22, .f), (21, .u 0), (20, .i 7), (19, .f), (18, .u 0), (17, .i 0), (16, .p 6), (15, .i 0), (14, .p 5), (13, .i (headErr t l m)), (12, .p 4), (11, .i (headErr t l m)), (10, .p 3), (8, .t), (2, .f)], [(8, .cells (mm W xs ys) 45), (7, .cells (mm W xs ys) 45), (6, .cells [.i (hT xs ys a), .i (hL xs ys a), .u (hM xs ys a)] 54), (5, .cells [.i (hT xs ys a), .i (hL xs ys a), .u (hM xs ys a)] 54), (4, .cells (mm W xs ys) 45), (3, .cells (mm W xs ys) 45)], 9⟩ [True] ⟨trivial, trivial⟩ ?_
       refine en ?_
       refine an ?_
       refine xw_seq ?_
       refine reg ?_
       refine rk [] 2 0 ⟨[(104, .agg (mm W xs ys)), (103, .agg (mm W xs ys)), (27, .i 7), (26, .p 8), (25, .i 7), (24, .p 7), (23, .i 7), (22, .f), (21, .u 0), (20, .i 7), (19, .f), (18, .u 0), (17, .i 0), (16, .p 6), (15, .i 0), (14, .p 5), (13, .i (headErr t l m)), (11, .i (headErr t l m)), (8, .t), (2, .f)], [(8, .cells (mm W xs ys) 45), (7, .cells (mm W xs ys) 45), (6, .cells [.i (hT xs ys a), .i (hL xs ys a), .u (hM xs ys a)] 54), (5, .cells [.i (hT xs ys a), .i (hL xs ys a), .u (hM xs ys a)] 54)], 9⟩ [True, True] ⟨trivial, trivial, trivial⟩ ?_
       refine pc (rsame_1 W xs ys W xs ys ‹_› ‹_› ‹_› ‹_› (by omega) (by omega) (by omega) (by omega) ‹_› ‹_› ⟨rfl, rfl, rfl⟩) ?_
       refine rk [] 3 3 ⟨[(108, .agg (mm W xs ys)), (107, .agg (mm W xs ys)), (106, .t), (27, .i 7), (25, .i 7), (23, .i 7), (22, .f), (21, .u 0), (20, .i 7), (19, .f), (18, .u 0), (17, .i 0), (16, .p 6), (15, .i 0), (14, .p 5), (13, .i (headErr t l m)), (11, .i (headErr t l m)), (8, .t), (2, .f)], [(6, .cells [.i (hT xs ys a), .i (hL xs ys a), .u (hM xs ys a)] 54), (5, .cells [.i (hT xs ys a), .i (hL xs ys a), .u (hM xs ys a)] 54)], 9⟩ [True, True] ⟨trivial, trivial, trivial⟩ ?_
       refine pc (rsame_1 W xs ys W xs ys ‹_› ‹_› ‹_› ‹_› (by omega) (by omega) (by omega) (by omega) ‹_› ‹_› ⟨rfl, rfl, rfl⟩) ?_
       refine rk [] 2 7 ⟨[(28, .t), (27, .i 7), (25, .i 7), (23, .i 7), (22, .f), (21, .u 0), (20, .i 7), (19, .f), (18, .u 0), (17, .i 0), (16, .p 6), (15, .i 0), (14, .p 5), (13, .i (headErr t l m)), (11, .i (headErr t l m)), (8, .t), (2, .f)], [(6, .cells [.i (hT xs ys a), .i (hL xs ys a), .u (hM xs ys a)] 54), (5, .cells [.i (hT xs ys a), .i (hL xs ys a), .u (hM xs ys a)] 54)], 9⟩ [True] ⟨trivial, trivial⟩ ?_
       refine en ?_
       refine an ?_
       refine rg [(7, .t), (12, .t), (17, .t), (22, .t), (27, .t), (32, .t), (37, .t)] 40 ⟨[(2, .t)], [], 9⟩ [True, ((headErr t l m) == (headErr t l m)) = true, True, True, True, (((ldw xs ys a / 72057594037927936) == (ldw xs ys a / 72057594037927936)) && ((((ldw xs ys a / 4294967296) % 16777216) == ((ldw xs ys a / 4294967296) % 16777216)) && (((ldw xs ys a % 4294967296) == (ldw xs ys a % 4294967296)) && true))) = true, True, (0 == 0) = true, True, (0 == 0) = true, True, (false == false) = true, True, (7 == 7) = true, True, (7 == 7) = true, True] ⟨trivial, beq_iff_eq.2 (by omega), trivial, trivial, trivial, (by simp <;> omega), trivial, beq_iff_eq.2 (by omega), trivial, beq_iff_eq.2 (by omega), trivial, rfl, trivial, beq_iff_eq.2 (by omega), trivial, beq_iff_eq.2 (by omega), trivial, trivial⟩ ?_
       refine xw_ret ?_
       exact bs (.t) rfl
      ·
       refine pc (oget_3 W xs ys a i (by omega) (by omega) (by omega) ‹_› ‹_› ‹_› ‹_› ‹_› (by omega)) ?_
       obtain ⟨h14, h15, h16⟩ := oErr_ok W xs ys a ‹_›
       refine rk [] 7 4 ⟨[(20, .i 8), (19, .f), (18, .u 0), (17, .i 0), (16, .p 6), (15, .i 0), (14, .p 5), (13, .i (headErr t l m)), (12, .p 4), (11, .i (headErr t l m)), (10, .p 3), (8, .t), (7, .u v), (6, .i i), (4, .u a), (3, .p 1), (2, .f)], [(6, .cells [.i (hT xs ys a), .i (hL xs ys a), .u (hM xs ys a)] 54), (5, .cells [.i (hT xs ys a), .i (hL xs ys a), .u (hM xs ys a)] 54), (4, .cells (mm W xs ys) 45), (3, .cells (mm W xs ys) 45), (1, .cells (mm W xs ys) 45)], 7⟩ [] trivial ?_
       refine en ?_
       refine an ?_
       refine xw_seq ?_
       refine reg ?_
       refine rk [] 3 0 ⟨[(82, .i i), (81, .u a), (80, .agg (mm W xs ys)), (20, .i 8), (19, .f), (18, .u 0), (17, .i 0), (16, .p 6), (15, .i 0), (14, .p 5), (13, .i (headErr t l m)), (12, .p 4), (11, .i (headErr t l m)), (10, .p 3), (8, .t), (7, .u v), (6, .i i), (4, .u a), (3, .p 1), (2, .f)], [(6, .cells [.i (hT xs ys a), .i (hL xs ys a), .u (hM xs ys a)] 54), (5, .cells [.i (hT xs ys a), .i (hL xs ys a), .u (hM xs ys a)] 54), (4, .cells (mm W xs ys) 45), (3, .cells (mm W xs ys) 45), (1, .cells (mm W xs ys) 45)], 7⟩ [True] ⟨trivial, trivial⟩ ?_
       refine pc (roget_3 W xs ys a i (by omega) (by omega) (by omega) ‹_› ‹_› ‹_› ‹_› ‹_› (by omega)) ?_
       obtain ⟨h17, h18, h19⟩ := oErr_ok W xs ys a ‹_›
       refine rk [] 7 4 ⟨[(23, .i 8), (22, .f), (21, .u 0), (20, .i 8), (19, .f), (18, .u 0), (17, .i 0), (16, .p 6), (15, .i 0), (14, .p 5), (13, .i (headErr t l m)), (12, .p 4), (11, .i (headErr t l m)), (10, .p 3), (8, .t), (7, .u v), (6, .i i), (4, .u a), (3, .p 1), (2, .f)], [(6, .cells [.i (hT xs ys a), .i (hL xs ys a), .u (hM xs ys a)] 54), (5, .cells [.i (hT xs ys a), .i (hL xs ys a), .u (hM xs ys a)] 54), (4, .cells (mm W xs ys) 45), (3, .cells (mm W xs ys) 45), (1, .cells (mm W xs ys) 45)], 7⟩ [] trivial ?_
       refine en ?_
       refine an ?_
       refine xw_seq ?_
       refine reg ?_
       refine rk [] 4 0 ⟨[(91, .u v), (90, .i i), (89, .u a), (88, .agg (mm W xs ys)), (23, .i 8), (22, .f), (21, .u 0), (20, .i 8), (19, .f), (18, .u 0), (17, .i 0), (16, .p 6), (15, .i 0), (14, .p 5), (13, .i (headErr t l m)), (12, .p 4), (11, .i (headErr t l m)), (10, .p 3), (8, .t), (7, .u v), (6, .i i), (4, .u a), (3, .p 1), (2, .f)], [(6, .cells [.i (hT xs ys a), .i (hL xs ys a), .u (hM xs ys a)] 54), (5, .cells [.i (hT xs ys a), .i (hL xs ys a), .u (hM xs ys a)] 54), (4, .cells (mm W xs ys) 45), (3, .cells (mm W xs ys) 45), (1, .cells (mm W xs ys) 45)], 7⟩ [True] ⟨trivial, trivial⟩ ?_
       refine pc (oset_3 W xs ys a i v (by omega) (by omega) (by omega) ‹_› ‹_› ‹_› ‹_› ‹_› ‹_› (by omega)) ?_
       obtain ⟨h20, h21, h22⟩ := oErr_ok W xs ys a ‹_›
       refine rk [] 6 5 ⟨[(25, .i 8), (24, .p 7), (23, .i 8), (22, .f), (21, .u 0), (20, .i 8), (19, .f), (18, .u 0), (17, .i 0), (16, .p 6), (15, .i 0), (14, .p 5), (13, .i (headErr t l m)), (12, .p 4), (11, .i (headErr t l m)), (10, .p 3), (8, .t), (7, .u v), (6, .i i), (4, .u a), (3, .p 1), (2, .f)], [(7, .cells (mm W xs ys) 45), (6, .cells [.i (hT xs ys a), .i (hL xs ys a), .u (hM xs ys a)] 54), (5, .cells [.i (hT xs ys a), .i (hL xs ys a), .u (hM xs ys a)] 54), (4, .cells (mm W xs ys) 45), (3, .cells (mm W xs ys) 45), (1, .cells (mm W xs ys) 45)], 8⟩ [True] ⟨trivial, trivial⟩ ?_
       refine en ?_
       refine an ?_
       refine xw_seq ?_
       refine reg ?_
       refine rk [] 4 0 ⟨[(99, .u v), (98, .i i), (97, .u a), (96, .agg (mm W xs ys)), (25, .i 8), (24, .p 7), (23, .i 8), (22, .f), (21, .u 0), (20, .i 8), (19, .f), (18, .u 0), (17, .i 0), (16, .p 6), (15, .i 0), (14, .p 5), (13, .i (headErr t l m)), (12, .p 4), (11, .i (headErr t l m)), (10, .p 3), (8, .t), (2, .f)], [(7, .cells (mm W xs ys) 45), (6, .cells [.i (hT xs ys a), .i (hL xs ys a), .u (hM xs ys a)] 54), (5, .cells [.i (hT xs ys a), .i (hL xs ys a), .u (hM xs ys a)] 54), (4, .cells (mm W xs ys) 45), (3, .cells (mm W xs ys) 45)], 8⟩ [True] ⟨trivial, trivial⟩ ?_
       refine pc (roset_3 W xs ys a i v (by omega) (by omega) (by omega) ‹_› ‹_› ‹_› ‹_› ‹_› ‹_› (by omega)) ?_
       obtain ⟨h23, h24, h25⟩ := oErr_ok W xs ys a ‹_›
       refine rk [] 6 5 ⟨[(27, .i 8), (26, .p 8), (25, .i 8), (24, .p 7), (23, .i 8), (22, .f), (21, .u 0), (20, .i 8), (19, .f), (18, .u 0), (17, .i 0), (16, .p 6), (15, .i 0), (14, .p 5), (13, .i (headErr t l m)), (12, .p 4), (11, .i (headErr t l m)), (10, .p 3), (8, .t), (2, .f)], [(8, .cells (mm W xs ys) 45), (7, .cells (mm W xs ys) 45), (6, .cells [.i (hT xs ys a), .i (hL xs ys a), .u (hM xs ys a)] 54), (5, .cells [.i (hT xs ys a), .i (hL xs ys a), .u (hM xs ys a)] 54), (4, .cells (mm W xs ys) 45), (3, .cells (mm W xs ys) 45)], 9⟩ [True] ⟨trivial, trivial⟩ ?_
       refine en ?_
       refine an ?_
       refine xw_seq ?_
       refine reg ?_
       refine rk [] 2 0 ⟨[(104, .agg (mm W xs ys)), (103, .agg (mm W xs ys)), (27, .i 8), (26, .p 8), (25, .i 8), (24, .p 7), (23, .i 8), (22, .f), (21, .u 0), (20, .i 8), (19, .f), (18, .u 0), (17, .i 0), (16, .p 6), (15, .i 0), (14, .p 5), (13, .i (headErr t l m)), (11, .i (headErr t l m)), (8, .t), (2, .f)], [(8, .cells (mm W xs ys) 45), (7, .cells (mm W xs ys) 45), (6, .cells [.i (hT xs ys a), .i (hL xs ys a), .u (hM xs ys a)] 54), (5, .cells [.i (hT xs ys a), .i (hL xs ys a), .u (hM xs ys a)] 54)], 9⟩ [True, True] ⟨trivial, trivial, trivial⟩ ?_
       refine pc (rsame_1 W xs ys W xs ys ‹_› ‹_› ‹_› ‹_› (by omega) (by omega) (by omega) (by omega) ‹_› ‹_› ⟨rfl, rfl, rfl⟩) ?_
       refine rk [] 3 3 ⟨[(108, .agg (mm W xs ys)), (107, .agg (mm W xs ys)), (106, .t), (27, .i 8), (25, .i 8), (23, .i 8), (22, .f), (21, .u 0), (20, .i 8), (19, .f), (18, .u 0), (17, .i 0), (16, .p 6), (15, .i 0), (14, .p 5), (13, .i (headErr t l m)), (11, .i (headErr t l m)), (8, .t), (2, .f)], [(6, .cells [.i (hT xs ys a), .i (hL xs ys a), .u (hM xs ys a)] 54), (5, .cells [.i (hT xs ys a), .i (hL xs ys a), .u (hM xs ys a)] 54)], 9⟩ [True, True] ⟨trivial, trivial, trivial⟩ ?_
       refine pc (rsame_1 W xs ys W xs ys ‹_› ‹_› ‹_› ‹_› (by omega) (by omega) (by omega) (by omega) ‹_› ‹_› ⟨rfl, rfl, rfl⟩) ?_
       refine rk [] 2 7 ⟨[(28, .t), (27, .i 8), (25, .i 8), (23, .i 8), (22, .f), (21, .u 0), (20, .i 8), (19, .f), (18, .u 0), (17, .i 0), (16, .p 6), (15, .i 0), (14, .p 5), (13, .i (headErr t l m)), (11, .i (headErr t l m)), (8, .t), (2, .f)], [(6, .cells [.i (hT xs ys a), .i (hL xs ys a), .u (hM xs ys a)] 54), (5, .cells [.i (hT xs ys a), .i (hL xs ys a), .u (hM xs ys a)] 54)], 9⟩ [True] ⟨trivial, trivial⟩ ?_
       refine en ?_
       refine an ?_
       refine rg [(7, .t), (12, .t), (17, .t), (22, .t), (27, .t), (32, .t), (37, .t)] 40 ⟨[(2, .t)], [], 9⟩ [True, ((headErr t l m) == (headErr t l m)) = true, True, True, True, (((ldw xs ys a / 72057594037927936) == (ldw xs ys a / 72057594037927936)) && ((((ldw xs ys a / 4294967296) % 16777216) == ((ldw xs ys a / 4294967296) % 16777216)) && (((ldw xs ys a % 4294967296) == (ldw xs ys a % 4294967296)) && true))) = true, True, (0 == 0) = true, True, (0 == 0) = true, True, (false == false) = true, True, (8 == 8) = true, True, (8 == 8) = true, True] ⟨trivial, beq_iff_eq.2 (by omega), trivial, trivial, trivial, (by simp <;> omega), trivial, beq_iff_eq.2 (by omega), trivial, beq_iff_eq.2 (by omega), trivial, rfl, trivial, beq_iff_eq.2 (by omega), trivial, beq_iff_eq.2 (by omega), trivial, trivial⟩ ?_
       refine xw_ret ?_
       exact bs (.t) rfl
    ·
     refine pc (oat_2 W xs ys a (by omega) (by omega) (by omega) ‹_› ‹_› ‹_› ‹_›) ?_
     have h6 : (oErr W xs ys a) = 2 ∨ (oErr W xs ys a) = 10 := oErr_no W xs ys a (by omega)
     refine rk [] 6 3 ⟨[(15, .i (oErr W xs ys a)), (14, .p 5), (13, .i (headErr t l m)), (12, .p 4), (11, .i (headErr t l m)), (10, .p 3), (8, .t), (7, .u v), (6, .i i), (4, .u a), (3, .p 1), (2, .f)], [(5, .cells [.i 0, .i 0, .u 0] 54), (4, .cells (mm W xs ys) 45), (3, .cells (mm W xs ys) 45), (1, .cells (mm W xs ys) 45)], 6⟩ [True] ⟨trivial, trivial⟩ ?_
     refine en ?_
     refine an ?_
     refine xw_seq ?_
     refine reg ?_
     refine rk [] 2 0 ⟨[(67, .u a), (66, .agg (mm W xs ys)), (15, .i (oErr W xs ys a)), (14, .p 5), (13, .i (headErr t l m)), (12, .p 4), (11, .i (headErr t l m)), (10, .p 3), (8, .t), (7, .u v), (6, .i i), (4, .u a), (3, .p 1), (2, .f)], [(5, .cells [.i 0, .i 0, .u 0] 54), (4, .cells (mm W xs ys) 45), (3, .cells (mm W xs ys) 45), (1, .cells (mm W xs ys) 45)], 6⟩ [True] ⟨trivial, trivial⟩ ?_
     refine pc (roat_2 W xs ys a (by omega) (by omega) (by omega) ‹_› ‹_› ‹_› ‹_›) ?_
     have h7 : (oErr W xs ys a) = 2 ∨ (oErr W xs ys a) = 10 := oErr_no W xs ys a (by omega)
     refine rk [] 6 3 ⟨[(17, .i (oErr W xs ys a)), (16, .p 6), (15, .i (oErr W xs ys a)), (14, .p 5), (13, .i (headErr t l m)), (12, .p 4), (11, .i (headErr t l m)), (10, .p 3), (8, .t), (7, .u v), (6, .i i), (4, .u a), (3, .p 1), (2, .f)], [(6, .cells [.i 0, .i 0, .u 0] 54), (5, .cells [.i 0, .i 0, .u 0] 54), (4, .cells (mm W xs ys) 45), (3, .cells (mm W xs ys) 45), (1, .cells (mm W xs ys) 45)], 7⟩ [True] ⟨trivial, trivial⟩ ?_
     refine en ?_
     refine an ?_
     refine xw_seq ?_
     refine reg ?_
     refine rk [] 3 0 ⟨[(74, .i i), (73, .u a), (72, .agg (mm W xs ys)), (17, .i (oErr W xs ys a)), (16, .p 6), (15, .i (oErr W xs ys a)), (14, .p 5), (13, .i (headErr t l m)), (12, .p 4), (11, .i (headErr t l m)), (10, .p 3), (8, .t), (7, .u v), (6, .i i), (4, .u a), (3, .p 1), (2, .f)], [(6, .cells [.i 0, .i 0, .u 0] 54), (5, .cells [.i 0, .i 0, .u 0] 54), (4, .cells (mm W xs ys) 45), (3, .cells (mm W xs ys) 45), (1, .cells (mm W xs ys) 45)], 7⟩ [True] ⟨trivial, trivial⟩ ?_
     refine pc (oget_4 W xs ys a i (by omega) (by omega) (by omega) ‹_› ‹_› ‹_› ‹_› ‹_›) ?_
     have h8 : (oErr W xs ys a) = 2 ∨ (oErr W xs ys a) = 10 := oErr_no W xs ys a (by omega)
     refine rk [] 7 4 ⟨[(20, .i (oErr W xs ys a)), (19, .f), (18, .u 0), (17, .i (oErr W xs ys a)), (16, .p 6), (15, .i (oErr W xs ys a)), (14, .p 5), (13, .i (headErr t l m)), (12, .p 4), (11, .i (headErr t l m)), (10, .p 3), (8, .t), (7, .u v), (6, .i i), (4, .u a), (3, .p 1), (2, .f)], [(6, .cells [.i 0, .i 0, .u 0] 54), (5, .cells [.i 0, .i 0, .u 0] 54), (4, .cells (mm W xs ys) 45), (3, .cells (mm W xs ys) 45), (1, .cells (mm W xs ys) 45)], 7⟩ [] trivial ?_
     refine en ?_
     refine an ?_
     refine xw_seq ?_
     refine reg ?_
     refine rk [] 3 0 ⟨[(82, .i i), (81, .u a), (80, .agg (mm W xs ys)), (20, .i (oErr W xs ys a)), (19, .f), (18, .u 0), (17, .i (oErr W xs ys a)), (16, .p 6), (15, .i (oErr W xs ys a)), (14, .p 5), (13, .i (headErr t l m)), (12, .p 4), (11, .i (headErr t l m)), (10, .p 3), (8, .t), (7, .u v), (6, .i i), (4, .u a), (3, .p 1), (2, .f)], [(6, .cells [.i 0, .i 0, .u 0] 54), (5, .cells [.i 0, .i 0, .u 0] 54), (4, .cells (mm W xs ys) 45), (3, .cells (mm W xs ys) 45), (1, .cells (mm W xs ys) 45)], 7⟩ [True] ⟨trivial, trivial⟩ ?_
     refine pc (roget_4 W xs ys a i (by omega) (by omega) (by omega) ‹_› ‹_› ‹_› ‹_› ‹_›) ?_
     have h9 : (oErr W xs ys a) = 2 ∨ (oErr W xs ys a) = 10 := oErr_no W xs ys a (by omega)
     refine rk [] 7 4 ⟨[(23, .i (oErr W xs ys a)), (22, .f), (21, .u 0), (20, .i (oErr W xs ys a)), (19, .f), (18, .u 0), (17, .i (oErr W xs ys a)), (16, .p 6), (15, .i (oErr W xs ys a)), (14, .p 5), (13, .i (headErr t l m)), (12, .p 4), (11, .i (headErr t l m)), (10, .p 3), (8, .t), (7, .u v), (6, .i i), (4, .u a), (3, .p 1), (2, .f)], [(6, .cells [.i 0, .i 0, .u 0] 54), (5, .cells [.i 0, .i 0, .u 0] 54), (4, .cells (mm W xs ys) 45), (3, .cells (mm W xs ys) 45), (1, .cells (mm W xs ys) 45)], 7⟩ [] trivial ?_
     refine en ?_
     refine an ?_
     refine xw_seq ?_
     refine reg ?_
     refine rk [] 4 0 ⟨[(91, .u v), (90, .i i), (89, .u a), (88, .agg (mm W xs ys)), (23, .i (oErr W xs ys a)), (22, .f), (21, .u 0), (20, .i (oErr W xs ys a)), (19, .f), (18, .u 0), (17, .i (oErr W xs ys a)), (16, .p 6), (15, .i (oErr W xs ys a)), (14, .p 5), (13, .i (headErr t l m)), (12, .p 4), (11, .i (headErr t l m)), (10, .p 3), (8, .t), (7, .u v), (6, .i i), (4, .u a), (3, .p 1), (2, .f)], [(6, .cells [.i 0, .i 0, .u 0] 54), (5, .cells [.i 0, .i 0, .u 0] 54), (4, .cells (mm W xs ys) 45), (3, .cells (mm W xs ys) 45), (1, .cells (mm W xs ys) 45)], 7⟩ [True] ⟨trivial, trivial⟩ ?_
     refine pc (oset_4 W xs ys a i v (by omega) (by omega) (by omega) ‹_› ‹_› ‹_› ‹_› ‹_› ‹_›) ?_
     have h10 : (oErr W xs ys a) = 2 ∨ (oErr W xs ys a) = 10 := oErr_no W xs ys a (by omega)
     refine rk [] 6 5 ⟨[(25, .i (oErr W xs ys a)), (24, .p 7), (23, .i (oErr W xs ys a)), (22, .f), (21, .u 0), (20, .i (oErr W xs ys a)), (19, .f), (18, .u 0), (17, .i (oErr W xs ys a)), (16, .p 6), (15, .i (oErr W xs ys a)), (14, .p 5), (13, .i (headErr t l m)), (12, .p 4), (11, .i (headErr t l m)), (10, .p 3), (8, .t), (7, .u v), (6, .i i), (4, .u a), (3, .p 1), (2, .f)], [(7, .cells (mm W xs ys) 45), (6, .cells [.i 0, .i 0, .u 0] 54), (5, .cells [.i 0, .i 0, .u 0] 54), (4, .cells (mm W xs ys) 45), (3, .cells (mm W xs ys) 45), (1, .cells (mm W xs ys) 45)], 8⟩ [True] ⟨trivial, trivial⟩ ?_
     refine en ?_
     refine an ?_
     refine xw_seq ?_
     refine reg ?_
     refine rk [] 4 0 ⟨[(99, .u v), (98, .i i), (97, .u a), (96, .agg (mm W xs ys)), (25, .i (oErr W xs ys a)), (24, .p 7), (23, .i (oErr W xs ys a)), (22, .f), (21, .u 0), (20, .i (oErr W xs ys a)), (19, .f), (18, .u 0), (17, .i (oErr W xs ys a)), (16, .p 6), (15, .i (oErr W xs ys a)), (14, .p 5), (13, .i (headErr t l m)), (12, .p 4), (11, .i (headErr t l m)), (10, .p 3), (8, .t), (2, .f)], [(7, .cells (mm W xs ys) 45), (6, .cells [.i 0, .i 0, .u 0] 54), (5, .cells [.i 0, .i 0, .u 0] 54), (4, .cells (mm W xs ys) 45), (3, .cells (mm W xs ys) 45)], 8⟩ [True] ⟨trivial, trivial⟩ ?_
     refine pc (roset_4 W xs ys a i v (by omega) (by omega) (by omega) ‹_› ‹_› ‹_› ‹_› ‹_› ‹_›) ?_
     have h11 : (oErr W xs ys a) = 2 ∨ (oErr W xs ys a) = 10 := oErr_no W xs ys a (by omega)
     refine rk [] 6 5 ⟨[(27, .i (oErr W xs ys a)), (26, .p 8), (25, .i (oErr W xs ys a)), (24, .p 7), (23, .i (oErr W xs ys a)), (22, .f), (21, .u 0), (20, .i (oErr W xs ys a)), (19, .f), (18, .u 0), (17, .i (oErr W xs ys a)), (16, .p 6), (15, .i (oErr W xs ys a)), (14, .p 5), (13, .i (headErr t l m)), (12, .p 4), (11, .i (headErr t l m)), (10, .p 3), (8, .t), (2, .f)], [(8, .cells (mm W xs ys) 45), (7, .cells (mm W xs ys) 45), (6, .cells [.i 0, .i 0, .u 0] 54), (5, .cells [.i 0, .i 0, .u 0] 54), (4, .cells (mm W xs ys) 45), (3, .cells (mm W xs ys) 45)], 9⟩ [True] ⟨trivial, trivial⟩ ?_
     refine en ?_
     refine an ?_
     refine xw_seq ?_
     refine reg ?_
     refine rk [] 2 0 ⟨[(104, .agg (mm W xs ys)), (103, .agg (mm W xs ys)), (27, .i (oErr W xs ys a)), (26, .p 8), (25, .i (oErr W xs ys a)), (24, .p 7), (23, .i (oErr W xs ys a)), (22, .f), (21, .u 0), (20, .i (oErr W xs ys a)), (19, .f), (18, .u 0), (17, .i (oErr W xs ys a)), (16, .p 6), (15, .i (oErr W xs ys a)), (14, .p 5), (13, .i (headErr t l m)), (11, .i (headErr t l m)), (8, .t), (2, .f)], [(8, .cells (mm W xs ys) 45), (7, .cells (mm W xs ys) 45), (6, .cells [.i 0, .i 0, .u 0] 54), (5, .cells [.i 0, .i 0, .u 0] 54)], 9⟩ [True, True] ⟨trivial, trivial, trivial⟩ ?_
     refine pc (rsame_1 W xs ys W xs ys ‹_› ‹_› ‹_› ‹_› (by omega) (by omega) (by omega) (by omega) ‹_› ‹_› ⟨rfl, rfl, rfl⟩) ?_
     refine rk [] 3 3 ⟨[(108, .agg (mm W xs ys)), (107, .agg (mm W xs ys)), (106, .t), (27, .i (oErr W xs ys a)), (25, .i (oErr W xs ys a)), (23, .i (oErr W xs ys a)), (22, .f), (21, .u 0), (20, .i (oErr W xs ys a)), (19, .f), (18, .u 0), (17, .i (oErr W xs ys a)), (16, .p 6), (15, .i (oErr W xs ys a)), (14, .p 5), (13, .i (headErr t l m)), (11, .i (headErr t l m)), (8, .t), (2, .f)], [(6, .cells [.i 0, .i 0, .u 0] 54), (5, .cells [.i 0, .i 0, .u 0] 54)], 9⟩ [True, True] ⟨trivial, trivial, trivial⟩ ?_
     refine pc (rsame_1 W xs ys W xs ys ‹_› ‹_› ‹_› ‹_› (by omega) (by omega) (by omega) (by omega) ‹_› ‹_› ⟨rfl, rfl, rfl⟩) ?_
     refine rk [] 2 7 ⟨[(28, .t), (27, .i (oErr W xs ys a)), (25, .i (oErr W xs ys a)), (23, .i (oErr W xs ys a)), (22, .f), (21, .u 0), (20, .i (oErr W xs ys a)), (19, .f), (18, .u 0), (17, .i (oErr W xs ys a)), (16, .p 6), (15, .i (oErr W xs ys a)), (14, .p 5), (13, .i (headErr t l m)), (11, .i (headErr t l m)), (8, .t), (2, .f)], [(6, .cells [.i 0, .i 0, .u 0] 54), (5, .cells [.i 0, .i 0, .u 0] 54)], 9⟩ [True] ⟨trivial, trivial⟩ ?_
     refine en ?_
     refine an ?_
     refine rg [(7, .t), (12, .t), (17, .t), (22, .t), (27, .t), (32, .t), (37, .t)] 40 ⟨[(2, .t)], [], 9⟩ [True, ((headErr t l m) == (headErr t l m)) = true, True, True, True, ((0 == 0) && ((0 == 0) && ((0 == 0) && true))) = true, True, ((oErr W xs ys a) == (oErr W xs ys a)) = true, True, (0 == 0) = true, True, (false == false) = true, True, ((oErr W xs ys a) == (oErr W xs ys a)) = true, True, ((oErr W xs ys a) == (oErr W xs ys a)) = true, True] ⟨trivial, beq_iff_eq.2 (by omega), trivial, trivial, trivial, (by simp <;> omega), trivial, beq_iff_eq.2 (by omega), trivial, beq_iff_eq.2 (by omega), trivial, rfl, trivial, beq_iff_eq.2 (by omega), trivial, beq_iff_eq.2 (by omega), trivial, trivial⟩ ?_
     refine xw_ret ?_
     exact bs (.t) rfl
 ·
  refine pc (few5_2 W xs ys ‹_› ‹_›) ?_
  refine rk [] 1 2 ⟨[(9, .f), (8, .t), (7, .u v), (6, .i i), (5, .p 2), (4, .u a), (3, .p 1), (2, .f)], [(2, .cells [.i t, .i l, .u m] 54), (1, .cells (mm W xs ys) 45)], 3⟩ [] trivial ?_
  refine en ?_
  refine an ?_
  refine xw_seq ?_
  refine rg [] 2 ⟨[(43, .t), (8, .t), (7, .u v), (6, .i i), (5, .p 2), (4, .u a), (3, .p 1), (2, .f)], [(2, .cells [.i t, .i l, .u m] 54), (1, .cells (mm W xs ys) 45)], 3⟩ [] trivial ?_
  refine ct ?_
  refine rg [] 2 ⟨[(2, .t), (8, .t), (7, .u v), (6, .i i), (5, .p 2), (4, .u a), (3, .p 1)], [(2, .cells [.i t, .i l, .u m] 54), (1, .cells (mm W xs ys) 45)], 3⟩ [] trivial ?_
  refine xw_ret ?_
  refine an_ret ?_
  exact bs (.t) rfl

end Go.Proofs.Ytiilcckpoibhhaa.X
