/- Contracts of Go functions: what each returns, for every input that its premises name; no memory of the caller is touched. Printed by a program. -/
import Derived.Test.YtiilcckpoibhhaaXc5
namespace Go.Proofs.Ytiilcckpoibhhaa.X
open Go Go.RowKit
set_option linter.unusedVariables false      -- a premise may serve only to tell which way is taken
theorem objectNew (W : Int) (xs : List Int) (ys : List Int) (a : Int) (t : Int) (l : Int) (m : Int) (i : Int) (hp0 : -9223372036854775808 ≤ W ∧ W ≤ 9223372036854775807) (hp1 : U64s xs) (hp2 : U64s ys) (hp3 : 0 ≤ a ∧ a ≤ 18446744073709551615) (hp4 : -9223372036854775808 ≤ t ∧ t ≤ 9223372036854775807) (hp5 : -9223372036854775808 ≤ l ∧ l ≤ 9223372036854775807) (hp6 : 0 ≤ m ∧ m ≤ 18446744073709551615) (hp7 : -9223372036854775808 ≤ i ∧ i ≤ 9223372036854775807) : Pub Try.prog 14 [.agg (mm W xs ys ++ [.int .u64 a, .int .i64 t, .int .i64 l, .int .u64 m, .int .i64 i])] (fun rv => rv = .bool true) := by
 refine pub_of TT_ok Try.func14 rfl (by decide) (Nat.le_of_ble_eq_true (by kernel_rfl)) (by kernel_rfl) ?_
 refine rg [] 2 ⟨[(2, .f), (1, .p 0)], [(0, .cells (mm W xs ys ++ [.u a, .i t, .i l, .u m, .i i]) 85)], 1⟩ [] trivial ?_
 refine rg [] 4 ⟨[(3, .p 1), (2, .f), (1, .p 0)], [(1, .cells (mm W xs ys) 45), (0, .cells (mm W xs ys ++ [.u a, .i t, .i l, .u m, .i i]) 85)], 2⟩ [True, True] ⟨trivial, trivial, trivial⟩ ?_
 refine rg [] 3 ⟨[(4, .u a), (3, .p 1), (2, .f), (1, .p 0)], [(1, .cells (mm W xs ys) 45), (0, .cells (mm W xs ys ++ [.u a, .i t, .i l, .u m, .i i]) 85)], 2⟩ [True] ⟨trivial, trivial⟩ ?_
 refine rg [] 4 ⟨[(5, .p 2), (4, .u a), (3, .p 1), (2, .f), (1, .p 0)], [(2, .cells [.i t, .i l, .u m] 54), (1, .cells (mm W xs ys) 45), (0, .cells (mm W xs ys ++ [.u a, .i t, .i l, .u m, .i i]) 85)], 3⟩ [True, True] ⟨trivial, trivial, trivial⟩ ?_
 refine rg [] 3 ⟨[(6, .i i), (5, .p 2), (4, .u a), (3, .p 1), (2, .f)], [(2, .cells [.i t, .i l, .u m] 54), (1, .cells (mm W xs ys) 45)], 3⟩ [True] ⟨trivial, trivial⟩ ?_
 refine xw_seq ?_
 refine reg ?_
 refine pc (shown5 ) ?_
 refine rk [] 1 1 ⟨[(7, .t), (6, .i i), (5, .p 2), (4, .u a), (3, .p 1), (2, .f)], [(2, .cells [.i t, .i l, .u m] 54), (1, .cells (mm W xs ys) 45)], 3⟩ [] trivial ?_
 refine en ?_
 refine an ?_
 refine xw_seq ?_
 refine reg ?_
 refine rk [] 1 0 ⟨[(28, .agg (mm W xs ys)), (7, .t), (6, .i i), (5, .p 2), (4, .u a), (3, .p 1), (2, .f)], [(2, .cells [.i t, .i l, .u m] 54), (1, .cells (mm W xs ys) 45)], 3⟩ [True] ⟨trivial, trivial⟩ ?_
 by_cases h0 : 16 ≤ W ∧ W ≤ 200 ∧ (xs.length : Int) = W ∧ (ys.length : Int) = W
 ·
  refine pc (few5_1 W xs ys ‹_› ‹_›) ?_
  refine rk [] 1 2 ⟨[(8, .t), (7, .t), (6, .i i), (5, .p 2), (4, .u a), (3, .p 1), (2, .f)], [(2, .cells [.i t, .i l, .u m] 54), (1, .cells (mm W xs ys) 45)], 3⟩ [] trivial ?_
  refine en ?_
  refine an ?_
  refine xw_seq ?_
  refine rg [] 2 ⟨[(31, .f), (7, .t), (6, .i i), (5, .p 2), (4, .u a), (3, .p 1), (2, .f)], [(2, .cells [.i t, .i l, .u m] 54), (1, .cells (mm W xs ys) 45)], 3⟩ [] trivial ?_
  refine cf ?_
  refine xw_skip ?_
  refine an ?_
  refine xw_seq ?_
  refine reg ?_
  refine rk [] 3 0 ⟨[(36, .agg [.i t, .i l, .u m]), (35, .u a), (34, .agg (mm W xs ys)), (7, .t), (6, .i i), (5, .p 2), (4, .u a), (2, .f)], [(2, .cells [.i t, .i l, .u m] 54)], 3⟩ [True, True] ⟨trivial, trivial, trivial⟩ ?_
  by_cases h1 : ((t = 255 ∧ 0 ≤ l ∧ l ≤ 65535 ∧ m = 0) ∨ (1 ≤ t ∧ t ≤ 200 ∧ 0 ≤ l ∧ l ≤ 16 ∧ m < 2 ^ (Int.toNat l) ∧ m < 65536)) ∧ (1 ≤ a / 4294967296 ∧ a / 4294967296 ≤ 2 ∧ a % 4294967296 < W) ∧ ((t = 255 ∧ (a % 4294967296) + l + 1 ≤ W) ∨ (t ≠ 255 ∧ (a % 4294967296) + l + 2 ≤ W))
  ·
   refine pc (oput_1 W xs ys a t l m (by omega) (by omega) (by omega) ‹_› ‹_› ‹_› ‹_› ‹_› ‹_› (by first | omega | decide) (by omega) (by omega)) ?_
   obtain ⟨h2, h3, h4, h5, h6, h7⟩ := put_ok W xs ys a t l m (by omega) (by omega) ‹_› ‹_› (by omega) (by omega) (by omega) (by first | omega | decide) (by omega)
   have h8 : ((ldw (px xs a t l m) (py ys a t l m) a) / 72057594037927936) = t := by omega
   have h9 : (((ldw (px xs a t l m) (py ys a t l m) a) / 4294967296) % 16777216) = l := by omega
   have h10 : ((ldw (px xs a t l m) (py ys a t l m) a) % 4294967296) = m := by omega
   refine rk [] 6 4 ⟨[(10, .i 0), (9, .p 3), (7, .t), (6, .i i), (5, .p 2), (4, .u a), (2, .f)], [(3, .cells (mm W (px xs a t l m) (py ys a t l m)) 45), (2, .cells [.i t, .i l, .u m] 54)], 4⟩ [True] ⟨trivial, trivial⟩ ?_
   refine en ?_
   refine an ?_
   refine xw_seq ?_
   refine rg [(1, .f)] 2 ⟨[(41, .f), (9, .p 3), (7, .t), (6, .i i), (5, .p 2), (4, .u a), (2, .f)], [(3, .cells (mm W (px xs a t l m) (py ys a t l m)) 45), (2, .cells [.i t, .i l, .u m] 54)], 4⟩ [(0 != 0) = false] ⟨bne_eq_false_iff_eq.2 (by omega), trivial⟩ ?_
   refine cf ?_
   refine xw_skip ?_
   refine an ?_
   refine xw_seq ?_
   refine reg ?_
   refine rk [] 2 0 ⟨[(45, .u a), (44, .agg (mm W (px xs a t l m) (py ys a t l m))), (9, .p 3), (7, .t), (6, .i i), (5, .p 2), (4, .u a), (2, .f)], [(3, .cells (mm W (px xs a t l m) (py ys a t l m)) 45), (2, .cells [.i t, .i l, .u m] 54)], 4⟩ [True] ⟨trivial, trivial⟩ ?_
   refine pc (oat_1 W (px xs a t l m) (py ys a t l m) a (by omega) ‹_› ‹_› ‹_› ‹_› ‹_› ‹_›) ?_
   obtain ⟨h11, h12, h13⟩ := oErr_ok W (px xs a t l m) (py ys a t l m) a ‹_›
   refine rk [] 6 3 ⟨[(12, .i 0), (11, .p 4), (9, .p 3), (7, .t), (6, .i i), (5, .p 2), (4, .u a), (2, .f)], [(4, .cells [.i (hT (px xs a t l m) (py ys a t l m) a), .i (hL (px xs a t l m) (py ys a t l m) a), .u (hM (px xs a t l m) (py ys a t l m) a)] 54), (3, .cells (mm W (px xs a t l m) (py ys a t l m)) 45), (2, .cells [.i t, .i l, .u m] 54)], 5⟩ [True] ⟨trivial, trivial⟩ ?_
   refine en ?_
   refine an ?_
   refine xw_seq ?_
   refine rg [(1, .f), (5, .f)] 7 ⟨[(55, .f), (9, .p 3), (7, .t), (6, .i i), (5, .p 2), (4, .u a), (2, .f)], [(3, .cells (mm W (px xs a t l m) (py ys a t l m)) 45), (2, .cells [.i t, .i l, .u m] 54)], 5⟩ [(0 != 0) = false, True, True, (!(((ldw (px xs a t l m) (py ys a t l m) a / 72057594037927936) == t) && ((((ldw (px xs a t l m) (py ys a t l m) a / 4294967296) % 16777216) == l) && (((ldw (px xs a t l m) (py ys a t l m) a % 4294967296) == m) && true)))) = false, True] ⟨bne_eq_false_iff_eq.2 (by omega), trivial, trivial, (by simp <;> omega), trivial, trivial⟩ ?_
   refine cf ?_
   refine xw_skip ?_
   refine an ?_
   refine xw_seq ?_
   refine reg ?_
   refine rk [] 2 0 ⟨[(58, .u a), (57, .agg (mm W (px xs a t l m) (py ys a t l m))), (9, .p 3), (7, .t), (6, .i i), (5, .p 2), (4, .u a), (2, .f)], [(3, .cells (mm W (px xs a t l m) (py ys a t l m)) 45), (2, .cells [.i t, .i l, .u m] 54)], 5⟩ [True] ⟨trivial, trivial⟩ ?_
   by_cases h14 : (ldw (px xs a t l m) (py ys a t l m) a / 72057594037927936) ≠ 255
   ·
    refine pc (otwin_1 W (px xs a t l m) (py ys a t l m) a (by omega) ‹_› ‹_› ‹_› ‹_› ‹_› ‹_› ‹_›) ?_
    obtain ⟨h15, h16, h17⟩ := oErr_ok W (px xs a t l m) (py ys a t l m) a ‹_›
    have h18 : 0 ≤ (ldw (px xs a t l m) (py ys a t l m) (a + 1)) ∧ (ldw (px xs a t l m) (py ys a t l m) (a + 1)) ≤ 18446744073709551615 := ldw_ok (px xs a t l m) (py ys a t l m) (a + 1) ‹_› ‹_›
    have h19 : 1 ≤ (a + 1) / 4294967296 ∧ (a + 1) / 4294967296 ≤ 2 ∧ (a + 1) % 4294967296 < W := by omega
    have h20 : (ldw (px xs a t l m) (py ys a t l m) (a + 1)) = 0 := ldw_pi (show (xs.length : Int) = W by omega) (by omega) (by omega) (by omega) (by omega) (by omega) (by omega) (by omega) (by omega)
    refine rk [] 5 3 ⟨[(14, .i 0), (13, .u (ldw (px xs a t l m) (py ys a t l m) (a + 1))), (9, .p 3), (7, .t), (6, .i i), (5, .p 2), (4, .u a), (2, .f)], [(3, .cells (mm W (px xs a t l m) (py ys a t l m)) 45), (2, .cells [.i t, .i l, .u m] 54)], 5⟩ [] trivial ?_
    refine en ?_
    refine an ?_
    refine xw_seq ?_
    refine reg ?_
    refine rk [] 3 0 ⟨[(65, .i i), (64, .u a), (63, .agg (mm W (px xs a t l m) (py ys a t l m))), (14, .i 0), (13, .u (ldw (px xs a t l m) (py ys a t l m) (a + 1))), (7, .t), (6, .i i), (5, .p 2), (2, .f)], [(2, .cells [.i t, .i l, .u m] 54)], 5⟩ [True] ⟨trivial, trivial⟩ ?_
    by_cases h21 : 0 ≤ i ∧ i < ((ldw (px xs a t l m) (py ys a t l m) a / 4294967296) % 16777216)
    ·
     refine pc (oget_1 W (px xs a t l m) (py ys a t l m) a i (by omega) ‹_› ‹_› ‹_› ‹_› ‹_› ‹_› ‹_› ‹_› ‹_›) ?_
     obtain ⟨h22, h23, h24⟩ := oErr_ok W (px xs a t l m) (py ys a t l m) a ‹_›
     have h25 : 0 ≤ (ldw (px xs a t l m) (py ys a t l m) (a + 2 + i)) ∧ (ldw (px xs a t l m) (py ys a t l m) (a + 2 + i)) ≤ 18446744073709551615 := ldw_ok (px xs a t l m) (py ys a t l m) (a + 2 + i) ‹_› ‹_›
     have h26 : 1 ≤ (a + 2 + i) / 4294967296 ∧ (a + 2 + i) / 4294967296 ≤ 2 ∧ (a + 2 + i) % 4294967296 < W := by omega
     have h27 : (ldw (px xs a t l m) (py ys a t l m) (a + 2 + i)) = 0 := ldw_pi (show (xs.length : Int) = W by omega) (by omega) (by omega) (by omega) (by omega) (by omega) (by omega) (by omega) (by omega)
     have h28 : (isPtr (((ldw (px xs a t l m) (py ys a t l m) a) / 4294967296) % 16777216) ((ldw (px xs a t l m) (py ys a t l m) a) % 4294967296) i) = (isPtr l m i) := by rw [show (((ldw (px xs a t l m) (py ys a t l m) a) / 4294967296) % 16777216) = l by omega, show ((ldw (px xs a t l m) (py ys a t l m) a) % 4294967296) = m by omega]
     refine rk [] 7 4 ⟨[(17, .i 0), (16, .bool (isPtr (hL (px xs a t l m) (py ys a t l m) a) (hM (px xs a t l m) (py ys a t l m) a) i)), (15, .u (ldw (px xs a t l m) (py ys a t l m) (a + 2 + i))), (14, .i 0), (13, .u (ldw (px xs a t l m) (py ys a t l m) (a + 1))), (7, .t), (6, .i i), (5, .p 2), (2, .f)], [(2, .cells [.i t, .i l, .u m] 54)], 5⟩ [] trivial ?_
     refine en ?_
     refine an ?_
     refine xw_seq ?_
     refine rg [(2, .f)] 3 ⟨[(72, .f), (17, .i 0), (16, .bool (isPtr (hL (px xs a t l m) (py ys a t l m) a) (hM (px xs a t l m) (py ys a t l m) a) i)), (15, .u (ldw (px xs a t l m) (py ys a t l m) (a + 2 + i))), (14, .i 0), (13, .u (ldw (px xs a t l m) (py ys a t l m) (a + 1))), (7, .t), (6, .i i), (5, .p 2), (2, .f)], [(2, .cells [.i t, .i l, .u m] 54)], 5⟩ [True, (t == 255) = false] ⟨trivial, beq_eq_false_iff_ne.2 (by omega), trivial⟩ ?_
     refine cf ?_
     refine xw_skip ?_
     refine an ?_
     refine rg [(1, .t), (6, .t)] 9 ⟨[(18, .t), (17, .i 0), (16, .bool (isPtr (hL (px xs a t l m) (py ys a t l m) a) (hM (px xs a t l m) (py ys a t l m) a) i)), (15, .u (ldw (px xs a t l m) (py ys a t l m) (a + 2 + i))), (14, .i 0), (13, .u (ldw (px xs a t l m) (py ys a t l m) (a + 1))), (7, .t), (6, .i i), (5, .p 2), (2, .f)], [(2, .cells [.i t, .i l, .u m] 54)], 5⟩ [(decide (0 ≤ i)) = true, True, (decide (i < l)) = true, True] ⟨decide_eq_true (by omega), trivial, decide_eq_true (by omega), trivial, trivial⟩ ?_
     refine xw_seq ?_
     refine reg ?_
     refine rk [(3, .t), (7, .t), (13, .t), (17, .t)] 23 0 ⟨[(112, .i i), (111, .agg [.i t, .i l, .u m]), (110, .bool (isPtr (hL (px xs a t l m) (py ys a t l m) a) (hM (px xs a t l m) (py ys a t l m) a) i)), (109, .t), (99, .t), (18, .t), (17, .i 0), (2, .f)], [], 5⟩ [(0 == 0) = true, True, ((ldw (px xs a t l m) (py ys a t l m) (a + 1)) == 0) = true, True, (0 == 0) = true, True, ((ldw (px xs a t l m) (py ys a t l m) (a + 2 + i)) == 0) = true, True, True] ⟨beq_iff_eq.2 (by omega), trivial, beq_iff_eq.2 (by omega), trivial, beq_iff_eq.2 (by omega), trivial, beq_iff_eq.2 (by omega), trivial, trivial, trivial⟩ ?_
     refine pc (rhpointer t l m i ‹_› ‹_› ‹_›) ?_
     refine rk [(24, .bool ((isPtr ((ldw (px xs a t l m) (py ys a t l m) a / 4294967296) % 16777216) (ldw (px xs a t l m) (py ys a t l m) a % 4294967296) i) == (isPtr l m i)))] 3 24 ⟨[(116, .bool ((isPtr (hL (px xs a t l m) (py ys a t l m) a) (hM (px xs a t l m) (py ys a t l m) a) i) == (isPtr l m i))), (99, .t), (18, .t), (17, .i 0), (2, .f)], [], 5⟩ [((isPtr ((ldw (px xs a t l m) (py ys a t l m) a / 4294967296) % 16777216) (ldw (px xs a t l m) (py ys a t l m) a % 4294967296) i) == (isPtr l m i)) = ((isPtr ((ldw (px xs a t l m) (py ys a t l m) a / 4294967296) % 16777216) (ldw (px xs a t l m) (py ys a t l m) a % 4294967296) i) == (isPtr l m i)), True] ⟨rfl, trivial, trivial⟩ ?_
     refine splitr 116 (x := ((isPtr ((ldw (px xs a t l m) (py ys a t l m) a / 4294967296) % 16777216) (ldw (px xs a t l m) (py ys a t l m) a % 4294967296) i) == (isPtr l m i))) (by kernel_rfl) (fun h29 => ?_) (fun h29 => ?_)
     ·
      replace h29 : (isPtr ((ldw (px xs a t l m) (py ys a t l m) a / 4294967296) % 16777216) (ldw (px xs a t l m) (py ys a t l m) a % 4294967296) i) = (isPtr l m i) := eq_of_beq h29
      refine rk [] 9 27 ⟨[(2, .t)], [], 5⟩ [True, True] ⟨trivial, trivial, trivial⟩ ?_
      refine en ?_
      refine an ?_
      refine xw_ret ?_
      exact bs (.t) rfl
     ·
      replace h29 : (isPtr ((ldw (px xs a t l m) (py ys a t l m) a / 4294967296) % 16777216) (ldw (px xs a t l m) (py ys a t l m) a % 4294967296) i) ≠ (isPtr l m i) := ne_of_beq_false h29
      refine rk [] 9 27 ⟨[(2, .f)], [], 5⟩ [True, True, True] ⟨trivial, trivial, trivial, trivial⟩ ?_
      refine en ?_
      refine an ?_
      refine xw_ret ?_
      exact bk_ret (.f) (.f) (.t) (by kernel_rfl) (by kernel_rfl) (wkd [false = true] (by kernel_rfl) ⟨(by first | exact decide_eq_true (by omega) | exact decide_eq_false (by omega) | (simp; done) | (simp; omega) | simp_all | grind), trivial⟩) rfl
    ·
     refine pc (oget_2 W (px xs a t l m) (py ys a t l m) a i (by omega) ‹_› ‹_› ‹_› ‹_› ‹_› ‹_› ‹_› ‹_› ‹_›) ?_
     obtain ⟨h22, h23, h24⟩ := oErr_ok W (px xs a t l m) (py ys a t l m) a ‹_›
     refine rk [] 7 4 ⟨[(17, .i 7), (16, .f), (15, .u 0), (14, .i 0), (13, .u (ldw (px xs a t l m) (py ys a t l m) (a + 1))), (7, .t), (6, .i i), (5, .p 2), (2, .f)], [(2, .cells [.i t, .i l, .u m] 54)], 5⟩ [] trivial ?_
     refine en ?_
     refine an ?_
     refine xw_seq ?_
     refine rg [(2, .f)] 3 ⟨[(72, .f), (17, .i 7), (16, .f), (15, .u 0), (14, .i 0), (13, .u (ldw (px xs a t l m) (py ys a t l m) (a + 1))), (7, .t), (6, .i i), (5, .p 2), (2, .f)], [(2, .cells [.i t, .i l, .u m] 54)], 5⟩ [True, (t == 255) = false] ⟨trivial, beq_eq_false_iff_ne.2 (by omega), trivial⟩ ?_
     refine cf ?_
     refine xw_skip ?_
     refine an ?_
     refine xw_seq ?_
     refine reg ?_
     refine rk [(1, .bool (decide (0 ≤ i)))] 3 0 ⟨[(84, .bool (decide (0 ≤ i))), (17, .i 7), (16, .f), (15, .u 0), (14, .i 0), (13, .u (ldw (px xs a t l m) (py ys a t l m) (a + 1))), (7, .t), (6, .i i), (5, .p 2), (2, .f)], [(2, .cells [.i t, .i l, .u m] 54)], 5⟩ [(decide (0 ≤ i)) = (decide (0 ≤ i))] ⟨rfl, trivial⟩ ?_
     refine splitr 84 (x := (decide (0 ≤ i))) (by kernel_rfl) (fun h25 => ?_) (fun h25 => ?_)
     ·
      replace h25 : 0 ≤ i := of_decide_eq_true h25
      refine rk [(6, .f)] 6 3 ⟨[(18, .f), (17, .i 7), (16, .f), (15, .u 0), (14, .i 0), (13, .u (ldw (px xs a t l m) (py ys a t l m) (a + 1))), (7, .t), (6, .i i), (5, .p 2), (2, .f)], [(2, .cells [.i t, .i l, .u m] 54)], 5⟩ [True, (decide (i < l)) = false, True] ⟨trivial, decide_eq_false (by omega), trivial, trivial⟩ ?_
      refine en ?_
      refine an ?_
      refine rg [(3, .t), (7, .t), (31, .t)] 36 ⟨[(2, .t)], [], 5⟩ [(0 == 0) = true, True, ((ldw (px xs a t l m) (py ys a t l m) (a + 1)) == 0) = true, True, True, True, True, (7 == 7) = true, True, True, True] ⟨beq_iff_eq.2 (by omega), trivial, beq_iff_eq.2 (by omega), trivial, trivial, trivial, trivial, beq_iff_eq.2 (by omega), trivial, trivial, trivial, trivial⟩ ?_
      refine xw_ret ?_
      exact bs (.t) rfl
     ·
      replace h25 : ¬ (0 ≤ i) := of_decide_eq_false h25
      refine rk [] 6 3 ⟨[(18, .f), (17, .i 7), (16, .f), (15, .u 0), (14, .i 0), (13, .u (ldw (px xs a t l m) (py ys a t l m) (a + 1))), (7, .t), (6, .i i), (5, .p 2), (2, .f)], [(2, .cells [.i t, .i l, .u m] 54)], 5⟩ [True] ⟨trivial, trivial⟩ ?_
      refine en ?_
      refine an ?_
      refine rg [(3, .t), (7, .t), (31, .t)] 36 ⟨[(2, .t)], [], 5⟩ [(0 == 0) = true, True, ((ldw (px xs a t l m) (py ys a t l m) (a + 1)) == 0) = true, True, True, True, True, (7 == 7) = true, True, True, True] ⟨beq_iff_eq.2 (by omega), trivial, beq_iff_eq.2 (by omega), trivial, trivial, trivial, trivial, beq_iff_eq.2 (by omega), trivial, trivial, trivial, trivial⟩ ?_
      refine xw_ret ?_
      exact bs (.t) rfl
   ·
    refine pc (otwin_2 W (px xs a t l m) (py ys a t l m) a (by omega) ‹_› ‹_› ‹_› ‹_› ‹_› ‹_› (by omega)) ?_
    obtain ⟨h15, h16, h17⟩ := oErr_ok W (px xs a t l m) (py ys a t l m) a ‹_›
    refine rk [] 5 3 ⟨[(14, .i 8), (13, .u 0), (9, .p 3), (7, .t), (6, .i i), (5, .p 2), (4, .u a), (2, .f)], [(3, .cells (mm W (px xs a t l m) (py ys a t l m)) 45), (2, .cells [.i t, .i l, .u m] 54)], 5⟩ [] trivial ?_
    refine en ?_
    refine an ?_
    refine xw_seq ?_
    refine reg ?_
    refine rk [] 3 0 ⟨[(65, .i i), (64, .u a), (63, .agg (mm W (px xs a t l m) (py ys a t l m))), (14, .i 8), (13, .u 0), (7, .t), (6, .i i), (5, .p 2), (2, .f)], [(2, .cells [.i t, .i l, .u m] 54)], 5⟩ [True] ⟨trivial, trivial⟩ ?_
    refine pc (oget_3 W (px xs a t l m) (py ys a t l m) a i (by omega) ‹_› ‹_› ‹_› ‹_› ‹_› ‹_› ‹_› (by omega)) ?_
    obtain ⟨h18, h19, h20⟩ := oErr_ok W (px xs a t l m) (py ys a t l m) a ‹_›
    refine rk [] 7 4 ⟨[(17, .i 8), (16, .f), (15, .u 0), (14, .i 8), (13, .u 0), (7, .t), (6, .i i), (5, .p 2), (2, .f)], [(2, .cells [.i t, .i l, .u m] 54)], 5⟩ [] trivial ?_
    refine en ?_
    refine an ?_
    refine xw_seq ?_
    refine rg [(2, .t)] 3 ⟨[(72, .t), (17, .i 8), (16, .f), (15, .u 0), (14, .i 8), (13, .u 0), (7, .t), (6, .i i), (5, .p 2), (2, .f)], [(2, .cells [.i t, .i l, .u m] 54)], 5⟩ [True, (t == 255) = true] ⟨trivial, beq_iff_eq.2 (by omega), trivial⟩ ?_
    refine ct ?_
    refine rg [(3, .t), (7, .t)] 10 ⟨[(2, .t), (17, .i 8), (16, .f), (15, .u 0), (14, .i 8), (13, .u 0), (7, .t), (6, .i i), (5, .p 2)], [(2, .cells [.i t, .i l, .u m] 54)], 5⟩ [(8 == 8) = true, True, (8 == 8) = true, True] ⟨beq_iff_eq.2 (by omega), trivial, beq_iff_eq.2 (by omega), trivial, trivial⟩ ?_
    refine xw_ret ?_
    refine an_ret ?_
    exact bs (.t) rfl
  ·
   by_cases h2 : ((t = 255 ∧ 0 ≤ l ∧ l ≤ 65535 ∧ m = 0) ∨ (1 ≤ t ∧ t ≤ 200 ∧ 0 ≤ l ∧ l ≤ 16 ∧ m < 2 ^ (Int.toNat l) ∧ m < 65536)) ∧ (¬ ((1 ≤ a / 4294967296 ∧ a / 4294967296 ≤ 2 ∧ a % 4294967296 < W) ∧ ((t = 255 ∧ (a % 4294967296) + l + 1 ≤ W) ∨ (t ≠ 255 ∧ (a % 4294967296) + l + 2 ≤ W))))
   ·
    refine pc (oput_2 W xs ys a t l m (by omega) (by omega) (by omega) ‹_› ‹_› ‹_› ‹_› ‹_› ‹_› (by first | omega | decide) (by omega)) ?_
    refine rk [] 6 4 ⟨[(10, .i 2), (9, .p 3), (7, .t), (6, .i i), (5, .p 2), (4, .u a), (2, .f)], [(3, .cells (mm W xs ys) 45), (2, .cells [.i t, .i l, .u m] 54)], 4⟩ [True] ⟨trivial, trivial⟩ ?_
    refine en ?_
    refine an ?_
    refine xw_seq ?_
    refine rg [(1, .t)] 2 ⟨[(41, .t), (9, .p 3), (7, .t), (6, .i i), (5, .p 2), (4, .u a), (2, .f)], [(3, .cells (mm W xs ys) 45), (2, .cells [.i t, .i l, .u m] 54)], 4⟩ [(2 != 0) = true] ⟨bne_iff_ne.2 (by omega), trivial⟩ ?_
    refine ct ?_
    refine rg [] 2 ⟨[(2, .t), (9, .p 3), (7, .t), (6, .i i), (5, .p 2), (4, .u a)], [(3, .cells (mm W xs ys) 45), (2, .cells [.i t, .i l, .u m] 54)], 4⟩ [] trivial ?_
    refine xw_ret ?_
    refine an_ret ?_
    exact bs (.t) rfl
   ·
    refine pc (oput_3 W xs ys a t l m (by omega) (by omega) (by omega) ‹_› ‹_› ‹_› ‹_› ‹_› ‹_› (by first | omega | decide)) ?_
    have h3 : (headErr t l m) ≠ 0 := headErr_ne (by omega) (by omega)
    refine rk [] 6 4 ⟨[(10, .i (headErr t l m)), (9, .p 3), (7, .t), (6, .i i), (5, .p 2), (4, .u a), (2, .f)], [(3, .cells (mm W xs ys) 45), (2, .cells [.i t, .i l, .u m] 54)], 4⟩ [True] ⟨trivial, trivial⟩ ?_
    refine en ?_
    refine an ?_
    refine xw_seq ?_
    refine rg [(1, .t)] 2 ⟨[(41, .t), (9, .p 3), (7, .t), (6, .i i), (5, .p 2), (4, .u a), (2, .f)], [(3, .cells (mm W xs ys) 45), (2, .cells [.i t, .i l, .u m] 54)], 4⟩ [((headErr t l m) != 0) = true] ⟨bne_iff_ne.2 (by omega), trivial⟩ ?_
    refine ct ?_
    refine rg [] 2 ⟨[(2, .t), (9, .p 3), (7, .t), (6, .i i), (5, .p 2), (4, .u a)], [(3, .cells (mm W xs ys) 45), (2, .cells [.i t, .i l, .u m] 54)], 4⟩ [] trivial ?_
    refine xw_ret ?_
    refine an_ret ?_
    exact bs (.t) rfl
 ·
  refine pc (few5_2 W xs ys ‹_› ‹_›) ?_
  refine rk [] 1 2 ⟨[(8, .f), (7, .t), (6, .i i), (5, .p 2), (4, .u a), (3, .p 1), (2, .f)], [(2, .cells [.i t, .i l, .u m] 54), (1, .cells (mm W xs ys) 45)], 3⟩ [] trivial ?_
  refine en ?_
  refine an ?_
  refine xw_seq ?_
  refine rg [] 2 ⟨[(31, .t), (7, .t), (6, .i i), (5, .p 2), (4, .u a), (3, .p 1), (2, .f)], [(2, .cells [.i t, .i l, .u m] 54), (1, .cells (mm W xs ys) 45)], 3⟩ [] trivial ?_
  refine ct ?_
  refine rg [] 2 ⟨[(2, .t), (7, .t), (6, .i i), (5, .p 2), (4, .u a), (3, .p 1)], [(2, .cells [.i t, .i l, .u m] 54), (1, .cells (mm W xs ys) 45)], 3⟩ [] trivial ?_
  refine xw_ret ?_
  refine an_ret ?_
  exact bs (.t) rfl

end Go.Proofs.Ytiilcckpoibhhaa.X
