/- Contracts of Go functions: what each returns, for every input that its premises name; no memory of the caller is touched. Printed by a program. -/
import Derived.Test.YtiilcckpoibhhaaXc5
namespace Go.Proofs.Ytiilcckpoibhhaa.X
open Go Go.RowKit
set_option linter.unusedVariables false      -- a premise may serve only to tell which way is taken
theorem objectOutside (W : Int) (xs : List Int) (ys : List Int) (a : Int) (t : Int) (l : Int) (m : Int) (o : Int) (hp0 : -9223372036854775808 ≤ W ∧ W ≤ 9223372036854775807) (hp1 : U64s xs) (hp2 : U64s ys) (hp3 : 0 ≤ a ∧ a ≤ 18446744073709551615) (hp4 : -9223372036854775808 ≤ t ∧ t ≤ 9223372036854775807) (hp5 : -9223372036854775808 ≤ l ∧ l ≤ 9223372036854775807) (hp6 : 0 ≤ m ∧ m ≤ 18446744073709551615) (hp7 : 0 ≤ o ∧ o ≤ 18446744073709551615) : Pub Try.prog 11 [.agg (mm W xs ys ++ [.int .u64 a, .int .i64 t, .int .i64 l, .int .u64 m, .int .u64 o])] (fun rv => rv = .bool true) := by
 refine pub_of TT_ok Try.func11 rfl (by decide) (Nat.le_of_ble_eq_true (by kernel_rfl)) (by kernel_rfl) ?_
 refine rg [] 2 ⟨[(2, .f), (1, .p 0)], [(0, .cells (mm W xs ys ++ [.u a, .i t, .i l, .u m, .u o]) 63)], 1⟩ [] trivial ?_
 refine rg [] 4 ⟨[(3, .p 1), (2, .f), (1, .p 0)], [(1, .cells (mm W xs ys) 45), (0, .cells (mm W xs ys ++ [.u a, .i t, .i l, .u m, .u o]) 63)], 2⟩ [True, True] ⟨trivial, trivial, trivial⟩ ?_
 refine rg [] 3 ⟨[(4, .u a), (3, .p 1), (2, .f), (1, .p 0)], [(1, .cells (mm W xs ys) 45), (0, .cells (mm W xs ys ++ [.u a, .i t, .i l, .u m, .u o]) 63)], 2⟩ [True] ⟨trivial, trivial⟩ ?_
 refine rg [] 4 ⟨[(5, .p 2), (4, .u a), (3, .p 1), (2, .f), (1, .p 0)], [(2, .cells [.i t, .i l, .u m] 54), (1, .cells (mm W xs ys) 45), (0, .cells (mm W xs ys ++ [.u a, .i t, .i l, .u m, .u o]) 63)], 3⟩ [True, True] ⟨trivial, trivial, trivial⟩ ?_
 refine rg [] 3 ⟨[(6, .u o), (5, .p 2), (4, .u a), (3, .p 1), (2, .f)], [(2, .cells [.i t, .i l, .u m] 54), (1, .cells (mm W xs ys) 45)], 3⟩ [True] ⟨trivial, trivial⟩ ?_
 refine xw_seq ?_
 refine reg ?_
 refine pc (shown5 ) ?_
 refine rk [] 1 1 ⟨[(7, .t), (6, .u o), (5, .p 2), (4, .u a), (3, .p 1), (2, .f)], [(2, .cells [.i t, .i l, .u m] 54), (1, .cells (mm W xs ys) 45)], 3⟩ [] trivial ?_
 refine en ?_
 refine an ?_
 refine xw_seq ?_
 refine reg ?_
 refine rk [] 1 0 ⟨[(25, .agg (mm W xs ys)), (7, .t), (6, .u o), (5, .p 2), (4, .u a), (3, .p 1), (2, .f)], [(2, .cells [.i t, .i l, .u m] 54), (1, .cells (mm W xs ys) 45)], 3⟩ [True] ⟨trivial, trivial⟩ ?_
 by_cases h0 : 16 ≤ W ∧ W ≤ 200 ∧ (xs.length : Int) = W ∧ (ys.length : Int) = W
 ·
  refine pc (few5_1 W xs ys ‹_› ‹_›) ?_
  refine rk [] 1 2 ⟨[(8, .t), (7, .t), (6, .u o), (5, .p 2), (4, .u a), (3, .p 1), (2, .f)], [(2, .cells [.i t, .i l, .u m] 54), (1, .cells (mm W xs ys) 45)], 3⟩ [] trivial ?_
  refine en ?_
  refine an ?_
  refine xw_seq ?_
  refine rg [] 2 ⟨[(28, .f), (7, .t), (6, .u o), (5, .p 2), (4, .u a), (3, .p 1), (2, .f)], [(2, .cells [.i t, .i l, .u m] 54), (1, .cells (mm W xs ys) 45)], 3⟩ [] trivial ?_
  refine cf ?_
  refine xw_skip ?_
  refine an ?_
  refine xw_seq ?_
  refine reg ?_
  refine rk [] 3 0 ⟨[(33, .agg [.i t, .i l, .u m]), (32, .u a), (31, .agg (mm W xs ys)), (7, .t), (6, .u o), (5, .p 2), (4, .u a), (3, .p 1), (2, .f)], [(2, .cells [.i t, .i l, .u m] 54), (1, .cells (mm W xs ys) 45)], 3⟩ [True, True] ⟨trivial, trivial, trivial⟩ ?_
  by_cases h1 : ((t = 255 ∧ 0 ≤ l ∧ l ≤ 65535 ∧ m = 0) ∨ (1 ≤ t ∧ t ≤ 200 ∧ 0 ≤ l ∧ l ≤ 16 ∧ m < 2 ^ (Int.toNat l) ∧ m < 65536)) ∧ (1 ≤ a / 4294967296 ∧ a / 4294967296 ≤ 2 ∧ a % 4294967296 < W) ∧ ((t = 255 ∧ (a % 4294967296) + l + 1 ≤ W) ∨ (t ≠ 255 ∧ (a % 4294967296) + l + 2 ≤ W))
  ·
   refine pc (oput_1 W xs ys a t l m (by omega) (by omega) (by omega) ‹_› ‹_› ‹_› ‹_› ‹_› ‹_› (by first | omega | decide) (by omega) (by omega)) ?_
   obtain ⟨h2, h3, h4, h5, h6, h7⟩ := put_ok W xs ys a t l m (by omega) (by omega) ‹_› ‹_› (by omega) (by omega) (by omega) (by first | omega | decide) (by omega)
   refine rk [] 6 4 ⟨[(10, .i 0), (9, .p 3), (7, .t), (6, .u o), (5, .p 2), (4, .u a), (3, .p 1), (2, .f)], [(3, .cells (mm W (px xs a t l m) (py ys a t l m)) 45), (2, .cells [.i t, .i l, .u m] 54), (1, .cells (mm W xs ys) 45)], 4⟩ [True] ⟨trivial, trivial⟩ ?_
   refine en ?_
   refine an ?_
   refine xw_seq ?_
   refine reg ?_
   refine rk [] 2 0 ⟨[(39, .u o), (38, .agg (mm W xs ys)), (10, .i 0), (9, .p 3), (7, .t), (6, .u o), (5, .p 2), (4, .u a), (2, .f)], [(3, .cells (mm W (px xs a t l m) (py ys a t l m)) 45), (2, .cells [.i t, .i l, .u m] 54)], 4⟩ [True] ⟨trivial, trivial⟩ ?_
   by_cases h8 : 1 ≤ o / 4294967296 ∧ o / 4294967296 ≤ 2 ∧ o % 4294967296 < W
   ·
    refine pc (rload_1 W xs ys o (by omega) (by omega) (by omega) ‹_› ‹_› ‹_› (by omega)) ?_
    have h9 : 0 ≤ (ldw xs ys o) ∧ (ldw xs ys o) ≤ 18446744073709551615 := ldw_ok xs ys o ‹_› ‹_›
    refine rk [] 5 3 ⟨[(12, .i 0), (11, .u (ldw xs ys o)), (10, .i 0), (9, .p 3), (7, .t), (6, .u o), (5, .p 2), (4, .u a), (2, .f)], [(3, .cells (mm W (px xs a t l m) (py ys a t l m)) 45), (2, .cells [.i t, .i l, .u m] 54)], 4⟩ [] trivial ?_
    refine en ?_
    refine an ?_
    refine xw_seq ?_
    refine reg ?_
    refine rk [] 2 0 ⟨[(45, .u o), (44, .agg (mm W (px xs a t l m) (py ys a t l m))), (12, .i 0), (11, .u (ldw xs ys o)), (10, .i 0), (7, .t), (6, .u o), (5, .p 2), (4, .u a), (2, .f)], [(2, .cells [.i t, .i l, .u m] 54)], 4⟩ [True] ⟨trivial, trivial⟩ ?_
    refine pc (rload_1 W (px xs a t l m) (py ys a t l m) o (by omega) ‹_› ‹_› ‹_› ‹_› ‹_› (by omega)) ?_
    have h10 : 0 ≤ (ldw (px xs a t l m) (py ys a t l m) o) ∧ (ldw (px xs a t l m) (py ys a t l m) o) ≤ 18446744073709551615 := ldw_ok (px xs a t l m) (py ys a t l m) o ‹_› ‹_›
    have h11 : (ldw (px xs a t l m) (py ys a t l m) o) = (ldw xs ys o) ∨ (t = 255 ∧ a ≤ o ∧ o ≤ a + l) ∨ (t ≠ 255 ∧ a ≤ o ∧ o ≤ a + l + 1) := ldw_pd (show (xs.length : Int) = W by omega) (by omega) (by omega) (by omega) (by omega) (by omega) (by omega)
    refine rk [] 5 3 ⟨[(14, .i 0), (13, .u (ldw (px xs a t l m) (py ys a t l m) o)), (12, .i 0), (11, .u (ldw xs ys o)), (10, .i 0), (7, .t), (6, .u o), (5, .p 2), (4, .u a), (2, .f)], [(2, .cells [.i t, .i l, .u m] 54)], 4⟩ [] trivial ?_
    refine en ?_
    refine an ?_
    refine xw_seq ?_
    refine reg ?_
    refine rk [(1, .t), (5, .bool (decide (a ≤ o)))] 8 0 ⟨[(56, .bool (decide (a ≤ o))), (14, .i 0), (13, .u (ldw (px xs a t l m) (py ys a t l m) o)), (12, .i 0), (11, .u (ldw xs ys o)), (7, .t), (6, .u o), (5, .p 2), (4, .u a), (2, .f)], [(2, .cells [.i t, .i l, .u m] 54)], 4⟩ [(0 == 0) = true, (decide (a ≤ o)) = (decide (a ≤ o)), True] ⟨beq_iff_eq.2 (by omega), rfl, trivial, trivial⟩ ?_
    refine splitr 56 (x := (decide (a ≤ o))) (by kernel_rfl) (fun h12 => ?_) (fun h12 => ?_)
    ·
     replace h12 : a ≤ o := of_decide_eq_true h12
     refine rk [(10, .i (o - a))] 4 8 ⟨[(60, .agg [.i t, .i l, .u m]), (59, .u (o - a)), (56, .t), (14, .i 0), (13, .u (ldw (px xs a t l m) (py ys a t l m) o)), (12, .i 0), (11, .u (ldw xs ys o)), (7, .t), (2, .f)], [], 4⟩ [IntKind.u64.wrap (o - a) = (o - a), True] ⟨u64_eq (by omega) (by omega), trivial, trivial⟩ ?_
     by_cases h13 : t = 255
     ·
      refine pc (rhwords_1 t l m ‹_› ‹_› ‹_› (by omega) ‹_›) ?_
      refine rk [(13, .i (l + 1)), (14, .bool (decide ((o - a) < (l + 1))))] 4 13 ⟨[(15, .bool (decide ((o - a) < (l + 1)))), (14, .i 0), (13, .u (ldw (px xs a t l m) (py ys a t l m) o)), (12, .i 0), (11, .u (ldw xs ys o)), (7, .t), (2, .f)], [], 4⟩ [IntKind.u64.wrap (l + 1) = (l + 1), (decide ((o - a) < (l + 1))) = (decide ((o - a) < (l + 1))), True] ⟨u64_in (by omega), rfl, trivial, trivial⟩ ?_
      refine en ?_
      refine an ?_
      refine xw_seq ?_
      refine reg ?_
      refine rk [(4, .t), (9, .bool ((ldw xs ys o) == (ldw (px xs a t l m) (py ys a t l m) o)))] 11 0 ⟨[(75, .bool ((ldw xs ys o) == (ldw (px xs a t l m) (py ys a t l m) o))), (71, .t), (15, .bool (decide ((o - a) < (l + 1)))), (2, .f)], [], 4⟩ [(0 == 0) = true, True, ((ldw xs ys o) == (ldw (px xs a t l m) (py ys a t l m) o)) = ((ldw xs ys o) == (ldw (px xs a t l m) (py ys a t l m) o))] ⟨beq_iff_eq.2 (by omega), trivial, rfl, trivial⟩ ?_
      refine splitr 75 (x := ((ldw xs ys o) == (ldw (px xs a t l m) (py ys a t l m) o))) (by kernel_rfl) (fun h14 => ?_) (fun h14 => ?_)
      ·
       replace h14 : (ldw xs ys o) = (ldw (px xs a t l m) (py ys a t l m) o) := eq_of_beq h14
       refine rk [] 4 11 ⟨[(2, .t)], [], 4⟩ [True, True] ⟨trivial, trivial, trivial⟩ ?_
       refine en ?_
       refine an ?_
       refine xw_ret ?_
       exact bs (.t) rfl
      ·
       replace h14 : (ldw xs ys o) ≠ (ldw (px xs a t l m) (py ys a t l m) o) := ne_of_beq_false h14
       refine rk [] 4 11 ⟨[(2, .bool (decide ((o - a) < (l + 1))))], [], 4⟩ [True, True] ⟨trivial, trivial, trivial⟩ ?_
       refine en ?_
       refine an ?_
       refine xw_ret ?_
       exact bk_ret (.bool (decide ((o - a) < (l + 1)))) (.bool (decide ((o - a) < (l + 1)))) (.t) (by kernel_rfl) (by kernel_rfl) (wkd [(decide ((o - a) < (l + 1))) = true] (by kernel_rfl) ⟨(by first | exact decide_eq_true (by omega) | exact decide_eq_false (by omega) | (simp; done) | (simp; omega) | simp_all | grind), trivial⟩) rfl
     ·
      refine pc (rhwords_2 t l m ‹_› ‹_› ‹_› (by omega) ‹_›) ?_
      refine rk [(13, .i (l + 2)), (14, .bool (decide ((o - a) < (l + 2))))] 4 13 ⟨[(15, .bool (decide ((o - a) < (l + 2)))), (14, .i 0), (13, .u (ldw (px xs a t l m) (py ys a t l m) o)), (12, .i 0), (11, .u (ldw xs ys o)), (7, .t), (2, .f)], [], 4⟩ [IntKind.u64.wrap (l + 2) = (l + 2), (decide ((o - a) < (l + 2))) = (decide ((o - a) < (l + 2))), True] ⟨u64_in (by omega), rfl, trivial, trivial⟩ ?_
      refine en ?_
      refine an ?_
      refine xw_seq ?_
      refine reg ?_
      refine rk [(4, .t), (9, .bool ((ldw xs ys o) == (ldw (px xs a t l m) (py ys a t l m) o)))] 11 0 ⟨[(75, .bool ((ldw xs ys o) == (ldw (px xs a t l m) (py ys a t l m) o))), (71, .t), (15, .bool (decide ((o - a) < (l + 2)))), (2, .f)], [], 4⟩ [(0 == 0) = true, True, ((ldw xs ys o) == (ldw (px xs a t l m) (py ys a t l m) o)) = ((ldw xs ys o) == (ldw (px xs a t l m) (py ys a t l m) o))] ⟨beq_iff_eq.2 (by omega), trivial, rfl, trivial⟩ ?_
      refine splitr 75 (x := ((ldw xs ys o) == (ldw (px xs a t l m) (py ys a t l m) o))) (by kernel_rfl) (fun h14 => ?_) (fun h14 => ?_)
      ·
       replace h14 : (ldw xs ys o) = (ldw (px xs a t l m) (py ys a t l m) o) := eq_of_beq h14
       refine rk [] 4 11 ⟨[(2, .t)], [], 4⟩ [True, True] ⟨trivial, trivial, trivial⟩ ?_
       refine en ?_
       refine an ?_
       refine xw_ret ?_
       exact bs (.t) rfl
      ·
       replace h14 : (ldw xs ys o) ≠ (ldw (px xs a t l m) (py ys a t l m) o) := ne_of_beq_false h14
       refine rk [] 4 11 ⟨[(2, .bool (decide ((o - a) < (l + 2))))], [], 4⟩ [True, True] ⟨trivial, trivial, trivial⟩ ?_
       refine en ?_
       refine an ?_
       refine xw_ret ?_
       exact bk_ret (.bool (decide ((o - a) < (l + 2)))) (.bool (decide ((o - a) < (l + 2)))) (.t) (by kernel_rfl) (by kernel_rfl) (wkd [(decide ((o - a) < (l + 2))) = true] (by kernel_rfl) ⟨(by first | exact decide_eq_true (by omega) | exact decide_eq_false (by omega) | (simp; done) | (simp; omega) | simp_all | grind), trivial⟩) rfl
    ·
     replace h12 : ¬ (a ≤ o) := of_decide_eq_false h12
     refine rk [] 9 8 ⟨[(15, .f), (14, .i 0), (13, .u (ldw (px xs a t l m) (py ys a t l m) o)), (12, .i 0), (11, .u (ldw xs ys o)), (7, .t), (2, .f)], [], 4⟩ [True] ⟨trivial, trivial⟩ ?_
     refine en ?_
     refine an ?_
     refine rg [(4, .t), (9, .t)] 15 ⟨[(2, .t)], [], 4⟩ [(0 == 0) = true, True, ((ldw xs ys o) == (ldw (px xs a t l m) (py ys a t l m) o)) = true, True, True] ⟨beq_iff_eq.2 (by omega), trivial, beq_iff_eq.2 (by omega), trivial, trivial, trivial⟩ ?_
     refine xw_ret ?_
     exact bs (.t) rfl
   ·
    refine pc (rload_2 W xs ys o (by omega) (by omega) (by omega) ‹_› ‹_› ‹_› (by omega)) ?_
    refine rk [] 5 3 ⟨[(12, .i 2), (11, .u 0), (10, .i 0), (9, .p 3), (7, .t), (6, .u o), (5, .p 2), (4, .u a), (2, .f)], [(3, .cells (mm W (px xs a t l m) (py ys a t l m)) 45), (2, .cells [.i t, .i l, .u m] 54)], 4⟩ [] trivial ?_
    refine en ?_
    refine an ?_
    refine xw_seq ?_
    refine reg ?_
    refine rk [] 2 0 ⟨[(45, .u o), (44, .agg (mm W (px xs a t l m) (py ys a t l m))), (12, .i 2), (11, .u 0), (10, .i 0), (7, .t), (6, .u o), (5, .p 2), (4, .u a), (2, .f)], [(2, .cells [.i t, .i l, .u m] 54)], 4⟩ [True] ⟨trivial, trivial⟩ ?_
    refine pc (rload_2 W (px xs a t l m) (py ys a t l m) o (by omega) ‹_› ‹_› ‹_› ‹_› ‹_› (by omega)) ?_
    refine rk [] 5 3 ⟨[(14, .i 2), (13, .u 0), (12, .i 2), (11, .u 0), (10, .i 0), (7, .t), (6, .u o), (5, .p 2), (4, .u a), (2, .f)], [(2, .cells [.i t, .i l, .u m] 54)], 4⟩ [] trivial ?_
    refine en ?_
    refine an ?_
    refine xw_seq ?_
    refine reg ?_
    refine rk [(1, .t), (5, .bool (decide (a ≤ o)))] 8 0 ⟨[(56, .bool (decide (a ≤ o))), (14, .i 2), (13, .u 0), (12, .i 2), (11, .u 0), (7, .t), (6, .u o), (5, .p 2), (4, .u a), (2, .f)], [(2, .cells [.i t, .i l, .u m] 54)], 4⟩ [(0 == 0) = true, (decide (a ≤ o)) = (decide (a ≤ o)), True] ⟨beq_iff_eq.2 (by omega), rfl, trivial, trivial⟩ ?_
    refine splitr 56 (x := (decide (a ≤ o))) (by kernel_rfl) (fun h9 => ?_) (fun h9 => ?_)
    ·
     replace h9 : a ≤ o := of_decide_eq_true h9
     refine rk [(10, .i (o - a))] 4 8 ⟨[(60, .agg [.i t, .i l, .u m]), (59, .u (o - a)), (56, .t), (14, .i 2), (13, .u 0), (12, .i 2), (11, .u 0), (7, .t), (2, .f)], [], 4⟩ [IntKind.u64.wrap (o - a) = (o - a), True] ⟨u64_eq (by omega) (by omega), trivial, trivial⟩ ?_
     by_cases h10 : t = 255
     ·
      refine pc (rhwords_1 t l m ‹_› ‹_› ‹_› (by omega) ‹_›) ?_
      refine rk [(13, .i (l + 1)), (14, .bool (decide ((o - a) < (l + 1))))] 4 13 ⟨[(15, .bool (decide ((o - a) < (l + 1)))), (14, .i 2), (13, .u 0), (12, .i 2), (11, .u 0), (7, .t), (2, .f)], [], 4⟩ [IntKind.u64.wrap (l + 1) = (l + 1), (decide ((o - a) < (l + 1))) = (decide ((o - a) < (l + 1))), True] ⟨u64_in (by omega), rfl, trivial, trivial⟩ ?_
      refine en ?_
      refine an ?_
      refine rg [(4, .t), (9, .t)] 15 ⟨[(2, .t)], [], 4⟩ [(2 == 2) = true, True, (0 == 0) = true, True, True] ⟨beq_iff_eq.2 (by omega), trivial, beq_iff_eq.2 (by omega), trivial, trivial, trivial⟩ ?_
      refine xw_ret ?_
      exact bs (.t) rfl
     ·
      refine pc (rhwords_2 t l m ‹_› ‹_› ‹_› (by omega) ‹_›) ?_
      refine rk [(13, .i (l + 2)), (14, .bool (decide ((o - a) < (l + 2))))] 4 13 ⟨[(15, .bool (decide ((o - a) < (l + 2)))), (14, .i 2), (13, .u 0), (12, .i 2), (11, .u 0), (7, .t), (2, .f)], [], 4⟩ [IntKind.u64.wrap (l + 2) = (l + 2), (decide ((o - a) < (l + 2))) = (decide ((o - a) < (l + 2))), True] ⟨u64_in (by omega), rfl, trivial, trivial⟩ ?_
      refine en ?_
      refine an ?_
      refine rg [(4, .t), (9, .t)] 15 ⟨[(2, .t)], [], 4⟩ [(2 == 2) = true, True, (0 == 0) = true, True, True] ⟨beq_iff_eq.2 (by omega), trivial, beq_iff_eq.2 (by omega), trivial, trivial, trivial⟩ ?_
      refine xw_ret ?_
      exact bs (.t) rfl
    ·
     replace h9 : ¬ (a ≤ o) := of_decide_eq_false h9
     refine rk [] 9 8 ⟨[(15, .f), (14, .i 2), (13, .u 0), (12, .i 2), (11, .u 0), (7, .t), (2, .f)], [], 4⟩ [True] ⟨trivial, trivial⟩ ?_
     refine en ?_
     refine an ?_
     refine rg [(4, .t), (9, .t)] 15 ⟨[(2, .t)], [], 4⟩ [(2 == 2) = true, True, (0 == 0) = true, True, True] ⟨beq_iff_eq.2 (by omega), trivial, beq_iff_eq.2 (by omega), trivial, trivial, trivial⟩ ?_
     refine xw_ret ?_
     exact bs (.t) rfl
  ·
   by_cases h2 : ((t = 255 ∧ 0 ≤ l ∧ l ≤ 65535 ∧ m = 0) ∨ (1 ≤ t ∧ t ≤ 200 ∧ 0 ≤ l ∧ l ≤ 16 ∧ m < 2 ^ (Int.toNat l) ∧ m < 65536)) ∧ (¬ ((1 ≤ a / 4294967296 ∧ a / 4294967296 ≤ 2 ∧ a % 4294967296 < W) ∧ ((t = 255 ∧ (a % 4294967296) + l + 1 ≤ W) ∨ (t ≠ 255 ∧ (a % 4294967296) + l + 2 ≤ W))))
   ·
    refine pc (oput_2 W xs ys a t l m (by omega) (by omega) (by omega) ‹_› ‹_› ‹_› ‹_› ‹_› ‹_› (by first | omega | decide) (by omega)) ?_
    refine rk [] 6 4 ⟨[(10, .i 2), (9, .p 3), (7, .t), (6, .u o), (5, .p 2), (4, .u a), (3, .p 1), (2, .f)], [(3, .cells (mm W xs ys) 45), (2, .cells [.i t, .i l, .u m] 54), (1, .cells (mm W xs ys) 45)], 4⟩ [True] ⟨trivial, trivial⟩ ?_
    refine en ?_
    refine an ?_
    refine xw_seq ?_
    refine reg ?_
    refine rk [] 2 0 ⟨[(39, .u o), (38, .agg (mm W xs ys)), (10, .i 2), (9, .p 3), (7, .t), (6, .u o), (5, .p 2), (4, .u a), (2, .f)], [(3, .cells (mm W xs ys) 45), (2, .cells [.i t, .i l, .u m] 54)], 4⟩ [True] ⟨trivial, trivial⟩ ?_
    by_cases h3 : 1 ≤ o / 4294967296 ∧ o / 4294967296 ≤ 2 ∧ o % 4294967296 < W
    ·
     refine pc (rload_1 W xs ys o (by omega) (by omega) (by omega) ‹_› ‹_› ‹_› (by omega)) ?_
     have h4 : 0 ≤ (ldw xs ys o) ∧ (ldw xs ys o) ≤ 18446744073709551615 := ldw_ok xs ys o ‹_› ‹_›
     refine rk [] 5 3 ⟨[(12, .i 0), (11, .u (ldw xs ys o)), (10, .i 2), (9, .p 3), (7, .t), (6, .u o), (5, .p 2), (4, .u a), (2, .f)], [(3, .cells (mm W xs ys) 45), (2, .cells [.i t, .i l, .u m] 54)], 4⟩ [] trivial ?_
     refine en ?_
     refine an ?_
     refine xw_seq ?_
     refine reg ?_
     refine rk [] 2 0 ⟨[(45, .u o), (44, .agg (mm W xs ys)), (12, .i 0), (11, .u (ldw xs ys o)), (10, .i 2), (7, .t), (6, .u o), (5, .p 2), (4, .u a), (2, .f)], [(2, .cells [.i t, .i l, .u m] 54)], 4⟩ [True] ⟨trivial, trivial⟩ ?_
     refine pc (rload_1 W xs ys o (by omega) (by omega) (by omega) ‹_› ‹_› ‹_› (by omega)) ?_
     have h5 : 0 ≤ (ldw xs ys o) ∧ (ldw xs ys o) ≤ 18446744073709551615 := ldw_ok xs ys o ‹_› ‹_›
     refine rk [] 5 3 ⟨[(14, .i 0), (13, .u (ldw xs ys o)), (12, .i 0), (11, .u (ldw xs ys o)), (10, .i 2), (7, .t), (6, .u o), (5, .p 2), (4, .u a), (2, .f)], [(2, .cells [.i t, .i l, .u m] 54)], 4⟩ [] trivial ?_
     refine en ?_
     refine an ?_
     refine rg [(1, .f)] 17 ⟨[(15, .f), (14, .i 0), (13, .u (ldw xs ys o)), (12, .i 0), (11, .u (ldw xs ys o)), (7, .t), (2, .f)], [], 4⟩ [(2 == 0) = false, True, True] ⟨beq_eq_false_iff_ne.2 (by omega), trivial, trivial, trivial⟩ ?_
     refine rg [(4, .t), (9, .t)] 15 ⟨[(2, .t)], [], 4⟩ [(0 == 0) = true, True, ((ldw xs ys o) == (ldw xs ys o)) = true, True, True] ⟨beq_iff_eq.2 (by omega), trivial, beq_iff_eq.2 (by omega), trivial, trivial, trivial⟩ ?_
     refine xw_ret ?_
     exact bs (.t) rfl
    ·
     refine pc (rload_2 W xs ys o (by omega) (by omega) (by omega) ‹_› ‹_› ‹_› (by omega)) ?_
     refine rk [] 5 3 ⟨[(12, .i 2), (11, .u 0), (10, .i 2), (9, .p 3), (7, .t), (6, .u o), (5, .p 2), (4, .u a), (2, .f)], [(3, .cells (mm W xs ys) 45), (2, .cells [.i t, .i l, .u m] 54)], 4⟩ [] trivial ?_
     refine en ?_
     refine an ?_
     refine xw_seq ?_
     refine reg ?_
     refine rk [] 2 0 ⟨[(45, .u o), (44, .agg (mm W xs ys)), (12, .i 2), (11, .u 0), (10, .i 2), (7, .t), (6, .u o), (5, .p 2), (4, .u a), (2, .f)], [(2, .cells [.i t, .i l, .u m] 54)], 4⟩ [True] ⟨trivial, trivial⟩ ?_
     refine pc (rload_2 W xs ys o (by omega) (by omega) (by omega) ‹_› ‹_› ‹_› (by omega)) ?_
     refine rk [] 5 3 ⟨[(14, .i 2), (13, .u 0), (12, .i 2), (11, .u 0), (10, .i 2), (7, .t), (6, .u o), (5, .p 2), (4, .u a), (2, .f)], [(2, .cells [.i t, .i l, .u m] 54)], 4⟩ [] trivial ?_
     refine en ?_
     refine an ?_
     refine rg [(1, .f)] 17 ⟨[(15, .f), (14, .i 2), (13, .u 0), (12, .i 2), (11, .u 0), (7, .t), (2, .f)], [], 4⟩ [(2 == 0) = false, True, True] ⟨beq_eq_false_iff_ne.2 (by omega), trivial, trivial, trivial⟩ ?_
     refine rg [(4, .t), (9, .t)] 15 ⟨[(2, .t)], [], 4⟩ [(2 == 2) = true, True, (0 == 0) = true, True, True] ⟨beq_iff_eq.2 (by omega), trivial, beq_iff_eq.2 (by omega), trivial, trivial, trivial⟩ ?_
     refine xw_ret ?_
     exact bs (.t) rfl
   ·
    refine pc (oput_3 W xs ys a t l m (by omega) (by omega) (by omega) ‹_› ‹_› ‹_› ‹_› ‹_› ‹_› (by first | omega | decide)) ?_
    have h3 : (headErr t l m) ≠ 0 := headErr_ne (by omega) (by omega)
    refine rk [] 6 4 ⟨[(10, .i (headErr t l m)), (9, .p 3), (7, .t), (6, .u o), (5, .p 2), (4, .u a), (3, .p 1), (2, .f)], [(3, .cells (mm W xs ys) 45), (2, .cells [.i t, .i l, .u m] 54), (1, .cells (mm W xs ys) 45)], 4⟩ [True] ⟨trivial, trivial⟩ ?_
    refine en ?_
    refine an ?_
    refine xw_seq ?_
    refine reg ?_
    refine rk [] 2 0 ⟨[(39, .u o), (38, .agg (mm W xs ys)), (10, .i (headErr t l m)), (9, .p 3), (7, .t), (6, .u o), (5, .p 2), (4, .u a), (2, .f)], [(3, .cells (mm W xs ys) 45), (2, .cells [.i t, .i l, .u m] 54)], 4⟩ [True] ⟨trivial, trivial⟩ ?_
    by_cases h4 : 1 ≤ o / 4294967296 ∧ o / 4294967296 ≤ 2 ∧ o % 4294967296 < W
    ·
     refine pc (rload_1 W xs ys o (by omega) (by omega) (by omega) ‹_› ‹_› ‹_› (by omega)) ?_
     have h5 : 0 ≤ (ldw xs ys o) ∧ (ldw xs ys o) ≤ 18446744073709551615 := ldw_ok xs ys o ‹_› ‹_›
     refine rk [] 5 3 ⟨[(12, .i 0), (11, .u (ldw xs ys o)), (10, .i (headErr t l m)), (9, .p 3), (7, .t), (6, .u o), (5, .p 2), (4, .u a), (2, .f)], [(3, .cells (mm W xs ys) 45), (2, .cells [.i t, .i l, .u m] 54)], 4⟩ [] trivial ?_
     refine en ?_
     refine an ?_
     refine xw_seq ?_
     refine reg ?_
     refine rk [] 2 0 ⟨[(45, .u o), (44, .agg (mm W xs ys)), (12, .i 0), (11, .u (ldw xs ys o)), (10, .i (headErr t l m)), (7, .t), (6, .u o), (5, .p 2), (4, .u a), (2, .f)], [(2, .cells [.i t, .i l, .u m] 54)], 4⟩ [True] ⟨trivial, trivial⟩ ?_
     refine pc (rload_1 W xs ys o (by omega) (by omega) (by omega) ‹_› ‹_› ‹_› (by omega)) ?_
     have h6 : 0 ≤ (ldw xs ys o) ∧ (ldw xs ys o) ≤ 18446744073709551615 := ldw_ok xs ys o ‹_› ‹_›
     refine rk [] 5 3 ⟨[(14, .i 0), (13, .u (ldw xs ys o)), (12, .i 0), (11, .u (ldw xs ys o)), (10, .i (headErr t l m)), (7, .t), (6, .u o), (5, .p 2), (4, .u a), (2, .f)], [(2, .cells [.i t, .i l, .u m] 54)], 4⟩ [] trivial ?_
     refine en ?_
     refine an ?_
     refine rg [(1, .f)] 17 ⟨[(15, .f), (14, .i 0), (13, .u (ldw xs ys o)), (12, .i 0), (11, .u (ldw xs ys o)), (7, .t), (2, .f)], [], 4⟩ [((headErr t l m) == 0) = false, True, True] ⟨beq_eq_false_iff_ne.2 (by omega), trivial, trivial, trivial⟩ ?_
     refine rg [(4, .t), (9, .t)] 15 ⟨[(2, .t)], [], 4⟩ [(0 == 0) = true, True, ((ldw xs ys o) == (ldw xs ys o)) = true, True, True] ⟨beq_iff_eq.2 (by omega), trivial, beq_iff_eq.2 (by omega), trivial, trivial, trivial⟩ ?_
     refine xw_ret ?_
     exact bs (.t) rfl
    ·
     refine pc (rload_2 W xs ys o (by omega) (by omega) (by omega) ‹_› ‹_› ‹_› (by omega)) ?_
     refine rk [] 5 3 ⟨[(12, .i 2), (11, .u 0), (10, .i (headErr t l m)), (9, .p 3), (7, .t), (6, .u o), (5, .p 2), (4, .u a), (2, .f)], [(3, .cells (mm W xs ys) 45), (2, .cells [.i t, .i l, .u m] 54)], 4⟩ [] trivial ?_
     refine en ?_
     refine an ?_
     refine xw_seq ?_
     refine reg ?_
     refine rk [] 2 0 ⟨[(45, .u o), (44, .agg (mm W xs ys)), (12, .i 2), (11, .u 0), (10, .i (headErr t l m)), (7, .t), (6, .u o), (5, .p 2), (4, .u a), (2, .f)], [(2, .cells [.i t, .i l, .u m] 54)], 4⟩ [True] ⟨trivial, trivial⟩ ?_
     refine pc (rload_2 W xs ys o (by omega) (by omega) (by omega) ‹_› ‹_› ‹_› (by omega)) ?_
     refine rk [] 5 3 ⟨[(14, .i 2), (13, .u 0), (12, .i 2), (11, .u 0), (10, .i (headErr t l m)), (7, .t), (6, .u o), (5, .p 2), (4, .u a), (2, .f)], [(2, .cells [.i t, .i l, .u m] 54)], 4⟩ [] trivial ?_
     refine en ?_
     refine an ?_
     refine rg [(1, .f)] 17 ⟨[(15, .f), (14, .i 2), (13, .u 0), (12, .i 2), (11, .u 0), (7, .t), (2, .f)], [], 4⟩ [((headErr t l m) == 0) = false, True, True] ⟨beq_eq_false_iff_ne.2 (by omega), trivial, trivial, trivial⟩ ?_
     refine rg [(4, .t), (9, .t)] 15 ⟨[(2, .t)], [], 4⟩ [(2 == 2) = true, True, (0 == 0) = true, True, True] ⟨beq_iff_eq.2 (by omega), trivial, beq_iff_eq.2 (by omega), trivial, trivial, trivial⟩ ?_
     refine xw_ret ?_
     exact bs (.t) rfl
 ·
  refine pc (few5_2 W xs ys ‹_› ‹_›) ?_
  refine rk [] 1 2 ⟨[(8, .f), (7, .t), (6, .u o), (5, .p 2), (4, .u a), (3, .p 1), (2, .f)], [(2, .cells [.i t, .i l, .u m] 54), (1, .cells (mm W xs ys) 45)], 3⟩ [] trivial ?_
  refine en ?_
  refine an ?_
  refine xw_seq ?_
  refine rg [] 2 ⟨[(28, .t), (7, .t), (6, .u o), (5, .p 2), (4, .u a), (3, .p 1), (2, .f)], [(2, .cells [.i t, .i l, .u m] 54), (1, .cells (mm W xs ys) 45)], 3⟩ [] trivial ?_
  refine ct ?_
  refine rg [] 2 ⟨[(2, .t), (7, .t), (6, .u o), (5, .p 2), (4, .u a), (3, .p 1)], [(2, .cells [.i t, .i l, .u m] 54), (1, .cells (mm W xs ys) 45)], 3⟩ [] trivial ?_
  refine xw_ret ?_
  refine an_ret ?_
  exact bs (.t) rfl

end Go.Proofs.Ytiilcckpoibhhaa.X
