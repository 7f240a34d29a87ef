/- Contracts of Go functions: what each returns, for every input that its premises name; no memory of the caller is touched. Printed by a program. -/
import Derived.Test.YtlapjlbmhaalbaaXb4
namespace Go.Proofs.Ytlapjlbmhaalbaa.X
open Go Go.RowKit
set_option linter.unusedVariables false      -- a premise may serve only to tell which way is taken
theorem oreal (W : Int) (xs ys : List Int) (a : Int) (hp0 : 16 ≤ W ∧ W ≤ 4096) (hp1 : (xs.length : Int) = W) (hp2 : (ys.length : Int) = W) (hp3 : U64s xs) (hp4 : U64s ys) (hp5 : 0 ≤ a ∧ a ≤ 18446744073709551615) : Pub Try.prog 61 [.agg (mm W xs ys), .u a] (fun rv => (((oErr W xs ys a) = 0) ∧ ((ldw xs ys a / 72057594037927936) ≠ 255) ∧ rv = .tup [.agg [.i (ldw xs ys a / 72057594037927936), .i ((ldw xs ys a / 4294967296) % 16777216), .u (ldw xs ys a % 4294967296)], .i 0]) ∨ (((oErr W xs ys a) = 0) ∧ ((ldw xs ys a / 72057594037927936) = 255) ∧ rv = .tup [.agg [.i 0, .i 0, .u 0], .i 8]) ∨ ((¬ ((oErr W xs ys a) = 0)) ∧ rv = .tup [.agg [.i 0, .i 0, .u 0], .i (oErr W xs ys a)])) := by
 refine pub_of TT_ok Try.func61 rfl (by decide) (Nat.le_of_ble_eq_true (by kernel_rfl)) (by kernel_rfl) ?_
 refine rg [] 3 ⟨[(5, .i 0), (4, .p 1), (2, .p 0), (1, .u a)], [(1, .cells [.i 0, .i 0, .u 0] 49), (0, .cells (mm W xs ys) 25)], 2⟩ [] trivial ?_
 refine xw_seq ?_
 refine reg ?_
 refine rk [] 2 0 ⟨[(10, .u a), (9, .agg (mm W xs ys)), (5, .i 0), (4, .p 1)], [(1, .cells [.i 0, .i 0, .u 0] 49)], 2⟩ [True] ⟨trivial, trivial⟩ ?_
 by_cases h0 : (oErr W xs ys a) = 0
 ·
  refine pc (oat_1 W xs ys a ‹_› ‹_› ‹_› ‹_› ‹_› ‹_› ‹_›) ?_
  obtain ⟨h1, h2, h3⟩ := oErr_ok W xs ys a ‹_›
  refine rk [] 6 3 ⟨[(7, .i 0), (6, .p 2), (5, .i 0), (4, .p 1)], [(2, .cells [.i (hT xs ys a), .i (hL xs ys a), .u (hM xs ys a)] 49), (1, .cells [.i 0, .i 0, .u 0] 49)], 3⟩ [True] ⟨trivial, trivial⟩ ?_
  refine en ?_
  refine an ?_
  refine xw_seq ?_
  refine rg [(1, .t), (5, .bool ((ldw xs ys a / 72057594037927936) == 255))] 7 ⟨[(20, .bool ((hT xs ys a) == 255)), (7, .i 0), (6, .p 2), (5, .i 0), (4, .p 1)], [(2, .cells [.i (hT xs ys a), .i (hL xs ys a), .u (hM xs ys a)] 49), (1, .cells [.i 0, .i 0, .u 0] 49)], 3⟩ [(0 == 0) = true, True, ((ldw xs ys a / 72057594037927936) == 255) = ((ldw xs ys a / 72057594037927936) == 255), True] ⟨beq_iff_eq.2 (by omega), trivial, rfl, trivial, trivial⟩ ?_
  refine xw_cond (b := ((ldw xs ys a / 72057594037927936) == 255)) (by kernel_rfl) (fun h4 => ?_) (fun h4 => ?_)
  ·
   replace h4 : (ldw xs ys a / 72057594037927936) = 255 := eq_of_beq h4
   refine rg [] 3 ⟨[(5, .i 8), (7, .i 0), (6, .p 2), (4, .p 1)], [(2, .cells [.i (hT xs ys a), .i (hL xs ys a), .u (hM xs ys a)] 49), (1, .cells [.i 0, .i 0, .u 0] 49)], 3⟩ [True] ⟨trivial, trivial⟩ ?_
   refine xw_ret ?_
   refine an_ret ?_
   exact bs (.tup [.agg [.i 0, .i 0, .u 0], .i 8]) (Or.inr <| Or.inl <| ⟨(by omega), (by omega), rfl⟩)
  ·
   replace h4 : (ldw xs ys a / 72057594037927936) ≠ 255 := ne_of_beq_false h4
   refine xw_skip ?_
   refine an ?_
   refine rg [] 4 ⟨[(5, .i 0), (4, .p 1)], [(1, .cells [.i (hT xs ys a), .i (hL xs ys a), .u (hM xs ys a)] 49)], 3⟩ [True, True] ⟨trivial, trivial, trivial⟩ ?_
   refine xw_ret ?_
   exact bs (.tup [.agg [.i (ldw xs ys a / 72057594037927936), .i ((ldw xs ys a / 4294967296) % 16777216), .u (ldw xs ys a % 4294967296)], .i 0]) (Or.inl <| ⟨(by omega), (by omega), rfl⟩)
 ·
  refine pc (oat_2 W xs ys a ‹_› ‹_› ‹_› ‹_› ‹_› ‹_› ‹_›) ?_
  have h1 : (oErr W xs ys a) = 2 ∨ (oErr W xs ys a) = 10 := oErr_no W xs ys a (by omega)
  refine rk [] 6 3 ⟨[(7, .i (oErr W xs ys a)), (6, .p 2), (5, .i 0), (4, .p 1)], [(2, .cells [.i 0, .i 0, .u 0] 49), (1, .cells [.i 0, .i 0, .u 0] 49)], 3⟩ [True] ⟨trivial, trivial⟩ ?_
  refine en ?_
  refine an ?_
  refine xw_seq ?_
  refine rg [(1, .f)] 7 ⟨[(20, .f), (7, .i (oErr W xs ys a)), (6, .p 2), (5, .i 0), (4, .p 1)], [(2, .cells [.i 0, .i 0, .u 0] 49), (1, .cells [.i 0, .i 0, .u 0] 49)], 3⟩ [((oErr W xs ys a) == 0) = false, True] ⟨beq_eq_false_iff_ne.2 (by omega), trivial, trivial⟩ ?_
  refine cf ?_
  refine xw_skip ?_
  refine an ?_
  refine rg [] 4 ⟨[(5, .i (oErr W xs ys a)), (4, .p 1)], [(1, .cells [.i 0, .i 0, .u 0] 49)], 3⟩ [True, True] ⟨trivial, trivial, trivial⟩ ?_
  refine xw_ret ?_
  exact bs (.tup [.agg [.i 0, .i 0, .u 0], .i (oErr W xs ys a)]) (Or.inr <| Or.inr <| ⟨(by omega), rfl⟩)

theorem oreal_1 (W : Int) (xs ys : List Int) (a : Int) (hp0 : 16 ≤ W ∧ W ≤ 4096) (hp1 : (xs.length : Int) = W) (hp2 : (ys.length : Int) = W) (hp3 : U64s xs) (hp4 : U64s ys) (hp5 : 0 ≤ a ∧ a ≤ 18446744073709551615) (hp6 : (oErr W xs ys a) = 0) (hp7 : (ldw xs ys a / 72057594037927936) ≠ 255) : Pub Try.prog 61 [.agg (mm W xs ys), .u a] (fun rv => rv = .tup [.agg [.i (ldw xs ys a / 72057594037927936), .i ((ldw xs ys a / 4294967296) % 16777216), .u (ldw xs ys a % 4294967296)], .i 0]) := by
  refine (oreal W xs ys a hp0 hp1 hp2 hp3 hp4 hp5).mono ?_
  rintro _ (⟨g0, g1, rfl⟩ | ⟨g0, g1, rfl⟩ | ⟨g0, rfl⟩)
  all_goals first | rfl | (exfalso; first | omega | grind)

theorem oreal_2 (W : Int) (xs ys : List Int) (a : Int) (hp0 : 16 ≤ W ∧ W ≤ 4096) (hp1 : (xs.length : Int) = W) (hp2 : (ys.length : Int) = W) (hp3 : U64s xs) (hp4 : U64s ys) (hp5 : 0 ≤ a ∧ a ≤ 18446744073709551615) (hp6 : (oErr W xs ys a) = 0) (hp7 : (ldw xs ys a / 72057594037927936) = 255) : Pub Try.prog 61 [.agg (mm W xs ys), .u a] (fun rv => rv = .tup [.agg [.i 0, .i 0, .u 0], .i 8]) := by
  refine (oreal W xs ys a hp0 hp1 hp2 hp3 hp4 hp5).mono ?_
  rintro _ (⟨g0, g1, rfl⟩ | ⟨g0, g1, rfl⟩ | ⟨g0, rfl⟩)
  all_goals first | rfl | (exfalso; first | omega | grind)

theorem oreal_3 (W : Int) (xs ys : List Int) (a : Int) (hp0 : 16 ≤ W ∧ W ≤ 4096) (hp1 : (xs.length : Int) = W) (hp2 : (ys.length : Int) = W) (hp3 : U64s xs) (hp4 : U64s ys) (hp5 : 0 ≤ a ∧ a ≤ 18446744073709551615) (hp6 : ¬ ((oErr W xs ys a) = 0)) : Pub Try.prog 61 [.agg (mm W xs ys), .u a] (fun rv => rv = .tup [.agg [.i 0, .i 0, .u 0], .i (oErr W xs ys a)]) := by
  refine (oreal W xs ys a hp0 hp1 hp2 hp3 hp4 hp5).mono ?_
  rintro _ (⟨g0, g1, rfl⟩ | ⟨g0, g1, rfl⟩ | ⟨g0, rfl⟩)
  all_goals first | rfl | (exfalso; first | omega | grind)

theorem ofield (W : Int) (xs ys : List Int) (a i : Int) (hp0 : 16 ≤ W ∧ W ≤ 4096) (hp1 : (xs.length : Int) = W) (hp2 : (ys.length : Int) = W) (hp3 : U64s xs) (hp4 : U64s ys) (hp5 : 0 ≤ a ∧ a ≤ 18446744073709551615) (hp6 : -9223372036854775808 ≤ i ∧ i ≤ 9223372036854775807) : Pub Try.prog 53 [.agg (mm W xs ys), .u a, .i i] (fun rv => (((oErr W xs ys a) = 0) ∧ ((ldw xs ys a / 72057594037927936) ≠ 255) ∧ (0 ≤ i ∧ i < ((ldw xs ys a / 4294967296) % 16777216)) ∧ rv = .tup [.u (a + 2 + i), .bool (isPtr ((ldw xs ys a / 4294967296) % 16777216) (ldw xs ys a % 4294967296) i), .i 0]) ∨ (((oErr W xs ys a) = 0) ∧ ((ldw xs ys a / 72057594037927936) ≠ 255) ∧ (¬ (0 ≤ i ∧ i < ((ldw xs ys a / 4294967296) % 16777216))) ∧ rv = .tup [.u 0, .f, .i 7]) ∨ (((oErr W xs ys a) = 0) ∧ ((ldw xs ys a / 72057594037927936) = 255) ∧ rv = .tup [.u 0, .f, .i 8]) ∨ ((¬ ((oErr W xs ys a) = 0)) ∧ rv = .tup [.u 0, .f, .i (oErr W xs ys a)])) := by
 refine pub_of TT_ok Try.func53 rfl (by decide) (Nat.le_of_ble_eq_true (by kernel_rfl)) (by kernel_rfl) ?_
 refine rg [] 4 ⟨[(8, .i 0), (7, .f), (6, .u 0), (3, .p 0), (1, .u a), (2, .i i)], [(0, .cells (mm W xs ys) 25)], 1⟩ [] trivial ?_
 refine xw_seq ?_
 refine reg ?_
 refine rk [] 2 0 ⟨[(13, .u a), (12, .agg (mm W xs ys)), (8, .i 0), (7, .f), (6, .u 0), (1, .u a), (2, .i i)], [], 1⟩ [True] ⟨trivial, trivial⟩ ?_
 by_cases h0 : ((oErr W xs ys a) = 0) ∧ ((ldw xs ys a / 72057594037927936) ≠ 255)
 ·
  refine pc (oreal_1 W xs ys a ‹_› ‹_› ‹_› ‹_› ‹_› ‹_› (by omega) (by omega)) ?_
  obtain ⟨h1, h2, h3⟩ := oErr_ok W xs ys a (by omega)
  have h4 : 1 ≤ (a + 1) / 4294967296 ∧ (a + 1) / 4294967296 ≤ 2 ∧ (a + 1) % 4294967296 < W := by omega
  refine rk [] 6 3 ⟨[(10, .i 0), (9, .p 1), (8, .i 0), (7, .f), (6, .u 0), (1, .u a), (2, .i i)], [(1, .cells [.i (hT xs ys a), .i (hL xs ys a), .u (hM xs ys a)] 49)], 2⟩ [True] ⟨trivial, trivial⟩ ?_
  refine en ?_
  refine an ?_
  refine xw_seq ?_
  refine xw_block ?_
  refine rg [(1, .f)] 3 ⟨[(17, .f), (10, .i 0), (9, .p 1), (8, .i 0), (7, .f), (6, .u 0), (1, .u a), (2, .i i)], [(1, .cells [.i (hT xs ys a), .i (hL xs ys a), .u (hM xs ys a)] 49)], 2⟩ [(0 != 0) = false] ⟨bne_eq_false_iff_eq.2 (by omega), trivial⟩ ?_
  refine cf ?_
  refine xw_seq ?_
  refine reg ?_
  refine rk [(1, .bool (decide (i < 0)))] 3 0 ⟨[(24, .bool (decide (i < 0))), (9, .p 1), (8, .i 0), (7, .f), (6, .u 0), (1, .u a), (2, .i i)], [(1, .cells [.i (hT xs ys a), .i (hL xs ys a), .u (hM xs ys a)] 49)], 2⟩ [(decide (i < 0)) = (decide (i < 0))] ⟨rfl, trivial⟩ ?_
  refine splitr 24 (x := (decide (i < 0))) (by kernel_rfl) (fun h5 => ?_) (fun h5 => ?_)
  ·
   replace h5 : i < 0 := of_decide_eq_true h5
   refine rk [] 6 3 ⟨[(21, .t), (9, .p 1), (8, .i 0), (7, .f), (6, .u 0), (1, .u a), (2, .i i)], [(1, .cells [.i (hT xs ys a), .i (hL xs ys a), .u (hM xs ys a)] 49)], 2⟩ [True] ⟨trivial, trivial⟩ ?_
   refine en ?_
   refine an ?_
   refine ct ?_
   refine rg [] 3 ⟨[(8, .i 7), (7, .f), (6, .u 0), (9, .p 1), (1, .u a), (2, .i i)], [(1, .cells [.i (hT xs ys a), .i (hL xs ys a), .u (hM xs ys a)] 49)], 2⟩ [] trivial ?_
   refine xw_ret ?_
   refine ib_ret ?_
   refine an_ret ?_
   exact bs (.tup [.u 0, .f, .i 7]) (Or.inr <| Or.inl <| ⟨(by omega), (by omega), (by omega), rfl⟩)
  ·
   replace h5 : ¬ (i < 0) := of_decide_eq_false h5
   refine rk [(6, .bool (decide (((ldw xs ys a / 4294967296) % 16777216) ≤ i)))] 6 3 ⟨[(21, .bool (decide ((hL xs ys a) ≤ i))), (9, .p 1), (8, .i 0), (7, .f), (6, .u 0), (1, .u a), (2, .i i)], [(1, .cells [.i (hT xs ys a), .i (hL xs ys a), .u (hM xs ys a)] 49)], 2⟩ [True, (decide (((ldw xs ys a / 4294967296) % 16777216) ≤ i)) = (decide (((ldw xs ys a / 4294967296) % 16777216) ≤ i)), True] ⟨trivial, rfl, trivial, trivial⟩ ?_
   refine en ?_
   refine an ?_
   refine xw_cond (b := (decide (((ldw xs ys a / 4294967296) % 16777216) ≤ i))) (by kernel_rfl) (fun h6 => ?_) (fun h6 => ?_)
   ·
    replace h6 : ((ldw xs ys a / 4294967296) % 16777216) ≤ i := of_decide_eq_true h6
    refine rg [] 3 ⟨[(8, .i 7), (7, .f), (6, .u 0), (9, .p 1), (1, .u a), (2, .i i)], [(1, .cells [.i (hT xs ys a), .i (hL xs ys a), .u (hM xs ys a)] 49)], 2⟩ [] trivial ?_
    refine xw_ret ?_
    refine ib_ret ?_
    refine an_ret ?_
    exact bs (.tup [.u 0, .f, .i 7]) (Or.inr <| Or.inl <| ⟨(by omega), (by omega), (by omega), rfl⟩)
   ·
    replace h6 : ¬ (((ldw xs ys a / 4294967296) % 16777216) ≤ i) := of_decide_eq_false h6
    refine xw_skip ?_
    refine ib ?_
    refine an ?_
    refine xw_seq ?_
    refine sreg hmix [([(1, .cells [.i (ldw xs ys a / 72057594037927936), .i ((ldw xs ys a / 4294967296) % 16777216), .u (ldw xs ys a % 4294967296)] 49)], 2)] [] [(2, [1]), (3, [0, 1, 2]), (6, [0, 1, 2, 3, 4, 5]), (7, [0, 1, 2, 3, 4, 5, 6]), (8, [0, 1, 2, 3, 4, 5, 6, 7]), (9, [0, 1, 2, 3, 4, 5, 6, 7, 8])] (by kernel_rfl) (by kernel_rfl) (by kernel_rfl) (by kernel_rfl) (by kernel_rfl) ?_
    refine sr [(2, .t)] 3 0 [(32, .sl false 1 [.i 2, .i i]), (31, .i i), (30, .u a), (21, .bool (decide (((ldw xs ys a / 4294967296) % 16777216) ≤ i))), (9, .p 1), (8, .i 0), (7, .f), (6, .u 0), (1, .u a), (2, .i i)] [True, True, True] ⟨trivial, trivial, trivial, trivial⟩ ?_
    refine sc (sum2 a 2 i (by omega) (by omega) (by omega)) ?_
    refine sr [] 2 4 [(35, .i i), (34, .agg [.i (ldw xs ys a / 72057594037927936), .i ((ldw xs ys a / 4294967296) % 16777216), .u (ldw xs ys a % 4294967296)]), (33, .u (a + 2 + i)), (32, .sl false 1 [.i 2, .i i]), (31, .i i), (30, .u a), (21, .bool (decide (((ldw xs ys a / 4294967296) % 16777216) ≤ i))), (9, .p 1), (8, .i 0), (7, .f), (6, .u 0), (1, .u a), (2, .i i)] [True, True] ⟨trivial, trivial, trivial⟩ ?_
    refine sc (hpointer (ldw xs ys a / 72057594037927936) ((ldw xs ys a / 4294967296) % 16777216) (ldw xs ys a % 4294967296) i (by omega) (by omega) (by omega)) ?_
    refine sr [] 3 7 [(8, .i 0), (7, .bool (isPtr ((ldw xs ys a / 4294967296) % 16777216) (ldw xs ys a % 4294967296) i)), (6, .u (a + 2 + i)), (36, .bool (isPtr ((ldw xs ys a / 4294967296) % 16777216) (ldw xs ys a % 4294967296) i)), (35, .i i), (34, .agg [.i (ldw xs ys a / 72057594037927936), .i ((ldw xs ys a / 4294967296) % 16777216), .u (ldw xs ys a % 4294967296)]), (33, .u (a + 2 + i)), (32, .sl false 1 [.i 2, .i i]), (31, .i i), (30, .u a), (21, .bool (decide (((ldw xs ys a / 4294967296) % 16777216) ≤ i))), (9, .p 1), (8, .i 0), (7, .f), (6, .u 0), (1, .u a), (2, .i i)] [True, True, True] ⟨trivial, trivial, trivial, trivial⟩ ?_
    refine sen ?_
    refine an ?_
    refine xw_ret ?_
    by_cases h7 : isPtr ((ldw xs ys a / 4294967296) % 16777216) (ldw xs ys a % 4294967296) i = true
    ·
     exact bs (.tup [.u (a + 2 + i), .bool (isPtr ((ldw xs ys a / 4294967296) % 16777216) (ldw xs ys a % 4294967296) i), .i 0]) (Or.inl <| ⟨(by omega), (by omega), (by omega), rfl⟩)
    ·
     exact bs (.tup [.u (a + 2 + i), .bool (isPtr ((ldw xs ys a / 4294967296) % 16777216) (ldw xs ys a % 4294967296) i), .i 0]) (Or.inl <| ⟨(by omega), (by omega), (by omega), rfl⟩)
 ·
  by_cases h1 : ((oErr W xs ys a) = 0) ∧ ((ldw xs ys a / 72057594037927936) = 255)
  ·
   refine pc (oreal_2 W xs ys a ‹_› ‹_› ‹_› ‹_› ‹_› ‹_› (by omega) (by omega)) ?_
   obtain ⟨h2, h3, h4⟩ := oErr_ok W xs ys a (by omega)
   refine rk [] 6 3 ⟨[(10, .i 8), (9, .p 1), (8, .i 0), (7, .f), (6, .u 0), (1, .u a), (2, .i i)], [(1, .cells [.i 0, .i 0, .u 0] 49)], 2⟩ [True] ⟨trivial, trivial⟩ ?_
   refine en ?_
   refine an ?_
   refine xw_seq ?_
   refine xw_block ?_
   refine rg [(1, .t)] 3 ⟨[(17, .t), (10, .i 8), (9, .p 1), (8, .i 0), (7, .f), (6, .u 0), (1, .u a), (2, .i i)], [(1, .cells [.i 0, .i 0, .u 0] 49)], 2⟩ [(8 != 0) = true] ⟨bne_iff_ne.2 (by omega), trivial⟩ ?_
   refine ct ?_
   refine rg [] 4 ⟨[(8, .i 8), (7, .f), (6, .u 0), (9, .p 1), (1, .u a), (2, .i i)], [(1, .cells [.i 0, .i 0, .u 0] 49)], 2⟩ [] trivial ?_
   refine xw_ret ?_
   refine ib_ret ?_
   refine an_ret ?_
   exact bs (.tup [.u 0, .f, .i 8]) (Or.inr <| Or.inr <| Or.inl <| ⟨(by omega), (by omega), rfl⟩)
  ·
   refine pc (oreal_3 W xs ys a ‹_› ‹_› ‹_› ‹_› ‹_› ‹_› (by omega)) ?_
   have h2 : (oErr W xs ys a) = 2 ∨ (oErr W xs ys a) = 10 := oErr_no W xs ys a (by omega)
   refine rk [] 6 3 ⟨[(10, .i (oErr W xs ys a)), (9, .p 1), (8, .i 0), (7, .f), (6, .u 0), (1, .u a), (2, .i i)], [(1, .cells [.i 0, .i 0, .u 0] 49)], 2⟩ [True] ⟨trivial, trivial⟩ ?_
   refine en ?_
   refine an ?_
   refine xw_seq ?_
   refine xw_block ?_
   refine rg [(1, .t)] 3 ⟨[(17, .t), (10, .i (oErr W xs ys a)), (9, .p 1), (8, .i 0), (7, .f), (6, .u 0), (1, .u a), (2, .i i)], [(1, .cells [.i 0, .i 0, .u 0] 49)], 2⟩ [((oErr W xs ys a) != 0) = true] ⟨bne_iff_ne.2 (by omega), trivial⟩ ?_
   refine ct ?_
   refine rg [] 4 ⟨[(8, .i (oErr W xs ys a)), (7, .f), (6, .u 0), (9, .p 1), (1, .u a), (2, .i i)], [(1, .cells [.i 0, .i 0, .u 0] 49)], 2⟩ [] trivial ?_
   refine xw_ret ?_
   refine ib_ret ?_
   refine an_ret ?_
   exact bs (.tup [.u 0, .f, .i (oErr W xs ys a)]) (Or.inr <| Or.inr <| Or.inr <| ⟨(by omega), rfl⟩)

theorem ofield_1 (W : Int) (xs ys : List Int) (a i : Int) (hp0 : 16 ≤ W ∧ W ≤ 4096) (hp1 : (xs.length : Int) = W) (hp2 : (ys.length : Int) = W) (hp3 : U64s xs) (hp4 : U64s ys) (hp5 : 0 ≤ a ∧ a ≤ 18446744073709551615) (hp6 : -9223372036854775808 ≤ i ∧ i ≤ 9223372036854775807) (hp7 : (oErr W xs ys a) = 0) (hp8 : (ldw xs ys a / 72057594037927936) ≠ 255) (hp9 : 0 ≤ i ∧ i < ((ldw xs ys a / 4294967296) % 16777216)) : Pub Try.prog 53 [.agg (mm W xs ys), .u a, .i i] (fun rv => rv = .tup [.u (a + 2 + i), .bool (isPtr ((ldw xs ys a / 4294967296) % 16777216) (ldw xs ys a % 4294967296) i), .i 0]) := by
  refine (ofield W xs ys a i hp0 hp1 hp2 hp3 hp4 hp5 hp6).mono ?_
  rintro _ (⟨g0, g1, g2, rfl⟩ | ⟨g0, g1, g2, rfl⟩ | ⟨g0, g1, rfl⟩ | ⟨g0, rfl⟩)
  all_goals first | rfl | (exfalso; first | omega | grind)

theorem ofield_2 (W : Int) (xs ys : List Int) (a i : Int) (hp0 : 16 ≤ W ∧ W ≤ 4096) (hp1 : (xs.length : Int) = W) (hp2 : (ys.length : Int) = W) (hp3 : U64s xs) (hp4 : U64s ys) (hp5 : 0 ≤ a ∧ a ≤ 18446744073709551615) (hp6 : -9223372036854775808 ≤ i ∧ i ≤ 9223372036854775807) (hp7 : (oErr W xs ys a) = 0) (hp8 : (ldw xs ys a / 72057594037927936) ≠ 255) (hp9 : ¬ (0 ≤ i ∧ i < ((ldw xs ys a / 4294967296) % 16777216))) : Pub Try.prog 53 [.agg (mm W xs ys), .u a, .i i] (fun rv => rv = .tup [.u 0, .f, .i 7]) := by
  refine (ofield W xs ys a i hp0 hp1 hp2 hp3 hp4 hp5 hp6).mono ?_
  rintro _ (⟨g0, g1, g2, rfl⟩ | ⟨g0, g1, g2, rfl⟩ | ⟨g0, g1, rfl⟩ | ⟨g0, rfl⟩)
  all_goals first | rfl | (exfalso; first | omega | grind)

theorem ofield_3 (W : Int) (xs ys : List Int) (a i : Int) (hp0 : 16 ≤ W ∧ W ≤ 4096) (hp1 : (xs.length : Int) = W) (hp2 : (ys.length : Int) = W) (hp3 : U64s xs) (hp4 : U64s ys) (hp5 : 0 ≤ a ∧ a ≤ 18446744073709551615) (hp6 : -9223372036854775808 ≤ i ∧ i ≤ 9223372036854775807) (hp7 : (oErr W xs ys a) = 0) (hp8 : (ldw xs ys a / 72057594037927936) = 255) : Pub Try.prog 53 [.agg (mm W xs ys), .u a, .i i] (fun rv => rv = .tup [.u 0, .f, .i 8]) := by
  refine (ofield W xs ys a i hp0 hp1 hp2 hp3 hp4 hp5 hp6).mono ?_
  rintro _ (⟨g0, g1, g2, rfl⟩ | ⟨g0, g1, g2, rfl⟩ | ⟨g0, g1, rfl⟩ | ⟨g0, rfl⟩)
  all_goals first | rfl | (exfalso; first | omega | grind)

theorem ofield_4 (W : Int) (xs ys : List Int) (a i : Int) (hp0 : 16 ≤ W ∧ W ≤ 4096) (hp1 : (xs.length : Int) = W) (hp2 : (ys.length : Int) = W) (hp3 : U64s xs) (hp4 : U64s ys) (hp5 : 0 ≤ a ∧ a ≤ 18446744073709551615) (hp6 : -9223372036854775808 ≤ i ∧ i ≤ 9223372036854775807) (hp7 : ¬ ((oErr W xs ys a) = 0)) : Pub Try.prog 53 [.agg (mm W xs ys), .u a, .i i] (fun rv => rv = .tup [.u 0, .f, .i (oErr W xs ys a)]) := by
  refine (ofield W xs ys a i hp0 hp1 hp2 hp3 hp4 hp5 hp6).mono ?_
  rintro _ (⟨g0, g1, g2, rfl⟩ | ⟨g0, g1, g2, rfl⟩ | ⟨g0, g1, rfl⟩ | ⟨g0, rfl⟩)
  all_goals first | rfl | (exfalso; first | omega | grind)

theorem oget (W : Int) (xs ys : List Int) (a i : Int) (hp0 : 16 ≤ W ∧ W ≤ 4096) (hp1 : (xs.length : Int) = W) (hp2 : (ys.length : Int) = W) (hp3 : U64s xs) (hp4 : U64s ys) (hp5 : 0 ≤ a ∧ a ≤ 18446744073709551615) (hp6 : -9223372036854775808 ≤ i ∧ i ≤ 9223372036854775807) : Pub Try.prog 37 [.agg (mm W xs ys), .u a, .i i] (fun rv => (((oErr W xs ys a) = 0) ∧ ((ldw xs ys a / 72057594037927936) ≠ 255) ∧ (0 ≤ i ∧ i < ((ldw xs ys a / 4294967296) % 16777216)) ∧ rv = .tup [.u (ldw xs ys (a + 2 + i)), .bool (isPtr ((ldw xs ys a / 4294967296) % 16777216) (ldw xs ys a % 4294967296) i), .i 0]) ∨ (((oErr W xs ys a) = 0) ∧ ((ldw xs ys a / 72057594037927936) ≠ 255) ∧ (¬ (0 ≤ i ∧ i < ((ldw xs ys a / 4294967296) % 16777216))) ∧ rv = .tup [.u 0, .f, .i 7]) ∨ (((oErr W xs ys a) = 0) ∧ ((ldw xs ys a / 72057594037927936) = 255) ∧ rv = .tup [.u 0, .f, .i 8]) ∨ ((¬ ((oErr W xs ys a) = 0)) ∧ rv = .tup [.u 0, .f, .i (oErr W xs ys a)])) := by
 refine pub_of TT_ok Try.func37 rfl (by decide) (Nat.le_of_ble_eq_true (by kernel_rfl)) (by kernel_rfl) ?_
 refine rg [] 4 ⟨[(8, .i 0), (7, .f), (6, .u 0), (3, .p 0), (1, .u a), (2, .i i)], [(0, .cells (mm W xs ys) 25)], 1⟩ [] trivial ?_
 refine xw_seq ?_
 refine reg ?_
 refine rk [] 3 0 ⟨[(17, .i i), (16, .u a), (15, .agg (mm W xs ys)), (8, .i 0), (7, .f), (6, .u 0), (3, .p 0)], [(0, .cells (mm W xs ys) 25)], 1⟩ [True] ⟨trivial, trivial⟩ ?_
 by_cases h0 : ((oErr W xs ys a) = 0) ∧ ((ldw xs ys a / 72057594037927936) ≠ 255) ∧ (0 ≤ i ∧ i < ((ldw xs ys a / 4294967296) % 16777216))
 ·
  refine pc (ofield_1 W xs ys a i ‹_› ‹_› ‹_› ‹_› ‹_› ‹_› ‹_› (by omega) (by omega) (by omega)) ?_
  obtain ⟨h1, h2, h3⟩ := oErr_ok W xs ys a (by omega)
  have h4 : 1 ≤ (a + 2 + i) / 4294967296 ∧ (a + 2 + i) / 4294967296 ≤ 2 ∧ (a + 2 + i) % 4294967296 < W := by omega
  refine rk [] 7 4 ⟨[(11, .i 0), (10, .bool (isPtr (hL xs ys a) (hM xs ys a) i)), (9, .u (a + 2 + i)), (8, .i 0), (7, .f), (6, .u 0), (3, .p 0)], [(0, .cells (mm W xs ys) 25)], 1⟩ [] trivial ?_
  refine en ?_
  refine an ?_
  refine xw_seq ?_
  refine rg [(1, .f)] 2 ⟨[(23, .f), (11, .i 0), (10, .bool (isPtr (hL xs ys a) (hM xs ys a) i)), (9, .u (a + 2 + i)), (8, .i 0), (7, .f), (6, .u 0), (3, .p 0)], [(0, .cells (mm W xs ys) 25)], 1⟩ [(0 != 0) = false] ⟨bne_eq_false_iff_eq.2 (by omega), trivial⟩ ?_
  refine cf ?_
  refine xw_skip ?_
  refine an ?_
  refine xw_seq ?_
  refine reg ?_
  refine rk [] 2 0 ⟨[(27, .u (a + 2 + i)), (26, .agg (mm W xs ys)), (10, .bool (isPtr (hL xs ys a) (hM xs ys a) i)), (8, .i 0), (7, .f), (6, .u 0)], [], 1⟩ [True] ⟨trivial, trivial⟩ ?_
  refine pc (load_1 W xs ys (a + 2 + i) ‹_› ‹_› ‹_› ‹_› ‹_› (by omega) (by omega)) ?_
  have h5 : 0 ≤ (ldw xs ys (a + 2 + i)) ∧ (ldw xs ys (a + 2 + i)) ≤ 18446744073709551615 := ldw_ok xs ys (a + 2 + i) ‹_› ‹_›
  refine rk [] 5 3 ⟨[(12, .u (ldw xs ys (a + 2 + i))), (10, .bool (isPtr (hL xs ys a) (hM xs ys a) i)), (8, .i 0), (7, .f), (6, .u 0)], [], 1⟩ [] trivial ?_
  refine en ?_
  refine an ?_
  refine rg [] 5 ⟨[(8, .i 0), (7, .bool (isPtr (hL xs ys a) (hM xs ys a) i)), (6, .u (ldw xs ys (a + 2 + i)))], [], 1⟩ [] trivial ?_
  refine xw_ret ?_
  by_cases h6 : isPtr ((ldw xs ys a / 4294967296) % 16777216) (ldw xs ys a % 4294967296) i = true
  ·
   exact bs (.tup [.u (ldw xs ys (a + 2 + i)), .bool (isPtr ((ldw xs ys a / 4294967296) % 16777216) (ldw xs ys a % 4294967296) i), .i 0]) (Or.inl <| ⟨(by omega), (by omega), (by omega), rfl⟩)
  ·
   exact bs (.tup [.u (ldw xs ys (a + 2 + i)), .bool (isPtr ((ldw xs ys a / 4294967296) % 16777216) (ldw xs ys a % 4294967296) i), .i 0]) (Or.inl <| ⟨(by omega), (by omega), (by omega), rfl⟩)
 ·
  by_cases h1 : ((oErr W xs ys a) = 0) ∧ ((ldw xs ys a / 72057594037927936) ≠ 255) ∧ (¬ (0 ≤ i ∧ i < ((ldw xs ys a / 4294967296) % 16777216)))
  ·
   refine pc (ofield_2 W xs ys a i ‹_› ‹_› ‹_› ‹_› ‹_› ‹_› ‹_› (by omega) (by omega) (by omega)) ?_
   obtain ⟨h2, h3, h4⟩ := oErr_ok W xs ys a (by omega)
   refine rk [] 7 4 ⟨[(11, .i 7), (10, .f), (9, .u 0), (8, .i 0), (7, .f), (6, .u 0), (3, .p 0)], [(0, .cells (mm W xs ys) 25)], 1⟩ [] trivial ?_
   refine en ?_
   refine an ?_
   refine xw_seq ?_
   refine rg [(1, .t)] 2 ⟨[(23, .t), (11, .i 7), (10, .f), (9, .u 0), (8, .i 0), (7, .f), (6, .u 0), (3, .p 0)], [(0, .cells (mm W xs ys) 25)], 1⟩ [(7 != 0) = true] ⟨bne_iff_ne.2 (by omega), trivial⟩ ?_
   refine ct ?_
   refine rg [] 4 ⟨[(8, .i 7), (7, .f), (6, .u 0), (10, .f), (9, .u 0), (3, .p 0)], [(0, .cells (mm W xs ys) 25)], 1⟩ [] trivial ?_
   refine xw_ret ?_
   refine an_ret ?_
   exact bs (.tup [.u 0, .f, .i 7]) (Or.inr <| Or.inl <| ⟨(by omega), (by omega), (by omega), rfl⟩)
  ·
   by_cases h2 : ((oErr W xs ys a) = 0) ∧ ((ldw xs ys a / 72057594037927936) = 255)
   ·
    refine pc (ofield_3 W xs ys a i ‹_› ‹_› ‹_› ‹_› ‹_› ‹_› ‹_› (by omega) (by omega)) ?_
    obtain ⟨h3, h4, h5⟩ := oErr_ok W xs ys a (by omega)
    refine rk [] 7 4 ⟨[(11, .i 8), (10, .f), (9, .u 0), (8, .i 0), (7, .f), (6, .u 0), (3, .p 0)], [(0, .cells (mm W xs ys) 25)], 1⟩ [] trivial ?_
    refine en ?_
    refine an ?_
    refine xw_seq ?_
    refine rg [(1, .t)] 2 ⟨[(23, .t), (11, .i 8), (10, .f), (9, .u 0), (8, .i 0), (7, .f), (6, .u 0), (3, .p 0)], [(0, .cells (mm W xs ys) 25)], 1⟩ [(8 != 0) = true] ⟨bne_iff_ne.2 (by omega), trivial⟩ ?_
    refine ct ?_
    refine rg [] 4 ⟨[(8, .i 8), (7, .f), (6, .u 0), (10, .f), (9, .u 0), (3, .p 0)], [(0, .cells (mm W xs ys) 25)], 1⟩ [] trivial ?_
    refine xw_ret ?_
    refine an_ret ?_
    exact bs (.tup [.u 0, .f, .i 8]) (Or.inr <| Or.inr <| Or.inl <| ⟨(by omega), (by omega), rfl⟩)
   ·
    refine pc (ofield_4 W xs ys a i ‹_› ‹_› ‹_› ‹_› ‹_› ‹_› ‹_› (by omega)) ?_
    have h3 : (oErr W xs ys a) = 2 ∨ (oErr W xs ys a) = 10 := oErr_no W xs ys a (by omega)
    refine rk [] 7 4 ⟨[(11, .i (oErr W xs ys a)), (10, .f), (9, .u 0), (8, .i 0), (7, .f), (6, .u 0), (3, .p 0)], [(0, .cells (mm W xs ys) 25)], 1⟩ [] trivial ?_
    refine en ?_
    refine an ?_
    refine xw_seq ?_
    refine rg [(1, .t)] 2 ⟨[(23, .t), (11, .i (oErr W xs ys a)), (10, .f), (9, .u 0), (8, .i 0), (7, .f), (6, .u 0), (3, .p 0)], [(0, .cells (mm W xs ys) 25)], 1⟩ [((oErr W xs ys a) != 0) = true] ⟨bne_iff_ne.2 (by omega), trivial⟩ ?_
    refine ct ?_
    refine rg [] 4 ⟨[(8, .i (oErr W xs ys a)), (7, .f), (6, .u 0), (10, .f), (9, .u 0), (3, .p 0)], [(0, .cells (mm W xs ys) 25)], 1⟩ [] trivial ?_
    refine xw_ret ?_
    refine an_ret ?_
    exact bs (.tup [.u 0, .f, .i (oErr W xs ys a)]) (Or.inr <| Or.inr <| Or.inr <| ⟨(by omega), rfl⟩)

theorem oget_1 (W : Int) (xs ys : List Int) (a i : Int) (hp0 : 16 ≤ W ∧ W ≤ 4096) (hp1 : (xs.length : Int) = W) (hp2 : (ys.length : Int) = W) (hp3 : U64s xs) (hp4 : U64s ys) (hp5 : 0 ≤ a ∧ a ≤ 18446744073709551615) (hp6 : -9223372036854775808 ≤ i ∧ i ≤ 9223372036854775807) (hp7 : (oErr W xs ys a) = 0) (hp8 : (ldw xs ys a / 72057594037927936) ≠ 255) (hp9 : 0 ≤ i ∧ i < ((ldw xs ys a / 4294967296) % 16777216)) : Pub Try.prog 37 [.agg (mm W xs ys), .u a, .i i] (fun rv => rv = .tup [.u (ldw xs ys (a + 2 + i)), .bool (isPtr ((ldw xs ys a / 4294967296) % 16777216) (ldw xs ys a % 4294967296) i), .i 0]) := by
  refine (oget W xs ys a i hp0 hp1 hp2 hp3 hp4 hp5 hp6).mono ?_
  rintro _ (⟨g0, g1, g2, rfl⟩ | ⟨g0, g1, g2, rfl⟩ | ⟨g0, g1, rfl⟩ | ⟨g0, rfl⟩)
  all_goals first | rfl | (exfalso; first | omega | grind)

theorem roget (W : Int) (xs ys : List Int) (a i : Int) (hp0 : 16 ≤ W ∧ W ≤ 4096) (hp1 : (xs.length : Int) = W) (hp2 : (ys.length : Int) = W) (hp3 : U64s xs) (hp4 : U64s ys) (hp5 : 0 ≤ a ∧ a ≤ 18446744073709551615) (hp6 : -9223372036854775808 ≤ i ∧ i ≤ 9223372036854775807) : Pub Try.prog 26 [.agg (mm W xs ys), .u a, .i i] (fun rv => (((oErr W xs ys a) = 0) ∧ ((ldw xs ys a / 72057594037927936) ≠ 255) ∧ (0 ≤ i ∧ i < ((ldw xs ys a / 4294967296) % 16777216)) ∧ rv = .tup [.u (ldw xs ys (a + 2 + i)), .bool (isPtr ((ldw xs ys a / 4294967296) % 16777216) (ldw xs ys a % 4294967296) i), .i 0]) ∨ (((oErr W xs ys a) = 0) ∧ ((ldw xs ys a / 72057594037927936) ≠ 255) ∧ (¬ (0 ≤ i ∧ i < ((ldw xs ys a / 4294967296) % 16777216))) ∧ rv = .tup [.u 0, .f, .i 7]) ∨ (((oErr W xs ys a) = 0) ∧ ((ldw xs ys a / 72057594037927936) = 255) ∧ rv = .tup [.u 0, .f, .i 8]) ∨ ((¬ ((oErr W xs ys a) = 0)) ∧ rv = .tup [.u 0, .f, .i (oErr W xs ys a)])) := by
 refine pub_of TT_ok Try.func26 rfl (by decide) (Nat.le_of_ble_eq_true (by kernel_rfl)) (by kernel_rfl) ?_
 refine rg [] 4 ⟨[(8, .i 0), (7, .f), (6, .u 0), (3, .p 0), (1, .u a), (2, .i i)], [(0, .cells (mm W xs ys) 25)], 1⟩ [] trivial ?_
 refine xw_seq ?_
 refine reg ?_
 refine rk [] 2 0 ⟨[(15, .u a), (14, .agg (mm W xs ys)), (8, .i 0), (7, .f), (6, .u 0), (3, .p 0), (1, .u a), (2, .i i)], [(0, .cells (mm W xs ys) 25)], 1⟩ [True] ⟨trivial, trivial⟩ ?_
 by_cases h0 : (oErr W xs ys a) = 0
 ·
  refine pc (roat_1 W xs ys a ‹_› ‹_› ‹_› ‹_› ‹_› ‹_› ‹_›) ?_
  obtain ⟨h1, h2, h3⟩ := oErr_ok W xs ys a ‹_›
  refine rk [] 6 3 ⟨[(10, .i 0), (9, .p 1), (8, .i 0), (7, .f), (6, .u 0), (3, .p 0), (1, .u a), (2, .i i)], [(1, .cells [.i (hT xs ys a), .i (hL xs ys a), .u (hM xs ys a)] 49), (0, .cells (mm W xs ys) 25)], 2⟩ [True] ⟨trivial, trivial⟩ ?_
  refine en ?_
  refine an ?_
  refine xw_seq ?_
  refine rg [(1, .f)] 2 ⟨[(20, .f), (10, .i 0), (9, .p 1), (8, .i 0), (7, .f), (6, .u 0), (3, .p 0), (1, .u a), (2, .i i)], [(1, .cells [.i (hT xs ys a), .i (hL xs ys a), .u (hM xs ys a)] 49), (0, .cells (mm W xs ys) 25)], 2⟩ [(0 != 0) = false] ⟨bne_eq_false_iff_eq.2 (by omega), trivial⟩ ?_
  refine cf ?_
  refine xw_skip ?_
  refine an ?_
  refine xw_seq ?_
  refine rg [(2, .bool ((ldw xs ys a / 72057594037927936) == 255))] 3 ⟨[(24, .bool ((hT xs ys a) == 255)), (9, .p 1), (8, .i 0), (7, .f), (6, .u 0), (3, .p 0), (1, .u a), (2, .i i)], [(1, .cells [.i (hT xs ys a), .i (hL xs ys a), .u (hM xs ys a)] 49), (0, .cells (mm W xs ys) 25)], 2⟩ [True, ((ldw xs ys a / 72057594037927936) == 255) = ((ldw xs ys a / 72057594037927936) == 255)] ⟨trivial, rfl, trivial⟩ ?_
  refine xw_cond (b := ((ldw xs ys a / 72057594037927936) == 255)) (by kernel_rfl) (fun h4 => ?_) (fun h4 => ?_)
  ·
   replace h4 : (ldw xs ys a / 72057594037927936) = 255 := eq_of_beq h4
   refine rg [] 3 ⟨[(8, .i 8), (7, .f), (6, .u 0), (9, .p 1), (3, .p 0), (1, .u a), (2, .i i)], [(1, .cells [.i (hT xs ys a), .i (hL xs ys a), .u (hM xs ys a)] 49), (0, .cells (mm W xs ys) 25)], 2⟩ [] trivial ?_
   refine xw_ret ?_
   refine an_ret ?_
   exact bs (.tup [.u 0, .f, .i 8]) (Or.inr <| Or.inr <| Or.inl <| ⟨(by omega), (by omega), rfl⟩)
  ·
   replace h4 : (ldw xs ys a / 72057594037927936) ≠ 255 := ne_of_beq_false h4
   refine xw_skip ?_
   refine an ?_
   refine xw_seq ?_
   refine xw_seq ?_
   refine reg ?_
   refine rk [(1, .bool (decide (i < 0)))] 3 0 ⟨[(27, .bool (decide (i < 0))), (9, .p 1), (8, .i 0), (7, .f), (6, .u 0), (3, .p 0), (1, .u a), (2, .i i)], [(1, .cells [.i (hT xs ys a), .i (hL xs ys a), .u (hM xs ys a)] 49), (0, .cells (mm W xs ys) 25)], 2⟩ [(decide (i < 0)) = (decide (i < 0))] ⟨rfl, trivial⟩ ?_
   refine splitr 27 (x := (decide (i < 0))) (by kernel_rfl) (fun h5 => ?_) (fun h5 => ?_)
   ·
    replace h5 : i < 0 := of_decide_eq_true h5
    refine rk [] 5 3 ⟨[(32, .t), (9, .p 1), (8, .i 0), (7, .f), (6, .u 0), (3, .p 0), (1, .u a), (2, .i i)], [(1, .cells [.i (hT xs ys a), .i (hL xs ys a), .u (hM xs ys a)] 49), (0, .cells (mm W xs ys) 25)], 2⟩ [True] ⟨trivial, trivial⟩ ?_
    refine en ?_
    refine an ?_
    refine ct ?_
    refine rg [] 3 ⟨[(8, .i 7), (7, .f), (6, .u 0), (9, .p 1), (3, .p 0), (1, .u a), (2, .i i)], [(1, .cells [.i (hT xs ys a), .i (hL xs ys a), .u (hM xs ys a)] 49), (0, .cells (mm W xs ys) 25)], 2⟩ [] trivial ?_
    refine xw_ret ?_
    refine an_ret ?_
    exact bs (.tup [.u 0, .f, .i 7]) (Or.inr <| Or.inl <| ⟨(by omega), (by omega), (by omega), rfl⟩)
   ·
    replace h5 : ¬ (i < 0) := of_decide_eq_false h5
    refine rk [(6, .bool (decide (((ldw xs ys a / 4294967296) % 16777216) ≤ i)))] 5 3 ⟨[(32, .bool (decide ((hL xs ys a) ≤ i))), (9, .p 1), (8, .i 0), (7, .f), (6, .u 0), (3, .p 0), (1, .u a), (2, .i i)], [(1, .cells [.i (hT xs ys a), .i (hL xs ys a), .u (hM xs ys a)] 49), (0, .cells (mm W xs ys) 25)], 2⟩ [True, (decide (((ldw xs ys a / 4294967296) % 16777216) ≤ i)) = (decide (((ldw xs ys a / 4294967296) % 16777216) ≤ i)), True] ⟨trivial, rfl, trivial, trivial⟩ ?_
    refine en ?_
    refine an ?_
    refine xw_cond (b := (decide (((ldw xs ys a / 4294967296) % 16777216) ≤ i))) (by kernel_rfl) (fun h6 => ?_) (fun h6 => ?_)
    ·
     replace h6 : ((ldw xs ys a / 4294967296) % 16777216) ≤ i := of_decide_eq_true h6
     refine rg [] 3 ⟨[(8, .i 7), (7, .f), (6, .u 0), (9, .p 1), (3, .p 0), (1, .u a), (2, .i i)], [(1, .cells [.i (hT xs ys a), .i (hL xs ys a), .u (hM xs ys a)] 49), (0, .cells (mm W xs ys) 25)], 2⟩ [] trivial ?_
     refine xw_ret ?_
     refine an_ret ?_
     exact bs (.tup [.u 0, .f, .i 7]) (Or.inr <| Or.inl <| ⟨(by omega), (by omega), (by omega), rfl⟩)
    ·
     replace h6 : ¬ (((ldw xs ys a / 4294967296) % 16777216) ≤ i) := of_decide_eq_false h6
     refine xw_skip ?_
     refine an ?_
     refine xw_seq ?_
     refine reg ?_
     refine rk [(2, .i (a + 2)), (4, .i i), (5, .i ((a + 2) + i))] 6 0 ⟨[(39, .u ((a + 2) + i)), (34, .agg (mm W xs ys)), (9, .p 1), (8, .i 0), (7, .f), (6, .u 0), (2, .i i)], [(1, .cells [.i (hT xs ys a), .i (hL xs ys a), .u (hM xs ys a)] 49)], 2⟩ [True, IntKind.u64.wrap (a + 2) = (a + 2), IntKind.u64.wrap i = i, IntKind.u64.wrap ((a + 2) + i) = ((a + 2) + i)] ⟨trivial, u64_eq (by omega) (by omega), u64_in (by omega), u64_eq (by omega) (by omega), trivial⟩ ?_
     refine pc (rload_1 W xs ys ((a + 2) + i) ‹_› ‹_› ‹_› ‹_› ‹_› (by omega) (by omega)) ?_
     have h7 : 0 ≤ (ldw xs ys ((a + 2) + i)) ∧ (ldw xs ys ((a + 2) + i)) ≤ 18446744073709551615 := ldw_ok xs ys ((a + 2) + i) ‹_› ‹_›
     refine rk [] 5 7 ⟨[(11, .u (ldw xs ys ((a + 2) + i))), (9, .p 1), (8, .i 0), (7, .f), (6, .u 0), (2, .i i)], [(1, .cells [.i (hT xs ys a), .i (hL xs ys a), .u (hM xs ys a)] 49)], 2⟩ [] trivial ?_
     refine en ?_
     refine an ?_
     refine xw_seq ?_
     refine reg ?_
     refine rk [] 3 0 ⟨[(45, .i i), (44, .agg [.i (hT xs ys a), .i (hL xs ys a), .u (hM xs ys a)]), (43, .u (ldw xs ys ((a + 2) + i))), (8, .i 0), (7, .f), (6, .u 0)], [], 2⟩ [True] ⟨trivial, trivial⟩ ?_
     refine pc (rhpointer (ldw xs ys a / 72057594037927936) ((ldw xs ys a / 4294967296) % 16777216) (ldw xs ys a % 4294967296) i (by omega) (by omega) (by omega)) ?_
     refine rk [] 3 4 ⟨[(8, .i 0), (7, .bool (isPtr (hL xs ys a) (hM xs ys a) i)), (6, .u (ldw xs ys ((a + 2) + i)))], [], 2⟩ [] trivial ?_
     refine en ?_
     refine an ?_
     refine xw_ret ?_
     by_cases h8 : isPtr ((ldw xs ys a / 4294967296) % 16777216) (ldw xs ys a % 4294967296) i = true
     ·
      exact br (.tup [.u (ldw xs ys ((a + 2) + i)), .bool (isPtr ((ldw xs ys a / 4294967296) % 16777216) (ldw xs ys a % 4294967296) i), .i 0]) (.tup [.u (ldw xs ys (a + 2 + i)), .bool (isPtr ((ldw xs ys a / 4294967296) % 16777216) (ldw xs ys a % 4294967296) i), .i 0]) (wkd [((ldw xs ys ((a + 2) + i)) : Int) = (ldw xs ys (a + 2 + i)), (isPtr ((ldw xs ys a / 4294967296) % 16777216) (ldw xs ys a % 4294967296) i) = (isPtr ((ldw xs ys a / 4294967296) % 16777216) (ldw xs ys a % 4294967296) i), (0 : Int) = 0] (by kernel_rfl) ⟨(by first | omega | grind), rfl, rfl, trivial⟩) (Or.inl <| ⟨(by omega), (by omega), (by omega), rfl⟩)
     ·
      exact br (.tup [.u (ldw xs ys ((a + 2) + i)), .bool (isPtr ((ldw xs ys a / 4294967296) % 16777216) (ldw xs ys a % 4294967296) i), .i 0]) (.tup [.u (ldw xs ys (a + 2 + i)), .bool (isPtr ((ldw xs ys a / 4294967296) % 16777216) (ldw xs ys a % 4294967296) i), .i 0]) (wkd [((ldw xs ys ((a + 2) + i)) : Int) = (ldw xs ys (a + 2 + i)), (isPtr ((ldw xs ys a / 4294967296) % 16777216) (ldw xs ys a % 4294967296) i) = (isPtr ((ldw xs ys a / 4294967296) % 16777216) (ldw xs ys a % 4294967296) i), (0 : Int) = 0] (by kernel_rfl) ⟨(by first | omega | grind), rfl, rfl, trivial⟩) (Or.inl <| ⟨(by omega), (by omega), (by omega), rfl⟩)
 ·
  refine pc (roat_2 W xs ys a ‹_› ‹_› ‹_› ‹_› ‹_› ‹_› ‹_›) ?_
  have h1 : (oErr W xs ys a) = 2 ∨ (oErr W xs ys a) = 10 := oErr_no W xs ys a (by omega)
  refine rk [] 6 3 ⟨[(10, .i (oErr W xs ys a)), (9, .p 1), (8, .i 0), (7, .f), (6, .u 0), (3, .p 0), (1, .u a), (2, .i i)], [(1, .cells [.i 0, .i 0, .u 0] 49), (0, .cells (mm W xs ys) 25)], 2⟩ [True] ⟨trivial, trivial⟩ ?_
  refine en ?_
  refine an ?_
  refine xw_seq ?_
  refine rg [(1, .t)] 2 ⟨[(20, .t), (10, .i (oErr W xs ys a)), (9, .p 1), (8, .i 0), (7, .f), (6, .u 0), (3, .p 0), (1, .u a), (2, .i i)], [(1, .cells [.i 0, .i 0, .u 0] 49), (0, .cells (mm W xs ys) 25)], 2⟩ [((oErr W xs ys a) != 0) = true] ⟨bne_iff_ne.2 (by omega), trivial⟩ ?_
  refine ct ?_
  refine rg [] 4 ⟨[(8, .i (oErr W xs ys a)), (7, .f), (6, .u 0), (9, .p 1), (3, .p 0), (1, .u a), (2, .i i)], [(1, .cells [.i 0, .i 0, .u 0] 49), (0, .cells (mm W xs ys) 25)], 2⟩ [] trivial ?_
  refine xw_ret ?_
  refine an_ret ?_
  exact bs (.tup [.u 0, .f, .i (oErr W xs ys a)]) (Or.inr <| Or.inr <| Or.inr <| ⟨(by omega), rfl⟩)

theorem roget_1 (W : Int) (xs ys : List Int) (a i : Int) (hp0 : 16 ≤ W ∧ W ≤ 4096) (hp1 : (xs.length : Int) = W) (hp2 : (ys.length : Int) = W) (hp3 : U64s xs) (hp4 : U64s ys) (hp5 : 0 ≤ a ∧ a ≤ 18446744073709551615) (hp6 : -9223372036854775808 ≤ i ∧ i ≤ 9223372036854775807) (hp7 : (oErr W xs ys a) = 0) (hp8 : (ldw xs ys a / 72057594037927936) ≠ 255) (hp9 : 0 ≤ i ∧ i < ((ldw xs ys a / 4294967296) % 16777216)) : Pub Try.prog 26 [.agg (mm W xs ys), .u a, .i i] (fun rv => rv = .tup [.u (ldw xs ys (a + 2 + i)), .bool (isPtr ((ldw xs ys a / 4294967296) % 16777216) (ldw xs ys a % 4294967296) i), .i 0]) := by
  refine (roget W xs ys a i hp0 hp1 hp2 hp3 hp4 hp5 hp6).mono ?_
  rintro _ (⟨g0, g1, g2, rfl⟩ | ⟨g0, g1, g2, rfl⟩ | ⟨g0, g1, rfl⟩ | ⟨g0, rfl⟩)
  all_goals first | rfl | (exfalso; first | omega | grind)

theorem rofill (W : Int) (xs ys : List Int) (a n : Int) (hp0 : 16 ≤ W ∧ W ≤ 4096) (hp1 : (xs.length : Int) = W) (hp2 : (ys.length : Int) = W) (hp3 : U64s xs) (hp4 : U64s ys) (hp5 : 0 ≤ a ∧ a ≤ 18446744073709551615) (hp6 : -9223372036854775808 ≤ n ∧ n ≤ 9223372036854775807) : Pub Try.prog 17 [.agg (mm W xs ys), .u a, .i n] (fun rv => ((1 ≤ n ∧ n ≤ 65536) ∧ (1 ≤ a / 4294967296 ∧ a / 4294967296 ≤ 2 ∧ a % 4294967296 < W) ∧ ((a % 4294967296) + n ≤ W) ∧ rv = .tup [.agg (mm W (px xs a 255 (n - 1) 0) (py ys a 255 (n - 1) 0)), .i 0]) ∨ ((1 ≤ n ∧ n ≤ 65536) ∧ (¬ ((1 ≤ a / 4294967296 ∧ a / 4294967296 ≤ 2 ∧ a % 4294967296 < W) ∧ (a % 4294967296) + n ≤ W)) ∧ rv = .tup [.agg (mm W xs ys), .i 2]) ∨ ((¬ (1 ≤ n ∧ n ≤ 65536)) ∧ rv = .tup [.agg (mm W xs ys), .i 1])) := by
 refine pub_of TT_ok Try.func17 rfl (by decide) (Nat.le_of_ble_eq_true (by kernel_rfl)) (by kernel_rfl) ?_
 refine rg [] 3 ⟨[(7, .i 0), (6, .p 1), (3, .p 0), (1, .u a), (2, .i n)], [(1, .cells [.i 0, .nils, .nils] 25), (0, .cells (mm W xs ys) 25)], 2⟩ [] trivial ?_
 refine xw_seq ?_
 refine xw_seq ?_
 refine reg ?_
 refine rk [(1, .bool (decide (n < 1)))] 3 0 ⟨[(10, .bool (decide (n < 1))), (7, .i 0), (6, .p 1), (3, .p 0), (1, .u a), (2, .i n)], [(1, .cells [.i 0, .nils, .nils] 25), (0, .cells (mm W xs ys) 25)], 2⟩ [(decide (n < 1)) = (decide (n < 1))] ⟨rfl, trivial⟩ ?_
 refine splitr 10 (x := (decide (n < 1))) (by kernel_rfl) (fun h0 => ?_) (fun h0 => ?_)
 ·
  replace h0 : n < 1 := of_decide_eq_true h0
  refine rk [] 3 3 ⟨[(13, .t), (7, .i 0), (6, .p 1), (3, .p 0), (1, .u a), (2, .i n)], [(1, .cells [.i 0, .nils, .nils] 25), (0, .cells (mm W xs ys) 25)], 2⟩ [True] ⟨trivial, trivial⟩ ?_
  refine en ?_
  refine an ?_
  refine ct ?_
  refine rg [] 3 ⟨[(7, .i 1), (6, .p 1), (3, .p 0), (1, .u a), (2, .i n)], [(1, .cells (mm W xs ys) 25), (0, .cells (mm W xs ys) 25)], 2⟩ [True, True] ⟨trivial, trivial, trivial⟩ ?_
  refine xw_ret ?_
  refine an_ret ?_
  exact bs (.tup [.agg (mm W xs ys), .i 1]) (Or.inr <| Or.inr <| ⟨(by omega), rfl⟩)
 ·
  replace h0 : ¬ (n < 1) := of_decide_eq_false h0
  refine rk [(4, .bool (decide (65536 < n)))] 3 3 ⟨[(13, .bool (decide (65536 < n))), (7, .i 0), (6, .p 1), (3, .p 0), (1, .u a), (2, .i n)], [(1, .cells [.i 0, .nils, .nils] 25), (0, .cells (mm W xs ys) 25)], 2⟩ [(decide (65536 < n)) = (decide (65536 < n)), True] ⟨rfl, trivial, trivial⟩ ?_
  refine en ?_
  refine an ?_
  refine xw_cond (b := (decide (65536 < n))) (by kernel_rfl) (fun h1 => ?_) (fun h1 => ?_)
  ·
   replace h1 : 65536 < n := of_decide_eq_true h1
   refine rg [] 3 ⟨[(7, .i 1), (6, .p 1), (3, .p 0), (1, .u a), (2, .i n)], [(1, .cells (mm W xs ys) 25), (0, .cells (mm W xs ys) 25)], 2⟩ [True, True] ⟨trivial, trivial, trivial⟩ ?_
   refine xw_ret ?_
   refine an_ret ?_
   exact bs (.tup [.agg (mm W xs ys), .i 1]) (Or.inr <| Or.inr <| ⟨(by omega), rfl⟩)
  ·
   replace h1 : ¬ (65536 < n) := of_decide_eq_false h1
   refine xw_skip ?_
   refine an ?_
   refine xw_seq ?_
   refine reg ?_
   refine rk [(3, .i (n - 1))] 5 0 ⟨[(19, .agg [.i 255, .i (n - 1), .u 0]), (16, .u a), (15, .agg (mm W xs ys)), (7, .i 0), (6, .p 1)], [(1, .cells [.i 0, .nils, .nils] 25)], 2⟩ [True, IntKind.i64.wrap (n - 1) = (n - 1)] ⟨trivial, i64_eq (by omega) (by omega), trivial⟩ ?_
   by_cases h2 : ((1 ≤ a / 4294967296) ∧ ((a / 4294967296 ≤ 2) ∧ (a % 4294967296 < W))) ∧ ((((255 : Int) = 255) ∧ ((a % 4294967296) + (n - 1) + 1 ≤ W)) ∨ (((255 : Int) ≠ 255) ∧ ((a % 4294967296) + (n - 1) + 2 ≤ W)))
   ·
    refine pc (roput_1 W xs ys a 255 (n - 1) 0 ‹_› ‹_› ‹_› ‹_› ‹_› ‹_› (by omega) (by omega) (by omega) (by first | omega | decide) (by omega) (by omega)) ?_
    obtain ⟨h3, h4, h5, h6, h7, h8⟩ := put_ok W xs ys a 255 (n - 1) 0 ‹_› ‹_› ‹_› ‹_› (by omega) (by omega) (by omega) (by first | omega | decide) (by omega)
    refine rk [] 4 6 ⟨[(7, .i 0), (6, .p 1)], [(1, .cells (mm W (px xs a 255 (n - 1) 0) (py ys a 255 (n - 1) 0)) 25)], 2⟩ [True] ⟨trivial, trivial⟩ ?_
    refine en ?_
    refine an ?_
    refine xw_ret ?_
    exact bs (.tup [.agg (mm W (px xs a 255 (n - 1) 0) (py ys a 255 (n - 1) 0)), .i 0]) (Or.inl <| ⟨(by omega), (by omega), (by omega), rfl⟩)
   ·
    refine pc (roput_2 W xs ys a 255 (n - 1) 0 ‹_› ‹_› ‹_› ‹_› ‹_› ‹_› (by omega) (by omega) (by omega) (by first | omega | decide) (by omega)) ?_
    refine rk [] 4 6 ⟨[(7, .i 2), (6, .p 1)], [(1, .cells (mm W xs ys) 25)], 2⟩ [True] ⟨trivial, trivial⟩ ?_
    refine en ?_
    refine an ?_
    refine xw_ret ?_
    exact bs (.tup [.agg (mm W xs ys), .i 2]) (Or.inr <| Or.inl <| ⟨(by omega), (by omega), rfl⟩)

theorem rofill_1 (W : Int) (xs ys : List Int) (a n : Int) (hp0 : 16 ≤ W ∧ W ≤ 4096) (hp1 : (xs.length : Int) = W) (hp2 : (ys.length : Int) = W) (hp3 : U64s xs) (hp4 : U64s ys) (hp5 : 0 ≤ a ∧ a ≤ 18446744073709551615) (hp6 : -9223372036854775808 ≤ n ∧ n ≤ 9223372036854775807) (hp7 : 1 ≤ n ∧ n ≤ 65536) (hp8 : 1 ≤ a / 4294967296 ∧ a / 4294967296 ≤ 2 ∧ a % 4294967296 < W) (hp9 : (a % 4294967296) + n ≤ W) : Pub Try.prog 17 [.agg (mm W xs ys), .u a, .i n] (fun rv => rv = .tup [.agg (mm W (px xs a 255 (n - 1) 0) (py ys a 255 (n - 1) 0)), .i 0]) := by
  refine (rofill W xs ys a n hp0 hp1 hp2 hp3 hp4 hp5 hp6).mono ?_
  rintro _ (⟨g0, g1, g2, rfl⟩ | ⟨g0, g1, rfl⟩ | ⟨g0, rfl⟩)
  all_goals first | rfl | (exfalso; first | omega | grind)

end Go.Proofs.Ytlapjlbmhaalbaa.X
