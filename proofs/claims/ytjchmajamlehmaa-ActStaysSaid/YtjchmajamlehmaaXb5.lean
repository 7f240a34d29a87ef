/- Contracts of Go functions: what each returns, for every input that its premises name; no memory of the caller is touched. Printed by a program. -/
import Derived.Test.YtjchmajamlehmaaXb4
namespace Go.Proofs.Ytjchmajamlehmaa.X
open Go Go.RowKit
set_option linter.unusedVariables false      -- a premise may serve only to tell which way is taken
theorem oreal (W : Int) (xs ys : List Int) (a : Int) (hp0 : 16 ≤ W ∧ W ≤ 4096) (hp1 : (xs.length : Int) = W) (hp2 : (ys.length : Int) = W) (hp3 : U64s xs) (hp4 : U64s ys) (hp5 : 0 ≤ a ∧ a ≤ 18446744073709551615) : Pub Try.prog 86 [.agg (mm W xs ys), .u a] (fun rv => (((oErr W xs ys a) = 0) ∧ ((ldw xs ys a / 72057594037927936) ≠ 255) ∧ rv = .tup [.agg [.i (ldw xs ys a / 72057594037927936), .i ((ldw xs ys a / 4294967296) % 16777216), .u (ldw xs ys a % 4294967296)], .i 0]) ∨ (((oErr W xs ys a) = 0) ∧ ((ldw xs ys a / 72057594037927936) = 255) ∧ rv = .tup [.agg [.i 0, .i 0, .u 0], .i 8]) ∨ ((¬ ((oErr W xs ys a) = 0)) ∧ rv = .tup [.agg [.i 0, .i 0, .u 0], .i (oErr W xs ys a)])) := by
 refine pub_of TT_ok Try.func86 rfl (by decide) (Nat.le_of_ble_eq_true (by kernel_rfl)) (by kernel_rfl) ?_
 refine rgi [] 3 [5, 4, 2, 1] [1, 0] [] trivial ?_
 refine xw_seq ?_
 refine reg ?_
 refine rki [] 2 0 [10, 9, 5, 4] [1] [True] ⟨trivial, trivial⟩ ?_
 by_cases h0 : (oErr W xs ys a) = 0
 ·
  refine pc (oat_1 W xs ys a ‹_› ‹_› ‹_› ‹_› ‹_› ‹_› ‹_›) ?_
  obtain ⟨h1, h2, h3⟩ := oErr_ok W xs ys a ‹_›
  refine rki [] 6 3 [7, 6, 5, 4] [2, 1] [True] ⟨trivial, trivial⟩ ?_
  refine en ?_
  refine an ?_
  refine xw_seq ?_
  refine rg [(1, .t), (5, .bool ((ldw xs ys a / 72057594037927936) == 255))] 7 ⟨[(20, .bool ((hT xs ys a) == 255)), (7, .i 0), (6, .p 2), (5, .i 0), (4, .p 1)], [(2, .cells [.i (hT xs ys a), .i (hL xs ys a), .u (hM xs ys a)] 49), (1, .cells [.i 0, .i 0, .u 0] 49)], 3⟩ [(0 == 0) = true, True, sm ((ldw xs ys a / 72057594037927936) == 255), True] ⟨beq_iff_eq.2 (by omega), trivial, rfl, trivial, trivial⟩ ?_
  refine xw_cond (b := ((ldw xs ys a / 72057594037927936) == 255)) (by kernel_rfl) (fun h4 => ?_) (fun h4 => ?_)
  ·
   replace h4 : (ldw xs ys a / 72057594037927936) = 255 := eq_of_beq h4
   refine rgi [] 3 [5, 7, 6, 4] [2, 1] [True] ⟨trivial, trivial⟩ ?_
   refine xw_ret ?_
   refine an_ret ?_
   exact bs (.tup [.agg [.i 0, .i 0, .u 0], .i 8]) (Or.inr <| Or.inl <| ⟨(by omega), (by omega), rfl⟩)
  ·
   replace h4 : (ldw xs ys a / 72057594037927936) ≠ 255 := ne_of_beq_false h4
   refine xw_skip ?_
   refine an ?_
   refine rgi [] 4 [5, 4] [1] [True, True] ⟨trivial, trivial, trivial⟩ ?_
   refine xw_ret ?_
   exact bs (.tup [.agg [.i (ldw xs ys a / 72057594037927936), .i ((ldw xs ys a / 4294967296) % 16777216), .u (ldw xs ys a % 4294967296)], .i 0]) (Or.inl <| ⟨(by omega), (by omega), rfl⟩)
 ·
  refine pc (oat_2 W xs ys a ‹_› ‹_› ‹_› ‹_› ‹_› ‹_› ‹_›) ?_
  have h1 : (oErr W xs ys a) = 2 ∨ (oErr W xs ys a) = 10 := oErr_no W xs ys a (by omega)
  refine rki [] 6 3 [7, 6, 5, 4] [2, 1] [True] ⟨trivial, trivial⟩ ?_
  refine en ?_
  refine an ?_
  refine xw_seq ?_
  refine rg [(1, .f)] 7 ⟨[(20, .f), (7, .i (oErr W xs ys a)), (6, .p 2), (5, .i 0), (4, .p 1)], [(2, .cells [.i 0, .i 0, .u 0] 49), (1, .cells [.i 0, .i 0, .u 0] 49)], 3⟩ [((oErr W xs ys a) == 0) = false, True] ⟨beq_eq_false_iff_ne.2 (by omega), trivial, trivial⟩ ?_
  refine cf ?_
  refine xw_skip ?_
  refine an ?_
  refine rgi [] 4 [5, 4] [1] [True, True] ⟨trivial, trivial, trivial⟩ ?_
  refine xw_ret ?_
  exact bs (.tup [.agg [.i 0, .i 0, .u 0], .i (oErr W xs ys a)]) (Or.inr <| Or.inr <| ⟨(by omega), rfl⟩)

theorem oreal_1 (W : Int) (xs ys : List Int) (a : Int) (hp0 : 16 ≤ W ∧ W ≤ 4096) (hp1 : (xs.length : Int) = W) (hp2 : (ys.length : Int) = W) (hp3 : U64s xs) (hp4 : U64s ys) (hp5 : 0 ≤ a ∧ a ≤ 18446744073709551615) (hp6 : (oErr W xs ys a) = 0) (hp7 : (ldw xs ys a / 72057594037927936) ≠ 255) : Pub Try.prog 86 [.agg (mm W xs ys), .u a] (fun rv => rv = .tup [.agg [.i (ldw xs ys a / 72057594037927936), .i ((ldw xs ys a / 4294967296) % 16777216), .u (ldw xs ys a % 4294967296)], .i 0]) := by
  refine (oreal W xs ys a hp0 hp1 hp2 hp3 hp4 hp5).mono ?_
  rintro _ (⟨g0, g1, rfl⟩ | ⟨g0, g1, rfl⟩ | ⟨g0, rfl⟩)
  all_goals first | rfl | (exfalso; first | omega | grind)

theorem oreal_2 (W : Int) (xs ys : List Int) (a : Int) (hp0 : 16 ≤ W ∧ W ≤ 4096) (hp1 : (xs.length : Int) = W) (hp2 : (ys.length : Int) = W) (hp3 : U64s xs) (hp4 : U64s ys) (hp5 : 0 ≤ a ∧ a ≤ 18446744073709551615) (hp6 : (oErr W xs ys a) = 0) (hp7 : (ldw xs ys a / 72057594037927936) = 255) : Pub Try.prog 86 [.agg (mm W xs ys), .u a] (fun rv => rv = .tup [.agg [.i 0, .i 0, .u 0], .i 8]) := by
  refine (oreal W xs ys a hp0 hp1 hp2 hp3 hp4 hp5).mono ?_
  rintro _ (⟨g0, g1, rfl⟩ | ⟨g0, g1, rfl⟩ | ⟨g0, rfl⟩)
  all_goals first | rfl | (exfalso; first | omega | grind)

theorem oreal_3 (W : Int) (xs ys : List Int) (a : Int) (hp0 : 16 ≤ W ∧ W ≤ 4096) (hp1 : (xs.length : Int) = W) (hp2 : (ys.length : Int) = W) (hp3 : U64s xs) (hp4 : U64s ys) (hp5 : 0 ≤ a ∧ a ≤ 18446744073709551615) (hp6 : ¬ ((oErr W xs ys a) = 0)) : Pub Try.prog 86 [.agg (mm W xs ys), .u a] (fun rv => rv = .tup [.agg [.i 0, .i 0, .u 0], .i (oErr W xs ys a)]) := by
  refine (oreal W xs ys a hp0 hp1 hp2 hp3 hp4 hp5).mono ?_
  rintro _ (⟨g0, g1, rfl⟩ | ⟨g0, g1, rfl⟩ | ⟨g0, rfl⟩)
  all_goals first | rfl | (exfalso; first | omega | grind)

theorem ofield (W : Int) (xs ys : List Int) (a i : Int) (hp0 : 16 ≤ W ∧ W ≤ 4096) (hp1 : (xs.length : Int) = W) (hp2 : (ys.length : Int) = W) (hp3 : U64s xs) (hp4 : U64s ys) (hp5 : 0 ≤ a ∧ a ≤ 18446744073709551615) (hp6 : -9223372036854775808 ≤ i ∧ i ≤ 9223372036854775807) : Pub Try.prog 73 [.agg (mm W xs ys), .u a, .i i] (fun rv => (((oErr W xs ys a) = 0) ∧ ((ldw xs ys a / 72057594037927936) ≠ 255) ∧ (0 ≤ i ∧ i < ((ldw xs ys a / 4294967296) % 16777216)) ∧ rv = .tup [.u (a + 2 + i), .bool (isPtr ((ldw xs ys a / 4294967296) % 16777216) (ldw xs ys a % 4294967296) i), .i 0]) ∨ (((oErr W xs ys a) = 0) ∧ ((ldw xs ys a / 72057594037927936) ≠ 255) ∧ (¬ (0 ≤ i ∧ i < ((ldw xs ys a / 4294967296) % 16777216))) ∧ rv = .tup [.u 0, .f, .i 7]) ∨ (((oErr W xs ys a) = 0) ∧ ((ldw xs ys a / 72057594037927936) = 255) ∧ rv = .tup [.u 0, .f, .i 8]) ∨ ((¬ ((oErr W xs ys a) = 0)) ∧ rv = .tup [.u 0, .f, .i (oErr W xs ys a)])) := by
 refine pub_of TT_ok Try.func73 rfl (by decide) (Nat.le_of_ble_eq_true (by kernel_rfl)) (by kernel_rfl) ?_
 refine rgi [] 4 [8, 7, 6, 3, 1, 2] [0] [] trivial ?_
 refine xw_seq ?_
 refine reg ?_
 refine rki [] 2 0 [13, 12, 8, 7, 6, 1, 2] [] [True] ⟨trivial, trivial⟩ ?_
 by_cases h0 : ((oErr W xs ys a) = 0) ∧ ((ldw xs ys a / 72057594037927936) ≠ 255)
 ·
  refine pc (oreal_1 W xs ys a ‹_› ‹_› ‹_› ‹_› ‹_› ‹_› (by omega) (by omega)) ?_
  obtain ⟨h1, h2, h3⟩ := oErr_ok W xs ys a (by omega)
  have h4 : 1 ≤ (a + 1) / 4294967296 ∧ (a + 1) / 4294967296 ≤ 2 ∧ (a + 1) % 4294967296 < W := by omega
  refine rki [] 6 3 [10, 9, 8, 7, 6, 1, 2] [1] [True] ⟨trivial, trivial⟩ ?_
  refine en ?_
  refine an ?_
  refine xw_seq ?_
  refine xw_block ?_
  refine rg [(1, .f)] 3 ⟨[(17, .f), (10, .i 0), (9, .p 1), (8, .i 0), (7, .f), (6, .u 0), (1, .u a), (2, .i i)], [(1, .cells [.i (hT xs ys a), .i (hL xs ys a), .u (hM xs ys a)] 49)], 2⟩ [(0 != 0) = false] ⟨bne_eq_false_iff_eq.2 (by omega), trivial⟩ ?_
  refine cf ?_
  refine xw_seq ?_
  refine reg ?_
  refine rki [(1, .bool (decide (i < 0)))] 3 0 [24, 9, 8, 7, 6, 1, 2] [1] [sm (decide (i < 0))] ⟨rfl, trivial⟩ ?_
  refine splitr 24 (x := (decide (i < 0))) (by kernel_rfl) (fun h5 => ?_) (fun h5 => ?_)
  ·
   replace h5 : i < 0 := of_decide_eq_true h5
   refine rki [] 6 3 [21, 9, 8, 7, 6, 1, 2] [1] [True] ⟨trivial, trivial⟩ ?_
   refine en ?_
   refine an ?_
   refine ct ?_
   refine rgi [] 3 [8, 7, 6, 9, 1, 2] [1] [] trivial ?_
   refine xw_ret ?_
   refine ib_ret ?_
   refine an_ret ?_
   exact bs (.tup [.u 0, .f, .i 7]) (Or.inr <| Or.inl <| ⟨(by omega), (by omega), (by omega), rfl⟩)
  ·
   replace h5 : ¬ (i < 0) := of_decide_eq_false h5
   refine rki [(6, .bool (decide (((ldw xs ys a / 4294967296) % 16777216) ≤ i)))] 6 3 [21, 9, 8, 7, 6, 1, 2] [1] [True, sm (decide (((ldw xs ys a / 4294967296) % 16777216) ≤ i)), True] ⟨trivial, rfl, trivial, trivial⟩ ?_
   refine en ?_
   refine an ?_
   refine xw_cond (b := (decide (((ldw xs ys a / 4294967296) % 16777216) ≤ i))) (by kernel_rfl) (fun h6 => ?_) (fun h6 => ?_)
   ·
    replace h6 : ((ldw xs ys a / 4294967296) % 16777216) ≤ i := of_decide_eq_true h6
    refine rgi [] 3 [8, 7, 6, 9, 1, 2] [1] [] trivial ?_
    refine xw_ret ?_
    refine ib_ret ?_
    refine an_ret ?_
    exact bs (.tup [.u 0, .f, .i 7]) (Or.inr <| Or.inl <| ⟨(by omega), (by omega), (by omega), rfl⟩)
   ·
    replace h6 : ¬ (((ldw xs ys a / 4294967296) % 16777216) ≤ i) := of_decide_eq_false h6
    refine xw_skip ?_
    refine ib ?_
    refine an ?_
    refine xw_seq ?_
    refine sreg hmix [([(1, .cells [.i (ldw xs ys a / 72057594037927936), .i ((ldw xs ys a / 4294967296) % 16777216), .u (ldw xs ys a % 4294967296)] 49)], 2)] [] [(2, [1]), (3, [0, 1, 2]), (6, [0, 1, 2, 3, 4, 5]), (7, [0, 1, 2, 3, 4, 5, 6]), (8, [0, 1, 2, 3, 4, 5, 6, 7]), (9, [0, 1, 2, 3, 4, 5, 6, 7, 8])] (by kernel_rfl) (by kernel_rfl) (by kernel_rfl) (by kernel_rfl) (by kernel_rfl) ?_
    refine sri [(2, .t)] 3 0 [True, True, True] ⟨trivial, trivial, trivial, trivial⟩ ?_
    refine sc (sum2 a 2 i (by omega) (by omega) (by omega)) ?_
    refine sri [] 2 4 [True, True] ⟨trivial, trivial, trivial⟩ ?_
    refine sc (hpointer (ldw xs ys a / 72057594037927936) ((ldw xs ys a / 4294967296) % 16777216) (ldw xs ys a % 4294967296) i (by omega) (by omega) (by omega)) ?_
    refine sri [] 3 7 [True, True, True] ⟨trivial, trivial, trivial, trivial⟩ ?_
    refine sen ?_
    refine an ?_
    refine xw_ret ?_
    by_cases h7 : isPtr ((ldw xs ys a / 4294967296) % 16777216) (ldw xs ys a % 4294967296) i = true
    ·
     exact bs (.tup [.u (a + 2 + i), .bool (isPtr ((ldw xs ys a / 4294967296) % 16777216) (ldw xs ys a % 4294967296) i), .i 0]) (Or.inl <| ⟨(by omega), (by omega), (by omega), rfl⟩)
    ·
     exact bs (.tup [.u (a + 2 + i), .bool (isPtr ((ldw xs ys a / 4294967296) % 16777216) (ldw xs ys a % 4294967296) i), .i 0]) (Or.inl <| ⟨(by omega), (by omega), (by omega), rfl⟩)
 ·
  by_cases h1 : ((oErr W xs ys a) = 0) ∧ ((ldw xs ys a / 72057594037927936) = 255)
  ·
   refine pc (oreal_2 W xs ys a ‹_› ‹_› ‹_› ‹_› ‹_› ‹_› (by omega) (by omega)) ?_
   obtain ⟨h2, h3, h4⟩ := oErr_ok W xs ys a (by omega)
   refine rki [] 6 3 [10, 9, 8, 7, 6, 1, 2] [1] [True] ⟨trivial, trivial⟩ ?_
   refine en ?_
   refine an ?_
   refine xw_seq ?_
   refine xw_block ?_
   refine rg [(1, .t)] 3 ⟨[(17, .t), (10, .i 8), (9, .p 1), (8, .i 0), (7, .f), (6, .u 0), (1, .u a), (2, .i i)], [(1, .cells [.i 0, .i 0, .u 0] 49)], 2⟩ [(8 != 0) = true] ⟨bne_iff_ne.2 (by omega), trivial⟩ ?_
   refine ct ?_
   refine rgi [] 4 [8, 7, 6, 9, 1, 2] [1] [] trivial ?_
   refine xw_ret ?_
   refine ib_ret ?_
   refine an_ret ?_
   exact bs (.tup [.u 0, .f, .i 8]) (Or.inr <| Or.inr <| Or.inl <| ⟨(by omega), (by omega), rfl⟩)
  ·
   refine pc (oreal_3 W xs ys a ‹_› ‹_› ‹_› ‹_› ‹_› ‹_› (by omega)) ?_
   have h2 : (oErr W xs ys a) = 2 ∨ (oErr W xs ys a) = 10 := oErr_no W xs ys a (by omega)
   refine rki [] 6 3 [10, 9, 8, 7, 6, 1, 2] [1] [True] ⟨trivial, trivial⟩ ?_
   refine en ?_
   refine an ?_
   refine xw_seq ?_
   refine xw_block ?_
   refine rg [(1, .t)] 3 ⟨[(17, .t), (10, .i (oErr W xs ys a)), (9, .p 1), (8, .i 0), (7, .f), (6, .u 0), (1, .u a), (2, .i i)], [(1, .cells [.i 0, .i 0, .u 0] 49)], 2⟩ [((oErr W xs ys a) != 0) = true] ⟨bne_iff_ne.2 (by omega), trivial⟩ ?_
   refine ct ?_
   refine rgi [] 4 [8, 7, 6, 9, 1, 2] [1] [] trivial ?_
   refine xw_ret ?_
   refine ib_ret ?_
   refine an_ret ?_
   exact bs (.tup [.u 0, .f, .i (oErr W xs ys a)]) (Or.inr <| Or.inr <| Or.inr <| ⟨(by omega), rfl⟩)

theorem ofield_1 (W : Int) (xs ys : List Int) (a i : Int) (hp0 : 16 ≤ W ∧ W ≤ 4096) (hp1 : (xs.length : Int) = W) (hp2 : (ys.length : Int) = W) (hp3 : U64s xs) (hp4 : U64s ys) (hp5 : 0 ≤ a ∧ a ≤ 18446744073709551615) (hp6 : -9223372036854775808 ≤ i ∧ i ≤ 9223372036854775807) (hp7 : (oErr W xs ys a) = 0) (hp8 : (ldw xs ys a / 72057594037927936) ≠ 255) (hp9 : 0 ≤ i ∧ i < ((ldw xs ys a / 4294967296) % 16777216)) : Pub Try.prog 73 [.agg (mm W xs ys), .u a, .i i] (fun rv => rv = .tup [.u (a + 2 + i), .bool (isPtr ((ldw xs ys a / 4294967296) % 16777216) (ldw xs ys a % 4294967296) i), .i 0]) := by
  refine (ofield W xs ys a i hp0 hp1 hp2 hp3 hp4 hp5 hp6).mono ?_
  rintro _ (⟨g0, g1, g2, rfl⟩ | ⟨g0, g1, g2, rfl⟩ | ⟨g0, g1, rfl⟩ | ⟨g0, rfl⟩)
  all_goals first | rfl | (exfalso; first | omega | grind)

theorem ofield_2 (W : Int) (xs ys : List Int) (a i : Int) (hp0 : 16 ≤ W ∧ W ≤ 4096) (hp1 : (xs.length : Int) = W) (hp2 : (ys.length : Int) = W) (hp3 : U64s xs) (hp4 : U64s ys) (hp5 : 0 ≤ a ∧ a ≤ 18446744073709551615) (hp6 : -9223372036854775808 ≤ i ∧ i ≤ 9223372036854775807) (hp7 : (oErr W xs ys a) = 0) (hp8 : (ldw xs ys a / 72057594037927936) ≠ 255) (hp9 : ¬ (0 ≤ i ∧ i < ((ldw xs ys a / 4294967296) % 16777216))) : Pub Try.prog 73 [.agg (mm W xs ys), .u a, .i i] (fun rv => rv = .tup [.u 0, .f, .i 7]) := by
  refine (ofield W xs ys a i hp0 hp1 hp2 hp3 hp4 hp5 hp6).mono ?_
  rintro _ (⟨g0, g1, g2, rfl⟩ | ⟨g0, g1, g2, rfl⟩ | ⟨g0, g1, rfl⟩ | ⟨g0, rfl⟩)
  all_goals first | rfl | (exfalso; first | omega | grind)

theorem ofield_3 (W : Int) (xs ys : List Int) (a i : Int) (hp0 : 16 ≤ W ∧ W ≤ 4096) (hp1 : (xs.length : Int) = W) (hp2 : (ys.length : Int) = W) (hp3 : U64s xs) (hp4 : U64s ys) (hp5 : 0 ≤ a ∧ a ≤ 18446744073709551615) (hp6 : -9223372036854775808 ≤ i ∧ i ≤ 9223372036854775807) (hp7 : (oErr W xs ys a) = 0) (hp8 : (ldw xs ys a / 72057594037927936) = 255) : Pub Try.prog 73 [.agg (mm W xs ys), .u a, .i i] (fun rv => rv = .tup [.u 0, .f, .i 8]) := by
  refine (ofield W xs ys a i hp0 hp1 hp2 hp3 hp4 hp5 hp6).mono ?_
  rintro _ (⟨g0, g1, g2, rfl⟩ | ⟨g0, g1, g2, rfl⟩ | ⟨g0, g1, rfl⟩ | ⟨g0, rfl⟩)
  all_goals first | rfl | (exfalso; first | omega | grind)

theorem ofield_4 (W : Int) (xs ys : List Int) (a i : Int) (hp0 : 16 ≤ W ∧ W ≤ 4096) (hp1 : (xs.length : Int) = W) (hp2 : (ys.length : Int) = W) (hp3 : U64s xs) (hp4 : U64s ys) (hp5 : 0 ≤ a ∧ a ≤ 18446744073709551615) (hp6 : -9223372036854775808 ≤ i ∧ i ≤ 9223372036854775807) (hp7 : ¬ ((oErr W xs ys a) = 0)) : Pub Try.prog 73 [.agg (mm W xs ys), .u a, .i i] (fun rv => rv = .tup [.u 0, .f, .i (oErr W xs ys a)]) := by
  refine (ofield W xs ys a i hp0 hp1 hp2 hp3 hp4 hp5 hp6).mono ?_
  rintro _ (⟨g0, g1, g2, rfl⟩ | ⟨g0, g1, g2, rfl⟩ | ⟨g0, g1, rfl⟩ | ⟨g0, rfl⟩)
  all_goals first | rfl | (exfalso; first | omega | grind)

theorem oget (W : Int) (xs ys : List Int) (a i : Int) (hp0 : 16 ≤ W ∧ W ≤ 4096) (hp1 : (xs.length : Int) = W) (hp2 : (ys.length : Int) = W) (hp3 : U64s xs) (hp4 : U64s ys) (hp5 : 0 ≤ a ∧ a ≤ 18446744073709551615) (hp6 : -9223372036854775808 ≤ i ∧ i ≤ 9223372036854775807) : Pub Try.prog 51 [.agg (mm W xs ys), .u a, .i i] (fun rv => (((oErr W xs ys a) = 0) ∧ ((ldw xs ys a / 72057594037927936) ≠ 255) ∧ (0 ≤ i ∧ i < ((ldw xs ys a / 4294967296) % 16777216)) ∧ rv = .tup [.u (ldw xs ys (a + 2 + i)), .bool (isPtr ((ldw xs ys a / 4294967296) % 16777216) (ldw xs ys a % 4294967296) i), .i 0]) ∨ (((oErr W xs ys a) = 0) ∧ ((ldw xs ys a / 72057594037927936) ≠ 255) ∧ (¬ (0 ≤ i ∧ i < ((ldw xs ys a / 4294967296) % 16777216))) ∧ rv = .tup [.u 0, .f, .i 7]) ∨ (((oErr W xs ys a) = 0) ∧ ((ldw xs ys a / 72057594037927936) = 255) ∧ rv = .tup [.u 0, .f, .i 8]) ∨ ((¬ ((oErr W xs ys a) = 0)) ∧ rv = .tup [.u 0, .f, .i (oErr W xs ys a)])) := by
 refine pub_of TT_ok Try.func51 rfl (by decide) (Nat.le_of_ble_eq_true (by kernel_rfl)) (by kernel_rfl) ?_
 refine rgi [] 4 [8, 7, 6, 3, 1, 2] [0] [] trivial ?_
 refine xw_seq ?_
 refine reg ?_
 refine rki [] 3 0 [17, 16, 15, 8, 7, 6, 3] [0] [True] ⟨trivial, trivial⟩ ?_
 by_cases h0 : ((oErr W xs ys a) = 0) ∧ ((ldw xs ys a / 72057594037927936) ≠ 255) ∧ (0 ≤ i ∧ i < ((ldw xs ys a / 4294967296) % 16777216))
 ·
  refine pc (ofield_1 W xs ys a i ‹_› ‹_› ‹_› ‹_› ‹_› ‹_› ‹_› (by omega) (by omega) (by omega)) ?_
  obtain ⟨h1, h2, h3⟩ := oErr_ok W xs ys a (by omega)
  have h4 : 1 ≤ (a + 2 + i) / 4294967296 ∧ (a + 2 + i) / 4294967296 ≤ 2 ∧ (a + 2 + i) % 4294967296 < W := by omega
  refine rki [] 7 4 [11, 10, 9, 8, 7, 6, 3] [0] [] trivial ?_
  refine en ?_
  refine an ?_
  refine xw_seq ?_
  refine rg [(1, .f)] 2 ⟨[(23, .f), (11, .i 0), (10, .bool (isPtr (hL xs ys a) (hM xs ys a) i)), (9, .u (a + 2 + i)), (8, .i 0), (7, .f), (6, .u 0), (3, .p 0)], [(0, .cells (mm W xs ys) 25)], 1⟩ [(0 != 0) = false] ⟨bne_eq_false_iff_eq.2 (by omega), trivial⟩ ?_
  refine cf ?_
  refine xw_skip ?_
  refine an ?_
  refine xw_seq ?_
  refine reg ?_
  refine rki [] 2 0 [27, 26, 10, 8, 7, 6] [] [True] ⟨trivial, trivial⟩ ?_
  refine pc (load_1 W xs ys (a + 2 + i) ‹_› ‹_› ‹_› ‹_› ‹_› (by omega) (by omega)) ?_
  have h5 : 0 ≤ (ldw xs ys (a + 2 + i)) ∧ (ldw xs ys (a + 2 + i)) ≤ 18446744073709551615 := ldw_ok xs ys (a + 2 + i) ‹_› ‹_›
  refine rki [] 5 3 [12, 10, 8, 7, 6] [] [] trivial ?_
  refine en ?_
  refine an ?_
  refine rgi [] 5 [8, 7, 6] [] [] trivial ?_
  refine xw_ret ?_
  by_cases h6 : isPtr ((ldw xs ys a / 4294967296) % 16777216) (ldw xs ys a % 4294967296) i = true
  ·
   exact bs (.tup [.u (ldw xs ys (a + 2 + i)), .bool (isPtr ((ldw xs ys a / 4294967296) % 16777216) (ldw xs ys a % 4294967296) i), .i 0]) (Or.inl <| ⟨(by omega), (by omega), (by omega), rfl⟩)
  ·
   exact bs (.tup [.u (ldw xs ys (a + 2 + i)), .bool (isPtr ((ldw xs ys a / 4294967296) % 16777216) (ldw xs ys a % 4294967296) i), .i 0]) (Or.inl <| ⟨(by omega), (by omega), (by omega), rfl⟩)
 ·
  by_cases h1 : ((oErr W xs ys a) = 0) ∧ ((ldw xs ys a / 72057594037927936) ≠ 255) ∧ (¬ (0 ≤ i ∧ i < ((ldw xs ys a / 4294967296) % 16777216)))
  ·
   refine pc (ofield_2 W xs ys a i ‹_› ‹_› ‹_› ‹_› ‹_› ‹_› ‹_› (by omega) (by omega) (by omega)) ?_
   obtain ⟨h2, h3, h4⟩ := oErr_ok W xs ys a (by omega)
   refine rki [] 7 4 [11, 10, 9, 8, 7, 6, 3] [0] [] trivial ?_
   refine en ?_
   refine an ?_
   refine xw_seq ?_
   refine rg [(1, .t)] 2 ⟨[(23, .t), (11, .i 7), (10, .f), (9, .u 0), (8, .i 0), (7, .f), (6, .u 0), (3, .p 0)], [(0, .cells (mm W xs ys) 25)], 1⟩ [(7 != 0) = true] ⟨bne_iff_ne.2 (by omega), trivial⟩ ?_
   refine ct ?_
   refine rgi [] 4 [8, 7, 6, 10, 9, 3] [0] [] trivial ?_
   refine xw_ret ?_
   refine an_ret ?_
   exact bs (.tup [.u 0, .f, .i 7]) (Or.inr <| Or.inl <| ⟨(by omega), (by omega), (by omega), rfl⟩)
  ·
   by_cases h2 : ((oErr W xs ys a) = 0) ∧ ((ldw xs ys a / 72057594037927936) = 255)
   ·
    refine pc (ofield_3 W xs ys a i ‹_› ‹_› ‹_› ‹_› ‹_› ‹_› ‹_› (by omega) (by omega)) ?_
    obtain ⟨h3, h4, h5⟩ := oErr_ok W xs ys a (by omega)
    refine rki [] 7 4 [11, 10, 9, 8, 7, 6, 3] [0] [] trivial ?_
    refine en ?_
    refine an ?_
    refine xw_seq ?_
    refine rg [(1, .t)] 2 ⟨[(23, .t), (11, .i 8), (10, .f), (9, .u 0), (8, .i 0), (7, .f), (6, .u 0), (3, .p 0)], [(0, .cells (mm W xs ys) 25)], 1⟩ [(8 != 0) = true] ⟨bne_iff_ne.2 (by omega), trivial⟩ ?_
    refine ct ?_
    refine rgi [] 4 [8, 7, 6, 10, 9, 3] [0] [] trivial ?_
    refine xw_ret ?_
    refine an_ret ?_
    exact bs (.tup [.u 0, .f, .i 8]) (Or.inr <| Or.inr <| Or.inl <| ⟨(by omega), (by omega), rfl⟩)
   ·
    refine pc (ofield_4 W xs ys a i ‹_› ‹_› ‹_› ‹_› ‹_› ‹_› ‹_› (by omega)) ?_
    have h3 : (oErr W xs ys a) = 2 ∨ (oErr W xs ys a) = 10 := oErr_no W xs ys a (by omega)
    refine rki [] 7 4 [11, 10, 9, 8, 7, 6, 3] [0] [] trivial ?_
    refine en ?_
    refine an ?_
    refine xw_seq ?_
    refine rg [(1, .t)] 2 ⟨[(23, .t), (11, .i (oErr W xs ys a)), (10, .f), (9, .u 0), (8, .i 0), (7, .f), (6, .u 0), (3, .p 0)], [(0, .cells (mm W xs ys) 25)], 1⟩ [((oErr W xs ys a) != 0) = true] ⟨bne_iff_ne.2 (by omega), trivial⟩ ?_
    refine ct ?_
    refine rgi [] 4 [8, 7, 6, 10, 9, 3] [0] [] trivial ?_
    refine xw_ret ?_
    refine an_ret ?_
    exact bs (.tup [.u 0, .f, .i (oErr W xs ys a)]) (Or.inr <| Or.inr <| Or.inr <| ⟨(by omega), rfl⟩)

theorem oget_1 (W : Int) (xs ys : List Int) (a i : Int) (hp0 : 16 ≤ W ∧ W ≤ 4096) (hp1 : (xs.length : Int) = W) (hp2 : (ys.length : Int) = W) (hp3 : U64s xs) (hp4 : U64s ys) (hp5 : 0 ≤ a ∧ a ≤ 18446744073709551615) (hp6 : -9223372036854775808 ≤ i ∧ i ≤ 9223372036854775807) (hp7 : (oErr W xs ys a) = 0) (hp8 : (ldw xs ys a / 72057594037927936) ≠ 255) (hp9 : 0 ≤ i ∧ i < ((ldw xs ys a / 4294967296) % 16777216)) : Pub Try.prog 51 [.agg (mm W xs ys), .u a, .i i] (fun rv => rv = .tup [.u (ldw xs ys (a + 2 + i)), .bool (isPtr ((ldw xs ys a / 4294967296) % 16777216) (ldw xs ys a % 4294967296) i), .i 0]) := by
  refine (oget W xs ys a i hp0 hp1 hp2 hp3 hp4 hp5 hp6).mono ?_
  rintro _ (⟨g0, g1, g2, rfl⟩ | ⟨g0, g1, g2, rfl⟩ | ⟨g0, g1, rfl⟩ | ⟨g0, rfl⟩)
  all_goals first | rfl | (exfalso; first | omega | grind)

theorem oget_2 (W : Int) (xs ys : List Int) (a i : Int) (hp0 : 16 ≤ W ∧ W ≤ 4096) (hp1 : (xs.length : Int) = W) (hp2 : (ys.length : Int) = W) (hp3 : U64s xs) (hp4 : U64s ys) (hp5 : 0 ≤ a ∧ a ≤ 18446744073709551615) (hp6 : -9223372036854775808 ≤ i ∧ i ≤ 9223372036854775807) (hp7 : (oErr W xs ys a) = 0) (hp8 : (ldw xs ys a / 72057594037927936) ≠ 255) (hp9 : ¬ (0 ≤ i ∧ i < ((ldw xs ys a / 4294967296) % 16777216))) : Pub Try.prog 51 [.agg (mm W xs ys), .u a, .i i] (fun rv => rv = .tup [.u 0, .f, .i 7]) := by
  refine (oget W xs ys a i hp0 hp1 hp2 hp3 hp4 hp5 hp6).mono ?_
  rintro _ (⟨g0, g1, g2, rfl⟩ | ⟨g0, g1, g2, rfl⟩ | ⟨g0, g1, rfl⟩ | ⟨g0, rfl⟩)
  all_goals first | rfl | (exfalso; first | omega | grind)

theorem oset (W : Int) (xs ys : List Int) (a i v : Int) (hp0 : 16 ≤ W ∧ W ≤ 4096) (hp1 : (xs.length : Int) = W) (hp2 : (ys.length : Int) = W) (hp3 : U64s xs) (hp4 : U64s ys) (hp5 : 0 ≤ a ∧ a ≤ 18446744073709551615) (hp6 : -9223372036854775808 ≤ i ∧ i ≤ 9223372036854775807) (hp7 : 0 ≤ v ∧ v ≤ 18446744073709551615) : Pub Try.prog 56 [.agg (mm W xs ys), .u a, .i i, .u v] (fun rv => (((oErr W xs ys a) = 0) ∧ ((ldw xs ys a / 72057594037927936) ≠ 255) ∧ (0 ≤ i ∧ i < ((ldw xs ys a / 4294967296) % 16777216)) ∧ rv = .tup [.agg (mm W (stx xs (a + 2 + i) v) (sty ys (a + 2 + i) v)), .i 0]) ∨ (((oErr W xs ys a) = 0) ∧ ((ldw xs ys a / 72057594037927936) ≠ 255) ∧ (¬ (0 ≤ i ∧ i < ((ldw xs ys a / 4294967296) % 16777216))) ∧ rv = .tup [.agg (mm W xs ys), .i 7]) ∨ (((oErr W xs ys a) = 0) ∧ ((ldw xs ys a / 72057594037927936) = 255) ∧ rv = .tup [.agg (mm W xs ys), .i 8]) ∨ ((¬ ((oErr W xs ys a) = 0)) ∧ rv = .tup [.agg (mm W xs ys), .i (oErr W xs ys a)])) := by
 refine pub_of TT_ok Try.func56 rfl (by decide) (Nat.le_of_ble_eq_true (by kernel_rfl)) (by kernel_rfl) ?_
 refine rgi [] 3 [9, 8, 4, 1, 2, 3] [1, 0] [] trivial ?_
 refine xw_seq ?_
 refine reg ?_
 refine rki [] 3 0 [16, 15, 14, 9, 8, 4, 3] [1, 0] [True] ⟨trivial, trivial⟩ ?_
 by_cases h0 : ((oErr W xs ys a) = 0) ∧ ((ldw xs ys a / 72057594037927936) ≠ 255) ∧ (0 ≤ i ∧ i < ((ldw xs ys a / 4294967296) % 16777216))
 ·
  refine pc (ofield_1 W xs ys a i ‹_› ‹_› ‹_› ‹_› ‹_› ‹_› ‹_› (by omega) (by omega) (by omega)) ?_
  obtain ⟨h1, h2, h3⟩ := oErr_ok W xs ys a (by omega)
  have h4 : 1 ≤ (a + 2 + i) / 4294967296 ∧ (a + 2 + i) / 4294967296 ≤ 2 ∧ (a + 2 + i) % 4294967296 < W := by omega
  refine rki [] 7 4 [12, 10, 9, 8, 4, 3] [1, 0] [] trivial ?_
  refine en ?_
  refine an ?_
  refine xw_seq ?_
  refine rg [(1, .f)] 2 ⟨[(22, .f), (12, .i 0), (10, .u (a + 2 + i)), (9, .i 0), (8, .p 1), (4, .p 0), (3, .u v)], [(1, .cells [.i 0, .nils, .nils] 25), (0, .cells (mm W xs ys) 25)], 2⟩ [(0 != 0) = false] ⟨bne_eq_false_iff_eq.2 (by omega), trivial⟩ ?_
  refine cf ?_
  refine xw_skip ?_
  refine an ?_
  refine xw_seq ?_
  refine reg ?_
  refine rki [] 3 0 [27, 26, 25, 9, 8] [1] [True] ⟨trivial, trivial⟩ ?_
  refine pc (store_1 W xs ys (a + 2 + i) v ‹_› ‹_› ‹_› ‹_› ‹_› (by omega) ‹_› (by omega)) ?_
  obtain ⟨h5, h6, h7, h8⟩ := stx_ok W xs ys (a + 2 + i) v ‹_› ‹_› ‹_› ‹_› (by omega)
  refine rki [] 4 4 [9, 8] [1] [True] ⟨trivial, trivial⟩ ?_
  refine en ?_
  refine an ?_
  refine xw_ret ?_
  exact bs (.tup [.agg (mm W (stx xs (a + 2 + i) v) (sty ys (a + 2 + i) v)), .i 0]) (Or.inl <| ⟨(by omega), (by omega), (by omega), rfl⟩)
 ·
  by_cases h1 : ((oErr W xs ys a) = 0) ∧ ((ldw xs ys a / 72057594037927936) ≠ 255) ∧ (¬ (0 ≤ i ∧ i < ((ldw xs ys a / 4294967296) % 16777216)))
  ·
   refine pc (ofield_2 W xs ys a i ‹_› ‹_› ‹_› ‹_› ‹_› ‹_› ‹_› (by omega) (by omega) (by omega)) ?_
   obtain ⟨h2, h3, h4⟩ := oErr_ok W xs ys a (by omega)
   refine rki [] 7 4 [12, 10, 9, 8, 4, 3] [1, 0] [] trivial ?_
   refine en ?_
   refine an ?_
   refine xw_seq ?_
   refine rg [(1, .t)] 2 ⟨[(22, .t), (12, .i 7), (10, .u 0), (9, .i 0), (8, .p 1), (4, .p 0), (3, .u v)], [(1, .cells [.i 0, .nils, .nils] 25), (0, .cells (mm W xs ys) 25)], 2⟩ [(7 != 0) = true] ⟨bne_iff_ne.2 (by omega), trivial⟩ ?_
   refine ct ?_
   refine rgi [] 4 [9, 10, 8, 4, 3] [1, 0] [True, True] ⟨trivial, trivial, trivial⟩ ?_
   refine xw_ret ?_
   refine an_ret ?_
   exact bs (.tup [.agg (mm W xs ys), .i 7]) (Or.inr <| Or.inl <| ⟨(by omega), (by omega), (by omega), rfl⟩)
  ·
   by_cases h2 : ((oErr W xs ys a) = 0) ∧ ((ldw xs ys a / 72057594037927936) = 255)
   ·
    refine pc (ofield_3 W xs ys a i ‹_› ‹_› ‹_› ‹_› ‹_› ‹_› ‹_› (by omega) (by omega)) ?_
    obtain ⟨h3, h4, h5⟩ := oErr_ok W xs ys a (by omega)
    refine rki [] 7 4 [12, 10, 9, 8, 4, 3] [1, 0] [] trivial ?_
    refine en ?_
    refine an ?_
    refine xw_seq ?_
    refine rg [(1, .t)] 2 ⟨[(22, .t), (12, .i 8), (10, .u 0), (9, .i 0), (8, .p 1), (4, .p 0), (3, .u v)], [(1, .cells [.i 0, .nils, .nils] 25), (0, .cells (mm W xs ys) 25)], 2⟩ [(8 != 0) = true] ⟨bne_iff_ne.2 (by omega), trivial⟩ ?_
    refine ct ?_
    refine rgi [] 4 [9, 10, 8, 4, 3] [1, 0] [True, True] ⟨trivial, trivial, trivial⟩ ?_
    refine xw_ret ?_
    refine an_ret ?_
    exact bs (.tup [.agg (mm W xs ys), .i 8]) (Or.inr <| Or.inr <| Or.inl <| ⟨(by omega), (by omega), rfl⟩)
   ·
    refine pc (ofield_4 W xs ys a i ‹_› ‹_› ‹_› ‹_› ‹_› ‹_› ‹_› (by omega)) ?_
    have h3 : (oErr W xs ys a) = 2 ∨ (oErr W xs ys a) = 10 := oErr_no W xs ys a (by omega)
    refine rki [] 7 4 [12, 10, 9, 8, 4, 3] [1, 0] [] trivial ?_
    refine en ?_
    refine an ?_
    refine xw_seq ?_
    refine rg [(1, .t)] 2 ⟨[(22, .t), (12, .i (oErr W xs ys a)), (10, .u 0), (9, .i 0), (8, .p 1), (4, .p 0), (3, .u v)], [(1, .cells [.i 0, .nils, .nils] 25), (0, .cells (mm W xs ys) 25)], 2⟩ [((oErr W xs ys a) != 0) = true] ⟨bne_iff_ne.2 (by omega), trivial⟩ ?_
    refine ct ?_
    refine rgi [] 4 [9, 10, 8, 4, 3] [1, 0] [True, True] ⟨trivial, trivial, trivial⟩ ?_
    refine xw_ret ?_
    refine an_ret ?_
    exact bs (.tup [.agg (mm W xs ys), .i (oErr W xs ys a)]) (Or.inr <| Or.inr <| Or.inr <| ⟨(by omega), rfl⟩)

theorem oset_1 (W : Int) (xs ys : List Int) (a i v : Int) (hp0 : 16 ≤ W ∧ W ≤ 4096) (hp1 : (xs.length : Int) = W) (hp2 : (ys.length : Int) = W) (hp3 : U64s xs) (hp4 : U64s ys) (hp5 : 0 ≤ a ∧ a ≤ 18446744073709551615) (hp6 : -9223372036854775808 ≤ i ∧ i ≤ 9223372036854775807) (hp7 : 0 ≤ v ∧ v ≤ 18446744073709551615) (hp8 : (oErr W xs ys a) = 0) (hp9 : (ldw xs ys a / 72057594037927936) ≠ 255) (hp10 : 0 ≤ i ∧ i < ((ldw xs ys a / 4294967296) % 16777216)) : Pub Try.prog 56 [.agg (mm W xs ys), .u a, .i i, .u v] (fun rv => rv = .tup [.agg (mm W (stx xs (a + 2 + i) v) (sty ys (a + 2 + i) v)), .i 0]) := by
  refine (oset W xs ys a i v hp0 hp1 hp2 hp3 hp4 hp5 hp6 hp7).mono ?_
  rintro _ (⟨g0, g1, g2, rfl⟩ | ⟨g0, g1, g2, rfl⟩ | ⟨g0, g1, rfl⟩ | ⟨g0, rfl⟩)
  all_goals first | rfl | (exfalso; first | omega | grind)

theorem oset_2 (W : Int) (xs ys : List Int) (a i v : Int) (hp0 : 16 ≤ W ∧ W ≤ 4096) (hp1 : (xs.length : Int) = W) (hp2 : (ys.length : Int) = W) (hp3 : U64s xs) (hp4 : U64s ys) (hp5 : 0 ≤ a ∧ a ≤ 18446744073709551615) (hp6 : -9223372036854775808 ≤ i ∧ i ≤ 9223372036854775807) (hp7 : 0 ≤ v ∧ v ≤ 18446744073709551615) (hp8 : (oErr W xs ys a) = 0) (hp9 : (ldw xs ys a / 72057594037927936) ≠ 255) (hp10 : ¬ (0 ≤ i ∧ i < ((ldw xs ys a / 4294967296) % 16777216))) : Pub Try.prog 56 [.agg (mm W xs ys), .u a, .i i, .u v] (fun rv => rv = .tup [.agg (mm W xs ys), .i 7]) := by
  refine (oset W xs ys a i v hp0 hp1 hp2 hp3 hp4 hp5 hp6 hp7).mono ?_
  rintro _ (⟨g0, g1, g2, rfl⟩ | ⟨g0, g1, g2, rfl⟩ | ⟨g0, g1, rfl⟩ | ⟨g0, rfl⟩)
  all_goals first | rfl | (exfalso; first | omega | grind)

theorem oset_3 (W : Int) (xs ys : List Int) (a i v : Int) (hp0 : 16 ≤ W ∧ W ≤ 4096) (hp1 : (xs.length : Int) = W) (hp2 : (ys.length : Int) = W) (hp3 : U64s xs) (hp4 : U64s ys) (hp5 : 0 ≤ a ∧ a ≤ 18446744073709551615) (hp6 : -9223372036854775808 ≤ i ∧ i ≤ 9223372036854775807) (hp7 : 0 ≤ v ∧ v ≤ 18446744073709551615) (hp8 : (oErr W xs ys a) = 0) (hp9 : (ldw xs ys a / 72057594037927936) = 255) : Pub Try.prog 56 [.agg (mm W xs ys), .u a, .i i, .u v] (fun rv => rv = .tup [.agg (mm W xs ys), .i 8]) := by
  refine (oset W xs ys a i v hp0 hp1 hp2 hp3 hp4 hp5 hp6 hp7).mono ?_
  rintro _ (⟨g0, g1, g2, rfl⟩ | ⟨g0, g1, g2, rfl⟩ | ⟨g0, g1, rfl⟩ | ⟨g0, rfl⟩)
  all_goals first | rfl | (exfalso; first | omega | grind)

theorem oset_4 (W : Int) (xs ys : List Int) (a i v : Int) (hp0 : 16 ≤ W ∧ W ≤ 4096) (hp1 : (xs.length : Int) = W) (hp2 : (ys.length : Int) = W) (hp3 : U64s xs) (hp4 : U64s ys) (hp5 : 0 ≤ a ∧ a ≤ 18446744073709551615) (hp6 : -9223372036854775808 ≤ i ∧ i ≤ 9223372036854775807) (hp7 : 0 ≤ v ∧ v ≤ 18446744073709551615) (hp8 : ¬ ((oErr W xs ys a) = 0)) : Pub Try.prog 56 [.agg (mm W xs ys), .u a, .i i, .u v] (fun rv => rv = .tup [.agg (mm W xs ys), .i (oErr W xs ys a)]) := by
  refine (oset W xs ys a i v hp0 hp1 hp2 hp3 hp4 hp5 hp6 hp7).mono ?_
  rintro _ (⟨g0, g1, g2, rfl⟩ | ⟨g0, g1, g2, rfl⟩ | ⟨g0, g1, rfl⟩ | ⟨g0, rfl⟩)
  all_goals first | rfl | (exfalso; first | omega | grind)

theorem ofill (W : Int) (xs ys : List Int) (a n : Int) (hp0 : 16 ≤ W ∧ W ≤ 4096) (hp1 : (xs.length : Int) = W) (hp2 : (ys.length : Int) = W) (hp3 : U64s xs) (hp4 : U64s ys) (hp5 : 0 ≤ a ∧ a ≤ 18446744073709551615) (hp6 : -9223372036854775808 ≤ n ∧ n ≤ 9223372036854775807) : Pub Try.prog 82 [.agg (mm W xs ys), .u a, .i n] (fun rv => ((1 ≤ n ∧ n ≤ 65536) ∧ (1 ≤ a / 4294967296 ∧ a / 4294967296 ≤ 2 ∧ a % 4294967296 < W) ∧ ((a % 4294967296) + n ≤ W) ∧ rv = .tup [.agg (mm W (px xs a 255 (n - 1) 0) (py ys a 255 (n - 1) 0)), .i 0]) ∨ ((1 ≤ n ∧ n ≤ 65536) ∧ (¬ ((1 ≤ a / 4294967296 ∧ a / 4294967296 ≤ 2 ∧ a % 4294967296 < W) ∧ (a % 4294967296) + n ≤ W)) ∧ rv = .tup [.agg (mm W xs ys), .i 2]) ∨ ((¬ (1 ≤ n ∧ n ≤ 65536)) ∧ rv = .tup [.agg (mm W xs ys), .i 1])) := by
 refine pub_of TT_ok Try.func82 rfl (by decide) (Nat.le_of_ble_eq_true (by kernel_rfl)) (by kernel_rfl) ?_
 refine rgi [] 3 [7, 6, 3, 1, 2] [1, 0] [] trivial ?_
 refine xw_seq ?_
 refine xw_seq ?_
 refine reg ?_
 refine rki [(1, .bool (decide (n < 1)))] 3 0 [10, 7, 6, 3, 1, 2] [1, 0] [sm (decide (n < 1))] ⟨rfl, trivial⟩ ?_
 refine splitr 10 (x := (decide (n < 1))) (by kernel_rfl) (fun h0 => ?_) (fun h0 => ?_)
 ·
  replace h0 : n < 1 := of_decide_eq_true h0
  refine rki [] 3 3 [13, 7, 6, 3, 1, 2] [1, 0] [True] ⟨trivial, trivial⟩ ?_
  refine en ?_
  refine an ?_
  refine ct ?_
  refine rg [] 3 ⟨[(7, .i 1), (6, .p 1), (3, .p 0), (1, .u a), (2, .i n)], [(1, .cells (mm W xs ys) 25), (0, .cells (mm W xs ys) 25)], 2⟩ [True, True] ⟨trivial, trivial, trivial⟩ ?_
  refine xw_ret ?_
  refine an_ret ?_
  exact bs (.tup [.agg (mm W xs ys), .i 1]) (Or.inr <| Or.inr <| ⟨(by omega), rfl⟩)
 ·
  replace h0 : ¬ (n < 1) := of_decide_eq_false h0
  refine rki [(4, .bool (decide (65536 < n)))] 3 3 [13, 7, 6, 3, 1, 2] [1, 0] [sm (decide (65536 < n)), True] ⟨rfl, trivial, trivial⟩ ?_
  refine en ?_
  refine an ?_
  refine xw_cond (b := (decide (65536 < n))) (by kernel_rfl) (fun h1 => ?_) (fun h1 => ?_)
  ·
   replace h1 : 65536 < n := of_decide_eq_true h1
   refine rg [] 3 ⟨[(7, .i 1), (6, .p 1), (3, .p 0), (1, .u a), (2, .i n)], [(1, .cells (mm W xs ys) 25), (0, .cells (mm W xs ys) 25)], 2⟩ [True, True] ⟨trivial, trivial, trivial⟩ ?_
   refine xw_ret ?_
   refine an_ret ?_
   exact bs (.tup [.agg (mm W xs ys), .i 1]) (Or.inr <| Or.inr <| ⟨(by omega), rfl⟩)
  ·
   replace h1 : ¬ (65536 < n) := of_decide_eq_false h1
   refine xw_skip ?_
   refine an ?_
   refine xw_seq ?_
   refine reg ?_
   refine rk [(3, .i (n - 1))] 5 0 ⟨[(19, .agg [.i 255, .i (n - 1), .u 0]), (16, .u a), (15, .agg (mm W xs ys)), (7, .i 0), (6, .p 1)], [(1, .cells [.i 0, .nils, .nils] 25)], 2⟩ [True, IntKind.i64.wrap (n - 1) = (n - 1)] ⟨trivial, i64_eq (by omega) (by omega), trivial⟩ ?_
   by_cases h2 : ((1 ≤ a / 4294967296) ∧ ((a / 4294967296 ≤ 2) ∧ (a % 4294967296 < W))) ∧ ((((255 : Int) = 255) ∧ ((a % 4294967296) + (n - 1) + 1 ≤ W)) ∨ (((255 : Int) ≠ 255) ∧ ((a % 4294967296) + (n - 1) + 2 ≤ W)))
   ·
    refine pc (oput_1 W xs ys a 255 (n - 1) 0 ‹_› ‹_› ‹_› ‹_› ‹_› ‹_› (by omega) (by omega) (by omega) (by first | omega | decide) (by omega) (by omega)) ?_
    obtain ⟨h3, h4, h5, h6, h7, h8⟩ := put_ok W xs ys a 255 (n - 1) 0 ‹_› ‹_› ‹_› ‹_› (by omega) (by omega) (by omega) (by first | omega | decide) (by omega)
    refine rki [] 4 6 [7, 6] [1] [True] ⟨trivial, trivial⟩ ?_
    refine en ?_
    refine an ?_
    refine xw_ret ?_
    exact bs (.tup [.agg (mm W (px xs a 255 (n - 1) 0) (py ys a 255 (n - 1) 0)), .i 0]) (Or.inl <| ⟨(by omega), (by omega), (by omega), rfl⟩)
   ·
    refine pc (oput_2 W xs ys a 255 (n - 1) 0 ‹_› ‹_› ‹_› ‹_› ‹_› ‹_› (by omega) (by omega) (by omega) (by first | omega | decide) (by omega)) ?_
    refine rki [] 4 6 [7, 6] [1] [True] ⟨trivial, trivial⟩ ?_
    refine en ?_
    refine an ?_
    refine xw_ret ?_
    exact bs (.tup [.agg (mm W xs ys), .i 2]) (Or.inr <| Or.inl <| ⟨(by omega), (by omega), rfl⟩)

theorem ofill_1 (W : Int) (xs ys : List Int) (a n : Int) (hp0 : 16 ≤ W ∧ W ≤ 4096) (hp1 : (xs.length : Int) = W) (hp2 : (ys.length : Int) = W) (hp3 : U64s xs) (hp4 : U64s ys) (hp5 : 0 ≤ a ∧ a ≤ 18446744073709551615) (hp6 : -9223372036854775808 ≤ n ∧ n ≤ 9223372036854775807) (hp7 : 1 ≤ n ∧ n ≤ 65536) (hp8 : 1 ≤ a / 4294967296 ∧ a / 4294967296 ≤ 2 ∧ a % 4294967296 < W) (hp9 : (a % 4294967296) + n ≤ W) : Pub Try.prog 82 [.agg (mm W xs ys), .u a, .i n] (fun rv => rv = .tup [.agg (mm W (px xs a 255 (n - 1) 0) (py ys a 255 (n - 1) 0)), .i 0]) := by
  refine (ofill W xs ys a n hp0 hp1 hp2 hp3 hp4 hp5 hp6).mono ?_
  rintro _ (⟨g0, g1, g2, rfl⟩ | ⟨g0, g1, rfl⟩ | ⟨g0, rfl⟩)
  all_goals first | rfl | (exfalso; first | omega | grind)

end Go.Proofs.Ytjchmajamlehmaa.X
