/- Contracts of Go functions: what each returns, for every input that its premises name; no memory of the caller is touched. Printed by a program. -/
import Derived.Test.YtiilcckpoibhhaaXc5
namespace Go.Proofs.Ytiilcckpoibhhaa.X
open Go Go.RowKit
set_option linter.unusedVariables false      -- a premise may serve only to tell which way is taken
theorem objectThere (W : Int) (xs : List Int) (ys : List Int) (a : Int) (hp0 : -9223372036854775808 ≤ W ∧ W ≤ 9223372036854775807) (hp1 : U64s xs) (hp2 : U64s ys) (hp3 : 0 ≤ a ∧ a ≤ 18446744073709551615) : Pub Try.prog 12 [.agg (mm W xs ys), .int .u64 a] (fun rv => rv = .bool true) := by
 refine pub_of TT_ok Try.func12 rfl (by decide) (Nat.le_of_ble_eq_true (by kernel_rfl)) (by kernel_rfl) ?_
 refine rg [] 2 ⟨[(4, .f), (2, .p 0), (1, .u a)], [(0, .cells (mm W xs ys) 45)], 1⟩ [] trivial ?_
 refine xw_seq ?_
 refine reg ?_
 refine pc (shown5 ) ?_
 refine rk [] 1 1 ⟨[(5, .t), (4, .f), (2, .p 0), (1, .u a)], [(0, .cells (mm W xs ys) 45)], 1⟩ [] trivial ?_
 refine en ?_
 refine an ?_
 refine xw_seq ?_
 refine reg ?_
 refine rk [] 1 0 ⟨[(13, .agg (mm W xs ys)), (5, .t), (4, .f), (2, .p 0), (1, .u a)], [(0, .cells (mm W xs ys) 45)], 1⟩ [True] ⟨trivial, trivial⟩ ?_
 by_cases h0 : 16 ≤ W ∧ W ≤ 200 ∧ (xs.length : Int) = W ∧ (ys.length : Int) = W
 ·
  refine pc (few5_1 W xs ys ‹_› ‹_›) ?_
  refine rk [] 1 2 ⟨[(6, .t), (5, .t), (4, .f), (2, .p 0), (1, .u a)], [(0, .cells (mm W xs ys) 45)], 1⟩ [] trivial ?_
  refine en ?_
  refine an ?_
  refine xw_seq ?_
  refine rg [] 2 ⟨[(16, .f), (5, .t), (4, .f), (2, .p 0), (1, .u a)], [(0, .cells (mm W xs ys) 45)], 1⟩ [] trivial ?_
  refine cf ?_
  refine xw_skip ?_
  refine an ?_
  refine xw_seq ?_
  refine reg ?_
  refine rk [] 2 0 ⟨[(20, .u a), (19, .agg (mm W xs ys)), (5, .t), (4, .f), (2, .p 0), (1, .u a)], [(0, .cells (mm W xs ys) 45)], 1⟩ [True] ⟨trivial, trivial⟩ ?_
  by_cases h1 : (oErr W xs ys a) = 0
  ·
   refine pc (oat_1 W xs ys a (by omega) (by omega) (by omega) ‹_› ‹_› ‹_› ‹_›) ?_
   obtain ⟨h2, h3, h4⟩ := oErr_ok W xs ys a ‹_›
   refine rk [] 6 3 ⟨[(8, .i 0), (7, .p 1), (5, .t), (4, .f), (2, .p 0), (1, .u a)], [(1, .cells [.i (hT xs ys a), .i (hL xs ys a), .u (hM xs ys a)] 54), (0, .cells (mm W xs ys) 45)], 2⟩ [True] ⟨trivial, trivial⟩ ?_
   refine en ?_
   refine an ?_
   refine xw_seq ?_
   refine rg [(1, .f)] 2 ⟨[(25, .f), (7, .p 1), (5, .t), (4, .f), (2, .p 0), (1, .u a)], [(1, .cells [.i (hT xs ys a), .i (hL xs ys a), .u (hM xs ys a)] 54), (0, .cells (mm W xs ys) 45)], 2⟩ [(0 != 0) = false] ⟨bne_eq_false_iff_eq.2 (by omega), trivial⟩ ?_
   refine cf ?_
   refine xw_skip ?_
   refine an ?_
   refine xw_seq ?_
   refine reg ?_
   refine rk [] 1 0 ⟨[(33, .u a), (7, .p 1), (5, .t), (4, .f), (2, .p 0)], [(1, .cells [.i (hT xs ys a), .i (hL xs ys a), .u (hM xs ys a)] 54), (0, .cells (mm W xs ys) 45)], 2⟩ [] trivial ?_
   refine pc (rwhere_1 a ‹_› (by omega)) ?_
   refine rk [] 7 2 ⟨[(11, .t), (10, .i (a % 4294967296)), (7, .p 1), (5, .t), (4, .f), (2, .p 0)], [(1, .cells [.i (hT xs ys a), .i (hL xs ys a), .u (hM xs ys a)] 54), (0, .cells (mm W xs ys) 45)], 2⟩ [] trivial ?_
   refine en ?_
   refine an ?_
   refine xw_seq ?_
   refine dregk hmix (by kernel_rfl) ?_
   refine qr [] 7 0 [(44, .agg [.i (ldw xs ys a / 72057594037927936), .i ((ldw xs ys a / 4294967296) % 16777216), .u (ldw xs ys a % 4294967296)]), (43, .i (a % 4294967296)), (42, .t), (41, .t), (40, .t), (39, .t), (38, .t), (11, .t), (10, .i (a % 4294967296)), (7, .p 1), (5, .t), (4, .f), (2, .p 0)] [True, True] ⟨trivial, trivial, trivial⟩ ?_
   by_cases h5 : (ldw xs ys a / 72057594037927936) = 255
   ·
    refine qc (rhwords_1 (ldw xs ys a / 72057594037927936) ((ldw xs ys a / 4294967296) % 16777216) (ldw xs ys a % 4294967296) (by omega) (by omega) (by omega) (by omega) ‹_›) ?_
    refine qr [(8, .i ((a % 4294967296) + (((ldw xs ys a / 4294967296) % 16777216) + 1))), (11, .t)] 7 8 [(52, .agg [.i (ldw xs ys a / 72057594037927936), .i ((ldw xs ys a / 4294967296) % 16777216), .u (ldw xs ys a % 4294967296)]), (51, .t), (50, .t), (49, .t), (48, .i W), (47, .p 0), (46, .i ((a % 4294967296) + (((ldw xs ys a / 4294967296) % 16777216) + 1))), (45, .i (((ldw xs ys a / 4294967296) % 16777216) + 1)), (44, .agg [.i (ldw xs ys a / 72057594037927936), .i ((ldw xs ys a / 4294967296) % 16777216), .u (ldw xs ys a % 4294967296)]), (43, .i (a % 4294967296)), (42, .t), (41, .t), (40, .t), (39, .t), (38, .t), (11, .t), (10, .i (a % 4294967296)), (7, .p 1), (5, .t), (4, .f), (2, .p 0)] [IntKind.i64.wrap ((a % 4294967296) + (((ldw xs ys a / 4294967296) % 16777216) + 1)) = ((a % 4294967296) + (((ldw xs ys a / 4294967296) % 16777216) + 1)), True, (decide (((a % 4294967296) + (((ldw xs ys a / 4294967296) % 16777216) + 1)) ≤ W)) = true, True, True] ⟨i64_eq (by omega) (by omega), trivial, decide_eq_true (by omega), trivial, trivial, trivial⟩ ?_
    refine qc (rhright_1 (ldw xs ys a / 72057594037927936) ((ldw xs ys a / 4294967296) % 16777216) (ldw xs ys a % 4294967296) (by omega) (by omega) (by omega) ‹_›) ?_
    refine qr [(16, .t)] 3 16 [(4, .t), (55, .t), (54, .t), (53, .i 0), (52, .agg [.i (ldw xs ys a / 72057594037927936), .i ((ldw xs ys a / 4294967296) % 16777216), .u (ldw xs ys a % 4294967296)]), (51, .t), (50, .t), (49, .t), (48, .i W), (47, .p 0), (46, .i ((a % 4294967296) + (((ldw xs ys a / 4294967296) % 16777216) + 1))), (45, .i (((ldw xs ys a / 4294967296) % 16777216) + 1)), (44, .agg [.i (ldw xs ys a / 72057594037927936), .i ((ldw xs ys a / 4294967296) % 16777216), .u (ldw xs ys a % 4294967296)]), (43, .i (a % 4294967296)), (42, .t), (41, .t), (40, .t), (39, .t), (38, .t), (11, .t), (10, .i (a % 4294967296)), (7, .p 1), (5, .t), (4, .f), (2, .p 0)] [(0 == 0) = true, True] ⟨beq_iff_eq.2 (by omega), trivial, trivial⟩ ?_
    refine qen ?_
    refine an ?_
    refine xw_ret ?_
    exact bs (.t) rfl
   ·
    refine qc (rhwords_2 (ldw xs ys a / 72057594037927936) ((ldw xs ys a / 4294967296) % 16777216) (ldw xs ys a % 4294967296) (by omega) (by omega) (by omega) (by omega) ‹_›) ?_
    refine qr [(8, .i ((a % 4294967296) + (((ldw xs ys a / 4294967296) % 16777216) + 2))), (11, .t)] 7 8 [(52, .agg [.i (ldw xs ys a / 72057594037927936), .i ((ldw xs ys a / 4294967296) % 16777216), .u (ldw xs ys a % 4294967296)]), (51, .t), (50, .t), (49, .t), (48, .i W), (47, .p 0), (46, .i ((a % 4294967296) + (((ldw xs ys a / 4294967296) % 16777216) + 2))), (45, .i (((ldw xs ys a / 4294967296) % 16777216) + 2)), (44, .agg [.i (ldw xs ys a / 72057594037927936), .i ((ldw xs ys a / 4294967296) % 16777216), .u (ldw xs ys a % 4294967296)]), (43, .i (a % 4294967296)), (42, .t), (41, .t), (40, .t), (39, .t), (38, .t), (11, .t), (10, .i (a % 4294967296)), (7, .p 1), (5, .t), (4, .f), (2, .p 0)] [IntKind.i64.wrap ((a % 4294967296) + (((ldw xs ys a / 4294967296) % 16777216) + 2)) = ((a % 4294967296) + (((ldw xs ys a / 4294967296) % 16777216) + 2)), True, (decide (((a % 4294967296) + (((ldw xs ys a / 4294967296) % 16777216) + 2)) ≤ W)) = true, True, True] ⟨i64_eq (by omega) (by omega), trivial, decide_eq_true (by omega), trivial, trivial, trivial⟩ ?_
    refine qc (rhright_1 (ldw xs ys a / 72057594037927936) ((ldw xs ys a / 4294967296) % 16777216) (ldw xs ys a % 4294967296) (by omega) (by omega) (by omega) ‹_›) ?_
    refine qr [(16, .t)] 3 16 [(4, .t), (55, .t), (54, .t), (53, .i 0), (52, .agg [.i (ldw xs ys a / 72057594037927936), .i ((ldw xs ys a / 4294967296) % 16777216), .u (ldw xs ys a % 4294967296)]), (51, .t), (50, .t), (49, .t), (48, .i W), (47, .p 0), (46, .i ((a % 4294967296) + (((ldw xs ys a / 4294967296) % 16777216) + 2))), (45, .i (((ldw xs ys a / 4294967296) % 16777216) + 2)), (44, .agg [.i (ldw xs ys a / 72057594037927936), .i ((ldw xs ys a / 4294967296) % 16777216), .u (ldw xs ys a % 4294967296)]), (43, .i (a % 4294967296)), (42, .t), (41, .t), (40, .t), (39, .t), (38, .t), (11, .t), (10, .i (a % 4294967296)), (7, .p 1), (5, .t), (4, .f), (2, .p 0)] [(0 == 0) = true, True] ⟨beq_iff_eq.2 (by omega), trivial, trivial⟩ ?_
    refine qen ?_
    refine an ?_
    refine xw_ret ?_
    exact bs (.t) rfl
  ·
   refine pc (oat_2 W xs ys a (by omega) (by omega) (by omega) ‹_› ‹_› ‹_› ‹_›) ?_
   have h2 : (oErr W xs ys a) = 2 ∨ (oErr W xs ys a) = 10 := oErr_no W xs ys a (by omega)
   refine rk [] 6 3 ⟨[(8, .i (oErr W xs ys a)), (7, .p 1), (5, .t), (4, .f), (2, .p 0), (1, .u a)], [(1, .cells [.i 0, .i 0, .u 0] 54), (0, .cells (mm W xs ys) 45)], 2⟩ [True] ⟨trivial, trivial⟩ ?_
   refine en ?_
   refine an ?_
   refine xw_seq ?_
   refine rg [(1, .t)] 2 ⟨[(25, .t), (7, .p 1), (5, .t), (4, .f), (2, .p 0), (1, .u a)], [(1, .cells [.i 0, .i 0, .u 0] 54), (0, .cells (mm W xs ys) 45)], 2⟩ [((oErr W xs ys a) != 0) = true] ⟨bne_iff_ne.2 (by omega), trivial⟩ ?_
   refine ct ?_
   refine rg [(4, .t)] 7 ⟨[(4, .t), (7, .p 1), (5, .t), (2, .p 0), (1, .u a)], [(1, .cells [.i 0, .i 0, .u 0] 54), (0, .cells (mm W xs ys) 45)], 2⟩ [True, ((0 == 0) && ((0 == 0) && ((0 == 0) && true))) = true, True] ⟨trivial, (by simp <;> omega), trivial, trivial⟩ ?_
   refine xw_ret ?_
   refine an_ret ?_
   exact bs (.t) rfl
 ·
  refine pc (few5_2 W xs ys ‹_› ‹_›) ?_
  refine rk [] 1 2 ⟨[(6, .f), (5, .t), (4, .f), (2, .p 0), (1, .u a)], [(0, .cells (mm W xs ys) 45)], 1⟩ [] trivial ?_
  refine en ?_
  refine an ?_
  refine xw_seq ?_
  refine rg [] 2 ⟨[(16, .t), (5, .t), (4, .f), (2, .p 0), (1, .u a)], [(0, .cells (mm W xs ys) 45)], 1⟩ [] trivial ?_
  refine ct ?_
  refine rg [] 2 ⟨[(4, .t), (5, .t), (2, .p 0), (1, .u a)], [(0, .cells (mm W xs ys) 45)], 1⟩ [] trivial ?_
  refine xw_ret ?_
  refine an_ret ?_
  exact bs (.t) rfl

end Go.Proofs.Ytiilcckpoibhhaa.X
