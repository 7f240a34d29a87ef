/- Contracts of Go functions: what each returns, for every input that its premises name; no memory of the caller is touched. Printed by a program. -/
import Derived.Test.YtiilcckpoibhhaaXd3
namespace Go.Proofs.Ytiilcckpoibhhaa.X
open Go Go.RowKit
set_option linter.unusedVariables false      -- a premise may serve only to tell which way is taken
set_option linter.unusedSimpArgs false
theorem walkEnds (W : Int) (xs : List Int) (ys : List Int) (s : Int) (a : Int) (b : Int) (hp0 : -9223372036854775808 ≤ W ∧ W ≤ 9223372036854775807) (hp1 : U64s xs) (hp2 : U64s ys) (hp3 : -9223372036854775808 ≤ s ∧ s ≤ 9223372036854775807) (hp4 : -9223372036854775808 ≤ a ∧ a ≤ 9223372036854775807) (hp5 : -9223372036854775808 ≤ b ∧ b ≤ 9223372036854775807) : Pub Try.prog 8 [.agg (mm W xs ys ++ [.int .i64 s, .int .i64 a, .int .i64 b])] (fun rv => rv = .bool true) := by
 refine pub_of TT_ok Try.func8 rfl (by decide) (Nat.le_of_ble_eq_true (by kernel_rfl)) (by kernel_rfl) ?_
 refine rg [] 2 ⟨[(2, .f), (1, .p 0)], [(0, .cells (mm W xs ys ++ [.i s, .i a, .i b]) 47)], 1⟩ [] trivial ?_
 refine rg [] 4 ⟨[(3, .p 1), (2, .f), (1, .p 0)], [(1, .cells (mm W xs ys) 45), (0, .cells (mm W xs ys ++ [.i s, .i a, .i b]) 47)], 2⟩ [True, True] ⟨trivial, trivial, trivial⟩ ?_
 refine rg [] 3 ⟨[(4, .i s), (3, .p 1), (2, .f), (1, .p 0)], [(1, .cells (mm W xs ys) 45), (0, .cells (mm W xs ys ++ [.i s, .i a, .i b]) 47)], 2⟩ [True] ⟨trivial, trivial⟩ ?_
 refine rg [] 3 ⟨[(5, .i a), (4, .i s), (3, .p 1), (2, .f), (1, .p 0)], [(1, .cells (mm W xs ys) 45), (0, .cells (mm W xs ys ++ [.i s, .i a, .i b]) 47)], 2⟩ [True] ⟨trivial, trivial⟩ ?_
 refine rg [] 3 ⟨[(6, .i b), (5, .i a), (4, .i s), (3, .p 1), (2, .f)], [(1, .cells (mm W xs ys) 45)], 2⟩ [True] ⟨trivial, trivial⟩ ?_
 refine xw_seq ?_
 refine reg ?_
 refine pc (shown6 ) ?_
 refine rk [] 1 1 ⟨[(7, .t), (6, .i b), (5, .i a), (4, .i s), (3, .p 1), (2, .f)], [(1, .cells (mm W xs ys) 45)], 2⟩ [] trivial ?_
 refine en ?_
 refine an ?_
 refine xw_seq ?_
 refine reg ?_
 refine rk [] 1 0 ⟨[(22, .agg (mm W xs ys)), (7, .t), (6, .i b), (5, .i a), (4, .i s), (3, .p 1), (2, .f)], [(1, .cells (mm W xs ys) 45)], 2⟩ [True] ⟨trivial, trivial⟩ ?_
 by_cases h0 : 16 ≤ W ∧ W ≤ 200 ∧ (xs.length : Int) = W ∧ (ys.length : Int) = W
 ·
  refine pc (few6_1 W xs ys ‹_› ‹_›) ?_
  refine rk [] 1 2 ⟨[(8, .t), (7, .t), (6, .i b), (5, .i a), (4, .i s), (3, .p 1), (2, .f)], [(1, .cells (mm W xs ys) 45)], 2⟩ [] trivial ?_
  refine en ?_
  refine an ?_
  refine xw_seq ?_
  refine rg [] 2 ⟨[(25, .f), (7, .t), (6, .i b), (5, .i a), (4, .i s), (3, .p 1), (2, .f)], [(1, .cells (mm W xs ys) 45)], 2⟩ [] trivial ?_
  refine cf ?_
  refine xw_skip ?_
  refine an ?_
  refine xw_seq ?_
  refine reg ?_
  refine rk [] 3 0 ⟨[(30, .i a), (29, .i s), (28, .agg (mm W xs ys)), (7, .t), (6, .i b), (5, .i a), (4, .i s), (3, .p 1), (2, .f)], [(1, .cells (mm W xs ys) 45)], 2⟩ [True] ⟨trivial, trivial⟩ ?_
  by_cases h1 : ¬ (0 ≤ s ∧ s ≤ 1 ∧ 0 ≤ a ∧ a ≤ W)
  ·
   refine pc (wall_1 W xs ys s a (by omega) (by omega) (by omega) ‹_› ‹_› ‹_› ‹_› ‹_›) ?_
   refine rk [] 5 4 ⟨[(10, .i 1), (9, .nils), (7, .t), (6, .i b), (5, .i a), (4, .i s), (3, .p 1), (2, .f)], [(1, .cells (mm W xs ys) 45)], 2⟩ [] trivial ?_
   refine en ?_
   refine an ?_
   refine xw_seq ?_
   refine reg ?_
   refine rk [] 3 0 ⟨[(37, .i b), (36, .i s), (35, .agg (mm W xs ys)), (10, .i 1), (9, .nils), (7, .t), (6, .i b), (5, .i a), (2, .f)], [], 2⟩ [True] ⟨trivial, trivial⟩ ?_
   by_cases h2 : ¬ (0 ≤ s ∧ s ≤ 1 ∧ 0 ≤ b ∧ b ≤ W)
   ·
    refine pc (wall_1 W xs ys s b (by omega) (by omega) (by omega) ‹_› ‹_› ‹_› ‹_› ‹_›) ?_
    refine rk [] 5 4 ⟨[(12, .i 1), (11, .nils), (10, .i 1), (9, .nils), (7, .t), (6, .i b), (5, .i a), (2, .f)], [], 2⟩ [] trivial ?_
    refine en ?_
    refine an ?_
    refine xw_seq ?_
    refine xw_seq ?_
    refine reg ?_
    refine rk [(2, .bool (decide (b < a)))] 4 0 ⟨[(44, .bool (decide (b < a))), (12, .i 1), (11, .nils), (10, .i 1), (9, .nils), (7, .t), (2, .f)], [], 2⟩ [(decide (b < a)) = (decide (b < a))] ⟨rfl, trivial⟩ ?_
    refine splitr 44 (x := (decide (b < a))) (by kernel_rfl) (fun h3 => ?_) (fun h3 => ?_)
    ·
     replace h3 : b < a := of_decide_eq_true h3
     refine rk [] 7 4 ⟨[(51, .t), (11, .nils), (9, .nils), (7, .t), (2, .f)], [], 2⟩ [True, True] ⟨trivial, trivial, trivial⟩ ?_
     refine en ?_
     refine an ?_
     refine ct ?_
     refine rg [] 2 ⟨[(2, .t), (11, .nils), (9, .nils), (7, .t)], [], 2⟩ [] trivial ?_
     refine xw_ret ?_
     refine an_ret ?_
     exact bs (.t) rfl
    ·
     replace h3 : ¬ (b < a) := of_decide_eq_false h3
     refine rk [(5, .t)] 7 4 ⟨[(51, .t), (11, .nils), (9, .nils), (7, .t), (2, .f)], [], 2⟩ [(1 != 0) = true, True, True] ⟨bne_iff_ne.2 (by omega), trivial, trivial, trivial⟩ ?_
     refine en ?_
     refine an ?_
     refine ct ?_
     refine rg [] 2 ⟨[(2, .t), (11, .nils), (9, .nils), (7, .t)], [], 2⟩ [] trivial ?_
     refine xw_ret ?_
     refine an_ret ?_
     exact bs (.t) rfl
   ·
    by_cases h3 : (wE W xs ys s b) = 0
    ·
     refine pc (wall_2 W xs ys s b (by omega) (by omega) (by omega) ‹_› ‹_› ‹_› ‹_› (by omega) ‹_›) ?_
     obtain ⟨h4, h5⟩ := wA_ok W xs ys s b (by omega) (by omega)
     have h6 : b < a ∨ (wE W xs ys s a) ≠ 0 ∨ ((wA W xs ys s b).take (Int.toNat ((wA W xs ys s a).length : Int)) = (wA W xs ys s a) ∧ ((wA W xs ys s a).length : Int) ≤ ((wA W xs ys s b).length : Int)) := wA_pre3 (by omega)
     refine rk [] 5 4 ⟨[(12, .i 0), (11, .sl false 1 (m64 (wA W xs ys s b))), (10, .i 1), (9, .nils), (7, .t), (6, .i b), (5, .i a), (2, .f)], [], 2⟩ [] trivial ?_
     refine en ?_
     refine an ?_
     refine xw_seq ?_
     refine xw_seq ?_
     refine reg ?_
     refine rk [(2, .bool (decide (b < a)))] 4 0 ⟨[(44, .bool (decide (b < a))), (12, .i 0), (11, .sl false 1 (m64 (wA W xs ys s b))), (10, .i 1), (9, .nils), (7, .t), (2, .f)], [], 2⟩ [(decide (b < a)) = (decide (b < a))] ⟨rfl, trivial⟩ ?_
     refine splitr 44 (x := (decide (b < a))) (by kernel_rfl) (fun h7 => ?_) (fun h7 => ?_)
     ·
      replace h7 : b < a := of_decide_eq_true h7
      refine rk [] 7 4 ⟨[(51, .t), (11, .sl false 1 (m64 (wA W xs ys s b))), (9, .nils), (7, .t), (2, .f)], [], 2⟩ [True, True] ⟨trivial, trivial, trivial⟩ ?_
      refine en ?_
      refine an ?_
      refine ct ?_
      refine rg [] 2 ⟨[(2, .t), (11, .sl false 1 (m64 (wA W xs ys s b))), (9, .nils), (7, .t)], [], 2⟩ [] trivial ?_
      refine xw_ret ?_
      refine an_ret ?_
      exact bs (.t) rfl
     ·
      replace h7 : ¬ (b < a) := of_decide_eq_false h7
      refine rk [(5, .t)] 7 4 ⟨[(51, .t), (11, .sl false 1 (m64 (wA W xs ys s b))), (9, .nils), (7, .t), (2, .f)], [], 2⟩ [(1 != 0) = true, True, True] ⟨bne_iff_ne.2 (by omega), trivial, trivial, trivial⟩ ?_
      refine en ?_
      refine an ?_
      refine ct ?_
      refine rg [] 2 ⟨[(2, .t), (11, .sl false 1 (m64 (wA W xs ys s b))), (9, .nils), (7, .t)], [], 2⟩ [] trivial ?_
      refine xw_ret ?_
      refine an_ret ?_
      exact bs (.t) rfl
    ·
     refine pc (wall_3 W xs ys s b (by omega) (by omega) (by omega) ‹_› ‹_› ‹_› ‹_› (by omega) ‹_›) ?_
     refine rk [] 5 4 ⟨[(12, .i (wE W xs ys s b)), (11, .nils), (10, .i 1), (9, .nils), (7, .t), (6, .i b), (5, .i a), (2, .f)], [], 2⟩ [] trivial ?_
     refine en ?_
     refine an ?_
     refine xw_seq ?_
     refine xw_seq ?_
     refine reg ?_
     refine rk [(2, .bool (decide (b < a)))] 4 0 ⟨[(44, .bool (decide (b < a))), (12, .i (wE W xs ys s b)), (11, .nils), (10, .i 1), (9, .nils), (7, .t), (2, .f)], [], 2⟩ [(decide (b < a)) = (decide (b < a))] ⟨rfl, trivial⟩ ?_
     refine splitr 44 (x := (decide (b < a))) (by kernel_rfl) (fun h4 => ?_) (fun h4 => ?_)
     ·
      replace h4 : b < a := of_decide_eq_true h4
      refine rk [] 7 4 ⟨[(51, .t), (11, .nils), (9, .nils), (7, .t), (2, .f)], [], 2⟩ [True, True] ⟨trivial, trivial, trivial⟩ ?_
      refine en ?_
      refine an ?_
      refine ct ?_
      refine rg [] 2 ⟨[(2, .t), (11, .nils), (9, .nils), (7, .t)], [], 2⟩ [] trivial ?_
      refine xw_ret ?_
      refine an_ret ?_
      exact bs (.t) rfl
     ·
      replace h4 : ¬ (b < a) := of_decide_eq_false h4
      refine rk [(5, .t)] 7 4 ⟨[(51, .t), (11, .nils), (9, .nils), (7, .t), (2, .f)], [], 2⟩ [(1 != 0) = true, True, True] ⟨bne_iff_ne.2 (by omega), trivial, trivial, trivial⟩ ?_
      refine en ?_
      refine an ?_
      refine ct ?_
      refine rg [] 2 ⟨[(2, .t), (11, .nils), (9, .nils), (7, .t)], [], 2⟩ [] trivial ?_
      refine xw_ret ?_
      refine an_ret ?_
      exact bs (.t) rfl
  ·
   by_cases h2 : (wE W xs ys s a) = 0
   ·
    refine pc (wall_2 W xs ys s a (by omega) (by omega) (by omega) ‹_› ‹_› ‹_› ‹_› (by omega) ‹_›) ?_
    obtain ⟨h3, h4⟩ := wA_ok W xs ys s a (by omega) (by omega)
    refine rk [] 5 4 ⟨[(10, .i 0), (9, .sl false 1 (m64 (wA W xs ys s a))), (7, .t), (6, .i b), (5, .i a), (4, .i s), (3, .p 1), (2, .f)], [(1, .cells (mm W xs ys) 45)], 2⟩ [] trivial ?_
    refine en ?_
    refine an ?_
    refine xw_seq ?_
    refine reg ?_
    refine rk [] 3 0 ⟨[(37, .i b), (36, .i s), (35, .agg (mm W xs ys)), (10, .i 0), (9, .sl false 1 (m64 (wA W xs ys s a))), (7, .t), (6, .i b), (5, .i a), (2, .f)], [], 2⟩ [True] ⟨trivial, trivial⟩ ?_
    by_cases h5 : ¬ (0 ≤ s ∧ s ≤ 1 ∧ 0 ≤ b ∧ b ≤ W)
    ·
     refine pc (wall_1 W xs ys s b (by omega) (by omega) (by omega) ‹_› ‹_› ‹_› ‹_› ‹_›) ?_
     refine rk [] 5 4 ⟨[(12, .i 1), (11, .nils), (10, .i 0), (9, .sl false 1 (m64 (wA W xs ys s a))), (7, .t), (6, .i b), (5, .i a), (2, .f)], [], 2⟩ [] trivial ?_
     refine en ?_
     refine an ?_
     refine xw_seq ?_
     refine xw_seq ?_
     refine reg ?_
     refine rk [(2, .bool (decide (b < a)))] 4 0 ⟨[(44, .bool (decide (b < a))), (12, .i 1), (11, .nils), (10, .i 0), (9, .sl false 1 (m64 (wA W xs ys s a))), (7, .t), (2, .f)], [], 2⟩ [(decide (b < a)) = (decide (b < a))] ⟨rfl, trivial⟩ ?_
     refine splitr 44 (x := (decide (b < a))) (by kernel_rfl) (fun h6 => ?_) (fun h6 => ?_)
     ·
      replace h6 : b < a := of_decide_eq_true h6
      refine rk [] 7 4 ⟨[(51, .t), (11, .nils), (9, .sl false 1 (m64 (wA W xs ys s a))), (7, .t), (2, .f)], [], 2⟩ [True, True] ⟨trivial, trivial, trivial⟩ ?_
      refine en ?_
      refine an ?_
      refine ct ?_
      refine rg [] 2 ⟨[(2, .t), (11, .nils), (9, .sl false 1 (m64 (wA W xs ys s a))), (7, .t)], [], 2⟩ [] trivial ?_
      refine xw_ret ?_
      refine an_ret ?_
      exact bs (.t) rfl
     ·
      replace h6 : ¬ (b < a) := of_decide_eq_false h6
      refine rk [(5, .f), (9, .t)] 7 4 ⟨[(51, .t), (11, .nils), (9, .sl false 1 (m64 (wA W xs ys s a))), (7, .t), (2, .f)], [], 2⟩ [(0 != 0) = false, True, (1 != 0) = true, True] ⟨bne_eq_false_iff_eq.2 (by omega), trivial, bne_iff_ne.2 (by omega), trivial, trivial⟩ ?_
      refine en ?_
      refine an ?_
      refine ct ?_
      refine rg [] 2 ⟨[(2, .t), (11, .nils), (9, .sl false 1 (m64 (wA W xs ys s a))), (7, .t)], [], 2⟩ [] trivial ?_
      refine xw_ret ?_
      refine an_ret ?_
      exact bs (.t) rfl
    ·
     by_cases h6 : (wE W xs ys s b) = 0
     ·
      refine pc (wall_2 W xs ys s b (by omega) (by omega) (by omega) ‹_› ‹_› ‹_› ‹_› (by omega) ‹_›) ?_
      obtain ⟨h7, h8⟩ := wA_ok W xs ys s b (by omega) (by omega)
      have h9 : b < a ∨ (wE W xs ys s a) ≠ 0 ∨ ((wA W xs ys s b).take (Int.toNat ((wA W xs ys s a).length : Int)) = (wA W xs ys s a) ∧ ((wA W xs ys s a).length : Int) ≤ ((wA W xs ys s b).length : Int)) := wA_pre3 (by omega)
      refine rk [] 5 4 ⟨[(12, .i 0), (11, .sl false 1 (m64 (wA W xs ys s b))), (10, .i 0), (9, .sl false 1 (m64 (wA W xs ys s a))), (7, .t), (6, .i b), (5, .i a), (2, .f)], [], 2⟩ [] trivial ?_
      refine en ?_
      refine an ?_
      refine xw_seq ?_
      refine xw_seq ?_
      refine reg ?_
      refine rk [(2, .bool (decide (b < a)))] 4 0 ⟨[(44, .bool (decide (b < a))), (12, .i 0), (11, .sl false 1 (m64 (wA W xs ys s b))), (10, .i 0), (9, .sl false 1 (m64 (wA W xs ys s a))), (7, .t), (2, .f)], [], 2⟩ [(decide (b < a)) = (decide (b < a))] ⟨rfl, trivial⟩ ?_
      refine splitr 44 (x := (decide (b < a))) (by kernel_rfl) (fun h10 => ?_) (fun h10 => ?_)
      ·
       replace h10 : b < a := of_decide_eq_true h10
       refine rk [] 7 4 ⟨[(51, .t), (11, .sl false 1 (m64 (wA W xs ys s b))), (9, .sl false 1 (m64 (wA W xs ys s a))), (7, .t), (2, .f)], [], 2⟩ [True, True] ⟨trivial, trivial, trivial⟩ ?_
       refine en ?_
       refine an ?_
       refine ct ?_
       refine rg [] 2 ⟨[(2, .t), (11, .sl false 1 (m64 (wA W xs ys s b))), (9, .sl false 1 (m64 (wA W xs ys s a))), (7, .t)], [], 2⟩ [] trivial ?_
       refine xw_ret ?_
       refine an_ret ?_
       exact bs (.t) rfl
      ·
       replace h10 : ¬ (b < a) := of_decide_eq_false h10
       refine rk [(5, .f), (9, .f)] 7 4 ⟨[(51, .f), (11, .sl false 1 (m64 (wA W xs ys s b))), (9, .sl false 1 (m64 (wA W xs ys s a))), (7, .t), (2, .f)], [], 2⟩ [(0 != 0) = false, True, (0 != 0) = false, True] ⟨bne_eq_false_iff_eq.2 (by omega), trivial, bne_eq_false_iff_eq.2 (by omega), trivial, trivial⟩ ?_
       refine en ?_
       refine an ?_
       refine cf ?_
       refine xw_skip ?_
       refine an ?_
       refine xw_seq ?_
       refine rg [(1, .i (((wA W xs ys s a)).length : Int)), (3, .i (((wA W xs ys s b)).length : Int)), (4, .bool (decide ((((wA W xs ys s b)).length : Int) < (((wA W xs ys s a)).length : Int))))] 5 ⟨[(57, .bool (decide ((((wA W xs ys s b)).length : Int) < (((wA W xs ys s a)).length : Int)))), (11, .sl false 1 (m64 (wA W xs ys s b))), (9, .sl false 1 (m64 (wA W xs ys s a))), (7, .t), (2, .f)], [], 2⟩ [((((m64 (wA W xs ys s a))).length : Nat) : Int) = (((wA W xs ys s a)).length : Int), ((((m64 (wA W xs ys s b))).length : Nat) : Int) = (((wA W xs ys s b)).length : Int), (decide ((((wA W xs ys s b)).length : Int) < (((wA W xs ys s a)).length : Int))) = (decide ((((wA W xs ys s b)).length : Int) < (((wA W xs ys s a)).length : Int)))] ⟨(by simp), (by simp), rfl, trivial⟩ ?_
       refine xw_cond (b := (decide ((((wA W xs ys s b)).length : Int) < (((wA W xs ys s a)).length : Int)))) (by kernel_rfl) (fun h11 => ?_) (fun h11 => ?_)
       ·
        replace h11 : (((wA W xs ys s b)).length : Int) < (((wA W xs ys s a)).length : Int) := of_decide_eq_true h11
        refine rg [] 1 ⟨[(2, .f), (11, .sl false 1 (m64 (wA W xs ys s b))), (9, .sl false 1 (m64 (wA W xs ys s a))), (7, .t)], [], 2⟩ [] trivial ?_
        refine xw_ret ?_
        refine an_ret ?_
        exact bk_ret (.f) (.f) (.t) (by kernel_rfl) (by kernel_rfl) (wkd [false = true] (by kernel_rfl) ⟨(by first | exact decide_eq_true (by omega) | exact decide_eq_false (by omega) | (simp; done) | (simp; omega) | simp_all | grind), trivial⟩) rfl
       ·
        replace h11 : ¬ ((((wA W xs ys s b)).length : Int) < (((wA W xs ys s a)).length : Int)) := of_decide_eq_false h11
        refine xw_skip ?_
        refine an ?_
        refine xw_seq ?_
        refine reg ?_
        refine rk [(4, .i (((wA W xs ys s a)).length : Int))] 6 0 ⟨[(63, .sl false 1 ((((m64 (wA W xs ys s b))).take ((((wA W xs ys s a)).length : Int) : Int).toNat).drop (0 : Int).toNat)), (59, .t), (9, .sl false 1 (m64 (wA W xs ys s a))), (2, .f)], [], 2⟩ [((((m64 (wA W xs ys s a))).length : Nat) : Int) = (((wA W xs ys s a)).length : Int), (0 : Int) ≤ 0 ∧ 0 ≤ (((wA W xs ys s a)).length : Int) ∧ (((wA W xs ys s a)).length : Int) ≤ ((((m64 (wA W xs ys s b))).length : Nat) : Int)] ⟨(by simp), ⟨by omega, by omega, by first | omega | (simp only [len_st]; omega) | (simp; done) | (simp; omega) | (simp [len_st, len_stx, len_sty, len_zx, len_zy]; omega)⟩, trivial⟩ ?_
        refine sets 63 (x := false) (z := 1) (L := ((((m64 (wA W xs ys s b))).take ((((wA W xs ys s a)).length : Int) : Int).toNat).drop (0 : Int).toNat)) (L' := (m64 ((wA W xs ys s b).take (((((wA W xs ys s a)).length : Int) : Int).toNat)))) (by kernel_rfl) cut0 ?_
        refine rk [] 1 6 ⟨[(64, .sl false 1 (m64 (wA W xs ys s a))), (63, .sl false 1 (m64 ((wA W xs ys s b).take (((((wA W xs ys s a)).length : Int) : Int).toNat)))), (59, .t), (2, .f)], [], 2⟩ [] trivial ?_
        by_cases h12 : ((wA W xs ys s b).take (((((wA W xs ys s a)).length : Int) : Int).toNat)) = (wA W xs ys s a)
        ·
         refine pc (rwords_1 ((wA W xs ys s b).take (((((wA W xs ys s a)).length : Int) : Int).toNat)) (wA W xs ys s a) (by first | omega | assumption | rfl | (rw [len_zx]; assumption) | (rw [len_zy]; assumption) | exact U64s.zx (by assumption) _ _ | exact U64s.zy (by assumption) _ _ | exact U64s.rep _ | decide | (simp; done) | exact U64s.take (by assumption) _ | (simp; omega)) ‹_› (by first | omega | assumption | rfl | (rw [len_zx]; assumption) | (rw [len_zy]; assumption) | exact U64s.zx (by assumption) _ _ | exact U64s.zy (by assumption) _ _ | exact U64s.rep _ | decide | (simp; done) | exact U64s.take (by assumption) _ | (simp; omega)) (by omega) ‹_›) ?_
         refine rk [] 2 8 ⟨[(2, .t)], [], 2⟩ [True] ⟨trivial, trivial⟩ ?_
         refine en ?_
         refine an ?_
         refine xw_ret ?_
         exact bs (.t) rfl
        ·
         refine pc (rwords_2 ((wA W xs ys s b).take (((((wA W xs ys s a)).length : Int) : Int).toNat)) (wA W xs ys s a) (by first | omega | assumption | rfl | (rw [len_zx]; assumption) | (rw [len_zy]; assumption) | exact U64s.zx (by assumption) _ _ | exact U64s.zy (by assumption) _ _ | exact U64s.rep _ | decide | (simp; done) | exact U64s.take (by assumption) _ | (simp; omega)) ‹_› (by first | omega | assumption | rfl | (rw [len_zx]; assumption) | (rw [len_zy]; assumption) | exact U64s.zx (by assumption) _ _ | exact U64s.zy (by assumption) _ _ | exact U64s.rep _ | decide | (simp; done) | exact U64s.take (by assumption) _ | (simp; omega)) (by omega) ‹_›) ?_
         refine rk [] 2 8 ⟨[(2, .f)], [], 2⟩ [True] ⟨trivial, trivial⟩ ?_
         refine en ?_
         refine an ?_
         refine xw_ret ?_
         exact bk_ret (.f) (.f) (.t) (by kernel_rfl) (by kernel_rfl) (wkd [false = true] (by kernel_rfl) ⟨(by first | exact decide_eq_true (by omega) | exact decide_eq_false (by omega) | (simp; done) | (simp; omega) | simp_all | grind), trivial⟩) rfl
     ·
      refine pc (wall_3 W xs ys s b (by omega) (by omega) (by omega) ‹_› ‹_› ‹_› ‹_› (by omega) ‹_›) ?_
      refine rk [] 5 4 ⟨[(12, .i (wE W xs ys s b)), (11, .nils), (10, .i 0), (9, .sl false 1 (m64 (wA W xs ys s a))), (7, .t), (6, .i b), (5, .i a), (2, .f)], [], 2⟩ [] trivial ?_
      refine en ?_
      refine an ?_
      refine xw_seq ?_
      refine xw_seq ?_
      refine reg ?_
      refine rk [(2, .bool (decide (b < a)))] 4 0 ⟨[(44, .bool (decide (b < a))), (12, .i (wE W xs ys s b)), (11, .nils), (10, .i 0), (9, .sl false 1 (m64 (wA W xs ys s a))), (7, .t), (2, .f)], [], 2⟩ [(decide (b < a)) = (decide (b < a))] ⟨rfl, trivial⟩ ?_
      refine splitr 44 (x := (decide (b < a))) (by kernel_rfl) (fun h7 => ?_) (fun h7 => ?_)
      ·
       replace h7 : b < a := of_decide_eq_true h7
       refine rk [] 7 4 ⟨[(51, .t), (11, .nils), (9, .sl false 1 (m64 (wA W xs ys s a))), (7, .t), (2, .f)], [], 2⟩ [True, True] ⟨trivial, trivial, trivial⟩ ?_
       refine en ?_
       refine an ?_
       refine ct ?_
       refine rg [] 2 ⟨[(2, .t), (11, .nils), (9, .sl false 1 (m64 (wA W xs ys s a))), (7, .t)], [], 2⟩ [] trivial ?_
       refine xw_ret ?_
       refine an_ret ?_
       exact bs (.t) rfl
      ·
       replace h7 : ¬ (b < a) := of_decide_eq_false h7
       refine rk [(5, .f), (9, .t)] 7 4 ⟨[(51, .t), (11, .nils), (9, .sl false 1 (m64 (wA W xs ys s a))), (7, .t), (2, .f)], [], 2⟩ [(0 != 0) = false, True, ((wE W xs ys s b) != 0) = true, True] ⟨bne_eq_false_iff_eq.2 (by omega), trivial, bne_iff_ne.2 (by omega), trivial, trivial⟩ ?_
       refine en ?_
       refine an ?_
       refine ct ?_
       refine rg [] 2 ⟨[(2, .t), (11, .nils), (9, .sl false 1 (m64 (wA W xs ys s a))), (7, .t)], [], 2⟩ [] trivial ?_
       refine xw_ret ?_
       refine an_ret ?_
       exact bs (.t) rfl
   ·
    refine pc (wall_3 W xs ys s a (by omega) (by omega) (by omega) ‹_› ‹_› ‹_› ‹_› (by omega) ‹_›) ?_
    refine rk [] 5 4 ⟨[(10, .i (wE W xs ys s a)), (9, .nils), (7, .t), (6, .i b), (5, .i a), (4, .i s), (3, .p 1), (2, .f)], [(1, .cells (mm W xs ys) 45)], 2⟩ [] trivial ?_
    refine en ?_
    refine an ?_
    refine xw_seq ?_
    refine reg ?_
    refine rk [] 3 0 ⟨[(37, .i b), (36, .i s), (35, .agg (mm W xs ys)), (10, .i (wE W xs ys s a)), (9, .nils), (7, .t), (6, .i b), (5, .i a), (2, .f)], [], 2⟩ [True] ⟨trivial, trivial⟩ ?_
    by_cases h3 : ¬ (0 ≤ s ∧ s ≤ 1 ∧ 0 ≤ b ∧ b ≤ W)
    ·
     refine pc (wall_1 W xs ys s b (by omega) (by omega) (by omega) ‹_› ‹_› ‹_› ‹_› ‹_›) ?_
     refine rk [] 5 4 ⟨[(12, .i 1), (11, .nils), (10, .i (wE W xs ys s a)), (9, .nils), (7, .t), (6, .i b), (5, .i a), (2, .f)], [], 2⟩ [] trivial ?_
     refine en ?_
     refine an ?_
     refine xw_seq ?_
     refine xw_seq ?_
     refine reg ?_
     refine rk [(2, .bool (decide (b < a)))] 4 0 ⟨[(44, .bool (decide (b < a))), (12, .i 1), (11, .nils), (10, .i (wE W xs ys s a)), (9, .nils), (7, .t), (2, .f)], [], 2⟩ [(decide (b < a)) = (decide (b < a))] ⟨rfl, trivial⟩ ?_
     refine splitr 44 (x := (decide (b < a))) (by kernel_rfl) (fun h4 => ?_) (fun h4 => ?_)
     ·
      replace h4 : b < a := of_decide_eq_true h4
      refine rk [] 7 4 ⟨[(51, .t), (11, .nils), (9, .nils), (7, .t), (2, .f)], [], 2⟩ [True, True] ⟨trivial, trivial, trivial⟩ ?_
      refine en ?_
      refine an ?_
      refine ct ?_
      refine rg [] 2 ⟨[(2, .t), (11, .nils), (9, .nils), (7, .t)], [], 2⟩ [] trivial ?_
      refine xw_ret ?_
      refine an_ret ?_
      exact bs (.t) rfl
     ·
      replace h4 : ¬ (b < a) := of_decide_eq_false h4
      refine rk [(5, .t)] 7 4 ⟨[(51, .t), (11, .nils), (9, .nils), (7, .t), (2, .f)], [], 2⟩ [((wE W xs ys s a) != 0) = true, True, True] ⟨bne_iff_ne.2 (by omega), trivial, trivial, trivial⟩ ?_
      refine en ?_
      refine an ?_
      refine ct ?_
      refine rg [] 2 ⟨[(2, .t), (11, .nils), (9, .nils), (7, .t)], [], 2⟩ [] trivial ?_
      refine xw_ret ?_
      refine an_ret ?_
      exact bs (.t) rfl
    ·
     by_cases h4 : (wE W xs ys s b) = 0
     ·
      refine pc (wall_2 W xs ys s b (by omega) (by omega) (by omega) ‹_› ‹_› ‹_› ‹_› (by omega) ‹_›) ?_
      obtain ⟨h5, h6⟩ := wA_ok W xs ys s b (by omega) (by omega)
      have h7 : b < a ∨ (wE W xs ys s a) ≠ 0 ∨ ((wA W xs ys s b).take (Int.toNat ((wA W xs ys s a).length : Int)) = (wA W xs ys s a) ∧ ((wA W xs ys s a).length : Int) ≤ ((wA W xs ys s b).length : Int)) := wA_pre3 (by omega)
      refine rk [] 5 4 ⟨[(12, .i 0), (11, .sl false 1 (m64 (wA W xs ys s b))), (10, .i (wE W xs ys s a)), (9, .nils), (7, .t), (6, .i b), (5, .i a), (2, .f)], [], 2⟩ [] trivial ?_
      refine en ?_
      refine an ?_
      refine xw_seq ?_
      refine xw_seq ?_
      refine reg ?_
      refine rk [(2, .bool (decide (b < a)))] 4 0 ⟨[(44, .bool (decide (b < a))), (12, .i 0), (11, .sl false 1 (m64 (wA W xs ys s b))), (10, .i (wE W xs ys s a)), (9, .nils), (7, .t), (2, .f)], [], 2⟩ [(decide (b < a)) = (decide (b < a))] ⟨rfl, trivial⟩ ?_
      refine splitr 44 (x := (decide (b < a))) (by kernel_rfl) (fun h8 => ?_) (fun h8 => ?_)
      ·
       replace h8 : b < a := of_decide_eq_true h8
       refine rk [] 7 4 ⟨[(51, .t), (11, .sl false 1 (m64 (wA W xs ys s b))), (9, .nils), (7, .t), (2, .f)], [], 2⟩ [True, True] ⟨trivial, trivial, trivial⟩ ?_
       refine en ?_
       refine an ?_
       refine ct ?_
       refine rg [] 2 ⟨[(2, .t), (11, .sl false 1 (m64 (wA W xs ys s b))), (9, .nils), (7, .t)], [], 2⟩ [] trivial ?_
       refine xw_ret ?_
       refine an_ret ?_
       exact bs (.t) rfl
      ·
       replace h8 : ¬ (b < a) := of_decide_eq_false h8
       refine rk [(5, .t)] 7 4 ⟨[(51, .t), (11, .sl false 1 (m64 (wA W xs ys s b))), (9, .nils), (7, .t), (2, .f)], [], 2⟩ [((wE W xs ys s a) != 0) = true, True, True] ⟨bne_iff_ne.2 (by omega), trivial, trivial, trivial⟩ ?_
       refine en ?_
       refine an ?_
       refine ct ?_
       refine rg [] 2 ⟨[(2, .t), (11, .sl false 1 (m64 (wA W xs ys s b))), (9, .nils), (7, .t)], [], 2⟩ [] trivial ?_
       refine xw_ret ?_
       refine an_ret ?_
       exact bs (.t) rfl
     ·
      refine pc (wall_3 W xs ys s b (by omega) (by omega) (by omega) ‹_› ‹_› ‹_› ‹_› (by omega) ‹_›) ?_
      refine rk [] 5 4 ⟨[(12, .i (wE W xs ys s b)), (11, .nils), (10, .i (wE W xs ys s a)), (9, .nils), (7, .t), (6, .i b), (5, .i a), (2, .f)], [], 2⟩ [] trivial ?_
      refine en ?_
      refine an ?_
      refine xw_seq ?_
      refine xw_seq ?_
      refine reg ?_
      refine rk [(2, .bool (decide (b < a)))] 4 0 ⟨[(44, .bool (decide (b < a))), (12, .i (wE W xs ys s b)), (11, .nils), (10, .i (wE W xs ys s a)), (9, .nils), (7, .t), (2, .f)], [], 2⟩ [(decide (b < a)) = (decide (b < a))] ⟨rfl, trivial⟩ ?_
      refine splitr 44 (x := (decide (b < a))) (by kernel_rfl) (fun h5 => ?_) (fun h5 => ?_)
      ·
       replace h5 : b < a := of_decide_eq_true h5
       refine rk [] 7 4 ⟨[(51, .t), (11, .nils), (9, .nils), (7, .t), (2, .f)], [], 2⟩ [True, True] ⟨trivial, trivial, trivial⟩ ?_
       refine en ?_
       refine an ?_
       refine ct ?_
       refine rg [] 2 ⟨[(2, .t), (11, .nils), (9, .nils), (7, .t)], [], 2⟩ [] trivial ?_
       refine xw_ret ?_
       refine an_ret ?_
       exact bs (.t) rfl
      ·
       replace h5 : ¬ (b < a) := of_decide_eq_false h5
       refine rk [(5, .t)] 7 4 ⟨[(51, .t), (11, .nils), (9, .nils), (7, .t), (2, .f)], [], 2⟩ [((wE W xs ys s a) != 0) = true, True, True] ⟨bne_iff_ne.2 (by omega), trivial, trivial, trivial⟩ ?_
       refine en ?_
       refine an ?_
       refine ct ?_
       refine rg [] 2 ⟨[(2, .t), (11, .nils), (9, .nils), (7, .t)], [], 2⟩ [] trivial ?_
       refine xw_ret ?_
       refine an_ret ?_
       exact bs (.t) rfl
 ·
  refine pc (few6_2 W xs ys ‹_› ‹_›) ?_
  refine rk [] 1 2 ⟨[(8, .f), (7, .t), (6, .i b), (5, .i a), (4, .i s), (3, .p 1), (2, .f)], [(1, .cells (mm W xs ys) 45)], 2⟩ [] trivial ?_
  refine en ?_
  refine an ?_
  refine xw_seq ?_
  refine rg [] 2 ⟨[(25, .t), (7, .t), (6, .i b), (5, .i a), (4, .i s), (3, .p 1), (2, .f)], [(1, .cells (mm W xs ys) 45)], 2⟩ [] trivial ?_
  refine ct ?_
  refine rg [] 2 ⟨[(2, .t), (7, .t), (6, .i b), (5, .i a), (4, .i s), (3, .p 1)], [(1, .cells (mm W xs ys) 45)], 2⟩ [] trivial ?_
  refine xw_ret ?_
  refine an_ret ?_
  exact bs (.t) rfl

end Go.Proofs.Ytiilcckpoibhhaa.X
