/- Contracts of Go functions: what each returns, for every input that its premises name; no memory of the caller is touched. Printed by a program. -/
import Derived.Test.YtcjcljbhjkedgaaXe3
import Derived.Test.YtcjcljbhjkedgaaXq6
namespace Go.Proofs.Ytcjcljbhjkedgaa.X
open Go Go.RowKit
set_option linter.unusedVariables false      -- a premise may serve only to tell which way is taken
set_option linter.unusedSimpArgs false
theorem bufRetires (W : Int) (xs : List Int) (ys : List Int) (s : Int) (b : Int) (l : Int) (p : Int) (q : Int) (hp0 : -9223372036854775808 ≤ W ∧ W ≤ 9223372036854775807) (hp1 : U64s xs) (hp2 : U64s ys) (hp3 : -9223372036854775808 ≤ s ∧ s ≤ 9223372036854775807) (hp4 : -9223372036854775808 ≤ b ∧ b ≤ 9223372036854775807) (hp5 : -9223372036854775808 ≤ l ∧ l ≤ 9223372036854775807) (hp6 : -9223372036854775808 ≤ p ∧ p ≤ 9223372036854775807) (hp7 : -9223372036854775808 ≤ q ∧ q ≤ 9223372036854775807) : Pub Try.prog 5 [.agg (mm W xs ys ++ [.int .i64 s, .int .i64 b, .int .i64 l, .int .i64 p, .int .i64 q])] (fun rv => rv = .bool true) := by
 refine pub_of TT_ok Try.func5 rfl (by decide) (Nat.le_of_ble_eq_true (by kernel_rfl)) (by kernel_rfl) ?_
 refine rg [] 2 ⟨[(2, .f), (1, .p 0)], [(0, .cells (mm W xs ys ++ [.i s, .i b, .i l, .i p, .i q]) 54)], 1⟩ [] trivial ?_
 refine xw_seq ?_
 refine reg ?_
 refine pc (shown8 ) ?_
 refine rk [] 1 1 ⟨[(3, .t), (2, .f), (1, .p 0)], [(0, .cells (mm W xs ys ++ [.i s, .i b, .i l, .i p, .i q]) 54)], 1⟩ [] trivial ?_
 refine en ?_
 refine an ?_
 refine xw_seq ?_
 refine reg ?_
 refine rk [] 1 0 ⟨[(9, .agg (mm W xs ys ++ [.i s, .i b, .i l, .i p, .i q])), (3, .t), (2, .f), (1, .p 0)], [(0, .cells (mm W xs ys ++ [.i s, .i b, .i l, .i p, .i q]) 54)], 1⟩ [True] ⟨trivial, trivial⟩ ?_
 by_cases h0 : 16 ≤ W ∧ W ≤ 4096 ∧ (xs.length : Int) = W ∧ (ys.length : Int) = W ∧ (s = 0 ∨ s = 1) ∧ 0 ≤ b ∧ b ≤ l ∧ l ≤ 4096 ∧ l = W ∧ ((p = 0 ∧ q = 0) ∨ (0 ≤ p ∧ p ≤ q ∧ q ≤ b)) ∧ W ≤ 200
 ·
  refine pc (few8_1 W xs ys s b l p q ‹_› ‹_› ‹_› ‹_› ‹_› ‹_› ‹_›) ?_
  refine rk [] 1 2 ⟨[(4, .t), (3, .t), (2, .f), (1, .p 0)], [(0, .cells (mm W xs ys ++ [.i s, .i b, .i l, .i p, .i q]) 54)], 1⟩ [] trivial ?_
  refine en ?_
  refine an ?_
  refine xw_seq ?_
  refine rg [] 2 ⟨[(12, .f), (3, .t), (2, .f), (1, .p 0)], [(0, .cells (mm W xs ys ++ [.i s, .i b, .i l, .i p, .i q]) 54)], 1⟩ [] trivial ?_
  refine cf ?_
  refine xw_skip ?_
  refine an ?_
  refine xw_seq ?_
  refine reg ?_
  refine rk [] 1 0 ⟨[(14, .agg (mm W xs ys ++ [.i s, .i b, .i l, .i p, .i q])), (3, .t), (2, .f), (1, .p 0)], [(0, .cells (mm W xs ys ++ [.i s, .i b, .i l, .i p, .i q]) 54)], 1⟩ [True] ⟨trivial, trivial⟩ ?_
  refine pc (retire W xs ys s b l p q (by omega) (by omega) (by omega) ‹_› ‹_› (by omega) (by omega) (by omega)) ?_
  obtain ⟨h1, h2, h3, h4⟩ := rt_ok W xs ys s p q (by omega) (by omega) ‹_› ‹_› (by omega) (by omega)
  have h5 : p < q ∨ ((rtx xs s p q) = xs ∧ (rty ys s p q) = ys) := rt_same xs ys s p q
  refine rk [] 2 2 ⟨[(5, .p 1), (3, .t), (2, .f), (1, .p 0)], [(1, .cells (mm W (rtx xs s p q) (rty ys s p q) ++ [.i s, .i b, .i l, .i 0, .i 0]) 54), (0, .cells (mm W xs ys ++ [.i s, .i b, .i l, .i p, .i q]) 54)], 2⟩ [True] ⟨trivial, trivial⟩ ?_
  refine en ?_
  refine an ?_
  refine xw_seq ?_
  refine reg ?_
  refine rk [] 1 0 ⟨[(16, .agg (mm W (rtx xs s p q) (rty ys s p q) ++ [.i s, .i b, .i l, .i 0, .i 0])), (5, .p 1), (3, .t), (2, .f), (1, .p 0)], [(1, .cells (mm W (rtx xs s p q) (rty ys s p q) ++ [.i s, .i b, .i l, .i 0, .i 0]) 54), (0, .cells (mm W xs ys ++ [.i s, .i b, .i l, .i p, .i q]) 54)], 2⟩ [True] ⟨trivial, trivial⟩ ?_
  refine pc (retire W (rtx xs s p q) (rty ys s p q) s b l 0 0 (by omega) ‹_› ‹_› ‹_› ‹_› (by omega) (by omega) (by omega)) ?_
  obtain ⟨h6, h7, h8, h9⟩ := rt_ok W (rtx xs s p q) (rty ys s p q) s 0 0 ‹_› ‹_› ‹_› ‹_› (by omega) (by omega)
  have h10 : (rtx (rtx xs s p q) s 0 0) = (rtx xs s p q) := rtx_00 _ _
  have h11 : (rty (rty ys s p q) s 0 0) = (rty ys s p q) := rty_00 _ _
  refine rk [] 2 2 ⟨[(6, .p 2), (5, .p 1), (3, .t), (2, .f), (1, .p 0)], [(2, .cells (mm W (rtx (rtx xs s p q) s 0 0) (rty (rty ys s p q) s 0 0) ++ [.i s, .i b, .i l, .i 0, .i 0]) 54), (1, .cells (mm W (rtx xs s p q) (rty ys s p q) ++ [.i s, .i b, .i l, .i 0, .i 0]) 54), (0, .cells (mm W xs ys ++ [.i s, .i b, .i l, .i p, .i q]) 54)], 3⟩ [True] ⟨trivial, trivial⟩ ?_
  refine en ?_
  refine an ?_
  refine rg [] 3 ⟨[(7, .p 3), (6, .p 2), (5, .p 1), (3, .t), (2, .f), (1, .p 0)], [(3, .cells (mm W xs ys ++ [.i s, .i b, .i l, .i p, .i q]) 54), (2, .cells (mm W (rtx (rtx xs s p q) s 0 0) (rty (rty ys s p q) s 0 0) ++ [.i s, .i b, .i l, .i 0, .i 0]) 54), (1, .cells (mm W (rtx xs s p q) (rty ys s p q) ++ [.i s, .i b, .i l, .i 0, .i 0]) 54), (0, .cells (mm W xs ys ++ [.i s, .i b, .i l, .i p, .i q]) 54)], 4⟩ [True, True] ⟨trivial, trivial, trivial⟩ ?_
  refine rg [] 3 ⟨[(7, .p 3), (6, .p 2), (5, .p 1), (3, .t), (2, .f), (1, .p 0)], [(3, .cells (mm W xs ys ++ [.i s, .i b, .i l, .i 0, .i 0]) 54), (2, .cells (mm W (rtx (rtx xs s p q) s 0 0) (rty (rty ys s p q) s 0 0) ++ [.i s, .i b, .i l, .i 0, .i 0]) 54), (1, .cells (mm W (rtx xs s p q) (rty ys s p q) ++ [.i s, .i b, .i l, .i 0, .i 0]) 54), (0, .cells (mm W xs ys ++ [.i s, .i b, .i l, .i p, .i q]) 54)], 4⟩ [True] ⟨trivial, trivial⟩ ?_
  refine xw_seq ?_
  refine reg ?_
  refine rk [(5, .t), (12, .t)] 17 0 ⟨[(37, .agg (mm W (rtx (rtx xs s p q) s 0 0) (rty (rty ys s p q) s 0 0) ++ [.i s, .i b, .i l, .i 0, .i 0])), (36, .agg (mm W (rtx xs s p q) (rty ys s p q) ++ [.i s, .i b, .i l, .i 0, .i 0])), (35, .t), (7, .p 3), (5, .p 1), (2, .f), (1, .p 0)], [(3, .cells (mm W xs ys ++ [.i s, .i b, .i l, .i 0, .i 0]) 54), (1, .cells (mm W (rtx xs s p q) (rty ys s p q) ++ [.i s, .i b, .i l, .i 0, .i 0]) 54), (0, .cells (mm W xs ys ++ [.i s, .i b, .i l, .i p, .i q]) 54)], 4⟩ [True, ((0 == 0) && ((0 == 0) && true)) = true, True, True, True, ((s == s) && ((b == b) && ((l == l) && true))) = true, True, True, True] ⟨trivial, (by simp <;> omega), trivial, trivial, trivial, (by simp <;> omega), trivial, trivial, trivial, trivial⟩ ?_
  refine pc (rrsame_1 W (rtx xs s p q) (rty ys s p q) s b l 0 0 W (rtx (rtx xs s p q) s 0 0) (rty (rty ys s p q) s 0 0) s b l 0 0 ‹_› ‹_› ‹_› ‹_› (by omega) (by omega) (by omega) (by omega) ‹_› ‹_› ‹_› ‹_› ‹_› ‹_› ‹_› ‹_› (by omega) (by omega) (by omega) (by omega) ⟨(by first | omega | (simp_all; done) | grind), (by first | omega | (simp_all; done) | grind), rfl, rfl, rfl, rfl, rfl, rfl⟩) ?_
  refine rk [] 3 18 ⟨[(41, .agg (mm W xs ys ++ [.i s, .i b, .i l, .i p, .i q])), (40, .t), (7, .p 3), (5, .p 1), (2, .f)], [(3, .cells (mm W xs ys ++ [.i s, .i b, .i l, .i 0, .i 0]) 54), (1, .cells (mm W (rtx xs s p q) (rty ys s p q) ++ [.i s, .i b, .i l, .i 0, .i 0]) 54)], 4⟩ [True, True] ⟨trivial, trivial, trivial⟩ ?_
  refine pc (gap W xs ys s b l p q (by omega)) ?_
  refine rk [(22, .bool (decide (0 < (q - p))))] 2 22 ⟨[(44, .bool (decide (0 < (q - p)))), (40, .t), (7, .p 3), (5, .p 1), (2, .f)], [(3, .cells (mm W xs ys ++ [.i s, .i b, .i l, .i 0, .i 0]) 54), (1, .cells (mm W (rtx xs s p q) (rty ys s p q) ++ [.i s, .i b, .i l, .i 0, .i 0]) 54)], 4⟩ [(decide (0 < (q - p))) = (decide (0 < (q - p)))] ⟨rfl, trivial⟩ ?_
  refine splitr 44 (x := (decide (0 < (q - p)))) (by kernel_rfl) (fun h12 => ?_) (fun h12 => ?_)
  ·
   replace h12 : 0 < (q - p) := of_decide_eq_true h12
   refine rk [] 7 24 ⟨[(51, .agg (mm W (rtx xs s p q) (rty ys s p q) ++ [.i s, .i b, .i l, .i 0, .i 0])), (50, .t), (5, .p 1), (2, .f)], [(1, .cells (mm W (rtx xs s p q) (rty ys s p q) ++ [.i s, .i b, .i l, .i 0, .i 0]) 54)], 4⟩ [True, True, True] ⟨trivial, trivial, trivial, trivial⟩ ?_
   refine pc (gap W (rtx xs s p q) (rty ys s p q) s b l 0 0 (by omega)) ?_
   refine rk [(32, .t)] 4 32 ⟨[(56, .agg (mm W (rtx xs s p q) (rty ys s p q) ++ [.i s, .i b, .i l, .i 0, .i 0])), (55, .t), (2, .f)], [], 4⟩ [((0 - 0) == 0) = true, True, True] ⟨beq_iff_eq.2 (by omega), trivial, trivial, trivial⟩ ?_
   refine pc (rbfright_1 W (rtx xs s p q) (rty ys s p q) s b l 0 0 ‹_› ‹_› ‹_› ‹_› (by omega) (by omega) (by omega)) ?_
   refine rk [] 2 37 ⟨[(2, .t)], [], 4⟩ [True] ⟨trivial, trivial⟩ ?_
   refine en ?_
   refine an ?_
   refine xw_ret ?_
   exact bs (.t) rfl
  ·
   replace h12 : ¬ (0 < (q - p)) := of_decide_eq_false h12
   refine rk [] 2 24 ⟨[(46, .agg (mm W xs ys ++ [.i s, .i b, .i l, .i 0, .i 0])), (45, .agg (mm W (rtx xs s p q) (rty ys s p q) ++ [.i s, .i b, .i l, .i 0, .i 0])), (44, .f), (40, .t), (5, .p 1), (2, .f)], [(1, .cells (mm W (rtx xs s p q) (rty ys s p q) ++ [.i s, .i b, .i l, .i 0, .i 0]) 54)], 4⟩ [True, True] ⟨trivial, trivial, trivial⟩ ?_
   refine pc (rrsame_1 W (rtx xs s p q) (rty ys s p q) s b l 0 0 W xs ys s b l 0 0 ‹_› ‹_› ‹_› ‹_› (by omega) (by omega) (by omega) (by omega) ‹_› ‹_› ‹_› ‹_› ‹_› ‹_› ‹_› ‹_› (by omega) (by omega) (by omega) (by omega) ⟨(by first | omega | (simp_all; done) | grind), (by first | omega | (simp_all; done) | grind), rfl, rfl, rfl, rfl, rfl, rfl⟩) ?_
   refine rk [] 4 27 ⟨[(51, .agg (mm W (rtx xs s p q) (rty ys s p q) ++ [.i s, .i b, .i l, .i 0, .i 0])), (50, .t), (5, .p 1), (2, .f)], [(1, .cells (mm W (rtx xs s p q) (rty ys s p q) ++ [.i s, .i b, .i l, .i 0, .i 0]) 54)], 4⟩ [True, True, True] ⟨trivial, trivial, trivial, trivial⟩ ?_
   refine pc (gap W (rtx xs s p q) (rty ys s p q) s b l 0 0 (by omega)) ?_
   refine rk [(32, .t)] 4 32 ⟨[(56, .agg (mm W (rtx xs s p q) (rty ys s p q) ++ [.i s, .i b, .i l, .i 0, .i 0])), (55, .t), (2, .f)], [], 4⟩ [((0 - 0) == 0) = true, True, True] ⟨beq_iff_eq.2 (by omega), trivial, trivial, trivial⟩ ?_
   refine pc (rbfright_1 W (rtx xs s p q) (rty ys s p q) s b l 0 0 ‹_› ‹_› ‹_› ‹_› (by omega) (by omega) (by omega)) ?_
   refine rk [] 2 37 ⟨[(2, .t)], [], 4⟩ [True] ⟨trivial, trivial⟩ ?_
   refine en ?_
   refine an ?_
   refine xw_ret ?_
   exact bs (.t) rfl
 ·
  refine pc (few8_2 W xs ys s b l p q ‹_› ‹_› ‹_› ‹_› ‹_› ‹_› ‹_›) ?_
  refine rk [] 1 2 ⟨[(4, .f), (3, .t), (2, .f), (1, .p 0)], [(0, .cells (mm W xs ys ++ [.i s, .i b, .i l, .i p, .i q]) 54)], 1⟩ [] trivial ?_
  refine en ?_
  refine an ?_
  refine xw_seq ?_
  refine rg [] 2 ⟨[(12, .t), (3, .t), (2, .f), (1, .p 0)], [(0, .cells (mm W xs ys ++ [.i s, .i b, .i l, .i p, .i q]) 54)], 1⟩ [] trivial ?_
  refine ct ?_
  refine rg [] 2 ⟨[(2, .t), (3, .t), (1, .p 0)], [(0, .cells (mm W xs ys ++ [.i s, .i b, .i l, .i p, .i q]) 54)], 1⟩ [] trivial ?_
  refine xw_ret ?_
  refine an_ret ?_
  exact bs (.t) rfl

end Go.Proofs.Ytcjcljbhjkedgaa.X
