/- Contracts of Go functions: what each returns, for every input that its premises name; no memory of the caller is touched. Printed by a program. -/
import Derived.Test.YtcjcljbhjkedgaaXf3
namespace Go.Proofs.Ytcjcljbhjkedgaa.X
open Go Go.RowKit
set_option linter.unusedVariables false      -- a premise may serve only to tell which way is taken
set_option linter.unusedSimpArgs false
theorem twinRight (W : Int) (xs : List Int) (ys : List Int) (s : Int) (b : Int) (l : Int) (p : Int) (q : Int) (zs : List Int) (hp0 : -9223372036854775808 ≤ W ∧ W ≤ 9223372036854775807) (hp1 : U64s xs) (hp2 : U64s ys) (hp3 : -9223372036854775808 ≤ s ∧ s ≤ 9223372036854775807) (hp4 : -9223372036854775808 ≤ b ∧ b ≤ 9223372036854775807) (hp5 : -9223372036854775808 ≤ l ∧ l ≤ 9223372036854775807) (hp6 : -9223372036854775808 ≤ p ∧ p ≤ 9223372036854775807) (hp7 : -9223372036854775808 ≤ q ∧ q ≤ 9223372036854775807) (hp8 : U64s zs) : Pub Try.prog 10 [.agg (mm W xs ys ++ [.int .i64 s, .int .i64 b, .int .i64 l, .int .i64 p, .int .i64 q]), .sl false 1 (m64 zs)] (fun rv => rv = .bool true) := by
 refine pub_of TT_ok Try.func10 rfl (by decide) (Nat.le_of_ble_eq_true (by kernel_rfl)) (by kernel_rfl) ?_
 refine rg [] 2 ⟨[(4, .f), (2, .p 0), (1, .sl false 1 (m64 zs))], [(0, .cells (mm W xs ys ++ [.i s, .i b, .i l, .i p, .i q]) 54)], 1⟩ [] trivial ?_
 refine xw_seq ?_
 refine reg ?_
 refine pc (shown11 ) ?_
 refine rk [] 1 1 ⟨[(5, .t), (4, .f), (2, .p 0), (1, .sl false 1 (m64 zs))], [(0, .cells (mm W xs ys ++ [.i s, .i b, .i l, .i p, .i q]) 54)], 1⟩ [] trivial ?_
 refine en ?_
 refine an ?_
 refine xw_seq ?_
 refine reg ?_
 refine rk [] 1 0 ⟨[(12, .agg (mm W xs ys ++ [.i s, .i b, .i l, .i p, .i q])), (5, .t), (4, .f), (2, .p 0), (1, .sl false 1 (m64 zs))], [(0, .cells (mm W xs ys ++ [.i s, .i b, .i l, .i p, .i q]) 54)], 1⟩ [True] ⟨trivial, trivial⟩ ?_
 by_cases h0 : 16 ≤ W ∧ W ≤ 4096 ∧ (xs.length : Int) = W ∧ (ys.length : Int) = W ∧ (s = 0 ∨ s = 1) ∧ 0 ≤ b ∧ b ≤ l ∧ l ≤ 4096 ∧ l = W ∧ ((p = 0 ∧ q = 0) ∨ (0 ≤ p ∧ p ≤ q ∧ q ≤ b)) ∧ W ≤ 200
 ·
  refine pc (few11_1 W xs ys s b l p q ‹_› ‹_› ‹_› ‹_› ‹_› ‹_› ‹_›) ?_
  refine rk [] 1 2 ⟨[(6, .t), (5, .t), (4, .f), (2, .p 0), (1, .sl false 1 (m64 zs))], [(0, .cells (mm W xs ys ++ [.i s, .i b, .i l, .i p, .i q]) 54)], 1⟩ [] trivial ?_
  refine en ?_
  refine an ?_
  refine xw_seq ?_
  refine rg [(4, .i ((zs).length : Int)), (5, .bool (decide (40 < ((zs).length : Int))))] 7 ⟨[(20, .bool (decide (40 < ((zs).length : Int)))), (5, .t), (4, .f), (2, .p 0), (1, .sl false 1 (m64 zs))], [(0, .cells (mm W xs ys ++ [.i s, .i b, .i l, .i p, .i q]) 54)], 1⟩ [((((m64 zs)).length : Nat) : Int) = ((zs).length : Int), (decide (40 < ((zs).length : Int))) = (decide (40 < ((zs).length : Int))), True] ⟨(by simp), rfl, trivial, trivial⟩ ?_
  refine xw_cond (b := (decide (40 < ((zs).length : Int)))) (by kernel_rfl) (fun h1 => ?_) (fun h1 => ?_)
  ·
   replace h1 : 40 < (zs.length : Int) := of_decide_eq_true h1
   refine rg [] 2 ⟨[(4, .t), (5, .t), (2, .p 0), (1, .sl false 1 (m64 zs))], [(0, .cells (mm W xs ys ++ [.i s, .i b, .i l, .i p, .i q]) 54)], 1⟩ [] trivial ?_
   refine xw_ret ?_
   refine an_ret ?_
   exact bs (.t) rfl
  ·
   replace h1 : ¬ (40 < (zs.length : Int)) := of_decide_eq_false h1
   refine xw_skip ?_
   refine an ?_
   refine xw_seq ?_
   refine reg ?_
   refine rk [] 2 0 ⟨[(24, .sl false 1 (m64 zs)), (23, .agg (mm W xs ys ++ [.i s, .i b, .i l, .i p, .i q])), (5, .t), (4, .f), (2, .p 0)], [(0, .cells (mm W xs ys ++ [.i s, .i b, .i l, .i p, .i q]) 54)], 1⟩ [True] ⟨trivial, trivial⟩ ?_
   refine pcall (args := [.agg (mm W xs ys ++ [.i s, .i b, .i l, .i p, .i q]), .sl false 1 (m64 zs)]) (args' := [.agg (mm W xs ys ++ [.i s, .i b, .i l, .i p, .i q]), .sl false 1 (m64 zs)]) (d := (some 25)) (by kernel_rfl) (each1L W xs ys s b l p q zs (by omega) (by omega) (by omega) ‹_› ‹_› (by omega) (by omega) (by omega) ‹_› (by omega)) [(W : Int) = W, (false = true → false = true), ((m64 xs) : List SV) = (m64 xs), (false = true → false = true), ((m64 ys) : List SV) = (m64 ys), (s : Int) = s, (b : Int) = b, (l : Int) = l, (p : Int) = p, (q : Int) = q, (false = true → false = true), ((m64 zs) : List SV) = (m64 zs)] (by kernel_rfl) ⟨rfl, id, rfl, id, rfl, rfl, rfl, rfl, rfl, rfl, id, rfl, trivial⟩ (by kernel_rfl) ?_
   rintro _ (⟨X12, Y13, B14, T15, h6, h7, h8, h9, h10, h11, h12, h13, rfl⟩ | ⟨X12, Y13, B14, E15, h6, h7, h8, h9, h10, h11, h12, rfl⟩)
   ·
    refine rk [] 8 3 ⟨[(7, .p 1), (5, .t), (4, .f), (2, .p 0)], [(1, .cells (mm W X12 Y13 ++ [.i s, .i B14, .i l, .i p, .i q]) 54), (0, .cells (mm W xs ys ++ [.i s, .i b, .i l, .i p, .i q]) 54)], 2⟩ [True] ⟨trivial, trivial⟩ ?_
    refine en ?_
    refine an ?_
    refine xw_seq ?_
    refine reg ?_
    refine rk [] 1 0 ⟨[(29, .agg (mm W X12 Y13 ++ [.i s, .i B14, .i l, .i p, .i q])), (7, .p 1), (5, .t), (4, .f), (2, .p 0)], [(1, .cells (mm W X12 Y13 ++ [.i s, .i B14, .i l, .i p, .i q]) 54), (0, .cells (mm W xs ys ++ [.i s, .i b, .i l, .i p, .i q]) 54)], 2⟩ [True] ⟨trivial, trivial⟩ ?_
    refine pc (rbfright_1 W X12 Y13 s B14 l p q ‹_› ‹_› (by omega) ‹_› ‹_› ‹_› (by omega)) ?_
    refine rk [] 1 2 ⟨[(10, .t), (7, .p 1), (5, .t), (4, .f), (2, .p 0)], [(1, .cells (mm W X12 Y13 ++ [.i s, .i B14, .i l, .i p, .i q]) 54), (0, .cells (mm W xs ys ++ [.i s, .i b, .i l, .i p, .i q]) 54)], 2⟩ [] trivial ?_
    refine en ?_
    refine an ?_
    refine rg [(11, .t), (20, .t), (27, .t)] 30 ⟨[(4, .t)], [], 2⟩ [True, True, True, (decide (b ≤ B14)) = true, True, True, True, (l == l) = true, True, True, True, ((p == p) && ((q == q) && true)) = true, True] ⟨trivial, trivial, trivial, decide_eq_true (by omega), trivial, trivial, trivial, beq_iff_eq.2 (by omega), trivial, trivial, trivial, (by simp <;> omega), trivial, trivial⟩ ?_
    refine xw_ret ?_
    exact bs (.t) rfl
   ·
    refine rk [] 8 3 ⟨[(7, .p 1), (5, .t), (4, .f), (2, .p 0)], [(1, .cells (mm W X12 Y13 ++ [.i s, .i B14, .i l, .i p, .i q]) 54), (0, .cells (mm W xs ys ++ [.i s, .i b, .i l, .i p, .i q]) 54)], 2⟩ [True] ⟨trivial, trivial⟩ ?_
    refine en ?_
    refine an ?_
    refine xw_seq ?_
    refine reg ?_
    refine rk [] 1 0 ⟨[(29, .agg (mm W X12 Y13 ++ [.i s, .i B14, .i l, .i p, .i q])), (7, .p 1), (5, .t), (4, .f), (2, .p 0)], [(1, .cells (mm W X12 Y13 ++ [.i s, .i B14, .i l, .i p, .i q]) 54), (0, .cells (mm W xs ys ++ [.i s, .i b, .i l, .i p, .i q]) 54)], 2⟩ [True] ⟨trivial, trivial⟩ ?_
    refine pc (rbfright_1 W X12 Y13 s B14 l p q ‹_› ‹_› (by omega) ‹_› ‹_› ‹_› (by omega)) ?_
    refine rk [] 1 2 ⟨[(10, .t), (7, .p 1), (5, .t), (4, .f), (2, .p 0)], [(1, .cells (mm W X12 Y13 ++ [.i s, .i B14, .i l, .i p, .i q]) 54), (0, .cells (mm W xs ys ++ [.i s, .i b, .i l, .i p, .i q]) 54)], 2⟩ [] trivial ?_
    refine en ?_
    refine an ?_
    refine rg [(11, .t), (20, .t), (27, .t)] 30 ⟨[(4, .t)], [], 2⟩ [True, True, True, (decide (b ≤ B14)) = true, True, True, True, (l == l) = true, True, True, True, ((p == p) && ((q == q) && true)) = true, True] ⟨trivial, trivial, trivial, decide_eq_true (by omega), trivial, trivial, trivial, beq_iff_eq.2 (by omega), trivial, trivial, trivial, (by simp <;> omega), trivial, trivial⟩ ?_
    refine xw_ret ?_
    exact bs (.t) rfl
 ·
  refine pc (few11_2 W xs ys s b l p q ‹_› ‹_› ‹_› ‹_› ‹_› ‹_› ‹_›) ?_
  refine rk [] 1 2 ⟨[(6, .f), (5, .t), (4, .f), (2, .p 0), (1, .sl false 1 (m64 zs))], [(0, .cells (mm W xs ys ++ [.i s, .i b, .i l, .i p, .i q]) 54)], 1⟩ [] trivial ?_
  refine en ?_
  refine an ?_
  refine xw_seq ?_
  refine rg [] 7 ⟨[(20, .t), (5, .t), (4, .f), (2, .p 0), (1, .sl false 1 (m64 zs))], [(0, .cells (mm W xs ys ++ [.i s, .i b, .i l, .i p, .i q]) 54)], 1⟩ [True] ⟨trivial, trivial⟩ ?_
  refine ct ?_
  refine rg [] 2 ⟨[(4, .t), (5, .t), (2, .p 0), (1, .sl false 1 (m64 zs))], [(0, .cells (mm W xs ys ++ [.i s, .i b, .i l, .i p, .i q]) 54)], 1⟩ [] trivial ?_
  refine xw_ret ?_
  refine an_ret ?_
  exact bs (.t) rfl

end Go.Proofs.Ytcjcljbhjkedgaa.X
