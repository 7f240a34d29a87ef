/- Contracts of Go functions: what each returns, for every input that its premises name; no memory of the caller is touched. Printed by a program. -/
import Derived.Test.YtcjcljbhjkedgaaXc5
import Derived.Test.YtcjcljbhjkedgaaXq3
namespace Go.Proofs.Ytcjcljbhjkedgaa.X
open Go Go.RowKit
set_option linter.unusedVariables false      -- a premise may serve only to tell which way is taken
set_option linter.unusedSimpArgs false
set_option maxHeartbeats 8000000 in
theorem objectFields (W : Int) (xs : List Int) (ys : List Int) (a : Int) (i : Int) (v : Int) (k : Int) (hp0 : -9223372036854775808 ≤ W ∧ W ≤ 9223372036854775807) (hp1 : U64s xs) (hp2 : U64s ys) (hp3 : 0 ≤ a ∧ a ≤ 18446744073709551615) (hp4 : -9223372036854775808 ≤ i ∧ i ≤ 9223372036854775807) (hp5 : 0 ≤ v ∧ v ≤ 18446744073709551615) (hp6 : -9223372036854775808 ≤ k ∧ k ≤ 9223372036854775807) : Pub Try.prog 3 [.agg (mm W xs ys ++ [.int .u64 a, .int .i64 i, .int .u64 v, .int .i64 k])] (fun rv => rv = .bool true) := by
 refine pub_of TT_ok Try.func3 rfl (by decide) (Nat.le_of_ble_eq_true (by kernel_rfl)) (by kernel_rfl) ?_
 refine rg [] 2 ⟨[(2, .f), (1, .p 0)], [(0, .cells (mm W xs ys ++ [.u a, .i i, .u v, .i k]) 28)], 1⟩ [] trivial ?_
 refine rg [] 4 ⟨[(3, .p 1), (2, .f), (1, .p 0)], [(1, .cells (mm W xs ys) 25), (0, .cells (mm W xs ys ++ [.u a, .i i, .u v, .i k]) 28)], 2⟩ [True, True] ⟨trivial, trivial, trivial⟩ ?_
 refine rg [] 3 ⟨[(4, .u a), (3, .p 1), (2, .f), (1, .p 0)], [(1, .cells (mm W xs ys) 25), (0, .cells (mm W xs ys ++ [.u a, .i i, .u v, .i k]) 28)], 2⟩ [True] ⟨trivial, trivial⟩ ?_
 refine rg [] 3 ⟨[(5, .i i), (4, .u a), (3, .p 1), (2, .f), (1, .p 0)], [(1, .cells (mm W xs ys) 25), (0, .cells (mm W xs ys ++ [.u a, .i i, .u v, .i k]) 28)], 2⟩ [True] ⟨trivial, trivial⟩ ?_
 refine rg [] 3 ⟨[(6, .u v), (5, .i i), (4, .u a), (3, .p 1), (2, .f), (1, .p 0)], [(1, .cells (mm W xs ys) 25), (0, .cells (mm W xs ys ++ [.u a, .i i, .u v, .i k]) 28)], 2⟩ [True] ⟨trivial, trivial⟩ ?_
 refine rg [] 3 ⟨[(7, .i k), (6, .u v), (5, .i i), (4, .u a), (3, .p 1), (2, .f)], [(1, .cells (mm W xs ys) 25)], 2⟩ [True] ⟨trivial, trivial⟩ ?_
 refine xw_seq ?_
 refine reg ?_
 refine pc (shown5 ) ?_
 refine rk [] 1 1 ⟨[(8, .t), (7, .i k), (6, .u v), (5, .i i), (4, .u a), (3, .p 1), (2, .f)], [(1, .cells (mm W xs ys) 25)], 2⟩ [] trivial ?_
 refine en ?_
 refine an ?_
 refine xw_seq ?_
 refine reg ?_
 refine rk [] 1 0 ⟨[(40, .agg (mm W xs ys)), (8, .t), (7, .i k), (6, .u v), (5, .i i), (4, .u a), (3, .p 1), (2, .f)], [(1, .cells (mm W xs ys) 25)], 2⟩ [True] ⟨trivial, trivial⟩ ?_
 by_cases h0 : 16 ≤ W ∧ W ≤ 200 ∧ (xs.length : Int) = W ∧ (ys.length : Int) = W
 ·
  refine pc (few5_1 W xs ys ‹_› ‹_›) ?_
  refine rk [] 1 2 ⟨[(9, .t), (8, .t), (7, .i k), (6, .u v), (5, .i i), (4, .u a), (3, .p 1), (2, .f)], [(1, .cells (mm W xs ys) 25)], 2⟩ [] trivial ?_
  refine en ?_
  refine an ?_
  refine xw_seq ?_
  refine rg [] 2 ⟨[(43, .f), (8, .t), (7, .i k), (6, .u v), (5, .i i), (4, .u a), (3, .p 1), (2, .f)], [(1, .cells (mm W xs ys) 25)], 2⟩ [] trivial ?_
  refine cf ?_
  refine xw_skip ?_
  refine an ?_
  refine xw_seq ?_
  refine reg ?_
  refine rk [] 4 0 ⟨[(49, .u v), (48, .i i), (47, .u a), (46, .agg (mm W xs ys)), (8, .t), (7, .i k), (6, .u v), (5, .i i), (4, .u a), (3, .p 1), (2, .f)], [(1, .cells (mm W xs ys) 25)], 2⟩ [True] ⟨trivial, trivial⟩ ?_
  by_cases h1 : ((oErr W xs ys a) = 0) ∧ ((ldw xs ys a / 72057594037927936) ≠ 255) ∧ (0 ≤ i ∧ i < ((ldw xs ys a / 4294967296) % 16777216))
  ·
   refine pc (oset_1 W xs ys a i v (by omega) (by omega) (by omega) ‹_› ‹_› ‹_› ‹_› ‹_› (by omega) (by omega) (by omega)) ?_
   obtain ⟨h2, h3, h4⟩ := oErr_ok W xs ys a (by omega)
   obtain ⟨h5, h6, h7, h8⟩ := stx_ok W xs ys (a + 2 + i) v (by omega) (by omega) ‹_› ‹_› (by omega)
   have h9 : (ldw (stx xs (a + 2 + i) v) (sty ys (a + 2 + i) v) a) = (ldw xs ys a) := ldw_other v (by omega) (by omega) (by omega)
   have h10 : (ldw (stx xs (a + 2 + i) v) (sty ys (a + 2 + i) v) (a + 1)) = (ldw xs ys (a + 1)) := ldw_other v (by omega) (by omega) (by omega)
   have h11 : (ldw (stx xs (a + 2 + i) v) (sty ys (a + 2 + i) v) (a + 2 + i)) = v := ldw_same v (by omega) (by omega) (by omega) rfl
   have h12 : (oErr W (stx xs (a + 2 + i) v) (sty ys (a + 2 + i) v) a) = (oErr W xs ys a) := oErr_cong (by omega)
   have h13 : k = i ∨ ¬ (0 ≤ k ∧ k < ((ldw xs ys a / 4294967296) % 16777216)) ∨ (ldw (stx xs (a + 2 + i) v) (sty ys (a + 2 + i) v) (a + 2 + k)) = (ldw xs ys (a + 2 + k)) := set_other (W := 4096) (by omega) (by omega) (by omega) (by omega)
   refine rk [] 6 5 ⟨[(11, .i 0), (10, .p 2), (8, .t), (7, .i k), (6, .u v), (5, .i i), (4, .u a), (3, .p 1), (2, .f)], [(2, .cells (mm W (stx xs (a + 2 + i) v) (sty ys (a + 2 + i) v)) 25), (1, .cells (mm W xs ys) 25)], 3⟩ [True] ⟨trivial, trivial⟩ ?_
   refine en ?_
   refine an ?_
   refine xw_seq ?_
   refine rg [(1, .f)] 2 ⟨[(54, .f), (10, .p 2), (8, .t), (7, .i k), (6, .u v), (5, .i i), (4, .u a), (3, .p 1), (2, .f)], [(2, .cells (mm W (stx xs (a + 2 + i) v) (sty ys (a + 2 + i) v)) 25), (1, .cells (mm W xs ys) 25)], 3⟩ [(0 != 0) = false] ⟨bne_eq_false_iff_eq.2 (by omega), trivial⟩ ?_
   refine cf ?_
   refine xw_skip ?_
   refine an ?_
   refine xw_seq ?_
   refine reg ?_
   refine rk [] 2 0 ⟨[(58, .u a), (57, .agg (mm W xs ys)), (10, .p 2), (8, .t), (7, .i k), (6, .u v), (5, .i i), (4, .u a), (3, .p 1), (2, .f)], [(2, .cells (mm W (stx xs (a + 2 + i) v) (sty ys (a + 2 + i) v)) 25), (1, .cells (mm W xs ys) 25)], 3⟩ [True] ⟨trivial, trivial⟩ ?_
   refine pc (oat_1 W xs ys a (by omega) (by omega) (by omega) ‹_› ‹_› ‹_› (by omega)) ?_
   obtain ⟨h14, h15, h16⟩ := oErr_ok W xs ys a (by omega)
   refine rk [] 6 3 ⟨[(13, .i 0), (12, .p 3), (10, .p 2), (8, .t), (7, .i k), (6, .u v), (5, .i i), (4, .u a), (3, .p 1), (2, .f)], [(3, .cells [.i (hT xs ys a), .i (hL xs ys a), .u (hM xs ys a)] 35), (2, .cells (mm W (stx xs (a + 2 + i) v) (sty ys (a + 2 + i) v)) 25), (1, .cells (mm W xs ys) 25)], 4⟩ [True] ⟨trivial, trivial⟩ ?_
   refine en ?_
   refine an ?_
   refine xw_seq ?_
   refine reg ?_
   refine rk [] 2 0 ⟨[(64, .u a), (63, .agg (mm W (stx xs (a + 2 + i) v) (sty ys (a + 2 + i) v))), (13, .i 0), (12, .p 3), (10, .p 2), (8, .t), (7, .i k), (6, .u v), (5, .i i), (4, .u a), (3, .p 1), (2, .f)], [(3, .cells [.i (hT xs ys a), .i (hL xs ys a), .u (hM xs ys a)] 35), (2, .cells (mm W (stx xs (a + 2 + i) v) (sty ys (a + 2 + i) v)) 25), (1, .cells (mm W xs ys) 25)], 4⟩ [True] ⟨trivial, trivial⟩ ?_
   refine pc (oat_1 W (stx xs (a + 2 + i) v) (sty ys (a + 2 + i) v) a (by omega) ‹_› ‹_› ‹_› ‹_› ‹_› (by omega)) ?_
   obtain ⟨h17, h18, h19⟩ := oErr_ok W (stx xs (a + 2 + i) v) (sty ys (a + 2 + i) v) a (by omega)
   refine rk [] 6 3 ⟨[(15, .i 0), (14, .p 4), (13, .i 0), (12, .p 3), (10, .p 2), (8, .t), (7, .i k), (6, .u v), (5, .i i), (4, .u a), (3, .p 1), (2, .f)], [(4, .cells [.i (hT (stx xs (a + 2 + i) v) (sty ys (a + 2 + i) v) a), .i (hL (stx xs (a + 2 + i) v) (sty ys (a + 2 + i) v) a), .u (hM (stx xs (a + 2 + i) v) (sty ys (a + 2 + i) v) a)] 35), (3, .cells [.i (hT xs ys a), .i (hL xs ys a), .u (hM xs ys a)] 35), (2, .cells (mm W (stx xs (a + 2 + i) v) (sty ys (a + 2 + i) v)) 25), (1, .cells (mm W xs ys) 25)], 5⟩ [True] ⟨trivial, trivial⟩ ?_
   refine en ?_
   refine an ?_
   refine xw_seq ?_
   refine reg ?_
   refine rk [] 2 0 ⟨[(70, .u a), (69, .agg (mm W xs ys)), (15, .i 0), (14, .p 4), (13, .i 0), (12, .p 3), (10, .p 2), (8, .t), (7, .i k), (6, .u v), (5, .i i), (4, .u a), (3, .p 1), (2, .f)], [(4, .cells [.i (hT (stx xs (a + 2 + i) v) (sty ys (a + 2 + i) v) a), .i (hL (stx xs (a + 2 + i) v) (sty ys (a + 2 + i) v) a), .u (hM (stx xs (a + 2 + i) v) (sty ys (a + 2 + i) v) a)] 35), (3, .cells [.i (hT xs ys a), .i (hL xs ys a), .u (hM xs ys a)] 35), (2, .cells (mm W (stx xs (a + 2 + i) v) (sty ys (a + 2 + i) v)) 25), (1, .cells (mm W xs ys) 25)], 5⟩ [True] ⟨trivial, trivial⟩ ?_
   refine pc (otwin_1 W xs ys a (by omega) (by omega) (by omega) ‹_› ‹_› ‹_› (by omega) (by omega)) ?_
   obtain ⟨h20, h21, h22⟩ := oErr_ok W xs ys a (by omega)
   have h23 : 0 ≤ (ldw xs ys (a + 1)) ∧ (ldw xs ys (a + 1)) ≤ 18446744073709551615 := ldw_ok xs ys (a + 1) ‹_› ‹_›
   have h24 : 1 ≤ (a + 1) / 4294967296 ∧ (a + 1) / 4294967296 ≤ 2 ∧ (a + 1) % 4294967296 < W := by omega
   refine rk [] 5 3 ⟨[(16, .u (ldw xs ys (a + 1))), (15, .i 0), (14, .p 4), (13, .i 0), (12, .p 3), (10, .p 2), (8, .t), (7, .i k), (6, .u v), (5, .i i), (4, .u a), (3, .p 1), (2, .f)], [(4, .cells [.i (hT (stx xs (a + 2 + i) v) (sty ys (a + 2 + i) v) a), .i (hL (stx xs (a + 2 + i) v) (sty ys (a + 2 + i) v) a), .u (hM (stx xs (a + 2 + i) v) (sty ys (a + 2 + i) v) a)] 35), (3, .cells [.i (hT xs ys a), .i (hL xs ys a), .u (hM xs ys a)] 35), (2, .cells (mm W (stx xs (a + 2 + i) v) (sty ys (a + 2 + i) v)) 25), (1, .cells (mm W xs ys) 25)], 5⟩ [] trivial ?_
   refine en ?_
   refine an ?_
   refine xw_seq ?_
   refine reg ?_
   refine rk [] 2 0 ⟨[(76, .u a), (75, .agg (mm W (stx xs (a + 2 + i) v) (sty ys (a + 2 + i) v))), (16, .u (ldw xs ys (a + 1))), (15, .i 0), (14, .p 4), (13, .i 0), (12, .p 3), (10, .p 2), (8, .t), (7, .i k), (6, .u v), (5, .i i), (4, .u a), (3, .p 1), (2, .f)], [(4, .cells [.i (hT (stx xs (a + 2 + i) v) (sty ys (a + 2 + i) v) a), .i (hL (stx xs (a + 2 + i) v) (sty ys (a + 2 + i) v) a), .u (hM (stx xs (a + 2 + i) v) (sty ys (a + 2 + i) v) a)] 35), (3, .cells [.i (hT xs ys a), .i (hL xs ys a), .u (hM xs ys a)] 35), (2, .cells (mm W (stx xs (a + 2 + i) v) (sty ys (a + 2 + i) v)) 25), (1, .cells (mm W xs ys) 25)], 5⟩ [True] ⟨trivial, trivial⟩ ?_
   refine pc (otwin_1 W (stx xs (a + 2 + i) v) (sty ys (a + 2 + i) v) a (by omega) ‹_› ‹_› ‹_› ‹_› ‹_› (by omega) (by omega)) ?_
   obtain ⟨h25, h26, h27⟩ := oErr_ok W (stx xs (a + 2 + i) v) (sty ys (a + 2 + i) v) a (by omega)
   have h28 : 0 ≤ (ldw (stx xs (a + 2 + i) v) (sty ys (a + 2 + i) v) (a + 1)) ∧ (ldw (stx xs (a + 2 + i) v) (sty ys (a + 2 + i) v) (a + 1)) ≤ 18446744073709551615 := ldw_ok (stx xs (a + 2 + i) v) (sty ys (a + 2 + i) v) (a + 1) ‹_› ‹_›
   have h29 : 1 ≤ (a + 1) / 4294967296 ∧ (a + 1) / 4294967296 ≤ 2 ∧ (a + 1) % 4294967296 < W := by omega
   refine rk [] 5 3 ⟨[(18, .u (ldw (stx xs (a + 2 + i) v) (sty ys (a + 2 + i) v) (a + 1))), (16, .u (ldw xs ys (a + 1))), (15, .i 0), (14, .p 4), (13, .i 0), (12, .p 3), (10, .p 2), (8, .t), (7, .i k), (6, .u v), (5, .i i), (4, .u a), (3, .p 1), (2, .f)], [(4, .cells [.i (hT (stx xs (a + 2 + i) v) (sty ys (a + 2 + i) v) a), .i (hL (stx xs (a + 2 + i) v) (sty ys (a + 2 + i) v) a), .u (hM (stx xs (a + 2 + i) v) (sty ys (a + 2 + i) v) a)] 35), (3, .cells [.i (hT xs ys a), .i (hL xs ys a), .u (hM xs ys a)] 35), (2, .cells (mm W (stx xs (a + 2 + i) v) (sty ys (a + 2 + i) v)) 25), (1, .cells (mm W xs ys) 25)], 5⟩ [] trivial ?_
   refine en ?_
   refine an ?_
   refine xw_seq ?_
   refine reg ?_
   refine rk [] 3 0 ⟨[(83, .i k), (82, .u a), (81, .agg (mm W xs ys)), (18, .u (ldw (stx xs (a + 2 + i) v) (sty ys (a + 2 + i) v) (a + 1))), (16, .u (ldw xs ys (a + 1))), (15, .i 0), (14, .p 4), (13, .i 0), (12, .p 3), (10, .p 2), (8, .t), (7, .i k), (6, .u v), (5, .i i), (4, .u a), (2, .f)], [(4, .cells [.i (hT (stx xs (a + 2 + i) v) (sty ys (a + 2 + i) v) a), .i (hL (stx xs (a + 2 + i) v) (sty ys (a + 2 + i) v) a), .u (hM (stx xs (a + 2 + i) v) (sty ys (a + 2 + i) v) a)] 35), (3, .cells [.i (hT xs ys a), .i (hL xs ys a), .u (hM xs ys a)] 35), (2, .cells (mm W (stx xs (a + 2 + i) v) (sty ys (a + 2 + i) v)) 25)], 5⟩ [True] ⟨trivial, trivial⟩ ?_
   by_cases h30 : 0 ≤ k ∧ k < ((ldw xs ys a / 4294967296) % 16777216)
   ·
    refine pc (oget_1 W xs ys a k (by omega) (by omega) (by omega) ‹_› ‹_› ‹_› ‹_› (by omega) (by omega) ‹_›) ?_
    obtain ⟨h31, h32, h33⟩ := oErr_ok W xs ys a (by omega)
    have h34 : 0 ≤ (ldw xs ys (a + 2 + k)) ∧ (ldw xs ys (a + 2 + k)) ≤ 18446744073709551615 := ldw_ok xs ys (a + 2 + k) ‹_› ‹_›
    have h35 : 1 ≤ (a + 2 + k) / 4294967296 ∧ (a + 2 + k) / 4294967296 ≤ 2 ∧ (a + 2 + k) % 4294967296 < W := by omega
    refine rk [] 7 4 ⟨[(22, .i 0), (20, .u (ldw xs ys (a + 2 + k))), (18, .u (ldw (stx xs (a + 2 + i) v) (sty ys (a + 2 + i) v) (a + 1))), (16, .u (ldw xs ys (a + 1))), (15, .i 0), (14, .p 4), (13, .i 0), (12, .p 3), (10, .p 2), (8, .t), (7, .i k), (6, .u v), (5, .i i), (4, .u a), (2, .f)], [(4, .cells [.i (hT (stx xs (a + 2 + i) v) (sty ys (a + 2 + i) v) a), .i (hL (stx xs (a + 2 + i) v) (sty ys (a + 2 + i) v) a), .u (hM (stx xs (a + 2 + i) v) (sty ys (a + 2 + i) v) a)] 35), (3, .cells [.i (hT xs ys a), .i (hL xs ys a), .u (hM xs ys a)] 35), (2, .cells (mm W (stx xs (a + 2 + i) v) (sty ys (a + 2 + i) v)) 25)], 5⟩ [] trivial ?_
    refine en ?_
    refine an ?_
    refine xw_seq ?_
    refine reg ?_
    refine rk [] 3 0 ⟨[(91, .i k), (90, .u a), (89, .agg (mm W (stx xs (a + 2 + i) v) (sty ys (a + 2 + i) v))), (22, .i 0), (20, .u (ldw xs ys (a + 2 + k))), (18, .u (ldw (stx xs (a + 2 + i) v) (sty ys (a + 2 + i) v) (a + 1))), (16, .u (ldw xs ys (a + 1))), (15, .i 0), (14, .p 4), (13, .i 0), (12, .p 3), (10, .p 2), (8, .t), (7, .i k), (6, .u v), (5, .i i), (4, .u a), (2, .f)], [(4, .cells [.i (hT (stx xs (a + 2 + i) v) (sty ys (a + 2 + i) v) a), .i (hL (stx xs (a + 2 + i) v) (sty ys (a + 2 + i) v) a), .u (hM (stx xs (a + 2 + i) v) (sty ys (a + 2 + i) v) a)] 35), (3, .cells [.i (hT xs ys a), .i (hL xs ys a), .u (hM xs ys a)] 35), (2, .cells (mm W (stx xs (a + 2 + i) v) (sty ys (a + 2 + i) v)) 25)], 5⟩ [True] ⟨trivial, trivial⟩ ?_
    by_cases h36 : 0 ≤ k ∧ k < ((ldw (stx xs (a + 2 + i) v) (sty ys (a + 2 + i) v) a / 4294967296) % 16777216)
    ·
     refine pc (oget_1 W (stx xs (a + 2 + i) v) (sty ys (a + 2 + i) v) a k (by omega) ‹_› ‹_› ‹_› ‹_› ‹_› ‹_› (by omega) (by omega) ‹_›) ?_
     obtain ⟨h37, h38, h39⟩ := oErr_ok W (stx xs (a + 2 + i) v) (sty ys (a + 2 + i) v) a (by omega)
     have h40 : 0 ≤ (ldw (stx xs (a + 2 + i) v) (sty ys (a + 2 + i) v) (a + 2 + k)) ∧ (ldw (stx xs (a + 2 + i) v) (sty ys (a + 2 + i) v) (a + 2 + k)) ≤ 18446744073709551615 := ldw_ok (stx xs (a + 2 + i) v) (sty ys (a + 2 + i) v) (a + 2 + k) ‹_› ‹_›
     have h41 : 1 ≤ (a + 2 + k) / 4294967296 ∧ (a + 2 + k) / 4294967296 ≤ 2 ∧ (a + 2 + k) % 4294967296 < W := by omega
     refine rk [] 7 4 ⟨[(25, .i 0), (23, .u (ldw (stx xs (a + 2 + i) v) (sty ys (a + 2 + i) v) (a + 2 + k))), (22, .i 0), (20, .u (ldw xs ys (a + 2 + k))), (18, .u (ldw (stx xs (a + 2 + i) v) (sty ys (a + 2 + i) v) (a + 1))), (16, .u (ldw xs ys (a + 1))), (15, .i 0), (14, .p 4), (13, .i 0), (12, .p 3), (10, .p 2), (8, .t), (7, .i k), (6, .u v), (5, .i i), (4, .u a), (2, .f)], [(4, .cells [.i (hT (stx xs (a + 2 + i) v) (sty ys (a + 2 + i) v) a), .i (hL (stx xs (a + 2 + i) v) (sty ys (a + 2 + i) v) a), .u (hM (stx xs (a + 2 + i) v) (sty ys (a + 2 + i) v) a)] 35), (3, .cells [.i (hT xs ys a), .i (hL xs ys a), .u (hM xs ys a)] 35), (2, .cells (mm W (stx xs (a + 2 + i) v) (sty ys (a + 2 + i) v)) 25)], 5⟩ [] trivial ?_
     refine en ?_
     refine an ?_
     refine xw_seq ?_
     refine reg ?_
     refine rk [] 3 0 ⟨[(99, .i i), (98, .u a), (97, .agg (mm W (stx xs (a + 2 + i) v) (sty ys (a + 2 + i) v))), (25, .i 0), (23, .u (ldw (stx xs (a + 2 + i) v) (sty ys (a + 2 + i) v) (a + 2 + k))), (22, .i 0), (20, .u (ldw xs ys (a + 2 + k))), (18, .u (ldw (stx xs (a + 2 + i) v) (sty ys (a + 2 + i) v) (a + 1))), (16, .u (ldw xs ys (a + 1))), (15, .i 0), (14, .p 4), (13, .i 0), (12, .p 3), (8, .t), (7, .i k), (6, .u v), (5, .i i), (2, .f)], [(4, .cells [.i (hT (stx xs (a + 2 + i) v) (sty ys (a + 2 + i) v) a), .i (hL (stx xs (a + 2 + i) v) (sty ys (a + 2 + i) v) a), .u (hM (stx xs (a + 2 + i) v) (sty ys (a + 2 + i) v) a)] 35), (3, .cells [.i (hT xs ys a), .i (hL xs ys a), .u (hM xs ys a)] 35)], 5⟩ [True] ⟨trivial, trivial⟩ ?_
     by_cases h42 : 0 ≤ i ∧ i < ((ldw (stx xs (a + 2 + i) v) (sty ys (a + 2 + i) v) a / 4294967296) % 16777216)
     ·
      refine pc (oget_1 W (stx xs (a + 2 + i) v) (sty ys (a + 2 + i) v) a i (by omega) ‹_› ‹_› ‹_› ‹_› ‹_› ‹_› (by omega) (by omega) ‹_›) ?_
      obtain ⟨h43, h44, h45⟩ := oErr_ok W (stx xs (a + 2 + i) v) (sty ys (a + 2 + i) v) a (by omega)
      have h46 : 0 ≤ (ldw (stx xs (a + 2 + i) v) (sty ys (a + 2 + i) v) (a + 2 + i)) ∧ (ldw (stx xs (a + 2 + i) v) (sty ys (a + 2 + i) v) (a + 2 + i)) ≤ 18446744073709551615 := ldw_ok (stx xs (a + 2 + i) v) (sty ys (a + 2 + i) v) (a + 2 + i) ‹_› ‹_›
      have h47 : 1 ≤ (a + 2 + i) / 4294967296 ∧ (a + 2 + i) / 4294967296 ≤ 2 ∧ (a + 2 + i) % 4294967296 < W := by omega
      refine rk [] 7 4 ⟨[(28, .i 0), (26, .u (ldw (stx xs (a + 2 + i) v) (sty ys (a + 2 + i) v) (a + 2 + i))), (25, .i 0), (23, .u (ldw (stx xs (a + 2 + i) v) (sty ys (a + 2 + i) v) (a + 2 + k))), (22, .i 0), (20, .u (ldw xs ys (a + 2 + k))), (18, .u (ldw (stx xs (a + 2 + i) v) (sty ys (a + 2 + i) v) (a + 1))), (16, .u (ldw xs ys (a + 1))), (15, .i 0), (14, .p 4), (13, .i 0), (12, .p 3), (8, .t), (7, .i k), (6, .u v), (5, .i i), (2, .f)], [(4, .cells [.i (hT (stx xs (a + 2 + i) v) (sty ys (a + 2 + i) v) a), .i (hL (stx xs (a + 2 + i) v) (sty ys (a + 2 + i) v) a), .u (hM (stx xs (a + 2 + i) v) (sty ys (a + 2 + i) v) a)] 35), (3, .cells [.i (hT xs ys a), .i (hL xs ys a), .u (hM xs ys a)] 35)], 5⟩ [] trivial ?_
      refine en ?_
      refine an ?_
      refine xw_seq ?_
      refine reg ?_
      refine rk [(3, .t), (7, .t), (12, .bool (((ldw xs ys a / 72057594037927936) == (ldw (stx xs (a + 2 + i) v) (sty ys (a + 2 + i) v) a / 72057594037927936)) && ((((ldw xs ys a / 4294967296) % 16777216) == ((ldw (stx xs (a + 2 + i) v) (sty ys (a + 2 + i) v) a / 4294967296) % 16777216)) && (((ldw xs ys a % 4294967296) == (ldw (stx xs (a + 2 + i) v) (sty ys (a + 2 + i) v) a % 4294967296)) && true))))] 15 0 ⟨[(118, .bool (((hT xs ys a) == (hT (stx xs (a + 2 + i) v) (sty ys (a + 2 + i) v) a)) && (((hL xs ys a) == (hL (stx xs (a + 2 + i) v) (sty ys (a + 2 + i) v) a)) && (((hM xs ys a) == (hM (stx xs (a + 2 + i) v) (sty ys (a + 2 + i) v) a)) && true)))), (28, .i 0), (26, .u (ldw (stx xs (a + 2 + i) v) (sty ys (a + 2 + i) v) (a + 2 + i))), (25, .i 0), (23, .u (ldw (stx xs (a + 2 + i) v) (sty ys (a + 2 + i) v) (a + 2 + k))), (22, .i 0), (20, .u (ldw xs ys (a + 2 + k))), (18, .u (ldw (stx xs (a + 2 + i) v) (sty ys (a + 2 + i) v) (a + 1))), (16, .u (ldw xs ys (a + 1))), (7, .i k), (6, .u v), (5, .i i), (2, .f)], [], 5⟩ [(0 == 0) = true, True, (0 == 0) = true, True, True, True, (((ldw xs ys a / 72057594037927936) == (ldw (stx xs (a + 2 + i) v) (sty ys (a + 2 + i) v) a / 72057594037927936)) && ((((ldw xs ys a / 4294967296) % 16777216) == ((ldw (stx xs (a + 2 + i) v) (sty ys (a + 2 + i) v) a / 4294967296) % 16777216)) && (((ldw xs ys a % 4294967296) == (ldw (stx xs (a + 2 + i) v) (sty ys (a + 2 + i) v) a % 4294967296)) && true))) = (((ldw xs ys a / 72057594037927936) == (ldw (stx xs (a + 2 + i) v) (sty ys (a + 2 + i) v) a / 72057594037927936)) && ((((ldw xs ys a / 4294967296) % 16777216) == ((ldw (stx xs (a + 2 + i) v) (sty ys (a + 2 + i) v) a / 4294967296) % 16777216)) && (((ldw xs ys a % 4294967296) == (ldw (stx xs (a + 2 + i) v) (sty ys (a + 2 + i) v) a % 4294967296)) && true))), True] ⟨beq_iff_eq.2 (by omega), trivial, beq_iff_eq.2 (by omega), trivial, trivial, trivial, rfl, trivial, trivial⟩ ?_
      refine splitr 118 (x := (((ldw xs ys a / 72057594037927936) == (ldw (stx xs (a + 2 + i) v) (sty ys (a + 2 + i) v) a / 72057594037927936)) && ((((ldw xs ys a / 4294967296) % 16777216) == ((ldw (stx xs (a + 2 + i) v) (sty ys (a + 2 + i) v) a / 4294967296) % 16777216)) && (((ldw xs ys a % 4294967296) == (ldw (stx xs (a + 2 + i) v) (sty ys (a + 2 + i) v) a % 4294967296)) && true)))) (by kernel_rfl) (fun h48 => ?_) (fun h48 => ?_)
      ·
       replace h48 : ((ldw xs ys a / 72057594037927936) = (ldw (stx xs (a + 2 + i) v) (sty ys (a + 2 + i) v) a / 72057594037927936)) ∧ ((((ldw xs ys a / 4294967296) % 16777216) = ((ldw (stx xs (a + 2 + i) v) (sty ys (a + 2 + i) v) a / 4294967296) % 16777216)) ∧ ((ldw xs ys a % 4294967296) = (ldw (stx xs (a + 2 + i) v) (sty ys (a + 2 + i) v) a % 4294967296))) := by first | (simp; done) | simpa using h48
       refine rk [(17, .t), (22, .t), (27, .bool (k == i))] 14 15 ⟨[(132, .bool (k == i)), (128, .t), (28, .i 0), (26, .u (ldw (stx xs (a + 2 + i) v) (sty ys (a + 2 + i) v) (a + 2 + i))), (23, .u (ldw (stx xs (a + 2 + i) v) (sty ys (a + 2 + i) v) (a + 2 + k))), (20, .u (ldw xs ys (a + 2 + k))), (6, .u v), (2, .f)], [], 5⟩ [((ldw xs ys (a + 1)) == (ldw (stx xs (a + 2 + i) v) (sty ys (a + 2 + i) v) (a + 1))) = true, True, (0 == 0) = true, True, (k == i) = (k == i)] ⟨beq_iff_eq.2 (by omega), trivial, beq_iff_eq.2 (by omega), trivial, rfl, trivial⟩ ?_
       refine splitr 132 (x := (k == i)) (by kernel_rfl) (fun h49 => ?_) (fun h49 => ?_)
       ·
        replace h49 : k = i := eq_of_beq h49
        refine rk [(36, .t), (41, .t)] 15 29 ⟨[(2, .t)], [], 5⟩ [True, True, (0 == 0) = true, True, ((ldw (stx xs (a + 2 + i) v) (sty ys (a + 2 + i) v) (a + 2 + i)) == v) = true, True] ⟨trivial, trivial, beq_iff_eq.2 (by omega), trivial, beq_iff_eq.2 (by omega), trivial, trivial⟩ ?_
        refine en ?_
        refine an ?_
        refine xw_ret ?_
        exact bs (.t) rfl
       ·
        replace h49 : k ≠ i := ne_of_beq_false h49
        refine rk [(31, .t), (36, .t), (41, .t)] 15 29 ⟨[(2, .t)], [], 5⟩ [((ldw xs ys (a + 2 + k)) == (ldw (stx xs (a + 2 + i) v) (sty ys (a + 2 + i) v) (a + 2 + k))) = true, True, True, (0 == 0) = true, True, ((ldw (stx xs (a + 2 + i) v) (sty ys (a + 2 + i) v) (a + 2 + i)) == v) = true, True] ⟨beq_iff_eq.2 (by omega), trivial, trivial, beq_iff_eq.2 (by omega), trivial, beq_iff_eq.2 (by omega), trivial, trivial⟩ ?_
        refine en ?_
        refine an ?_
        refine xw_ret ?_
        exact bs (.t) rfl
      ·
       replace h48 : ¬ (((ldw xs ys a / 72057594037927936) = (ldw (stx xs (a + 2 + i) v) (sty ys (a + 2 + i) v) a / 72057594037927936)) ∧ ((((ldw xs ys a / 4294967296) % 16777216) = ((ldw (stx xs (a + 2 + i) v) (sty ys (a + 2 + i) v) a / 4294967296) % 16777216)) ∧ ((ldw xs ys a % 4294967296) = (ldw (stx xs (a + 2 + i) v) (sty ys (a + 2 + i) v) a % 4294967296)))) := by first | (simp; done) | simpa using h48
       refine rk [] 29 15 ⟨[(2, .f)], [], 5⟩ [True, True, True, True, True] ⟨trivial, trivial, trivial, trivial, trivial, trivial⟩ ?_
       refine en ?_
       refine an ?_
       refine xw_ret ?_
       exact bk_ret (.f) (.f) (.t) (by kernel_rfl) (by kernel_rfl) (wkd [false = true] (by kernel_rfl) ⟨(by first | exact decide_eq_true (by omega) | exact decide_eq_false (by omega) | (simp; done) | (simp; omega) | simp_all | grind), trivial⟩) rfl
     ·
      refine pc (oget_2 W (stx xs (a + 2 + i) v) (sty ys (a + 2 + i) v) a i (by omega) ‹_› ‹_› ‹_› ‹_› ‹_› ‹_› (by omega) (by omega) ‹_›) ?_
      obtain ⟨h43, h44, h45⟩ := oErr_ok W (stx xs (a + 2 + i) v) (sty ys (a + 2 + i) v) a (by omega)
      refine rk [] 7 4 ⟨[(28, .i 7), (26, .u 0), (25, .i 0), (23, .u (ldw (stx xs (a + 2 + i) v) (sty ys (a + 2 + i) v) (a + 2 + k))), (22, .i 0), (20, .u (ldw xs ys (a + 2 + k))), (18, .u (ldw (stx xs (a + 2 + i) v) (sty ys (a + 2 + i) v) (a + 1))), (16, .u (ldw xs ys (a + 1))), (15, .i 0), (14, .p 4), (13, .i 0), (12, .p 3), (8, .t), (7, .i k), (6, .u v), (5, .i i), (2, .f)], [(4, .cells [.i (hT (stx xs (a + 2 + i) v) (sty ys (a + 2 + i) v) a), .i (hL (stx xs (a + 2 + i) v) (sty ys (a + 2 + i) v) a), .u (hM (stx xs (a + 2 + i) v) (sty ys (a + 2 + i) v) a)] 35), (3, .cells [.i (hT xs ys a), .i (hL xs ys a), .u (hM xs ys a)] 35)], 5⟩ [] trivial ?_
      refine en ?_
      refine an ?_
      refine rg [(3, .t), (7, .t), (12, .f)] 44 ⟨[(2, .f)], [], 5⟩ [(0 == 0) = true, True, (0 == 0) = true, True, True, True, (((ldw xs ys a / 72057594037927936) == (ldw (stx xs (a + 2 + i) v) (sty ys (a + 2 + i) v) a / 72057594037927936)) && ((((ldw xs ys a / 4294967296) % 16777216) == ((ldw (stx xs (a + 2 + i) v) (sty ys (a + 2 + i) v) a / 4294967296) % 16777216)) && (((ldw xs ys a % 4294967296) == (ldw (stx xs (a + 2 + i) v) (sty ys (a + 2 + i) v) a % 4294967296)) && true))) = false, True, True, True, True, True, True] ⟨beq_iff_eq.2 (by omega), trivial, beq_iff_eq.2 (by omega), trivial, trivial, trivial, (by simp <;> omega), trivial, trivial, trivial, trivial, trivial, trivial, trivial⟩ ?_
      refine xw_ret ?_
      exact bk_ret (.f) (.f) (.t) (by kernel_rfl) (by kernel_rfl) (wkd [false = true] (by kernel_rfl) ⟨(by first | exact decide_eq_true (by omega) | exact decide_eq_false (by omega) | (simp; done) | (simp; omega) | simp_all | grind), trivial⟩) rfl
    ·
     refine pc (oget_2 W (stx xs (a + 2 + i) v) (sty ys (a + 2 + i) v) a k (by omega) ‹_› ‹_› ‹_› ‹_› ‹_› ‹_› (by omega) (by omega) ‹_›) ?_
     obtain ⟨h37, h38, h39⟩ := oErr_ok W (stx xs (a + 2 + i) v) (sty ys (a + 2 + i) v) a (by omega)
     refine rk [] 7 4 ⟨[(25, .i 7), (23, .u 0), (22, .i 0), (20, .u (ldw xs ys (a + 2 + k))), (18, .u (ldw (stx xs (a + 2 + i) v) (sty ys (a + 2 + i) v) (a + 1))), (16, .u (ldw xs ys (a + 1))), (15, .i 0), (14, .p 4), (13, .i 0), (12, .p 3), (10, .p 2), (8, .t), (7, .i k), (6, .u v), (5, .i i), (4, .u a), (2, .f)], [(4, .cells [.i (hT (stx xs (a + 2 + i) v) (sty ys (a + 2 + i) v) a), .i (hL (stx xs (a + 2 + i) v) (sty ys (a + 2 + i) v) a), .u (hM (stx xs (a + 2 + i) v) (sty ys (a + 2 + i) v) a)] 35), (3, .cells [.i (hT xs ys a), .i (hL xs ys a), .u (hM xs ys a)] 35), (2, .cells (mm W (stx xs (a + 2 + i) v) (sty ys (a + 2 + i) v)) 25)], 5⟩ [] trivial ?_
     refine en ?_
     refine an ?_
     refine xw_seq ?_
     refine reg ?_
     refine rk [] 3 0 ⟨[(99, .i i), (98, .u a), (97, .agg (mm W (stx xs (a + 2 + i) v) (sty ys (a + 2 + i) v))), (25, .i 7), (23, .u 0), (22, .i 0), (20, .u (ldw xs ys (a + 2 + k))), (18, .u (ldw (stx xs (a + 2 + i) v) (sty ys (a + 2 + i) v) (a + 1))), (16, .u (ldw xs ys (a + 1))), (15, .i 0), (14, .p 4), (13, .i 0), (12, .p 3), (8, .t), (7, .i k), (6, .u v), (5, .i i), (2, .f)], [(4, .cells [.i (hT (stx xs (a + 2 + i) v) (sty ys (a + 2 + i) v) a), .i (hL (stx xs (a + 2 + i) v) (sty ys (a + 2 + i) v) a), .u (hM (stx xs (a + 2 + i) v) (sty ys (a + 2 + i) v) a)] 35), (3, .cells [.i (hT xs ys a), .i (hL xs ys a), .u (hM xs ys a)] 35)], 5⟩ [True] ⟨trivial, trivial⟩ ?_
     by_cases h40 : 0 ≤ i ∧ i < ((ldw (stx xs (a + 2 + i) v) (sty ys (a + 2 + i) v) a / 4294967296) % 16777216)
     ·
      refine pc (oget_1 W (stx xs (a + 2 + i) v) (sty ys (a + 2 + i) v) a i (by omega) ‹_› ‹_› ‹_› ‹_› ‹_› ‹_› (by omega) (by omega) ‹_›) ?_
      obtain ⟨h41, h42, h43⟩ := oErr_ok W (stx xs (a + 2 + i) v) (sty ys (a + 2 + i) v) a (by omega)
      have h44 : 0 ≤ (ldw (stx xs (a + 2 + i) v) (sty ys (a + 2 + i) v) (a + 2 + i)) ∧ (ldw (stx xs (a + 2 + i) v) (sty ys (a + 2 + i) v) (a + 2 + i)) ≤ 18446744073709551615 := ldw_ok (stx xs (a + 2 + i) v) (sty ys (a + 2 + i) v) (a + 2 + i) ‹_› ‹_›
      have h45 : 1 ≤ (a + 2 + i) / 4294967296 ∧ (a + 2 + i) / 4294967296 ≤ 2 ∧ (a + 2 + i) % 4294967296 < W := by omega
      refine rk [] 7 4 ⟨[(28, .i 0), (26, .u (ldw (stx xs (a + 2 + i) v) (sty ys (a + 2 + i) v) (a + 2 + i))), (25, .i 7), (23, .u 0), (22, .i 0), (20, .u (ldw xs ys (a + 2 + k))), (18, .u (ldw (stx xs (a + 2 + i) v) (sty ys (a + 2 + i) v) (a + 1))), (16, .u (ldw xs ys (a + 1))), (15, .i 0), (14, .p 4), (13, .i 0), (12, .p 3), (8, .t), (7, .i k), (6, .u v), (5, .i i), (2, .f)], [(4, .cells [.i (hT (stx xs (a + 2 + i) v) (sty ys (a + 2 + i) v) a), .i (hL (stx xs (a + 2 + i) v) (sty ys (a + 2 + i) v) a), .u (hM (stx xs (a + 2 + i) v) (sty ys (a + 2 + i) v) a)] 35), (3, .cells [.i (hT xs ys a), .i (hL xs ys a), .u (hM xs ys a)] 35)], 5⟩ [] trivial ?_
      refine en ?_
      refine an ?_
      refine rg [(3, .t), (7, .t), (12, .f)] 44 ⟨[(2, .f)], [], 5⟩ [(0 == 0) = true, True, (0 == 0) = true, True, True, True, (((ldw xs ys a / 72057594037927936) == (ldw (stx xs (a + 2 + i) v) (sty ys (a + 2 + i) v) a / 72057594037927936)) && ((((ldw xs ys a / 4294967296) % 16777216) == ((ldw (stx xs (a + 2 + i) v) (sty ys (a + 2 + i) v) a / 4294967296) % 16777216)) && (((ldw xs ys a % 4294967296) == (ldw (stx xs (a + 2 + i) v) (sty ys (a + 2 + i) v) a % 4294967296)) && true))) = false, True, True, True, True, True, True] ⟨beq_iff_eq.2 (by omega), trivial, beq_iff_eq.2 (by omega), trivial, trivial, trivial, (by simp <;> omega), trivial, trivial, trivial, trivial, trivial, trivial, trivial⟩ ?_
      refine xw_ret ?_
      exact bk_ret (.f) (.f) (.t) (by kernel_rfl) (by kernel_rfl) (wkd [false = true] (by kernel_rfl) ⟨(by first | exact decide_eq_true (by omega) | exact decide_eq_false (by omega) | (simp; done) | (simp; omega) | simp_all | grind), trivial⟩) rfl
     ·
      refine pc (oget_2 W (stx xs (a + 2 + i) v) (sty ys (a + 2 + i) v) a i (by omega) ‹_› ‹_› ‹_› ‹_› ‹_› ‹_› (by omega) (by omega) ‹_›) ?_
      obtain ⟨h41, h42, h43⟩ := oErr_ok W (stx xs (a + 2 + i) v) (sty ys (a + 2 + i) v) a (by omega)
      refine rk [] 7 4 ⟨[(28, .i 7), (26, .u 0), (25, .i 7), (23, .u 0), (22, .i 0), (20, .u (ldw xs ys (a + 2 + k))), (18, .u (ldw (stx xs (a + 2 + i) v) (sty ys (a + 2 + i) v) (a + 1))), (16, .u (ldw xs ys (a + 1))), (15, .i 0), (14, .p 4), (13, .i 0), (12, .p 3), (8, .t), (7, .i k), (6, .u v), (5, .i i), (2, .f)], [(4, .cells [.i (hT (stx xs (a + 2 + i) v) (sty ys (a + 2 + i) v) a), .i (hL (stx xs (a + 2 + i) v) (sty ys (a + 2 + i) v) a), .u (hM (stx xs (a + 2 + i) v) (sty ys (a + 2 + i) v) a)] 35), (3, .cells [.i (hT xs ys a), .i (hL xs ys a), .u (hM xs ys a)] 35)], 5⟩ [] trivial ?_
      refine en ?_
      refine an ?_
      refine rg [(3, .t), (7, .t), (12, .f)] 44 ⟨[(2, .f)], [], 5⟩ [(0 == 0) = true, True, (0 == 0) = true, True, True, True, (((ldw xs ys a / 72057594037927936) == (ldw (stx xs (a + 2 + i) v) (sty ys (a + 2 + i) v) a / 72057594037927936)) && ((((ldw xs ys a / 4294967296) % 16777216) == ((ldw (stx xs (a + 2 + i) v) (sty ys (a + 2 + i) v) a / 4294967296) % 16777216)) && (((ldw xs ys a % 4294967296) == (ldw (stx xs (a + 2 + i) v) (sty ys (a + 2 + i) v) a % 4294967296)) && true))) = false, True, True, True, True, True, True] ⟨beq_iff_eq.2 (by omega), trivial, beq_iff_eq.2 (by omega), trivial, trivial, trivial, (by simp <;> omega), trivial, trivial, trivial, trivial, trivial, trivial, trivial⟩ ?_
      refine xw_ret ?_
      exact bk_ret (.f) (.f) (.t) (by kernel_rfl) (by kernel_rfl) (wkd [false = true] (by kernel_rfl) ⟨(by first | exact decide_eq_true (by omega) | exact decide_eq_false (by omega) | (simp; done) | (simp; omega) | simp_all | grind), trivial⟩) rfl
   ·
    refine pc (oget_2 W xs ys a k (by omega) (by omega) (by omega) ‹_› ‹_› ‹_› ‹_› (by omega) (by omega) ‹_›) ?_
    obtain ⟨h31, h32, h33⟩ := oErr_ok W xs ys a (by omega)
    refine rk [] 7 4 ⟨[(22, .i 7), (20, .u 0), (18, .u (ldw (stx xs (a + 2 + i) v) (sty ys (a + 2 + i) v) (a + 1))), (16, .u (ldw xs ys (a + 1))), (15, .i 0), (14, .p 4), (13, .i 0), (12, .p 3), (10, .p 2), (8, .t), (7, .i k), (6, .u v), (5, .i i), (4, .u a), (2, .f)], [(4, .cells [.i (hT (stx xs (a + 2 + i) v) (sty ys (a + 2 + i) v) a), .i (hL (stx xs (a + 2 + i) v) (sty ys (a + 2 + i) v) a), .u (hM (stx xs (a + 2 + i) v) (sty ys (a + 2 + i) v) a)] 35), (3, .cells [.i (hT xs ys a), .i (hL xs ys a), .u (hM xs ys a)] 35), (2, .cells (mm W (stx xs (a + 2 + i) v) (sty ys (a + 2 + i) v)) 25)], 5⟩ [] trivial ?_
    refine en ?_
    refine an ?_
    refine xw_seq ?_
    refine reg ?_
    refine rk [] 3 0 ⟨[(91, .i k), (90, .u a), (89, .agg (mm W (stx xs (a + 2 + i) v) (sty ys (a + 2 + i) v))), (22, .i 7), (20, .u 0), (18, .u (ldw (stx xs (a + 2 + i) v) (sty ys (a + 2 + i) v) (a + 1))), (16, .u (ldw xs ys (a + 1))), (15, .i 0), (14, .p 4), (13, .i 0), (12, .p 3), (10, .p 2), (8, .t), (7, .i k), (6, .u v), (5, .i i), (4, .u a), (2, .f)], [(4, .cells [.i (hT (stx xs (a + 2 + i) v) (sty ys (a + 2 + i) v) a), .i (hL (stx xs (a + 2 + i) v) (sty ys (a + 2 + i) v) a), .u (hM (stx xs (a + 2 + i) v) (sty ys (a + 2 + i) v) a)] 35), (3, .cells [.i (hT xs ys a), .i (hL xs ys a), .u (hM xs ys a)] 35), (2, .cells (mm W (stx xs (a + 2 + i) v) (sty ys (a + 2 + i) v)) 25)], 5⟩ [True] ⟨trivial, trivial⟩ ?_
    by_cases h34 : 0 ≤ k ∧ k < ((ldw (stx xs (a + 2 + i) v) (sty ys (a + 2 + i) v) a / 4294967296) % 16777216)
    ·
     refine pc (oget_1 W (stx xs (a + 2 + i) v) (sty ys (a + 2 + i) v) a k (by omega) ‹_› ‹_› ‹_› ‹_› ‹_› ‹_› (by omega) (by omega) ‹_›) ?_
     obtain ⟨h35, h36, h37⟩ := oErr_ok W (stx xs (a + 2 + i) v) (sty ys (a + 2 + i) v) a (by omega)
     have h38 : 0 ≤ (ldw (stx xs (a + 2 + i) v) (sty ys (a + 2 + i) v) (a + 2 + k)) ∧ (ldw (stx xs (a + 2 + i) v) (sty ys (a + 2 + i) v) (a + 2 + k)) ≤ 18446744073709551615 := ldw_ok (stx xs (a + 2 + i) v) (sty ys (a + 2 + i) v) (a + 2 + k) ‹_› ‹_›
     have h39 : 1 ≤ (a + 2 + k) / 4294967296 ∧ (a + 2 + k) / 4294967296 ≤ 2 ∧ (a + 2 + k) % 4294967296 < W := by omega
     refine rk [] 7 4 ⟨[(25, .i 0), (23, .u (ldw (stx xs (a + 2 + i) v) (sty ys (a + 2 + i) v) (a + 2 + k))), (22, .i 7), (20, .u 0), (18, .u (ldw (stx xs (a + 2 + i) v) (sty ys (a + 2 + i) v) (a + 1))), (16, .u (ldw xs ys (a + 1))), (15, .i 0), (14, .p 4), (13, .i 0), (12, .p 3), (10, .p 2), (8, .t), (7, .i k), (6, .u v), (5, .i i), (4, .u a), (2, .f)], [(4, .cells [.i (hT (stx xs (a + 2 + i) v) (sty ys (a + 2 + i) v) a), .i (hL (stx xs (a + 2 + i) v) (sty ys (a + 2 + i) v) a), .u (hM (stx xs (a + 2 + i) v) (sty ys (a + 2 + i) v) a)] 35), (3, .cells [.i (hT xs ys a), .i (hL xs ys a), .u (hM xs ys a)] 35), (2, .cells (mm W (stx xs (a + 2 + i) v) (sty ys (a + 2 + i) v)) 25)], 5⟩ [] trivial ?_
     refine en ?_
     refine an ?_
     refine xw_seq ?_
     refine reg ?_
     refine rk [] 3 0 ⟨[(99, .i i), (98, .u a), (97, .agg (mm W (stx xs (a + 2 + i) v) (sty ys (a + 2 + i) v))), (25, .i 0), (23, .u (ldw (stx xs (a + 2 + i) v) (sty ys (a + 2 + i) v) (a + 2 + k))), (22, .i 7), (20, .u 0), (18, .u (ldw (stx xs (a + 2 + i) v) (sty ys (a + 2 + i) v) (a + 1))), (16, .u (ldw xs ys (a + 1))), (15, .i 0), (14, .p 4), (13, .i 0), (12, .p 3), (8, .t), (7, .i k), (6, .u v), (5, .i i), (2, .f)], [(4, .cells [.i (hT (stx xs (a + 2 + i) v) (sty ys (a + 2 + i) v) a), .i (hL (stx xs (a + 2 + i) v) (sty ys (a + 2 + i) v) a), .u (hM (stx xs (a + 2 + i) v) (sty ys (a + 2 + i) v) a)] 35), (3, .cells [.i (hT xs ys a), .i (hL xs ys a), .u (hM xs ys a)] 35)], 5⟩ [True] ⟨trivial, trivial⟩ ?_
     refine pc (oget_1 W (stx xs (a + 2 + i) v) (sty ys (a + 2 + i) v) a i (by omega) ‹_› ‹_› ‹_› ‹_› ‹_› ‹_› (by omega) (by omega) (by omega)) ?_
     obtain ⟨h40, h41, h42⟩ := oErr_ok W (stx xs (a + 2 + i) v) (sty ys (a + 2 + i) v) a (by omega)
     have h43 : 0 ≤ (ldw (stx xs (a + 2 + i) v) (sty ys (a + 2 + i) v) (a + 2 + i)) ∧ (ldw (stx xs (a + 2 + i) v) (sty ys (a + 2 + i) v) (a + 2 + i)) ≤ 18446744073709551615 := ldw_ok (stx xs (a + 2 + i) v) (sty ys (a + 2 + i) v) (a + 2 + i) ‹_› ‹_›
     have h44 : 1 ≤ (a + 2 + i) / 4294967296 ∧ (a + 2 + i) / 4294967296 ≤ 2 ∧ (a + 2 + i) % 4294967296 < W := by omega
     refine rk [] 7 4 ⟨[(28, .i 0), (26, .u (ldw (stx xs (a + 2 + i) v) (sty ys (a + 2 + i) v) (a + 2 + i))), (25, .i 0), (23, .u (ldw (stx xs (a + 2 + i) v) (sty ys (a + 2 + i) v) (a + 2 + k))), (22, .i 7), (20, .u 0), (18, .u (ldw (stx xs (a + 2 + i) v) (sty ys (a + 2 + i) v) (a + 1))), (16, .u (ldw xs ys (a + 1))), (15, .i 0), (14, .p 4), (13, .i 0), (12, .p 3), (8, .t), (7, .i k), (6, .u v), (5, .i i), (2, .f)], [(4, .cells [.i (hT (stx xs (a + 2 + i) v) (sty ys (a + 2 + i) v) a), .i (hL (stx xs (a + 2 + i) v) (sty ys (a + 2 + i) v) a), .u (hM (stx xs (a + 2 + i) v) (sty ys (a + 2 + i) v) a)] 35), (3, .cells [.i (hT xs ys a), .i (hL xs ys a), .u (hM xs ys a)] 35)], 5⟩ [] trivial ?_
     refine en ?_
     refine an ?_
     refine rg [(3, .t), (7, .t), (12, .f)] 44 ⟨[(2, .f)], [], 5⟩ [(0 == 0) = true, True, (0 == 0) = true, True, True, True, (((ldw xs ys a / 72057594037927936) == (ldw (stx xs (a + 2 + i) v) (sty ys (a + 2 + i) v) a / 72057594037927936)) && ((((ldw xs ys a / 4294967296) % 16777216) == ((ldw (stx xs (a + 2 + i) v) (sty ys (a + 2 + i) v) a / 4294967296) % 16777216)) && (((ldw xs ys a % 4294967296) == (ldw (stx xs (a + 2 + i) v) (sty ys (a + 2 + i) v) a % 4294967296)) && true))) = false, True, True, True, True, True, True] ⟨beq_iff_eq.2 (by omega), trivial, beq_iff_eq.2 (by omega), trivial, trivial, trivial, (by simp <;> omega), trivial, trivial, trivial, trivial, trivial, trivial, trivial⟩ ?_
     refine xw_ret ?_
     exact bk_ret (.f) (.f) (.t) (by kernel_rfl) (by kernel_rfl) (wkd [false = true] (by kernel_rfl) ⟨(by first | exact decide_eq_true (by omega) | exact decide_eq_false (by omega) | (simp; done) | (simp; omega) | simp_all | grind), trivial⟩) rfl
    ·
     refine pc (oget_2 W (stx xs (a + 2 + i) v) (sty ys (a + 2 + i) v) a k (by omega) ‹_› ‹_› ‹_› ‹_› ‹_› ‹_› (by omega) (by omega) ‹_›) ?_
     obtain ⟨h35, h36, h37⟩ := oErr_ok W (stx xs (a + 2 + i) v) (sty ys (a + 2 + i) v) a (by omega)
     refine rk [] 7 4 ⟨[(25, .i 7), (23, .u 0), (22, .i 7), (20, .u 0), (18, .u (ldw (stx xs (a + 2 + i) v) (sty ys (a + 2 + i) v) (a + 1))), (16, .u (ldw xs ys (a + 1))), (15, .i 0), (14, .p 4), (13, .i 0), (12, .p 3), (10, .p 2), (8, .t), (7, .i k), (6, .u v), (5, .i i), (4, .u a), (2, .f)], [(4, .cells [.i (hT (stx xs (a + 2 + i) v) (sty ys (a + 2 + i) v) a), .i (hL (stx xs (a + 2 + i) v) (sty ys (a + 2 + i) v) a), .u (hM (stx xs (a + 2 + i) v) (sty ys (a + 2 + i) v) a)] 35), (3, .cells [.i (hT xs ys a), .i (hL xs ys a), .u (hM xs ys a)] 35), (2, .cells (mm W (stx xs (a + 2 + i) v) (sty ys (a + 2 + i) v)) 25)], 5⟩ [] trivial ?_
     refine en ?_
     refine an ?_
     refine xw_seq ?_
     refine reg ?_
     refine rk [] 3 0 ⟨[(99, .i i), (98, .u a), (97, .agg (mm W (stx xs (a + 2 + i) v) (sty ys (a + 2 + i) v))), (25, .i 7), (23, .u 0), (22, .i 7), (20, .u 0), (18, .u (ldw (stx xs (a + 2 + i) v) (sty ys (a + 2 + i) v) (a + 1))), (16, .u (ldw xs ys (a + 1))), (15, .i 0), (14, .p 4), (13, .i 0), (12, .p 3), (8, .t), (7, .i k), (6, .u v), (5, .i i), (2, .f)], [(4, .cells [.i (hT (stx xs (a + 2 + i) v) (sty ys (a + 2 + i) v) a), .i (hL (stx xs (a + 2 + i) v) (sty ys (a + 2 + i) v) a), .u (hM (stx xs (a + 2 + i) v) (sty ys (a + 2 + i) v) a)] 35), (3, .cells [.i (hT xs ys a), .i (hL xs ys a), .u (hM xs ys a)] 35)], 5⟩ [True] ⟨trivial, trivial⟩ ?_
     by_cases h38 : 0 ≤ i ∧ i < ((ldw (stx xs (a + 2 + i) v) (sty ys (a + 2 + i) v) a / 4294967296) % 16777216)
     ·
      refine pc (oget_1 W (stx xs (a + 2 + i) v) (sty ys (a + 2 + i) v) a i (by omega) ‹_› ‹_› ‹_› ‹_› ‹_› ‹_› (by omega) (by omega) ‹_›) ?_
      obtain ⟨h39, h40, h41⟩ := oErr_ok W (stx xs (a + 2 + i) v) (sty ys (a + 2 + i) v) a (by omega)
      have h42 : 0 ≤ (ldw (stx xs (a + 2 + i) v) (sty ys (a + 2 + i) v) (a + 2 + i)) ∧ (ldw (stx xs (a + 2 + i) v) (sty ys (a + 2 + i) v) (a + 2 + i)) ≤ 18446744073709551615 := ldw_ok (stx xs (a + 2 + i) v) (sty ys (a + 2 + i) v) (a + 2 + i) ‹_› ‹_›
      have h43 : 1 ≤ (a + 2 + i) / 4294967296 ∧ (a + 2 + i) / 4294967296 ≤ 2 ∧ (a + 2 + i) % 4294967296 < W := by omega
      refine rk [] 7 4 ⟨[(28, .i 0), (26, .u (ldw (stx xs (a + 2 + i) v) (sty ys (a + 2 + i) v) (a + 2 + i))), (25, .i 7), (23, .u 0), (22, .i 7), (20, .u 0), (18, .u (ldw (stx xs (a + 2 + i) v) (sty ys (a + 2 + i) v) (a + 1))), (16, .u (ldw xs ys (a + 1))), (15, .i 0), (14, .p 4), (13, .i 0), (12, .p 3), (8, .t), (7, .i k), (6, .u v), (5, .i i), (2, .f)], [(4, .cells [.i (hT (stx xs (a + 2 + i) v) (sty ys (a + 2 + i) v) a), .i (hL (stx xs (a + 2 + i) v) (sty ys (a + 2 + i) v) a), .u (hM (stx xs (a + 2 + i) v) (sty ys (a + 2 + i) v) a)] 35), (3, .cells [.i (hT xs ys a), .i (hL xs ys a), .u (hM xs ys a)] 35)], 5⟩ [] trivial ?_
      refine en ?_
      refine an ?_
      refine xw_seq ?_
      refine reg ?_
      refine rk [(3, .t), (7, .t), (12, .bool (((ldw xs ys a / 72057594037927936) == (ldw (stx xs (a + 2 + i) v) (sty ys (a + 2 + i) v) a / 72057594037927936)) && ((((ldw xs ys a / 4294967296) % 16777216) == ((ldw (stx xs (a + 2 + i) v) (sty ys (a + 2 + i) v) a / 4294967296) % 16777216)) && (((ldw xs ys a % 4294967296) == (ldw (stx xs (a + 2 + i) v) (sty ys (a + 2 + i) v) a % 4294967296)) && true))))] 15 0 ⟨[(118, .bool (((hT xs ys a) == (hT (stx xs (a + 2 + i) v) (sty ys (a + 2 + i) v) a)) && (((hL xs ys a) == (hL (stx xs (a + 2 + i) v) (sty ys (a + 2 + i) v) a)) && (((hM xs ys a) == (hM (stx xs (a + 2 + i) v) (sty ys (a + 2 + i) v) a)) && true)))), (28, .i 0), (26, .u (ldw (stx xs (a + 2 + i) v) (sty ys (a + 2 + i) v) (a + 2 + i))), (25, .i 7), (23, .u 0), (22, .i 7), (20, .u 0), (18, .u (ldw (stx xs (a + 2 + i) v) (sty ys (a + 2 + i) v) (a + 1))), (16, .u (ldw xs ys (a + 1))), (7, .i k), (6, .u v), (5, .i i), (2, .f)], [], 5⟩ [(0 == 0) = true, True, (0 == 0) = true, True, True, True, (((ldw xs ys a / 72057594037927936) == (ldw (stx xs (a + 2 + i) v) (sty ys (a + 2 + i) v) a / 72057594037927936)) && ((((ldw xs ys a / 4294967296) % 16777216) == ((ldw (stx xs (a + 2 + i) v) (sty ys (a + 2 + i) v) a / 4294967296) % 16777216)) && (((ldw xs ys a % 4294967296) == (ldw (stx xs (a + 2 + i) v) (sty ys (a + 2 + i) v) a % 4294967296)) && true))) = (((ldw xs ys a / 72057594037927936) == (ldw (stx xs (a + 2 + i) v) (sty ys (a + 2 + i) v) a / 72057594037927936)) && ((((ldw xs ys a / 4294967296) % 16777216) == ((ldw (stx xs (a + 2 + i) v) (sty ys (a + 2 + i) v) a / 4294967296) % 16777216)) && (((ldw xs ys a % 4294967296) == (ldw (stx xs (a + 2 + i) v) (sty ys (a + 2 + i) v) a % 4294967296)) && true))), True] ⟨beq_iff_eq.2 (by omega), trivial, beq_iff_eq.2 (by omega), trivial, trivial, trivial, rfl, trivial, trivial⟩ ?_
      refine splitr 118 (x := (((ldw xs ys a / 72057594037927936) == (ldw (stx xs (a + 2 + i) v) (sty ys (a + 2 + i) v) a / 72057594037927936)) && ((((ldw xs ys a / 4294967296) % 16777216) == ((ldw (stx xs (a + 2 + i) v) (sty ys (a + 2 + i) v) a / 4294967296) % 16777216)) && (((ldw xs ys a % 4294967296) == (ldw (stx xs (a + 2 + i) v) (sty ys (a + 2 + i) v) a % 4294967296)) && true)))) (by kernel_rfl) (fun h44 => ?_) (fun h44 => ?_)
      ·
       replace h44 : ((ldw xs ys a / 72057594037927936) = (ldw (stx xs (a + 2 + i) v) (sty ys (a + 2 + i) v) a / 72057594037927936)) ∧ ((((ldw xs ys a / 4294967296) % 16777216) = ((ldw (stx xs (a + 2 + i) v) (sty ys (a + 2 + i) v) a / 4294967296) % 16777216)) ∧ ((ldw xs ys a % 4294967296) = (ldw (stx xs (a + 2 + i) v) (sty ys (a + 2 + i) v) a % 4294967296))) := by first | (simp; done) | simpa using h44
       refine rk [(17, .t), (22, .t), (27, .f), (31, .t), (36, .t), (41, .t)] 29 15 ⟨[(2, .t)], [], 5⟩ [((ldw xs ys (a + 1)) == (ldw (stx xs (a + 2 + i) v) (sty ys (a + 2 + i) v) (a + 1))) = true, True, (7 == 7) = true, True, (k == i) = false, (0 == 0) = true, True, True, (0 == 0) = true, True, ((ldw (stx xs (a + 2 + i) v) (sty ys (a + 2 + i) v) (a + 2 + i)) == v) = true, True] ⟨beq_iff_eq.2 (by omega), trivial, beq_iff_eq.2 (by omega), trivial, beq_eq_false_iff_ne.2 (by omega), beq_iff_eq.2 (by omega), trivial, trivial, beq_iff_eq.2 (by omega), trivial, beq_iff_eq.2 (by omega), trivial, trivial⟩ ?_
       refine en ?_
       refine an ?_
       refine xw_ret ?_
       exact bs (.t) rfl
      ·
       replace h44 : ¬ (((ldw xs ys a / 72057594037927936) = (ldw (stx xs (a + 2 + i) v) (sty ys (a + 2 + i) v) a / 72057594037927936)) ∧ ((((ldw xs ys a / 4294967296) % 16777216) = ((ldw (stx xs (a + 2 + i) v) (sty ys (a + 2 + i) v) a / 4294967296) % 16777216)) ∧ ((ldw xs ys a % 4294967296) = (ldw (stx xs (a + 2 + i) v) (sty ys (a + 2 + i) v) a % 4294967296)))) := by first | (simp; done) | simpa using h44
       refine rk [] 29 15 ⟨[(2, .f)], [], 5⟩ [True, True, True, True, True] ⟨trivial, trivial, trivial, trivial, trivial, trivial⟩ ?_
       refine en ?_
       refine an ?_
       refine xw_ret ?_
       exact bk_ret (.f) (.f) (.t) (by kernel_rfl) (by kernel_rfl) (wkd [false = true] (by kernel_rfl) ⟨(by first | exact decide_eq_true (by omega) | exact decide_eq_false (by omega) | (simp; done) | (simp; omega) | simp_all | grind), trivial⟩) rfl
     ·
      refine pc (oget_2 W (stx xs (a + 2 + i) v) (sty ys (a + 2 + i) v) a i (by omega) ‹_› ‹_› ‹_› ‹_› ‹_› ‹_› (by omega) (by omega) ‹_›) ?_
      obtain ⟨h39, h40, h41⟩ := oErr_ok W (stx xs (a + 2 + i) v) (sty ys (a + 2 + i) v) a (by omega)
      refine rk [] 7 4 ⟨[(28, .i 7), (26, .u 0), (25, .i 7), (23, .u 0), (22, .i 7), (20, .u 0), (18, .u (ldw (stx xs (a + 2 + i) v) (sty ys (a + 2 + i) v) (a + 1))), (16, .u (ldw xs ys (a + 1))), (15, .i 0), (14, .p 4), (13, .i 0), (12, .p 3), (8, .t), (7, .i k), (6, .u v), (5, .i i), (2, .f)], [(4, .cells [.i (hT (stx xs (a + 2 + i) v) (sty ys (a + 2 + i) v) a), .i (hL (stx xs (a + 2 + i) v) (sty ys (a + 2 + i) v) a), .u (hM (stx xs (a + 2 + i) v) (sty ys (a + 2 + i) v) a)] 35), (3, .cells [.i (hT xs ys a), .i (hL xs ys a), .u (hM xs ys a)] 35)], 5⟩ [] trivial ?_
      refine en ?_
      refine an ?_
      refine rg [(3, .t), (7, .t), (12, .f)] 44 ⟨[(2, .f)], [], 5⟩ [(0 == 0) = true, True, (0 == 0) = true, True, True, True, (((ldw xs ys a / 72057594037927936) == (ldw (stx xs (a + 2 + i) v) (sty ys (a + 2 + i) v) a / 72057594037927936)) && ((((ldw xs ys a / 4294967296) % 16777216) == ((ldw (stx xs (a + 2 + i) v) (sty ys (a + 2 + i) v) a / 4294967296) % 16777216)) && (((ldw xs ys a % 4294967296) == (ldw (stx xs (a + 2 + i) v) (sty ys (a + 2 + i) v) a % 4294967296)) && true))) = false, True, True, True, True, True, True] ⟨beq_iff_eq.2 (by omega), trivial, beq_iff_eq.2 (by omega), trivial, trivial, trivial, (by simp <;> omega), trivial, trivial, trivial, trivial, trivial, trivial, trivial⟩ ?_
      refine xw_ret ?_
      exact bk_ret (.f) (.f) (.t) (by kernel_rfl) (by kernel_rfl) (wkd [false = true] (by kernel_rfl) ⟨(by first | exact decide_eq_true (by omega) | exact decide_eq_false (by omega) | (simp; done) | (simp; omega) | simp_all | grind), trivial⟩) rfl
  ·
   by_cases h2 : ((oErr W xs ys a) = 0) ∧ ((ldw xs ys a / 72057594037927936) ≠ 255) ∧ (¬ (0 ≤ i ∧ i < ((ldw xs ys a / 4294967296) % 16777216)))
   ·
    refine pc (oset_2 W xs ys a i v (by omega) (by omega) (by omega) ‹_› ‹_› ‹_› ‹_› ‹_› (by omega) (by omega) (by omega)) ?_
    obtain ⟨h3, h4, h5⟩ := oErr_ok W xs ys a (by omega)
    refine rk [] 6 5 ⟨[(11, .i 7), (10, .p 2), (8, .t), (7, .i k), (6, .u v), (5, .i i), (4, .u a), (3, .p 1), (2, .f)], [(2, .cells (mm W xs ys) 25), (1, .cells (mm W xs ys) 25)], 3⟩ [True] ⟨trivial, trivial⟩ ?_
    refine en ?_
    refine an ?_
    refine xw_seq ?_
    refine rg [(1, .t)] 2 ⟨[(54, .t), (10, .p 2), (8, .t), (7, .i k), (6, .u v), (5, .i i), (4, .u a), (3, .p 1), (2, .f)], [(2, .cells (mm W xs ys) 25), (1, .cells (mm W xs ys) 25)], 3⟩ [(7 != 0) = true] ⟨bne_iff_ne.2 (by omega), trivial⟩ ?_
    refine ct ?_
    refine rg [] 2 ⟨[(2, .t), (10, .p 2), (8, .t), (7, .i k), (6, .u v), (5, .i i), (4, .u a), (3, .p 1)], [(2, .cells (mm W xs ys) 25), (1, .cells (mm W xs ys) 25)], 3⟩ [] trivial ?_
    refine xw_ret ?_
    refine an_ret ?_
    exact bs (.t) rfl
   ·
    by_cases h3 : ((oErr W xs ys a) = 0) ∧ ((ldw xs ys a / 72057594037927936) = 255)
    ·
     refine pc (oset_3 W xs ys a i v (by omega) (by omega) (by omega) ‹_› ‹_› ‹_› ‹_› ‹_› (by omega) (by omega)) ?_
     obtain ⟨h4, h5, h6⟩ := oErr_ok W xs ys a (by omega)
     refine rk [] 6 5 ⟨[(11, .i 8), (10, .p 2), (8, .t), (7, .i k), (6, .u v), (5, .i i), (4, .u a), (3, .p 1), (2, .f)], [(2, .cells (mm W xs ys) 25), (1, .cells (mm W xs ys) 25)], 3⟩ [True] ⟨trivial, trivial⟩ ?_
     refine en ?_
     refine an ?_
     refine xw_seq ?_
     refine rg [(1, .t)] 2 ⟨[(54, .t), (10, .p 2), (8, .t), (7, .i k), (6, .u v), (5, .i i), (4, .u a), (3, .p 1), (2, .f)], [(2, .cells (mm W xs ys) 25), (1, .cells (mm W xs ys) 25)], 3⟩ [(8 != 0) = true] ⟨bne_iff_ne.2 (by omega), trivial⟩ ?_
     refine ct ?_
     refine rg [] 2 ⟨[(2, .t), (10, .p 2), (8, .t), (7, .i k), (6, .u v), (5, .i i), (4, .u a), (3, .p 1)], [(2, .cells (mm W xs ys) 25), (1, .cells (mm W xs ys) 25)], 3⟩ [] trivial ?_
     refine xw_ret ?_
     refine an_ret ?_
     exact bs (.t) rfl
    ·
     refine pc (oset_4 W xs ys a i v (by omega) (by omega) (by omega) ‹_› ‹_› ‹_› ‹_› ‹_› (by omega)) ?_
     have h4 : (oErr W xs ys a) = 2 ∨ (oErr W xs ys a) = 10 := oErr_no W xs ys a (by omega)
     refine rk [] 6 5 ⟨[(11, .i (oErr W xs ys a)), (10, .p 2), (8, .t), (7, .i k), (6, .u v), (5, .i i), (4, .u a), (3, .p 1), (2, .f)], [(2, .cells (mm W xs ys) 25), (1, .cells (mm W xs ys) 25)], 3⟩ [True] ⟨trivial, trivial⟩ ?_
     refine en ?_
     refine an ?_
     refine xw_seq ?_
     refine rg [(1, .t)] 2 ⟨[(54, .t), (10, .p 2), (8, .t), (7, .i k), (6, .u v), (5, .i i), (4, .u a), (3, .p 1), (2, .f)], [(2, .cells (mm W xs ys) 25), (1, .cells (mm W xs ys) 25)], 3⟩ [((oErr W xs ys a) != 0) = true] ⟨bne_iff_ne.2 (by omega), trivial⟩ ?_
     refine ct ?_
     refine rg [] 2 ⟨[(2, .t), (10, .p 2), (8, .t), (7, .i k), (6, .u v), (5, .i i), (4, .u a), (3, .p 1)], [(2, .cells (mm W xs ys) 25), (1, .cells (mm W xs ys) 25)], 3⟩ [] trivial ?_
     refine xw_ret ?_
     refine an_ret ?_
     exact bs (.t) rfl
 ·
  refine pc (few5_2 W xs ys ‹_› ‹_›) ?_
  refine rk [] 1 2 ⟨[(9, .f), (8, .t), (7, .i k), (6, .u v), (5, .i i), (4, .u a), (3, .p 1), (2, .f)], [(1, .cells (mm W xs ys) 25)], 2⟩ [] trivial ?_
  refine en ?_
  refine an ?_
  refine xw_seq ?_
  refine rg [] 2 ⟨[(43, .t), (8, .t), (7, .i k), (6, .u v), (5, .i i), (4, .u a), (3, .p 1), (2, .f)], [(1, .cells (mm W xs ys) 25)], 2⟩ [] trivial ?_
  refine ct ?_
  refine rg [] 2 ⟨[(2, .t), (8, .t), (7, .i k), (6, .u v), (5, .i i), (4, .u a), (3, .p 1)], [(1, .cells (mm W xs ys) 25)], 2⟩ [] trivial ?_
  refine xw_ret ?_
  refine an_ret ?_
  exact bs (.t) rfl

end Go.Proofs.Ytcjcljbhjkedgaa.X
