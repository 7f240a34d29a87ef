/- Contracts of Go functions: what each returns, for every input that its premises name; no memory of the caller is touched. Printed by a program. -/
import Derived.Test.YtnfkgfibinimmaaXf0
import Derived.Test.YtnfkgfibinimmaaXv2
namespace Go.Proofs.Ytnfkgfibinimmaa.X
open Go Go.RowKit
set_option linter.unusedVariables false      -- a premise may serve only to tell which way is taken
set_option linter.unusedSimpArgs false
theorem tover (W : Int) (xs ys : List Int) (s b l p q a : Int) (hp0 : 16 ≤ W ∧ W ≤ 4096) (hp1 : (xs.length : Int) = W) (hp2 : (ys.length : Int) = W) (hp3 : U64s xs) (hp4 : U64s ys) (hp5 : (s = 0 ∨ s = 1) ∧ 0 ≤ b ∧ b ≤ l ∧ l ≤ 4096) (hp6 : l = W) (hp7 : 0 ≤ p ∧ p ≤ q ∧ q ≤ b) (hp8 : 0 ≤ a ∧ a ≤ 18446744073709551615) : Pub Try.prog 51 [.agg (mr W xs ys (r5 s b l p q)), .u a] (fun rv => ((1 ≤ a / 4294967296 ∧ a / 4294967296 ≤ 2 ∧ a / 4294967296 - 1 = s) ∧ rv = .t) ∨ ((¬ (1 ≤ a / 4294967296 ∧ a / 4294967296 ≤ 2 ∧ a / 4294967296 - 1 = s)) ∧ rv = .f)) := by
 refine pub_of TT_ok Try.func51 rfl (by decide) (Nat.le_of_ble_eq_true (by kernel_rfl)) (by kernel_rfl) ?_
 refine rg [] 2 ⟨[(4, .f), (2, .p 0), (1, .u a)], [(0, .cells (mr W xs ys (r5 s b l p q)) 31)], 1⟩ [] trivial ?_
 refine xw_seq ?_
 refine reg ?_
 refine rk [] 1 0 ⟨[(9, .u a), (4, .f), (2, .p 0)], [(0, .cells (mr W xs ys (r5 s b l p q)) 31)], 1⟩ [] trivial ?_
 by_cases h0 : 1 ≤ a / 4294967296 ∧ a / 4294967296 ≤ 2
 ·
  refine pc (pwhere_1 a ‹_› (by omega)) ?_
  refine rk [] 7 2 ⟨[(7, .t), (5, .i (a / 4294967296 - 1)), (4, .f), (2, .p 0)], [(0, .cells (mr W xs ys (r5 s b l p q)) 31)], 1⟩ [] trivial ?_
  refine en ?_
  refine an ?_
  refine rg [(6, .bool ((a / 4294967296 - 1) == s))] 9 ⟨[(4, .bool ((a / 4294967296 - 1) == s))], [], 1⟩ [True, ((a / 4294967296 - 1) == s) = ((a / 4294967296 - 1) == s), True] ⟨trivial, rfl, trivial, trivial⟩ ?_
  refine xw_ret ?_
  by_cases h1 : (a / 4294967296 - 1) = s
  ·
   exact br (.bool ((a / 4294967296 - 1) == s)) (.t) (wkd [((a / 4294967296 - 1) == s) = true] (by kernel_rfl) ⟨(by first | exact decide_eq_true (by omega) | exact decide_eq_false (by omega) | (simp; done) | (simp; omega) | simp_all | grind), trivial⟩) (Or.inl <| ⟨(by omega), rfl⟩)
  ·
   exact br (.bool ((a / 4294967296 - 1) == s)) (.f) (wkd [((a / 4294967296 - 1) == s) = false] (by kernel_rfl) ⟨(by first | exact decide_eq_true (by omega) | exact decide_eq_false (by omega) | (simp; done) | (simp; omega) | simp_all | grind), trivial⟩) (Or.inr <| ⟨(by omega), rfl⟩)
 ·
  refine pc (pwhere_2 a ‹_› (by omega)) ?_
  refine rk [] 7 2 ⟨[(7, .f), (5, .i 0), (4, .f), (2, .p 0)], [(0, .cells (mr W xs ys (r5 s b l p q)) 31)], 1⟩ [] trivial ?_
  refine en ?_
  refine an ?_
  refine rg [] 9 ⟨[(4, .f)], [], 1⟩ [True] ⟨trivial, trivial⟩ ?_
  refine xw_ret ?_
  exact bs (.f) (Or.inr <| ⟨(by omega), rfl⟩)

theorem tover_1 (W : Int) (xs ys : List Int) (s b l p q a : Int) (hp0 : 16 ≤ W ∧ W ≤ 4096) (hp1 : (xs.length : Int) = W) (hp2 : (ys.length : Int) = W) (hp3 : U64s xs) (hp4 : U64s ys) (hp5 : (s = 0 ∨ s = 1) ∧ 0 ≤ b ∧ b ≤ l ∧ l ≤ 4096) (hp6 : l = W) (hp7 : 0 ≤ p ∧ p ≤ q ∧ q ≤ b) (hp8 : 0 ≤ a ∧ a ≤ 18446744073709551615) (hp9 : 1 ≤ a / 4294967296 ∧ a / 4294967296 ≤ 2 ∧ a / 4294967296 - 1 = s) : Pub Try.prog 51 [.agg (mr W xs ys (r5 s b l p q)), .u a] (fun rv => rv = .t) := by
  refine (tover W xs ys s b l p q a hp0 hp1 hp2 hp3 hp4 hp5 hp6 hp7 hp8).mono ?_
  rintro _ (⟨g0, rfl⟩ | ⟨g0, rfl⟩)
  all_goals first | rfl | (exfalso; first | omega | grind)

theorem tover_2 (W : Int) (xs ys : List Int) (s b l p q a : Int) (hp0 : 16 ≤ W ∧ W ≤ 4096) (hp1 : (xs.length : Int) = W) (hp2 : (ys.length : Int) = W) (hp3 : U64s xs) (hp4 : U64s ys) (hp5 : (s = 0 ∨ s = 1) ∧ 0 ≤ b ∧ b ≤ l ∧ l ≤ 4096) (hp6 : l = W) (hp7 : 0 ≤ p ∧ p ≤ q ∧ q ≤ b) (hp8 : 0 ≤ a ∧ a ≤ 18446744073709551615) (hp9 : ¬ (1 ≤ a / 4294967296 ∧ a / 4294967296 ≤ 2 ∧ a / 4294967296 - 1 = s)) : Pub Try.prog 51 [.agg (mr W xs ys (r5 s b l p q)), .u a] (fun rv => rv = .f) := by
  refine (tover W xs ys s b l p q a hp0 hp1 hp2 hp3 hp4 hp5 hp6 hp7 hp8).mono ?_
  rintro _ (⟨g0, rfl⟩ | ⟨g0, rfl⟩)
  all_goals first | rfl | (exfalso; first | omega | grind)

theorem rtover (W : Int) (xs ys : List Int) (s b l p q a : Int) (hp0 : 16 ≤ W ∧ W ≤ 4096) (hp1 : (xs.length : Int) = W) (hp2 : (ys.length : Int) = W) (hp3 : U64s xs) (hp4 : U64s ys) (hp5 : (s = 0 ∨ s = 1) ∧ 0 ≤ b ∧ b ≤ l ∧ l ≤ 4096) (hp6 : l = W) (hp7 : 0 ≤ p ∧ p ≤ q ∧ q ≤ b) (hp8 : 0 ≤ a ∧ a ≤ 18446744073709551615) : Pub Try.prog 29 [.agg (mr W xs ys (r5 s b l p q)), .u a] (fun rv => ((1 ≤ a / 4294967296 ∧ a / 4294967296 ≤ 2 ∧ a / 4294967296 - 1 = s) ∧ rv = .t) ∨ ((¬ (1 ≤ a / 4294967296 ∧ a / 4294967296 ≤ 2 ∧ a / 4294967296 - 1 = s)) ∧ rv = .f)) := by
 refine pub_of TT_ok Try.func29 rfl (by decide) (Nat.le_of_ble_eq_true (by kernel_rfl)) (by kernel_rfl) ?_
 refine rg [] 2 ⟨[(4, .f), (2, .p 0), (1, .u a)], [(0, .cells (mr W xs ys (r5 s b l p q)) 31)], 1⟩ [] trivial ?_
 refine xw_seq ?_
 refine reg ?_
 refine rk [] 1 0 ⟨[(9, .u a), (4, .f), (2, .p 0)], [(0, .cells (mr W xs ys (r5 s b l p q)) 31)], 1⟩ [] trivial ?_
 by_cases h0 : 1 ≤ a / 4294967296 ∧ a / 4294967296 ≤ 2
 ·
  refine pc (rwhere_1 a ‹_› (by omega)) ?_
  refine rk [] 7 2 ⟨[(7, .t), (5, .i (a / 4294967296 - 1)), (4, .f), (2, .p 0)], [(0, .cells (mr W xs ys (r5 s b l p q)) 31)], 1⟩ [] trivial ?_
  refine en ?_
  refine an ?_
  refine rg [(6, .bool ((a / 4294967296 - 1) == s))] 9 ⟨[(4, .bool ((a / 4294967296 - 1) == s))], [], 1⟩ [True, ((a / 4294967296 - 1) == s) = ((a / 4294967296 - 1) == s), True] ⟨trivial, rfl, trivial, trivial⟩ ?_
  refine xw_ret ?_
  by_cases h1 : (a / 4294967296 - 1) = s
  ·
   exact br (.bool ((a / 4294967296 - 1) == s)) (.t) (wkd [((a / 4294967296 - 1) == s) = true] (by kernel_rfl) ⟨(by first | exact decide_eq_true (by omega) | exact decide_eq_false (by omega) | (simp; done) | (simp; omega) | simp_all | grind), trivial⟩) (Or.inl <| ⟨(by omega), rfl⟩)
  ·
   exact br (.bool ((a / 4294967296 - 1) == s)) (.f) (wkd [((a / 4294967296 - 1) == s) = false] (by kernel_rfl) ⟨(by first | exact decide_eq_true (by omega) | exact decide_eq_false (by omega) | (simp; done) | (simp; omega) | simp_all | grind), trivial⟩) (Or.inr <| ⟨(by omega), rfl⟩)
 ·
  refine pc (rwhere_2 a ‹_› (by omega)) ?_
  refine rk [] 7 2 ⟨[(7, .f), (5, .i 0), (4, .f), (2, .p 0)], [(0, .cells (mr W xs ys (r5 s b l p q)) 31)], 1⟩ [] trivial ?_
  refine en ?_
  refine an ?_
  refine rg [] 9 ⟨[(4, .f)], [], 1⟩ [True] ⟨trivial, trivial⟩ ?_
  refine xw_ret ?_
  exact bs (.f) (Or.inr <| ⟨(by omega), rfl⟩)

theorem rtover_1 (W : Int) (xs ys : List Int) (s b l p q a : Int) (hp0 : 16 ≤ W ∧ W ≤ 4096) (hp1 : (xs.length : Int) = W) (hp2 : (ys.length : Int) = W) (hp3 : U64s xs) (hp4 : U64s ys) (hp5 : (s = 0 ∨ s = 1) ∧ 0 ≤ b ∧ b ≤ l ∧ l ≤ 4096) (hp6 : l = W) (hp7 : 0 ≤ p ∧ p ≤ q ∧ q ≤ b) (hp8 : 0 ≤ a ∧ a ≤ 18446744073709551615) (hp9 : 1 ≤ a / 4294967296 ∧ a / 4294967296 ≤ 2 ∧ a / 4294967296 - 1 = s) : Pub Try.prog 29 [.agg (mr W xs ys (r5 s b l p q)), .u a] (fun rv => rv = .t) := by
  refine (rtover W xs ys s b l p q a hp0 hp1 hp2 hp3 hp4 hp5 hp6 hp7 hp8).mono ?_
  rintro _ (⟨g0, rfl⟩ | ⟨g0, rfl⟩)
  all_goals first | rfl | (exfalso; first | omega | grind)

theorem rtover_2 (W : Int) (xs ys : List Int) (s b l p q a : Int) (hp0 : 16 ≤ W ∧ W ≤ 4096) (hp1 : (xs.length : Int) = W) (hp2 : (ys.length : Int) = W) (hp3 : U64s xs) (hp4 : U64s ys) (hp5 : (s = 0 ∨ s = 1) ∧ 0 ≤ b ∧ b ≤ l ∧ l ≤ 4096) (hp6 : l = W) (hp7 : 0 ≤ p ∧ p ≤ q ∧ q ≤ b) (hp8 : 0 ≤ a ∧ a ≤ 18446744073709551615) (hp9 : ¬ (1 ≤ a / 4294967296 ∧ a / 4294967296 ≤ 2 ∧ a / 4294967296 - 1 = s)) : Pub Try.prog 29 [.agg (mr W xs ys (r5 s b l p q)), .u a] (fun rv => rv = .f) := by
  refine (rtover W xs ys s b l p q a hp0 hp1 hp2 hp3 hp4 hp5 hp6 hp7 hp8).mono ?_
  rintro _ (⟨g0, rfl⟩ | ⟨g0, rfl⟩)
  all_goals first | rfl | (exfalso; first | omega | grind)

set_option maxHeartbeats 8000000 in
theorem tto (W : Int) (xs ys : List Int) (s b l p q a : Int) (hp0 : 16 ≤ W ∧ W ≤ 4096) (hp1 : (xs.length : Int) = W) (hp2 : (ys.length : Int) = W) (hp3 : U64s xs) (hp4 : U64s ys) (hp5 : (s = 0 ∨ s = 1) ∧ 0 ≤ b ∧ b ≤ l ∧ l ≤ 4096) (hp6 : l = W) (hp7 : 0 ≤ p ∧ p ≤ q ∧ q ≤ b) (hp8 : 0 ≤ a ∧ a ≤ 18446744073709551615) : Pub Try.prog 36 [.agg (mr W xs ys (r5 s b l p q)), .u a] (fun rv => ((a = 0) ∧ rv = .tup [.agg (mr W xs ys (r5 s b l p q)), .u 0, .i 0]) ∨ ((a ≠ 0) ∧ (¬ ((oErr W xs ys a) = 0)) ∧ rv = .tup [.agg (mr W xs ys (r5 s b l p q)), .u 0, .i (oErr W xs ys a)]) ∨ ((a ≠ 0) ∧ ((oErr W xs ys a) = 0) ∧ ((ldw xs ys a / 72057594037927936) = 255) ∧ rv = .tup [.agg (mr W xs ys (r5 s b l p q)), .u 0, .i 8]) ∨ ((a ≠ 0) ∧ ((oErr W xs ys a) = 0) ∧ ((ldw xs ys a / 72057594037927936) ≠ 255) ∧ (a / 4294967296 - 1 = s) ∧ rv = .tup [.agg (mr W xs ys (r5 s b l p q)), .u a, .i 0]) ∨ ((a ≠ 0) ∧ ((oErr W xs ys a) = 0) ∧ ((ldw xs ys a / 72057594037927936) ≠ 255) ∧ (¬ (a / 4294967296 - 1 = s)) ∧ ((ldw xs ys (a + 1)) ≠ 0) ∧ (¬ (1 ≤ (ldw xs ys (a + 1)) / 4294967296 ∧ (ldw xs ys (a + 1)) / 4294967296 ≤ 2 ∧ (ldw xs ys (a + 1)) / 4294967296 - 1 = s)) ∧ rv = .tup [.agg (mr W xs ys (r5 s b l p q)), .u 0, .i 10]) ∨ ((a ≠ 0) ∧ ((oErr W xs ys a) = 0) ∧ ((ldw xs ys a / 72057594037927936) ≠ 255) ∧ (¬ (a / 4294967296 - 1 = s)) ∧ ((ldw xs ys (a + 1)) ≠ 0) ∧ (1 ≤ (ldw xs ys (a + 1)) / 4294967296 ∧ (ldw xs ys (a + 1)) / 4294967296 ≤ 2 ∧ (ldw xs ys (a + 1)) / 4294967296 - 1 = s) ∧ rv = .tup [.agg (mr W xs ys (r5 s b l p q)), .u (ldw xs ys (a + 1)), .i 0]) ∨ ((a ≠ 0) ∧ ((oErr W xs ys a) = 0) ∧ ((ldw xs ys a / 72057594037927936) ≠ 255) ∧ (¬ (a / 4294967296 - 1 = s)) ∧ ((ldw xs ys (a + 1)) = 0) ∧ (l - b < (((ldw xs ys a / 4294967296) % 16777216) + 2)) ∧ rv = .tup [.agg (mr W xs ys (r5 s b l p q)), .u 0, .i 4]) ∨ ((a ≠ 0) ∧ ((oErr W xs ys a) = 0) ∧ ((ldw xs ys a / 72057594037927936) ≠ 255) ∧ (¬ (a / 4294967296 - 1 = s)) ∧ ((ldw xs ys (a + 1)) = 0) ∧ ((((ldw xs ys a / 4294967296) % 16777216) + 2) ≤ l - b) ∧ rv = .tup [.agg (mr W (tX xs ys a ((s + 1) * 4294967296 + b) (((ldw xs ys a / 4294967296) % 16777216) + 2)) (tY xs ys a ((s + 1) * 4294967296 + b) (((ldw xs ys a / 4294967296) % 16777216) + 2)) (r5 s (b + (((ldw xs ys a / 4294967296) % 16777216) + 2)) l p q)), .u ((s + 1) * 4294967296 + b), .i 0])) := by
 refine pub_of TT_ok Try.func36 rfl (by decide) (Nat.le_of_ble_eq_true (by kernel_rfl)) (by kernel_rfl) ?_
 refine rg [] 5 ⟨[(6, .i 0), (5, .u 0), (4, .p 2), (3, .p 1), (2, .p 0)], [(2, .cells z8 31), (1, .cells [.u a] 47), (0, .cells (mr W xs ys (r5 s b l p q)) 31)], 3⟩ [] trivial ?_
 refine xw_scope_u 0 4 rfl ?_
 refine xw_seq ?_
 refine reg ?_
 refine rk [] 3 0 ⟨[(18, .u a), (17, .agg (mm W xs ys)), (6, .i 0), (5, .u 0), (4, .p 2), (3, .p 1), (2, .p 0)], [(2, .cells z8 31), (1, .cells [.u a] 47), (0, .cells (mr W xs ys (r5 s b l p q)) 31)], 3⟩ [True, True] ⟨trivial, trivial, trivial⟩ ?_
 by_cases h0 : ((oErr W xs ys a) = 0) ∧ ((ldw xs ys a / 72057594037927936) ≠ 255)
 ·
  refine pc (otwin_1 W xs ys a ‹_› ‹_› ‹_› ‹_› ‹_› ‹_› (by omega) (by omega)) ?_
  obtain ⟨h1, h2, h3⟩ := oErr_ok W xs ys a (by omega)
  have h4 : 0 ≤ (ldw xs ys (a + 1)) ∧ (ldw xs ys (a + 1)) ≤ 18446744073709551615 := ldw_ok xs ys (a + 1) ‹_› ‹_›
  have h5 : 1 ≤ (a + 1) / 4294967296 ∧ (a + 1) / 4294967296 ≤ 2 ∧ (a + 1) % 4294967296 < W := by omega
  refine rk [] 5 4 ⟨[(8, .i 0), (7, .u (ldw xs ys (a + 1))), (6, .i 0), (5, .u 0), (4, .p 2), (3, .p 1), (2, .p 0)], [(2, .cells z8 31), (1, .cells [.u a] 47), (0, .cells (mr W xs ys (r5 s b l p q)) 31)], 3⟩ [] trivial ?_
  refine en ?_
  refine an ?_
  refine xw_seq ?_
  refine xw_block ?_
  refine xw_seq ?_
  refine xw_block ?_
  refine xw_seq ?_
  refine xw_block ?_
  refine xw_seq ?_
  refine xw_block ?_
  refine xw_seq ?_
  refine xw_block ?_
  refine xw_seq ?_
  refine xw_block ?_
  refine xw_seq ?_
  refine xw_seq ?_
  refine rg [(1, .f)] 3 ⟨[(22, .f), (8, .i 0), (7, .u (ldw xs ys (a + 1))), (6, .i 0), (5, .u 0), (4, .p 2), (3, .p 1), (2, .p 0)], [(2, .cells z8 31), (1, .cells [.u a] 47), (0, .cells (mr W xs ys (r5 s b l p q)) 31)], 3⟩ [True, (a == 0) = false] ⟨trivial, beq_eq_false_iff_ne.2 (by omega), trivial⟩ ?_
  refine cf ?_
  refine xw_skip ?_
  refine an ?_
  refine xw_seq ?_
  refine rg [(1, .f)] 3 ⟨[(25, .f), (8, .i 0), (7, .u (ldw xs ys (a + 1))), (6, .i 0), (5, .u 0), (4, .p 2), (3, .p 1), (2, .p 0)], [(2, .cells z8 31), (1, .cells [.u a] 47), (0, .cells (mr W xs ys (r5 s b l p q)) 31)], 3⟩ [(0 != 0) = false] ⟨bne_eq_false_iff_eq.2 (by omega), trivial⟩ ?_
  refine cf ?_
  refine xw_skip ?_
  refine an ?_
  refine xw_seq ?_
  refine xw_seq ?_
  refine reg ?_
  refine rk [] 2 0 ⟨[(30, .u a), (29, .agg (mr W xs ys (r5 s b l p q))), (8, .i 0), (7, .u (ldw xs ys (a + 1))), (6, .i 0), (5, .u 0), (4, .p 2), (3, .p 1), (2, .p 0)], [(2, .cells z8 31), (1, .cells [.u a] 47), (0, .cells (mr W xs ys (r5 s b l p q)) 31)], 3⟩ [True, True] ⟨trivial, trivial, trivial⟩ ?_
  by_cases h6 : 1 ≤ a / 4294967296 ∧ a / 4294967296 ≤ 2 ∧ a / 4294967296 - 1 = s
  ·
   refine pc (tover_1 W xs ys s b l p q a ‹_› ‹_› ‹_› ‹_› ‹_› ‹_› ‹_› ‹_› ‹_› (by omega)) ?_
   refine rk [] 12 3 ⟨[(28, .f), (8, .i 0), (7, .u (ldw xs ys (a + 1))), (6, .i 0), (5, .u 0), (4, .p 2), (3, .p 1), (2, .p 0)], [(2, .cells z8 31), (1, .cells [.u a] 47), (0, .cells (mr W xs ys (r5 s b l p q)) 31)], 3⟩ [True, True] ⟨trivial, trivial, trivial⟩ ?_
   refine en ?_
   refine an ?_
   refine cf ?_
   refine xw_skip ?_
   refine an ?_
   refine xw_seq ?_
   refine xw_seq ?_
   refine reg ?_
   refine rk [] 2 0 ⟨[(45, .u a), (44, .agg (mr W xs ys (r5 s b l p q))), (8, .i 0), (7, .u (ldw xs ys (a + 1))), (6, .i 0), (5, .u 0), (4, .p 2), (3, .p 1), (2, .p 0)], [(2, .cells z8 31), (1, .cells [.u a] 47), (0, .cells (mr W xs ys (r5 s b l p q)) 31)], 3⟩ [True, True] ⟨trivial, trivial, trivial⟩ ?_
   refine pc (tover_1 W xs ys s b l p q a ‹_› ‹_› ‹_› ‹_› ‹_› ‹_› ‹_› ‹_› ‹_› (by omega)) ?_
   refine rk [] 1 3 ⟨[(43, .t), (8, .i 0), (7, .u (ldw xs ys (a + 1))), (6, .i 0), (5, .u 0), (4, .p 2), (3, .p 1), (2, .p 0)], [(2, .cells z8 31), (1, .cells [.u a] 47), (0, .cells (mr W xs ys (r5 s b l p q)) 31)], 3⟩ [] trivial ?_
   refine en ?_
   refine an ?_
   refine ct ?_
   refine xw_exit ?_
   refine an_exit ?_
   refine an_exit ?_
   refine ib_exit (by kernel_rfl) ?_
   refine an_exit ?_
   refine ib_exit (by kernel_rfl) ?_
   refine an_exit ?_
   refine ib_exit (by kernel_rfl) ?_
   refine an_exit ?_
   refine ib_same ?_
   refine an ?_
   refine re [] 2 ⟨[(7, .u a), (6, .i 0), (5, .u 0), (4, .p 2), (3, .p 1), (2, .p 0)], [(2, .cells z8 31), (1, .cells [.u a] 47), (0, .cells (mr W xs ys (r5 s b l p q)) 31)], 3⟩ [True] ⟨trivial, trivial⟩ ?_
   refine ib ?_
   refine an ?_
   refine xw_seq ?_
   refine rg [] 5 ⟨[(6, .i 0), (5, .u a), (4, .p 2), (3, .p 1), (2, .p 0)], [(2, .cells (mr W xs ys (r5 s b l p q)) 31), (1, .cells [.u a] 47), (0, .cells (mr W xs ys (r5 s b l p q)) 31)], 3⟩ [True, True] ⟨trivial, trivial, trivial⟩ ?_
   refine xw_ret ?_
   refine an_ret ?_
   refine ib_ret ?_
   refine an_ret ?_
   refine juu_ret ?_
   exact bs (.tup [.agg (mr W xs ys (r5 s b l p q)), .u a, .i 0]) (Or.inr <| Or.inr <| Or.inr <| Or.inl <| ⟨(by omega), (by omega), (by omega), (by omega), rfl⟩)
  ·
   refine pc (tover_2 W xs ys s b l p q a ‹_› ‹_› ‹_› ‹_› ‹_› ‹_› ‹_› ‹_› ‹_› (by omega)) ?_
   refine rk [(6, .bool ((ldw xs ys (a + 1)) != 0))] 6 3 ⟨[(37, .bool ((ldw xs ys (a + 1)) != 0)), (8, .i 0), (7, .u (ldw xs ys (a + 1))), (6, .i 0), (5, .u 0), (4, .p 2), (3, .p 1), (2, .p 0)], [(2, .cells z8 31), (1, .cells [.u a] 47), (0, .cells (mr W xs ys (r5 s b l p q)) 31)], 3⟩ [((ldw xs ys (a + 1)) != 0) = ((ldw xs ys (a + 1)) != 0), True] ⟨rfl, trivial, trivial⟩ ?_
   refine splitr 37 (x := ((ldw xs ys (a + 1)) != 0)) (by kernel_rfl) (fun h7 => ?_) (fun h7 => ?_)
   ·
    replace h7 : (ldw xs ys (a + 1)) ≠ 0 := bne_iff_ne.1 h7
    refine rk [] 2 9 ⟨[(39, .u (ldw xs ys (a + 1))), (38, .agg (mr W xs ys (r5 s b l p q))), (37, .t), (8, .i 0), (7, .u (ldw xs ys (a + 1))), (6, .i 0), (5, .u 0), (4, .p 2), (3, .p 1), (2, .p 0)], [(2, .cells z8 31), (1, .cells [.u a] 47), (0, .cells (mr W xs ys (r5 s b l p q)) 31)], 3⟩ [True] ⟨trivial, trivial⟩ ?_
    by_cases h8 : 1 ≤ (ldw xs ys (a + 1)) / 4294967296 ∧ (ldw xs ys (a + 1)) / 4294967296 ≤ 2 ∧ (ldw xs ys (a + 1)) / 4294967296 - 1 = s
    ·
     refine pc (tover_1 W xs ys s b l p q (ldw xs ys (a + 1)) ‹_› ‹_› ‹_› ‹_› ‹_› ‹_› ‹_› ‹_› ‹_› (by omega)) ?_
     refine rk [] 3 12 ⟨[(28, .f), (8, .i 0), (7, .u (ldw xs ys (a + 1))), (6, .i 0), (5, .u 0), (4, .p 2), (3, .p 1), (2, .p 0)], [(2, .cells z8 31), (1, .cells [.u a] 47), (0, .cells (mr W xs ys (r5 s b l p q)) 31)], 3⟩ [True] ⟨trivial, trivial⟩ ?_
     refine en ?_
     refine an ?_
     refine cf ?_
     refine xw_skip ?_
     refine an ?_
     refine xw_seq ?_
     refine xw_seq ?_
     refine reg ?_
     refine rk [] 2 0 ⟨[(45, .u a), (44, .agg (mr W xs ys (r5 s b l p q))), (8, .i 0), (7, .u (ldw xs ys (a + 1))), (6, .i 0), (5, .u 0), (4, .p 2), (3, .p 1), (2, .p 0)], [(2, .cells z8 31), (1, .cells [.u a] 47), (0, .cells (mr W xs ys (r5 s b l p q)) 31)], 3⟩ [True, True] ⟨trivial, trivial, trivial⟩ ?_
     refine pc (tover_2 W xs ys s b l p q a ‹_› ‹_› ‹_› ‹_› ‹_› ‹_› ‹_› ‹_› ‹_› (by omega)) ?_
     refine rk [] 1 3 ⟨[(43, .f), (8, .i 0), (7, .u (ldw xs ys (a + 1))), (6, .i 0), (5, .u 0), (4, .p 2), (3, .p 1), (2, .p 0)], [(2, .cells z8 31), (1, .cells [.u a] 47), (0, .cells (mr W xs ys (r5 s b l p q)) 31)], 3⟩ [] trivial ?_
     refine en ?_
     refine an ?_
     refine cf ?_
     refine xw_skip ?_
     refine an ?_
     refine rg [(1, .t)] 3 ⟨[(47, .t), (8, .i 0), (7, .u (ldw xs ys (a + 1))), (6, .i 0), (5, .u 0), (4, .p 2), (3, .p 1), (2, .p 0)], [(2, .cells z8 31), (1, .cells [.u a] 47), (0, .cells (mr W xs ys (r5 s b l p q)) 31)], 3⟩ [((ldw xs ys (a + 1)) != 0) = true] ⟨bne_iff_ne.2 (by omega), trivial⟩ ?_
     refine ct ?_
     refine xw_exit ?_
     refine an_exit ?_
     refine ib_exit (by kernel_rfl) ?_
     refine an_exit ?_
     refine ib_exit (by kernel_rfl) ?_
     refine an_exit ?_
     refine ib_exit (by kernel_rfl) ?_
     refine an_exit ?_
     refine ib_exit (by kernel_rfl) ?_
     refine an_exit ?_
     refine ib_same ?_
     refine an ?_
     refine xw_seq ?_
     refine rg [] 5 ⟨[(6, .i 0), (5, .u (ldw xs ys (a + 1))), (4, .p 2), (3, .p 1), (2, .p 0)], [(2, .cells (mr W xs ys (r5 s b l p q)) 31), (1, .cells [.u a] 47), (0, .cells (mr W xs ys (r5 s b l p q)) 31)], 3⟩ [True, True] ⟨trivial, trivial, trivial⟩ ?_
     refine xw_ret ?_
     refine an_ret ?_
     refine ib_ret ?_
     refine an_ret ?_
     refine juu_ret ?_
     exact bs (.tup [.agg (mr W xs ys (r5 s b l p q)), .u (ldw xs ys (a + 1)), .i 0]) (Or.inr <| Or.inr <| Or.inr <| Or.inr <| Or.inr <| Or.inl <| ⟨(by omega), (by omega), (by omega), (by omega), (by omega), (by omega), rfl⟩)
    ·
     refine pc (tover_2 W xs ys s b l p q (ldw xs ys (a + 1)) ‹_› ‹_› ‹_› ‹_› ‹_› ‹_› ‹_› ‹_› ‹_› (by omega)) ?_
     refine rk [] 3 12 ⟨[(28, .t), (8, .i 0), (7, .u (ldw xs ys (a + 1))), (6, .i 0), (5, .u 0), (4, .p 2), (3, .p 1), (2, .p 0)], [(2, .cells z8 31), (1, .cells [.u a] 47), (0, .cells (mr W xs ys (r5 s b l p q)) 31)], 3⟩ [True] ⟨trivial, trivial⟩ ?_
     refine en ?_
     refine an ?_
     refine ct ?_
     refine xw_exit ?_
     refine an_exit ?_
     refine an_exit ?_
     refine ib_exit (by kernel_rfl) ?_
     refine an_exit ?_
     refine ib_exit (by kernel_rfl) ?_
     refine an_exit ?_
     refine ib_same ?_
     refine an ?_
     refine xw_seq ?_
     refine rg [] 4 ⟨[(6, .i 10), (5, .u 0), (7, .u (ldw xs ys (a + 1))), (4, .p 2), (3, .p 1), (2, .p 0)], [(2, .cells (mr W xs ys (r5 s b l p q)) 31), (1, .cells [.u a] 47), (0, .cells (mr W xs ys (r5 s b l p q)) 31)], 3⟩ [True, True] ⟨trivial, trivial, trivial⟩ ?_
     refine xw_ret ?_
     refine an_ret ?_
     refine ib_ret ?_
     refine an_ret ?_
     refine ib_ret ?_
     refine an_ret ?_
     refine ib_ret ?_
     refine an_ret ?_
     refine juu_ret ?_
     exact bs (.tup [.agg (mr W xs ys (r5 s b l p q)), .u 0, .i 10]) (Or.inr <| Or.inr <| Or.inr <| Or.inr <| Or.inl <| ⟨(by omega), (by omega), (by omega), (by omega), (by omega), (by omega), rfl⟩)
   ·
    replace h7 : (ldw xs ys (a + 1)) = 0 := bne_eq_false_iff_eq.1 h7
    refine rk [] 6 9 ⟨[(28, .f), (8, .i 0), (7, .u (ldw xs ys (a + 1))), (6, .i 0), (5, .u 0), (4, .p 2), (3, .p 1), (2, .p 0)], [(2, .cells z8 31), (1, .cells [.u a] 47), (0, .cells (mr W xs ys (r5 s b l p q)) 31)], 3⟩ [True] ⟨trivial, trivial⟩ ?_
    refine en ?_
    refine an ?_
    refine cf ?_
    refine xw_skip ?_
    refine an ?_
    refine xw_seq ?_
    refine xw_seq ?_
    refine reg ?_
    refine rk [] 2 0 ⟨[(45, .u a), (44, .agg (mr W xs ys (r5 s b l p q))), (8, .i 0), (7, .u (ldw xs ys (a + 1))), (6, .i 0), (5, .u 0), (4, .p 2), (3, .p 1), (2, .p 0)], [(2, .cells z8 31), (1, .cells [.u a] 47), (0, .cells (mr W xs ys (r5 s b l p q)) 31)], 3⟩ [True, True] ⟨trivial, trivial, trivial⟩ ?_
    refine pc (tover_2 W xs ys s b l p q a ‹_› ‹_› ‹_› ‹_› ‹_› ‹_› ‹_› ‹_› ‹_› (by omega)) ?_
    refine rk [] 1 3 ⟨[(43, .f), (8, .i 0), (7, .u (ldw xs ys (a + 1))), (6, .i 0), (5, .u 0), (4, .p 2), (3, .p 1), (2, .p 0)], [(2, .cells z8 31), (1, .cells [.u a] 47), (0, .cells (mr W xs ys (r5 s b l p q)) 31)], 3⟩ [] trivial ?_
    refine en ?_
    refine an ?_
    refine cf ?_
    refine xw_skip ?_
    refine an ?_
    refine rg [(1, .f)] 3 ⟨[(47, .f), (8, .i 0), (7, .u (ldw xs ys (a + 1))), (6, .i 0), (5, .u 0), (4, .p 2), (3, .p 1), (2, .p 0)], [(2, .cells z8 31), (1, .cells [.u a] 47), (0, .cells (mr W xs ys (r5 s b l p q)) 31)], 3⟩ [((ldw xs ys (a + 1)) != 0) = false] ⟨bne_eq_false_iff_eq.2 (by omega), trivial⟩ ?_
    refine cf ?_
    refine xw_skip ?_
    refine an ?_
    refine xw_exit ?_
    refine ib_exit (by kernel_rfl) ?_
    refine an_exit ?_
    refine ib_exit (by kernel_rfl) ?_
    refine an_exit ?_
    refine ib_exit (by kernel_rfl) ?_
    refine an_exit ?_
    refine ib_exit (by kernel_rfl) ?_
    refine an_exit ?_
    refine ib_exit (by kernel_rfl) ?_
    refine an_exit ?_
    refine ib_same ?_
    refine an ?_
    refine xw_seq ?_
    refine reg ?_
    refine rk [] 3 0 ⟨[(60, .u a), (59, .agg (mm W xs ys)), (6, .i 0), (5, .u 0), (4, .p 2), (3, .p 1), (2, .p 0)], [(2, .cells z8 31), (1, .cells [.u a] 47), (0, .cells (mr W xs ys (r5 s b l p q)) 31)], 3⟩ [True, True] ⟨trivial, trivial, trivial⟩ ?_
    refine pc (oat_1 W xs ys a ‹_› ‹_› ‹_› ‹_› ‹_› ‹_› (by omega)) ?_
    refine rk [] 6 4 ⟨[(9, .p 3), (6, .i 0), (5, .u 0), (4, .p 2), (3, .p 1), (2, .p 0)], [(3, .cells [.i (hT xs ys a), .i (hL xs ys a), .u (hM xs ys a)] 49), (2, .cells z8 31), (1, .cells [.u a] 47), (0, .cells (mr W xs ys (r5 s b l p q)) 31)], 4⟩ [True] ⟨trivial, trivial⟩ ?_
    refine en ?_
    refine an ?_
    refine xw_seq ?_
    by_cases h8 : (((ldw xs ys a / 4294967296) % 16777216) + 2) ≤ l - b
    ·
     refine ureg hmix [4, 5] [⟨[(3, .cells [.i (hT xs ys a), .i (hL xs ys a), .u (hM xs ys a)] 49), (2, .cells z8 31), (1, .cells [.u a] 47), (0, .cells (mr W xs ys (r5 s b l p q)) 31)], [], [4, 5]⟩, ⟨[(4, .cells [.i 0, .i 0, .i 0] 27), (3, .cells [.i (ldw xs ys a / 72057594037927936), .i ((ldw xs ys a / 4294967296) % 16777216), .u (ldw xs ys a % 4294967296)] 49), (2, .cells z8 31), (1, .cells [.u a] 47), (0, .cells (mr W xs ys (r5 s b l p q)) 31)], [9], [5]⟩, ⟨[(5, .cells [.u 0] 47), (3, .cells [.i (ldw xs ys a / 72057594037927936), .i ((ldw xs ys a / 4294967296) % 16777216), .u (ldw xs ys a % 4294967296)] 49), (2, .cells z8 31), (1, .cells [.u a] 47), (0, .cells (mr W xs ys (r5 s b l p q)) 31)], [10], [4]⟩, ⟨[(5, .cells [.u 0] 47), (4, .cells [.i 0, .i 0, .i 0] 27), (3, .cells [.i (ldw xs ys a / 72057594037927936), .i ((ldw xs ys a / 4294967296) % 16777216), .u (ldw xs ys a % 4294967296)] 49), (2, .cells z8 31), (1, .cells [.u a] 47), (0, .cells (mr W xs ys (r5 s b l p q)) 31)], [9, 10], []⟩, ⟨[(5, .cells [.u 0] 47), (4, .cells [.i s, .i (b + (((ldw xs ys a / 4294967296) % 16777216) + 2)), .i l] 27), (3, .cells [.i (ldw xs ys a / 72057594037927936), .i ((ldw xs ys a / 4294967296) % 16777216), .u (ldw xs ys a % 4294967296)] 49), (2, .cells z8 31), (1, .cells [.u a] 47), (0, .cells (mr W xs ys (r5 s b l p q)) 31)], [9, 10, 11], []⟩, ⟨[(5, .cells [.u ((s + 1) * 4294967296 + b)] 47), (4, .cells [.i s, .i (b + (((ldw xs ys a / 4294967296) % 16777216) + 2)), .i l] 27), (3, .cells [.i (ldw xs ys a / 72057594037927936), .i ((ldw xs ys a / 4294967296) % 16777216), .u (ldw xs ys a % 4294967296)] 49), (2, .cells z8 31), (1, .cells [.u a] 47), (0, .cells (mr W xs ys (r5 s b l p q)) 31)], [9, 10, 11, 12], []⟩] [9, 10, 11, 12] [(1, [0]), (3, [2]), (4, [0, 1, 2, 3]), (5, [0, 1, 2, 3, 4]), (6, [0, 1, 2, 3, 4, 5]), (7, [0, 1, 2, 3, 4, 5]), (8, [0, 1, 2, 3, 4, 5]), (11, [0, 1, 2, 3, 4, 5, 6, 9, 10]), (12, [0, 1, 2, 3, 4, 5, 6, 7, 9, 10, 11]), (13, [0, 1, 2, 3, 4, 5, 6, 7, 8, 9, 10, 11, 12])] 5 6 (by kernel_rfl) ?_
     refine urun_ TT_ok [] (Nat.le_of_ble_eq_true (by kernel_rfl)) (by kernel_rfl) 3 0 [(67, .agg [.i (ldw xs ys a / 72057594037927936), .i ((ldw xs ys a / 4294967296) % 16777216), .u (ldw xs ys a % 4294967296)]), (66, .agg [.i s, .i b, .i l]), (65, .loc 0 3), (9, .p 3), (6, .i 0), (5, .u 0), (4, .p 2), (3, .p 1), (2, .p 0)] [(SV.loc 0 3) = SV.loc 0 3, True, (SV.loc 0 3) = SV.loc 0 3, True, (SV.loc 0 3) = SV.loc 0 3, True, True, (SV.agg [.i s, .i b, .i l]) = SV.agg [.i s, .i b, .i l], True, (SV.agg [.i s, .i b, .i l]) = SV.agg [.i s, .i b, .i l], True, (SV.agg [.i s, .i b, .i l]) = SV.agg [.i s, .i b, .i l], True, True, (SV.agg [.i (ldw xs ys a / 72057594037927936), .i ((ldw xs ys a / 4294967296) % 16777216), .u (ldw xs ys a % 4294967296)]) = SV.agg [.i (ldw xs ys a / 72057594037927936), .i ((ldw xs ys a / 4294967296) % 16777216), .u (ldw xs ys a % 4294967296)], True, (SV.agg [.i (ldw xs ys a / 72057594037927936), .i ((ldw xs ys a / 4294967296) % 16777216), .u (ldw xs ys a % 4294967296)]) = SV.agg [.i (ldw xs ys a / 72057594037927936), .i ((ldw xs ys a / 4294967296) % 16777216), .u (ldw xs ys a % 4294967296)], True, (SV.agg [.i (ldw xs ys a / 72057594037927936), .i ((ldw xs ys a / 4294967296) % 16777216), .u (ldw xs ys a % 4294967296)]) = SV.agg [.i (ldw xs ys a / 72057594037927936), .i ((ldw xs ys a / 4294967296) % 16777216), .u (ldw xs ys a % 4294967296)], True, True] (by kernel_rfl) ⟨rfl, trivial, rfl, trivial, rfl, trivial, trivial, rfl, trivial, rfl, trivial, rfl, trivial, trivial, rfl, trivial, rfl, trivial, rfl, trivial, trivial, trivial⟩ ?_
     refine uc (hwords_2 (ldw xs ys a / 72057594037927936) ((ldw xs ys a / 4294967296) % 16777216) (ldw xs ys a % 4294967296) (by omega) (by omega) (by omega) (by omega) (by omega)) ?_
     refine uc (take_1 s b l (((ldw xs ys a / 4294967296) % 16777216) + 2) ‹_› (by omega) ‹_›) ?_
     refine urun_ TT_ok [(9, .p 4), (10, .p 5)] (Nat.le_of_ble_eq_true (by kernel_rfl)) (by kernel_rfl) 9 5 [(8, .i 0), (12, .p 5), (11, .p 4), (72, .i 0), (71, .u ((s + 1) * 4294967296 + b)), (70, .agg [.i s, .i (b + (((ldw xs ys a / 4294967296) % 16777216) + 2)), .i l]), (64, .tup [.agg [.i s, .i (b + (((ldw xs ys a / 4294967296) % 16777216) + 2)), .i l], .u ((s + 1) * 4294967296 + b), .i 0]), (69, .tup [.agg [.i s, .i (b + (((ldw xs ys a / 4294967296) % 16777216) + 2)), .i l], .u ((s + 1) * 4294967296 + b), .i 0]), (68, .i (((ldw xs ys a / 4294967296) % 16777216) + 2)), (67, .agg [.i (ldw xs ys a / 72057594037927936), .i ((ldw xs ys a / 4294967296) % 16777216), .u (ldw xs ys a % 4294967296)]), (66, .agg [.i s, .i b, .i l]), (65, .loc 0 3), (9, .p 3), (6, .i 0), (5, .u 0), (4, .p 2), (3, .p 1), (2, .p 0)] [(SV.tup [.agg [.i s, .i (b + (((ldw xs ys a / 4294967296) % 16777216) + 2)), .i l], .u ((s + 1) * 4294967296 + b), .i 0]) = SV.tup [.agg [.i s, .i (b + (((ldw xs ys a / 4294967296) % 16777216) + 2)), .i l], .u ((s + 1) * 4294967296 + b), .i 0], True, (SV.tup [.agg [.i s, .i (b + (((ldw xs ys a / 4294967296) % 16777216) + 2)), .i l], .u ((s + 1) * 4294967296 + b), .i 0]) = SV.tup [.agg [.i s, .i (b + (((ldw xs ys a / 4294967296) % 16777216) + 2)), .i l], .u ((s + 1) * 4294967296 + b), .i 0], True, (SV.tup [.agg [.i s, .i (b + (((ldw xs ys a / 4294967296) % 16777216) + 2)), .i l], .u ((s + 1) * 4294967296 + b), .i 0]) = SV.tup [.agg [.i s, .i (b + (((ldw xs ys a / 4294967296) % 16777216) + 2)), .i l], .u ((s + 1) * 4294967296 + b), .i 0], True, True, (SV.agg [.i s, .i (b + (((ldw xs ys a / 4294967296) % 16777216) + 2)), .i l]) = SV.agg [.i s, .i (b + (((ldw xs ys a / 4294967296) % 16777216) + 2)), .i l], True, (SV.agg [.i s, .i (b + (((ldw xs ys a / 4294967296) % 16777216) + 2)), .i l]) = SV.agg [.i s, .i (b + (((ldw xs ys a / 4294967296) % 16777216) + 2)), .i l], True, (SV.agg [.i s, .i (b + (((ldw xs ys a / 4294967296) % 16777216) + 2)), .i l]) = SV.agg [.i s, .i (b + (((ldw xs ys a / 4294967296) % 16777216) + 2)), .i l], True, True, (SV.int .u64 ((s + 1) * 4294967296 + b)) = SV.int .u64 ((s + 1) * 4294967296 + b), True, (SV.int .u64 ((s + 1) * 4294967296 + b)) = SV.int .u64 ((s + 1) * 4294967296 + b), True, (SV.int .u64 ((s + 1) * 4294967296 + b)) = SV.int .u64 ((s + 1) * 4294967296 + b), True, (SV.int .u64 ((s + 1) * 4294967296 + b)) = SV.int .u64 ((s + 1) * 4294967296 + b), True, True, (SV.int .i64 0) = SV.int .i64 0, True, (SV.int .i64 0) = SV.int .i64 0, True, (SV.int .i64 0) = SV.int .i64 0, True, (SV.int .i64 0) = SV.int .i64 0, True, (SV.int .i64 0) = SV.int .i64 0, True, True, (SV.loc 4 0) = SV.loc 4 0, ([(4, .cells [.i 0, .i 0, .i 0] 27), (3, .cells [.i (ldw xs ys a / 72057594037927936), .i ((ldw xs ys a / 4294967296) % 16777216), .u (ldw xs ys a % 4294967296)] 49), (2, .cells z8 31), (1, .cells [.u a] 47), (0, .cells (mr W xs ys (r5 s b l p q)) 31)] : Mem) = [(4, .cells [.i 0, .i 0, .i 0] 27), (3, .cells [.i (ldw xs ys a / 72057594037927936), .i ((ldw xs ys a / 4294967296) % 16777216), .u (ldw xs ys a % 4294967296)] 49), (2, .cells z8 31), (1, .cells [.u a] 47), (0, .cells (mr W xs ys (r5 s b l p q)) 31)], ([(5, .cells [.u 0] 47), (4, .cells [.i 0, .i 0, .i 0] 27), (3, .cells [.i (ldw xs ys a / 72057594037927936), .i ((ldw xs ys a / 4294967296) % 16777216), .u (ldw xs ys a % 4294967296)] 49), (2, .cells z8 31), (1, .cells [.u a] 47), (0, .cells (mr W xs ys (r5 s b l p q)) 31)] : Mem) = [(5, .cells [.u 0] 47), (4, .cells [.i 0, .i 0, .i 0] 27), (3, .cells [.i (ldw xs ys a / 72057594037927936), .i ((ldw xs ys a / 4294967296) % 16777216), .u (ldw xs ys a % 4294967296)] 49), (2, .cells z8 31), (1, .cells [.u a] 47), (0, .cells (mr W xs ys (r5 s b l p q)) 31)], (SV.loc 5 0) = SV.loc 5 0, ([(5, .cells [.u 0] 47), (3, .cells [.i (ldw xs ys a / 72057594037927936), .i ((ldw xs ys a / 4294967296) % 16777216), .u (ldw xs ys a % 4294967296)] 49), (2, .cells z8 31), (1, .cells [.u a] 47), (0, .cells (mr W xs ys (r5 s b l p q)) 31)] : Mem) = [(5, .cells [.u 0] 47), (3, .cells [.i (ldw xs ys a / 72057594037927936), .i ((ldw xs ys a / 4294967296) % 16777216), .u (ldw xs ys a % 4294967296)] 49), (2, .cells z8 31), (1, .cells [.u a] 47), (0, .cells (mr W xs ys (r5 s b l p q)) 31)], ([(5, .cells [.u 0] 47), (4, .cells [.i 0, .i 0, .i 0] 27), (3, .cells [.i (ldw xs ys a / 72057594037927936), .i ((ldw xs ys a / 4294967296) % 16777216), .u (ldw xs ys a % 4294967296)] 49), (2, .cells z8 31), (1, .cells [.u a] 47), (0, .cells (mr W xs ys (r5 s b l p q)) 31)] : Mem) = [(5, .cells [.u 0] 47), (4, .cells [.i 0, .i 0, .i 0] 27), (3, .cells [.i (ldw xs ys a / 72057594037927936), .i ((ldw xs ys a / 4294967296) % 16777216), .u (ldw xs ys a % 4294967296)] 49), (2, .cells z8 31), (1, .cells [.u a] 47), (0, .cells (mr W xs ys (r5 s b l p q)) 31)], True, ([(5, .cells [.u 0] 47), (4, .cells [.i s, .i (b + (((ldw xs ys a / 4294967296) % 16777216) + 2)), .i l] 27), (3, .cells [.i (ldw xs ys a / 72057594037927936), .i ((ldw xs ys a / 4294967296) % 16777216), .u (ldw xs ys a % 4294967296)] 49), (2, .cells z8 31), (1, .cells [.u a] 47), (0, .cells (mr W xs ys (r5 s b l p q)) 31)] : Mem) = [(5, .cells [.u 0] 47), (4, .cells [.i s, .i (b + (((ldw xs ys a / 4294967296) % 16777216) + 2)), .i l] 27), (3, .cells [.i (ldw xs ys a / 72057594037927936), .i ((ldw xs ys a / 4294967296) % 16777216), .u (ldw xs ys a % 4294967296)] 49), (2, .cells z8 31), (1, .cells [.u a] 47), (0, .cells (mr W xs ys (r5 s b l p q)) 31)], True, ([(5, .cells [.u ((s + 1) * 4294967296 + b)] 47), (4, .cells [.i s, .i (b + (((ldw xs ys a / 4294967296) % 16777216) + 2)), .i l] 27), (3, .cells [.i (ldw xs ys a / 72057594037927936), .i ((ldw xs ys a / 4294967296) % 16777216), .u (ldw xs ys a % 4294967296)] 49), (2, .cells z8 31), (1, .cells [.u a] 47), (0, .cells (mr W xs ys (r5 s b l p q)) 31)] : Mem) = [(5, .cells [.u ((s + 1) * 4294967296 + b)] 47), (4, .cells [.i s, .i (b + (((ldw xs ys a / 4294967296) % 16777216) + 2)), .i l] 27), (3, .cells [.i (ldw xs ys a / 72057594037927936), .i ((ldw xs ys a / 4294967296) % 16777216), .u (ldw xs ys a % 4294967296)] 49), (2, .cells z8 31), (1, .cells [.u a] 47), (0, .cells (mr W xs ys (r5 s b l p q)) 31)], True] (by kernel_rfl) ⟨rfl, trivial, rfl, trivial, rfl, trivial, trivial, rfl, trivial, rfl, trivial, rfl, trivial, trivial, rfl, trivial, rfl, trivial, rfl, trivial, rfl, trivial, trivial, rfl, trivial, rfl, trivial, rfl, trivial, rfl, trivial, rfl, trivial, trivial, rfl, rfl, rfl, rfl, rfl, rfl, trivial, rfl, trivial, rfl, trivial, trivial⟩ ?_
     refine uend ?_
     refine an ?_
     refine xw_seq ?_
     refine rg [(1, .f)] 2 ⟨[(74, .f), (12, .p 5), (11, .p 4), (9, .p 3), (6, .i 0), (5, .u 0), (4, .p 2), (3, .p 1), (2, .p 0)], [(5, .cells [.u ((s + 1) * 4294967296 + b)] 47), (4, .cells [.i s, .i (b + ((hL xs ys a) + 2)), .i l] 27), (3, .cells [.i (hT xs ys a), .i (hL xs ys a), .u (hM xs ys a)] 49), (2, .cells z8 31), (1, .cells [.u a] 47), (0, .cells (mr W xs ys (r5 s b l p q)) 31)], 6⟩ [(0 != 0) = false] ⟨bne_eq_false_iff_eq.2 (by omega), trivial⟩ ?_
     refine cf ?_
     refine xw_skip ?_
     refine an ?_
     refine rg [] 3 ⟨[(12, .p 5), (9, .p 3), (6, .i 0), (5, .u 0), (4, .p 2), (3, .p 1), (2, .p 0)], [(5, .cells [.u ((s + 1) * 4294967296 + b)] 47), (3, .cells [.i (hT xs ys a), .i (hL xs ys a), .u (hM xs ys a)] 49), (2, .cells z8 31), (1, .cells [.u a] 47), (0, .cells (mr W xs ys (r5 s (b + ((hL xs ys a) + 2)) l p q)) 31)], 6⟩ [True, True] ⟨trivial, trivial, trivial⟩ ?_
     refine rg [(3, .f)] 5 ⟨[(13, .osub 6 1 0 3), (12, .p 5), (6, .i 0), (5, .u 0), (4, .p 2), (2, .p 0)], [(6, .cells [.fn 55 [] [.p 0, .p 1, .p 5, .p 3], .fn 57 [] [.p 0, .p 5], .fn 59 [] [.p 0, .p 1, .p 5]] 1), (5, .cells [.u ((s + 1) * 4294967296 + b)] 47), (3, .cells [.i (hT xs ys a), .i (hL xs ys a), .u (hM xs ys a)] 49), (2, .cells z8 31), (1, .cells [.u a] 47), (0, .cells (mr W xs ys (r5 s (b + ((hL xs ys a) + 2)) l p q)) 31)], 7⟩ [] trivial ?_
     refine rg [] 1 ⟨[(14, .i 0), (13, .osub 6 1 0 3), (12, .p 5), (6, .i 0), (5, .u 0), (4, .p 2), (2, .p 0)], [(6, .cells [.fn 55 [] [.p 0, .p 1, .p 5, .p 3], .fn 57 [] [.p 0, .p 5], .fn 59 [] [.p 0, .p 1, .p 5]] 1), (5, .cells [.u ((s + 1) * 4294967296 + b)] 47), (3, .cells [.i (hT xs ys a), .i (hL xs ys a), .u (hM xs ys a)] 49), (2, .cells z8 31), (1, .cells [.u a] 47), (0, .cells (mr W xs ys (r5 s (b + ((hL xs ys a) + 2)) l p q)) 31)], 7⟩ [] trivial ?_
     refine xw_seq ?_
     refine xw_label ?_
     refine an ?_
     refine xw_seq ?_
     refine reg ?_
     refine rk [] 4 0 ⟨[(85, .fn 55 [] [.p 0, .p 1, .p 5, .p 3]), (14, .i 0), (13, .osub 6 1 0 3), (12, .p 5), (6, .i 0), (5, .u 0), (4, .p 2), (2, .p 0)], [(6, .cells [.fn 55 [] [.p 0, .p 1, .p 5, .p 3], .fn 57 [] [.p 0, .p 5], .fn 59 [] [.p 0, .p 1, .p 5]] 1), (5, .cells [.u ((s + 1) * 4294967296 + b)] 47), (3, .cells [.i (hT xs ys a), .i (hL xs ys a), .u (hM xs ys a)] 49), (2, .cells z8 31), (1, .cells [.u a] 47), (0, .cells (mr W xs ys (r5 s (b + ((hL xs ys a) + 2)) l p q)) 31)], 7⟩ [(0 : Int) ≤ 0 ∧ 0 < ((3 : Nat) : Int), True] ⟨(by constructor <;> omega), trivial, trivial⟩ ?_
     refine callx (f := 55) (args := [.p 0, .p 1, .p 5, .p 3]) (d := (some 86)) (by kernel_rfl) (xcall_of TT_ok Try.func55 rfl (by decide) (Nat.le_of_ble_eq_true (by kernel_rfl)) ?_)
     refine sreg hmix [([(6, .cells [.fn 55 [] [.p 0, .p 1, .p 5, .p 3], .fn 57 [] [.p 0, .p 5], .fn 59 [] [.p 0, .p 1, .p 5]] 1), (5, .cells [.u ((s + 1) * 4294967296 + b)] 47), (3, .cells [.i (ldw xs ys a / 72057594037927936), .i ((ldw xs ys a / 4294967296) % 16777216), .u (ldw xs ys a % 4294967296)] 49), (2, .cells z8 31), (1, .cells [.u a] 47), (0, .cells (mr W xs ys (r5 s (b + (((ldw xs ys a / 4294967296) % 16777216) + 2)) l p q)) 31)], 7), ([(6, .cells [.fn 55 [] [.p 0, .p 1, .p 5, .p 3], .fn 57 [] [.p 0, .p 5], .fn 59 [] [.p 0, .p 1, .p 5]] 1), (5, .cells [.u ((s + 1) * 4294967296 + b)] 47), (3, .cells [.i (ldw xs ys a / 72057594037927936), .i ((ldw xs ys a / 4294967296) % 16777216), .u (ldw xs ys a % 4294967296)] 49), (2, .cells z8 31), (1, .cells [.u a] 47), (0, .cells (mr W (mvx xs ys a ((s + 1) * 4294967296 + b) (((ldw xs ys a / 4294967296) % 16777216) + 2)) (mvy xs ys a ((s + 1) * 4294967296 + b) (((ldw xs ys a / 4294967296) % 16777216) + 2)) (r5 s (b + (((ldw xs ys a / 4294967296) % 16777216) + 2)) l p q)) 31)], 7)] [11] [(1, [0]), (5, [4]), (6, [0, 1, 2, 3, 4, 5]), (7, [0, 1, 2, 3, 4, 5, 6]), (8, [0, 1, 2, 3, 4, 5, 6, 7]), (9, [0, 1, 2, 3, 4, 5, 6, 7]), (10, [0, 1, 2, 3, 4, 5, 6, 7, 8]), (11, [0, 1, 2, 3, 4, 5, 6, 7, 8, 10])] (by kernel_rfl) (by kernel_rfl) (by kernel_rfl) (by kernel_rfl) (by kernel_rfl) ?_
     refine sr [] 5 0 [(9, .agg [.i (ldw xs ys a / 72057594037927936), .i ((ldw xs ys a / 4294967296) % 16777216), .u (ldw xs ys a % 4294967296)]), (8, .u ((s + 1) * 4294967296 + b)), (7, .u a), (6, .agg (mm W xs ys)), (5, .p 0), (0, .p 0), (1, .p 1), (2, .p 5), (3, .p 3)] [True, True, True, True, True] ⟨trivial, trivial, trivial, trivial, trivial, trivial⟩ ?_
     refine sc (hwords_2 (ldw xs ys a / 72057594037927936) ((ldw xs ys a / 4294967296) % 16777216) (ldw xs ys a % 4294967296) (by omega) (by omega) (by omega) (by omega) (by omega)) ?_
     refine sc (amove_1 W xs ys a ((s + 1) * 4294967296 + b) (((ldw xs ys a / 4294967296) % 16777216) + 2) ‹_› ‹_› ‹_› ‹_› ‹_› ‹_› (by omega) (by omega) (by omega) (by omega)) ?_
     obtain ⟨h9, h10, h11, h12⟩ := mv_ok W xs ys a ((s + 1) * 4294967296 + b) (((ldw xs ys a / 4294967296) % 16777216) + 2) ‹_› ‹_› ‹_› ‹_› (by omega) (by omega) (by omega)
     refine sr [] 5 7 [(14, .p 0), (13, .i 0), (12, .agg (mm W (mvx xs ys a ((s + 1) * 4294967296 + b) (((ldw xs ys a / 4294967296) % 16777216) + 2)) (mvy xs ys a ((s + 1) * 4294967296 + b) (((ldw xs ys a / 4294967296) % 16777216) + 2)))), (4, .tup [.agg (mm W (mvx xs ys a ((s + 1) * 4294967296 + b) (((ldw xs ys a / 4294967296) % 16777216) + 2)) (mvy xs ys a ((s + 1) * 4294967296 + b) (((ldw xs ys a / 4294967296) % 16777216) + 2))), .i 0]), (11, .tup [.agg (mm W (mvx xs ys a ((s + 1) * 4294967296 + b) (((ldw xs ys a / 4294967296) % 16777216) + 2)) (mvy xs ys a ((s + 1) * 4294967296 + b) (((ldw xs ys a / 4294967296) % 16777216) + 2))), .i 0]), (10, .i (((ldw xs ys a / 4294967296) % 16777216) + 2)), (9, .agg [.i (ldw xs ys a / 72057594037927936), .i ((ldw xs ys a / 4294967296) % 16777216), .u (ldw xs ys a % 4294967296)]), (8, .u ((s + 1) * 4294967296 + b)), (7, .u a), (6, .agg (mm W xs ys)), (5, .p 0), (0, .p 0), (1, .p 1), (2, .p 5), (3, .p 3)] [True, True, True, True, True, ([(6, .cells [.fn 55 [] [.p 0, .p 1, .p 5, .p 3], .fn 57 [] [.p 0, .p 5], .fn 59 [] [.p 0, .p 1, .p 5]] 1), (5, .cells [.u ((s + 1) * 4294967296 + b)] 47), (3, .cells [.i (ldw xs ys a / 72057594037927936), .i ((ldw xs ys a / 4294967296) % 16777216), .u (ldw xs ys a % 4294967296)] 49), (2, .cells z8 31), (1, .cells [.u a] 47), (0, .cells (mr W (mvx xs ys a ((s + 1) * 4294967296 + b) (((ldw xs ys a / 4294967296) % 16777216) + 2)) (mvy xs ys a ((s + 1) * 4294967296 + b) (((ldw xs ys a / 4294967296) % 16777216) + 2)) (r5 s (b + (((ldw xs ys a / 4294967296) % 16777216) + 2)) l p q)) 31)] : Mem) = [(6, .cells [.fn 55 [] [.p 0, .p 1, .p 5, .p 3], .fn 57 [] [.p 0, .p 5], .fn 59 [] [.p 0, .p 1, .p 5]] 1), (5, .cells [.u ((s + 1) * 4294967296 + b)] 47), (3, .cells [.i (ldw xs ys a / 72057594037927936), .i ((ldw xs ys a / 4294967296) % 16777216), .u (ldw xs ys a % 4294967296)] 49), (2, .cells z8 31), (1, .cells [.u a] 47), (0, .cells (mr W (mvx xs ys a ((s + 1) * 4294967296 + b) (((ldw xs ys a / 4294967296) % 16777216) + 2)) (mvy xs ys a ((s + 1) * 4294967296 + b) (((ldw xs ys a / 4294967296) % 16777216) + 2)) (r5 s (b + (((ldw xs ys a / 4294967296) % 16777216) + 2)) l p q)) 31)], (7 : Nat) = 7] ⟨trivial, trivial, trivial, trivial, trivial, rfl, rfl, trivial⟩ ?_
     refine sen ?_
     refine ⟨.tup [], by kernel_rfl, ?_⟩
     show XOi _ _ _ _ _ _ _ ⟨[(86, .tup []), (85, .fn 55 [] [.loc 0 0, .loc 1 0, .loc 5 0, .loc 3 0]), (14, .int .i64 0), (13, .osub 6 1 0 3), (12, .loc 5 0), (6, .int .i64 0), (5, .int .u64 0), (4, .loc 2 0), (2, .loc 0 0)], [(6, .cells [.fn 55 [] [.loc 0 0, .loc 1 0, .loc 5 0, .loc 3 0], .fn 57 [] [.loc 0 0, .loc 5 0], .fn 59 [] [.loc 0 0, .loc 1 0, .loc 5 0]] 1), (5, .cells [.int .u64 ((s + 1) * 4294967296 + b)] 47), (3, .cells [.int .i64 (ldw xs ys a / 72057594037927936), .int .i64 ((ldw xs ys a / 4294967296) % 16777216), .int .u64 (ldw xs ys a % 4294967296)] 49), (2, .cells [.int .i64 0, .nils, .nils, .int .i64 0, .int .i64 0, .int .i64 0, .int .i64 0, .int .i64 0] 31), (1, .cells [.int .u64 a] 47), (0, .cells (mr W (mvx xs ys a ((s + 1) * 4294967296 + b) (((ldw xs ys a / 4294967296) % 16777216) + 2)) (mvy xs ys a ((s + 1) * 4294967296 + b) (((ldw xs ys a / 4294967296) % 16777216) + 2)) [.int .i64 s, .int .i64 (b + (((ldw xs ys a / 4294967296) % 16777216) + 2)), .int .i64 l, .int .i64 p, .int .i64 q]) 31)], 7⟩
     refine en ?_
     refine an ?_
     refine rg [(1, .i 1)] 3 ⟨[(14, .i 1), (13, .osub 6 1 0 3), (12, .p 5), (6, .i 0), (5, .u 0), (4, .p 2), (2, .p 0)], [(6, .cells [.fn 55 [] [.p 0, .p 1, .p 5, .p 3], .fn 57 [] [.p 0, .p 5], .fn 59 [] [.p 0, .p 1, .p 5]] 1), (5, .cells [.u ((s + 1) * 4294967296 + b)] 47), (3, .cells [.i (hT xs ys a), .i (hL xs ys a), .u (hM xs ys a)] 49), (2, .cells z8 31), (1, .cells [.u a] 47), (0, .cells (mr W (mvx xs ys a ((s + 1) * 4294967296 + b) ((hL xs ys a) + 2)) (mvy xs ys a ((s + 1) * 4294967296 + b) ((hL xs ys a) + 2)) (r5 s (b + ((hL xs ys a) + 2)) l p q)) 31)], 7⟩ [IntKind.i64.wrap (0 + 1) = 1] ⟨rfl, trivial⟩ ?_
     refine xw_seq ?_
     refine rg [(2, .i 3), (3, .t)] 4 ⟨[(92, .t), (14, .i 1), (13, .osub 6 1 0 3), (12, .p 5), (6, .i 0), (5, .u 0), (4, .p 2), (2, .p 0)], [(6, .cells [.fn 55 [] [.p 0, .p 1, .p 5, .p 3], .fn 57 [] [.p 0, .p 5], .fn 59 [] [.p 0, .p 1, .p 5]] 1), (5, .cells [.u ((s + 1) * 4294967296 + b)] 47), (3, .cells [.i (hT xs ys a), .i (hL xs ys a), .u (hM xs ys a)] 49), (2, .cells z8 31), (1, .cells [.u a] 47), (0, .cells (mr W (mvx xs ys a ((s + 1) * 4294967296 + b) ((hL xs ys a) + 2)) (mvy xs ys a ((s + 1) * 4294967296 + b) ((hL xs ys a) + 2)) (r5 s (b + ((hL xs ys a) + 2)) l p q)) 31)], 7⟩ [(((3 : Nat) : Nat) : Int) = 3, (decide (1 < 3)) = true] ⟨rfl, decide_eq_true (by omega), trivial⟩ ?_
     refine ct ?_
     refine xw_goto ?_
     refine an_goto ?_
     refine juu ?_
     refine uj_step ?_
     refine xw_seq ?_
     refine xw_skip ?_
     refine an ?_
     refine xw_seq ?_
     refine reg ?_
     refine rk [] 4 0 ⟨[(85, .fn 57 [] [.p 0, .p 5]), (14, .i 1), (13, .osub 6 1 0 3), (12, .p 5), (6, .i 0), (5, .u 0), (4, .p 2), (2, .p 0)], [(6, .cells [.fn 55 [] [.p 0, .p 1, .p 5, .p 3], .fn 57 [] [.p 0, .p 5], .fn 59 [] [.p 0, .p 1, .p 5]] 1), (5, .cells [.u ((s + 1) * 4294967296 + b)] 47), (3, .cells [.i (hT xs ys a), .i (hL xs ys a), .u (hM xs ys a)] 49), (2, .cells z8 31), (1, .cells [.u a] 47), (0, .cells (mr W (mvx xs ys a ((s + 1) * 4294967296 + b) ((hL xs ys a) + 2)) (mvy xs ys a ((s + 1) * 4294967296 + b) ((hL xs ys a) + 2)) (r5 s (b + ((hL xs ys a) + 2)) l p q)) 31)], 7⟩ [(0 : Int) ≤ 1 ∧ 1 < ((3 : Nat) : Int), True] ⟨(by constructor <;> omega), trivial, trivial⟩ ?_
     refine callx (f := 57) (args := [.p 0, .p 5]) (d := (some 86)) (by kernel_rfl) (xcall_of TT_ok Try.func57 rfl (by decide) (Nat.le_of_ble_eq_true (by kernel_rfl)) ?_)
     refine reg ?_
     refine rk [(3, .i (((s + 1) * 4294967296 + b) + 1))] 4 0 ⟨[(6, .u (((s + 1) * 4294967296 + b) + 1)), (4, .agg (mm W (mvx xs ys a ((s + 1) * 4294967296 + b) ((hL xs ys a) + 2)) (mvy xs ys a ((s + 1) * 4294967296 + b) ((hL xs ys a) + 2)))), (0, .p 0)], [(6, .cells [.fn 55 [] [.p 0, .p 1, .p 5, .p 3], .fn 57 [] [.p 0, .p 5], .fn 59 [] [.p 0, .p 1, .p 5]] 1), (5, .cells [.u ((s + 1) * 4294967296 + b)] 47), (3, .cells [.i (hT xs ys a), .i (hL xs ys a), .u (hM xs ys a)] 49), (2, .cells z8 31), (1, .cells [.u a] 47), (0, .cells (mr W (mvx xs ys a ((s + 1) * 4294967296 + b) ((hL xs ys a) + 2)) (mvy xs ys a ((s + 1) * 4294967296 + b) ((hL xs ys a) + 2)) (r5 s (b + ((hL xs ys a) + 2)) l p q)) 31)], 7⟩ [True, True, IntKind.u64.wrap (((s + 1) * 4294967296 + b) + 1) = (((s + 1) * 4294967296 + b) + 1)] ⟨trivial, trivial, u64_eq (by omega) (by omega), trivial⟩ ?_
     refine pc (store_1 W (mvx xs ys a ((s + 1) * 4294967296 + b) (((ldw xs ys a / 4294967296) % 16777216) + 2)) (mvy xs ys a ((s + 1) * 4294967296 + b) (((ldw xs ys a / 4294967296) % 16777216) + 2)) (((s + 1) * 4294967296 + b) + 1) 0 ‹_› ‹_› ‹_› ‹_› ‹_› (by omega) (by omega) (by omega)) ?_
     obtain ⟨h13, h14, h15, h16⟩ := stx_ok W (mvx xs ys a ((s + 1) * 4294967296 + b) (((ldw xs ys a / 4294967296) % 16777216) + 2)) (mvy xs ys a ((s + 1) * 4294967296 + b) (((ldw xs ys a / 4294967296) % 16777216) + 2)) (((s + 1) * 4294967296 + b) + 1) 0 ‹_› ‹_› ‹_› ‹_› (by omega)
     have h17 : (ldw (stx (mvx xs ys a ((s + 1) * 4294967296 + b) (((ldw xs ys a / 4294967296) % 16777216) + 2)) (((s + 1) * 4294967296 + b) + 1) 0) (sty (mvy xs ys a ((s + 1) * 4294967296 + b) (((ldw xs ys a / 4294967296) % 16777216) + 2)) (((s + 1) * 4294967296 + b) + 1) 0) a) = (ldw xs ys a) := tw_pre (show (xs.length : Int) = W by omega) (by omega) (by omega) (by omega) (by omega) (by omega) (by omega) (by omega)
     have h18 : (ldw (stx (mvx xs ys a ((s + 1) * 4294967296 + b) (((ldw xs ys a / 4294967296) % 16777216) + 2)) (((s + 1) * 4294967296 + b) + 1) 0) (sty (mvy xs ys a ((s + 1) * 4294967296 + b) (((ldw xs ys a / 4294967296) % 16777216) + 2)) (((s + 1) * 4294967296 + b) + 1) 0) (a + 1)) = (ldw xs ys (a + 1)) := tw_pre (show (xs.length : Int) = W by omega) (by omega) (by omega) (by omega) (by omega) (by omega) (by omega) (by omega)
     have h19 : (oErr W (stx (mvx xs ys a ((s + 1) * 4294967296 + b) (((ldw xs ys a / 4294967296) % 16777216) + 2)) (((s + 1) * 4294967296 + b) + 1) 0) (sty (mvy xs ys a ((s + 1) * 4294967296 + b) (((ldw xs ys a / 4294967296) % 16777216) + 2)) (((s + 1) * 4294967296 + b) + 1) 0) a) = (oErr W xs ys a) := oErr_cong (by omega)
     refine rk [] 5 5 ⟨[], [(6, .cells [.fn 55 [] [.p 0, .p 1, .p 5, .p 3], .fn 57 [] [.p 0, .p 5], .fn 59 [] [.p 0, .p 1, .p 5]] 1), (5, .cells [.u ((s + 1) * 4294967296 + b)] 47), (3, .cells [.i (hT xs ys a), .i (hL xs ys a), .u (hM xs ys a)] 49), (2, .cells z8 31), (1, .cells [.u a] 47), (0, .cells (mr W (stx (mvx xs ys a ((s + 1) * 4294967296 + b) ((hL xs ys a) + 2)) (((s + 1) * 4294967296 + b) + 1) 0) (sty (mvy xs ys a ((s + 1) * 4294967296 + b) ((hL xs ys a) + 2)) (((s + 1) * 4294967296 + b) + 1) 0) (r5 s (b + ((hL xs ys a) + 2)) l p q)) 31)], 7⟩ [True] ⟨trivial, trivial⟩ ?_
     refine en ?_
     refine ⟨.tup [], by kernel_rfl, ?_⟩
     show XOi _ _ _ _ _ _ _ ⟨[(86, .tup []), (85, .fn 57 [] [.loc 0 0, .loc 5 0]), (14, .int .i64 1), (13, .osub 6 1 0 3), (12, .loc 5 0), (6, .int .i64 0), (5, .int .u64 0), (4, .loc 2 0), (2, .loc 0 0)], [(6, .cells [.fn 55 [] [.loc 0 0, .loc 1 0, .loc 5 0, .loc 3 0], .fn 57 [] [.loc 0 0, .loc 5 0], .fn 59 [] [.loc 0 0, .loc 1 0, .loc 5 0]] 1), (5, .cells [.int .u64 ((s + 1) * 4294967296 + b)] 47), (3, .cells [.int .i64 (ldw xs ys a / 72057594037927936), .int .i64 ((ldw xs ys a / 4294967296) % 16777216), .int .u64 (ldw xs ys a % 4294967296)] 49), (2, .cells [.int .i64 0, .nils, .nils, .int .i64 0, .int .i64 0, .int .i64 0, .int .i64 0, .int .i64 0] 31), (1, .cells [.int .u64 a] 47), (0, .cells (mr W (stx (mvx xs ys a ((s + 1) * 4294967296 + b) (((ldw xs ys a / 4294967296) % 16777216) + 2)) (((s + 1) * 4294967296 + b) + 1) 0) (sty (mvy xs ys a ((s + 1) * 4294967296 + b) (((ldw xs ys a / 4294967296) % 16777216) + 2)) (((s + 1) * 4294967296 + b) + 1) 0) [.int .i64 s, .int .i64 (b + (((ldw xs ys a / 4294967296) % 16777216) + 2)), .int .i64 l, .int .i64 p, .int .i64 q]) 31)], 7⟩
     refine en ?_
     refine an ?_
     refine rg [(1, .i 2)] 3 ⟨[(14, .i 2), (13, .osub 6 1 0 3), (12, .p 5), (6, .i 0), (5, .u 0), (4, .p 2), (2, .p 0)], [(6, .cells [.fn 55 [] [.p 0, .p 1, .p 5, .p 3], .fn 57 [] [.p 0, .p 5], .fn 59 [] [.p 0, .p 1, .p 5]] 1), (5, .cells [.u ((s + 1) * 4294967296 + b)] 47), (3, .cells [.i (hT xs ys a), .i (hL xs ys a), .u (hM xs ys a)] 49), (2, .cells z8 31), (1, .cells [.u a] 47), (0, .cells (mr W (stx (mvx xs ys a ((s + 1) * 4294967296 + b) ((hL xs ys a) + 2)) (((s + 1) * 4294967296 + b) + 1) 0) (sty (mvy xs ys a ((s + 1) * 4294967296 + b) ((hL xs ys a) + 2)) (((s + 1) * 4294967296 + b) + 1) 0) (r5 s (b + ((hL xs ys a) + 2)) l p q)) 31)], 7⟩ [IntKind.i64.wrap (1 + 1) = 2] ⟨rfl, trivial⟩ ?_
     refine xw_seq ?_
     refine rg [(2, .i 3), (3, .t)] 4 ⟨[(92, .t), (14, .i 2), (13, .osub 6 1 0 3), (12, .p 5), (6, .i 0), (5, .u 0), (4, .p 2), (2, .p 0)], [(6, .cells [.fn 55 [] [.p 0, .p 1, .p 5, .p 3], .fn 57 [] [.p 0, .p 5], .fn 59 [] [.p 0, .p 1, .p 5]] 1), (5, .cells [.u ((s + 1) * 4294967296 + b)] 47), (3, .cells [.i (hT xs ys a), .i (hL xs ys a), .u (hM xs ys a)] 49), (2, .cells z8 31), (1, .cells [.u a] 47), (0, .cells (mr W (stx (mvx xs ys a ((s + 1) * 4294967296 + b) ((hL xs ys a) + 2)) (((s + 1) * 4294967296 + b) + 1) 0) (sty (mvy xs ys a ((s + 1) * 4294967296 + b) ((hL xs ys a) + 2)) (((s + 1) * 4294967296 + b) + 1) 0) (r5 s (b + ((hL xs ys a) + 2)) l p q)) 31)], 7⟩ [(((3 : Nat) : Nat) : Int) = 3, (decide (2 < 3)) = true] ⟨rfl, decide_eq_true (by omega), trivial⟩ ?_
     refine ct ?_
     refine xw_goto ?_
     refine an_goto ?_
     refine juu ?_
     refine uj_step ?_
     refine xw_seq ?_
     refine xw_skip ?_
     refine an ?_
     refine xw_seq ?_
     refine reg ?_
     refine rk [] 4 0 ⟨[(85, .fn 59 [] [.p 0, .p 1, .p 5]), (14, .i 2), (13, .osub 6 1 0 3), (12, .p 5), (6, .i 0), (5, .u 0), (4, .p 2), (2, .p 0)], [(6, .cells [.fn 55 [] [.p 0, .p 1, .p 5, .p 3], .fn 57 [] [.p 0, .p 5], .fn 59 [] [.p 0, .p 1, .p 5]] 1), (5, .cells [.u ((s + 1) * 4294967296 + b)] 47), (3, .cells [.i (hT xs ys a), .i (hL xs ys a), .u (hM xs ys a)] 49), (2, .cells z8 31), (1, .cells [.u a] 47), (0, .cells (mr W (stx (mvx xs ys a ((s + 1) * 4294967296 + b) ((hL xs ys a) + 2)) (((s + 1) * 4294967296 + b) + 1) 0) (sty (mvy xs ys a ((s + 1) * 4294967296 + b) ((hL xs ys a) + 2)) (((s + 1) * 4294967296 + b) + 1) 0) (r5 s (b + ((hL xs ys a) + 2)) l p q)) 31)], 7⟩ [(0 : Int) ≤ 2 ∧ 2 < ((3 : Nat) : Int), True] ⟨(by constructor <;> omega), trivial, trivial⟩ ?_
     refine callx (f := 59) (args := [.p 0, .p 1, .p 5]) (d := (some 86)) (by kernel_rfl) (xcall_of TT_ok Try.func59 rfl (by decide) (Nat.le_of_ble_eq_true (by kernel_rfl)) ?_)
     refine reg ?_
     refine rk [] 4 0 ⟨[(7, .u ((s + 1) * 4294967296 + b)), (6, .u a), (5, .agg (mm W (stx (mvx xs ys a ((s + 1) * 4294967296 + b) ((hL xs ys a) + 2)) (((s + 1) * 4294967296 + b) + 1) 0) (sty (mvy xs ys a ((s + 1) * 4294967296 + b) ((hL xs ys a) + 2)) (((s + 1) * 4294967296 + b) + 1) 0))), (0, .p 0)], [(6, .cells [.fn 55 [] [.p 0, .p 1, .p 5, .p 3], .fn 57 [] [.p 0, .p 5], .fn 59 [] [.p 0, .p 1, .p 5]] 1), (5, .cells [.u ((s + 1) * 4294967296 + b)] 47), (3, .cells [.i (hT xs ys a), .i (hL xs ys a), .u (hM xs ys a)] 49), (2, .cells z8 31), (1, .cells [.u a] 47), (0, .cells (mr W (stx (mvx xs ys a ((s + 1) * 4294967296 + b) ((hL xs ys a) + 2)) (((s + 1) * 4294967296 + b) + 1) 0) (sty (mvy xs ys a ((s + 1) * 4294967296 + b) ((hL xs ys a) + 2)) (((s + 1) * 4294967296 + b) + 1) 0) (r5 s (b + ((hL xs ys a) + 2)) l p q)) 31)], 7⟩ [True, True, True] ⟨trivial, trivial, trivial, trivial⟩ ?_
     refine pc (ojoin_1 W (stx (mvx xs ys a ((s + 1) * 4294967296 + b) (((ldw xs ys a / 4294967296) % 16777216) + 2)) (((s + 1) * 4294967296 + b) + 1) 0) (sty (mvy xs ys a ((s + 1) * 4294967296 + b) (((ldw xs ys a / 4294967296) % 16777216) + 2)) (((s + 1) * 4294967296 + b) + 1) 0) a ((s + 1) * 4294967296 + b) ‹_› ‹_› ‹_› ‹_› ‹_› ‹_› (by omega) (by omega) (by omega) (by omega)) ?_
     obtain ⟨h20, h21, h22⟩ := oErr_ok W (stx (mvx xs ys a ((s + 1) * 4294967296 + b) (((ldw xs ys a / 4294967296) % 16777216) + 2)) (((s + 1) * 4294967296 + b) + 1) 0) (sty (mvy xs ys a ((s + 1) * 4294967296 + b) (((ldw xs ys a / 4294967296) % 16777216) + 2)) (((s + 1) * 4294967296 + b) + 1) 0) a (by omega)
     obtain ⟨h23, h24, h25, h26⟩ := stx_ok W (stx (mvx xs ys a ((s + 1) * 4294967296 + b) (((ldw xs ys a / 4294967296) % 16777216) + 2)) (((s + 1) * 4294967296 + b) + 1) 0) (sty (mvy xs ys a ((s + 1) * 4294967296 + b) (((ldw xs ys a / 4294967296) % 16777216) + 2)) (((s + 1) * 4294967296 + b) + 1) 0) (a + 1) ((s + 1) * 4294967296 + b) ‹_› ‹_› ‹_› ‹_› (by omega)
     refine rk [] 6 5 ⟨[], [(6, .cells [.fn 55 [] [.p 0, .p 1, .p 5, .p 3], .fn 57 [] [.p 0, .p 5], .fn 59 [] [.p 0, .p 1, .p 5]] 1), (5, .cells [.u ((s + 1) * 4294967296 + b)] 47), (3, .cells [.i (hT xs ys a), .i (hL xs ys a), .u (hM xs ys a)] 49), (2, .cells z8 31), (1, .cells [.u a] 47), (0, .cells (mr W (stx (stx (mvx xs ys a ((s + 1) * 4294967296 + b) ((hL xs ys a) + 2)) (((s + 1) * 4294967296 + b) + 1) 0) (a + 1) ((s + 1) * 4294967296 + b)) (sty (sty (mvy xs ys a ((s + 1) * 4294967296 + b) ((hL xs ys a) + 2)) (((s + 1) * 4294967296 + b) + 1) 0) (a + 1) ((s + 1) * 4294967296 + b)) (r5 s (b + ((hL xs ys a) + 2)) l p q)) 31)], 7⟩ [True] ⟨trivial, trivial⟩ ?_
     refine en ?_
     refine ⟨.tup [], by kernel_rfl, ?_⟩
     show XOi _ _ _ _ _ _ _ ⟨[(86, .tup []), (85, .fn 59 [] [.loc 0 0, .loc 1 0, .loc 5 0]), (14, .int .i64 2), (13, .osub 6 1 0 3), (12, .loc 5 0), (6, .int .i64 0), (5, .int .u64 0), (4, .loc 2 0), (2, .loc 0 0)], [(6, .cells [.fn 55 [] [.loc 0 0, .loc 1 0, .loc 5 0, .loc 3 0], .fn 57 [] [.loc 0 0, .loc 5 0], .fn 59 [] [.loc 0 0, .loc 1 0, .loc 5 0]] 1), (5, .cells [.int .u64 ((s + 1) * 4294967296 + b)] 47), (3, .cells [.int .i64 (ldw xs ys a / 72057594037927936), .int .i64 ((ldw xs ys a / 4294967296) % 16777216), .int .u64 (ldw xs ys a % 4294967296)] 49), (2, .cells [.int .i64 0, .nils, .nils, .int .i64 0, .int .i64 0, .int .i64 0, .int .i64 0, .int .i64 0] 31), (1, .cells [.int .u64 a] 47), (0, .cells (mr W (stx (stx (mvx xs ys a ((s + 1) * 4294967296 + b) (((ldw xs ys a / 4294967296) % 16777216) + 2)) (((s + 1) * 4294967296 + b) + 1) 0) (a + 1) ((s + 1) * 4294967296 + b)) (sty (sty (mvy xs ys a ((s + 1) * 4294967296 + b) (((ldw xs ys a / 4294967296) % 16777216) + 2)) (((s + 1) * 4294967296 + b) + 1) 0) (a + 1) ((s + 1) * 4294967296 + b)) [.int .i64 s, .int .i64 (b + (((ldw xs ys a / 4294967296) % 16777216) + 2)), .int .i64 l, .int .i64 p, .int .i64 q]) 31)], 7⟩
     refine en ?_
     refine an ?_
     refine rg [(1, .i 3)] 3 ⟨[(14, .i 3), (13, .osub 6 1 0 3), (12, .p 5), (6, .i 0), (5, .u 0), (4, .p 2), (2, .p 0)], [(6, .cells [.fn 55 [] [.p 0, .p 1, .p 5, .p 3], .fn 57 [] [.p 0, .p 5], .fn 59 [] [.p 0, .p 1, .p 5]] 1), (5, .cells [.u ((s + 1) * 4294967296 + b)] 47), (3, .cells [.i (hT xs ys a), .i (hL xs ys a), .u (hM xs ys a)] 49), (2, .cells z8 31), (1, .cells [.u a] 47), (0, .cells (mr W (stx (stx (mvx xs ys a ((s + 1) * 4294967296 + b) ((hL xs ys a) + 2)) (((s + 1) * 4294967296 + b) + 1) 0) (a + 1) ((s + 1) * 4294967296 + b)) (sty (sty (mvy xs ys a ((s + 1) * 4294967296 + b) ((hL xs ys a) + 2)) (((s + 1) * 4294967296 + b) + 1) 0) (a + 1) ((s + 1) * 4294967296 + b)) (r5 s (b + ((hL xs ys a) + 2)) l p q)) 31)], 7⟩ [IntKind.i64.wrap (2 + 1) = 3] ⟨rfl, trivial⟩ ?_
     refine xw_seq ?_
     refine rg [(2, .i 3), (3, .f)] 4 ⟨[(92, .f), (14, .i 3), (13, .osub 6 1 0 3), (12, .p 5), (6, .i 0), (5, .u 0), (4, .p 2), (2, .p 0)], [(6, .cells [.fn 55 [] [.p 0, .p 1, .p 5, .p 3], .fn 57 [] [.p 0, .p 5], .fn 59 [] [.p 0, .p 1, .p 5]] 1), (5, .cells [.u ((s + 1) * 4294967296 + b)] 47), (3, .cells [.i (hT xs ys a), .i (hL xs ys a), .u (hM xs ys a)] 49), (2, .cells z8 31), (1, .cells [.u a] 47), (0, .cells (mr W (stx (stx (mvx xs ys a ((s + 1) * 4294967296 + b) ((hL xs ys a) + 2)) (((s + 1) * 4294967296 + b) + 1) 0) (a + 1) ((s + 1) * 4294967296 + b)) (sty (sty (mvy xs ys a ((s + 1) * 4294967296 + b) ((hL xs ys a) + 2)) (((s + 1) * 4294967296 + b) + 1) 0) (a + 1) ((s + 1) * 4294967296 + b)) (r5 s (b + ((hL xs ys a) + 2)) l p q)) 31)], 7⟩ [(((3 : Nat) : Nat) : Int) = 3, (decide (3 < 3)) = false] ⟨rfl, decide_eq_false (by omega), trivial⟩ ?_
     refine cf ?_
     refine xw_skip ?_
     refine an ?_
     refine xw_seq ?_
     refine sreg hmix [([(6, .cells [.fn 55 [] [.p 0, .p 1, .p 5, .p 3], .fn 57 [] [.p 0, .p 5], .fn 59 [] [.p 0, .p 1, .p 5]] 1), (5, .cells [.u ((s + 1) * 4294967296 + b)] 47), (3, .cells [.i (ldw xs ys a / 72057594037927936), .i ((ldw xs ys a / 4294967296) % 16777216), .u (ldw xs ys a % 4294967296)] 49), (2, .cells z8 31), (1, .cells [.u a] 47), (0, .cells (mr W (stx (stx (mvx xs ys a ((s + 1) * 4294967296 + b) (((ldw xs ys a / 4294967296) % 16777216) + 2)) (((s + 1) * 4294967296 + b) + 1) 0) (a + 1) ((s + 1) * 4294967296 + b)) (sty (sty (mvy xs ys a ((s + 1) * 4294967296 + b) (((ldw xs ys a / 4294967296) % 16777216) + 2)) (((s + 1) * 4294967296 + b) + 1) 0) (a + 1) ((s + 1) * 4294967296 + b)) (r5 s (b + (((ldw xs ys a / 4294967296) % 16777216) + 2)) l p q)) 31)], 7), ([(6, .cells [.fn 55 [] [.p 0, .p 1, .p 5, .p 3], .fn 57 [] [.p 0, .p 5], .fn 59 [] [.p 0, .p 1, .p 5]] 1), (5, .cells [.u ((s + 1) * 4294967296 + b)] 47), (3, .cells [.i (ldw xs ys a / 72057594037927936), .i ((ldw xs ys a / 4294967296) % 16777216), .u (ldw xs ys a % 4294967296)] 49), (2, .cells (mr W (stx (stx (mvx xs ys a ((s + 1) * 4294967296 + b) (((ldw xs ys a / 4294967296) % 16777216) + 2)) (((s + 1) * 4294967296 + b) + 1) 0) (a + 1) ((s + 1) * 4294967296 + b)) (sty (sty (mvy xs ys a ((s + 1) * 4294967296 + b) (((ldw xs ys a / 4294967296) % 16777216) + 2)) (((s + 1) * 4294967296 + b) + 1) 0) (a + 1) ((s + 1) * 4294967296 + b)) (r5 s (b + (((ldw xs ys a / 4294967296) % 16777216) + 2)) l p q)) 31), (1, .cells [.u a] 47), (0, .cells (mr W (stx (stx (mvx xs ys a ((s + 1) * 4294967296 + b) (((ldw xs ys a / 4294967296) % 16777216) + 2)) (((s + 1) * 4294967296 + b) + 1) 0) (a + 1) ((s + 1) * 4294967296 + b)) (sty (sty (mvy xs ys a ((s + 1) * 4294967296 + b) (((ldw xs ys a / 4294967296) % 16777216) + 2)) (((s + 1) * 4294967296 + b) + 1) 0) (a + 1) ((s + 1) * 4294967296 + b)) (r5 s (b + (((ldw xs ys a / 4294967296) % 16777216) + 2)) l p q)) 31)], 7)] [2] [(2, [0]), (3, [0, 1, 2]), (4, [0, 1, 2, 3])] (by kernel_rfl) (by kernel_rfl) (by kernel_rfl) (by kernel_rfl) (by kernel_rfl) ?_
     refine sr [] 5 0 [(6, .i 0), (5, .u ((s + 1) * 4294967296 + b)), (94, .u ((s + 1) * 4294967296 + b)), (93, .agg (mr W (stx (stx (mvx xs ys a ((s + 1) * 4294967296 + b) (((ldw xs ys a / 4294967296) % 16777216) + 2)) (((s + 1) * 4294967296 + b) + 1) 0) (a + 1) ((s + 1) * 4294967296 + b)) (sty (sty (mvy xs ys a ((s + 1) * 4294967296 + b) (((ldw xs ys a / 4294967296) % 16777216) + 2)) (((s + 1) * 4294967296 + b) + 1) 0) (a + 1) ((s + 1) * 4294967296 + b)) (r5 s (b + (((ldw xs ys a / 4294967296) % 16777216) + 2)) l p q))), (92, .f), (14, .i 3), (13, .osub 6 1 0 3), (12, .p 5), (6, .i 0), (5, .u 0), (4, .p 2), (2, .p 0)] [True, True, (SV.int .u64 ((s + 1) * 4294967296 + b)) = SV.int .u64 ((s + 1) * 4294967296 + b), True, True, ([(6, .cells [.fn 55 [] [.p 0, .p 1, .p 5, .p 3], .fn 57 [] [.p 0, .p 5], .fn 59 [] [.p 0, .p 1, .p 5]] 1), (5, .cells [.u ((s + 1) * 4294967296 + b)] 47), (3, .cells [.i (ldw xs ys a / 72057594037927936), .i ((ldw xs ys a / 4294967296) % 16777216), .u (ldw xs ys a % 4294967296)] 49), (2, .cells (mr W (stx (stx (mvx xs ys a ((s + 1) * 4294967296 + b) (((ldw xs ys a / 4294967296) % 16777216) + 2)) (((s + 1) * 4294967296 + b) + 1) 0) (a + 1) ((s + 1) * 4294967296 + b)) (sty (sty (mvy xs ys a ((s + 1) * 4294967296 + b) (((ldw xs ys a / 4294967296) % 16777216) + 2)) (((s + 1) * 4294967296 + b) + 1) 0) (a + 1) ((s + 1) * 4294967296 + b)) (r5 s (b + (((ldw xs ys a / 4294967296) % 16777216) + 2)) l p q)) 31), (1, .cells [.u a] 47), (0, .cells (mr W (stx (stx (mvx xs ys a ((s + 1) * 4294967296 + b) (((ldw xs ys a / 4294967296) % 16777216) + 2)) (((s + 1) * 4294967296 + b) + 1) 0) (a + 1) ((s + 1) * 4294967296 + b)) (sty (sty (mvy xs ys a ((s + 1) * 4294967296 + b) (((ldw xs ys a / 4294967296) % 16777216) + 2)) (((s + 1) * 4294967296 + b) + 1) 0) (a + 1) ((s + 1) * 4294967296 + b)) (r5 s (b + (((ldw xs ys a / 4294967296) % 16777216) + 2)) l p q)) 31)] : Mem) = [(6, .cells [.fn 55 [] [.p 0, .p 1, .p 5, .p 3], .fn 57 [] [.p 0, .p 5], .fn 59 [] [.p 0, .p 1, .p 5]] 1), (5, .cells [.u ((s + 1) * 4294967296 + b)] 47), (3, .cells [.i (ldw xs ys a / 72057594037927936), .i ((ldw xs ys a / 4294967296) % 16777216), .u (ldw xs ys a % 4294967296)] 49), (2, .cells (mr W (stx (stx (mvx xs ys a ((s + 1) * 4294967296 + b) (((ldw xs ys a / 4294967296) % 16777216) + 2)) (((s + 1) * 4294967296 + b) + 1) 0) (a + 1) ((s + 1) * 4294967296 + b)) (sty (sty (mvy xs ys a ((s + 1) * 4294967296 + b) (((ldw xs ys a / 4294967296) % 16777216) + 2)) (((s + 1) * 4294967296 + b) + 1) 0) (a + 1) ((s + 1) * 4294967296 + b)) (r5 s (b + (((ldw xs ys a / 4294967296) % 16777216) + 2)) l p q)) 31), (1, .cells [.u a] 47), (0, .cells (mr W (stx (stx (mvx xs ys a ((s + 1) * 4294967296 + b) (((ldw xs ys a / 4294967296) % 16777216) + 2)) (((s + 1) * 4294967296 + b) + 1) 0) (a + 1) ((s + 1) * 4294967296 + b)) (sty (sty (mvy xs ys a ((s + 1) * 4294967296 + b) (((ldw xs ys a / 4294967296) % 16777216) + 2)) (((s + 1) * 4294967296 + b) + 1) 0) (a + 1) ((s + 1) * 4294967296 + b)) (r5 s (b + (((ldw xs ys a / 4294967296) % 16777216) + 2)) l p q)) 31)], (7 : Nat) = 7, True, True] ⟨trivial, trivial, rfl, trivial, trivial, rfl, rfl, trivial, trivial, trivial⟩ ?_
     refine sen ?_
     refine an ?_
     refine xw_ret ?_
     refine juu_ret ?_
     exact br (.tup [.agg (mr W (stx (stx (mvx xs ys a ((s + 1) * 4294967296 + b) (((ldw xs ys a / 4294967296) % 16777216) + 2)) (((s + 1) * 4294967296 + b) + 1) 0) (a + 1) ((s + 1) * 4294967296 + b)) (sty (sty (mvy xs ys a ((s + 1) * 4294967296 + b) (((ldw xs ys a / 4294967296) % 16777216) + 2)) (((s + 1) * 4294967296 + b) + 1) 0) (a + 1) ((s + 1) * 4294967296 + b)) (r5 s (b + (((ldw xs ys a / 4294967296) % 16777216) + 2)) l p q)), .u ((s + 1) * 4294967296 + b), .i 0]) (.tup [.agg (mr W (tX xs ys a ((s + 1) * 4294967296 + b) (((ldw xs ys a / 4294967296) % 16777216) + 2)) (tY xs ys a ((s + 1) * 4294967296 + b) (((ldw xs ys a / 4294967296) % 16777216) + 2)) (r5 s (b + (((ldw xs ys a / 4294967296) % 16777216) + 2)) l p q)), .u ((s + 1) * 4294967296 + b), .i 0]) (wkd [(W : Int) = W, (false = true → false = true), (m64 (stx (stx (mvx xs ys a ((s + 1) * 4294967296 + b) (((ldw xs ys a / 4294967296) % 16777216) + 2)) (((s + 1) * 4294967296 + b) + 1) 0) (a + 1) ((s + 1) * 4294967296 + b))) = (m64 (tX xs ys a ((s + 1) * 4294967296 + b) (((ldw xs ys a / 4294967296) % 16777216) + 2))), (false = true → false = true), (m64 (sty (sty (mvy xs ys a ((s + 1) * 4294967296 + b) (((ldw xs ys a / 4294967296) % 16777216) + 2)) (((s + 1) * 4294967296 + b) + 1) 0) (a + 1) ((s + 1) * 4294967296 + b))) = (m64 (tY xs ys a ((s + 1) * 4294967296 + b) (((ldw xs ys a / 4294967296) % 16777216) + 2))), (s : Int) = s, ((b + (((ldw xs ys a / 4294967296) % 16777216) + 2)) : Int) = (b + (((ldw xs ys a / 4294967296) % 16777216) + 2)), (l : Int) = l, (p : Int) = p, (q : Int) = q, (((s + 1) * 4294967296 + b) : Int) = ((s + 1) * 4294967296 + b), (0 : Int) = 0] (by kernel_rfl) ⟨rfl, id, (by first | rfl | omega), id, (by first | rfl | omega), rfl, rfl, rfl, rfl, rfl, rfl, rfl, trivial⟩) (Or.inr <| Or.inr <| Or.inr <| Or.inr <| Or.inr <| Or.inr <| Or.inr <| ⟨(by omega), (by omega), (by omega), (by omega), (by omega), (by omega), rfl⟩)
    ·
     refine ureg hmix [4, 5] [⟨[(3, .cells [.i (hT xs ys a), .i (hL xs ys a), .u (hM xs ys a)] 49), (2, .cells z8 31), (1, .cells [.u a] 47), (0, .cells (mr W xs ys (r5 s b l p q)) 31)], [], [4, 5]⟩, ⟨[(4, .cells [.i 0, .i 0, .i 0] 27), (3, .cells [.i (ldw xs ys a / 72057594037927936), .i ((ldw xs ys a / 4294967296) % 16777216), .u (ldw xs ys a % 4294967296)] 49), (2, .cells z8 31), (1, .cells [.u a] 47), (0, .cells (mr W xs ys (r5 s b l p q)) 31)], [9], [5]⟩, ⟨[(5, .cells [.u 0] 47), (3, .cells [.i (ldw xs ys a / 72057594037927936), .i ((ldw xs ys a / 4294967296) % 16777216), .u (ldw xs ys a % 4294967296)] 49), (2, .cells z8 31), (1, .cells [.u a] 47), (0, .cells (mr W xs ys (r5 s b l p q)) 31)], [10], [4]⟩, ⟨[(5, .cells [.u 0] 47), (4, .cells [.i 0, .i 0, .i 0] 27), (3, .cells [.i (ldw xs ys a / 72057594037927936), .i ((ldw xs ys a / 4294967296) % 16777216), .u (ldw xs ys a % 4294967296)] 49), (2, .cells z8 31), (1, .cells [.u a] 47), (0, .cells (mr W xs ys (r5 s b l p q)) 31)], [9, 10], []⟩, ⟨[(5, .cells [.u 0] 47), (4, .cells [.i s, .i b, .i l] 27), (3, .cells [.i (ldw xs ys a / 72057594037927936), .i ((ldw xs ys a / 4294967296) % 16777216), .u (ldw xs ys a % 4294967296)] 49), (2, .cells z8 31), (1, .cells [.u a] 47), (0, .cells (mr W xs ys (r5 s b l p q)) 31)], [9, 10, 11], []⟩, ⟨[(5, .cells [.u 0] 47), (4, .cells [.i s, .i b, .i l] 27), (3, .cells [.i (ldw xs ys a / 72057594037927936), .i ((ldw xs ys a / 4294967296) % 16777216), .u (ldw xs ys a % 4294967296)] 49), (2, .cells z8 31), (1, .cells [.u a] 47), (0, .cells (mr W xs ys (r5 s b l p q)) 31)], [9, 10, 11, 12], []⟩] [9, 10, 11, 12] [(1, [0]), (3, [2]), (4, [0, 1, 2, 3]), (5, [0, 1, 2, 3, 4]), (6, [0, 1, 2, 3, 4, 5]), (7, [0, 1, 2, 3, 4, 5]), (8, [0, 1, 2, 3, 4, 5]), (11, [0, 1, 2, 3, 4, 5, 6, 9, 10]), (12, [0, 1, 2, 3, 4, 5, 6, 7, 9, 10, 11]), (13, [0, 1, 2, 3, 4, 5, 6, 7, 8, 9, 10, 11, 12])] 5 6 (by kernel_rfl) ?_
     refine urun_ TT_ok [] (Nat.le_of_ble_eq_true (by kernel_rfl)) (by kernel_rfl) 3 0 [(67, .agg [.i (ldw xs ys a / 72057594037927936), .i ((ldw xs ys a / 4294967296) % 16777216), .u (ldw xs ys a % 4294967296)]), (66, .agg [.i s, .i b, .i l]), (65, .loc 0 3), (9, .p 3), (6, .i 0), (5, .u 0), (4, .p 2), (3, .p 1), (2, .p 0)] [(SV.loc 0 3) = SV.loc 0 3, True, (SV.loc 0 3) = SV.loc 0 3, True, (SV.loc 0 3) = SV.loc 0 3, True, True, (SV.agg [.i s, .i b, .i l]) = SV.agg [.i s, .i b, .i l], True, (SV.agg [.i s, .i b, .i l]) = SV.agg [.i s, .i b, .i l], True, (SV.agg [.i s, .i b, .i l]) = SV.agg [.i s, .i b, .i l], True, True, (SV.agg [.i (ldw xs ys a / 72057594037927936), .i ((ldw xs ys a / 4294967296) % 16777216), .u (ldw xs ys a % 4294967296)]) = SV.agg [.i (ldw xs ys a / 72057594037927936), .i ((ldw xs ys a / 4294967296) % 16777216), .u (ldw xs ys a % 4294967296)], True, (SV.agg [.i (ldw xs ys a / 72057594037927936), .i ((ldw xs ys a / 4294967296) % 16777216), .u (ldw xs ys a % 4294967296)]) = SV.agg [.i (ldw xs ys a / 72057594037927936), .i ((ldw xs ys a / 4294967296) % 16777216), .u (ldw xs ys a % 4294967296)], True, (SV.agg [.i (ldw xs ys a / 72057594037927936), .i ((ldw xs ys a / 4294967296) % 16777216), .u (ldw xs ys a % 4294967296)]) = SV.agg [.i (ldw xs ys a / 72057594037927936), .i ((ldw xs ys a / 4294967296) % 16777216), .u (ldw xs ys a % 4294967296)], True, True] (by kernel_rfl) ⟨rfl, trivial, rfl, trivial, rfl, trivial, trivial, rfl, trivial, rfl, trivial, rfl, trivial, trivial, rfl, trivial, rfl, trivial, rfl, trivial, trivial, trivial⟩ ?_
     refine uc (hwords_2 (ldw xs ys a / 72057594037927936) ((ldw xs ys a / 4294967296) % 16777216) (ldw xs ys a % 4294967296) (by omega) (by omega) (by omega) (by omega) (by omega)) ?_
     refine uc (take_2 s b l (((ldw xs ys a / 4294967296) % 16777216) + 2) ‹_› (by omega) (by omega)) ?_
     refine urun_ TT_ok [(9, .p 4), (10, .p 5)] (Nat.le_of_ble_eq_true (by kernel_rfl)) (by kernel_rfl) 9 5 [(8, .i 4), (12, .p 5), (11, .p 4), (72, .i 4), (71, .u 0), (70, .agg [.i s, .i b, .i l]), (64, .tup [.agg [.i s, .i b, .i l], .u 0, .i 4]), (69, .tup [.agg [.i s, .i b, .i l], .u 0, .i 4]), (68, .i (((ldw xs ys a / 4294967296) % 16777216) + 2)), (67, .agg [.i (ldw xs ys a / 72057594037927936), .i ((ldw xs ys a / 4294967296) % 16777216), .u (ldw xs ys a % 4294967296)]), (66, .agg [.i s, .i b, .i l]), (65, .loc 0 3), (9, .p 3), (6, .i 0), (5, .u 0), (4, .p 2), (3, .p 1), (2, .p 0)] [(SV.tup [.agg [.i s, .i b, .i l], .u 0, .i 4]) = SV.tup [.agg [.i s, .i b, .i l], .u 0, .i 4], True, (SV.tup [.agg [.i s, .i b, .i l], .u 0, .i 4]) = SV.tup [.agg [.i s, .i b, .i l], .u 0, .i 4], True, (SV.tup [.agg [.i s, .i b, .i l], .u 0, .i 4]) = SV.tup [.agg [.i s, .i b, .i l], .u 0, .i 4], True, True, (SV.agg [.i s, .i b, .i l]) = SV.agg [.i s, .i b, .i l], True, (SV.agg [.i s, .i b, .i l]) = SV.agg [.i s, .i b, .i l], True, (SV.agg [.i s, .i b, .i l]) = SV.agg [.i s, .i b, .i l], True, True, (SV.int .u64 0) = SV.int .u64 0, True, (SV.int .u64 0) = SV.int .u64 0, True, (SV.int .u64 0) = SV.int .u64 0, True, (SV.int .u64 0) = SV.int .u64 0, True, True, (SV.int .i64 4) = SV.int .i64 4, True, (SV.int .i64 4) = SV.int .i64 4, True, (SV.int .i64 4) = SV.int .i64 4, True, (SV.int .i64 4) = SV.int .i64 4, True, (SV.int .i64 4) = SV.int .i64 4, True, True, (SV.loc 4 0) = SV.loc 4 0, ([(4, .cells [.i 0, .i 0, .i 0] 27), (3, .cells [.i (ldw xs ys a / 72057594037927936), .i ((ldw xs ys a / 4294967296) % 16777216), .u (ldw xs ys a % 4294967296)] 49), (2, .cells z8 31), (1, .cells [.u a] 47), (0, .cells (mr W xs ys (r5 s b l p q)) 31)] : Mem) = [(4, .cells [.i 0, .i 0, .i 0] 27), (3, .cells [.i (ldw xs ys a / 72057594037927936), .i ((ldw xs ys a / 4294967296) % 16777216), .u (ldw xs ys a % 4294967296)] 49), (2, .cells z8 31), (1, .cells [.u a] 47), (0, .cells (mr W xs ys (r5 s b l p q)) 31)], ([(5, .cells [.u 0] 47), (4, .cells [.i 0, .i 0, .i 0] 27), (3, .cells [.i (ldw xs ys a / 72057594037927936), .i ((ldw xs ys a / 4294967296) % 16777216), .u (ldw xs ys a % 4294967296)] 49), (2, .cells z8 31), (1, .cells [.u a] 47), (0, .cells (mr W xs ys (r5 s b l p q)) 31)] : Mem) = [(5, .cells [.u 0] 47), (4, .cells [.i 0, .i 0, .i 0] 27), (3, .cells [.i (ldw xs ys a / 72057594037927936), .i ((ldw xs ys a / 4294967296) % 16777216), .u (ldw xs ys a % 4294967296)] 49), (2, .cells z8 31), (1, .cells [.u a] 47), (0, .cells (mr W xs ys (r5 s b l p q)) 31)], (SV.loc 5 0) = SV.loc 5 0, ([(5, .cells [.u 0] 47), (3, .cells [.i (ldw xs ys a / 72057594037927936), .i ((ldw xs ys a / 4294967296) % 16777216), .u (ldw xs ys a % 4294967296)] 49), (2, .cells z8 31), (1, .cells [.u a] 47), (0, .cells (mr W xs ys (r5 s b l p q)) 31)] : Mem) = [(5, .cells [.u 0] 47), (3, .cells [.i (ldw xs ys a / 72057594037927936), .i ((ldw xs ys a / 4294967296) % 16777216), .u (ldw xs ys a % 4294967296)] 49), (2, .cells z8 31), (1, .cells [.u a] 47), (0, .cells (mr W xs ys (r5 s b l p q)) 31)], ([(5, .cells [.u 0] 47), (4, .cells [.i 0, .i 0, .i 0] 27), (3, .cells [.i (ldw xs ys a / 72057594037927936), .i ((ldw xs ys a / 4294967296) % 16777216), .u (ldw xs ys a % 4294967296)] 49), (2, .cells z8 31), (1, .cells [.u a] 47), (0, .cells (mr W xs ys (r5 s b l p q)) 31)] : Mem) = [(5, .cells [.u 0] 47), (4, .cells [.i 0, .i 0, .i 0] 27), (3, .cells [.i (ldw xs ys a / 72057594037927936), .i ((ldw xs ys a / 4294967296) % 16777216), .u (ldw xs ys a % 4294967296)] 49), (2, .cells z8 31), (1, .cells [.u a] 47), (0, .cells (mr W xs ys (r5 s b l p q)) 31)], True, ([(5, .cells [.u 0] 47), (4, .cells [.i s, .i b, .i l] 27), (3, .cells [.i (ldw xs ys a / 72057594037927936), .i ((ldw xs ys a / 4294967296) % 16777216), .u (ldw xs ys a % 4294967296)] 49), (2, .cells z8 31), (1, .cells [.u a] 47), (0, .cells (mr W xs ys (r5 s b l p q)) 31)] : Mem) = [(5, .cells [.u 0] 47), (4, .cells [.i s, .i b, .i l] 27), (3, .cells [.i (ldw xs ys a / 72057594037927936), .i ((ldw xs ys a / 4294967296) % 16777216), .u (ldw xs ys a % 4294967296)] 49), (2, .cells z8 31), (1, .cells [.u a] 47), (0, .cells (mr W xs ys (r5 s b l p q)) 31)], True, ([(5, .cells [.u 0] 47), (4, .cells [.i s, .i b, .i l] 27), (3, .cells [.i (ldw xs ys a / 72057594037927936), .i ((ldw xs ys a / 4294967296) % 16777216), .u (ldw xs ys a % 4294967296)] 49), (2, .cells z8 31), (1, .cells [.u a] 47), (0, .cells (mr W xs ys (r5 s b l p q)) 31)] : Mem) = [(5, .cells [.u 0] 47), (4, .cells [.i s, .i b, .i l] 27), (3, .cells [.i (ldw xs ys a / 72057594037927936), .i ((ldw xs ys a / 4294967296) % 16777216), .u (ldw xs ys a % 4294967296)] 49), (2, .cells z8 31), (1, .cells [.u a] 47), (0, .cells (mr W xs ys (r5 s b l p q)) 31)], True] (by kernel_rfl) ⟨rfl, trivial, rfl, trivial, rfl, trivial, trivial, rfl, trivial, rfl, trivial, rfl, trivial, trivial, rfl, trivial, rfl, trivial, rfl, trivial, rfl, trivial, trivial, rfl, trivial, rfl, trivial, rfl, trivial, rfl, trivial, rfl, trivial, trivial, rfl, rfl, rfl, rfl, rfl, rfl, trivial, rfl, trivial, rfl, trivial, trivial⟩ ?_
     refine uend ?_
     refine an ?_
     refine xw_seq ?_
     refine rg [(1, .t)] 2 ⟨[(74, .t), (12, .p 5), (11, .p 4), (9, .p 3), (6, .i 0), (5, .u 0), (4, .p 2), (3, .p 1), (2, .p 0)], [(5, .cells [.u 0] 47), (4, .cells [.i s, .i b, .i l] 27), (3, .cells [.i (hT xs ys a), .i (hL xs ys a), .u (hM xs ys a)] 49), (2, .cells z8 31), (1, .cells [.u a] 47), (0, .cells (mr W xs ys (r5 s b l p q)) 31)], 6⟩ [(4 != 0) = true] ⟨bne_iff_ne.2 (by omega), trivial⟩ ?_
     refine ct ?_
     refine rg [] 4 ⟨[(6, .i 4), (5, .u 0), (12, .p 5), (11, .p 4), (9, .p 3), (4, .p 2), (3, .p 1), (2, .p 0)], [(5, .cells [.u 0] 47), (4, .cells [.i s, .i b, .i l] 27), (3, .cells [.i (hT xs ys a), .i (hL xs ys a), .u (hM xs ys a)] 49), (2, .cells (mr W xs ys (r5 s b l p q)) 31), (1, .cells [.u a] 47), (0, .cells (mr W xs ys (r5 s b l p q)) 31)], 6⟩ [True, True] ⟨trivial, trivial, trivial⟩ ?_
     refine xw_ret ?_
     refine an_ret ?_
     refine juu_ret ?_
     exact bs (.tup [.agg (mr W xs ys (r5 s b l p q)), .u 0, .i 4]) (Or.inr <| Or.inr <| Or.inr <| Or.inr <| Or.inr <| Or.inr <| Or.inl <| ⟨(by omega), (by omega), (by omega), (by omega), (by omega), (by omega), rfl⟩)
 ·
  by_cases h1 : ((oErr W xs ys a) = 0) ∧ ((ldw xs ys a / 72057594037927936) = 255)
  ·
   refine pc (otwin_2 W xs ys a ‹_› ‹_› ‹_› ‹_› ‹_› ‹_› (by omega) (by omega)) ?_
   obtain ⟨h2, h3, h4⟩ := oErr_ok W xs ys a (by omega)
   refine rk [] 5 4 ⟨[(8, .i 8), (7, .u 0), (6, .i 0), (5, .u 0), (4, .p 2), (3, .p 1), (2, .p 0)], [(2, .cells z8 31), (1, .cells [.u a] 47), (0, .cells (mr W xs ys (r5 s b l p q)) 31)], 3⟩ [] trivial ?_
   refine en ?_
   refine an ?_
   refine xw_seq ?_
   refine xw_block ?_
   refine xw_seq ?_
   refine xw_block ?_
   refine xw_seq ?_
   refine xw_block ?_
   refine xw_seq ?_
   refine xw_block ?_
   refine xw_seq ?_
   refine xw_block ?_
   refine xw_seq ?_
   refine xw_block ?_
   refine xw_seq ?_
   refine xw_seq ?_
   refine rg [(1, .f)] 3 ⟨[(22, .f), (8, .i 8), (7, .u 0), (6, .i 0), (5, .u 0), (4, .p 2), (3, .p 1), (2, .p 0)], [(2, .cells z8 31), (1, .cells [.u a] 47), (0, .cells (mr W xs ys (r5 s b l p q)) 31)], 3⟩ [True, (a == 0) = false] ⟨trivial, beq_eq_false_iff_ne.2 (by omega), trivial⟩ ?_
   refine cf ?_
   refine xw_skip ?_
   refine an ?_
   refine xw_seq ?_
   refine rg [(1, .t)] 3 ⟨[(25, .t), (8, .i 8), (7, .u 0), (6, .i 0), (5, .u 0), (4, .p 2), (3, .p 1), (2, .p 0)], [(2, .cells z8 31), (1, .cells [.u a] 47), (0, .cells (mr W xs ys (r5 s b l p q)) 31)], 3⟩ [(8 != 0) = true] ⟨bne_iff_ne.2 (by omega), trivial⟩ ?_
   refine ct ?_
   refine xw_exit ?_
   refine an_exit ?_
   refine an_exit ?_
   refine ib_exit (by kernel_rfl) ?_
   refine an_exit ?_
   refine ib_same ?_
   refine an ?_
   refine xw_seq ?_
   refine rg [] 5 ⟨[(6, .i 8), (5, .u 0), (7, .u 0), (4, .p 2), (3, .p 1), (2, .p 0)], [(2, .cells (mr W xs ys (r5 s b l p q)) 31), (1, .cells [.u a] 47), (0, .cells (mr W xs ys (r5 s b l p q)) 31)], 3⟩ [True, True] ⟨trivial, trivial, trivial⟩ ?_
   refine xw_ret ?_
   refine an_ret ?_
   refine ib_ret ?_
   refine an_ret ?_
   refine ib_ret ?_
   refine an_ret ?_
   refine ib_ret ?_
   refine an_ret ?_
   refine ib_ret ?_
   refine an_ret ?_
   refine juu_ret ?_
   exact bs (.tup [.agg (mr W xs ys (r5 s b l p q)), .u 0, .i 8]) (Or.inr <| Or.inr <| Or.inl <| ⟨(by omega), (by omega), (by omega), rfl⟩)
  ·
   refine pc (otwin_3 W xs ys a ‹_› ‹_› ‹_› ‹_› ‹_› ‹_› (by omega)) ?_
   have h2 : (oErr W xs ys a) = 2 ∨ (oErr W xs ys a) = 10 := oErr_no W xs ys a (by omega)
   refine rk [] 5 4 ⟨[(8, .i (oErr W xs ys a)), (7, .u 0), (6, .i 0), (5, .u 0), (4, .p 2), (3, .p 1), (2, .p 0)], [(2, .cells z8 31), (1, .cells [.u a] 47), (0, .cells (mr W xs ys (r5 s b l p q)) 31)], 3⟩ [] trivial ?_
   refine en ?_
   refine an ?_
   refine xw_seq ?_
   refine xw_block ?_
   refine xw_seq ?_
   refine xw_block ?_
   refine xw_seq ?_
   refine xw_block ?_
   refine xw_seq ?_
   refine xw_block ?_
   refine xw_seq ?_
   refine xw_block ?_
   refine xw_seq ?_
   refine xw_block ?_
   refine xw_seq ?_
   refine xw_seq ?_
   refine rg [(1, .bool (a == 0))] 3 ⟨[(22, .bool (a == 0)), (8, .i (oErr W xs ys a)), (7, .u 0), (6, .i 0), (5, .u 0), (4, .p 2), (3, .p 1), (2, .p 0)], [(2, .cells z8 31), (1, .cells [.u a] 47), (0, .cells (mr W xs ys (r5 s b l p q)) 31)], 3⟩ [True, (a == 0) = (a == 0)] ⟨trivial, rfl, trivial⟩ ?_
   refine xw_cond (b := (a == 0)) (by kernel_rfl) (fun h3 => ?_) (fun h3 => ?_)
   ·
    replace h3 : a = 0 := eq_of_beq h3
    refine xw_exit ?_
    refine an_exit ?_
    refine an_exit ?_
    refine ib_same ?_
    refine an ?_
    refine xw_seq ?_
    refine rg [] 4 ⟨[(6, .i 0), (5, .u 0), (8, .i (oErr W xs ys a)), (7, .u 0), (4, .p 2), (3, .p 1), (2, .p 0)], [(2, .cells (mr W xs ys (r5 s b l p q)) 31), (1, .cells [.u a] 47), (0, .cells (mr W xs ys (r5 s b l p q)) 31)], 3⟩ [True, True] ⟨trivial, trivial, trivial⟩ ?_
    refine xw_ret ?_
    refine an_ret ?_
    refine ib_ret ?_
    refine an_ret ?_
    refine ib_ret ?_
    refine an_ret ?_
    refine ib_ret ?_
    refine an_ret ?_
    refine ib_ret ?_
    refine an_ret ?_
    refine ib_ret ?_
    refine an_ret ?_
    refine juu_ret ?_
    exact bs (.tup [.agg (mr W xs ys (r5 s b l p q)), .u 0, .i 0]) (Or.inl <| ⟨(by omega), rfl⟩)
   ·
    replace h3 : a ≠ 0 := ne_of_beq_false h3
    refine xw_skip ?_
    refine an ?_
    refine xw_seq ?_
    refine rg [(1, .t)] 3 ⟨[(25, .t), (8, .i (oErr W xs ys a)), (7, .u 0), (6, .i 0), (5, .u 0), (4, .p 2), (3, .p 1), (2, .p 0)], [(2, .cells z8 31), (1, .cells [.u a] 47), (0, .cells (mr W xs ys (r5 s b l p q)) 31)], 3⟩ [((oErr W xs ys a) != 0) = true] ⟨bne_iff_ne.2 (by omega), trivial⟩ ?_
    refine ct ?_
    refine xw_exit ?_
    refine an_exit ?_
    refine an_exit ?_
    refine ib_exit (by kernel_rfl) ?_
    refine an_exit ?_
    refine ib_same ?_
    refine an ?_
    refine xw_seq ?_
    refine rg [] 5 ⟨[(6, .i (oErr W xs ys a)), (5, .u 0), (7, .u 0), (4, .p 2), (3, .p 1), (2, .p 0)], [(2, .cells (mr W xs ys (r5 s b l p q)) 31), (1, .cells [.u a] 47), (0, .cells (mr W xs ys (r5 s b l p q)) 31)], 3⟩ [True, True] ⟨trivial, trivial, trivial⟩ ?_
    refine xw_ret ?_
    refine an_ret ?_
    refine ib_ret ?_
    refine an_ret ?_
    refine ib_ret ?_
    refine an_ret ?_
    refine ib_ret ?_
    refine an_ret ?_
    refine ib_ret ?_
    refine an_ret ?_
    refine juu_ret ?_
    exact bs (.tup [.agg (mr W xs ys (r5 s b l p q)), .u 0, .i (oErr W xs ys a)]) (Or.inr <| Or.inl <| ⟨(by omega), (by omega), rfl⟩)

theorem rpover (W : Int) (xs ys : List Int) (s b l p q a : Int) (hp0 : 16 ≤ W ∧ W ≤ 4096) (hp1 : (xs.length : Int) = W) (hp2 : (ys.length : Int) = W) (hp3 : U64s xs) (hp4 : U64s ys) (hp5 : (s = 0 ∨ s = 1) ∧ 0 ≤ b ∧ b ≤ l ∧ l ≤ 4096) (hp6 : l = W) (hp7 : 0 ≤ p ∧ p ≤ q ∧ q ≤ b) (hp8 : 0 ≤ a ∧ a ≤ 18446744073709551615) : Pub Try.prog 35 [.agg (mr W xs ys (r5 s b l p q)), .u a] (fun rv => ((1 ≤ a / 4294967296 ∧ a / 4294967296 ≤ 2 ∧ a / 4294967296 - 1 = s) ∧ rv = .t) ∨ ((¬ (1 ≤ a / 4294967296 ∧ a / 4294967296 ≤ 2 ∧ a / 4294967296 - 1 = s)) ∧ rv = .f)) := by
 refine pub_of TT_ok Try.func35 rfl (by decide) (Nat.le_of_ble_eq_true (by kernel_rfl)) (by kernel_rfl) ?_
 refine rg [] 2 ⟨[(4, .f), (2, .p 0), (1, .u a)], [(0, .cells (mr W xs ys (r5 s b l p q)) 31)], 1⟩ [] trivial ?_
 refine xw_seq ?_
 refine reg ?_
 refine rk [] 1 0 ⟨[(9, .u a), (4, .f), (2, .p 0)], [(0, .cells (mr W xs ys (r5 s b l p q)) 31)], 1⟩ [] trivial ?_
 by_cases h0 : 1 ≤ a / 4294967296 ∧ a / 4294967296 ≤ 2
 ·
  refine pc (pwhere_1 a ‹_› (by omega)) ?_
  refine rk [] 7 2 ⟨[(7, .t), (5, .i (a / 4294967296 - 1)), (4, .f), (2, .p 0)], [(0, .cells (mr W xs ys (r5 s b l p q)) 31)], 1⟩ [] trivial ?_
  refine en ?_
  refine an ?_
  refine rg [(6, .bool ((a / 4294967296 - 1) == s))] 9 ⟨[(4, .bool ((a / 4294967296 - 1) == s))], [], 1⟩ [True, ((a / 4294967296 - 1) == s) = ((a / 4294967296 - 1) == s), True] ⟨trivial, rfl, trivial, trivial⟩ ?_
  refine xw_ret ?_
  by_cases h1 : (a / 4294967296 - 1) = s
  ·
   exact br (.bool ((a / 4294967296 - 1) == s)) (.t) (wkd [((a / 4294967296 - 1) == s) = true] (by kernel_rfl) ⟨(by first | exact decide_eq_true (by omega) | exact decide_eq_false (by omega) | (simp; done) | (simp; omega) | simp_all | grind), trivial⟩) (Or.inl <| ⟨(by omega), rfl⟩)
  ·
   exact br (.bool ((a / 4294967296 - 1) == s)) (.f) (wkd [((a / 4294967296 - 1) == s) = false] (by kernel_rfl) ⟨(by first | exact decide_eq_true (by omega) | exact decide_eq_false (by omega) | (simp; done) | (simp; omega) | simp_all | grind), trivial⟩) (Or.inr <| ⟨(by omega), rfl⟩)
 ·
  refine pc (pwhere_2 a ‹_› (by omega)) ?_
  refine rk [] 7 2 ⟨[(7, .f), (5, .i 0), (4, .f), (2, .p 0)], [(0, .cells (mr W xs ys (r5 s b l p q)) 31)], 1⟩ [] trivial ?_
  refine en ?_
  refine an ?_
  refine rg [] 9 ⟨[(4, .f)], [], 1⟩ [True] ⟨trivial, trivial⟩ ?_
  refine xw_ret ?_
  exact bs (.f) (Or.inr <| ⟨(by omega), rfl⟩)

theorem rpover_1 (W : Int) (xs ys : List Int) (s b l p q a : Int) (hp0 : 16 ≤ W ∧ W ≤ 4096) (hp1 : (xs.length : Int) = W) (hp2 : (ys.length : Int) = W) (hp3 : U64s xs) (hp4 : U64s ys) (hp5 : (s = 0 ∨ s = 1) ∧ 0 ≤ b ∧ b ≤ l ∧ l ≤ 4096) (hp6 : l = W) (hp7 : 0 ≤ p ∧ p ≤ q ∧ q ≤ b) (hp8 : 0 ≤ a ∧ a ≤ 18446744073709551615) (hp9 : 1 ≤ a / 4294967296 ∧ a / 4294967296 ≤ 2 ∧ a / 4294967296 - 1 = s) : Pub Try.prog 35 [.agg (mr W xs ys (r5 s b l p q)), .u a] (fun rv => rv = .t) := by
  refine (rpover W xs ys s b l p q a hp0 hp1 hp2 hp3 hp4 hp5 hp6 hp7 hp8).mono ?_
  rintro _ (⟨g0, rfl⟩ | ⟨g0, rfl⟩)
  all_goals first | rfl | (exfalso; first | omega | grind)

theorem rpover_2 (W : Int) (xs ys : List Int) (s b l p q a : Int) (hp0 : 16 ≤ W ∧ W ≤ 4096) (hp1 : (xs.length : Int) = W) (hp2 : (ys.length : Int) = W) (hp3 : U64s xs) (hp4 : U64s ys) (hp5 : (s = 0 ∨ s = 1) ∧ 0 ≤ b ∧ b ≤ l ∧ l ≤ 4096) (hp6 : l = W) (hp7 : 0 ≤ p ∧ p ≤ q ∧ q ≤ b) (hp8 : 0 ≤ a ∧ a ≤ 18446744073709551615) (hp9 : ¬ (1 ≤ a / 4294967296 ∧ a / 4294967296 ≤ 2 ∧ a / 4294967296 - 1 = s)) : Pub Try.prog 35 [.agg (mr W xs ys (r5 s b l p q)), .u a] (fun rv => rv = .f) := by
  refine (rpover W xs ys s b l p q a hp0 hp1 hp2 hp3 hp4 hp5 hp6 hp7 hp8).mono ?_
  rintro _ (⟨g0, rfl⟩ | ⟨g0, rfl⟩)
  all_goals first | rfl | (exfalso; first | omega | grind)

set_option maxHeartbeats 8000000 in
theorem rtto (W : Int) (xs ys : List Int) (s b l p q a : Int) (hp0 : 16 ≤ W ∧ W ≤ 4096) (hp1 : (xs.length : Int) = W) (hp2 : (ys.length : Int) = W) (hp3 : U64s xs) (hp4 : U64s ys) (hp5 : (s = 0 ∨ s = 1) ∧ 0 ≤ b ∧ b ≤ l ∧ l ≤ 4096) (hp6 : l = W) (hp7 : 0 ≤ p ∧ p ≤ q ∧ q ≤ b) (hp8 : 0 ≤ a ∧ a ≤ 18446744073709551615) : Pub Try.prog 13 [.agg (mr W xs ys (r5 s b l p q)), .u a] (fun rv => ((a = 0) ∧ rv = .tup [.agg (mr W xs ys (r5 s b l p q)), .u 0, .i 0]) ∨ ((a ≠ 0) ∧ (¬ ((oErr W xs ys a) = 0)) ∧ rv = .tup [.agg (mr W xs ys (r5 s b l p q)), .u 0, .i (oErr W xs ys a)]) ∨ ((a ≠ 0) ∧ ((oErr W xs ys a) = 0) ∧ ((ldw xs ys a / 72057594037927936) = 255) ∧ rv = .tup [.agg (mr W xs ys (r5 s b l p q)), .u 0, .i 8]) ∨ ((a ≠ 0) ∧ ((oErr W xs ys a) = 0) ∧ ((ldw xs ys a / 72057594037927936) ≠ 255) ∧ (a / 4294967296 - 1 = s) ∧ rv = .tup [.agg (mr W xs ys (r5 s b l p q)), .u a, .i 0]) ∨ ((a ≠ 0) ∧ ((oErr W xs ys a) = 0) ∧ ((ldw xs ys a / 72057594037927936) ≠ 255) ∧ (¬ (a / 4294967296 - 1 = s)) ∧ ((ldw xs ys (a + 1)) ≠ 0) ∧ (¬ (1 ≤ (ldw xs ys (a + 1)) / 4294967296 ∧ (ldw xs ys (a + 1)) / 4294967296 ≤ 2 ∧ (ldw xs ys (a + 1)) / 4294967296 - 1 = s)) ∧ rv = .tup [.agg (mr W xs ys (r5 s b l p q)), .u 0, .i 10]) ∨ ((a ≠ 0) ∧ ((oErr W xs ys a) = 0) ∧ ((ldw xs ys a / 72057594037927936) ≠ 255) ∧ (¬ (a / 4294967296 - 1 = s)) ∧ ((ldw xs ys (a + 1)) ≠ 0) ∧ (1 ≤ (ldw xs ys (a + 1)) / 4294967296 ∧ (ldw xs ys (a + 1)) / 4294967296 ≤ 2 ∧ (ldw xs ys (a + 1)) / 4294967296 - 1 = s) ∧ rv = .tup [.agg (mr W xs ys (r5 s b l p q)), .u (ldw xs ys (a + 1)), .i 0]) ∨ ((a ≠ 0) ∧ ((oErr W xs ys a) = 0) ∧ ((ldw xs ys a / 72057594037927936) ≠ 255) ∧ (¬ (a / 4294967296 - 1 = s)) ∧ ((ldw xs ys (a + 1)) = 0) ∧ (l - b < (((ldw xs ys a / 4294967296) % 16777216) + 2)) ∧ rv = .tup [.agg (mr W xs ys (r5 s b l p q)), .u 0, .i 4]) ∨ ((a ≠ 0) ∧ ((oErr W xs ys a) = 0) ∧ ((ldw xs ys a / 72057594037927936) ≠ 255) ∧ (¬ (a / 4294967296 - 1 = s)) ∧ ((ldw xs ys (a + 1)) = 0) ∧ ((((ldw xs ys a / 4294967296) % 16777216) + 2) ≤ l - b) ∧ rv = .tup [.agg (mr W (tX xs ys a ((s + 1) * 4294967296 + b) (((ldw xs ys a / 4294967296) % 16777216) + 2)) (tY xs ys a ((s + 1) * 4294967296 + b) (((ldw xs ys a / 4294967296) % 16777216) + 2)) (r5 s (b + (((ldw xs ys a / 4294967296) % 16777216) + 2)) l p q)), .u ((s + 1) * 4294967296 + b), .i 0])) := by
 refine pub_of TT_ok Try.func13 rfl (by decide) (Nat.le_of_ble_eq_true (by kernel_rfl)) (by kernel_rfl) ?_
 refine rg [] 4 ⟨[(6, .i 0), (5, .u 0), (4, .p 1), (2, .p 0), (1, .u a)], [(1, .cells z8 31), (0, .cells (mr W xs ys (r5 s b l p q)) 31)], 2⟩ [] trivial ?_
 refine xw_seq ?_
 refine rg [(1, .bool (a == 0))] 2 ⟨[(20, .bool (a == 0)), (6, .i 0), (5, .u 0), (4, .p 1), (2, .p 0), (1, .u a)], [(1, .cells z8 31), (0, .cells (mr W xs ys (r5 s b l p q)) 31)], 2⟩ [(a == 0) = (a == 0)] ⟨rfl, trivial⟩ ?_
 refine xw_cond (b := (a == 0)) (by kernel_rfl) (fun h0 => ?_) (fun h0 => ?_)
 ·
  replace h0 : a = 0 := eq_of_beq h0
  refine rg [] 4 ⟨[(6, .i 0), (5, .u 0), (4, .p 1), (2, .p 0), (1, .u a)], [(1, .cells (mr W xs ys (r5 s b l p q)) 31), (0, .cells (mr W xs ys (r5 s b l p q)) 31)], 2⟩ [True, True] ⟨trivial, trivial, trivial⟩ ?_
  refine xw_ret ?_
  refine an_ret ?_
  exact bs (.tup [.agg (mr W xs ys (r5 s b l p q)), .u 0, .i 0]) (Or.inl <| ⟨(by omega), rfl⟩)
 ·
  replace h0 : a ≠ 0 := ne_of_beq_false h0
  refine xw_skip ?_
  refine an ?_
  refine xw_seq ?_
  refine reg ?_
  refine rk [] 3 0 ⟨[(25, .u a), (24, .agg (mm W xs ys)), (6, .i 0), (5, .u 0), (4, .p 1), (2, .p 0), (1, .u a)], [(1, .cells z8 31), (0, .cells (mr W xs ys (r5 s b l p q)) 31)], 2⟩ [True] ⟨trivial, trivial⟩ ?_
  by_cases h1 : ((oErr W xs ys a) = 0) ∧ ((ldw xs ys a / 72057594037927936) ≠ 255)
  ·
   refine pc (rotwin_1 W xs ys a ‹_› ‹_› ‹_› ‹_› ‹_› ‹_› (by omega) (by omega)) ?_
   obtain ⟨h2, h3, h4⟩ := oErr_ok W xs ys a (by omega)
   have h5 : 0 ≤ (ldw xs ys (a + 1)) ∧ (ldw xs ys (a + 1)) ≤ 18446744073709551615 := ldw_ok xs ys (a + 1) ‹_› ‹_›
   have h6 : 1 ≤ (a + 1) / 4294967296 ∧ (a + 1) / 4294967296 ≤ 2 ∧ (a + 1) % 4294967296 < W := by omega
   refine rk [] 5 4 ⟨[(8, .i 0), (7, .u (ldw xs ys (a + 1))), (6, .i 0), (5, .u 0), (4, .p 1), (2, .p 0), (1, .u a)], [(1, .cells z8 31), (0, .cells (mr W xs ys (r5 s b l p q)) 31)], 2⟩ [] trivial ?_
   refine en ?_
   refine an ?_
   refine xw_seq ?_
   refine rg [(1, .f)] 2 ⟨[(30, .f), (8, .i 0), (7, .u (ldw xs ys (a + 1))), (6, .i 0), (5, .u 0), (4, .p 1), (2, .p 0), (1, .u a)], [(1, .cells z8 31), (0, .cells (mr W xs ys (r5 s b l p q)) 31)], 2⟩ [(0 != 0) = false] ⟨bne_eq_false_iff_eq.2 (by omega), trivial⟩ ?_
   refine cf ?_
   refine xw_skip ?_
   refine an ?_
   refine xw_seq ?_
   refine reg ?_
   refine rk [] 2 0 ⟨[(34, .u a), (33, .agg (mr W xs ys (r5 s b l p q))), (7, .u (ldw xs ys (a + 1))), (6, .i 0), (5, .u 0), (4, .p 1), (2, .p 0), (1, .u a)], [(1, .cells z8 31), (0, .cells (mr W xs ys (r5 s b l p q)) 31)], 2⟩ [True] ⟨trivial, trivial⟩ ?_
   by_cases h7 : 1 ≤ a / 4294967296 ∧ a / 4294967296 ≤ 2 ∧ a / 4294967296 - 1 = s
   ·
    refine pc (rtover_1 W xs ys s b l p q a ‹_› ‹_› ‹_› ‹_› ‹_› ‹_› ‹_› ‹_› ‹_› (by omega)) ?_
    refine rk [] 1 3 ⟨[(9, .t), (7, .u (ldw xs ys (a + 1))), (6, .i 0), (5, .u 0), (4, .p 1), (2, .p 0), (1, .u a)], [(1, .cells z8 31), (0, .cells (mr W xs ys (r5 s b l p q)) 31)], 2⟩ [] trivial ?_
    refine en ?_
    refine an ?_
    refine xw_seq ?_
    refine rg [] 1 ⟨[(36, .t), (7, .u (ldw xs ys (a + 1))), (6, .i 0), (5, .u 0), (4, .p 1), (2, .p 0), (1, .u a)], [(1, .cells z8 31), (0, .cells (mr W xs ys (r5 s b l p q)) 31)], 2⟩ [] trivial ?_
    refine ct ?_
    refine rg [] 5 ⟨[(6, .i 0), (5, .u a), (7, .u (ldw xs ys (a + 1))), (4, .p 1), (2, .p 0), (1, .u a)], [(1, .cells (mr W xs ys (r5 s b l p q)) 31), (0, .cells (mr W xs ys (r5 s b l p q)) 31)], 2⟩ [True, True] ⟨trivial, trivial, trivial⟩ ?_
    refine xw_ret ?_
    refine an_ret ?_
    exact bs (.tup [.agg (mr W xs ys (r5 s b l p q)), .u a, .i 0]) (Or.inr <| Or.inr <| Or.inr <| Or.inl <| ⟨(by omega), (by omega), (by omega), (by omega), rfl⟩)
   ·
    refine pc (rtover_2 W xs ys s b l p q a ‹_› ‹_› ‹_› ‹_› ‹_› ‹_› ‹_› ‹_› ‹_› (by omega)) ?_
    refine rk [] 1 3 ⟨[(9, .f), (7, .u (ldw xs ys (a + 1))), (6, .i 0), (5, .u 0), (4, .p 1), (2, .p 0), (1, .u a)], [(1, .cells z8 31), (0, .cells (mr W xs ys (r5 s b l p q)) 31)], 2⟩ [] trivial ?_
    refine en ?_
    refine an ?_
    refine xw_seq ?_
    refine rg [] 1 ⟨[(36, .f), (7, .u (ldw xs ys (a + 1))), (6, .i 0), (5, .u 0), (4, .p 1), (2, .p 0), (1, .u a)], [(1, .cells z8 31), (0, .cells (mr W xs ys (r5 s b l p q)) 31)], 2⟩ [] trivial ?_
    refine cf ?_
    refine xw_skip ?_
    refine an ?_
    refine xw_seq ?_
    refine reg ?_
    refine rk [] 2 0 ⟨[(40, .u (ldw xs ys (a + 1))), (39, .agg (mr W xs ys (r5 s b l p q))), (7, .u (ldw xs ys (a + 1))), (6, .i 0), (5, .u 0), (4, .p 1), (2, .p 0), (1, .u a)], [(1, .cells z8 31), (0, .cells (mr W xs ys (r5 s b l p q)) 31)], 2⟩ [True] ⟨trivial, trivial⟩ ?_
    by_cases h8 : 1 ≤ (ldw xs ys (a + 1)) / 4294967296 ∧ (ldw xs ys (a + 1)) / 4294967296 ≤ 2 ∧ (ldw xs ys (a + 1)) / 4294967296 - 1 = s
    ·
     refine pc (rtover_1 W xs ys s b l p q (ldw xs ys (a + 1)) ‹_› ‹_› ‹_› ‹_› ‹_› ‹_› ‹_› ‹_› ‹_› (by omega)) ?_
     refine rk [] 1 3 ⟨[(10, .t), (7, .u (ldw xs ys (a + 1))), (6, .i 0), (5, .u 0), (4, .p 1), (2, .p 0), (1, .u a)], [(1, .cells z8 31), (0, .cells (mr W xs ys (r5 s b l p q)) 31)], 2⟩ [] trivial ?_
     refine en ?_
     refine an ?_
     refine xw_seq ?_
     refine rg [(1, .t)] 6 ⟨[(47, .f), (7, .u (ldw xs ys (a + 1))), (6, .i 0), (5, .u 0), (4, .p 1), (2, .p 0), (1, .u a)], [(1, .cells z8 31), (0, .cells (mr W xs ys (r5 s b l p q)) 31)], 2⟩ [((ldw xs ys (a + 1)) != 0) = true, True] ⟨bne_iff_ne.2 (by omega), trivial, trivial⟩ ?_
     refine cf ?_
     refine xw_skip ?_
     refine an ?_
     refine xw_seq ?_
     refine rg [(1, .t)] 2 ⟨[(50, .t), (7, .u (ldw xs ys (a + 1))), (6, .i 0), (5, .u 0), (4, .p 1), (2, .p 0), (1, .u a)], [(1, .cells z8 31), (0, .cells (mr W xs ys (r5 s b l p q)) 31)], 2⟩ [((ldw xs ys (a + 1)) != 0) = true] ⟨bne_iff_ne.2 (by omega), trivial⟩ ?_
     refine ct ?_
     refine rg [] 5 ⟨[(6, .i 0), (5, .u (ldw xs ys (a + 1))), (4, .p 1), (2, .p 0), (1, .u a)], [(1, .cells (mr W xs ys (r5 s b l p q)) 31), (0, .cells (mr W xs ys (r5 s b l p q)) 31)], 2⟩ [True, True] ⟨trivial, trivial, trivial⟩ ?_
     refine xw_ret ?_
     refine an_ret ?_
     exact bs (.tup [.agg (mr W xs ys (r5 s b l p q)), .u (ldw xs ys (a + 1)), .i 0]) (Or.inr <| Or.inr <| Or.inr <| Or.inr <| Or.inr <| Or.inl <| ⟨(by omega), (by omega), (by omega), (by omega), (by omega), (by omega), rfl⟩)
    ·
     refine pc (rtover_2 W xs ys s b l p q (ldw xs ys (a + 1)) ‹_› ‹_› ‹_› ‹_› ‹_› ‹_› ‹_› ‹_› ‹_› (by omega)) ?_
     refine rk [] 1 3 ⟨[(10, .f), (7, .u (ldw xs ys (a + 1))), (6, .i 0), (5, .u 0), (4, .p 1), (2, .p 0), (1, .u a)], [(1, .cells z8 31), (0, .cells (mr W xs ys (r5 s b l p q)) 31)], 2⟩ [] trivial ?_
     refine en ?_
     refine an ?_
     refine xw_seq ?_
     refine xw_seq ?_
     refine reg ?_
     refine rk [(1, .bool ((ldw xs ys (a + 1)) != 0))] 3 0 ⟨[(44, .bool ((ldw xs ys (a + 1)) != 0)), (10, .f), (7, .u (ldw xs ys (a + 1))), (6, .i 0), (5, .u 0), (4, .p 1), (2, .p 0), (1, .u a)], [(1, .cells z8 31), (0, .cells (mr W xs ys (r5 s b l p q)) 31)], 2⟩ [((ldw xs ys (a + 1)) != 0) = ((ldw xs ys (a + 1)) != 0)] ⟨rfl, trivial⟩ ?_
     refine splitr 44 (x := ((ldw xs ys (a + 1)) != 0)) (by kernel_rfl) (fun h9 => ?_) (fun h9 => ?_)
     ·
      replace h9 : (ldw xs ys (a + 1)) ≠ 0 := bne_iff_ne.1 h9
      refine rk [] 3 3 ⟨[(47, .t), (7, .u (ldw xs ys (a + 1))), (6, .i 0), (5, .u 0), (4, .p 1), (2, .p 0), (1, .u a)], [(1, .cells z8 31), (0, .cells (mr W xs ys (r5 s b l p q)) 31)], 2⟩ [True] ⟨trivial, trivial⟩ ?_
      refine en ?_
      refine an ?_
      refine ct ?_
      refine rg [] 4 ⟨[(6, .i 10), (5, .u 0), (7, .u (ldw xs ys (a + 1))), (4, .p 1), (2, .p 0), (1, .u a)], [(1, .cells (mr W xs ys (r5 s b l p q)) 31), (0, .cells (mr W xs ys (r5 s b l p q)) 31)], 2⟩ [True, True] ⟨trivial, trivial, trivial⟩ ?_
      refine xw_ret ?_
      refine an_ret ?_
      exact bs (.tup [.agg (mr W xs ys (r5 s b l p q)), .u 0, .i 10]) (Or.inr <| Or.inr <| Or.inr <| Or.inr <| Or.inl <| ⟨(by omega), (by omega), (by omega), (by omega), (by omega), (by omega), rfl⟩)
     ·
      replace h9 : (ldw xs ys (a + 1)) = 0 := bne_eq_false_iff_eq.1 h9
      refine rk [] 3 3 ⟨[(47, .f), (7, .u (ldw xs ys (a + 1))), (6, .i 0), (5, .u 0), (4, .p 1), (2, .p 0), (1, .u a)], [(1, .cells z8 31), (0, .cells (mr W xs ys (r5 s b l p q)) 31)], 2⟩ [True] ⟨trivial, trivial⟩ ?_
      refine en ?_
      refine an ?_
      refine cf ?_
      refine xw_skip ?_
      refine an ?_
      refine xw_seq ?_
      refine rg [(1, .f)] 2 ⟨[(50, .f), (7, .u (ldw xs ys (a + 1))), (6, .i 0), (5, .u 0), (4, .p 1), (2, .p 0), (1, .u a)], [(1, .cells z8 31), (0, .cells (mr W xs ys (r5 s b l p q)) 31)], 2⟩ [((ldw xs ys (a + 1)) != 0) = false] ⟨bne_eq_false_iff_eq.2 (by omega), trivial⟩ ?_
      refine cf ?_
      refine xw_skip ?_
      refine an ?_
      refine xw_seq ?_
      refine reg ?_
      refine rk [] 3 0 ⟨[(56, .u a), (55, .agg (mm W xs ys)), (6, .i 0), (5, .u 0), (4, .p 1), (2, .p 0), (1, .u a)], [(1, .cells z8 31), (0, .cells (mr W xs ys (r5 s b l p q)) 31)], 2⟩ [True] ⟨trivial, trivial⟩ ?_
      refine pc (roat_1 W xs ys a ‹_› ‹_› ‹_› ‹_› ‹_› ‹_› (by omega)) ?_
      refine rk [] 6 4 ⟨[(11, .p 2), (6, .i 0), (5, .u 0), (4, .p 1), (2, .p 0), (1, .u a)], [(2, .cells [.i (hT xs ys a), .i (hL xs ys a), .u (hM xs ys a)] 49), (1, .cells z8 31), (0, .cells (mr W xs ys (r5 s b l p q)) 31)], 3⟩ [True] ⟨trivial, trivial⟩ ?_
      refine en ?_
      refine an ?_
      refine xw_seq ?_
      refine reg ?_
      refine rk [] 1 0 ⟨[(60, .agg [.i (hT xs ys a), .i (hL xs ys a), .u (hM xs ys a)]), (6, .i 0), (5, .u 0), (4, .p 1), (2, .p 0), (1, .u a)], [(1, .cells z8 31), (0, .cells (mr W xs ys (r5 s b l p q)) 31)], 3⟩ [True] ⟨trivial, trivial⟩ ?_
      refine pc (rhwords_2 (ldw xs ys a / 72057594037927936) ((ldw xs ys a / 4294967296) % 16777216) (ldw xs ys a % 4294967296) (by omega) (by omega) (by omega) (by omega) (by omega)) ?_
      refine rk [] 1 2 ⟨[(13, .i ((hL xs ys a) + 2)), (6, .i 0), (5, .u 0), (4, .p 1), (2, .p 0), (1, .u a)], [(1, .cells z8 31), (0, .cells (mr W xs ys (r5 s b l p q)) 31)], 3⟩ [] trivial ?_
      refine en ?_
      refine an ?_
      refine xw_seq ?_
      refine reg ?_
      refine rk [] 3 0 ⟨[(65, .i ((hL xs ys a) + 2)), (64, .agg [.i s, .i b, .i l]), (13, .i ((hL xs ys a) + 2)), (6, .i 0), (5, .u 0), (4, .p 1), (2, .p 0), (1, .u a)], [(1, .cells z8 31), (0, .cells (mr W xs ys (r5 s b l p q)) 31)], 3⟩ [True] ⟨trivial, trivial⟩ ?_
      by_cases h10 : (((ldw xs ys a / 4294967296) % 16777216) + 2) ≤ l - b
      ·
       refine pc (rtake_1 s b l (((ldw xs ys a / 4294967296) % 16777216) + 2) ‹_› (by omega) ‹_›) ?_
       refine rk [] 8 4 ⟨[(16, .i 0), (15, .u ((s + 1) * 4294967296 + b)), (14, .p 3), (13, .i ((hL xs ys a) + 2)), (6, .i 0), (5, .u 0), (4, .p 1), (2, .p 0), (1, .u a)], [(3, .cells [.i s, .i (b + ((hL xs ys a) + 2)), .i l] 27), (1, .cells z8 31), (0, .cells (mr W xs ys (r5 s b l p q)) 31)], 4⟩ [True] ⟨trivial, trivial⟩ ?_
       refine en ?_
       refine an ?_
       refine xw_seq ?_
       refine rg [(1, .f)] 2 ⟨[(71, .f), (15, .u ((s + 1) * 4294967296 + b)), (14, .p 3), (13, .i ((hL xs ys a) + 2)), (6, .i 0), (5, .u 0), (4, .p 1), (2, .p 0), (1, .u a)], [(3, .cells [.i s, .i (b + ((hL xs ys a) + 2)), .i l] 27), (1, .cells z8 31), (0, .cells (mr W xs ys (r5 s b l p q)) 31)], 4⟩ [(0 != 0) = false] ⟨bne_eq_false_iff_eq.2 (by omega), trivial⟩ ?_
       refine cf ?_
       refine xw_skip ?_
       refine an ?_
       refine xw_seq ?_
       refine reg ?_
       refine rk [] 5 0 ⟨[(78, .i ((hL xs ys a) + 2)), (77, .u ((s + 1) * 4294967296 + b)), (76, .u a), (75, .agg (mm W xs ys)), (15, .u ((s + 1) * 4294967296 + b)), (14, .p 3), (6, .i 0), (5, .u 0), (4, .p 1), (2, .p 0), (1, .u a)], [(3, .cells [.i s, .i (b + ((hL xs ys a) + 2)), .i l] 27), (1, .cells z8 31), (0, .cells (mr W xs ys (r5 s b l p q)) 31)], 4⟩ [True] ⟨trivial, trivial⟩ ?_
       refine pc (rmove_1 W xs ys a ((s + 1) * 4294967296 + b) (((ldw xs ys a / 4294967296) % 16777216) + 2) ‹_› ‹_› ‹_› ‹_› ‹_› ‹_› (by omega) (by omega) (by omega) (by omega)) ?_
       obtain ⟨h11, h12, h13, h14⟩ := mv_ok W xs ys a ((s + 1) * 4294967296 + b) (((ldw xs ys a / 4294967296) % 16777216) + 2) ‹_› ‹_› ‹_› ‹_› (by omega) (by omega) (by omega)
       refine rk [] 6 6 ⟨[(17, .p 4), (15, .u ((s + 1) * 4294967296 + b)), (14, .p 3), (6, .i 0), (5, .u 0), (4, .p 1), (2, .p 0), (1, .u a)], [(4, .cells (mm W (mvx xs ys a ((s + 1) * 4294967296 + b) ((hL xs ys a) + 2)) (mvy xs ys a ((s + 1) * 4294967296 + b) ((hL xs ys a) + 2))) 25), (3, .cells [.i s, .i (b + ((hL xs ys a) + 2)), .i l] 27), (1, .cells z8 31), (0, .cells (mr W xs ys (r5 s b l p q)) 31)], 5⟩ [True] ⟨trivial, trivial⟩ ?_
       refine en ?_
       refine an ?_
       refine xw_seq ?_
       refine reg ?_
       refine rk [(2, .i (((s + 1) * 4294967296 + b) + 1))] 3 0 ⟨[(85, .u (((s + 1) * 4294967296 + b) + 1)), (83, .agg (mm W (mvx xs ys a ((s + 1) * 4294967296 + b) ((hL xs ys a) + 2)) (mvy xs ys a ((s + 1) * 4294967296 + b) ((hL xs ys a) + 2)))), (17, .p 4), (15, .u ((s + 1) * 4294967296 + b)), (14, .p 3), (6, .i 0), (5, .u 0), (4, .p 1), (2, .p 0), (1, .u a)], [(4, .cells (mm W (mvx xs ys a ((s + 1) * 4294967296 + b) ((hL xs ys a) + 2)) (mvy xs ys a ((s + 1) * 4294967296 + b) ((hL xs ys a) + 2))) 25), (3, .cells [.i s, .i (b + ((hL xs ys a) + 2)), .i l] 27), (1, .cells z8 31), (0, .cells (mr W xs ys (r5 s b l p q)) 31)], 5⟩ [True, IntKind.u64.wrap (((s + 1) * 4294967296 + b) + 1) = (((s + 1) * 4294967296 + b) + 1)] ⟨trivial, u64_eq (by omega) (by omega), trivial⟩ ?_
       refine pc (rstore_1 W (mvx xs ys a ((s + 1) * 4294967296 + b) (((ldw xs ys a / 4294967296) % 16777216) + 2)) (mvy xs ys a ((s + 1) * 4294967296 + b) (((ldw xs ys a / 4294967296) % 16777216) + 2)) (((s + 1) * 4294967296 + b) + 1) 0 ‹_› ‹_› ‹_› ‹_› ‹_› (by omega) (by omega) (by omega)) ?_
       obtain ⟨h15, h16, h17, h18⟩ := stx_ok W (mvx xs ys a ((s + 1) * 4294967296 + b) (((ldw xs ys a / 4294967296) % 16777216) + 2)) (mvy xs ys a ((s + 1) * 4294967296 + b) (((ldw xs ys a / 4294967296) % 16777216) + 2)) (((s + 1) * 4294967296 + b) + 1) 0 ‹_› ‹_› ‹_› ‹_› (by omega)
       refine rk [] 4 4 ⟨[(17, .p 4), (15, .u ((s + 1) * 4294967296 + b)), (14, .p 3), (6, .i 0), (5, .u 0), (4, .p 1), (2, .p 0), (1, .u a)], [(4, .cells (mm W (stx (mvx xs ys a ((s + 1) * 4294967296 + b) ((hL xs ys a) + 2)) (((s + 1) * 4294967296 + b) + 1) 0) (sty (mvy xs ys a ((s + 1) * 4294967296 + b) ((hL xs ys a) + 2)) (((s + 1) * 4294967296 + b) + 1) 0)) 25), (3, .cells [.i s, .i (b + ((hL xs ys a) + 2)), .i l] 27), (1, .cells z8 31), (0, .cells (mr W xs ys (r5 s b l p q)) 31)], 5⟩ [True] ⟨trivial, trivial⟩ ?_
       refine en ?_
       refine an ?_
       refine xw_seq ?_
       refine reg ?_
       refine rk [(2, .i (a + 1))] 4 0 ⟨[(93, .u ((s + 1) * 4294967296 + b)), (92, .u (a + 1)), (90, .agg (mm W (stx (mvx xs ys a ((s + 1) * 4294967296 + b) ((hL xs ys a) + 2)) (((s + 1) * 4294967296 + b) + 1) 0) (sty (mvy xs ys a ((s + 1) * 4294967296 + b) ((hL xs ys a) + 2)) (((s + 1) * 4294967296 + b) + 1) 0))), (17, .p 4), (15, .u ((s + 1) * 4294967296 + b)), (14, .p 3), (6, .i 0), (5, .u 0), (4, .p 1), (2, .p 0)], [(4, .cells (mm W (stx (mvx xs ys a ((s + 1) * 4294967296 + b) ((hL xs ys a) + 2)) (((s + 1) * 4294967296 + b) + 1) 0) (sty (mvy xs ys a ((s + 1) * 4294967296 + b) ((hL xs ys a) + 2)) (((s + 1) * 4294967296 + b) + 1) 0)) 25), (3, .cells [.i s, .i (b + ((hL xs ys a) + 2)), .i l] 27), (1, .cells z8 31), (0, .cells (mr W xs ys (r5 s b l p q)) 31)], 5⟩ [True, IntKind.u64.wrap (a + 1) = (a + 1)] ⟨trivial, u64_eq (by omega) (by omega), trivial⟩ ?_
       refine pc (rstore_1 W (stx (mvx xs ys a ((s + 1) * 4294967296 + b) (((ldw xs ys a / 4294967296) % 16777216) + 2)) (((s + 1) * 4294967296 + b) + 1) 0) (sty (mvy xs ys a ((s + 1) * 4294967296 + b) (((ldw xs ys a / 4294967296) % 16777216) + 2)) (((s + 1) * 4294967296 + b) + 1) 0) (a + 1) ((s + 1) * 4294967296 + b) ‹_› ‹_› ‹_› ‹_› ‹_› (by omega) (by omega) (by omega)) ?_
       obtain ⟨h19, h20, h21, h22⟩ := stx_ok W (stx (mvx xs ys a ((s + 1) * 4294967296 + b) (((ldw xs ys a / 4294967296) % 16777216) + 2)) (((s + 1) * 4294967296 + b) + 1) 0) (sty (mvy xs ys a ((s + 1) * 4294967296 + b) (((ldw xs ys a / 4294967296) % 16777216) + 2)) (((s + 1) * 4294967296 + b) + 1) 0) (a + 1) ((s + 1) * 4294967296 + b) ‹_› ‹_› ‹_› ‹_› (by omega)
       refine rk [] 4 5 ⟨[(17, .p 4), (15, .u ((s + 1) * 4294967296 + b)), (14, .p 3), (6, .i 0), (5, .u 0), (4, .p 1), (2, .p 0)], [(4, .cells (mm W (stx (stx (mvx xs ys a ((s + 1) * 4294967296 + b) ((hL xs ys a) + 2)) (((s + 1) * 4294967296 + b) + 1) 0) (a + 1) ((s + 1) * 4294967296 + b)) (sty (sty (mvy xs ys a ((s + 1) * 4294967296 + b) ((hL xs ys a) + 2)) (((s + 1) * 4294967296 + b) + 1) 0) (a + 1) ((s + 1) * 4294967296 + b))) 25), (3, .cells [.i s, .i (b + ((hL xs ys a) + 2)), .i l] 27), (1, .cells z8 31), (0, .cells (mr W xs ys (r5 s b l p q)) 31)], 5⟩ [True] ⟨trivial, trivial⟩ ?_
       refine en ?_
       refine an ?_
       refine rg [] 9 ⟨[(6, .i 0), (5, .u ((s + 1) * 4294967296 + b)), (4, .p 1)], [(1, .cells (mr W (stx (stx (mvx xs ys a ((s + 1) * 4294967296 + b) ((hL xs ys a) + 2)) (((s + 1) * 4294967296 + b) + 1) 0) (a + 1) ((s + 1) * 4294967296 + b)) (sty (sty (mvy xs ys a ((s + 1) * 4294967296 + b) ((hL xs ys a) + 2)) (((s + 1) * 4294967296 + b) + 1) 0) (a + 1) ((s + 1) * 4294967296 + b)) (r5 s (b + ((hL xs ys a) + 2)) l p q)) 31)], 5⟩ [True, True, True, True] ⟨trivial, trivial, trivial, trivial, trivial⟩ ?_
       refine xw_ret ?_
       exact br (.tup [.agg (mr W (stx (stx (mvx xs ys a ((s + 1) * 4294967296 + b) (((ldw xs ys a / 4294967296) % 16777216) + 2)) (((s + 1) * 4294967296 + b) + 1) 0) (a + 1) ((s + 1) * 4294967296 + b)) (sty (sty (mvy xs ys a ((s + 1) * 4294967296 + b) (((ldw xs ys a / 4294967296) % 16777216) + 2)) (((s + 1) * 4294967296 + b) + 1) 0) (a + 1) ((s + 1) * 4294967296 + b)) (r5 s (b + (((ldw xs ys a / 4294967296) % 16777216) + 2)) l p q)), .u ((s + 1) * 4294967296 + b), .i 0]) (.tup [.agg (mr W (tX xs ys a ((s + 1) * 4294967296 + b) (((ldw xs ys a / 4294967296) % 16777216) + 2)) (tY xs ys a ((s + 1) * 4294967296 + b) (((ldw xs ys a / 4294967296) % 16777216) + 2)) (r5 s (b + (((ldw xs ys a / 4294967296) % 16777216) + 2)) l p q)), .u ((s + 1) * 4294967296 + b), .i 0]) (wkd [(W : Int) = W, (false = true → false = true), (m64 (stx (stx (mvx xs ys a ((s + 1) * 4294967296 + b) (((ldw xs ys a / 4294967296) % 16777216) + 2)) (((s + 1) * 4294967296 + b) + 1) 0) (a + 1) ((s + 1) * 4294967296 + b))) = (m64 (tX xs ys a ((s + 1) * 4294967296 + b) (((ldw xs ys a / 4294967296) % 16777216) + 2))), (false = true → false = true), (m64 (sty (sty (mvy xs ys a ((s + 1) * 4294967296 + b) (((ldw xs ys a / 4294967296) % 16777216) + 2)) (((s + 1) * 4294967296 + b) + 1) 0) (a + 1) ((s + 1) * 4294967296 + b))) = (m64 (tY xs ys a ((s + 1) * 4294967296 + b) (((ldw xs ys a / 4294967296) % 16777216) + 2))), (s : Int) = s, ((b + (((ldw xs ys a / 4294967296) % 16777216) + 2)) : Int) = (b + (((ldw xs ys a / 4294967296) % 16777216) + 2)), (l : Int) = l, (p : Int) = p, (q : Int) = q, (((s + 1) * 4294967296 + b) : Int) = ((s + 1) * 4294967296 + b), (0 : Int) = 0] (by kernel_rfl) ⟨rfl, id, (by first | rfl | omega), id, (by first | rfl | omega), rfl, rfl, rfl, rfl, rfl, rfl, rfl, trivial⟩) (Or.inr <| Or.inr <| Or.inr <| Or.inr <| Or.inr <| Or.inr <| Or.inr <| ⟨(by omega), (by omega), (by omega), (by omega), (by omega), (by omega), rfl⟩)
      ·
       refine pc (rtake_2 s b l (((ldw xs ys a / 4294967296) % 16777216) + 2) ‹_› (by omega) (by omega)) ?_
       refine rk [] 8 4 ⟨[(16, .i 4), (15, .u 0), (14, .p 3), (13, .i ((hL xs ys a) + 2)), (6, .i 0), (5, .u 0), (4, .p 1), (2, .p 0), (1, .u a)], [(3, .cells [.i s, .i b, .i l] 27), (1, .cells z8 31), (0, .cells (mr W xs ys (r5 s b l p q)) 31)], 4⟩ [True] ⟨trivial, trivial⟩ ?_
       refine en ?_
       refine an ?_
       refine xw_seq ?_
       refine rg [(1, .t)] 2 ⟨[(71, .t), (15, .u 0), (14, .p 3), (13, .i ((hL xs ys a) + 2)), (6, .i 0), (5, .u 0), (4, .p 1), (2, .p 0), (1, .u a)], [(3, .cells [.i s, .i b, .i l] 27), (1, .cells z8 31), (0, .cells (mr W xs ys (r5 s b l p q)) 31)], 4⟩ [(4 != 0) = true] ⟨bne_iff_ne.2 (by omega), trivial⟩ ?_
       refine ct ?_
       refine rg [] 4 ⟨[(6, .i 4), (5, .u 0), (15, .u 0), (14, .p 3), (13, .i ((hL xs ys a) + 2)), (4, .p 1), (2, .p 0), (1, .u a)], [(3, .cells [.i s, .i b, .i l] 27), (1, .cells (mr W xs ys (r5 s b l p q)) 31), (0, .cells (mr W xs ys (r5 s b l p q)) 31)], 4⟩ [True, True] ⟨trivial, trivial, trivial⟩ ?_
       refine xw_ret ?_
       refine an_ret ?_
       exact bs (.tup [.agg (mr W xs ys (r5 s b l p q)), .u 0, .i 4]) (Or.inr <| Or.inr <| Or.inr <| Or.inr <| Or.inr <| Or.inr <| Or.inl <| ⟨(by omega), (by omega), (by omega), (by omega), (by omega), (by omega), rfl⟩)
  ·
   by_cases h2 : ((oErr W xs ys a) = 0) ∧ ((ldw xs ys a / 72057594037927936) = 255)
   ·
    refine pc (rotwin_2 W xs ys a ‹_› ‹_› ‹_› ‹_› ‹_› ‹_› (by omega) (by omega)) ?_
    obtain ⟨h3, h4, h5⟩ := oErr_ok W xs ys a (by omega)
    refine rk [] 5 4 ⟨[(8, .i 8), (7, .u 0), (6, .i 0), (5, .u 0), (4, .p 1), (2, .p 0), (1, .u a)], [(1, .cells z8 31), (0, .cells (mr W xs ys (r5 s b l p q)) 31)], 2⟩ [] trivial ?_
    refine en ?_
    refine an ?_
    refine xw_seq ?_
    refine rg [(1, .t)] 2 ⟨[(30, .t), (8, .i 8), (7, .u 0), (6, .i 0), (5, .u 0), (4, .p 1), (2, .p 0), (1, .u a)], [(1, .cells z8 31), (0, .cells (mr W xs ys (r5 s b l p q)) 31)], 2⟩ [(8 != 0) = true] ⟨bne_iff_ne.2 (by omega), trivial⟩ ?_
    refine ct ?_
    refine rg [] 5 ⟨[(6, .i 8), (5, .u 0), (7, .u 0), (4, .p 1), (2, .p 0), (1, .u a)], [(1, .cells (mr W xs ys (r5 s b l p q)) 31), (0, .cells (mr W xs ys (r5 s b l p q)) 31)], 2⟩ [True, True] ⟨trivial, trivial, trivial⟩ ?_
    refine xw_ret ?_
    refine an_ret ?_
    exact bs (.tup [.agg (mr W xs ys (r5 s b l p q)), .u 0, .i 8]) (Or.inr <| Or.inr <| Or.inl <| ⟨(by omega), (by omega), (by omega), rfl⟩)
   ·
    refine pc (rotwin_3 W xs ys a ‹_› ‹_› ‹_› ‹_› ‹_› ‹_› (by omega)) ?_
    have h3 : (oErr W xs ys a) = 2 ∨ (oErr W xs ys a) = 10 := oErr_no W xs ys a (by omega)
    refine rk [] 5 4 ⟨[(8, .i (oErr W xs ys a)), (7, .u 0), (6, .i 0), (5, .u 0), (4, .p 1), (2, .p 0), (1, .u a)], [(1, .cells z8 31), (0, .cells (mr W xs ys (r5 s b l p q)) 31)], 2⟩ [] trivial ?_
    refine en ?_
    refine an ?_
    refine xw_seq ?_
    refine rg [(1, .t)] 2 ⟨[(30, .t), (8, .i (oErr W xs ys a)), (7, .u 0), (6, .i 0), (5, .u 0), (4, .p 1), (2, .p 0), (1, .u a)], [(1, .cells z8 31), (0, .cells (mr W xs ys (r5 s b l p q)) 31)], 2⟩ [((oErr W xs ys a) != 0) = true] ⟨bne_iff_ne.2 (by omega), trivial⟩ ?_
    refine ct ?_
    refine rg [] 5 ⟨[(6, .i (oErr W xs ys a)), (5, .u 0), (7, .u 0), (4, .p 1), (2, .p 0), (1, .u a)], [(1, .cells (mr W xs ys (r5 s b l p q)) 31), (0, .cells (mr W xs ys (r5 s b l p q)) 31)], 2⟩ [True, True] ⟨trivial, trivial, trivial⟩ ?_
    refine xw_ret ?_
    refine an_ret ?_
    exact bs (.tup [.agg (mr W xs ys (r5 s b l p q)), .u 0, .i (oErr W xs ys a)]) (Or.inr <| Or.inl <| ⟨(by omega), (by omega), rfl⟩)

theorem rtto_8 (W : Int) (xs ys : List Int) (s b l p q a : Int) (hp0 : 16 ≤ W ∧ W ≤ 4096) (hp1 : (xs.length : Int) = W) (hp2 : (ys.length : Int) = W) (hp3 : U64s xs) (hp4 : U64s ys) (hp5 : (s = 0 ∨ s = 1) ∧ 0 ≤ b ∧ b ≤ l ∧ l ≤ 4096) (hp6 : l = W) (hp7 : 0 ≤ p ∧ p ≤ q ∧ q ≤ b) (hp8 : 0 ≤ a ∧ a ≤ 18446744073709551615) (hp9 : a ≠ 0) (hp10 : (oErr W xs ys a) = 0) (hp11 : (ldw xs ys a / 72057594037927936) ≠ 255) (hp12 : ¬ (a / 4294967296 - 1 = s)) (hp13 : (ldw xs ys (a + 1)) = 0) (hp14 : (((ldw xs ys a / 4294967296) % 16777216) + 2) ≤ l - b) : Pub Try.prog 13 [.agg (mr W xs ys (r5 s b l p q)), .u a] (fun rv => rv = .tup [.agg (mr W (tX xs ys a ((s + 1) * 4294967296 + b) (((ldw xs ys a / 4294967296) % 16777216) + 2)) (tY xs ys a ((s + 1) * 4294967296 + b) (((ldw xs ys a / 4294967296) % 16777216) + 2)) (r5 s (b + (((ldw xs ys a / 4294967296) % 16777216) + 2)) l p q)), .u ((s + 1) * 4294967296 + b), .i 0]) := by
  refine (rtto W xs ys s b l p q a hp0 hp1 hp2 hp3 hp4 hp5 hp6 hp7 hp8).mono ?_
  rintro _ (⟨g0, rfl⟩ | ⟨g0, g1, rfl⟩ | ⟨g0, g1, g2, rfl⟩ | ⟨g0, g1, g2, g3, rfl⟩ | ⟨g0, g1, g2, g3, g4, g5, rfl⟩ | ⟨g0, g1, g2, g3, g4, g5, rfl⟩ | ⟨g0, g1, g2, g3, g4, g5, rfl⟩ | ⟨g0, g1, g2, g3, g4, g5, rfl⟩)
  all_goals first | rfl | (exfalso; first | omega | grind)

end Go.Proofs.Ytnfkgfibinimmaa.X
