/- Contracts of Go functions: what each returns, for every input that its premises name; no memory of the caller is touched. Printed by a program. -/
import Derived.Test.YtjchmajamlehmaaXb3
namespace Go.Proofs.Ytjchmajamlehmaa.X
open Go Go.RowKit
set_option linter.unusedVariables false      -- a premise may serve only to tell which way is taken
set_option maxHeartbeats 8000000 in
theorem oat (W : Int) (xs ys : List Int) (a : Int) (hp0 : 16 ≤ W ∧ W ≤ 4096) (hp1 : (xs.length : Int) = W) (hp2 : (ys.length : Int) = W) (hp3 : U64s xs) (hp4 : U64s ys) (hp5 : 0 ≤ a ∧ a ≤ 18446744073709551615) : Pub Try.prog 50 [.agg (mm W xs ys), .u a] (fun rv => (((oErr W xs ys a) = 0) ∧ rv = .tup [.agg [.i (ldw xs ys a / 72057594037927936), .i ((ldw xs ys a / 4294967296) % 16777216), .u (ldw xs ys a % 4294967296)], .i 0]) ∨ ((¬ ((oErr W xs ys a) = 0)) ∧ rv = .tup [.agg [.i 0, .i 0, .u 0], .i (oErr W xs ys a)])) := by
 refine pub_of TT_ok Try.func50 rfl (by decide) (Nat.le_of_ble_eq_true (by kernel_rfl)) (by kernel_rfl) ?_
 refine rgi [] 4 [5, 4, 3, 2] [2, 1, 0] [] trivial ?_
 refine xw_scope_u 0 4 rfl ?_
 refine rgi [] 1 [6, 5, 4, 3, 2] [3, 2, 1, 0] [] trivial ?_
 refine rgi [] 1 [7, 6, 5, 4, 3, 2] [4, 3, 2, 1, 0] [] trivial ?_
 refine rg [(3, .f)] 5 ⟨[(8, .osub 5 1 0 3), (6, .p 3), (5, .i 0), (4, .p 2)], [(5, .cells [.fn 67 [] [.p 0, .p 1, .p 4], .fn 69 [] [.p 4, .p 3], .fn 71 [] [.p 0, .p 1, .p 3]] 119), (4, .cells [.u 0] 47), (3, .cells [.i 0, .i 0, .u 0] 49), (2, .cells [.i 0, .i 0, .u 0] 49), (1, .cells [.u a] 47), (0, .cells (mm W xs ys) 25)], 6⟩ [] trivial ?_
 refine rgi [] 1 [9, 8, 6, 5, 4] [5, 4, 3, 2, 1, 0] [] trivial ?_
 refine xw_seq ?_
 refine xw_label ?_
 refine an ?_
 refine xw_seq ?_
 refine xw_seq ?_
 refine reg ?_
 refine rki [] 4 0 [18, 9, 8, 6, 5, 4] [5, 4, 3, 2, 1, 0] [(0 : Int) ≤ 0 ∧ 0 < ((3 : Nat) : Int), True] ⟨(by constructor <;> omega), trivial, trivial⟩ ?_
 refine callx (f := 67) (args := [.p 0, .p 1, .p 4]) (d := (some 19)) (by kernel_rfl) (xcall_of TT_ok Try.func67 rfl (by decide) (Nat.le_of_ble_eq_true (by kernel_rfl)) ?_)
 refine rgi [] 1 [3, 0, 1, 2] [5, 4, 3, 2, 1, 0] [] trivial ?_
 refine xw_seq ?_
 refine reg ?_
 refine rk [] 2 0 ⟨[(6, .u a), (5, .agg (mm W xs ys)), (3, .i 0), (2, .p 4)], [(5, .cells [.fn 67 [] [.p 0, .p 1, .p 4], .fn 69 [] [.p 4, .p 3], .fn 71 [] [.p 0, .p 1, .p 3]] 119), (4, .cells [.u 0] 47), (3, .cells [.i 0, .i 0, .u 0] 49), (2, .cells [.i 0, .i 0, .u 0] 49), (1, .cells [.u a] 47), (0, .cells (mm W xs ys) 25)], 6⟩ [True, True] ⟨trivial, trivial, trivial⟩ ?_
 by_cases h0 : 1 ≤ a / 4294967296 ∧ a / 4294967296 ≤ 2 ∧ a % 4294967296 < W
 ·
  refine pc (load_1 W xs ys a ‹_› ‹_› ‹_› ‹_› ‹_› ‹_› (by omega)) ?_
  have h1 : 0 ≤ (ldw xs ys a) ∧ (ldw xs ys a) ≤ 18446744073709551615 := ldw_ok xs ys a ‹_› ‹_›
  refine rki [] 5 3 [3] [5, 4, 3, 2, 1, 0] [True] ⟨trivial, trivial⟩ ?_
  refine en ?_
  refine an ?_
  refine rgi [] 2 [3] [5, 4, 3, 2, 1, 0] [] trivial ?_
  refine xw_ret ?_
  refine ⟨.i 0, by kernel_rfl, ?_⟩
  refine rk [] 1 5 ⟨[(10, .i 0), (9, .i 0), (8, .osub 5 1 0 3), (6, .p 3), (5, .i 0), (4, .p 2)], [(5, .cells [.fn 67 [] [.p 0, .p 1, .p 4], .fn 69 [] [.p 4, .p 3], .fn 71 [] [.p 0, .p 1, .p 3]] 119), (4, .cells [.u (ldw xs ys a)] 47), (3, .cells [.i 0, .i 0, .u 0] 49), (2, .cells [.i 0, .i 0, .u 0] 49), (1, .cells [.u a] 47), (0, .cells (mm W xs ys) 25)], 6⟩ [] trivial ?_
  refine en ?_
  refine an ?_
  refine rgi [(1, .f)] 2 [21, 10, 9, 8, 6, 5, 4] [5, 4, 3, 2, 1, 0] [(0 != 0) = false] ⟨bne_eq_false_iff_eq.2 (by omega), trivial⟩ ?_
  refine cf ?_
  refine xw_skip ?_
  refine an ?_
  refine rgi [(1, .i 1)] 3 [9, 8, 6, 5, 4] [5, 4, 3, 2, 1, 0] [IntKind.i64.wrap (0 + 1) = 1] ⟨rfl, trivial⟩ ?_
  refine xw_seq ?_
  refine rgi [(2, .i 3), (3, .t)] 4 [29, 9, 8, 6, 5, 4] [5, 4, 3, 2, 1, 0] [(((3 : Nat) : Nat) : Int) = 3, (decide (1 < 3)) = true] ⟨rfl, decide_eq_true (by omega), trivial⟩ ?_
  refine ct ?_
  refine xw_goto ?_
  refine an_goto ?_
  refine juu ?_
  refine uj_step ?_
  refine xw_seq ?_
  refine xw_skip ?_
  refine an ?_
  refine xw_seq ?_
  refine xw_seq ?_
  refine reg ?_
  refine rk [] 4 0 ⟨[(18, .fn 69 [] [.p 4, .p 3]), (9, .i 1), (8, .osub 5 1 0 3), (6, .p 3), (5, .i 0), (4, .p 2)], [(5, .cells [.fn 67 [] [.p 0, .p 1, .p 4], .fn 69 [] [.p 4, .p 3], .fn 71 [] [.p 0, .p 1, .p 3]] 119), (4, .cells [.u (ldw xs ys a)] 47), (3, .cells [.i 0, .i 0, .u 0] 49), (2, .cells [.i 0, .i 0, .u 0] 49), (1, .cells [.u a] 47), (0, .cells (mm W xs ys) 25)], 6⟩ [(0 : Int) ≤ 1 ∧ 1 < ((3 : Nat) : Int), True] ⟨(by constructor <;> omega), trivial, trivial⟩ ?_
  refine callx (f := 69) (args := [.p 4, .p 3]) (d := (some 19)) (by kernel_rfl) (xcall_of TT_ok Try.func69 rfl (by decide) (Nat.le_of_ble_eq_true (by kernel_rfl)) ?_)
  refine rgi [] 1 [2, 0, 1] [5, 4, 3, 2, 1, 0] [] trivial ?_
  refine xw_seq ?_
  refine reg ?_
  refine rki [] 1 0 [4, 2, 1] [5, 4, 3, 2, 1, 0] [True] ⟨trivial, trivial⟩ ?_
  by_cases h2 : (((ldw xs ys a) / 72057594037927936) = 255 ∧ 0 ≤ (((ldw xs ys a) / 4294967296) % 16777216) ∧ (((ldw xs ys a) / 4294967296) % 16777216) ≤ 65535 ∧ ((ldw xs ys a) % 4294967296) = 0) ∨ (1 ≤ ((ldw xs ys a) / 72057594037927936) ∧ ((ldw xs ys a) / 72057594037927936) ≤ 200 ∧ 0 ≤ (((ldw xs ys a) / 4294967296) % 16777216) ∧ (((ldw xs ys a) / 4294967296) % 16777216) ≤ 16 ∧ ((ldw xs ys a) % 4294967296) < 2 ^ (Int.toNat (((ldw xs ys a) / 4294967296) % 16777216)) ∧ ((ldw xs ys a) % 4294967296) < 65536)
  ·
   refine pc (htake_1 (ldw xs ys a) ‹_› ‹_›) ?_
   refine rki [] 5 2 [2] [5, 4, 3, 2, 1, 0] [True] ⟨trivial, trivial⟩ ?_
   refine en ?_
   refine an ?_
   refine rg [] 2 ⟨[(2, .i 0)], [(5, .cells [.fn 67 [] [.p 0, .p 1, .p 4], .fn 69 [] [.p 4, .p 3], .fn 71 [] [.p 0, .p 1, .p 3]] 119), (4, .cells [.u (ldw xs ys a)] 47), (3, .cells [.i (hT xs ys a), .i (hL xs ys a), .u (hM xs ys a)] 49), (2, .cells [.i 0, .i 0, .u 0] 49), (1, .cells [.u a] 47), (0, .cells (mm W xs ys) 25)], 6⟩ [] trivial ?_
   refine xw_ret ?_
   refine ⟨.i 0, by kernel_rfl, ?_⟩
   refine rki [] 1 5 [10, 9, 8, 6, 5, 4] [5, 4, 3, 2, 1, 0] [] trivial ?_
   refine en ?_
   refine an ?_
   refine rgi [(1, .f)] 2 [21, 10, 9, 8, 6, 5, 4] [5, 4, 3, 2, 1, 0] [(0 != 0) = false] ⟨bne_eq_false_iff_eq.2 (by omega), trivial⟩ ?_
   refine cf ?_
   refine xw_skip ?_
   refine an ?_
   refine rg [(1, .i 2)] 3 ⟨[(9, .i 2), (8, .osub 5 1 0 3), (6, .p 3), (5, .i 0), (4, .p 2)], [(5, .cells [.fn 67 [] [.p 0, .p 1, .p 4], .fn 69 [] [.p 4, .p 3], .fn 71 [] [.p 0, .p 1, .p 3]] 119), (4, .cells [.u (ldw xs ys a)] 47), (3, .cells [.i (hT xs ys a), .i (hL xs ys a), .u (hM xs ys a)] 49), (2, .cells [.i 0, .i 0, .u 0] 49), (1, .cells [.u a] 47), (0, .cells (mm W xs ys) 25)], 6⟩ [IntKind.i64.wrap (1 + 1) = 2] ⟨rfl, trivial⟩ ?_
   refine xw_seq ?_
   refine rgi [(2, .i 3), (3, .t)] 4 [29, 9, 8, 6, 5, 4] [5, 4, 3, 2, 1, 0] [(((3 : Nat) : Nat) : Int) = 3, (decide (2 < 3)) = true] ⟨rfl, decide_eq_true (by omega), trivial⟩ ?_
   refine ct ?_
   refine xw_goto ?_
   refine an_goto ?_
   refine juu ?_
   refine uj_step ?_
   refine xw_seq ?_
   refine xw_skip ?_
   refine an ?_
   refine xw_seq ?_
   refine xw_seq ?_
   refine reg ?_
   refine rki [] 4 0 [18, 9, 8, 6, 5, 4] [5, 4, 3, 2, 1, 0] [(0 : Int) ≤ 2 ∧ 2 < ((3 : Nat) : Int), True] ⟨(by constructor <;> omega), trivial, trivial⟩ ?_
   refine callx (f := 71) (args := [.p 0, .p 1, .p 3]) (d := (some 19)) (by kernel_rfl) (xcall_of TT_ok Try.func71 rfl (by decide) (Nat.le_of_ble_eq_true (by kernel_rfl)) ?_)
   refine rgi [] 1 [3, 0, 1, 2] [5, 4, 3, 2, 1, 0] [] trivial ?_
   refine xw_seq ?_
   refine xw_seq ?_
   refine dregk hmix (by kernel_rfl) ?_
   refine qri [] 3 0 [True, True, True] ⟨trivial, trivial, trivial, trivial⟩ ?_
   by_cases h3 : ((ldw xs ys a) / 72057594037927936) = 255
   ·
    refine qc (hwords_1 ((ldw xs ys a) / 72057594037927936) (((ldw xs ys a) / 4294967296) % 16777216) ((ldw xs ys a) % 4294967296) (by omega) (by omega) (by omega) (by omega) ‹_›) ?_
    by_cases h4 : 1 ≤ a / 4294967296 ∧ a / 4294967296 ≤ 2 ∧ (a % 4294967296) < W ∧ 0 ≤ ((((ldw xs ys a) / 4294967296) % 16777216) + 1) ∧ (a % 4294967296) + ((((ldw xs ys a) / 4294967296) % 16777216) + 1) ≤ W
    ·
     refine qc (othere_1 W xs ys a ((((ldw xs ys a) / 4294967296) % 16777216) + 1) ‹_› ‹_› ‹_› ‹_› ‹_› ‹_› (by omega) (by omega)) ?_
     refine qri [] 1 5 [] trivial ?_
     refine qen ?_
     refine an ?_
     refine cf ?_
     refine xw_skip ?_
     refine an ?_
     refine rg [] 1 ⟨[(3, .i 0)], [(5, .cells [.fn 67 [] [.p 0, .p 1, .p 4], .fn 69 [] [.p 4, .p 3], .fn 71 [] [.p 0, .p 1, .p 3]] 119), (4, .cells [.u (ldw xs ys a)] 47), (3, .cells [.i (hT xs ys a), .i (hL xs ys a), .u (hM xs ys a)] 49), (2, .cells [.i 0, .i 0, .u 0] 49), (1, .cells [.u a] 47), (0, .cells (mm W xs ys) 25)], 6⟩ [] trivial ?_
     refine xw_ret ?_
     refine ⟨.i 0, by kernel_rfl, ?_⟩
     refine rki [] 1 5 [10, 9, 8, 6, 5, 4] [5, 4, 3, 2, 1, 0] [] trivial ?_
     refine en ?_
     refine an ?_
     refine rgi [(1, .f)] 2 [21, 10, 9, 8, 6, 5, 4] [5, 4, 3, 2, 1, 0] [(0 != 0) = false] ⟨bne_eq_false_iff_eq.2 (by omega), trivial⟩ ?_
     refine cf ?_
     refine xw_skip ?_
     refine an ?_
     refine rg [(1, .i 3)] 3 ⟨[(9, .i 3), (8, .osub 5 1 0 3), (6, .p 3), (5, .i 0), (4, .p 2)], [(5, .cells [.fn 67 [] [.p 0, .p 1, .p 4], .fn 69 [] [.p 4, .p 3], .fn 71 [] [.p 0, .p 1, .p 3]] 119), (4, .cells [.u (ldw xs ys a)] 47), (3, .cells [.i (hT xs ys a), .i (hL xs ys a), .u (hM xs ys a)] 49), (2, .cells [.i 0, .i 0, .u 0] 49), (1, .cells [.u a] 47), (0, .cells (mm W xs ys) 25)], 6⟩ [IntKind.i64.wrap (2 + 1) = 3] ⟨rfl, trivial⟩ ?_
     refine xw_seq ?_
     refine rgi [(2, .i 3), (3, .f)] 4 [29, 9, 8, 6, 5, 4] [5, 4, 3, 2, 1, 0] [(((3 : Nat) : Nat) : Int) = 3, (decide (3 < 3)) = false] ⟨rfl, decide_eq_false (by omega), trivial⟩ ?_
     refine cf ?_
     refine xw_skip ?_
     refine an ?_
     refine rgi [] 3 [5, 9, 8, 6, 4] [5, 4, 3, 2, 1, 0] [True, True] ⟨trivial, trivial, trivial⟩ ?_
     refine xw_ret ?_
     refine juu_ret ?_
     exact br (.tup [.agg [.i ((ldw xs ys a) / 72057594037927936), .i (((ldw xs ys a) / 4294967296) % 16777216), .u ((ldw xs ys a) % 4294967296)], .i 0]) (.tup [.agg [.i (ldw xs ys a / 72057594037927936), .i ((ldw xs ys a / 4294967296) % 16777216), .u (ldw xs ys a % 4294967296)], .i 0]) (wkd [(((ldw xs ys a) / 72057594037927936) : Int) = (ldw xs ys a / 72057594037927936), ((((ldw xs ys a) / 4294967296) % 16777216) : Int) = ((ldw xs ys a / 4294967296) % 16777216), (((ldw xs ys a) % 4294967296) : Int) = (ldw xs ys a % 4294967296), (0 : Int) = 0] (by kernel_rfl) ⟨(by omega), (by omega), (by omega), rfl, trivial⟩) (Or.inl <| ⟨(by first | rfl | omega | (rw [oErr_0 (by omega) (by omega) (by omega)]; done) | (rw [oErr_1 (by omega)]; done) | (rw [oErr_1 (by omega)]; decide) | (rw [oErr_2 (by omega) (by omega)]; done) | (rw [oErr_2 (by omega) (by omega)]; decide) | (rw [oErr_3 (by omega) (by omega) (by omega)]; done) | (rw [oErr_3 (by omega) (by omega) (by omega)]; decide)), rfl⟩)
    ·
     refine qc (othere_2 W xs ys a ((((ldw xs ys a) / 4294967296) % 16777216) + 1) ‹_› ‹_› ‹_› ‹_› ‹_› ‹_› (by omega) (by omega)) ?_
     refine qri [] 1 5 [] trivial ?_
     refine qen ?_
     refine an ?_
     refine ct ?_
     refine rg [] 1 ⟨[(3, .i 2)], [(5, .cells [.fn 67 [] [.p 0, .p 1, .p 4], .fn 69 [] [.p 4, .p 3], .fn 71 [] [.p 0, .p 1, .p 3]] 119), (4, .cells [.u (ldw xs ys a)] 47), (3, .cells [.i (hT xs ys a), .i (hL xs ys a), .u (hM xs ys a)] 49), (2, .cells [.i 0, .i 0, .u 0] 49), (1, .cells [.u a] 47), (0, .cells (mm W xs ys) 25)], 6⟩ [] trivial ?_
     refine xw_ret ?_
     refine an_ret ?_
     refine ⟨.i 2, by kernel_rfl, ?_⟩
     refine rki [] 1 5 [10, 9, 8, 6, 5, 4] [5, 4, 3, 2, 1, 0] [] trivial ?_
     refine en ?_
     refine an ?_
     refine rgi [(1, .t)] 2 [21, 10, 9, 8, 6, 5, 4] [5, 4, 3, 2, 1, 0] [(2 != 0) = true] ⟨bne_iff_ne.2 (by omega), trivial⟩ ?_
     refine ct ?_
     refine rg [] 4 ⟨[(5, .i 2), (9, .i 2), (8, .osub 5 1 0 3), (6, .p 3), (4, .p 2)], [(5, .cells [.fn 67 [] [.p 0, .p 1, .p 4], .fn 69 [] [.p 4, .p 3], .fn 71 [] [.p 0, .p 1, .p 3]] 119), (4, .cells [.u (ldw xs ys a)] 47), (3, .cells [.i (hT xs ys a), .i (hL xs ys a), .u (hM xs ys a)] 49), (2, .cells [.i 0, .i 0, .u 0] 49), (1, .cells [.u a] 47), (0, .cells (mm W xs ys) 25)], 6⟩ [True] ⟨trivial, trivial⟩ ?_
     refine xw_ret ?_
     refine an_ret ?_
     refine juu_ret ?_
     exact br (.tup [.agg [.i 0, .i 0, .u 0], .i 2]) (.tup [.agg [.i 0, .i 0, .u 0], .i (oErr W xs ys a)]) (wkd [(0 : Int) = 0, (0 : Int) = 0, (0 : Int) = 0, (2 : Int) = (oErr W xs ys a)] (by kernel_rfl) ⟨rfl, rfl, rfl, (by first | rfl | omega | (rw [oErr_0 (by omega) (by omega) (by omega)]; done) | (rw [oErr_1 (by omega)]; done) | (rw [oErr_1 (by omega)]; decide) | (rw [oErr_2 (by omega) (by omega)]; done) | (rw [oErr_2 (by omega) (by omega)]; decide) | (rw [oErr_3 (by omega) (by omega) (by omega)]; done) | (rw [oErr_3 (by omega) (by omega) (by omega)]; decide)), trivial⟩) (Or.inr <| ⟨(by first | rfl | omega | (rw [oErr_0 (by omega) (by omega) (by omega)]; done) | (rw [oErr_1 (by omega)]; done) | (rw [oErr_1 (by omega)]; decide) | (rw [oErr_2 (by omega) (by omega)]; done) | (rw [oErr_2 (by omega) (by omega)]; decide) | (rw [oErr_3 (by omega) (by omega) (by omega)]; done) | (rw [oErr_3 (by omega) (by omega) (by omega)]; decide)), rfl⟩)
   ·
    refine qc (hwords_2 ((ldw xs ys a) / 72057594037927936) (((ldw xs ys a) / 4294967296) % 16777216) ((ldw xs ys a) % 4294967296) (by omega) (by omega) (by omega) (by omega) ‹_›) ?_
    by_cases h4 : 1 ≤ a / 4294967296 ∧ a / 4294967296 ≤ 2 ∧ (a % 4294967296) < W ∧ 0 ≤ ((((ldw xs ys a) / 4294967296) % 16777216) + 2) ∧ (a % 4294967296) + ((((ldw xs ys a) / 4294967296) % 16777216) + 2) ≤ W
    ·
     refine qc (othere_1 W xs ys a ((((ldw xs ys a) / 4294967296) % 16777216) + 2) ‹_› ‹_› ‹_› ‹_› ‹_› ‹_› (by omega) (by omega)) ?_
     refine qri [] 1 5 [] trivial ?_
     refine qen ?_
     refine an ?_
     refine cf ?_
     refine xw_skip ?_
     refine an ?_
     refine rg [] 1 ⟨[(3, .i 0)], [(5, .cells [.fn 67 [] [.p 0, .p 1, .p 4], .fn 69 [] [.p 4, .p 3], .fn 71 [] [.p 0, .p 1, .p 3]] 119), (4, .cells [.u (ldw xs ys a)] 47), (3, .cells [.i (hT xs ys a), .i (hL xs ys a), .u (hM xs ys a)] 49), (2, .cells [.i 0, .i 0, .u 0] 49), (1, .cells [.u a] 47), (0, .cells (mm W xs ys) 25)], 6⟩ [] trivial ?_
     refine xw_ret ?_
     refine ⟨.i 0, by kernel_rfl, ?_⟩
     refine rki [] 1 5 [10, 9, 8, 6, 5, 4] [5, 4, 3, 2, 1, 0] [] trivial ?_
     refine en ?_
     refine an ?_
     refine rgi [(1, .f)] 2 [21, 10, 9, 8, 6, 5, 4] [5, 4, 3, 2, 1, 0] [(0 != 0) = false] ⟨bne_eq_false_iff_eq.2 (by omega), trivial⟩ ?_
     refine cf ?_
     refine xw_skip ?_
     refine an ?_
     refine rg [(1, .i 3)] 3 ⟨[(9, .i 3), (8, .osub 5 1 0 3), (6, .p 3), (5, .i 0), (4, .p 2)], [(5, .cells [.fn 67 [] [.p 0, .p 1, .p 4], .fn 69 [] [.p 4, .p 3], .fn 71 [] [.p 0, .p 1, .p 3]] 119), (4, .cells [.u (ldw xs ys a)] 47), (3, .cells [.i (hT xs ys a), .i (hL xs ys a), .u (hM xs ys a)] 49), (2, .cells [.i 0, .i 0, .u 0] 49), (1, .cells [.u a] 47), (0, .cells (mm W xs ys) 25)], 6⟩ [IntKind.i64.wrap (2 + 1) = 3] ⟨rfl, trivial⟩ ?_
     refine xw_seq ?_
     refine rgi [(2, .i 3), (3, .f)] 4 [29, 9, 8, 6, 5, 4] [5, 4, 3, 2, 1, 0] [(((3 : Nat) : Nat) : Int) = 3, (decide (3 < 3)) = false] ⟨rfl, decide_eq_false (by omega), trivial⟩ ?_
     refine cf ?_
     refine xw_skip ?_
     refine an ?_
     refine rgi [] 3 [5, 9, 8, 6, 4] [5, 4, 3, 2, 1, 0] [True, True] ⟨trivial, trivial, trivial⟩ ?_
     refine xw_ret ?_
     refine juu_ret ?_
     exact br (.tup [.agg [.i ((ldw xs ys a) / 72057594037927936), .i (((ldw xs ys a) / 4294967296) % 16777216), .u ((ldw xs ys a) % 4294967296)], .i 0]) (.tup [.agg [.i (ldw xs ys a / 72057594037927936), .i ((ldw xs ys a / 4294967296) % 16777216), .u (ldw xs ys a % 4294967296)], .i 0]) (wkd [(((ldw xs ys a) / 72057594037927936) : Int) = (ldw xs ys a / 72057594037927936), ((((ldw xs ys a) / 4294967296) % 16777216) : Int) = ((ldw xs ys a / 4294967296) % 16777216), (((ldw xs ys a) % 4294967296) : Int) = (ldw xs ys a % 4294967296), (0 : Int) = 0] (by kernel_rfl) ⟨(by omega), (by omega), (by omega), rfl, trivial⟩) (Or.inl <| ⟨(by first | rfl | omega | (rw [oErr_0 (by omega) (by omega) (by omega)]; done) | (rw [oErr_1 (by omega)]; done) | (rw [oErr_1 (by omega)]; decide) | (rw [oErr_2 (by omega) (by omega)]; done) | (rw [oErr_2 (by omega) (by omega)]; decide) | (rw [oErr_3 (by omega) (by omega) (by omega)]; done) | (rw [oErr_3 (by omega) (by omega) (by omega)]; decide)), rfl⟩)
    ·
     refine qc (othere_2 W xs ys a ((((ldw xs ys a) / 4294967296) % 16777216) + 2) ‹_› ‹_› ‹_› ‹_› ‹_› ‹_› (by omega) (by omega)) ?_
     refine qri [] 1 5 [] trivial ?_
     refine qen ?_
     refine an ?_
     refine ct ?_
     refine rg [] 1 ⟨[(3, .i 2)], [(5, .cells [.fn 67 [] [.p 0, .p 1, .p 4], .fn 69 [] [.p 4, .p 3], .fn 71 [] [.p 0, .p 1, .p 3]] 119), (4, .cells [.u (ldw xs ys a)] 47), (3, .cells [.i (hT xs ys a), .i (hL xs ys a), .u (hM xs ys a)] 49), (2, .cells [.i 0, .i 0, .u 0] 49), (1, .cells [.u a] 47), (0, .cells (mm W xs ys) 25)], 6⟩ [] trivial ?_
     refine xw_ret ?_
     refine an_ret ?_
     refine ⟨.i 2, by kernel_rfl, ?_⟩
     refine rki [] 1 5 [10, 9, 8, 6, 5, 4] [5, 4, 3, 2, 1, 0] [] trivial ?_
     refine en ?_
     refine an ?_
     refine rgi [(1, .t)] 2 [21, 10, 9, 8, 6, 5, 4] [5, 4, 3, 2, 1, 0] [(2 != 0) = true] ⟨bne_iff_ne.2 (by omega), trivial⟩ ?_
     refine ct ?_
     refine rg [] 4 ⟨[(5, .i 2), (9, .i 2), (8, .osub 5 1 0 3), (6, .p 3), (4, .p 2)], [(5, .cells [.fn 67 [] [.p 0, .p 1, .p 4], .fn 69 [] [.p 4, .p 3], .fn 71 [] [.p 0, .p 1, .p 3]] 119), (4, .cells [.u (ldw xs ys a)] 47), (3, .cells [.i (hT xs ys a), .i (hL xs ys a), .u (hM xs ys a)] 49), (2, .cells [.i 0, .i 0, .u 0] 49), (1, .cells [.u a] 47), (0, .cells (mm W xs ys) 25)], 6⟩ [True] ⟨trivial, trivial⟩ ?_
     refine xw_ret ?_
     refine an_ret ?_
     refine juu_ret ?_
     exact br (.tup [.agg [.i 0, .i 0, .u 0], .i 2]) (.tup [.agg [.i 0, .i 0, .u 0], .i (oErr W xs ys a)]) (wkd [(0 : Int) = 0, (0 : Int) = 0, (0 : Int) = 0, (2 : Int) = (oErr W xs ys a)] (by kernel_rfl) ⟨rfl, rfl, rfl, (by first | rfl | omega | (rw [oErr_0 (by omega) (by omega) (by omega)]; done) | (rw [oErr_1 (by omega)]; done) | (rw [oErr_1 (by omega)]; decide) | (rw [oErr_2 (by omega) (by omega)]; done) | (rw [oErr_2 (by omega) (by omega)]; decide) | (rw [oErr_3 (by omega) (by omega) (by omega)]; done) | (rw [oErr_3 (by omega) (by omega) (by omega)]; decide)), trivial⟩) (Or.inr <| ⟨(by first | rfl | omega | (rw [oErr_0 (by omega) (by omega) (by omega)]; done) | (rw [oErr_1 (by omega)]; done) | (rw [oErr_1 (by omega)]; decide) | (rw [oErr_2 (by omega) (by omega)]; done) | (rw [oErr_2 (by omega) (by omega)]; decide) | (rw [oErr_3 (by omega) (by omega) (by omega)]; done) | (rw [oErr_3 (by omega) (by omega) (by omega)]; decide)), rfl⟩)
  ·
   refine pc (htake_2 (ldw xs ys a) ‹_› ‹_›) ?_
   refine rki [] 5 2 [2] [5, 4, 3, 2, 1, 0] [True] ⟨trivial, trivial⟩ ?_
   refine en ?_
   refine an ?_
   refine rg [] 2 ⟨[(2, .i 10)], [(5, .cells [.fn 67 [] [.p 0, .p 1, .p 4], .fn 69 [] [.p 4, .p 3], .fn 71 [] [.p 0, .p 1, .p 3]] 119), (4, .cells [.u (ldw xs ys a)] 47), (3, .cells [.i 0, .i 0, .u 0] 49), (2, .cells [.i 0, .i 0, .u 0] 49), (1, .cells [.u a] 47), (0, .cells (mm W xs ys) 25)], 6⟩ [] trivial ?_
   refine xw_ret ?_
   refine ⟨.i 10, by kernel_rfl, ?_⟩
   refine rki [] 1 5 [10, 9, 8, 6, 5, 4] [5, 4, 3, 2, 1, 0] [] trivial ?_
   refine en ?_
   refine an ?_
   refine rgi [(1, .t)] 2 [21, 10, 9, 8, 6, 5, 4] [5, 4, 3, 2, 1, 0] [(10 != 0) = true] ⟨bne_iff_ne.2 (by omega), trivial⟩ ?_
   refine ct ?_
   refine rg [] 4 ⟨[(5, .i 10), (9, .i 1), (8, .osub 5 1 0 3), (6, .p 3), (4, .p 2)], [(5, .cells [.fn 67 [] [.p 0, .p 1, .p 4], .fn 69 [] [.p 4, .p 3], .fn 71 [] [.p 0, .p 1, .p 3]] 119), (4, .cells [.u (ldw xs ys a)] 47), (3, .cells [.i 0, .i 0, .u 0] 49), (2, .cells [.i 0, .i 0, .u 0] 49), (1, .cells [.u a] 47), (0, .cells (mm W xs ys) 25)], 6⟩ [True] ⟨trivial, trivial⟩ ?_
   refine xw_ret ?_
   refine an_ret ?_
   refine juu_ret ?_
   exact br (.tup [.agg [.i 0, .i 0, .u 0], .i 10]) (.tup [.agg [.i 0, .i 0, .u 0], .i (oErr W xs ys a)]) (wkd [(0 : Int) = 0, (0 : Int) = 0, (0 : Int) = 0, (10 : Int) = (oErr W xs ys a)] (by kernel_rfl) ⟨rfl, rfl, rfl, (by first | rfl | omega | (rw [oErr_0 (by omega) (by omega) (by omega)]; done) | (rw [oErr_1 (by omega)]; done) | (rw [oErr_1 (by omega)]; decide) | (rw [oErr_2 (by omega) (by omega)]; done) | (rw [oErr_2 (by omega) (by omega)]; decide) | (rw [oErr_3 (by omega) (by omega) (by omega)]; done) | (rw [oErr_3 (by omega) (by omega) (by omega)]; decide)), trivial⟩) (Or.inr <| ⟨(by first | rfl | omega | (rw [oErr_0 (by omega) (by omega) (by omega)]; done) | (rw [oErr_1 (by omega)]; done) | (rw [oErr_1 (by omega)]; decide) | (rw [oErr_2 (by omega) (by omega)]; done) | (rw [oErr_2 (by omega) (by omega)]; decide) | (rw [oErr_3 (by omega) (by omega) (by omega)]; done) | (rw [oErr_3 (by omega) (by omega) (by omega)]; decide)), rfl⟩)
 ·
  refine pc (load_2 W xs ys a ‹_› ‹_› ‹_› ‹_› ‹_› ‹_› (by omega)) ?_
  refine rki [] 5 3 [3] [5, 4, 3, 2, 1, 0] [True] ⟨trivial, trivial⟩ ?_
  refine en ?_
  refine an ?_
  refine rgi [] 2 [3] [5, 4, 3, 2, 1, 0] [] trivial ?_
  refine xw_ret ?_
  refine ⟨.i 2, by kernel_rfl, ?_⟩
  refine rk [] 1 5 ⟨[(10, .i 2), (9, .i 0), (8, .osub 5 1 0 3), (6, .p 3), (5, .i 0), (4, .p 2)], [(5, .cells [.fn 67 [] [.p 0, .p 1, .p 4], .fn 69 [] [.p 4, .p 3], .fn 71 [] [.p 0, .p 1, .p 3]] 119), (4, .cells [.u 0] 47), (3, .cells [.i 0, .i 0, .u 0] 49), (2, .cells [.i 0, .i 0, .u 0] 49), (1, .cells [.u a] 47), (0, .cells (mm W xs ys) 25)], 6⟩ [] trivial ?_
  refine en ?_
  refine an ?_
  refine rgi [(1, .t)] 2 [21, 10, 9, 8, 6, 5, 4] [5, 4, 3, 2, 1, 0] [(2 != 0) = true] ⟨bne_iff_ne.2 (by omega), trivial⟩ ?_
  refine ct ?_
  refine rgi [] 4 [5, 9, 8, 6, 4] [5, 4, 3, 2, 1, 0] [True] ⟨trivial, trivial⟩ ?_
  refine xw_ret ?_
  refine an_ret ?_
  refine juu_ret ?_
  exact br (.tup [.agg [.i 0, .i 0, .u 0], .i 2]) (.tup [.agg [.i 0, .i 0, .u 0], .i (oErr W xs ys a)]) (wkd [(0 : Int) = 0, (0 : Int) = 0, (0 : Int) = 0, (2 : Int) = (oErr W xs ys a)] (by kernel_rfl) ⟨rfl, rfl, rfl, (by first | rfl | omega | (rw [oErr_0 (by omega) (by omega) (by omega)]; done) | (rw [oErr_1 (by omega)]; done) | (rw [oErr_1 (by omega)]; decide) | (rw [oErr_2 (by omega) (by omega)]; done) | (rw [oErr_2 (by omega) (by omega)]; decide) | (rw [oErr_3 (by omega) (by omega) (by omega)]; done) | (rw [oErr_3 (by omega) (by omega) (by omega)]; decide)), trivial⟩) (Or.inr <| ⟨(by first | rfl | omega | (rw [oErr_0 (by omega) (by omega) (by omega)]; done) | (rw [oErr_1 (by omega)]; done) | (rw [oErr_1 (by omega)]; decide) | (rw [oErr_2 (by omega) (by omega)]; done) | (rw [oErr_2 (by omega) (by omega)]; decide) | (rw [oErr_3 (by omega) (by omega) (by omega)]; done) | (rw [oErr_3 (by omega) (by omega) (by omega)]; decide)), rfl⟩)

theorem oat_1 (W : Int) (xs ys : List Int) (a : Int) (hp0 : 16 ≤ W ∧ W ≤ 4096) (hp1 : (xs.length : Int) = W) (hp2 : (ys.length : Int) = W) (hp3 : U64s xs) (hp4 : U64s ys) (hp5 : 0 ≤ a ∧ a ≤ 18446744073709551615) (hp6 : (oErr W xs ys a) = 0) : Pub Try.prog 50 [.agg (mm W xs ys), .u a] (fun rv => rv = .tup [.agg [.i (ldw xs ys a / 72057594037927936), .i ((ldw xs ys a / 4294967296) % 16777216), .u (ldw xs ys a % 4294967296)], .i 0]) := by
  refine (oat W xs ys a hp0 hp1 hp2 hp3 hp4 hp5).mono ?_
  rintro _ (⟨g0, rfl⟩ | ⟨g0, rfl⟩)
  all_goals first | rfl | (exfalso; first | omega | grind)

theorem oat_2 (W : Int) (xs ys : List Int) (a : Int) (hp0 : 16 ≤ W ∧ W ≤ 4096) (hp1 : (xs.length : Int) = W) (hp2 : (ys.length : Int) = W) (hp3 : U64s xs) (hp4 : U64s ys) (hp5 : 0 ≤ a ∧ a ≤ 18446744073709551615) (hp6 : ¬ ((oErr W xs ys a) = 0)) : Pub Try.prog 50 [.agg (mm W xs ys), .u a] (fun rv => rv = .tup [.agg [.i 0, .i 0, .u 0], .i (oErr W xs ys a)]) := by
  refine (oat W xs ys a hp0 hp1 hp2 hp3 hp4 hp5).mono ?_
  rintro _ (⟨g0, rfl⟩ | ⟨g0, rfl⟩)
  all_goals first | rfl | (exfalso; first | omega | grind)

end Go.Proofs.Ytjchmajamlehmaa.X
