/- Contracts of Go functions: what each returns, for every input that its premises name; no memory of the caller is touched. Printed by a program. -/
import Derived.Test.YtjchmajamlehmaaXb2
namespace Go.Proofs.Ytjchmajamlehmaa.X
open Go Go.RowKit
set_option linter.unusedVariables false      -- a premise may serve only to tell which way is taken
theorem othere (W : Int) (xs ys : List Int) (a n : Int) (hp0 : 16 ≤ W ∧ W ≤ 4096) (hp1 : (xs.length : Int) = W) (hp2 : (ys.length : Int) = W) (hp3 : U64s xs) (hp4 : U64s ys) (hp5 : 0 ≤ a ∧ a ≤ 18446744073709551615) (hp6 : -9223372036854775808 ≤ n ∧ n ≤ 9223372036854775807) : Pub Try.prog 72 [.agg (mm W xs ys), .u a, .i n] (fun rv => ((1 ≤ a / 4294967296 ∧ a / 4294967296 ≤ 2 ∧ (a % 4294967296) < W ∧ 0 ≤ n ∧ (a % 4294967296) + n ≤ W) ∧ rv = .t) ∨ ((¬ (1 ≤ a / 4294967296 ∧ a / 4294967296 ≤ 2 ∧ (a % 4294967296) < W ∧ 0 ≤ n ∧ (a % 4294967296) + n ≤ W)) ∧ rv = .f)) := by
 refine pub_of TT_ok Try.func72 rfl (by decide) (Nat.le_of_ble_eq_true (by kernel_rfl)) (by kernel_rfl) ?_
 refine rgi [] 2 [6, 3, 1, 2] [0] [] trivial ?_
 refine xw_seq ?_
 refine reg ?_
 refine rki [] 1 0 [11, 6, 3, 2] [0] [] trivial ?_
 by_cases h0 : 1 ≤ a / 4294967296 ∧ a / 4294967296 ≤ 2
 ·
  refine pc (pwhere_1 a ‹_› (by omega)) ?_
  refine rki [] 7 2 [9, 8, 6, 3, 2] [0] [] trivial ?_
  refine en ?_
  refine an ?_
  refine xw_seq ?_
  refine reg ?_
  refine rk [(5, .bool (decide ((a % 4294967296) < W)))] 8 0 ⟨[(23, .bool (decide ((a % 4294967296) < W))), (8, .i (a % 4294967296)), (6, .f), (3, .p 0), (2, .i n)], [(0, .cells (mm W xs ys) 25)], 1⟩ [True, sm (decide ((a % 4294967296) < W)), True] ⟨trivial, rfl, trivial, trivial⟩ ?_
  refine splitr 23 (x := (decide ((a % 4294967296) < W))) (by kernel_rfl) (fun h1 => ?_) (fun h1 => ?_)
  ·
   replace h1 : (a % 4294967296) < W := of_decide_eq_true h1
   refine rki [] 4 8 [27, 25, 24, 23, 6] [] [True] ⟨trivial, trivial⟩ ?_
   by_cases h2 : 0 ≤ (a % 4294967296) ∧ 0 ≤ n ∧ (a % 4294967296) + n ≤ W
   ·
    refine pc (fits_1 (a % 4294967296) n W (by omega) ‹_› (by omega) ‹_›) ?_
    refine rki [] 2 13 [6] [] [True] ⟨trivial, trivial⟩ ?_
    refine en ?_
    refine an ?_
    refine xw_ret ?_
    exact bs (.t) (Or.inl <| ⟨(by omega), rfl⟩)
   ·
    refine pc (fits_2 (a % 4294967296) n W (by omega) ‹_› (by omega) ‹_›) ?_
    refine rki [] 2 13 [6] [] [True] ⟨trivial, trivial⟩ ?_
    refine en ?_
    refine an ?_
    refine xw_ret ?_
    exact bs (.f) (Or.inr <| ⟨(by omega), rfl⟩)
  ·
   replace h1 : ¬ ((a % 4294967296) < W) := of_decide_eq_false h1
   refine rki [] 7 8 [6] [] [True] ⟨trivial, trivial⟩ ?_
   refine en ?_
   refine an ?_
   refine xw_ret ?_
   exact bs (.f) (Or.inr <| ⟨(by omega), rfl⟩)
 ·
  refine pc (pwhere_2 a ‹_› (by omega)) ?_
  refine rki [] 7 2 [9, 8, 6, 3, 2] [0] [] trivial ?_
  refine en ?_
  refine an ?_
  refine rg [] 15 ⟨[(6, .f)], [], 1⟩ [True, True] ⟨trivial, trivial, trivial⟩ ?_
  refine xw_ret ?_
  exact bs (.f) (Or.inr <| ⟨(by omega), rfl⟩)

theorem othere_1 (W : Int) (xs ys : List Int) (a n : Int) (hp0 : 16 ≤ W ∧ W ≤ 4096) (hp1 : (xs.length : Int) = W) (hp2 : (ys.length : Int) = W) (hp3 : U64s xs) (hp4 : U64s ys) (hp5 : 0 ≤ a ∧ a ≤ 18446744073709551615) (hp6 : -9223372036854775808 ≤ n ∧ n ≤ 9223372036854775807) (hp7 : 1 ≤ a / 4294967296 ∧ a / 4294967296 ≤ 2 ∧ (a % 4294967296) < W ∧ 0 ≤ n ∧ (a % 4294967296) + n ≤ W) : Pub Try.prog 72 [.agg (mm W xs ys), .u a, .i n] (fun rv => rv = .t) := by
  refine (othere W xs ys a n hp0 hp1 hp2 hp3 hp4 hp5 hp6).mono ?_
  rintro _ (⟨g0, rfl⟩ | ⟨g0, rfl⟩)
  all_goals first | rfl | (exfalso; first | omega | grind)

theorem othere_2 (W : Int) (xs ys : List Int) (a n : Int) (hp0 : 16 ≤ W ∧ W ≤ 4096) (hp1 : (xs.length : Int) = W) (hp2 : (ys.length : Int) = W) (hp3 : U64s xs) (hp4 : U64s ys) (hp5 : 0 ≤ a ∧ a ≤ 18446744073709551615) (hp6 : -9223372036854775808 ≤ n ∧ n ≤ 9223372036854775807) (hp7 : ¬ (1 ≤ a / 4294967296 ∧ a / 4294967296 ≤ 2 ∧ (a % 4294967296) < W ∧ 0 ≤ n ∧ (a % 4294967296) + n ≤ W)) : Pub Try.prog 72 [.agg (mm W xs ys), .u a, .i n] (fun rv => rv = .f) := by
  refine (othere W xs ys a n hp0 hp1 hp2 hp3 hp4 hp5 hp6).mono ?_
  rintro _ (⟨g0, rfl⟩ | ⟨g0, rfl⟩)
  all_goals first | rfl | (exfalso; first | omega | grind)

theorem sum1 (a n : Int) (hp0 : 0 ≤ a ∧ a ≤ 17179869184) (hp1 : 0 ≤ n ∧ n ≤ 1048576) : Pub Try.prog 79 [.u a, .sl false 1 [.i n]] (fun rv => rv = .u (a + n)) := by
 refine pub_of TT_ok Try.func79 rfl (by decide) (Nat.le_of_ble_eq_true (by kernel_rfl)) (by kernel_rfl) ?_
 refine rgi [] 1 [4, 0, 1] [] [] trivial ?_
 refine xw_seq ?_
 refine rgi [(1, .i 1)] 3 [9, 8, 7, 4, 0] [] [((([.i n] : List SV).length : Nat) : Int) = 1] ⟨rfl, trivial⟩ ?_
 refine xw_block ?_
 refine xw_unroll 4 ?_
 refine ul_step ?_
 refine rgi [(0, .t)] 1 [10, 9, 8, 7, 4, 0] [] [(decide (0 < 1)) = true] ⟨decide_eq_true (by omega), trivial⟩ ?_
 refine xw_seq ?_
 refine ct ?_
 refine xw_skip ?_
 refine an ?_
 refine xw_seq ?_
 refine xw_block ?_
 refine rg [(0, .i n)] 3 ⟨[(6, .i n), (9, .i 0), (8, .i 1), (7, .sl false 1 [.i n]), (4, .u 0), (0, .u a)], [], 0⟩ [(0 : Int) ≤ 0 ∧ 0 < ((([.i n] : List SV).length : Nat) : Int) ∧ ([.i n] : List SV)[(0 : Int).toNat]? = some (.i n), True] ⟨⟨by omega, by simp, rfl⟩, trivial, trivial⟩ ?_
 refine rei [(2, .i n), (3, .i (a + n))] 5 [0, 9, 8, 7, 4] [] [IntKind.u64.wrap n = n, IntKind.u64.wrap (a + n) = (a + n)] ⟨u64_in (by omega), u64_eq (by omega) (by omega), trivial⟩ ?_
 refine ib ?_
 refine an ?_
 refine rei [(0, .i 1)] 2 [9, 0, 8, 7, 4] [] [IntKind.i64.wrap (0 + 1) = 1] ⟨rfl, trivial⟩ ?_
 refine agu ?_
 refine ul_step ?_
 refine rgi [(0, .f)] 1 [10, 9, 0, 8, 7, 4] [] [(decide (1 < 1)) = false] ⟨decide_eq_false (by omega), trivial⟩ ?_
 refine xw_seq ?_
 refine cf ?_
 refine xw_exit ?_
 refine an_exit ?_
 refine agu_exit ?_
 refine ib_same ?_
 refine an ?_
 refine rg [] 2 ⟨[(4, .u (a + n))], [], 0⟩ [] trivial ?_
 refine xw_ret ?_
 exact bs (.u (a + n)) rfl

theorem sum2 (a n k : Int) (hp0 : 0 ≤ a ∧ a ≤ 17179869184) (hp1 : 0 ≤ n ∧ n ≤ 1048576) (hp2 : 0 ≤ k ∧ k ≤ 1048576) : Pub Try.prog 79 [.u a, .sl false 1 [.i n, .i k]] (fun rv => rv = .u (a + n + k)) := by
 refine pub_of TT_ok Try.func79 rfl (by decide) (Nat.le_of_ble_eq_true (by kernel_rfl)) (by kernel_rfl) ?_
 refine rgi [] 1 [4, 0, 1] [] [] trivial ?_
 refine xw_seq ?_
 refine rgi [(1, .i 2)] 3 [9, 8, 7, 4, 0] [] [((([.i n, .i k] : List SV).length : Nat) : Int) = 2] ⟨rfl, trivial⟩ ?_
 refine xw_block ?_
 refine xw_unroll 4 ?_
 refine ul_step ?_
 refine rgi [(0, .t)] 1 [10, 9, 8, 7, 4, 0] [] [(decide (0 < 2)) = true] ⟨decide_eq_true (by omega), trivial⟩ ?_
 refine xw_seq ?_
 refine ct ?_
 refine xw_skip ?_
 refine an ?_
 refine xw_seq ?_
 refine xw_block ?_
 refine rg [(0, .i n)] 3 ⟨[(6, .i n), (9, .i 0), (8, .i 2), (7, .sl false 1 [.i n, .i k]), (4, .u 0), (0, .u a)], [], 0⟩ [(0 : Int) ≤ 0 ∧ 0 < ((([.i n, .i k] : List SV).length : Nat) : Int) ∧ ([.i n, .i k] : List SV)[(0 : Int).toNat]? = some (.i n), True] ⟨⟨by omega, by simp, rfl⟩, trivial, trivial⟩ ?_
 refine rei [(2, .i n), (3, .i (a + n))] 5 [0, 9, 8, 7, 4] [] [IntKind.u64.wrap n = n, IntKind.u64.wrap (a + n) = (a + n)] ⟨u64_in (by omega), u64_eq (by omega) (by omega), trivial⟩ ?_
 refine ib ?_
 refine an ?_
 refine rei [(0, .i 1)] 2 [9, 0, 8, 7, 4] [] [IntKind.i64.wrap (0 + 1) = 1] ⟨rfl, trivial⟩ ?_
 refine agu ?_
 refine ul_step ?_
 refine rgi [(0, .t)] 1 [10, 9, 0, 8, 7, 4] [] [(decide (1 < 2)) = true] ⟨decide_eq_true (by omega), trivial⟩ ?_
 refine xw_seq ?_
 refine ct ?_
 refine xw_skip ?_
 refine an ?_
 refine xw_seq ?_
 refine xw_block ?_
 refine rg [(0, .i k)] 3 ⟨[(6, .i k), (9, .i 1), (0, .u (a + n)), (8, .i 2), (7, .sl false 1 [.i n, .i k]), (4, .u 0)], [], 0⟩ [(0 : Int) ≤ 1 ∧ 1 < ((([.i n, .i k] : List SV).length : Nat) : Int) ∧ ([.i n, .i k] : List SV)[(1 : Int).toNat]? = some (.i k), True] ⟨⟨by omega, by simp, rfl⟩, trivial, trivial⟩ ?_
 refine rei [(2, .i k), (3, .i ((a + n) + k))] 5 [0, 9, 8, 7, 4] [] [IntKind.u64.wrap k = k, IntKind.u64.wrap ((a + n) + k) = ((a + n) + k)] ⟨u64_in (by omega), u64_eq (by omega) (by omega), trivial⟩ ?_
 refine ib ?_
 refine an ?_
 refine rei [(0, .i 2)] 2 [9, 0, 8, 7, 4] [] [IntKind.i64.wrap (1 + 1) = 2] ⟨rfl, trivial⟩ ?_
 refine agu ?_
 refine ul_step ?_
 refine rgi [(0, .f)] 1 [10, 9, 0, 8, 7, 4] [] [(decide (2 < 2)) = false] ⟨decide_eq_false (by omega), trivial⟩ ?_
 refine xw_seq ?_
 refine cf ?_
 refine xw_exit ?_
 refine an_exit ?_
 refine agu_exit ?_
 refine ib_same ?_
 refine an ?_
 refine rg [] 2 ⟨[(4, .u ((a + n) + k))], [], 0⟩ [] trivial ?_
 refine xw_ret ?_
 exact br (.u ((a + n) + k)) (.u (a + n + k)) (wkd [(((a + n) + k) : Int) = (a + n + k)] (by kernel_rfl) ⟨(by omega), trivial⟩) rfl

set_option maxHeartbeats 8000000 in
theorem oput (W : Int) (xs ys : List Int) (a t l m : Int) (hp0 : 16 ≤ W ∧ W ≤ 4096) (hp1 : (xs.length : Int) = W) (hp2 : (ys.length : Int) = W) (hp3 : U64s xs) (hp4 : U64s ys) (hp5 : 0 ≤ a ∧ a ≤ 18446744073709551615) (hp6 : -9223372036854775808 ≤ t ∧ t ≤ 9223372036854775807) (hp7 : -9223372036854775808 ≤ l ∧ l ≤ 9223372036854775807) (hp8 : 0 ≤ m ∧ m ≤ 18446744073709551615) : Pub Try.prog 60 [.agg (mm W xs ys), .u a, .agg [.i t, .i l, .u m]] (fun rv => (((t = 255 ∧ 0 ≤ l ∧ l ≤ 65535 ∧ m = 0) ∨ (1 ≤ t ∧ t ≤ 200 ∧ 0 ≤ l ∧ l ≤ 16 ∧ m < 2 ^ (Int.toNat l) ∧ m < 65536)) ∧ (1 ≤ a / 4294967296 ∧ a / 4294967296 ≤ 2 ∧ a % 4294967296 < W) ∧ ((t = 255 ∧ (a % 4294967296) + l + 1 ≤ W) ∨ (t ≠ 255 ∧ (a % 4294967296) + l + 2 ≤ W)) ∧ rv = .tup [.agg (mm W (px xs a t l m) (py ys a t l m)), .i 0]) ∨ (((t = 255 ∧ 0 ≤ l ∧ l ≤ 65535 ∧ m = 0) ∨ (1 ≤ t ∧ t ≤ 200 ∧ 0 ≤ l ∧ l ≤ 16 ∧ m < 2 ^ (Int.toNat l) ∧ m < 65536)) ∧ (¬ ((1 ≤ a / 4294967296 ∧ a / 4294967296 ≤ 2 ∧ a % 4294967296 < W) ∧ ((t = 255 ∧ (a % 4294967296) + l + 1 ≤ W) ∨ (t ≠ 255 ∧ (a % 4294967296) + l + 2 ≤ W)))) ∧ rv = .tup [.agg (mm W xs ys), .i 2]) ∨ ((¬ ((t = 255 ∧ 0 ≤ l ∧ l ≤ 65535 ∧ m = 0) ∨ (1 ≤ t ∧ t ≤ 200 ∧ 0 ≤ l ∧ l ≤ 16 ∧ m < 2 ^ (Int.toNat l) ∧ m < 65536))) ∧ rv = .tup [.agg (mm W xs ys), .i (headErr t l m)])) := by
 refine pub_of TT_ok Try.func60 rfl (by decide) (Nat.le_of_ble_eq_true (by kernel_rfl)) (by kernel_rfl) ?_
 refine rgi [] 4 [7, 6, 5, 3, 1] [2, 1, 0] [] trivial ?_
 refine xw_seq ?_
 refine reg ?_
 refine rki [] 1 0 [12, 7, 6, 5, 3, 1] [2, 1, 0] [True] ⟨trivial, trivial⟩ ?_
 by_cases h0 : (t = 255 ∧ 0 ≤ l ∧ l ≤ 65535 ∧ m = 0) ∨ (1 ≤ t ∧ t ≤ 200 ∧ 0 ≤ l ∧ l ≤ 16 ∧ m < 2 ^ (Int.toNat l) ∧ m < 65536)
 ·
  refine pc (hword_1 t l m ‹_› ‹_› ‹_› ‹_›) ?_
  refine rki [] 5 2 [9, 8, 7, 6, 5, 3, 1] [2, 1, 0] [] trivial ?_
  refine en ?_
  refine an ?_
  refine xw_seq ?_
  refine xw_block ?_
  refine rg [(1, .f)] 3 ⟨[(16, .f), (9, .i 0), (8, .u (t * 72057594037927936 + l * 4294967296 + m)), (7, .i 0), (6, .p 2), (5, .p 1), (3, .p 0), (1, .u a)], [(2, .cells [.i 0, .nils, .nils] 25), (1, .cells [.i t, .i l, .u m] 49), (0, .cells (mm W xs ys) 25)], 3⟩ [(0 != 0) = false] ⟨bne_eq_false_iff_eq.2 (by omega), trivial⟩ ?_
  refine cf ?_
  refine xw_seq ?_
  refine dregk hmix (by kernel_rfl) ?_
  refine qri [] 3 0 [True, True] ⟨trivial, trivial, trivial⟩ ?_
  by_cases h1 : t = 255
  ·
   refine qc (hwords_1 t l m ‹_› ‹_› ‹_› (by omega) ‹_›) ?_
   by_cases h2 : 1 ≤ a / 4294967296 ∧ a / 4294967296 ≤ 2 ∧ (a % 4294967296) < W ∧ 0 ≤ (l + 1) ∧ (a % 4294967296) + (l + 1) ≤ W
   ·
    refine qc (othere_1 W xs ys a (l + 1) ‹_› ‹_› ‹_› ‹_› ‹_› ‹_› (by omega) (by omega)) ?_
    refine qri [] 2 5 [] trivial ?_
    refine qen ?_
    refine an ?_
    refine cf ?_
    refine xw_skip ?_
    refine ib ?_
    refine an ?_
    refine xw_seq ?_
    refine reg ?_
    refine rki [] 3 0 [32, 31, 30, 7, 6, 5, 3, 1] [2, 1, 0] [True] ⟨trivial, trivial⟩ ?_
    refine pc (store_1 W xs ys a (t * 72057594037927936 + l * 4294967296 + m) ‹_› ‹_› ‹_› ‹_› ‹_› ‹_› (by omega) (by omega)) ?_
    obtain ⟨h3, h4, h5, h6⟩ := stx_ok W xs ys a (t * 72057594037927936 + l * 4294967296 + m) ‹_› ‹_› ‹_› ‹_› (by omega)
    refine rk [] 4 4 ⟨[(7, .i 0), (6, .p 2), (5, .p 1), (3, .p 0), (1, .u a)], [(2, .cells [.i 0, .nils, .nils] 25), (1, .cells [.i t, .i l, .u m] 49), (0, .cells (mm W (stx xs a (t * 72057594037927936 + l * 4294967296 + m)) (sty ys a (t * 72057594037927936 + l * 4294967296 + m))) 25)], 3⟩ [True] ⟨trivial, trivial⟩ ?_
    refine en ?_
    refine an ?_
    refine xw_seq ?_
    refine rgi [] 1 [10, 7, 6, 5, 3, 1] [2, 1, 0] [] trivial ?_
    refine xw_block ?_
    refine xw_loop (α := {q : Int // (1 ≤ q) ∧ ((t = 255 ∧ q = 1) ∨ (t ≠ 255 ∧ q ≤ l + 2))}) (fun p => ⟨[(10, .i p.1), (7, .i 0), (6, .p 2), (5, .p 1), (3, .p 0), (1, .u a)], [(2, .cells [.i 0, .nils, .nils] 25), (1, .cells [.i t, .i l, .u m] 49), (0, .cells (mm W (zx (stx xs a (t * 72057594037927936 + l * 4294967296 + m)) a (Int.toNat (p.1 - 1))) (zy (sty ys a (t * 72057594037927936 + l * 4294967296 + m)) a (Int.toNat (p.1 - 1)))) 25)], 3⟩) (fun p => (l + 2 - p.1).toNat) ⟨1, ⟨(by omega), (by omega)⟩⟩ (le_of [] [(1 : Int) = 1, (0 : Int) = 0, (a : Int) = a, (0 : Int) = 0, (t : Int) = t, (l : Int) = l, (m : Int) = m, (W : Int) = W, (false = true → false = true), ((m64 (stx xs a (t * 72057594037927936 + l * 4294967296 + m))) : List SV) = (m64 (zx (stx xs a (t * 72057594037927936 + l * 4294967296 + m)) a (Int.toNat (1 - 1)))), (false = true → false = true), ((m64 (sty ys a (t * 72057594037927936 + l * 4294967296 + m))) : List SV) = (m64 (zy (sty ys a (t * 72057594037927936 + l * 4294967296 + m)) a (Int.toNat (1 - 1))))] (by kernel_rfl) ⟨rfl, rfl, rfl, rfl, rfl, rfl, rfl, rfl, id, (by first | rfl | omega | assumption | exact congrArg _ (zx_nx (by omega) (by omega)) | exact congrArg _ (zy_nx (by omega) (by omega))), id, (by first | rfl | omega | assumption | exact congrArg _ (zx_nx (by omega) (by omega)) | exact congrArg _ (zy_nx (by omega) (by omega))), trivial⟩) ?_
    rintro ⟨i, h7, h8⟩
    show XW _ _ _ _ _ _ ⟨[(10, .int .i64 i), (7, .int .i64 0), (6, .loc 2 0), (5, .loc 1 0), (3, .loc 0 0), (1, .int .u64 a)], [(2, .cells [.int .i64 0, .nils, .nils] 25), (1, .cells [.int .i64 t, .int .i64 l, .int .u64 m] 49), (0, .cells (mm W (zx (stx xs a (t * 72057594037927936 + l * 4294967296 + m)) a (Int.toNat (i - 1))) (zy (sty ys a (t * 72057594037927936 + l * 4294967296 + m)) a (Int.toNat (i - 1)))) 25)], 3⟩
    refine xw_seq ?_
    refine xw_seq ?_
    refine reg ?_
    refine rki [] 2 0 [37, 36, 10, 7, 6, 5, 3, 1] [2, 1, 0] [True] ⟨trivial, trivial⟩ ?_
    refine pc (hwords_1 t l m ‹_› ‹_› ‹_› (by omega) ‹_›) ?_
    refine rki [(3, .bool (decide (i < (l + 1))))] 2 3 [40, 10, 7, 6, 5, 3, 1] [2, 1, 0] [sm (decide (i < (l + 1)))] ⟨rfl, trivial⟩ ?_
    refine splitr 40 (x := (decide (i < (l + 1)))) (by kernel_rfl) (fun h9 => ?_) (fun h9 => ?_)
    ·
     replace h9 : i < (l + 1) := of_decide_eq_true h9
     refine rki [(7, .f)] 4 5 [44, 10, 7, 6, 5, 3, 1] [2, 1, 0] [True, (t != 255) = false, True] ⟨trivial, bne_eq_false_iff_eq.2 (by omega), trivial, trivial⟩ ?_
     refine en ?_
     refine an ?_
     refine cf ?_
     refine xw_exit ?_
     refine an_exit ?_
     refine ag_exit ?_
     refine ib_same ?_
     refine an ?_
     refine rg [] 3 ⟨[(7, .i 0), (6, .p 2)], [(2, .cells (mm W (zx (stx xs a (t * 72057594037927936 + l * 4294967296 + m)) a (Int.toNat (i - 1))) (zy (sty ys a (t * 72057594037927936 + l * 4294967296 + m)) a (Int.toNat (i - 1)))) 25)], 3⟩ [True, True] ⟨trivial, trivial, trivial⟩ ?_
     refine xw_ret ?_
     exact br (.tup [.agg (mm W (zx (stx xs a (t * 72057594037927936 + l * 4294967296 + m)) a (Int.toNat (i - 1))) (zy (sty ys a (t * 72057594037927936 + l * 4294967296 + m)) a (Int.toNat (i - 1)))), .i 0]) (.tup [.agg (mm W (px xs a t l m) (py ys a t l m)), .i 0]) (wkd [(W : Int) = W, (false = true → false = true), (m64 (zx (stx xs a (t * 72057594037927936 + l * 4294967296 + m)) a (Int.toNat (i - 1)))) = (m64 (px xs a t l m)), (false = true → false = true), (m64 (zy (sty ys a (t * 72057594037927936 + l * 4294967296 + m)) a (Int.toNat (i - 1)))) = (m64 (py ys a t l m)), (0 : Int) = 0] (by kernel_rfl) ⟨rfl, id, (by first | rfl | omega | exact congrArg _ (px_fill (by omega)) | exact congrArg _ (py_fill (by omega)) | exact congrArg _ (px_eq (by omega) (by omega)) | exact congrArg _ (py_eq (by omega) (by omega))), id, (by first | rfl | omega | exact congrArg _ (px_fill (by omega)) | exact congrArg _ (py_fill (by omega)) | exact congrArg _ (px_eq (by omega) (by omega)) | exact congrArg _ (py_eq (by omega) (by omega))), rfl, trivial⟩) (Or.inl <| ⟨(by first | rfl | omega | exact congrArg _ (px_fill (by omega)) | exact congrArg _ (py_fill (by omega)) | exact congrArg _ (px_eq (by omega) (by omega)) | exact congrArg _ (py_eq (by omega) (by omega))), (by omega), (by omega), rfl⟩)
    ·
     replace h9 : ¬ (i < (l + 1)) := of_decide_eq_false h9
     refine rki [] 4 5 [44, 10, 7, 6, 5, 3, 1] [2, 1, 0] [True] ⟨trivial, trivial⟩ ?_
     refine en ?_
     refine an ?_
     refine cf ?_
     refine xw_exit ?_
     refine an_exit ?_
     refine ag_exit ?_
     refine ib_same ?_
     refine an ?_
     refine rg [] 3 ⟨[(7, .i 0), (6, .p 2)], [(2, .cells (mm W (zx (stx xs a (t * 72057594037927936 + l * 4294967296 + m)) a (Int.toNat (i - 1))) (zy (sty ys a (t * 72057594037927936 + l * 4294967296 + m)) a (Int.toNat (i - 1)))) 25)], 3⟩ [True, True] ⟨trivial, trivial, trivial⟩ ?_
     refine xw_ret ?_
     exact br (.tup [.agg (mm W (zx (stx xs a (t * 72057594037927936 + l * 4294967296 + m)) a (Int.toNat (i - 1))) (zy (sty ys a (t * 72057594037927936 + l * 4294967296 + m)) a (Int.toNat (i - 1)))), .i 0]) (.tup [.agg (mm W (px xs a t l m) (py ys a t l m)), .i 0]) (wkd [(W : Int) = W, (false = true → false = true), (m64 (zx (stx xs a (t * 72057594037927936 + l * 4294967296 + m)) a (Int.toNat (i - 1)))) = (m64 (px xs a t l m)), (false = true → false = true), (m64 (zy (sty ys a (t * 72057594037927936 + l * 4294967296 + m)) a (Int.toNat (i - 1)))) = (m64 (py ys a t l m)), (0 : Int) = 0] (by kernel_rfl) ⟨rfl, id, (by first | rfl | omega | exact congrArg _ (px_fill (by omega)) | exact congrArg _ (py_fill (by omega)) | exact congrArg _ (px_eq (by omega) (by omega)) | exact congrArg _ (py_eq (by omega) (by omega))), id, (by first | rfl | omega | exact congrArg _ (px_fill (by omega)) | exact congrArg _ (py_fill (by omega)) | exact congrArg _ (px_eq (by omega) (by omega)) | exact congrArg _ (py_eq (by omega) (by omega))), rfl, trivial⟩) (Or.inl <| ⟨(by first | rfl | omega | exact congrArg _ (px_fill (by omega)) | exact congrArg _ (py_fill (by omega)) | exact congrArg _ (px_eq (by omega) (by omega)) | exact congrArg _ (py_eq (by omega) (by omega))), (by omega), (by omega), rfl⟩)
   ·
    refine qc (othere_2 W xs ys a (l + 1) ‹_› ‹_› ‹_› ‹_› ‹_› ‹_› (by omega) (by omega)) ?_
    refine qri [] 2 5 [] trivial ?_
    refine qen ?_
    refine an ?_
    refine ct ?_
    refine rgi [] 3 [7, 8, 6, 5, 3, 1] [2, 1, 0] [True, True] ⟨trivial, trivial, trivial⟩ ?_
    refine xw_ret ?_
    refine ib_ret ?_
    refine an_ret ?_
    exact bs (.tup [.agg (mm W xs ys), .i 2]) (Or.inr <| Or.inl <| ⟨(by first | rfl | omega | exact congrArg _ (px_fill (by omega)) | exact congrArg _ (py_fill (by omega)) | exact congrArg _ (px_eq (by omega) (by omega)) | exact congrArg _ (py_eq (by omega) (by omega))), (by omega), rfl⟩)
  ·
   refine qc (hwords_2 t l m ‹_› ‹_› ‹_› (by omega) ‹_›) ?_
   by_cases h2 : 1 ≤ a / 4294967296 ∧ a / 4294967296 ≤ 2 ∧ (a % 4294967296) < W ∧ 0 ≤ (l + 2) ∧ (a % 4294967296) + (l + 2) ≤ W
   ·
    refine qc (othere_1 W xs ys a (l + 2) ‹_› ‹_› ‹_› ‹_› ‹_› ‹_› (by omega) (by omega)) ?_
    refine qri [] 2 5 [] trivial ?_
    refine qen ?_
    refine an ?_
    refine cf ?_
    refine xw_skip ?_
    refine ib ?_
    refine an ?_
    refine xw_seq ?_
    refine reg ?_
    refine rki [] 3 0 [32, 31, 30, 7, 6, 5, 3, 1] [2, 1, 0] [True] ⟨trivial, trivial⟩ ?_
    refine pc (store_1 W xs ys a (t * 72057594037927936 + l * 4294967296 + m) ‹_› ‹_› ‹_› ‹_› ‹_› ‹_› (by omega) (by omega)) ?_
    obtain ⟨h3, h4, h5, h6⟩ := stx_ok W xs ys a (t * 72057594037927936 + l * 4294967296 + m) ‹_› ‹_› ‹_› ‹_› (by omega)
    refine rk [] 4 4 ⟨[(7, .i 0), (6, .p 2), (5, .p 1), (3, .p 0), (1, .u a)], [(2, .cells [.i 0, .nils, .nils] 25), (1, .cells [.i t, .i l, .u m] 49), (0, .cells (mm W (stx xs a (t * 72057594037927936 + l * 4294967296 + m)) (sty ys a (t * 72057594037927936 + l * 4294967296 + m))) 25)], 3⟩ [True] ⟨trivial, trivial⟩ ?_
    refine en ?_
    refine an ?_
    refine xw_seq ?_
    refine rgi [] 1 [10, 7, 6, 5, 3, 1] [2, 1, 0] [] trivial ?_
    refine xw_block ?_
    refine xw_loop (α := {q : Int // (1 ≤ q) ∧ ((t = 255 ∧ q = 1) ∨ (t ≠ 255 ∧ q ≤ l + 2))}) (fun p => ⟨[(10, .i p.1), (7, .i 0), (6, .p 2), (5, .p 1), (3, .p 0), (1, .u a)], [(2, .cells [.i 0, .nils, .nils] 25), (1, .cells [.i t, .i l, .u m] 49), (0, .cells (mm W (zx (stx xs a (t * 72057594037927936 + l * 4294967296 + m)) a (Int.toNat (p.1 - 1))) (zy (sty ys a (t * 72057594037927936 + l * 4294967296 + m)) a (Int.toNat (p.1 - 1)))) 25)], 3⟩) (fun p => (l + 2 - p.1).toNat) ⟨1, ⟨(by omega), (by omega)⟩⟩ (le_of [] [(1 : Int) = 1, (0 : Int) = 0, (a : Int) = a, (0 : Int) = 0, (t : Int) = t, (l : Int) = l, (m : Int) = m, (W : Int) = W, (false = true → false = true), ((m64 (stx xs a (t * 72057594037927936 + l * 4294967296 + m))) : List SV) = (m64 (zx (stx xs a (t * 72057594037927936 + l * 4294967296 + m)) a (Int.toNat (1 - 1)))), (false = true → false = true), ((m64 (sty ys a (t * 72057594037927936 + l * 4294967296 + m))) : List SV) = (m64 (zy (sty ys a (t * 72057594037927936 + l * 4294967296 + m)) a (Int.toNat (1 - 1))))] (by kernel_rfl) ⟨rfl, rfl, rfl, rfl, rfl, rfl, rfl, rfl, id, (by first | rfl | omega | assumption | exact congrArg _ (zx_nx (by omega) (by omega)) | exact congrArg _ (zy_nx (by omega) (by omega))), id, (by first | rfl | omega | assumption | exact congrArg _ (zx_nx (by omega) (by omega)) | exact congrArg _ (zy_nx (by omega) (by omega))), trivial⟩) ?_
    rintro ⟨i, h7, h8⟩
    show XW _ _ _ _ _ _ ⟨[(10, .int .i64 i), (7, .int .i64 0), (6, .loc 2 0), (5, .loc 1 0), (3, .loc 0 0), (1, .int .u64 a)], [(2, .cells [.int .i64 0, .nils, .nils] 25), (1, .cells [.int .i64 t, .int .i64 l, .int .u64 m] 49), (0, .cells (mm W (zx (stx xs a (t * 72057594037927936 + l * 4294967296 + m)) a (Int.toNat (i - 1))) (zy (sty ys a (t * 72057594037927936 + l * 4294967296 + m)) a (Int.toNat (i - 1)))) 25)], 3⟩
    refine xw_seq ?_
    refine xw_seq ?_
    refine reg ?_
    refine rki [] 2 0 [37, 36, 10, 7, 6, 5, 3, 1] [2, 1, 0] [True] ⟨trivial, trivial⟩ ?_
    refine pc (hwords_2 t l m ‹_› ‹_› ‹_› (by omega) ‹_›) ?_
    refine rki [(3, .bool (decide (i < (l + 2))))] 2 3 [40, 10, 7, 6, 5, 3, 1] [2, 1, 0] [sm (decide (i < (l + 2)))] ⟨rfl, trivial⟩ ?_
    refine splitr 40 (x := (decide (i < (l + 2)))) (by kernel_rfl) (fun h9 => ?_) (fun h9 => ?_)
    ·
     replace h9 : i < (l + 2) := of_decide_eq_true h9
     refine rki [(7, .t)] 4 5 [44, 10, 7, 6, 5, 3, 1] [2, 1, 0] [True, (t != 255) = true, True] ⟨trivial, bne_iff_ne.2 (by omega), trivial, trivial⟩ ?_
     refine en ?_
     refine an ?_
     refine ct ?_
     refine xw_skip ?_
     refine an ?_
     refine xw_seq ?_
     refine xw_block ?_
     refine sreg hmix [([(2, .cells [.i 0, .nils, .nils] 25), (1, .cells [.i t, .i l, .u m] 49), (0, .cells (mm W (zx (stx xs a (t * 72057594037927936 + l * 4294967296 + m)) a (Int.toNat (i - 1))) (zy (sty ys a (t * 72057594037927936 + l * 4294967296 + m)) a (Int.toNat (i - 1)))) 25)], 3), ([(2, .cells [.i 0, .nils, .nils] 25), (1, .cells [.i t, .i l, .u m] 49), (0, .cells (mm W (stx (zx (stx xs a (t * 72057594037927936 + l * 4294967296 + m)) a (Int.toNat (i - 1))) (a + i) 0) (sty (zy (sty ys a (t * 72057594037927936 + l * 4294967296 + m)) a (Int.toNat (i - 1))) (a + i) 0)) 25)], 3)] [9] [(3, [2]), (4, [1, 2, 3]), (5, [0, 1, 2, 3, 4]), (6, [0, 1, 2, 3, 4, 5]), (7, [0, 1, 2, 3, 4, 5, 6]), (8, [0, 1, 2, 3, 4, 5, 6]), (9, [0, 1, 2, 3, 4, 5, 6, 7])] (by kernel_rfl) (by kernel_rfl) (by kernel_rfl) (by kernel_rfl) (by kernel_rfl) ?_
     refine sri [(3, .t)] 4 0 [True, True, True, True] ⟨trivial, trivial, trivial, trivial, trivial⟩ ?_
     refine sc (sum1 a i (by omega) (by omega)) ?_
     refine sc (store_1 W (zx (stx xs a (t * 72057594037927936 + l * 4294967296 + m)) a (Int.toNat (i - 1))) (zy (sty ys a (t * 72057594037927936 + l * 4294967296 + m)) a (Int.toNat (i - 1))) (a + i) 0 ‹_› (by first | omega | assumption | rfl | (rw [len_zx]; assumption) | (rw [len_zy]; assumption) | exact U64s.zx (by assumption) _ _ | exact U64s.zy (by assumption) _ _ | exact U64s.rep _ | decide | (simp; done)) (by first | omega | assumption | rfl | (rw [len_zx]; assumption) | (rw [len_zy]; assumption) | exact U64s.zx (by assumption) _ _ | exact U64s.zy (by assumption) _ _ | exact U64s.rep _ | decide | (simp; done)) (by first | omega | assumption | rfl | (rw [len_zx]; assumption) | (rw [len_zy]; assumption) | exact U64s.zx (by assumption) _ _ | exact U64s.zy (by assumption) _ _ | exact U64s.rep _ | decide | (simp; done)) (by first | omega | assumption | rfl | (rw [len_zx]; assumption) | (rw [len_zy]; assumption) | exact U64s.zx (by assumption) _ _ | exact U64s.zy (by assumption) _ _ | exact U64s.rep _ | decide | (simp; done)) (by omega) (by omega) (by omega)) ?_
     obtain ⟨h10, h11, h12, h13⟩ := stx_ok W (zx (stx xs a (t * 72057594037927936 + l * 4294967296 + m)) a (Int.toNat (i - 1))) (zy (sty ys a (t * 72057594037927936 + l * 4294967296 + m)) a (Int.toNat (i - 1))) (a + i) 0 (by first | omega | assumption | rfl | (rw [len_zx]; assumption) | (rw [len_zy]; assumption) | exact U64s.zx (by assumption) _ _ | exact U64s.zy (by assumption) _ _ | exact U64s.rep _ | decide | (simp; done)) (by first | omega | assumption | rfl | (rw [len_zx]; assumption) | (rw [len_zy]; assumption) | exact U64s.zx (by assumption) _ _ | exact U64s.zy (by assumption) _ _ | exact U64s.rep _ | decide | (simp; done)) (by first | omega | assumption | rfl | (rw [len_zx]; assumption) | (rw [len_zy]; assumption) | exact U64s.zx (by assumption) _ _ | exact U64s.zy (by assumption) _ _ | exact U64s.rep _ | decide | (simp; done)) (by first | omega | assumption | rfl | (rw [len_zx]; assumption) | (rw [len_zy]; assumption) | exact U64s.zx (by assumption) _ _ | exact U64s.zy (by assumption) _ _ | exact U64s.rep _ | decide | (simp; done)) (by omega)
     refine sri [] 4 6 [True, True, True, True, sm ([(2, .cells [.i 0, .nils, .nils] 25), (1, .cells [.i t, .i l, .u m] 49), (0, .cells (mm W (stx (zx (stx xs a (t * 72057594037927936 + l * 4294967296 + m)) a (Int.toNat (i - 1))) (a + i) 0) (sty (zy (sty ys a (t * 72057594037927936 + l * 4294967296 + m)) a (Int.toNat (i - 1))) (a + i) 0)) 25)] : Mem), sm (3 : Nat)] ⟨trivial, trivial, trivial, trivial, rfl, rfl, trivial⟩ ?_
     refine sen ?_
     refine ib ?_
     refine an ?_
     refine re [(1, .i (i + 1))] 3 ⟨[(10, .i (i + 1)), (7, .i 0), (6, .p 2), (5, .p 1), (3, .p 0), (1, .u a)], [(2, .cells [.i 0, .nils, .nils] 25), (1, .cells [.i t, .i l, .u m] 49), (0, .cells (mm W (stx (zx (stx xs a (t * 72057594037927936 + l * 4294967296 + m)) a (Int.toNat (i - 1))) (a + i) 0) (sty (zy (sty ys a (t * 72057594037927936 + l * 4294967296 + m)) a (Int.toNat (i - 1))) (a + i) 0)) 25)], 3⟩ [IntKind.i64.wrap (i + 1) = (i + 1)] ⟨i64_eq (by omega) (by omega), trivial⟩ ?_
     exact ag ⟨(i + 1), ⟨(by omega), (by omega)⟩⟩ (le_of [] [((i + 1) : Int) = (i + 1), (0 : Int) = 0, (a : Int) = a, (0 : Int) = 0, (t : Int) = t, (l : Int) = l, (m : Int) = m, (W : Int) = W, (false = true → false = true), ((m64 (stx (zx (stx xs a (t * 72057594037927936 + l * 4294967296 + m)) a (Int.toNat (i - 1))) (a + i) 0)) : List SV) = (m64 (zx (stx xs a (t * 72057594037927936 + l * 4294967296 + m)) a (Int.toNat ((i + 1) - 1)))), (false = true → false = true), ((m64 (sty (zy (sty ys a (t * 72057594037927936 + l * 4294967296 + m)) a (Int.toNat (i - 1))) (a + i) 0)) : List SV) = (m64 (zy (sty ys a (t * 72057594037927936 + l * 4294967296 + m)) a (Int.toNat ((i + 1) - 1))))] (by kernel_rfl) ⟨rfl, rfl, rfl, rfl, rfl, rfl, rfl, rfl, id, (by first | rfl | omega | assumption | exact congrArg _ (zx_nx (by omega) (by omega)) | exact congrArg _ (zy_nx (by omega) (by omega))), id, (by first | rfl | omega | assumption | exact congrArg _ (zx_nx (by omega) (by omega)) | exact congrArg _ (zy_nx (by omega) (by omega))), trivial⟩) (by show (l + 2 - (i + 1)).toNat < (l + 2 - i).toNat; omega)
    ·
     replace h9 : ¬ (i < (l + 2)) := of_decide_eq_false h9
     refine rki [] 4 5 [44, 10, 7, 6, 5, 3, 1] [2, 1, 0] [True] ⟨trivial, trivial⟩ ?_
     refine en ?_
     refine an ?_
     refine cf ?_
     refine xw_exit ?_
     refine an_exit ?_
     refine ag_exit ?_
     refine ib_same ?_
     refine an ?_
     refine rg [] 3 ⟨[(7, .i 0), (6, .p 2)], [(2, .cells (mm W (zx (stx xs a (t * 72057594037927936 + l * 4294967296 + m)) a (Int.toNat (i - 1))) (zy (sty ys a (t * 72057594037927936 + l * 4294967296 + m)) a (Int.toNat (i - 1)))) 25)], 3⟩ [True, True] ⟨trivial, trivial, trivial⟩ ?_
     refine xw_ret ?_
     exact br (.tup [.agg (mm W (zx (stx xs a (t * 72057594037927936 + l * 4294967296 + m)) a (Int.toNat (i - 1))) (zy (sty ys a (t * 72057594037927936 + l * 4294967296 + m)) a (Int.toNat (i - 1)))), .i 0]) (.tup [.agg (mm W (px xs a t l m) (py ys a t l m)), .i 0]) (wkd [(W : Int) = W, (false = true → false = true), (m64 (zx (stx xs a (t * 72057594037927936 + l * 4294967296 + m)) a (Int.toNat (i - 1)))) = (m64 (px xs a t l m)), (false = true → false = true), (m64 (zy (sty ys a (t * 72057594037927936 + l * 4294967296 + m)) a (Int.toNat (i - 1)))) = (m64 (py ys a t l m)), (0 : Int) = 0] (by kernel_rfl) ⟨rfl, id, (by first | rfl | omega | exact congrArg _ (px_fill (by omega)) | exact congrArg _ (py_fill (by omega)) | exact congrArg _ (px_eq (by omega) (by omega)) | exact congrArg _ (py_eq (by omega) (by omega))), id, (by first | rfl | omega | exact congrArg _ (px_fill (by omega)) | exact congrArg _ (py_fill (by omega)) | exact congrArg _ (px_eq (by omega) (by omega)) | exact congrArg _ (py_eq (by omega) (by omega))), rfl, trivial⟩) (Or.inl <| ⟨(by first | rfl | omega | exact congrArg _ (px_fill (by omega)) | exact congrArg _ (py_fill (by omega)) | exact congrArg _ (px_eq (by omega) (by omega)) | exact congrArg _ (py_eq (by omega) (by omega))), (by omega), (by omega), rfl⟩)
   ·
    refine qc (othere_2 W xs ys a (l + 2) ‹_› ‹_› ‹_› ‹_› ‹_› ‹_› (by omega) (by omega)) ?_
    refine qri [] 2 5 [] trivial ?_
    refine qen ?_
    refine an ?_
    refine ct ?_
    refine rgi [] 3 [7, 8, 6, 5, 3, 1] [2, 1, 0] [True, True] ⟨trivial, trivial, trivial⟩ ?_
    refine xw_ret ?_
    refine ib_ret ?_
    refine an_ret ?_
    exact bs (.tup [.agg (mm W xs ys), .i 2]) (Or.inr <| Or.inl <| ⟨(by first | rfl | omega | exact congrArg _ (px_fill (by omega)) | exact congrArg _ (py_fill (by omega)) | exact congrArg _ (px_eq (by omega) (by omega)) | exact congrArg _ (py_eq (by omega) (by omega))), (by omega), rfl⟩)
 ·
  refine pc (hword_2 t l m ‹_› ‹_› ‹_› ‹_›) ?_
  have h1 : (headErr t l m) ≠ 0 := headErr_ne (by omega) (by omega)
  refine rki [] 5 2 [9, 8, 7, 6, 5, 3, 1] [2, 1, 0] [] trivial ?_
  refine en ?_
  refine an ?_
  refine xw_seq ?_
  refine xw_block ?_
  refine rg [(1, .t)] 3 ⟨[(16, .t), (9, .i (headErr t l m)), (8, .u 0), (7, .i 0), (6, .p 2), (5, .p 1), (3, .p 0), (1, .u a)], [(2, .cells [.i 0, .nils, .nils] 25), (1, .cells [.i t, .i l, .u m] 49), (0, .cells (mm W xs ys) 25)], 3⟩ [((headErr t l m) != 0) = true] ⟨bne_iff_ne.2 (by omega), trivial⟩ ?_
  refine ct ?_
  refine rgi [] 4 [7, 8, 6, 5, 3, 1] [2, 1, 0] [True, True] ⟨trivial, trivial, trivial⟩ ?_
  refine xw_ret ?_
  refine ib_ret ?_
  refine an_ret ?_
  exact bs (.tup [.agg (mm W xs ys), .i (headErr t l m)]) (Or.inr <| Or.inr <| ⟨(by first | rfl | omega | exact congrArg _ (px_fill (by omega)) | exact congrArg _ (py_fill (by omega)) | exact congrArg _ (px_eq (by omega) (by omega)) | exact congrArg _ (py_eq (by omega) (by omega))), rfl⟩)

theorem oput_1 (W : Int) (xs ys : List Int) (a t l m : Int) (hp0 : 16 ≤ W ∧ W ≤ 4096) (hp1 : (xs.length : Int) = W) (hp2 : (ys.length : Int) = W) (hp3 : U64s xs) (hp4 : U64s ys) (hp5 : 0 ≤ a ∧ a ≤ 18446744073709551615) (hp6 : -9223372036854775808 ≤ t ∧ t ≤ 9223372036854775807) (hp7 : -9223372036854775808 ≤ l ∧ l ≤ 9223372036854775807) (hp8 : 0 ≤ m ∧ m ≤ 18446744073709551615) (hp9 : (t = 255 ∧ 0 ≤ l ∧ l ≤ 65535 ∧ m = 0) ∨ (1 ≤ t ∧ t ≤ 200 ∧ 0 ≤ l ∧ l ≤ 16 ∧ m < 2 ^ (Int.toNat l) ∧ m < 65536)) (hp10 : 1 ≤ a / 4294967296 ∧ a / 4294967296 ≤ 2 ∧ a % 4294967296 < W) (hp11 : (t = 255 ∧ (a % 4294967296) + l + 1 ≤ W) ∨ (t ≠ 255 ∧ (a % 4294967296) + l + 2 ≤ W)) : Pub Try.prog 60 [.agg (mm W xs ys), .u a, .agg [.i t, .i l, .u m]] (fun rv => rv = .tup [.agg (mm W (px xs a t l m) (py ys a t l m)), .i 0]) := by
  refine (oput W xs ys a t l m hp0 hp1 hp2 hp3 hp4 hp5 hp6 hp7 hp8).mono ?_
  rintro _ (⟨g0, g1, g2, rfl⟩ | ⟨g0, g1, rfl⟩ | ⟨g0, rfl⟩)
  all_goals first | rfl | (exfalso; first | omega | grind)

theorem oput_2 (W : Int) (xs ys : List Int) (a t l m : Int) (hp0 : 16 ≤ W ∧ W ≤ 4096) (hp1 : (xs.length : Int) = W) (hp2 : (ys.length : Int) = W) (hp3 : U64s xs) (hp4 : U64s ys) (hp5 : 0 ≤ a ∧ a ≤ 18446744073709551615) (hp6 : -9223372036854775808 ≤ t ∧ t ≤ 9223372036854775807) (hp7 : -9223372036854775808 ≤ l ∧ l ≤ 9223372036854775807) (hp8 : 0 ≤ m ∧ m ≤ 18446744073709551615) (hp9 : (t = 255 ∧ 0 ≤ l ∧ l ≤ 65535 ∧ m = 0) ∨ (1 ≤ t ∧ t ≤ 200 ∧ 0 ≤ l ∧ l ≤ 16 ∧ m < 2 ^ (Int.toNat l) ∧ m < 65536)) (hp10 : ¬ ((1 ≤ a / 4294967296 ∧ a / 4294967296 ≤ 2 ∧ a % 4294967296 < W) ∧ ((t = 255 ∧ (a % 4294967296) + l + 1 ≤ W) ∨ (t ≠ 255 ∧ (a % 4294967296) + l + 2 ≤ W)))) : Pub Try.prog 60 [.agg (mm W xs ys), .u a, .agg [.i t, .i l, .u m]] (fun rv => rv = .tup [.agg (mm W xs ys), .i 2]) := by
  refine (oput W xs ys a t l m hp0 hp1 hp2 hp3 hp4 hp5 hp6 hp7 hp8).mono ?_
  rintro _ (⟨g0, g1, g2, rfl⟩ | ⟨g0, g1, rfl⟩ | ⟨g0, rfl⟩)
  all_goals first | rfl | (exfalso; first | omega | grind)

end Go.Proofs.Ytjchmajamlehmaa.X
