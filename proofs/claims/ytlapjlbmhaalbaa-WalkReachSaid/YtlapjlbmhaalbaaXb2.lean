/- Contracts of Go functions: what each returns, for every input that its premises name; no memory of the caller is touched. Printed by a program. -/
import Derived.Test.YtlapjlbmhaalbaaXb1
namespace Go.Proofs.Ytlapjlbmhaalbaa.X
open Go Go.RowKit
set_option linter.unusedVariables false      -- a premise may serve only to tell which way is taken
theorem wthere (W : Int) (xs ys : List Int) (a n : Int) (hp0 : 16 ≤ W ∧ W ≤ 4096) (hp1 : (xs.length : Int) = W) (hp2 : (ys.length : Int) = W) (hp3 : U64s xs) (hp4 : U64s ys) (hp5 : 0 ≤ a ∧ a ≤ 18446744073709551615) (hp6 : -9223372036854775808 ≤ n ∧ n ≤ 9223372036854775807) : Pub Try.prog 55 [.agg (mm W xs ys), .u a, .i n] (fun rv => ((1 ≤ a / 4294967296 ∧ a / 4294967296 ≤ 2 ∧ a % 4294967296 < W ∧ 0 ≤ n ∧ a % 4294967296 + n ≤ W) ∧ rv = .tup [.i (a / 4294967296 - 1), .i (a % 4294967296), .t]) ∨ ((¬ (1 ≤ a / 4294967296 ∧ a / 4294967296 ≤ 2 ∧ a % 4294967296 < W ∧ 0 ≤ n ∧ a % 4294967296 + n ≤ W)) ∧ rv = .tup [.i 0, .i 0, .f])) := by
 refine pub_of TT_ok Try.func55 rfl (by decide) (Nat.le_of_ble_eq_true (by kernel_rfl)) (by kernel_rfl) ?_
 refine rg [] 4 ⟨[(8, .f), (7, .i 0), (6, .i 0), (3, .p 0), (1, .u a), (2, .i n)], [(0, .cells (mm W xs ys) 94)], 1⟩ [] trivial ?_
 refine xw_seq ?_
 refine reg ?_
 refine rk [] 1 0 ⟨[(13, .u a), (8, .f), (7, .i 0), (6, .i 0), (3, .p 0), (2, .i n)], [(0, .cells (mm W xs ys) 94)], 1⟩ [] trivial ?_
 by_cases h0 : 1 ≤ a / 4294967296 ∧ a / 4294967296 ≤ 2
 ·
  refine pc (pwhere_1 a ‹_› (by omega)) ?_
  refine rk [] 7 2 ⟨[(11, .t), (10, .i (a % 4294967296)), (9, .i (a / 4294967296 - 1)), (8, .f), (7, .i 0), (6, .i 0), (3, .p 0), (2, .i n)], [(0, .cells (mm W xs ys) 94)], 1⟩ [] trivial ?_
  refine en ?_
  refine an ?_
  refine xw_seq ?_
  refine xw_seq ?_
  refine reg ?_
  refine rk [(7, .bool (decide (W ≤ (a % 4294967296))))] 10 0 ⟨[(27, .bool (decide (W ≤ (a % 4294967296)))), (10, .i (a % 4294967296)), (9, .i (a / 4294967296 - 1)), (8, .f), (7, .i 0), (6, .i 0), (3, .p 0), (2, .i n)], [(0, .cells (mm W xs ys) 94)], 1⟩ [True, (decide (W ≤ (a % 4294967296))) = (decide (W ≤ (a % 4294967296))), True] ⟨trivial, rfl, trivial, trivial⟩ ?_
  refine splitr 27 (x := (decide (W ≤ (a % 4294967296)))) (by kernel_rfl) (fun h1 => ?_) (fun h1 => ?_)
  ·
   replace h1 : W ≤ (a % 4294967296) := of_decide_eq_true h1
   refine rk [] 8 10 ⟨[(35, .t), (10, .i (a % 4294967296)), (9, .i (a / 4294967296 - 1)), (8, .f), (7, .i 0), (6, .i 0)], [], 1⟩ [True] ⟨trivial, trivial⟩ ?_
   refine en ?_
   refine an ?_
   refine ct ?_
   refine rg [] 3 ⟨[(8, .f), (7, .i 0), (6, .i 0), (10, .i (a % 4294967296)), (9, .i (a / 4294967296 - 1))], [], 1⟩ [] trivial ?_
   refine xw_ret ?_
   refine an_ret ?_
   exact bs (.tup [.i 0, .i 0, .f]) (Or.inr <| ⟨(by omega), rfl⟩)
  ·
   replace h1 : ¬ (W ≤ (a % 4294967296)) := of_decide_eq_false h1
   refine rk [] 5 10 ⟨[(32, .i W), (29, .i n), (28, .i (a % 4294967296)), (27, .f), (10, .i (a % 4294967296)), (9, .i (a / 4294967296 - 1)), (8, .f), (7, .i 0), (6, .i 0)], [], 1⟩ [True] ⟨trivial, trivial⟩ ?_
   by_cases h2 : 0 ≤ (a % 4294967296) ∧ 0 ≤ n ∧ (a % 4294967296) + n ≤ W
   ·
    refine pc (fits_1 (a % 4294967296) n W (by omega) ‹_› (by omega) ‹_›) ?_
    refine rk [] 2 16 ⟨[(35, .f), (10, .i (a % 4294967296)), (9, .i (a / 4294967296 - 1)), (8, .f), (7, .i 0), (6, .i 0)], [], 1⟩ [True] ⟨trivial, trivial⟩ ?_
    refine en ?_
    refine an ?_
    refine cf ?_
    refine xw_skip ?_
    refine an ?_
    refine rg [] 5 ⟨[(8, .t), (7, .i (a % 4294967296)), (6, .i (a / 4294967296 - 1))], [], 1⟩ [] trivial ?_
    refine xw_ret ?_
    exact bs (.tup [.i (a / 4294967296 - 1), .i (a % 4294967296), .t]) (Or.inl <| ⟨(by omega), rfl⟩)
   ·
    refine pc (fits_2 (a % 4294967296) n W (by omega) ‹_› (by omega) ‹_›) ?_
    refine rk [] 2 16 ⟨[(35, .t), (10, .i (a % 4294967296)), (9, .i (a / 4294967296 - 1)), (8, .f), (7, .i 0), (6, .i 0)], [], 1⟩ [True] ⟨trivial, trivial⟩ ?_
    refine en ?_
    refine an ?_
    refine ct ?_
    refine rg [] 3 ⟨[(8, .f), (7, .i 0), (6, .i 0), (10, .i (a % 4294967296)), (9, .i (a / 4294967296 - 1))], [], 1⟩ [] trivial ?_
    refine xw_ret ?_
    refine an_ret ?_
    exact bs (.tup [.i 0, .i 0, .f]) (Or.inr <| ⟨(by omega), rfl⟩)
 ·
  refine pc (pwhere_2 a ‹_› (by omega)) ?_
  refine rk [] 7 2 ⟨[(11, .f), (10, .i 0), (9, .i 0), (8, .f), (7, .i 0), (6, .i 0), (3, .p 0), (2, .i n)], [(0, .cells (mm W xs ys) 94)], 1⟩ [] trivial ?_
  refine en ?_
  refine an ?_
  refine xw_seq ?_
  refine rg [] 18 ⟨[(35, .t), (10, .i 0), (9, .i 0), (8, .f), (7, .i 0), (6, .i 0)], [], 1⟩ [True, True] ⟨trivial, trivial, trivial⟩ ?_
  refine ct ?_
  refine rg [] 3 ⟨[(8, .f), (7, .i 0), (6, .i 0), (10, .i 0), (9, .i 0)], [], 1⟩ [] trivial ?_
  refine xw_ret ?_
  refine an_ret ?_
  exact bs (.tup [.i 0, .i 0, .f]) (Or.inr <| ⟨(by omega), rfl⟩)

theorem wthere_1 (W : Int) (xs ys : List Int) (a n : Int) (hp0 : 16 ≤ W ∧ W ≤ 4096) (hp1 : (xs.length : Int) = W) (hp2 : (ys.length : Int) = W) (hp3 : U64s xs) (hp4 : U64s ys) (hp5 : 0 ≤ a ∧ a ≤ 18446744073709551615) (hp6 : -9223372036854775808 ≤ n ∧ n ≤ 9223372036854775807) (hp7 : 1 ≤ a / 4294967296 ∧ a / 4294967296 ≤ 2 ∧ a % 4294967296 < W ∧ 0 ≤ n ∧ a % 4294967296 + n ≤ W) : Pub Try.prog 55 [.agg (mm W xs ys), .u a, .i n] (fun rv => rv = .tup [.i (a / 4294967296 - 1), .i (a % 4294967296), .t]) := by
  refine (wthere W xs ys a n hp0 hp1 hp2 hp3 hp4 hp5 hp6).mono ?_
  rintro _ (⟨g0, rfl⟩ | ⟨g0, rfl⟩)
  all_goals first | rfl | (exfalso; first | omega | grind)

theorem wthere_2 (W : Int) (xs ys : List Int) (a n : Int) (hp0 : 16 ≤ W ∧ W ≤ 4096) (hp1 : (xs.length : Int) = W) (hp2 : (ys.length : Int) = W) (hp3 : U64s xs) (hp4 : U64s ys) (hp5 : 0 ≤ a ∧ a ≤ 18446744073709551615) (hp6 : -9223372036854775808 ≤ n ∧ n ≤ 9223372036854775807) (hp7 : ¬ (1 ≤ a / 4294967296 ∧ a / 4294967296 ≤ 2 ∧ a % 4294967296 < W ∧ 0 ≤ n ∧ a % 4294967296 + n ≤ W)) : Pub Try.prog 55 [.agg (mm W xs ys), .u a, .i n] (fun rv => rv = .tup [.i 0, .i 0, .f]) := by
  refine (wthere W xs ys a n hp0 hp1 hp2 hp3 hp4 hp5 hp6).mono ?_
  rintro _ (⟨g0, rfl⟩ | ⟨g0, rfl⟩)
  all_goals first | rfl | (exfalso; first | omega | grind)

theorem load (W : Int) (xs ys : List Int) (a : Int) (hp0 : 16 ≤ W ∧ W ≤ 4096) (hp1 : (xs.length : Int) = W) (hp2 : (ys.length : Int) = W) (hp3 : U64s xs) (hp4 : U64s ys) (hp5 : 0 ≤ a ∧ a ≤ 18446744073709551615) : Pub Try.prog 43 [.agg (mm W xs ys), .u a] (fun rv => ((1 ≤ a / 4294967296 ∧ a / 4294967296 ≤ 2 ∧ a % 4294967296 < W) ∧ rv = .tup [.u (ldw xs ys a), .i 0]) ∨ ((¬ (1 ≤ a / 4294967296 ∧ a / 4294967296 ≤ 2 ∧ a % 4294967296 < W)) ∧ rv = .tup [.u 0, .i 2])) := by
 refine pub_of TT_ok Try.func43 rfl (by decide) (Nat.le_of_ble_eq_true (by kernel_rfl)) (by kernel_rfl) ?_
 refine rg [] 3 ⟨[(5, .i 0), (4, .u 0), (2, .p 0), (1, .u a)], [(0, .cells (mm W xs ys) 25)], 1⟩ [] trivial ?_
 refine rg [] 4 ⟨[(6, .fn 55 [.agg (mm W xs ys)] []), (5, .i 0), (4, .u 0), (2, .p 0), (1, .u a)], [(0, .cells (mm W xs ys) 25)], 1⟩ [True] ⟨trivial, trivial⟩ ?_
 refine xw_seq ?_
 refine reg ?_
 refine rk [] 2 0 ⟨[(15, .u a), (14, .fn 55 [.agg (mm W xs ys)] []), (5, .i 0), (4, .u 0), (2, .p 0)], [(0, .cells (mm W xs ys) 25)], 1⟩ [] trivial ?_
 by_cases h0 : (1 ≤ a / 4294967296) ∧ ((a / 4294967296 ≤ 2) ∧ ((a % 4294967296 < W) ∧ (((0 : Int) ≤ 1) ∧ (a % 4294967296 + 1 ≤ W))))
 ·
  refine pc (wthere_1 W xs ys a 1 ‹_› ‹_› ‹_› ‹_› ‹_› ‹_› (by omega) (by omega)) ?_
  refine rk [] 7 3 ⟨[(9, .t), (8, .i (a % 4294967296)), (7, .i (a / 4294967296 - 1)), (5, .i 0), (4, .u 0), (2, .p 0)], [(0, .cells (mm W xs ys) 25)], 1⟩ [] trivial ?_
  refine en ?_
  refine an ?_
  refine xw_seq ?_
  refine rg [] 2 ⟨[(21, .f), (8, .i (a % 4294967296)), (7, .i (a / 4294967296 - 1)), (5, .i 0), (4, .u 0), (2, .p 0)], [(0, .cells (mm W xs ys) 25)], 1⟩ [] trivial ?_
  refine cf ?_
  refine xw_skip ?_
  refine an ?_
  refine xw_seq ?_
  refine reg ?_
  refine rk [] 2 0 ⟨[(23, .loc 0 1), (22, .i (a / 4294967296 - 1)), (8, .i (a % 4294967296)), (5, .i 0), (4, .u 0)], [(0, .cells (mm W xs ys) 25)], 1⟩ [] trivial ?_
  by_cases h1 : (a / 4294967296 - 1) = 0
  ·
   refine seti 22 (k := .i64) (x := (a / 4294967296 - 1)) (y := 0) (by kernel_rfl) (by omega) ?_
   refine rk [(5, .u (ix xs (a % 4294967296)))] 4 2 ⟨[(27, .elt (.u (ix xs (a % 4294967296)))), (5, .i 0), (4, .u 0)], [], 1⟩ [(0 : Int) ≤ 0 ∧ 0 < ((2 : Nat) : Int), True, (0 : Int) ≤ (a % 4294967296) ∧ (a % 4294967296) < ((((m64 xs)).length : Nat) : Int) ∧ ((m64 xs))[((a % 4294967296) : Int).toNat]? = some (.u (ix xs (a % 4294967296)))] ⟨(by constructor <;> omega), trivial, (ix_ok (by omega) (by first | omega | (simp only [len_st]; omega) | (simp; done) | (simp; omega) | (simp [len_st, len_stx, len_sty, len_zx, len_zy]; omega))), trivial⟩ ?_
   have h2 : 0 ≤ (ix xs (a % 4294967296)) ∧ (ix xs (a % 4294967296)) ≤ 18446744073709551615 := U64s.ix (by first | assumption | exact U64s.st (by assumption) _ (by omega)) _
   refine rk [] 3 6 ⟨[(5, .i 0), (4, .u (ix xs (a % 4294967296)))], [], 1⟩ [True] ⟨trivial, trivial⟩ ?_
   refine en ?_
   refine an ?_
   refine xw_ret ?_
   exact br (.tup [.u (ix xs (a % 4294967296)), .i 0]) (.tup [.u (ldw xs ys a), .i 0]) (wkd [((ix xs (a % 4294967296)) : Int) = (ldw xs ys a), (0 : Int) = 0] (by kernel_rfl) ⟨(by first | rfl | omega | (rw [ldw_1 (by omega)]; done) | (rw [ldw_2 (by omega)]; done)), rfl, trivial⟩) (Or.inl <| ⟨(by omega), rfl⟩)
  ·
   refine seti 22 (k := .i64) (x := (a / 4294967296 - 1)) (y := 1) (by kernel_rfl) (by omega) ?_
   refine rk [(5, .u (ix ys (a % 4294967296)))] 4 2 ⟨[(27, .elt (.u (ix ys (a % 4294967296)))), (5, .i 0), (4, .u 0)], [], 1⟩ [(0 : Int) ≤ 1 ∧ 1 < ((2 : Nat) : Int), True, (0 : Int) ≤ (a % 4294967296) ∧ (a % 4294967296) < ((((m64 ys)).length : Nat) : Int) ∧ ((m64 ys))[((a % 4294967296) : Int).toNat]? = some (.u (ix ys (a % 4294967296)))] ⟨(by constructor <;> omega), trivial, (ix_ok (by omega) (by first | omega | (simp only [len_st]; omega) | (simp; done) | (simp; omega) | (simp [len_st, len_stx, len_sty, len_zx, len_zy]; omega))), trivial⟩ ?_
   have h2 : 0 ≤ (ix ys (a % 4294967296)) ∧ (ix ys (a % 4294967296)) ≤ 18446744073709551615 := U64s.ix (by first | assumption | exact U64s.st (by assumption) _ (by omega)) _
   refine rk [] 3 6 ⟨[(5, .i 0), (4, .u (ix ys (a % 4294967296)))], [], 1⟩ [True] ⟨trivial, trivial⟩ ?_
   refine en ?_
   refine an ?_
   refine xw_ret ?_
   exact br (.tup [.u (ix ys (a % 4294967296)), .i 0]) (.tup [.u (ldw xs ys a), .i 0]) (wkd [((ix ys (a % 4294967296)) : Int) = (ldw xs ys a), (0 : Int) = 0] (by kernel_rfl) ⟨(by first | rfl | omega | (rw [ldw_1 (by omega)]; done) | (rw [ldw_2 (by omega)]; done)), rfl, trivial⟩) (Or.inl <| ⟨(by omega), rfl⟩)
 ·
  refine pc (wthere_2 W xs ys a 1 ‹_› ‹_› ‹_› ‹_› ‹_› ‹_› (by omega) (by omega)) ?_
  refine rk [] 7 3 ⟨[(9, .f), (8, .i 0), (7, .i 0), (5, .i 0), (4, .u 0), (2, .p 0)], [(0, .cells (mm W xs ys) 25)], 1⟩ [] trivial ?_
  refine en ?_
  refine an ?_
  refine xw_seq ?_
  refine rg [] 2 ⟨[(21, .t), (8, .i 0), (7, .i 0), (5, .i 0), (4, .u 0), (2, .p 0)], [(0, .cells (mm W xs ys) 25)], 1⟩ [] trivial ?_
  refine ct ?_
  refine rg [] 2 ⟨[(5, .i 2), (4, .u 0), (8, .i 0), (7, .i 0), (2, .p 0)], [(0, .cells (mm W xs ys) 25)], 1⟩ [] trivial ?_
  refine xw_ret ?_
  refine an_ret ?_
  exact bs (.tup [.u 0, .i 2]) (Or.inr <| ⟨(by omega), rfl⟩)

theorem load_1 (W : Int) (xs ys : List Int) (a : Int) (hp0 : 16 ≤ W ∧ W ≤ 4096) (hp1 : (xs.length : Int) = W) (hp2 : (ys.length : Int) = W) (hp3 : U64s xs) (hp4 : U64s ys) (hp5 : 0 ≤ a ∧ a ≤ 18446744073709551615) (hp6 : 1 ≤ a / 4294967296 ∧ a / 4294967296 ≤ 2 ∧ a % 4294967296 < W) : Pub Try.prog 43 [.agg (mm W xs ys), .u a] (fun rv => rv = .tup [.u (ldw xs ys a), .i 0]) := by
  refine (load W xs ys a hp0 hp1 hp2 hp3 hp4 hp5).mono ?_
  rintro _ (⟨g0, rfl⟩ | ⟨g0, rfl⟩)
  all_goals first | rfl | (exfalso; first | omega | grind)

theorem load_2 (W : Int) (xs ys : List Int) (a : Int) (hp0 : 16 ≤ W ∧ W ≤ 4096) (hp1 : (xs.length : Int) = W) (hp2 : (ys.length : Int) = W) (hp3 : U64s xs) (hp4 : U64s ys) (hp5 : 0 ≤ a ∧ a ≤ 18446744073709551615) (hp6 : ¬ (1 ≤ a / 4294967296 ∧ a / 4294967296 ≤ 2 ∧ a % 4294967296 < W)) : Pub Try.prog 43 [.agg (mm W xs ys), .u a] (fun rv => rv = .tup [.u 0, .i 2]) := by
  refine (load W xs ys a hp0 hp1 hp2 hp3 hp4 hp5).mono ?_
  rintro _ (⟨g0, rfl⟩ | ⟨g0, rfl⟩)
  all_goals first | rfl | (exfalso; first | omega | grind)

theorem rthere (W : Int) (xs ys : List Int) (a : Int) (hp0 : 16 ≤ W ∧ W ≤ 4096) (hp1 : (xs.length : Int) = W) (hp2 : (ys.length : Int) = W) (hp3 : U64s xs) (hp4 : U64s ys) (hp5 : 0 ≤ a ∧ a ≤ 18446744073709551615) : Pub Try.prog 49 [.agg (mm W xs ys), .u a] (fun rv => ((1 ≤ a / 4294967296 ∧ a / 4294967296 ≤ 2 ∧ a % 4294967296 < W) ∧ rv = .t) ∨ ((¬ (1 ≤ a / 4294967296 ∧ a / 4294967296 ≤ 2 ∧ a % 4294967296 < W)) ∧ rv = .f)) := by
 refine pub_of TT_ok Try.func49 rfl (by decide) (Nat.le_of_ble_eq_true (by kernel_rfl)) (by kernel_rfl) ?_
 refine rg [] 2 ⟨[(4, .f), (2, .p 0), (1, .u a)], [(0, .cells (mm W xs ys) 25)], 1⟩ [] trivial ?_
 refine xw_seq ?_
 refine reg ?_
 refine rk [] 1 0 ⟨[(9, .u a), (4, .f), (2, .p 0)], [(0, .cells (mm W xs ys) 25)], 1⟩ [] trivial ?_
 by_cases h0 : 1 ≤ a / 4294967296 ∧ a / 4294967296 ≤ 2
 ·
  refine pc (rwhere_1 a ‹_› (by omega)) ?_
  refine rk [] 7 2 ⟨[(7, .t), (6, .i (a % 4294967296)), (5, .i (a / 4294967296 - 1)), (4, .f), (2, .p 0)], [(0, .cells (mm W xs ys) 25)], 1⟩ [] trivial ?_
  refine en ?_
  refine an ?_
  refine xw_seq ?_
  refine reg ?_
  refine rk [(5, .bool (decide ((a % 4294967296) < W)))] 8 0 ⟨[(21, .bool (decide ((a % 4294967296) < W))), (6, .i (a % 4294967296)), (5, .i (a / 4294967296 - 1)), (4, .f), (2, .p 0)], [(0, .cells (mm W xs ys) 25)], 1⟩ [True, (decide ((a % 4294967296) < W)) = (decide ((a % 4294967296) < W)), True] ⟨trivial, rfl, trivial, trivial⟩ ?_
  refine splitr 21 (x := (decide ((a % 4294967296) < W))) (by kernel_rfl) (fun h1 => ?_) (fun h1 => ?_)
  ·
   replace h1 : (a % 4294967296) < W := of_decide_eq_true h1
   refine rk [] 3 8 ⟨[(24, .loc 0 1), (23, .i (a / 4294967296 - 1)), (22, .i (a % 4294967296)), (21, .t), (4, .f)], [(0, .cells (mm W xs ys) 25)], 1⟩ [] trivial ?_
   by_cases h2 : (a / 4294967296 - 1) = 0
   ·
    refine seti 23 (k := .i64) (x := (a / 4294967296 - 1)) (y := 0) (by kernel_rfl) (by omega) ?_
    refine rk [(13, .i ((xs).length : Int)), (14, .t)] 6 11 ⟨[(4, .t)], [], 1⟩ [(0 : Int) ≤ 0 ∧ 0 < ((2 : Nat) : Int), True, ((((m64 xs)).length : Nat) : Int) = ((xs).length : Int), (decide ((a % 4294967296) < ((xs).length : Int))) = true, True] ⟨(by constructor <;> omega), trivial, (by simp), decide_eq_true (by omega), trivial, trivial⟩ ?_
    refine en ?_
    refine an ?_
    refine xw_ret ?_
    exact bs (.t) (Or.inl <| ⟨(by omega), rfl⟩)
   ·
    refine seti 23 (k := .i64) (x := (a / 4294967296 - 1)) (y := 1) (by kernel_rfl) (by omega) ?_
    refine rk [(13, .i ((ys).length : Int)), (14, .t)] 6 11 ⟨[(4, .t)], [], 1⟩ [(0 : Int) ≤ 1 ∧ 1 < ((2 : Nat) : Int), True, ((((m64 ys)).length : Nat) : Int) = ((ys).length : Int), (decide ((a % 4294967296) < ((ys).length : Int))) = true, True] ⟨(by constructor <;> omega), trivial, (by simp), decide_eq_true (by omega), trivial, trivial⟩ ?_
    refine en ?_
    refine an ?_
    refine xw_ret ?_
    exact bs (.t) (Or.inl <| ⟨(by omega), rfl⟩)
  ·
   replace h1 : ¬ ((a % 4294967296) < W) := of_decide_eq_false h1
   refine rk [] 9 8 ⟨[(4, .f)], [], 1⟩ [True] ⟨trivial, trivial⟩ ?_
   refine en ?_
   refine an ?_
   refine xw_ret ?_
   exact bs (.f) (Or.inr <| ⟨(by omega), rfl⟩)
 ·
  refine pc (rwhere_2 a ‹_› (by omega)) ?_
  refine rk [] 7 2 ⟨[(7, .f), (6, .i 0), (5, .i 0), (4, .f), (2, .p 0)], [(0, .cells (mm W xs ys) 25)], 1⟩ [] trivial ?_
  refine en ?_
  refine an ?_
  refine rg [] 17 ⟨[(4, .f)], [], 1⟩ [True, True] ⟨trivial, trivial, trivial⟩ ?_
  refine xw_ret ?_
  exact bs (.f) (Or.inr <| ⟨(by omega), rfl⟩)

theorem rthere_1 (W : Int) (xs ys : List Int) (a : Int) (hp0 : 16 ≤ W ∧ W ≤ 4096) (hp1 : (xs.length : Int) = W) (hp2 : (ys.length : Int) = W) (hp3 : U64s xs) (hp4 : U64s ys) (hp5 : 0 ≤ a ∧ a ≤ 18446744073709551615) (hp6 : 1 ≤ a / 4294967296 ∧ a / 4294967296 ≤ 2 ∧ a % 4294967296 < W) : Pub Try.prog 49 [.agg (mm W xs ys), .u a] (fun rv => rv = .t) := by
  refine (rthere W xs ys a hp0 hp1 hp2 hp3 hp4 hp5).mono ?_
  rintro _ (⟨g0, rfl⟩ | ⟨g0, rfl⟩)
  all_goals first | rfl | (exfalso; first | omega | grind)

theorem rthere_2 (W : Int) (xs ys : List Int) (a : Int) (hp0 : 16 ≤ W ∧ W ≤ 4096) (hp1 : (xs.length : Int) = W) (hp2 : (ys.length : Int) = W) (hp3 : U64s xs) (hp4 : U64s ys) (hp5 : 0 ≤ a ∧ a ≤ 18446744073709551615) (hp6 : ¬ (1 ≤ a / 4294967296 ∧ a / 4294967296 ≤ 2 ∧ a % 4294967296 < W)) : Pub Try.prog 49 [.agg (mm W xs ys), .u a] (fun rv => rv = .f) := by
  refine (rthere W xs ys a hp0 hp1 hp2 hp3 hp4 hp5).mono ?_
  rintro _ (⟨g0, rfl⟩ | ⟨g0, rfl⟩)
  all_goals first | rfl | (exfalso; first | omega | grind)

theorem rload (W : Int) (xs ys : List Int) (a : Int) (hp0 : 16 ≤ W ∧ W ≤ 4096) (hp1 : (xs.length : Int) = W) (hp2 : (ys.length : Int) = W) (hp3 : U64s xs) (hp4 : U64s ys) (hp5 : 0 ≤ a ∧ a ≤ 18446744073709551615) : Pub Try.prog 39 [.agg (mm W xs ys), .u a] (fun rv => ((1 ≤ a / 4294967296 ∧ a / 4294967296 ≤ 2 ∧ a % 4294967296 < W) ∧ rv = .tup [.u (ldw xs ys a), .i 0]) ∨ ((¬ (1 ≤ a / 4294967296 ∧ a / 4294967296 ≤ 2 ∧ a % 4294967296 < W)) ∧ rv = .tup [.u 0, .i 2])) := by
 refine pub_of TT_ok Try.func39 rfl (by decide) (Nat.le_of_ble_eq_true (by kernel_rfl)) (by kernel_rfl) ?_
 refine rg [] 3 ⟨[(5, .i 0), (4, .u 0), (2, .p 0), (1, .u a)], [(0, .cells (mm W xs ys) 25)], 1⟩ [] trivial ?_
 refine xw_seq ?_
 refine reg ?_
 refine rk [] 2 0 ⟨[(11, .u a), (10, .agg (mm W xs ys)), (5, .i 0), (4, .u 0), (2, .p 0), (1, .u a)], [(0, .cells (mm W xs ys) 25)], 1⟩ [True] ⟨trivial, trivial⟩ ?_
 by_cases h0 : 1 ≤ a / 4294967296 ∧ a / 4294967296 ≤ 2 ∧ a % 4294967296 < W
 ·
  refine pc (rthere_1 W xs ys a ‹_› ‹_› ‹_› ‹_› ‹_› ‹_› (by omega)) ?_
  refine rk [] 1 3 ⟨[(6, .t), (5, .i 0), (4, .u 0), (2, .p 0), (1, .u a)], [(0, .cells (mm W xs ys) 25)], 1⟩ [] trivial ?_
  refine en ?_
  refine an ?_
  refine xw_seq ?_
  refine rg [] 2 ⟨[(14, .f), (5, .i 0), (4, .u 0), (2, .p 0), (1, .u a)], [(0, .cells (mm W xs ys) 25)], 1⟩ [] trivial ?_
  refine cf ?_
  refine xw_skip ?_
  refine an ?_
  refine xw_seq ?_
  refine reg ?_
  refine rk [] 1 0 ⟨[(16, .u a), (5, .i 0), (4, .u 0), (2, .p 0)], [(0, .cells (mm W xs ys) 25)], 1⟩ [] trivial ?_
  refine pc (rwhere_1 a ‹_› (by omega)) ?_
  refine rk [] 7 2 ⟨[(8, .i (a % 4294967296)), (7, .i (a / 4294967296 - 1)), (5, .i 0), (4, .u 0), (2, .p 0)], [(0, .cells (mm W xs ys) 25)], 1⟩ [] trivial ?_
  refine en ?_
  refine an ?_
  refine xw_seq ?_
  refine reg ?_
  refine rk [] 2 0 ⟨[(22, .loc 0 1), (21, .i (a / 4294967296 - 1)), (8, .i (a % 4294967296)), (5, .i 0), (4, .u 0)], [(0, .cells (mm W xs ys) 25)], 1⟩ [] trivial ?_
  by_cases h1 : (a / 4294967296 - 1) = 0
  ·
   refine seti 21 (k := .i64) (x := (a / 4294967296 - 1)) (y := 0) (by kernel_rfl) (by omega) ?_
   refine rk [(5, .u (ix xs (a % 4294967296)))] 4 2 ⟨[(26, .elt (.u (ix xs (a % 4294967296)))), (5, .i 0), (4, .u 0)], [], 1⟩ [(0 : Int) ≤ 0 ∧ 0 < ((2 : Nat) : Int), True, (0 : Int) ≤ (a % 4294967296) ∧ (a % 4294967296) < ((((m64 xs)).length : Nat) : Int) ∧ ((m64 xs))[((a % 4294967296) : Int).toNat]? = some (.u (ix xs (a % 4294967296)))] ⟨(by constructor <;> omega), trivial, (ix_ok (by omega) (by first | omega | (simp only [len_st]; omega) | (simp; done) | (simp; omega) | (simp [len_st, len_stx, len_sty, len_zx, len_zy]; omega))), trivial⟩ ?_
   have h2 : 0 ≤ (ix xs (a % 4294967296)) ∧ (ix xs (a % 4294967296)) ≤ 18446744073709551615 := U64s.ix (by first | assumption | exact U64s.st (by assumption) _ (by omega)) _
   refine rk [] 3 6 ⟨[(5, .i 0), (4, .u (ix xs (a % 4294967296)))], [], 1⟩ [True] ⟨trivial, trivial⟩ ?_
   refine en ?_
   refine an ?_
   refine xw_ret ?_
   exact br (.tup [.u (ix xs (a % 4294967296)), .i 0]) (.tup [.u (ldw xs ys a), .i 0]) (wkd [((ix xs (a % 4294967296)) : Int) = (ldw xs ys a), (0 : Int) = 0] (by kernel_rfl) ⟨(by first | rfl | omega | (rw [ldw_1 (by omega)]; done) | (rw [ldw_2 (by omega)]; done)), rfl, trivial⟩) (Or.inl <| ⟨(by omega), rfl⟩)
  ·
   refine seti 21 (k := .i64) (x := (a / 4294967296 - 1)) (y := 1) (by kernel_rfl) (by omega) ?_
   refine rk [(5, .u (ix ys (a % 4294967296)))] 4 2 ⟨[(26, .elt (.u (ix ys (a % 4294967296)))), (5, .i 0), (4, .u 0)], [], 1⟩ [(0 : Int) ≤ 1 ∧ 1 < ((2 : Nat) : Int), True, (0 : Int) ≤ (a % 4294967296) ∧ (a % 4294967296) < ((((m64 ys)).length : Nat) : Int) ∧ ((m64 ys))[((a % 4294967296) : Int).toNat]? = some (.u (ix ys (a % 4294967296)))] ⟨(by constructor <;> omega), trivial, (ix_ok (by omega) (by first | omega | (simp only [len_st]; omega) | (simp; done) | (simp; omega) | (simp [len_st, len_stx, len_sty, len_zx, len_zy]; omega))), trivial⟩ ?_
   have h2 : 0 ≤ (ix ys (a % 4294967296)) ∧ (ix ys (a % 4294967296)) ≤ 18446744073709551615 := U64s.ix (by first | assumption | exact U64s.st (by assumption) _ (by omega)) _
   refine rk [] 3 6 ⟨[(5, .i 0), (4, .u (ix ys (a % 4294967296)))], [], 1⟩ [True] ⟨trivial, trivial⟩ ?_
   refine en ?_
   refine an ?_
   refine xw_ret ?_
   exact br (.tup [.u (ix ys (a % 4294967296)), .i 0]) (.tup [.u (ldw xs ys a), .i 0]) (wkd [((ix ys (a % 4294967296)) : Int) = (ldw xs ys a), (0 : Int) = 0] (by kernel_rfl) ⟨(by first | rfl | omega | (rw [ldw_1 (by omega)]; done) | (rw [ldw_2 (by omega)]; done)), rfl, trivial⟩) (Or.inl <| ⟨(by omega), rfl⟩)
 ·
  refine pc (rthere_2 W xs ys a ‹_› ‹_› ‹_› ‹_› ‹_› ‹_› (by omega)) ?_
  refine rk [] 1 3 ⟨[(6, .f), (5, .i 0), (4, .u 0), (2, .p 0), (1, .u a)], [(0, .cells (mm W xs ys) 25)], 1⟩ [] trivial ?_
  refine en ?_
  refine an ?_
  refine xw_seq ?_
  refine rg [] 2 ⟨[(14, .t), (5, .i 0), (4, .u 0), (2, .p 0), (1, .u a)], [(0, .cells (mm W xs ys) 25)], 1⟩ [] trivial ?_
  refine ct ?_
  refine rg [] 2 ⟨[(5, .i 2), (4, .u 0), (2, .p 0), (1, .u a)], [(0, .cells (mm W xs ys) 25)], 1⟩ [] trivial ?_
  refine xw_ret ?_
  refine an_ret ?_
  exact bs (.tup [.u 0, .i 2]) (Or.inr <| ⟨(by omega), rfl⟩)

theorem rload_1 (W : Int) (xs ys : List Int) (a : Int) (hp0 : 16 ≤ W ∧ W ≤ 4096) (hp1 : (xs.length : Int) = W) (hp2 : (ys.length : Int) = W) (hp3 : U64s xs) (hp4 : U64s ys) (hp5 : 0 ≤ a ∧ a ≤ 18446744073709551615) (hp6 : 1 ≤ a / 4294967296 ∧ a / 4294967296 ≤ 2 ∧ a % 4294967296 < W) : Pub Try.prog 39 [.agg (mm W xs ys), .u a] (fun rv => rv = .tup [.u (ldw xs ys a), .i 0]) := by
  refine (rload W xs ys a hp0 hp1 hp2 hp3 hp4 hp5).mono ?_
  rintro _ (⟨g0, rfl⟩ | ⟨g0, rfl⟩)
  all_goals first | rfl | (exfalso; first | omega | grind)

theorem rload_2 (W : Int) (xs ys : List Int) (a : Int) (hp0 : 16 ≤ W ∧ W ≤ 4096) (hp1 : (xs.length : Int) = W) (hp2 : (ys.length : Int) = W) (hp3 : U64s xs) (hp4 : U64s ys) (hp5 : 0 ≤ a ∧ a ≤ 18446744073709551615) (hp6 : ¬ (1 ≤ a / 4294967296 ∧ a / 4294967296 ≤ 2 ∧ a % 4294967296 < W)) : Pub Try.prog 39 [.agg (mm W xs ys), .u a] (fun rv => rv = .tup [.u 0, .i 2]) := by
  refine (rload W xs ys a hp0 hp1 hp2 hp3 hp4 hp5).mono ?_
  rintro _ (⟨g0, rfl⟩ | ⟨g0, rfl⟩)
  all_goals first | rfl | (exfalso; first | omega | grind)

theorem rstore (W : Int) (xs ys : List Int) (a v : Int) (hp0 : 16 ≤ W ∧ W ≤ 4096) (hp1 : (xs.length : Int) = W) (hp2 : (ys.length : Int) = W) (hp3 : U64s xs) (hp4 : U64s ys) (hp5 : 0 ≤ a ∧ a ≤ 18446744073709551615) (hp6 : 0 ≤ v ∧ v ≤ 18446744073709551615) : Pub Try.prog 32 [.agg (mm W xs ys), .u a, .u v] (fun rv => ((1 ≤ a / 4294967296 ∧ a / 4294967296 ≤ 2 ∧ a % 4294967296 < W) ∧ rv = .tup [.agg (mm W (stx xs a v) (sty ys a v)), .i 0]) ∨ ((¬ (1 ≤ a / 4294967296 ∧ a / 4294967296 ≤ 2 ∧ a % 4294967296 < W)) ∧ rv = .tup [.agg (mm W xs ys), .i 2])) := by
 refine pub_of TT_ok Try.func32 rfl (by decide) (Nat.le_of_ble_eq_true (by kernel_rfl)) (by kernel_rfl) ?_
 refine rg [] 3 ⟨[(7, .i 0), (6, .p 1), (3, .p 0), (1, .u a), (2, .u v)], [(1, .cells [.i 0, .nils, .nils] 25), (0, .cells (mm W xs ys) 25)], 2⟩ [] trivial ?_
 refine xw_seq ?_
 refine reg ?_
 refine rk [] 2 0 ⟨[(15, .u a), (14, .agg (mm W xs ys)), (7, .i 0), (6, .p 1), (3, .p 0), (1, .u a), (2, .u v)], [(1, .cells [.i 0, .nils, .nils] 25), (0, .cells (mm W xs ys) 25)], 2⟩ [True] ⟨trivial, trivial⟩ ?_
 by_cases h0 : 1 ≤ a / 4294967296 ∧ a / 4294967296 ≤ 2 ∧ a % 4294967296 < W
 ·
  refine pc (rthere_1 W xs ys a ‹_› ‹_› ‹_› ‹_› ‹_› ‹_› (by omega)) ?_
  refine rk [] 1 3 ⟨[(8, .t), (7, .i 0), (6, .p 1), (3, .p 0), (1, .u a), (2, .u v)], [(1, .cells [.i 0, .nils, .nils] 25), (0, .cells (mm W xs ys) 25)], 2⟩ [] trivial ?_
  refine en ?_
  refine an ?_
  refine xw_seq ?_
  refine rg [] 2 ⟨[(18, .f), (7, .i 0), (6, .p 1), (3, .p 0), (1, .u a), (2, .u v)], [(1, .cells [.i 0, .nils, .nils] 25), (0, .cells (mm W xs ys) 25)], 2⟩ [] trivial ?_
  refine cf ?_
  refine xw_skip ?_
  refine an ?_
  refine xw_seq ?_
  refine reg ?_
  refine rk [] 1 0 ⟨[(21, .u a), (7, .i 0), (6, .p 1), (3, .p 0), (2, .u v)], [(1, .cells [.i 0, .nils, .nils] 25), (0, .cells (mm W xs ys) 25)], 2⟩ [] trivial ?_
  refine pc (rwhere_1 a ‹_› (by omega)) ?_
  refine rk [] 7 2 ⟨[(10, .i (a % 4294967296)), (9, .i (a / 4294967296 - 1)), (7, .i 0), (6, .p 1), (3, .p 0), (2, .u v)], [(1, .cells [.i 0, .nils, .nils] 25), (0, .cells (mm W xs ys) 25)], 2⟩ [] trivial ?_
  refine en ?_
  refine an ?_
  refine xw_seq ?_
  refine reg ?_
  refine rk [] 3 0 ⟨[(28, .loc 0 1), (27, .i (a / 4294967296 - 1)), (26, .own 2), (10, .i (a % 4294967296)), (9, .i (a / 4294967296 - 1)), (7, .i 0), (6, .p 1), (3, .p 0), (2, .u v)], [(2, .row 1 35 []), (1, .cells [.i 0, .nils, .nils] 25), (0, .cells (mm W xs ys) 25)], 3⟩ [] trivial ?_
  by_cases h1 : (a / 4294967296 - 1) = 0
  ·
   refine seti 27 (k := .i64) (x := (a / 4294967296 - 1)) (y := 0) (by kernel_rfl) (by omega) ?_
   refine rk [] 3 3 ⟨[(31, .own 3), (10, .i (a % 4294967296)), (9, .i (a / 4294967296 - 1)), (7, .i 0), (6, .p 1), (3, .p 0), (2, .u v)], [(3, .row 1 35 (([]) ++ ((m64 xs)))), (1, .cells [.i 0, .nils, .nils] 25), (0, .cells (mm W xs ys) 25)], 4⟩ [(0 : Int) ≤ 0 ∧ 0 < ((2 : Nat) : Int), True, (∀ y ∈ ((m64 xs) : List SV), ElemOk y) ∧ (false = true → 1 ≤ ((m64 xs) : List SV).length ∧ ∀ x ∈ ([] : List SV), ElemOk x) ∧ (([] : List SV).length + ((m64 xs) : List SV).length) * 8 ≤ 140737488355328 ∧ ([] : List SV).length + ((m64 xs) : List SV).length ≤ 4611686018427387904] ⟨(by constructor <;> omega), trivial, ⟨elem_map, (fun h => by cases h), by first | omega | (simp only [len_st]; omega) | (simp; done) | (simp; omega) | (simp [len_st, len_stx, len_sty, len_zx, len_zy]; omega), by first | omega | (simp only [len_st]; omega) | (simp; done) | (simp; omega) | (simp [len_st, len_stx, len_sty, len_zx, len_zy]; omega)⟩, trivial⟩ ?_
   refine setr 3 (z := 1) (E := 35) (L := (([]) ++ ((m64 xs)))) (L' := (m64 xs)) (by kernel_rfl) nil_app ?_
   refine rk [] 1 6 ⟨[(12, .own 3), (10, .i (a % 4294967296)), (9, .i (a / 4294967296 - 1)), (7, .i 0), (6, .p 1), (3, .p 0), (2, .u v)], [(3, .row 1 35 (m64 xs)), (1, .cells [.i 0, .nils, .nils] 25), (0, .cells (mm W xs ys) 25)], 4⟩ [] trivial ?_
   refine en ?_
   refine an ?_
   refine xw_seq ?_
   refine reg ?_
   refine rk [] 5 0 ⟨[(12, .own 3), (9, .i (a / 4294967296 - 1)), (7, .i 0), (6, .p 1), (3, .p 0)], [(3, .row 1 35 (((m64 xs)).set (((a % 4294967296) : Int).toNat) (.u v))), (1, .cells [.i 0, .nils, .nils] 25), (0, .cells (mm W xs ys) 25)], 4⟩ [(0 : Int) ≤ (a % 4294967296) ∧ (a % 4294967296) < ((((m64 xs)).length : Nat) : Int), (((a % 4294967296) : Int).toNat) < ((m64 xs)).length] ⟨⟨by omega, (by first | omega | (simp only [len_st]; omega) | (simp; done) | (simp; omega) | (simp [len_st, len_stx, len_sty, len_zx, len_zy]; omega))⟩, (by first | omega | (simp only [len_st]; omega) | (simp; done) | (simp; omega) | (simp [len_st, len_stx, len_sty, len_zx, len_zy]; omega)), trivial⟩ ?_
   refine setr 3 (z := 1) (E := 35) (L := (((m64 xs)).set (((a % 4294967296) : Int).toNat) (.u v))) (L' := (m64 (st xs ((a % 4294967296)) v))) (by kernel_rfl) set_map ?_
   refine en ?_
   refine an ?_
   refine rg [] 3 ⟨[(13, .p 4), (12, .own 3), (9, .i (a / 4294967296 - 1)), (7, .i 0), (6, .p 1)], [(4, .cells (mm W xs ys) 25), (3, .row 1 35 (m64 (st xs ((a % 4294967296)) v))), (1, .cells [.i 0, .nils, .nils] 25)], 5⟩ [True, True] ⟨trivial, trivial, trivial⟩ ?_
   refine xw_seq ?_
   refine reg ?_
   refine rk [] 3 0 ⟨[(39, .loc 4 1), (38, .own 3), (37, .i (a / 4294967296 - 1)), (13, .p 4), (7, .i 0), (6, .p 1)], [(4, .cells (mm W xs ys) 25), (3, .row 1 35 (m64 (st xs ((a % 4294967296)) v))), (1, .cells [.i 0, .nils, .nils] 25)], 5⟩ [] trivial ?_
   refine seti 37 (k := .i64) (x := (a / 4294967296 - 1)) (y := 0) (by kernel_rfl) (by omega) ?_
   refine rk [] 2 3 ⟨[(13, .p 4), (7, .i 0), (6, .p 1)], [(4, .cells [.i W, .own 3, .sl false 1 (m64 ys)] 25), (3, .row 1 35 (m64 (st xs ((a % 4294967296)) v))), (1, .cells [.i 0, .nils, .nils] 25)], 5⟩ [(0 : Int) ≤ 0 ∧ 0 < ((2 : Nat) : Int), True] ⟨(by constructor <;> omega), trivial, trivial⟩ ?_
   refine en ?_
   refine an ?_
   refine rg [] 3 ⟨[(7, .i 0), (6, .p 1)], [(3, .row 1 35 (m64 (st xs ((a % 4294967296)) v))), (1, .cells [.i W, .own 3, .sl false 1 (m64 ys)] 25)], 5⟩ [True, True] ⟨trivial, trivial, trivial⟩ ?_
   refine xw_ret ?_
   exact bk_ret (.tup [.agg [.i W, .own 3, .sl false 1 (m64 ys)], .i 0]) (.tup [.agg (mm W (st xs ((a % 4294967296)) v) ys), .i 0]) (.tup [.agg (mm W (stx xs a v) (sty ys a v)), .i 0]) (by kernel_rfl) (by kernel_rfl) (wkd [(W : Int) = W, (false = true → false = true), (m64 (st xs ((a % 4294967296)) v)) = (m64 (stx xs a v)), (false = true → false = true), (m64 ys) = (m64 (sty ys a v)), (0 : Int) = 0] (by kernel_rfl) ⟨rfl, id, (by first | rfl | omega | (rw [stx_1 (by omega)]; done) | (rw [stx_2 (by omega)]; done) | (rw [sty_1 (by omega)]; done) | (rw [sty_2 (by omega)]; done)), id, (by first | rfl | omega | (rw [stx_1 (by omega)]; done) | (rw [stx_2 (by omega)]; done) | (rw [sty_1 (by omega)]; done) | (rw [sty_2 (by omega)]; done)), rfl, trivial⟩) (Or.inl <| ⟨(by omega), rfl⟩)
  ·
   refine seti 27 (k := .i64) (x := (a / 4294967296 - 1)) (y := 1) (by kernel_rfl) (by omega) ?_
   refine rk [] 3 3 ⟨[(31, .own 3), (10, .i (a % 4294967296)), (9, .i (a / 4294967296 - 1)), (7, .i 0), (6, .p 1), (3, .p 0), (2, .u v)], [(3, .row 1 35 (([]) ++ ((m64 ys)))), (1, .cells [.i 0, .nils, .nils] 25), (0, .cells (mm W xs ys) 25)], 4⟩ [(0 : Int) ≤ 1 ∧ 1 < ((2 : Nat) : Int), True, (∀ y ∈ ((m64 ys) : List SV), ElemOk y) ∧ (false = true → 1 ≤ ((m64 ys) : List SV).length ∧ ∀ x ∈ ([] : List SV), ElemOk x) ∧ (([] : List SV).length + ((m64 ys) : List SV).length) * 8 ≤ 140737488355328 ∧ ([] : List SV).length + ((m64 ys) : List SV).length ≤ 4611686018427387904] ⟨(by constructor <;> omega), trivial, ⟨elem_map, (fun h => by cases h), by first | omega | (simp only [len_st]; omega) | (simp; done) | (simp; omega) | (simp [len_st, len_stx, len_sty, len_zx, len_zy]; omega), by first | omega | (simp only [len_st]; omega) | (simp; done) | (simp; omega) | (simp [len_st, len_stx, len_sty, len_zx, len_zy]; omega)⟩, trivial⟩ ?_
   refine setr 3 (z := 1) (E := 35) (L := (([]) ++ ((m64 ys)))) (L' := (m64 ys)) (by kernel_rfl) nil_app ?_
   refine rk [] 1 6 ⟨[(12, .own 3), (10, .i (a % 4294967296)), (9, .i (a / 4294967296 - 1)), (7, .i 0), (6, .p 1), (3, .p 0), (2, .u v)], [(3, .row 1 35 (m64 ys)), (1, .cells [.i 0, .nils, .nils] 25), (0, .cells (mm W xs ys) 25)], 4⟩ [] trivial ?_
   refine en ?_
   refine an ?_
   refine xw_seq ?_
   refine reg ?_
   refine rk [] 5 0 ⟨[(12, .own 3), (9, .i (a / 4294967296 - 1)), (7, .i 0), (6, .p 1), (3, .p 0)], [(3, .row 1 35 (((m64 ys)).set (((a % 4294967296) : Int).toNat) (.u v))), (1, .cells [.i 0, .nils, .nils] 25), (0, .cells (mm W xs ys) 25)], 4⟩ [(0 : Int) ≤ (a % 4294967296) ∧ (a % 4294967296) < ((((m64 ys)).length : Nat) : Int), (((a % 4294967296) : Int).toNat) < ((m64 ys)).length] ⟨⟨by omega, (by first | omega | (simp only [len_st]; omega) | (simp; done) | (simp; omega) | (simp [len_st, len_stx, len_sty, len_zx, len_zy]; omega))⟩, (by first | omega | (simp only [len_st]; omega) | (simp; done) | (simp; omega) | (simp [len_st, len_stx, len_sty, len_zx, len_zy]; omega)), trivial⟩ ?_
   refine setr 3 (z := 1) (E := 35) (L := (((m64 ys)).set (((a % 4294967296) : Int).toNat) (.u v))) (L' := (m64 (st ys ((a % 4294967296)) v))) (by kernel_rfl) set_map ?_
   refine en ?_
   refine an ?_
   refine rg [] 3 ⟨[(13, .p 4), (12, .own 3), (9, .i (a / 4294967296 - 1)), (7, .i 0), (6, .p 1)], [(4, .cells (mm W xs ys) 25), (3, .row 1 35 (m64 (st ys ((a % 4294967296)) v))), (1, .cells [.i 0, .nils, .nils] 25)], 5⟩ [True, True] ⟨trivial, trivial, trivial⟩ ?_
   refine xw_seq ?_
   refine reg ?_
   refine rk [] 3 0 ⟨[(39, .loc 4 1), (38, .own 3), (37, .i (a / 4294967296 - 1)), (13, .p 4), (7, .i 0), (6, .p 1)], [(4, .cells (mm W xs ys) 25), (3, .row 1 35 (m64 (st ys ((a % 4294967296)) v))), (1, .cells [.i 0, .nils, .nils] 25)], 5⟩ [] trivial ?_
   refine seti 37 (k := .i64) (x := (a / 4294967296 - 1)) (y := 1) (by kernel_rfl) (by omega) ?_
   refine rk [] 2 3 ⟨[(13, .p 4), (7, .i 0), (6, .p 1)], [(4, .cells [.i W, .sl false 1 (m64 xs), .own 3] 25), (3, .row 1 35 (m64 (st ys ((a % 4294967296)) v))), (1, .cells [.i 0, .nils, .nils] 25)], 5⟩ [(0 : Int) ≤ 1 ∧ 1 < ((2 : Nat) : Int), True] ⟨(by constructor <;> omega), trivial, trivial⟩ ?_
   refine en ?_
   refine an ?_
   refine rg [] 3 ⟨[(7, .i 0), (6, .p 1)], [(3, .row 1 35 (m64 (st ys ((a % 4294967296)) v))), (1, .cells [.i W, .sl false 1 (m64 xs), .own 3] 25)], 5⟩ [True, True] ⟨trivial, trivial, trivial⟩ ?_
   refine xw_ret ?_
   exact bk_ret (.tup [.agg [.i W, .sl false 1 (m64 xs), .own 3], .i 0]) (.tup [.agg (mm W xs (st ys ((a % 4294967296)) v)), .i 0]) (.tup [.agg (mm W (stx xs a v) (sty ys a v)), .i 0]) (by kernel_rfl) (by kernel_rfl) (wkd [(W : Int) = W, (false = true → false = true), (m64 xs) = (m64 (stx xs a v)), (false = true → false = true), (m64 (st ys ((a % 4294967296)) v)) = (m64 (sty ys a v)), (0 : Int) = 0] (by kernel_rfl) ⟨rfl, id, (by first | rfl | omega | (rw [stx_1 (by omega)]; done) | (rw [stx_2 (by omega)]; done) | (rw [sty_1 (by omega)]; done) | (rw [sty_2 (by omega)]; done)), id, (by first | rfl | omega | (rw [stx_1 (by omega)]; done) | (rw [stx_2 (by omega)]; done) | (rw [sty_1 (by omega)]; done) | (rw [sty_2 (by omega)]; done)), rfl, trivial⟩) (Or.inl <| ⟨(by omega), rfl⟩)
 ·
  refine pc (rthere_2 W xs ys a ‹_› ‹_› ‹_› ‹_› ‹_› ‹_› (by omega)) ?_
  refine rk [] 1 3 ⟨[(8, .f), (7, .i 0), (6, .p 1), (3, .p 0), (1, .u a), (2, .u v)], [(1, .cells [.i 0, .nils, .nils] 25), (0, .cells (mm W xs ys) 25)], 2⟩ [] trivial ?_
  refine en ?_
  refine an ?_
  refine xw_seq ?_
  refine rg [] 2 ⟨[(18, .t), (7, .i 0), (6, .p 1), (3, .p 0), (1, .u a), (2, .u v)], [(1, .cells [.i 0, .nils, .nils] 25), (0, .cells (mm W xs ys) 25)], 2⟩ [] trivial ?_
  refine ct ?_
  refine rg [] 3 ⟨[(7, .i 2), (6, .p 1), (3, .p 0), (1, .u a), (2, .u v)], [(1, .cells (mm W xs ys) 25), (0, .cells (mm W xs ys) 25)], 2⟩ [True, True] ⟨trivial, trivial, trivial⟩ ?_
  refine xw_ret ?_
  refine an_ret ?_
  exact bs (.tup [.agg (mm W xs ys), .i 2]) (Or.inr <| ⟨(by omega), rfl⟩)

theorem rstore_1 (W : Int) (xs ys : List Int) (a v : Int) (hp0 : 16 ≤ W ∧ W ≤ 4096) (hp1 : (xs.length : Int) = W) (hp2 : (ys.length : Int) = W) (hp3 : U64s xs) (hp4 : U64s ys) (hp5 : 0 ≤ a ∧ a ≤ 18446744073709551615) (hp6 : 0 ≤ v ∧ v ≤ 18446744073709551615) (hp7 : 1 ≤ a / 4294967296 ∧ a / 4294967296 ≤ 2 ∧ a % 4294967296 < W) : Pub Try.prog 32 [.agg (mm W xs ys), .u a, .u v] (fun rv => rv = .tup [.agg (mm W (stx xs a v) (sty ys a v)), .i 0]) := by
  refine (rstore W xs ys a v hp0 hp1 hp2 hp3 hp4 hp5 hp6).mono ?_
  rintro _ (⟨g0, rfl⟩ | ⟨g0, rfl⟩)
  all_goals first | rfl | (exfalso; first | omega | grind)

theorem rmright (W : Int) (xs ys : List Int) (hp0 : -9223372036854775808 ≤ W ∧ W ≤ 9223372036854775807) : Pub Try.prog 19 [.agg (mm W xs ys)] (fun rv => ((16 ≤ W ∧ W ≤ 4096 ∧ (xs.length : Int) = W ∧ (ys.length : Int) = W) ∧ rv = .t) ∨ ((¬ (16 ≤ W ∧ W ≤ 4096 ∧ (xs.length : Int) = W ∧ (ys.length : Int) = W)) ∧ rv = .f)) := by
 refine pub_of TT_ok Try.func19 rfl (by decide) (Nat.le_of_ble_eq_true (by kernel_rfl)) (by kernel_rfl) ?_
 refine rg [] 2 ⟨[(2, .f), (1, .p 0)], [(0, .cells (mm W xs ys) 25)], 1⟩ [] trivial ?_
 refine xw_seq ?_
 refine reg ?_
 refine rk [(2, .bool (decide (16 ≤ W)))] 4 0 ⟨[(6, .bool (decide (16 ≤ W))), (2, .f), (1, .p 0)], [(0, .cells (mm W xs ys) 25)], 1⟩ [True, (decide (16 ≤ W)) = (decide (16 ≤ W))] ⟨trivial, rfl, trivial⟩ ?_
 refine splitr 6 (x := (decide (16 ≤ W))) (by kernel_rfl) (fun h0 => ?_) (fun h0 => ?_)
 ·
  replace h0 : 16 ≤ W := of_decide_eq_true h0
  refine rk [(6, .bool (decide (W ≤ 4096)))] 5 4 ⟨[(11, .bool (decide (W ≤ 4096))), (2, .f), (1, .p 0)], [(0, .cells (mm W xs ys) 25)], 1⟩ [True, (decide (W ≤ 4096)) = (decide (W ≤ 4096)), True] ⟨trivial, rfl, trivial, trivial⟩ ?_
  refine splitr 11 (x := (decide (W ≤ 4096))) (by kernel_rfl) (fun h1 => ?_) (fun h1 => ?_)
  ·
   replace h1 : W ≤ 4096 := of_decide_eq_true h1
   refine rk [(12, .i ((xs).length : Int)), (15, .bool (((xs).length : Int) == W))] 9 9 ⟨[(20, .bool (((xs).length : Int) == W)), (2, .f), (1, .p 0)], [(0, .cells (mm W xs ys) 25)], 1⟩ [(0 : Int) ≤ 0 ∧ 0 < ((2 : Nat) : Int), True, ((((m64 xs)).length : Nat) : Int) = ((xs).length : Int), True, (((xs).length : Int) == W) = (((xs).length : Int) == W), True] ⟨(by constructor <;> omega), trivial, (by simp), trivial, rfl, trivial, trivial⟩ ?_
   refine splitr 20 (x := (((xs).length : Int) == W)) (by kernel_rfl) (fun h2 => ?_) (fun h2 => ?_)
   ·
    replace h2 : (xs.length : Int) = W := eq_of_beq h2
    refine rk [(21, .i ((ys).length : Int)), (24, .bool (((ys).length : Int) == W))] 9 18 ⟨[(2, .bool (((ys).length : Int) == W))], [], 1⟩ [(0 : Int) ≤ 1 ∧ 1 < ((2 : Nat) : Int), True, ((((m64 ys)).length : Nat) : Int) = ((ys).length : Int), True, (((ys).length : Int) == W) = (((ys).length : Int) == W), True] ⟨(by constructor <;> omega), trivial, (by simp), trivial, rfl, trivial, trivial⟩ ?_
    refine en ?_
    refine an ?_
    refine xw_ret ?_
    by_cases h3 : (ys.length : Int) = W
    ·
     exact br (.bool (((ys).length : Int) == W)) (.t) (wkd [(((ys).length : Int) == W) = true] (by kernel_rfl) ⟨(by first | exact decide_eq_true (by omega) | exact decide_eq_false (by omega) | (simp; done) | (simp; omega) | (simp_all; done) | (simp_all; omega) | grind), trivial⟩) (Or.inl <| ⟨(by omega), rfl⟩)
    ·
     exact br (.bool (((ys).length : Int) == W)) (.f) (wkd [(((ys).length : Int) == W) = false] (by kernel_rfl) ⟨(by first | exact decide_eq_true (by omega) | exact decide_eq_false (by omega) | (simp; done) | (simp; omega) | (simp_all; done) | (simp_all; omega) | grind), trivial⟩) (Or.inr <| ⟨(by omega), rfl⟩)
   ·
    replace h2 : (xs.length : Int) ≠ W := ne_of_beq_false h2
    refine rk [] 9 18 ⟨[(2, .f)], [], 1⟩ [True] ⟨trivial, trivial⟩ ?_
    refine en ?_
    refine an ?_
    refine xw_ret ?_
    exact bs (.f) (Or.inr <| ⟨(by omega), rfl⟩)
  ·
   replace h1 : ¬ (W ≤ 4096) := of_decide_eq_false h1
   refine rk [] 18 9 ⟨[(2, .f)], [], 1⟩ [True, True] ⟨trivial, trivial, trivial⟩ ?_
   refine en ?_
   refine an ?_
   refine xw_ret ?_
   exact bs (.f) (Or.inr <| ⟨(by omega), rfl⟩)
 ·
  replace h0 : ¬ (16 ≤ W) := of_decide_eq_false h0
  refine rk [] 23 4 ⟨[(2, .f)], [], 1⟩ [True, True, True] ⟨trivial, trivial, trivial, trivial⟩ ?_
  refine en ?_
  refine an ?_
  refine xw_ret ?_
  exact bs (.f) (Or.inr <| ⟨(by omega), rfl⟩)

theorem rmright_1 (W : Int) (xs ys : List Int) (hp0 : -9223372036854775808 ≤ W ∧ W ≤ 9223372036854775807) (hp1 : 16 ≤ W ∧ W ≤ 4096 ∧ (xs.length : Int) = W ∧ (ys.length : Int) = W) : Pub Try.prog 19 [.agg (mm W xs ys)] (fun rv => rv = .t) := by
  refine (rmright W xs ys hp0).mono ?_
  rintro _ (⟨g0, rfl⟩ | ⟨g0, rfl⟩)
  all_goals first | rfl | (exfalso; first | omega | grind)

theorem rmright_2 (W : Int) (xs ys : List Int) (hp0 : -9223372036854775808 ≤ W ∧ W ≤ 9223372036854775807) (hp1 : ¬ (16 ≤ W ∧ W ≤ 4096 ∧ (xs.length : Int) = W ∧ (ys.length : Int) = W)) : Pub Try.prog 19 [.agg (mm W xs ys)] (fun rv => rv = .f) := by
  refine (rmright W xs ys hp0).mono ?_
  rintro _ (⟨g0, rfl⟩ | ⟨g0, rfl⟩)
  all_goals first | rfl | (exfalso; first | omega | grind)

theorem rwords (xs us : List Int) (hp0 : U64s xs) (hp1 : U64s us) (hp2 : (xs.length : Int) ≤ 1000000) (hp3 : (us.length : Int) ≤ 1000000) : Pub Try.prog 15 [.sl false 1 (m64 xs), .sl false 1 (m64 us)] (fun rv => ((xs = us) ∧ rv = .t) ∨ ((¬ (xs = us)) ∧ rv = .f)) := by
 refine pub_of TT_ok Try.func15 rfl (by decide) (Nat.le_of_ble_eq_true (by kernel_rfl)) (by kernel_rfl) ?_
 refine rg [] 1 ⟨[(4, .f), (0, .sl false 1 (m64 xs)), (1, .sl false 1 (m64 us))], [], 0⟩ [] trivial ?_
 refine xw_seq ?_
 refine rg [(1, .i ((xs).length : Int)), (3, .i ((us).length : Int)), (4, .bool (((xs).length : Int) != ((us).length : Int)))] 5 ⟨[(10, .bool (((xs).length : Int) != ((us).length : Int))), (4, .f), (0, .sl false 1 (m64 xs)), (1, .sl false 1 (m64 us))], [], 0⟩ [((((m64 xs)).length : Nat) : Int) = ((xs).length : Int), ((((m64 us)).length : Nat) : Int) = ((us).length : Int), (((xs).length : Int) != ((us).length : Int)) = (((xs).length : Int) != ((us).length : Int))] ⟨(by simp), (by simp), rfl, trivial⟩ ?_
 refine xw_cond (b := (((xs).length : Int) != ((us).length : Int))) (by kernel_rfl) (fun h0 => ?_) (fun h0 => ?_)
 ·
  replace h0 : (xs.length : Int) ≠ (us.length : Int) := bne_iff_ne.1 h0
  refine rg [] 1 ⟨[(4, .f), (0, .sl false 1 (m64 xs)), (1, .sl false 1 (m64 us))], [], 0⟩ [] trivial ?_
  refine xw_ret ?_
  refine an_ret ?_
  exact bs (.f) (Or.inr <| ⟨(by first | assumption | omega | exact take_all (by assumption) (by omega) (by omega) | (intro he; subst he; first | contradiction | omega)), rfl⟩)
 ·
  replace h0 : (xs.length : Int) = (us.length : Int) := bne_eq_false_iff_eq.1 h0
  refine xw_skip ?_
  refine an ?_
  refine xw_seq ?_
  refine rg [] 1 ⟨[(5, .i 0), (4, .f), (0, .sl false 1 (m64 xs)), (1, .sl false 1 (m64 us))], [], 0⟩ [] trivial ?_
  refine xw_block ?_
  refine xw_loop (α := {q : Int // (0 ≤ q) ∧ (q ≤ (xs.length : Int)) ∧ ((xs.length : Int) = (us.length : Int)) ∧ (xs.take q.toNat = us.take q.toNat)}) (fun p => ⟨[(5, .i p.1), (4, .f), (0, .sl false 1 (m64 xs)), (1, .sl false 1 (m64 us))], [], 0⟩) (fun p => ((xs.length : Int) - p.1).toNat) ⟨0, ⟨(by omega), (by omega), (by omega), (by first | omega | rfl | assumption | exact take_step (by assumption) (by omega) (by omega) (by omega) (by omega))⟩⟩ (le_of [] [(0 : Int) = 0, false = false, (false = true → false = true), ((m64 xs) : List SV) = (m64 xs), (false = true → false = true), ((m64 us) : List SV) = (m64 us)] (by kernel_rfl) ⟨rfl, rfl, id, rfl, id, rfl, trivial⟩) ?_
  rintro ⟨i, h1, h2, h3, h4⟩
  show XW _ _ _ _ _ _ ⟨[(5, .int .i64 i), (4, .bool false), (0, .sl false 1 (m64 xs)), (1, .sl false 1 (m64 us))], [], 0⟩
  refine xw_seq ?_
  refine rg [(2, .i ((xs).length : Int)), (3, .bool (decide (i < ((xs).length : Int))))] 4 ⟨[(14, .bool (decide (i < ((xs).length : Int)))), (5, .i i), (4, .f), (0, .sl false 1 (m64 xs)), (1, .sl false 1 (m64 us))], [], 0⟩ [((((m64 xs)).length : Nat) : Int) = ((xs).length : Int), (decide (i < ((xs).length : Int))) = (decide (i < ((xs).length : Int)))] ⟨(by simp), rfl, trivial⟩ ?_
  refine xw_cond (b := (decide (i < ((xs).length : Int)))) (by kernel_rfl) (fun h5 => ?_) (fun h5 => ?_)
  ·
   replace h5 : i < (xs.length : Int) := of_decide_eq_true h5
   refine xw_skip ?_
   refine an ?_
   refine xw_seq ?_
   refine xw_block ?_
   refine xw_seq ?_
   refine dregk hmix (by kernel_rfl) ?_
   refine qr [(2, .u (ix xs i))] 3 0 [(19, .elt (.u (ix xs i))), (18, .i i), (17, .sl false 1 (m64 xs)), (14, .bool (decide (i < ((xs).length : Int)))), (5, .i i), (4, .f), (0, .sl false 1 (m64 xs)), (1, .sl false 1 (m64 us))] [(0 : Int) ≤ i ∧ i < ((((m64 xs)).length : Nat) : Int) ∧ ((m64 xs))[(i : Int).toNat]? = some (.u (ix xs i))] ⟨(ix_ok (by omega) (by first | omega | (simp only [len_st]; omega) | (simp; done) | (simp; omega) | (simp [len_st, len_stx, len_sty, len_zx, len_zy]; omega))), trivial⟩ ?_
   have h6 : 0 ≤ (ix xs i) ∧ (ix xs i) ≤ 18446744073709551615 := U64s.ix (by first | assumption | exact U64s.st (by assumption) _ (by omega)) _
   refine qr [(6, .u (ix us i))] 4 3 [(23, .elt (.u (ix us i))), (22, .i i), (21, .sl false 1 (m64 us)), (20, .u (ix xs i)), (19, .elt (.u (ix xs i))), (18, .i i), (17, .sl false 1 (m64 xs)), (14, .bool (decide (i < ((xs).length : Int)))), (5, .i i), (4, .f), (0, .sl false 1 (m64 xs)), (1, .sl false 1 (m64 us))] [True, (0 : Int) ≤ i ∧ i < ((((m64 us)).length : Nat) : Int) ∧ ((m64 us))[(i : Int).toNat]? = some (.u (ix us i))] ⟨trivial, (ix_ok (by omega) (by first | omega | (simp only [len_st]; omega) | (simp; done) | (simp; omega) | (simp [len_st, len_stx, len_sty, len_zx, len_zy]; omega))), trivial⟩ ?_
   have h7 : 0 ≤ (ix us i) ∧ (ix us i) ≤ 18446744073709551615 := U64s.ix (by first | assumption | exact U64s.st (by assumption) _ (by omega)) _
   refine qr [(8, .bool ((ix xs i) != (ix us i)))] 2 7 [(25, .bool ((ix xs i) != (ix us i))), (24, .u (ix us i)), (23, .elt (.u (ix us i))), (22, .i i), (21, .sl false 1 (m64 us)), (20, .u (ix xs i)), (19, .elt (.u (ix xs i))), (18, .i i), (17, .sl false 1 (m64 xs)), (14, .bool (decide (i < ((xs).length : Int)))), (5, .i i), (4, .f), (0, .sl false 1 (m64 xs)), (1, .sl false 1 (m64 us))] [True, ((ix xs i) != (ix us i)) = ((ix xs i) != (ix us i))] ⟨trivial, rfl, trivial⟩ ?_
   refine qen ?_
   refine an ?_
   refine xw_cond (b := ((ix xs i) != (ix us i))) (by kernel_rfl) (fun h8 => ?_) (fun h8 => ?_)
   ·
    replace h8 : (ix xs i) ≠ (ix us i) := bne_iff_ne.1 h8
    refine rg [] 1 ⟨[(4, .f), (5, .i i), (0, .sl false 1 (m64 xs)), (1, .sl false 1 (m64 us))], [], 0⟩ [] trivial ?_
    refine xw_ret ?_
    refine ib_ret ?_
    refine an_ret ?_
    refine ag_ret ?_
    refine ib_ret ?_
    refine an_ret ?_
    exact bs (.f) (Or.inr <| ⟨(by first | assumption | omega | exact take_all (by assumption) (by omega) (by omega) | (intro he; subst he; first | contradiction | omega)), rfl⟩)
   ·
    replace h8 : (ix xs i) = (ix us i) := bne_eq_false_iff_eq.1 h8
    refine xw_skip ?_
    refine ib ?_
    refine an ?_
    refine re [(1, .i (i + 1))] 3 ⟨[(5, .i (i + 1)), (4, .f), (0, .sl false 1 (m64 xs)), (1, .sl false 1 (m64 us))], [], 0⟩ [IntKind.i64.wrap (i + 1) = (i + 1)] ⟨i64_eq (by omega) (by omega), trivial⟩ ?_
    exact ag ⟨(i + 1), ⟨(by omega), (by omega), (by omega), (by first | omega | rfl | assumption | exact take_step (by assumption) (by omega) (by omega) (by omega) (by omega))⟩⟩ (le_of [] [((i + 1) : Int) = (i + 1), false = false, (false = true → false = true), ((m64 xs) : List SV) = (m64 xs), (false = true → false = true), ((m64 us) : List SV) = (m64 us)] (by kernel_rfl) ⟨rfl, rfl, id, rfl, id, rfl, trivial⟩) (by show ((xs.length : Int) - (i + 1)).toNat < ((xs.length : Int) - i).toNat; omega)
  ·
   replace h5 : ¬ (i < (xs.length : Int)) := of_decide_eq_false h5
   refine xw_exit ?_
   refine an_exit ?_
   refine ag_exit ?_
   refine ib_same ?_
   refine an ?_
   refine rg [] 1 ⟨[(4, .t)], [], 0⟩ [] trivial ?_
   refine xw_ret ?_
   exact bs (.t) (Or.inl <| ⟨(by first | assumption | omega | exact take_all (by assumption) (by omega) (by omega) | (intro he; subst he; first | contradiction | omega)), rfl⟩)

theorem rwords_1 (xs us : List Int) (hp0 : U64s xs) (hp1 : U64s us) (hp2 : (xs.length : Int) ≤ 1000000) (hp3 : (us.length : Int) ≤ 1000000) (hp4 : xs = us) : Pub Try.prog 15 [.sl false 1 (m64 xs), .sl false 1 (m64 us)] (fun rv => rv = .t) := by
  refine (rwords xs us hp0 hp1 hp2 hp3).mono ?_
  rintro _ (⟨g0, rfl⟩ | ⟨g0, rfl⟩)
  all_goals first | rfl | (exfalso; first | omega | grind)

theorem rwords_2 (xs us : List Int) (hp0 : U64s xs) (hp1 : U64s us) (hp2 : (xs.length : Int) ≤ 1000000) (hp3 : (us.length : Int) ≤ 1000000) (hp4 : ¬ (xs = us)) : Pub Try.prog 15 [.sl false 1 (m64 xs), .sl false 1 (m64 us)] (fun rv => rv = .f) := by
  refine (rwords xs us hp0 hp1 hp2 hp3).mono ?_
  rintro _ (⟨g0, rfl⟩ | ⟨g0, rfl⟩)
  all_goals first | rfl | (exfalso; first | omega | grind)

end Go.Proofs.Ytlapjlbmhaalbaa.X
