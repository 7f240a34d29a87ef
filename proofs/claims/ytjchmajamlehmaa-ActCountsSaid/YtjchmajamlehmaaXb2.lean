/- Contracts of Go functions: what each returns, for every input that its premises name; no memory of the caller is touched. Printed by a program. -/
import Derived.Test.YtjchmajamlehmaaXb1
namespace Go.Proofs.Ytjchmajamlehmaa.X
open Go Go.RowKit
set_option linter.unusedVariables false      -- a premise may serve only to tell which way is taken
theorem wthere (W : Int) (xs ys : List Int) (a n : Int) (hp0 : 16 ≤ W ∧ W ≤ 4096) (hp1 : (xs.length : Int) = W) (hp2 : (ys.length : Int) = W) (hp3 : U64s xs) (hp4 : U64s ys) (hp5 : 0 ≤ a ∧ a ≤ 18446744073709551615) (hp6 : -9223372036854775808 ≤ n ∧ n ≤ 9223372036854775807) : Pub Try.prog 83 [.agg (mm W xs ys), .u a, .i n] (fun rv => ((1 ≤ a / 4294967296 ∧ a / 4294967296 ≤ 2 ∧ a % 4294967296 < W ∧ 0 ≤ n ∧ a % 4294967296 + n ≤ W) ∧ rv = .tup [.i (a / 4294967296 - 1), .i (a % 4294967296), .t]) ∨ ((¬ (1 ≤ a / 4294967296 ∧ a / 4294967296 ≤ 2 ∧ a % 4294967296 < W ∧ 0 ≤ n ∧ a % 4294967296 + n ≤ W)) ∧ rv = .tup [.i 0, .i 0, .f])) := by
 refine pub_of TT_ok Try.func83 rfl (by decide) (Nat.le_of_ble_eq_true (by kernel_rfl)) (by kernel_rfl) ?_
 refine rgi [] 4 [8, 7, 6, 3, 1, 2] [0] [] trivial ?_
 refine xw_seq ?_
 refine reg ?_
 refine rki [] 1 0 [13, 8, 7, 6, 3, 2] [0] [] trivial ?_
 by_cases h0 : 1 ≤ a / 4294967296 ∧ a / 4294967296 ≤ 2
 ·
  refine pc (pwhere_1 a ‹_› (by omega)) ?_
  refine rki [] 7 2 [11, 10, 9, 8, 7, 6, 3, 2] [0] [] trivial ?_
  refine en ?_
  refine an ?_
  refine xw_seq ?_
  refine xw_seq ?_
  refine reg ?_
  refine rk [(7, .bool (decide (W ≤ (a % 4294967296))))] 10 0 ⟨[(27, .bool (decide (W ≤ (a % 4294967296)))), (10, .i (a % 4294967296)), (9, .i (a / 4294967296 - 1)), (8, .f), (7, .i 0), (6, .i 0), (3, .p 0), (2, .i n)], [(0, .cells (mm W xs ys) 135)], 1⟩ [True, sm (decide (W ≤ (a % 4294967296))), True] ⟨trivial, rfl, trivial, trivial⟩ ?_
  refine splitr 27 (x := (decide (W ≤ (a % 4294967296)))) (by kernel_rfl) (fun h1 => ?_) (fun h1 => ?_)
  ·
   replace h1 : W ≤ (a % 4294967296) := of_decide_eq_true h1
   refine rki [] 8 10 [35, 10, 9, 8, 7, 6] [] [True] ⟨trivial, trivial⟩ ?_
   refine en ?_
   refine an ?_
   refine ct ?_
   refine rgi [] 3 [8, 7, 6, 10, 9] [] [] trivial ?_
   refine xw_ret ?_
   refine an_ret ?_
   exact bs (.tup [.i 0, .i 0, .f]) (Or.inr <| ⟨(by omega), rfl⟩)
  ·
   replace h1 : ¬ (W ≤ (a % 4294967296)) := of_decide_eq_false h1
   refine rki [] 5 10 [32, 29, 28, 27, 10, 9, 8, 7, 6] [] [True] ⟨trivial, trivial⟩ ?_
   by_cases h2 : 0 ≤ (a % 4294967296) ∧ 0 ≤ n ∧ (a % 4294967296) + n ≤ W
   ·
    refine pc (fits_1 (a % 4294967296) n W (by omega) ‹_› (by omega) ‹_›) ?_
    refine rki [] 2 16 [35, 10, 9, 8, 7, 6] [] [True] ⟨trivial, trivial⟩ ?_
    refine en ?_
    refine an ?_
    refine cf ?_
    refine xw_skip ?_
    refine an ?_
    refine rgi [] 5 [8, 7, 6] [] [] trivial ?_
    refine xw_ret ?_
    exact bs (.tup [.i (a / 4294967296 - 1), .i (a % 4294967296), .t]) (Or.inl <| ⟨(by omega), rfl⟩)
   ·
    refine pc (fits_2 (a % 4294967296) n W (by omega) ‹_› (by omega) ‹_›) ?_
    refine rki [] 2 16 [35, 10, 9, 8, 7, 6] [] [True] ⟨trivial, trivial⟩ ?_
    refine en ?_
    refine an ?_
    refine ct ?_
    refine rgi [] 3 [8, 7, 6, 10, 9] [] [] trivial ?_
    refine xw_ret ?_
    refine an_ret ?_
    exact bs (.tup [.i 0, .i 0, .f]) (Or.inr <| ⟨(by omega), rfl⟩)
 ·
  refine pc (pwhere_2 a ‹_› (by omega)) ?_
  refine rki [] 7 2 [11, 10, 9, 8, 7, 6, 3, 2] [0] [] trivial ?_
  refine en ?_
  refine an ?_
  refine xw_seq ?_
  refine rg [] 18 ⟨[(35, .t), (10, .i 0), (9, .i 0), (8, .f), (7, .i 0), (6, .i 0)], [], 1⟩ [True, True] ⟨trivial, trivial, trivial⟩ ?_
  refine ct ?_
  refine rgi [] 3 [8, 7, 6, 10, 9] [] [] trivial ?_
  refine xw_ret ?_
  refine an_ret ?_
  exact bs (.tup [.i 0, .i 0, .f]) (Or.inr <| ⟨(by omega), rfl⟩)

theorem wthere_1 (W : Int) (xs ys : List Int) (a n : Int) (hp0 : 16 ≤ W ∧ W ≤ 4096) (hp1 : (xs.length : Int) = W) (hp2 : (ys.length : Int) = W) (hp3 : U64s xs) (hp4 : U64s ys) (hp5 : 0 ≤ a ∧ a ≤ 18446744073709551615) (hp6 : -9223372036854775808 ≤ n ∧ n ≤ 9223372036854775807) (hp7 : 1 ≤ a / 4294967296 ∧ a / 4294967296 ≤ 2 ∧ a % 4294967296 < W ∧ 0 ≤ n ∧ a % 4294967296 + n ≤ W) : Pub Try.prog 83 [.agg (mm W xs ys), .u a, .i n] (fun rv => rv = .tup [.i (a / 4294967296 - 1), .i (a % 4294967296), .t]) := by
  refine (wthere W xs ys a n hp0 hp1 hp2 hp3 hp4 hp5 hp6).mono ?_
  rintro _ (⟨g0, rfl⟩ | ⟨g0, rfl⟩)
  all_goals first | rfl | (exfalso; first | omega | grind)

theorem wthere_2 (W : Int) (xs ys : List Int) (a n : Int) (hp0 : 16 ≤ W ∧ W ≤ 4096) (hp1 : (xs.length : Int) = W) (hp2 : (ys.length : Int) = W) (hp3 : U64s xs) (hp4 : U64s ys) (hp5 : 0 ≤ a ∧ a ≤ 18446744073709551615) (hp6 : -9223372036854775808 ≤ n ∧ n ≤ 9223372036854775807) (hp7 : ¬ (1 ≤ a / 4294967296 ∧ a / 4294967296 ≤ 2 ∧ a % 4294967296 < W ∧ 0 ≤ n ∧ a % 4294967296 + n ≤ W)) : Pub Try.prog 83 [.agg (mm W xs ys), .u a, .i n] (fun rv => rv = .tup [.i 0, .i 0, .f]) := by
  refine (wthere W xs ys a n hp0 hp1 hp2 hp3 hp4 hp5 hp6).mono ?_
  rintro _ (⟨g0, rfl⟩ | ⟨g0, rfl⟩)
  all_goals first | rfl | (exfalso; first | omega | grind)

theorem load (W : Int) (xs ys : List Int) (a : Int) (hp0 : 16 ≤ W ∧ W ≤ 4096) (hp1 : (xs.length : Int) = W) (hp2 : (ys.length : Int) = W) (hp3 : U64s xs) (hp4 : U64s ys) (hp5 : 0 ≤ a ∧ a ≤ 18446744073709551615) : Pub Try.prog 68 [.agg (mm W xs ys), .u a] (fun rv => ((1 ≤ a / 4294967296 ∧ a / 4294967296 ≤ 2 ∧ a % 4294967296 < W) ∧ rv = .tup [.u (ldw xs ys a), .i 0]) ∨ ((¬ (1 ≤ a / 4294967296 ∧ a / 4294967296 ≤ 2 ∧ a % 4294967296 < W)) ∧ rv = .tup [.u 0, .i 2])) := by
 refine pub_of TT_ok Try.func68 rfl (by decide) (Nat.le_of_ble_eq_true (by kernel_rfl)) (by kernel_rfl) ?_
 refine rgi [] 3 [5, 4, 2, 1] [0] [] trivial ?_
 refine rgi [] 4 [6, 5, 4, 2, 1] [0] [True] ⟨trivial, trivial⟩ ?_
 refine xw_seq ?_
 refine reg ?_
 refine rki [] 2 0 [15, 14, 5, 4, 2] [0] [] trivial ?_
 by_cases h0 : (1 ≤ a / 4294967296) ∧ ((a / 4294967296 ≤ 2) ∧ ((a % 4294967296 < W) ∧ (((0 : Int) ≤ 1) ∧ (a % 4294967296 + 1 ≤ W))))
 ·
  refine pc (wthere_1 W xs ys a 1 ‹_› ‹_› ‹_› ‹_› ‹_› ‹_› (by omega) (by omega)) ?_
  refine rk [] 7 3 ⟨[(9, .t), (8, .i (a % 4294967296)), (7, .i (a / 4294967296 - 1)), (5, .i 0), (4, .u 0), (2, .p 0)], [(0, .cells (mm W xs ys) 25)], 1⟩ [] trivial ?_
  refine en ?_
  refine an ?_
  refine xw_seq ?_
  refine rgi [] 2 [21, 8, 7, 5, 4, 2] [0] [] trivial ?_
  refine cf ?_
  refine xw_skip ?_
  refine an ?_
  refine xw_seq ?_
  refine reg ?_
  refine rki [] 2 0 [23, 22, 8, 5, 4] [0] [] trivial ?_
  by_cases h1 : (a / 4294967296 - 1) = 0
  ·
   refine seti 22 (k := .i64) (x := (a / 4294967296 - 1)) (y := 0) (by kernel_rfl) (by omega) ?_
   refine rki [(5, .u (ix xs (a % 4294967296)))] 4 2 [27, 5, 4] [] [(0 : Int) ≤ 0 ∧ 0 < ((2 : Nat) : Int), True, (0 : Int) ≤ (a % 4294967296) ∧ (a % 4294967296) < ((((m64 xs)).length : Nat) : Int) ∧ ((m64 xs))[((a % 4294967296) : Int).toNat]? = some (.u (ix xs (a % 4294967296)))] ⟨(by constructor <;> omega), trivial, (ix_ok (by omega) (by first | omega | (simp only [len_st]; omega) | (simp; done) | (simp; omega) | (simp [len_st, len_stx, len_sty, len_zx, len_zy]; omega))), trivial⟩ ?_
   have h2 : 0 ≤ (ix xs (a % 4294967296)) ∧ (ix xs (a % 4294967296)) ≤ 18446744073709551615 := U64s.ix (by first | assumption | exact U64s.st (by assumption) _ (by omega)) _
   refine rk [] 3 6 ⟨[(5, .i 0), (4, .u (ix xs (a % 4294967296)))], [], 1⟩ [True] ⟨trivial, trivial⟩ ?_
   refine en ?_
   refine an ?_
   refine xw_ret ?_
   exact br (.tup [.u (ix xs (a % 4294967296)), .i 0]) (.tup [.u (ldw xs ys a), .i 0]) (wkd [((ix xs (a % 4294967296)) : Int) = (ldw xs ys a), (0 : Int) = 0] (by kernel_rfl) ⟨(by first | rfl | omega | (rw [ldw_1 (by omega)]; done) | (rw [ldw_2 (by omega)]; done)), rfl, trivial⟩) (Or.inl <| ⟨(by omega), rfl⟩)
  ·
   refine seti 22 (k := .i64) (x := (a / 4294967296 - 1)) (y := 1) (by kernel_rfl) (by omega) ?_
   refine rki [(5, .u (ix ys (a % 4294967296)))] 4 2 [27, 5, 4] [] [(0 : Int) ≤ 1 ∧ 1 < ((2 : Nat) : Int), True, (0 : Int) ≤ (a % 4294967296) ∧ (a % 4294967296) < ((((m64 ys)).length : Nat) : Int) ∧ ((m64 ys))[((a % 4294967296) : Int).toNat]? = some (.u (ix ys (a % 4294967296)))] ⟨(by constructor <;> omega), trivial, (ix_ok (by omega) (by first | omega | (simp only [len_st]; omega) | (simp; done) | (simp; omega) | (simp [len_st, len_stx, len_sty, len_zx, len_zy]; omega))), trivial⟩ ?_
   have h2 : 0 ≤ (ix ys (a % 4294967296)) ∧ (ix ys (a % 4294967296)) ≤ 18446744073709551615 := U64s.ix (by first | assumption | exact U64s.st (by assumption) _ (by omega)) _
   refine rk [] 3 6 ⟨[(5, .i 0), (4, .u (ix ys (a % 4294967296)))], [], 1⟩ [True] ⟨trivial, trivial⟩ ?_
   refine en ?_
   refine an ?_
   refine xw_ret ?_
   exact br (.tup [.u (ix ys (a % 4294967296)), .i 0]) (.tup [.u (ldw xs ys a), .i 0]) (wkd [((ix ys (a % 4294967296)) : Int) = (ldw xs ys a), (0 : Int) = 0] (by kernel_rfl) ⟨(by first | rfl | omega | (rw [ldw_1 (by omega)]; done) | (rw [ldw_2 (by omega)]; done)), rfl, trivial⟩) (Or.inl <| ⟨(by omega), rfl⟩)
 ·
  refine pc (wthere_2 W xs ys a 1 ‹_› ‹_› ‹_› ‹_› ‹_› ‹_› (by omega) (by omega)) ?_
  refine rk [] 7 3 ⟨[(9, .f), (8, .i 0), (7, .i 0), (5, .i 0), (4, .u 0), (2, .p 0)], [(0, .cells (mm W xs ys) 25)], 1⟩ [] trivial ?_
  refine en ?_
  refine an ?_
  refine xw_seq ?_
  refine rgi [] 2 [21, 8, 7, 5, 4, 2] [0] [] trivial ?_
  refine ct ?_
  refine rgi [] 2 [5, 4, 8, 7, 2] [0] [] trivial ?_
  refine xw_ret ?_
  refine an_ret ?_
  exact bs (.tup [.u 0, .i 2]) (Or.inr <| ⟨(by omega), rfl⟩)

theorem load_1 (W : Int) (xs ys : List Int) (a : Int) (hp0 : 16 ≤ W ∧ W ≤ 4096) (hp1 : (xs.length : Int) = W) (hp2 : (ys.length : Int) = W) (hp3 : U64s xs) (hp4 : U64s ys) (hp5 : 0 ≤ a ∧ a ≤ 18446744073709551615) (hp6 : 1 ≤ a / 4294967296 ∧ a / 4294967296 ≤ 2 ∧ a % 4294967296 < W) : Pub Try.prog 68 [.agg (mm W xs ys), .u a] (fun rv => rv = .tup [.u (ldw xs ys a), .i 0]) := by
  refine (load W xs ys a hp0 hp1 hp2 hp3 hp4 hp5).mono ?_
  rintro _ (⟨g0, rfl⟩ | ⟨g0, rfl⟩)
  all_goals first | rfl | (exfalso; first | omega | grind)

theorem load_2 (W : Int) (xs ys : List Int) (a : Int) (hp0 : 16 ≤ W ∧ W ≤ 4096) (hp1 : (xs.length : Int) = W) (hp2 : (ys.length : Int) = W) (hp3 : U64s xs) (hp4 : U64s ys) (hp5 : 0 ≤ a ∧ a ≤ 18446744073709551615) (hp6 : ¬ (1 ≤ a / 4294967296 ∧ a / 4294967296 ≤ 2 ∧ a % 4294967296 < W)) : Pub Try.prog 68 [.agg (mm W xs ys), .u a] (fun rv => rv = .tup [.u 0, .i 2]) := by
  refine (load W xs ys a hp0 hp1 hp2 hp3 hp4 hp5).mono ?_
  rintro _ (⟨g0, rfl⟩ | ⟨g0, rfl⟩)
  all_goals first | rfl | (exfalso; first | omega | grind)

theorem wwith (W : Int) (xs ys : List Int) (s p v : Int) (hp0 : 16 ≤ W ∧ W ≤ 4096) (hp1 : (xs.length : Int) = W) (hp2 : (ys.length : Int) = W) (hp3 : U64s xs) (hp4 : U64s ys) (hp5 : 0 ≤ s ∧ s ≤ 1) (hp6 : 0 ≤ p ∧ p < W) (hp7 : 0 ≤ v ∧ v ≤ 18446744073709551615) : Pub Try.prog 91 [.agg (mm W xs ys), .i s, .i p, .sl false 1 [.u v]] (fun rv => ((s = 0) ∧ rv = .agg (mm W (st xs p v) ys)) ∨ ((s = 1) ∧ rv = .agg (mm W xs (st ys p v)))) := by
 refine pub_of TT_ok Try.func91 rfl (by decide) (Nat.le_of_ble_eq_true (by kernel_rfl)) (by kernel_rfl) ?_
 refine rgi [] 2 [8, 4, 1, 2, 3] [1, 0] [] trivial ?_
 refine rgi [] 4 [9, 8, 1, 2, 3] [2, 1] [True, True] ⟨trivial, trivial, trivial⟩ ?_
 refine xw_seq ?_
 refine reg ?_
 refine rki [] 3 0 [14, 13, 12, 9, 8, 1, 2, 3] [2, 1] [] trivial ?_
 by_cases h0 : s = 0
 ·
  refine seti 13 (k := .i64) (x := s) (y := 0) (by kernel_rfl) (by omega) ?_
  refine rk [] 2 3 ⟨[(16, .sl false 1 (m64 xs)), (12, .i s), (9, .p 2), (8, .p 1), (1, .i s), (2, .i p), (3, .sl false 1 [.u v])], [(2, .cells (mm W xs ys) 25), (1, .cells [.i 0, .nils, .nils] 25)], 3⟩ [(0 : Int) ≤ 0 ∧ 0 < ((2 : Nat) : Int), True] ⟨(by constructor <;> omega), trivial, trivial⟩ ?_
  refine callx (f := 93) (args := [.sl false 1 (m64 xs)]) (d := (some 17)) (by kernel_rfl) (xcall_of TT_ok Try.func93 rfl (by decide) (Nat.le_of_ble_eq_true (by kernel_rfl)) ?_)
  refine rgi [] 1 [2, 0] [2, 1] [] trivial ?_
  refine xw_seq ?_
  refine rgi [] 2 [4, 2, 0] [2, 1] [((m64 xs)) ≠ []] ⟨(ne_map (by first | omega | (simp only [len_st]; omega) | (simp; done) | (simp; omega) | (simp [len_st, len_stx, len_sty, len_zx, len_zy]; omega))), trivial⟩ ?_
  refine cf ?_
  refine xw_skip ?_
  refine an ?_
  refine xw_seq ?_
  refine reg ?_
  refine rki [] 3 0 [7, 2] [4, 2, 1] [(∀ y ∈ ((m64 xs) : List SV), ElemOk y) ∧ (false = true → 1 ≤ ((m64 xs) : List SV).length ∧ ∀ x ∈ ([] : List SV), ElemOk x) ∧ (([] : List SV).length + ((m64 xs) : List SV).length) * 8 ≤ 140737488355328 ∧ ([] : List SV).length + ((m64 xs) : List SV).length ≤ 4611686018427387904] ⟨⟨elem_map, (fun h => by cases h), by first | omega | (simp only [len_st]; omega) | (simp; done) | (simp; omega) | (simp [len_st, len_stx, len_sty, len_zx, len_zy]; omega), by first | omega | (simp only [len_st]; omega) | (simp; done) | (simp; omega) | (simp [len_st, len_stx, len_sty, len_zx, len_zy]; omega)⟩, trivial⟩ ?_
  refine setr 4 (z := 1) (E := 47) (L := (([]) ++ ((m64 xs)))) (L' := (m64 xs)) (by kernel_rfl) nil_app ?_
  refine rk [] 1 3 ⟨[(2, .own 4)], [(4, .row 1 47 (m64 xs)), (2, .cells (mm W xs ys) 25), (1, .cells [.i 0, .nils, .nils] 25)], 5⟩ [] trivial ?_
  refine en ?_
  refine an ?_
  refine xw_ret ?_
  refine ⟨.own 4, by kernel_rfl, ?_⟩
  refine rki [] 1 6 [18, 17, 12, 9, 8, 1, 2, 3] [4, 2, 1] [] trivial ?_
  refine seti 12 (k := .i64) (x := s) (y := 0) (by kernel_rfl) (by omega) ?_
  refine rki [] 2 7 [9, 8, 1, 2, 3] [4, 2, 1] [(0 : Int) ≤ 0 ∧ 0 < ((2 : Nat) : Int), True] ⟨(by constructor <;> omega), trivial, trivial⟩ ?_
  refine en ?_
  refine an ?_
  refine xw_seq ?_
  refine reg ?_
  refine rk [] 2 0 ⟨[(21, .loc 2 1), (20, .i s), (9, .p 2), (8, .p 1), (2, .i p), (3, .sl false 1 [.u v])], [(4, .row 1 47 (m64 xs)), (2, .cells [.i W, .own 4, .sl false 1 (m64 ys)] 25), (1, .cells [.i 0, .nils, .nils] 25)], 5⟩ [] trivial ?_
  refine seti 20 (k := .i64) (x := s) (y := 0) (by kernel_rfl) (by omega) ?_
  refine rki [(7, .i 1)] 6 2 [9, 8] [4, 2, 1] [(0 : Int) ≤ 0 ∧ 0 < ((2 : Nat) : Int), True, (0 : Int) ≤ p ∧ p ≤ ((((m64 xs)).length : Nat) : Int) ∧ ((m64 xs)) ≠ [], (((((([.u v] : List SV)).take (((m64 xs)).length - (p : Int).toNat)).length : Nat) : Int) = 1 ∧ (p : Int).toNat + (((m64 xs)).length - (p : Int).toNat) = (((m64 xs) : List SV)).length ∧ 1 ≤ (((m64 xs)).length - (p : Int).toNat) ∧ 1 ≤ (([.u v] : List SV)).length ∧ ∀ y ∈ (([.u v] : List SV)), ElemOk y)] ⟨(by constructor <;> omega), trivial, ⟨by omega, by first | omega | (simp only [len_st]; omega) | (simp; done) | (simp; omega) | (simp [len_st, len_stx, len_sty, len_zx, len_zy]; omega), ne_map (by first | omega | (simp only [len_st]; omega) | (simp; done) | (simp; omega) | (simp [len_st, len_stx, len_sty, len_zx, len_zy]; omega))⟩, ⟨by simp; omega, by simp; omega, by simp; omega, by simp, by intro y hy; simp at hy; subst hy; rfl⟩, trivial⟩ ?_
  refine en ?_
  refine an ?_
  refine rgi [] 2 [8] [4, 1] [True, True] ⟨trivial, trivial, trivial⟩ ?_
  refine xw_ret ?_
  exact bk_ret (.agg [.i W, .own 4, .sl false 1 (m64 ys)]) (.agg [.i W, .sl false 1 ((((m64 xs) : List SV)).take (p : Int).toNat ++ (([.u v] : List SV)).take (((m64 xs)).length - (p : Int).toNat) ++ (((m64 xs) : List SV)).drop ((p : Int).toNat + ((([.u v] : List SV)).take (((m64 xs)).length - (p : Int).toNat)).length)), .sl false 1 (m64 ys)]) (.agg (mm W (st xs p v) ys)) (by kernel_rfl) (by kernel_rfl) (wkd [(W : Int) = W, (false = true → false = true), ((((m64 xs) : List SV)).take (p : Int).toNat ++ (([.u v] : List SV)).take (((m64 xs)).length - (p : Int).toNat) ++ (((m64 xs) : List SV)).drop ((p : Int).toNat + ((([.u v] : List SV)).take (((m64 xs)).length - (p : Int).toNat)).length)) = (m64 (st xs p v)), (false = true → false = true), (m64 ys) = (m64 ys)] (by kernel_rfl) ⟨rfl, id, (by first | rfl | omega | exact splice1 (by omega) (by omega)), id, rfl, trivial⟩) (Or.inl <| ⟨(by omega), rfl⟩)
 ·
  refine seti 13 (k := .i64) (x := s) (y := 1) (by kernel_rfl) (by omega) ?_
  refine rk [] 2 3 ⟨[(16, .sl false 1 (m64 ys)), (12, .i s), (9, .p 2), (8, .p 1), (1, .i s), (2, .i p), (3, .sl false 1 [.u v])], [(2, .cells (mm W xs ys) 25), (1, .cells [.i 0, .nils, .nils] 25)], 3⟩ [(0 : Int) ≤ 1 ∧ 1 < ((2 : Nat) : Int), True] ⟨(by constructor <;> omega), trivial, trivial⟩ ?_
  refine callx (f := 93) (args := [.sl false 1 (m64 ys)]) (d := (some 17)) (by kernel_rfl) (xcall_of TT_ok Try.func93 rfl (by decide) (Nat.le_of_ble_eq_true (by kernel_rfl)) ?_)
  refine rgi [] 1 [2, 0] [2, 1] [] trivial ?_
  refine xw_seq ?_
  refine rgi [] 2 [4, 2, 0] [2, 1] [((m64 ys)) ≠ []] ⟨(ne_map (by first | omega | (simp only [len_st]; omega) | (simp; done) | (simp; omega) | (simp [len_st, len_stx, len_sty, len_zx, len_zy]; omega))), trivial⟩ ?_
  refine cf ?_
  refine xw_skip ?_
  refine an ?_
  refine xw_seq ?_
  refine reg ?_
  refine rki [] 3 0 [7, 2] [4, 2, 1] [(∀ y ∈ ((m64 ys) : List SV), ElemOk y) ∧ (false = true → 1 ≤ ((m64 ys) : List SV).length ∧ ∀ x ∈ ([] : List SV), ElemOk x) ∧ (([] : List SV).length + ((m64 ys) : List SV).length) * 8 ≤ 140737488355328 ∧ ([] : List SV).length + ((m64 ys) : List SV).length ≤ 4611686018427387904] ⟨⟨elem_map, (fun h => by cases h), by first | omega | (simp only [len_st]; omega) | (simp; done) | (simp; omega) | (simp [len_st, len_stx, len_sty, len_zx, len_zy]; omega), by first | omega | (simp only [len_st]; omega) | (simp; done) | (simp; omega) | (simp [len_st, len_stx, len_sty, len_zx, len_zy]; omega)⟩, trivial⟩ ?_
  refine setr 4 (z := 1) (E := 47) (L := (([]) ++ ((m64 ys)))) (L' := (m64 ys)) (by kernel_rfl) nil_app ?_
  refine rk [] 1 3 ⟨[(2, .own 4)], [(4, .row 1 47 (m64 ys)), (2, .cells (mm W xs ys) 25), (1, .cells [.i 0, .nils, .nils] 25)], 5⟩ [] trivial ?_
  refine en ?_
  refine an ?_
  refine xw_ret ?_
  refine ⟨.own 4, by kernel_rfl, ?_⟩
  refine rki [] 1 6 [18, 17, 12, 9, 8, 1, 2, 3] [4, 2, 1] [] trivial ?_
  refine seti 12 (k := .i64) (x := s) (y := 1) (by kernel_rfl) (by omega) ?_
  refine rki [] 2 7 [9, 8, 1, 2, 3] [4, 2, 1] [(0 : Int) ≤ 1 ∧ 1 < ((2 : Nat) : Int), True] ⟨(by constructor <;> omega), trivial, trivial⟩ ?_
  refine en ?_
  refine an ?_
  refine xw_seq ?_
  refine reg ?_
  refine rk [] 2 0 ⟨[(21, .loc 2 1), (20, .i s), (9, .p 2), (8, .p 1), (2, .i p), (3, .sl false 1 [.u v])], [(4, .row 1 47 (m64 ys)), (2, .cells [.i W, .sl false 1 (m64 xs), .own 4] 25), (1, .cells [.i 0, .nils, .nils] 25)], 5⟩ [] trivial ?_
  refine seti 20 (k := .i64) (x := s) (y := 1) (by kernel_rfl) (by omega) ?_
  refine rki [(7, .i 1)] 6 2 [9, 8] [4, 2, 1] [(0 : Int) ≤ 1 ∧ 1 < ((2 : Nat) : Int), True, (0 : Int) ≤ p ∧ p ≤ ((((m64 ys)).length : Nat) : Int) ∧ ((m64 ys)) ≠ [], (((((([.u v] : List SV)).take (((m64 ys)).length - (p : Int).toNat)).length : Nat) : Int) = 1 ∧ (p : Int).toNat + (((m64 ys)).length - (p : Int).toNat) = (((m64 ys) : List SV)).length ∧ 1 ≤ (((m64 ys)).length - (p : Int).toNat) ∧ 1 ≤ (([.u v] : List SV)).length ∧ ∀ y ∈ (([.u v] : List SV)), ElemOk y)] ⟨(by constructor <;> omega), trivial, ⟨by omega, by first | omega | (simp only [len_st]; omega) | (simp; done) | (simp; omega) | (simp [len_st, len_stx, len_sty, len_zx, len_zy]; omega), ne_map (by first | omega | (simp only [len_st]; omega) | (simp; done) | (simp; omega) | (simp [len_st, len_stx, len_sty, len_zx, len_zy]; omega))⟩, ⟨by simp; omega, by simp; omega, by simp; omega, by simp, by intro y hy; simp at hy; subst hy; rfl⟩, trivial⟩ ?_
  refine en ?_
  refine an ?_
  refine rgi [] 2 [8] [4, 1] [True, True] ⟨trivial, trivial, trivial⟩ ?_
  refine xw_ret ?_
  exact bk_ret (.agg [.i W, .sl false 1 (m64 xs), .own 4]) (.agg [.i W, .sl false 1 (m64 xs), .sl false 1 ((((m64 ys) : List SV)).take (p : Int).toNat ++ (([.u v] : List SV)).take (((m64 ys)).length - (p : Int).toNat) ++ (((m64 ys) : List SV)).drop ((p : Int).toNat + ((([.u v] : List SV)).take (((m64 ys)).length - (p : Int).toNat)).length))]) (.agg (mm W xs (st ys p v))) (by kernel_rfl) (by kernel_rfl) (wkd [(W : Int) = W, (false = true → false = true), (m64 xs) = (m64 xs), (false = true → false = true), ((((m64 ys) : List SV)).take (p : Int).toNat ++ (([.u v] : List SV)).take (((m64 ys)).length - (p : Int).toNat) ++ (((m64 ys) : List SV)).drop ((p : Int).toNat + ((([.u v] : List SV)).take (((m64 ys)).length - (p : Int).toNat)).length)) = (m64 (st ys p v))] (by kernel_rfl) ⟨rfl, id, rfl, id, (by first | rfl | omega | exact splice1 (by omega) (by omega)), trivial⟩) (Or.inr <| ⟨(by omega), rfl⟩)

theorem wwith_1 (W : Int) (xs ys : List Int) (s p v : Int) (hp0 : 16 ≤ W ∧ W ≤ 4096) (hp1 : (xs.length : Int) = W) (hp2 : (ys.length : Int) = W) (hp3 : U64s xs) (hp4 : U64s ys) (hp5 : 0 ≤ s ∧ s ≤ 1) (hp6 : 0 ≤ p ∧ p < W) (hp7 : 0 ≤ v ∧ v ≤ 18446744073709551615) (hp8 : s = 0) : Pub Try.prog 91 [.agg (mm W xs ys), .i s, .i p, .sl false 1 [.u v]] (fun rv => rv = .agg (mm W (st xs p v) ys)) := by
  refine (wwith W xs ys s p v hp0 hp1 hp2 hp3 hp4 hp5 hp6 hp7).mono ?_
  rintro _ (⟨g0, rfl⟩ | ⟨g0, rfl⟩)
  all_goals first | rfl | (exfalso; first | omega | grind)

theorem wwith_2 (W : Int) (xs ys : List Int) (s p v : Int) (hp0 : 16 ≤ W ∧ W ≤ 4096) (hp1 : (xs.length : Int) = W) (hp2 : (ys.length : Int) = W) (hp3 : U64s xs) (hp4 : U64s ys) (hp5 : 0 ≤ s ∧ s ≤ 1) (hp6 : 0 ≤ p ∧ p < W) (hp7 : 0 ≤ v ∧ v ≤ 18446744073709551615) (hp8 : s = 1) : Pub Try.prog 91 [.agg (mm W xs ys), .i s, .i p, .sl false 1 [.u v]] (fun rv => rv = .agg (mm W xs (st ys p v))) := by
  refine (wwith W xs ys s p v hp0 hp1 hp2 hp3 hp4 hp5 hp6 hp7).mono ?_
  rintro _ (⟨g0, rfl⟩ | ⟨g0, rfl⟩)
  all_goals first | rfl | (exfalso; first | omega | grind)

theorem store (W : Int) (xs ys : List Int) (a v : Int) (hp0 : 16 ≤ W ∧ W ≤ 4096) (hp1 : (xs.length : Int) = W) (hp2 : (ys.length : Int) = W) (hp3 : U64s xs) (hp4 : U64s ys) (hp5 : 0 ≤ a ∧ a ≤ 18446744073709551615) (hp6 : 0 ≤ v ∧ v ≤ 18446744073709551615) : Pub Try.prog 76 [.agg (mm W xs ys), .u a, .u v] (fun rv => ((1 ≤ a / 4294967296 ∧ a / 4294967296 ≤ 2 ∧ a % 4294967296 < W) ∧ rv = .tup [.agg (mm W (stx xs a v) (sty ys a v)), .i 0]) ∨ ((¬ (1 ≤ a / 4294967296 ∧ a / 4294967296 ≤ 2 ∧ a % 4294967296 < W)) ∧ rv = .tup [.agg (mm W xs ys), .i 2])) := by
 refine pub_of TT_ok Try.func76 rfl (by decide) (Nat.le_of_ble_eq_true (by kernel_rfl)) (by kernel_rfl) ?_
 refine rgi [] 3 [7, 6, 3, 1, 2] [1, 0] [] trivial ?_
 refine xw_seq ?_
 refine reg ?_
 refine rki [] 3 0 [14, 13, 7, 6, 3, 2] [1, 0] [True] ⟨trivial, trivial⟩ ?_
 by_cases h0 : (1 ≤ a / 4294967296) ∧ ((a / 4294967296 ≤ 2) ∧ ((a % 4294967296 < W) ∧ (((0 : Int) ≤ 1) ∧ (a % 4294967296 + 1 ≤ W))))
 ·
  refine pc (wthere_1 W xs ys a 1 ‹_› ‹_› ‹_› ‹_› ‹_› ‹_› (by omega) (by omega)) ?_
  refine rki [] 7 4 [10, 9, 8, 7, 6, 3, 2] [1, 0] [] trivial ?_
  refine en ?_
  refine an ?_
  refine xw_seq ?_
  refine rg [] 2 ⟨[(20, .f), (9, .i (a % 4294967296)), (8, .i (a / 4294967296 - 1)), (7, .i 0), (6, .p 1), (3, .p 0), (2, .u v)], [(1, .cells [.i 0, .nils, .nils] 25), (0, .cells (mm W xs ys) 25)], 2⟩ [] trivial ?_
  refine cf ?_
  refine xw_skip ?_
  refine an ?_
  refine xw_seq ?_
  refine reg ?_
  refine rki [(5, .t)] 6 0 [27, 25, 24, 23, 7, 6] [1] [True] ⟨trivial, trivial⟩ ?_
  by_cases h1 : (a / 4294967296 - 1) = 0
  ·
   refine pc (wwith_1 W xs ys (a / 4294967296 - 1) (a % 4294967296) v ‹_› ‹_› ‹_› ‹_› ‹_› (by omega) (by omega) ‹_› ‹_›) ?_
   refine rki [] 2 7 [7, 6] [1] [True] ⟨trivial, trivial⟩ ?_
   refine en ?_
   refine an ?_
   refine xw_ret ?_
   exact br (.tup [.agg (mm W (st xs (a % 4294967296) v) ys), .i 0]) (.tup [.agg (mm W (stx xs a v) (sty ys a v)), .i 0]) (wkd [(W : Int) = W, (false = true → false = true), (m64 (st xs (a % 4294967296) v)) = (m64 (stx xs a v)), (false = true → false = true), (m64 ys) = (m64 (sty ys a v)), (0 : Int) = 0] (by kernel_rfl) ⟨rfl, id, (by first | rfl | omega | (rw [stx_1 (by omega)]; done) | (rw [stx_2 (by omega)]; done) | (rw [sty_1 (by omega)]; done) | (rw [sty_2 (by omega)]; done)), id, (by first | rfl | omega | (rw [stx_1 (by omega)]; done) | (rw [stx_2 (by omega)]; done) | (rw [sty_1 (by omega)]; done) | (rw [sty_2 (by omega)]; done)), rfl, trivial⟩) (Or.inl <| ⟨(by omega), rfl⟩)
  ·
   refine pc (wwith_2 W xs ys (a / 4294967296 - 1) (a % 4294967296) v ‹_› ‹_› ‹_› ‹_› ‹_› (by omega) (by omega) ‹_› (by omega)) ?_
   refine rki [] 2 7 [7, 6] [1] [True] ⟨trivial, trivial⟩ ?_
   refine en ?_
   refine an ?_
   refine xw_ret ?_
   exact br (.tup [.agg (mm W xs (st ys (a % 4294967296) v)), .i 0]) (.tup [.agg (mm W (stx xs a v) (sty ys a v)), .i 0]) (wkd [(W : Int) = W, (false = true → false = true), (m64 xs) = (m64 (stx xs a v)), (false = true → false = true), (m64 (st ys (a % 4294967296) v)) = (m64 (sty ys a v)), (0 : Int) = 0] (by kernel_rfl) ⟨rfl, id, (by first | rfl | omega | (rw [stx_1 (by omega)]; done) | (rw [stx_2 (by omega)]; done) | (rw [sty_1 (by omega)]; done) | (rw [sty_2 (by omega)]; done)), id, (by first | rfl | omega | (rw [stx_1 (by omega)]; done) | (rw [stx_2 (by omega)]; done) | (rw [sty_1 (by omega)]; done) | (rw [sty_2 (by omega)]; done)), rfl, trivial⟩) (Or.inl <| ⟨(by omega), rfl⟩)
 ·
  refine pc (wthere_2 W xs ys a 1 ‹_› ‹_› ‹_› ‹_› ‹_› ‹_› (by omega) (by omega)) ?_
  refine rki [] 7 4 [10, 9, 8, 7, 6, 3, 2] [1, 0] [] trivial ?_
  refine en ?_
  refine an ?_
  refine xw_seq ?_
  refine rg [] 2 ⟨[(20, .t), (9, .i 0), (8, .i 0), (7, .i 0), (6, .p 1), (3, .p 0), (2, .u v)], [(1, .cells [.i 0, .nils, .nils] 25), (0, .cells (mm W xs ys) 25)], 2⟩ [] trivial ?_
  refine ct ?_
  refine rgi [] 3 [7, 9, 8, 6, 3, 2] [1, 0] [True, True] ⟨trivial, trivial, trivial⟩ ?_
  refine xw_ret ?_
  refine an_ret ?_
  exact bs (.tup [.agg (mm W xs ys), .i 2]) (Or.inr <| ⟨(by omega), rfl⟩)

theorem store_1 (W : Int) (xs ys : List Int) (a v : Int) (hp0 : 16 ≤ W ∧ W ≤ 4096) (hp1 : (xs.length : Int) = W) (hp2 : (ys.length : Int) = W) (hp3 : U64s xs) (hp4 : U64s ys) (hp5 : 0 ≤ a ∧ a ≤ 18446744073709551615) (hp6 : 0 ≤ v ∧ v ≤ 18446744073709551615) (hp7 : 1 ≤ a / 4294967296 ∧ a / 4294967296 ≤ 2 ∧ a % 4294967296 < W) : Pub Try.prog 76 [.agg (mm W xs ys), .u a, .u v] (fun rv => rv = .tup [.agg (mm W (stx xs a v) (sty ys a v)), .i 0]) := by
  refine (store W xs ys a v hp0 hp1 hp2 hp3 hp4 hp5 hp6).mono ?_
  rintro _ (⟨g0, rfl⟩ | ⟨g0, rfl⟩)
  all_goals first | rfl | (exfalso; first | omega | grind)

theorem rmright (W : Int) (xs ys : List Int) (hp0 : -9223372036854775808 ≤ W ∧ W ≤ 9223372036854775807) : Pub Try.prog 24 [.agg (mm W xs ys)] (fun rv => ((16 ≤ W ∧ W ≤ 4096 ∧ (xs.length : Int) = W ∧ (ys.length : Int) = W) ∧ rv = .t) ∨ ((¬ (16 ≤ W ∧ W ≤ 4096 ∧ (xs.length : Int) = W ∧ (ys.length : Int) = W)) ∧ rv = .f)) := by
 refine pub_of TT_ok Try.func24 rfl (by decide) (Nat.le_of_ble_eq_true (by kernel_rfl)) (by kernel_rfl) ?_
 refine rgi [] 2 [2, 1] [0] [] trivial ?_
 refine xw_seq ?_
 refine reg ?_
 refine rki [(2, .bool (decide (16 ≤ W)))] 4 0 [6, 2, 1] [0] [True, sm (decide (16 ≤ W))] ⟨trivial, rfl, trivial⟩ ?_
 refine splitr 6 (x := (decide (16 ≤ W))) (by kernel_rfl) (fun h0 => ?_) (fun h0 => ?_)
 ·
  replace h0 : 16 ≤ W := of_decide_eq_true h0
  refine rki [(6, .bool (decide (W ≤ 4096)))] 5 4 [11, 2, 1] [0] [True, sm (decide (W ≤ 4096)), True] ⟨trivial, rfl, trivial, trivial⟩ ?_
  refine splitr 11 (x := (decide (W ≤ 4096))) (by kernel_rfl) (fun h1 => ?_) (fun h1 => ?_)
  ·
   replace h1 : W ≤ 4096 := of_decide_eq_true h1
   refine rk [(12, .i ((xs).length : Int)), (15, .bool (((xs).length : Int) == W))] 9 9 ⟨[(20, .bool (((xs).length : Int) == W)), (2, .f), (1, .p 0)], [(0, .cells (mm W xs ys) 25)], 1⟩ [(0 : Int) ≤ 0 ∧ 0 < ((2 : Nat) : Int), True, ((((m64 xs)).length : Nat) : Int) = ((xs).length : Int), True, sm (((xs).length : Int) == W), True] ⟨(by constructor <;> omega), trivial, (by simp), trivial, rfl, trivial, trivial⟩ ?_
   refine splitr 20 (x := (((xs).length : Int) == W)) (by kernel_rfl) (fun h2 => ?_) (fun h2 => ?_)
   ·
    replace h2 : (xs.length : Int) = W := eq_of_beq h2
    refine rki [(21, .i ((ys).length : Int)), (24, .bool (((ys).length : Int) == W))] 9 18 [2] [] [(0 : Int) ≤ 1 ∧ 1 < ((2 : Nat) : Int), True, ((((m64 ys)).length : Nat) : Int) = ((ys).length : Int), True, sm (((ys).length : Int) == W), True] ⟨(by constructor <;> omega), trivial, (by simp), trivial, rfl, trivial, trivial⟩ ?_
    refine en ?_
    refine an ?_
    refine xw_ret ?_
    by_cases h3 : (ys.length : Int) = W
    ·
     exact br (.bool (((ys).length : Int) == W)) (.t) (wkd [(((ys).length : Int) == W) = true] (by kernel_rfl) ⟨(by first | exact decide_eq_true (by omega) | exact decide_eq_false (by omega) | (simp; done) | (simp; omega) | (simp_all; done) | (simp_all; omega) | grind), trivial⟩) (Or.inl <| ⟨(by omega), rfl⟩)
    ·
     exact br (.bool (((ys).length : Int) == W)) (.f) (wkd [(((ys).length : Int) == W) = false] (by kernel_rfl) ⟨(by first | exact decide_eq_true (by omega) | exact decide_eq_false (by omega) | (simp; done) | (simp; omega) | (simp_all; done) | (simp_all; omega) | grind), trivial⟩) (Or.inr <| ⟨(by omega), rfl⟩)
   ·
    replace h2 : (xs.length : Int) ≠ W := ne_of_beq_false h2
    refine rki [] 9 18 [2] [] [True] ⟨trivial, trivial⟩ ?_
    refine en ?_
    refine an ?_
    refine xw_ret ?_
    exact bs (.f) (Or.inr <| ⟨(by omega), rfl⟩)
  ·
   replace h1 : ¬ (W ≤ 4096) := of_decide_eq_false h1
   refine rk [] 18 9 ⟨[(2, .f)], [], 1⟩ [True, True] ⟨trivial, trivial, trivial⟩ ?_
   refine en ?_
   refine an ?_
   refine xw_ret ?_
   exact bs (.f) (Or.inr <| ⟨(by omega), rfl⟩)
 ·
  replace h0 : ¬ (16 ≤ W) := of_decide_eq_false h0
  refine rki [] 23 4 [2] [] [True, True, True] ⟨trivial, trivial, trivial, trivial⟩ ?_
  refine en ?_
  refine an ?_
  refine xw_ret ?_
  exact bs (.f) (Or.inr <| ⟨(by omega), rfl⟩)

theorem rmright_1 (W : Int) (xs ys : List Int) (hp0 : -9223372036854775808 ≤ W ∧ W ≤ 9223372036854775807) (hp1 : 16 ≤ W ∧ W ≤ 4096 ∧ (xs.length : Int) = W ∧ (ys.length : Int) = W) : Pub Try.prog 24 [.agg (mm W xs ys)] (fun rv => rv = .t) := by
  refine (rmright W xs ys hp0).mono ?_
  rintro _ (⟨g0, rfl⟩ | ⟨g0, rfl⟩)
  all_goals first | rfl | (exfalso; first | omega | grind)

theorem rmright_2 (W : Int) (xs ys : List Int) (hp0 : -9223372036854775808 ≤ W ∧ W ≤ 9223372036854775807) (hp1 : ¬ (16 ≤ W ∧ W ≤ 4096 ∧ (xs.length : Int) = W ∧ (ys.length : Int) = W)) : Pub Try.prog 24 [.agg (mm W xs ys)] (fun rv => rv = .f) := by
  refine (rmright W xs ys hp0).mono ?_
  rintro _ (⟨g0, rfl⟩ | ⟨g0, rfl⟩)
  all_goals first | rfl | (exfalso; first | omega | grind)

theorem rwords (xs us : List Int) (hp0 : U64s xs) (hp1 : U64s us) (hp2 : (xs.length : Int) ≤ 1000000) (hp3 : (us.length : Int) ≤ 1000000) : Pub Try.prog 28 [.sl false 1 (m64 xs), .sl false 1 (m64 us)] (fun rv => ((xs = us) ∧ rv = .t) ∨ ((¬ (xs = us)) ∧ rv = .f)) := by
 refine pub_of TT_ok Try.func28 rfl (by decide) (Nat.le_of_ble_eq_true (by kernel_rfl)) (by kernel_rfl) ?_
 refine rgi [] 1 [4, 0, 1] [] [] trivial ?_
 refine xw_seq ?_
 refine rgi [(1, .i ((xs).length : Int)), (3, .i ((us).length : Int)), (4, .bool (((xs).length : Int) != ((us).length : Int)))] 5 [10, 4, 0, 1] [] [((((m64 xs)).length : Nat) : Int) = ((xs).length : Int), ((((m64 us)).length : Nat) : Int) = ((us).length : Int), sm (((xs).length : Int) != ((us).length : Int))] ⟨(by simp), (by simp), rfl, trivial⟩ ?_
 refine xw_cond (b := (((xs).length : Int) != ((us).length : Int))) (by kernel_rfl) (fun h0 => ?_) (fun h0 => ?_)
 ·
  replace h0 : (xs.length : Int) ≠ (us.length : Int) := bne_iff_ne.1 h0
  refine rgi [] 1 [4, 0, 1] [] [] trivial ?_
  refine xw_ret ?_
  refine an_ret ?_
  exact bs (.f) (Or.inr <| ⟨(by first | assumption | omega | exact take_all (by assumption) (by omega) (by omega) | (intro he; subst he; first | contradiction | omega)), rfl⟩)
 ·
  replace h0 : (xs.length : Int) = (us.length : Int) := bne_eq_false_iff_eq.1 h0
  refine xw_skip ?_
  refine an ?_
  refine xw_seq ?_
  refine rgi [] 1 [5, 4, 0, 1] [] [] trivial ?_
  refine xw_block ?_
  refine xw_loop (α := {q : Int // (0 ≤ q) ∧ (q ≤ (xs.length : Int)) ∧ ((xs.length : Int) = (us.length : Int)) ∧ (xs.take q.toNat = us.take q.toNat)}) (fun p => ⟨[(5, .i p.1), (4, .f), (0, .sl false 1 (m64 xs)), (1, .sl false 1 (m64 us))], [], 0⟩) (fun p => ((xs.length : Int) - p.1).toNat) ⟨0, ⟨(by omega), (by omega), (by omega), (by first | omega | rfl | assumption | exact take_step (by assumption) (by omega) (by omega) (by omega) (by omega))⟩⟩ (le_of [] [(0 : Int) = 0, false = false, (false = true → false = true), ((m64 xs) : List SV) = (m64 xs), (false = true → false = true), ((m64 us) : List SV) = (m64 us)] (by kernel_rfl) ⟨rfl, rfl, id, rfl, id, rfl, trivial⟩) ?_
  rintro ⟨i, h1, h2, h3, h4⟩
  show XW _ _ _ _ _ _ ⟨[(5, .int .i64 i), (4, .bool false), (0, .sl false 1 (m64 xs)), (1, .sl false 1 (m64 us))], [], 0⟩
  refine xw_seq ?_
  refine rgi [(2, .i ((xs).length : Int)), (3, .bool (decide (i < ((xs).length : Int))))] 4 [14, 5, 4, 0, 1] [] [((((m64 xs)).length : Nat) : Int) = ((xs).length : Int), sm (decide (i < ((xs).length : Int)))] ⟨(by simp), rfl, trivial⟩ ?_
  refine xw_cond (b := (decide (i < ((xs).length : Int)))) (by kernel_rfl) (fun h5 => ?_) (fun h5 => ?_)
  ·
   replace h5 : i < (xs.length : Int) := of_decide_eq_true h5
   refine xw_skip ?_
   refine an ?_
   refine xw_seq ?_
   refine xw_block ?_
   refine xw_seq ?_
   refine dregk hmix (by kernel_rfl) ?_
   refine qri [(2, .u (ix xs i))] 3 0 [(0 : Int) ≤ i ∧ i < ((((m64 xs)).length : Nat) : Int) ∧ ((m64 xs))[(i : Int).toNat]? = some (.u (ix xs i))] ⟨(ix_ok (by omega) (by first | omega | (simp only [len_st]; omega) | (simp; done) | (simp; omega) | (simp [len_st, len_stx, len_sty, len_zx, len_zy]; omega))), trivial⟩ ?_
   have h6 : 0 ≤ (ix xs i) ∧ (ix xs i) ≤ 18446744073709551615 := U64s.ix (by first | assumption | exact U64s.st (by assumption) _ (by omega)) _
   refine qri [(6, .u (ix us i))] 4 3 [True, (0 : Int) ≤ i ∧ i < ((((m64 us)).length : Nat) : Int) ∧ ((m64 us))[(i : Int).toNat]? = some (.u (ix us i))] ⟨trivial, (ix_ok (by omega) (by first | omega | (simp only [len_st]; omega) | (simp; done) | (simp; omega) | (simp [len_st, len_stx, len_sty, len_zx, len_zy]; omega))), trivial⟩ ?_
   have h7 : 0 ≤ (ix us i) ∧ (ix us i) ≤ 18446744073709551615 := U64s.ix (by first | assumption | exact U64s.st (by assumption) _ (by omega)) _
   refine qri [(8, .bool ((ix xs i) != (ix us i)))] 2 7 [True, sm ((ix xs i) != (ix us i))] ⟨trivial, rfl, trivial⟩ ?_
   refine qen ?_
   refine an ?_
   refine xw_cond (b := ((ix xs i) != (ix us i))) (by kernel_rfl) (fun h8 => ?_) (fun h8 => ?_)
   ·
    replace h8 : (ix xs i) ≠ (ix us i) := bne_iff_ne.1 h8
    refine rg [] 1 ⟨[(4, .f), (5, .i i), (0, .sl false 1 (m64 xs)), (1, .sl false 1 (m64 us))], [], 0⟩ [] trivial ?_
    refine xw_ret ?_
    refine ib_ret ?_
    refine an_ret ?_
    refine ag_ret ?_
    refine ib_ret ?_
    refine an_ret ?_
    exact bs (.f) (Or.inr <| ⟨(by first | assumption | omega | exact take_all (by assumption) (by omega) (by omega) | (intro he; subst he; first | contradiction | omega)), rfl⟩)
   ·
    replace h8 : (ix xs i) = (ix us i) := bne_eq_false_iff_eq.1 h8
    refine xw_skip ?_
    refine ib ?_
    refine an ?_
    refine re [(1, .i (i + 1))] 3 ⟨[(5, .i (i + 1)), (4, .f), (0, .sl false 1 (m64 xs)), (1, .sl false 1 (m64 us))], [], 0⟩ [IntKind.i64.wrap (i + 1) = (i + 1)] ⟨i64_eq (by omega) (by omega), trivial⟩ ?_
    exact ag ⟨(i + 1), ⟨(by omega), (by omega), (by omega), (by first | omega | rfl | assumption | exact take_step (by assumption) (by omega) (by omega) (by omega) (by omega))⟩⟩ (le_of [] [((i + 1) : Int) = (i + 1), false = false, (false = true → false = true), ((m64 xs) : List SV) = (m64 xs), (false = true → false = true), ((m64 us) : List SV) = (m64 us)] (by kernel_rfl) ⟨rfl, rfl, id, rfl, id, rfl, trivial⟩) (by show ((xs.length : Int) - (i + 1)).toNat < ((xs.length : Int) - i).toNat; omega)
  ·
   replace h5 : ¬ (i < (xs.length : Int)) := of_decide_eq_false h5
   refine xw_exit ?_
   refine an_exit ?_
   refine ag_exit ?_
   refine ib_same ?_
   refine an ?_
   refine rgi [] 1 [4] [] [] trivial ?_
   refine xw_ret ?_
   exact bs (.t) (Or.inl <| ⟨(by first | assumption | omega | exact take_all (by assumption) (by omega) (by omega) | (intro he; subst he; first | contradiction | omega)), rfl⟩)

theorem rwords_1 (xs us : List Int) (hp0 : U64s xs) (hp1 : U64s us) (hp2 : (xs.length : Int) ≤ 1000000) (hp3 : (us.length : Int) ≤ 1000000) (hp4 : xs = us) : Pub Try.prog 28 [.sl false 1 (m64 xs), .sl false 1 (m64 us)] (fun rv => rv = .t) := by
  refine (rwords xs us hp0 hp1 hp2 hp3).mono ?_
  rintro _ (⟨g0, rfl⟩ | ⟨g0, rfl⟩)
  all_goals first | rfl | (exfalso; first | omega | grind)

theorem rwords_2 (xs us : List Int) (hp0 : U64s xs) (hp1 : U64s us) (hp2 : (xs.length : Int) ≤ 1000000) (hp3 : (us.length : Int) ≤ 1000000) (hp4 : ¬ (xs = us)) : Pub Try.prog 28 [.sl false 1 (m64 xs), .sl false 1 (m64 us)] (fun rv => rv = .f) := by
  refine (rwords xs us hp0 hp1 hp2 hp3).mono ?_
  rintro _ (⟨g0, rfl⟩ | ⟨g0, rfl⟩)
  all_goals first | rfl | (exfalso; first | omega | grind)

theorem rsame (W : Int) (xs ys : List Int) (V : Int) (us vs : List Int) (hp0 : U64s xs) (hp1 : U64s ys) (hp2 : U64s us) (hp3 : U64s vs) (hp4 : (xs.length : Int) ≤ 1000000) (hp5 : (ys.length : Int) ≤ 1000000) (hp6 : (us.length : Int) ≤ 1000000) (hp7 : (vs.length : Int) ≤ 1000000) (hp8 : -9223372036854775808 ≤ W ∧ W ≤ 9223372036854775807) (hp9 : -9223372036854775808 ≤ V ∧ V ≤ 9223372036854775807) : Pub Try.prog 15 [.agg (mm W xs ys), .agg (mm V us vs)] (fun rv => ((xs = us ∧ ys = vs ∧ W = V) ∧ rv = .t) ∨ ((¬ (xs = us ∧ ys = vs ∧ W = V)) ∧ rv = .f)) := by
 refine pub_of TT_ok Try.func15 rfl (by decide) (Nat.le_of_ble_eq_true (by kernel_rfl)) (by kernel_rfl) ?_
 refine rgi [] 3 [4, 3, 2] [1, 0] [] trivial ?_
 refine xw_seq ?_
 refine reg ?_
 refine rki [] 6 0 [12, 9, 4, 3, 2] [1, 0] [(0 : Int) ≤ 0 ∧ 0 < ((2 : Nat) : Int), True, (0 : Int) ≤ 0 ∧ 0 < ((2 : Nat) : Int), True] ⟨(by constructor <;> omega), trivial, (by constructor <;> omega), trivial, trivial⟩ ?_
 by_cases h0 : xs = us
 ·
  refine pc (rwords_1 xs us ‹_› ‹_› ‹_› ‹_› ‹_›) ?_
  refine rki [] 1 7 [5, 4, 3, 2] [1, 0] [] trivial ?_
  refine en ?_
  refine an ?_
  refine xw_seq ?_
  refine reg ?_
  refine rk [] 6 0 ⟨[(19, .sl false 1 (m64 vs)), (16, .sl false 1 (m64 ys)), (5, .t), (4, .f), (3, .p 1), (2, .p 0)], [(1, .cells (mm V us vs) 25), (0, .cells (mm W xs ys) 25)], 2⟩ [(0 : Int) ≤ 1 ∧ 1 < ((2 : Nat) : Int), True, (0 : Int) ≤ 1 ∧ 1 < ((2 : Nat) : Int), True] ⟨(by constructor <;> omega), trivial, (by constructor <;> omega), trivial, trivial⟩ ?_
  by_cases h1 : ys = vs
  ·
   refine pc (rwords_1 ys vs ‹_› ‹_› ‹_› ‹_› ‹_›) ?_
   refine rki [] 1 7 [6, 5, 4, 3, 2] [1, 0] [] trivial ?_
   refine en ?_
   refine an ?_
   refine rgi [(9, .bool (W == V))] 12 [4] [] [True, True, True, sm (W == V), True] ⟨trivial, trivial, trivial, rfl, trivial, trivial⟩ ?_
   refine xw_ret ?_
   by_cases h2 : W = V
   ·
    exact br (.bool (W == V)) (.t) (wkd [(W == V) = true] (by kernel_rfl) ⟨(by first | (subst_vars; exact ⟨rfl, rfl, rfl⟩) | simp_all | omega), trivial⟩) (Or.inl <| ⟨(by first | (subst_vars; exact ⟨rfl, rfl, rfl⟩) | simp_all | omega), rfl⟩)
   ·
    exact br (.bool (W == V)) (.f) (wkd [(W == V) = false] (by kernel_rfl) ⟨(by first | (subst_vars; exact ⟨rfl, rfl, rfl⟩) | simp_all | omega), trivial⟩) (Or.inr <| ⟨(by first | (subst_vars; exact ⟨rfl, rfl, rfl⟩) | simp_all | omega), rfl⟩)
  ·
   refine pc (rwords_2 ys vs ‹_› ‹_› ‹_› ‹_› ‹_›) ?_
   refine rki [] 1 7 [6, 5, 4, 3, 2] [1, 0] [] trivial ?_
   refine en ?_
   refine an ?_
   refine rgi [] 12 [4] [] [True, True] ⟨trivial, trivial, trivial⟩ ?_
   refine xw_ret ?_
   exact bs (.f) (Or.inr <| ⟨(by first | (subst_vars; exact ⟨rfl, rfl, rfl⟩) | simp_all | omega), rfl⟩)
 ·
  refine pc (rwords_2 xs us ‹_› ‹_› ‹_› ‹_› ‹_›) ?_
  refine rki [] 1 7 [5, 4, 3, 2] [1, 0] [] trivial ?_
  refine en ?_
  refine an ?_
  refine xw_seq ?_
  refine reg ?_
  refine rk [] 6 0 ⟨[(19, .sl false 1 (m64 vs)), (16, .sl false 1 (m64 ys)), (5, .f), (4, .f), (3, .p 1), (2, .p 0)], [(1, .cells (mm V us vs) 25), (0, .cells (mm W xs ys) 25)], 2⟩ [(0 : Int) ≤ 1 ∧ 1 < ((2 : Nat) : Int), True, (0 : Int) ≤ 1 ∧ 1 < ((2 : Nat) : Int), True] ⟨(by constructor <;> omega), trivial, (by constructor <;> omega), trivial, trivial⟩ ?_
  by_cases h1 : ys = vs
  ·
   refine pc (rwords_1 ys vs ‹_› ‹_› ‹_› ‹_› ‹_›) ?_
   refine rki [] 1 7 [6, 5, 4, 3, 2] [1, 0] [] trivial ?_
   refine en ?_
   refine an ?_
   refine rgi [] 12 [4] [] [True, True] ⟨trivial, trivial, trivial⟩ ?_
   refine xw_ret ?_
   exact bs (.f) (Or.inr <| ⟨(by first | (subst_vars; exact ⟨rfl, rfl, rfl⟩) | simp_all | omega), rfl⟩)
  ·
   refine pc (rwords_2 ys vs ‹_› ‹_› ‹_› ‹_› ‹_›) ?_
   refine rki [] 1 7 [6, 5, 4, 3, 2] [1, 0] [] trivial ?_
   refine en ?_
   refine an ?_
   refine rgi [] 12 [4] [] [True, True] ⟨trivial, trivial, trivial⟩ ?_
   refine xw_ret ?_
   exact bs (.f) (Or.inr <| ⟨(by first | (subst_vars; exact ⟨rfl, rfl, rfl⟩) | simp_all | omega), rfl⟩)

theorem rsame_1 (W : Int) (xs ys : List Int) (V : Int) (us vs : List Int) (hp0 : U64s xs) (hp1 : U64s ys) (hp2 : U64s us) (hp3 : U64s vs) (hp4 : (xs.length : Int) ≤ 1000000) (hp5 : (ys.length : Int) ≤ 1000000) (hp6 : (us.length : Int) ≤ 1000000) (hp7 : (vs.length : Int) ≤ 1000000) (hp8 : -9223372036854775808 ≤ W ∧ W ≤ 9223372036854775807) (hp9 : -9223372036854775808 ≤ V ∧ V ≤ 9223372036854775807) (hp10 : xs = us ∧ ys = vs ∧ W = V) : Pub Try.prog 15 [.agg (mm W xs ys), .agg (mm V us vs)] (fun rv => rv = .t) := by
  refine (rsame W xs ys V us vs hp0 hp1 hp2 hp3 hp4 hp5 hp6 hp7 hp8 hp9).mono ?_
  rintro _ (⟨g0, rfl⟩ | ⟨g0, rfl⟩)
  all_goals first | rfl | (exfalso; first | omega | grind)

end Go.Proofs.Ytjchmajamlehmaa.X
