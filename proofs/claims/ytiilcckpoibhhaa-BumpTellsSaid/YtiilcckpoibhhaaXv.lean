/- Contracts of Go functions: what each returns, for every input that its premises name; no memory of the caller is touched. Printed by a program. -/
import Derived.Test.YtiilcckpoibhhaaXu
namespace Go.Proofs.Ytiilcckpoibhhaa.X
open Go Go.RowKit
set_option linter.unusedVariables false      -- a premise may serve only to tell which way is taken
theorem rwhere (a : Int) (hp0 : 0 ≤ a ∧ a ≤ 18446744073709551615) : Pub Try.prog 26 [.int .u64 a] (fun t => ((1 ≤ a / 4294967296 ∧ a / 4294967296 ≤ 2) ∧ t = .tup [.int .i64 (a / 4294967296 - 1), .int .i64 (a % 4294967296), .bool true]) ∨ ((¬ (1 ≤ a / 4294967296 ∧ a / 4294967296 ≤ 2)) ∧ t = .tup [.int .i64 0, .int .i64 0, .bool false])) := by
  refine pub_of TT_ok Try.func26 rfl (by decide) (Nat.le_of_ble_eq_true (by kernel_rfl)) (by kernel_rfl) ?_
  refine xw_seq ?_
  refine reg ?_
  refine runk TT_ok [] 3 0 [4, 3, 2, 0] [] ⟨[(4, .bool false), (3, .int .i64 0), (2, .int .i64 0), (0, .int .u64 a)], [], 0⟩ [] (by kernel_rfl) trivial ?_
  refine endr (by kernel_rfl) ?_
  refine an ?_
  refine xw_seq ?_
  refine reg ?_
  refine runk TT_ok [(1, .int .i64 (a / 4294967296))] 3 0 [5, 4, 3, 2, 0] [] ⟨[(5, .int .u64 (a / 4294967296)), (4, .bool false), (3, .int .i64 0), (2, .int .i64 0), (0, .int .u64 a)], [], 0⟩ [(4294967296 : Int) ≠ 0 ∧ IntKind.u64.wrap (a.tdiv 4294967296) = (a / 4294967296)] (by kernel_rfl) ⟨⟨by omega, u64_tdiv (by omega) (by omega) (by omega)⟩, trivial⟩ ?_
  refine endr (by kernel_rfl) ?_
  refine an ?_
  refine xw_seq ?_
  refine xw_seq ?_
  refine reg ?_
  refine runk TT_ok [(1, .bool ((a / 4294967296) != 1))] 3 0 [10, 5, 4, 3, 2, 0] [] ⟨[(10, .bool ((a / 4294967296) != 1)), (5, .int .u64 (a / 4294967296)), (4, .bool false), (3, .int .i64 0), (2, .int .i64 0), (0, .int .u64 a)], [], 0⟩ [((a / 4294967296) != 1) = ((a / 4294967296) != 1)] (by kernel_rfl) ⟨rfl, trivial⟩ ?_
  refine splitr 10 (x := ((a / 4294967296) != 1)) (by kernel_rfl) (fun h0 => ?_) (fun h0 => ?_)
  · replace h0 : (a / 4294967296) ≠ 1 := bne_iff_ne.1 h0
    refine runk TT_ok [(4, .bool ((a / 4294967296) != 2))] 3 3 [13, 5, 4, 3, 2, 0] [] ⟨[(13, .bool ((a / 4294967296) != 2)), (5, .int .u64 (a / 4294967296)), (4, .bool false), (3, .int .i64 0), (2, .int .i64 0), (0, .int .u64 a)], [], 0⟩ [((a / 4294967296) != 2) = ((a / 4294967296) != 2), True] (by kernel_rfl) ⟨rfl, trivial, trivial⟩ ?_
    refine endr (by kernel_rfl) ?_
    refine an ?_
    refine xw_cond (b := ((a / 4294967296) != 2)) (by kernel_rfl) (fun h1 => ?_) (fun h1 => ?_)
    · replace h1 : (a / 4294967296) ≠ 2 := bne_iff_ne.1 h1
      refine xw_seq ?_
      refine reg ?_
      refine runk TT_ok [] 3 0 [4, 3, 2, 5, 0] [] ⟨[(4, .bool false), (3, .int .i64 0), (2, .int .i64 0), (5, .int .u64 (a / 4294967296)), (0, .int .u64 a)], [], 0⟩ [] (by kernel_rfl) trivial ?_
      refine endr (by kernel_rfl) ?_
      refine an ?_
      refine xw_ret ?_
      refine an_ret ?_
      exact bk_ret (.tup [.int .i64 0, .int .i64 0, .bool false]) (.tup [.int .i64 0, .int .i64 0, .bool false]) (.tup [.int .i64 0, .int .i64 0, .bool false]) (by kernel_rfl) (by kernel_rfl) (wkd [(0 : Int) = 0, (0 : Int) = 0, false = false] (by kernel_rfl) ⟨rfl, rfl, rfl, trivial⟩) (Or.inr <| ⟨(by omega), rfl⟩)
    · replace h1 : (a / 4294967296) = 2 := bne_eq_false_iff_eq.1 h1
      refine xw_skip ?_
      refine an ?_
      refine xw_seq ?_
      refine reg ?_
      refine runk TT_ok [(1, .int .i64 (a / 4294967296)), (2, .int .i64 ((a / 4294967296) - 1)), (4, .int .i64 (a % 4294967296)), (5, .int .i64 (a % 4294967296))] 9 0 [4, 3, 2] [] ⟨[(4, .bool true), (3, .int .i64 (a % 4294967296)), (2, .int .i64 ((a / 4294967296) - 1))], [], 0⟩ [IntKind.i64.wrap (a / 4294967296) = (a / 4294967296), IntKind.i64.wrap ((a / 4294967296) - 1) = ((a / 4294967296) - 1), (4294967296 : Int) ≠ 0 ∧ a.tmod 4294967296 = (a % 4294967296), IntKind.i64.wrap (a % 4294967296) = (a % 4294967296)] (by kernel_rfl) ⟨i64_in (by omega), i64_eq (by omega) (by omega), ⟨by omega, tmod_eq (by omega)⟩, i64_in (by omega), trivial⟩ ?_
      refine endr (by kernel_rfl) ?_
      refine an ?_
      refine xw_ret ?_
      exact bk_ret (.tup [.int .i64 ((a / 4294967296) - 1), .int .i64 (a % 4294967296), .bool true]) (.tup [.int .i64 ((a / 4294967296) - 1), .int .i64 (a % 4294967296), .bool true]) (.tup [.int .i64 (a / 4294967296 - 1), .int .i64 (a % 4294967296), .bool true]) (by kernel_rfl) (by kernel_rfl) (wkd [(((a / 4294967296) - 1) : Int) = (a / 4294967296 - 1), ((a % 4294967296) : Int) = (a % 4294967296), true = true] (by kernel_rfl) ⟨(by first | omega | grind), rfl, rfl, trivial⟩) (Or.inl <| ⟨(by omega), rfl⟩)
  · replace h0 : (a / 4294967296) = 1 := bne_eq_false_iff_eq.1 h0
    refine runk TT_ok [] 3 3 [13, 5, 4, 3, 2, 0] [] ⟨[(13, .bool false), (5, .int .u64 (a / 4294967296)), (4, .bool false), (3, .int .i64 0), (2, .int .i64 0), (0, .int .u64 a)], [], 0⟩ [True] (by kernel_rfl) ⟨trivial, trivial⟩ ?_
    refine endr (by kernel_rfl) ?_
    refine an ?_
    refine xw_false (by kernel_rfl) ?_
    refine xw_skip ?_
    refine an ?_
    refine xw_seq ?_
    refine reg ?_
    refine runk TT_ok [(1, .int .i64 (a / 4294967296)), (2, .int .i64 ((a / 4294967296) - 1)), (4, .int .i64 (a % 4294967296)), (5, .int .i64 (a % 4294967296))] 9 0 [4, 3, 2] [] ⟨[(4, .bool true), (3, .int .i64 (a % 4294967296)), (2, .int .i64 ((a / 4294967296) - 1))], [], 0⟩ [IntKind.i64.wrap (a / 4294967296) = (a / 4294967296), IntKind.i64.wrap ((a / 4294967296) - 1) = ((a / 4294967296) - 1), (4294967296 : Int) ≠ 0 ∧ a.tmod 4294967296 = (a % 4294967296), IntKind.i64.wrap (a % 4294967296) = (a % 4294967296)] (by kernel_rfl) ⟨i64_in (by omega), i64_eq (by omega) (by omega), ⟨by omega, tmod_eq (by omega)⟩, i64_in (by omega), trivial⟩ ?_
    refine endr (by kernel_rfl) ?_
    refine an ?_
    refine xw_ret ?_
    exact bk_ret (.tup [.int .i64 ((a / 4294967296) - 1), .int .i64 (a % 4294967296), .bool true]) (.tup [.int .i64 ((a / 4294967296) - 1), .int .i64 (a % 4294967296), .bool true]) (.tup [.int .i64 (a / 4294967296 - 1), .int .i64 (a % 4294967296), .bool true]) (by kernel_rfl) (by kernel_rfl) (wkd [(((a / 4294967296) - 1) : Int) = (a / 4294967296 - 1), ((a % 4294967296) : Int) = (a % 4294967296), true = true] (by kernel_rfl) ⟨(by first | omega | grind), rfl, rfl, trivial⟩) (Or.inl <| ⟨(by omega), rfl⟩)

theorem rwhere_1 (a : Int) (hp0 : 0 ≤ a ∧ a ≤ 18446744073709551615) (hp1 : 1 ≤ a / 4294967296 ∧ a / 4294967296 ≤ 2) : Pub Try.prog 26 [.int .u64 a] (fun t => t = .tup [.int .i64 (a / 4294967296 - 1), .int .i64 (a % 4294967296), .bool true]) := by
  refine (rwhere a hp0).mono ?_
  rintro _ (⟨g0, rfl⟩ | ⟨g0, rfl⟩)
  · rfl
  · exfalso; first | omega | grind

theorem rwhere_2 (a : Int) (hp0 : 0 ≤ a ∧ a ≤ 18446744073709551615) (hp1 : ¬ (1 ≤ a / 4294967296 ∧ a / 4294967296 ≤ 2)) : Pub Try.prog 26 [.int .u64 a] (fun t => t = .tup [.int .i64 0, .int .i64 0, .bool false]) := by
  refine (rwhere a hp0).mono ?_
  rintro _ (⟨g0, rfl⟩ | ⟨g0, rfl⟩)
  · exfalso; first | omega | grind
  · rfl

theorem pwhere (a : Int) (hp0 : 0 ≤ a ∧ a ≤ 18446744073709551615) : Pub Try.prog 78 [.int .u64 a] (fun t => ((1 ≤ a / 4294967296 ∧ a / 4294967296 ≤ 2) ∧ t = .tup [.int .i64 (a / 4294967296 - 1), .int .i64 (a % 4294967296), .bool true]) ∨ ((¬ (1 ≤ a / 4294967296 ∧ a / 4294967296 ≤ 2)) ∧ t = .tup [.int .i64 0, .int .i64 0, .bool false])) := by
  refine pub_of TT_ok Try.func78 rfl (by decide) (Nat.le_of_ble_eq_true (by kernel_rfl)) (by kernel_rfl) ?_
  refine xw_seq ?_
  refine reg ?_
  refine runk TT_ok [] 3 0 [4, 3, 2, 0] [] ⟨[(4, .bool false), (3, .int .i64 0), (2, .int .i64 0), (0, .int .u64 a)], [], 0⟩ [] (by kernel_rfl) trivial ?_
  refine endr (by kernel_rfl) ?_
  refine an ?_
  refine xw_seq ?_
  refine reg ?_
  refine runk TT_ok [(1, .int .i64 (a / 4294967296)), (2, .int .i64 (a / 4294967296)), (3, .int .i64 ((a / 4294967296) - 1)), (5, .int .i64 (a % 4294967296)), (6, .int .i64 (a % 4294967296))] 10 0 [5, 4, 3, 2] [0] ⟨[(5, .loc 0 0), (4, .bool false), (3, .int .i64 0), (2, .int .i64 0)], [(0, .cells [.int .i64 ((a / 4294967296) - 1), .int .i64 (a % 4294967296)] 117)], 1⟩ [(0 : Int) ≤ 32 ∧ a.fdiv (2 ^ min (32 : Int).toNat IntKind.u64.bits) = (a / 4294967296), IntKind.i64.wrap (a / 4294967296) = (a / 4294967296), IntKind.i64.wrap ((a / 4294967296) - 1) = ((a / 4294967296) - 1), IntKind.u64.wrap (BitVec.ofInt 64 a &&& BitVec.ofInt 64 4294967295).toNat = (a % 4294967296), IntKind.i64.wrap (a % 4294967296) = (a % 4294967296), True] (by kernel_rfl) ⟨⟨by omega, shr_eq rfl⟩, i64_in (by omega), i64_eq (by omega) (by omega), and_eq 32 4294967296 (by decide) rfl (by omega) (by omega) (by omega), i64_in (by omega), trivial, trivial⟩ ?_
  refine endr (by kernel_rfl) ?_
  refine an ?_
  refine xw_seq ?_
  refine xw_seq ?_
  refine reg ?_
  refine runk TT_ok [(2, .bool ((((a / 4294967296) - 1) == (-1)) && (((a % 4294967296) == 0) && true)))] 4 0 [17, 5, 4, 3, 2] [0] ⟨[(17, .bool ((((a / 4294967296) - 1) == (-1)) && (((a % 4294967296) == 0) && true))), (5, .loc 0 0), (4, .bool false), (3, .int .i64 0), (2, .int .i64 0)], [(0, .cells [.int .i64 ((a / 4294967296) - 1), .int .i64 (a % 4294967296)] 117)], 1⟩ [True, ((((a / 4294967296) - 1) == (-1)) && (((a % 4294967296) == 0) && true)) = ((((a / 4294967296) - 1) == (-1)) && (((a % 4294967296) == 0) && true))] (by kernel_rfl) ⟨trivial, rfl, trivial⟩ ?_
  refine splitr 17 (x := ((((a / 4294967296) - 1) == (-1)) && (((a % 4294967296) == 0) && true))) (by kernel_rfl) (fun h0 => ?_) (fun h0 => ?_)
  · replace h0 : (((a / 4294967296) - 1) = (- 1)) ∧ ((a % 4294967296) = 0) := by first | (simp; done) | simpa using h0
    refine runk TT_ok [] 9 4 [26, 5, 4, 3, 2] [0] ⟨[(26, .bool true), (5, .loc 0 0), (4, .bool false), (3, .int .i64 0), (2, .int .i64 0)], [(0, .cells [.int .i64 ((a / 4294967296) - 1), .int .i64 (a % 4294967296)] 117)], 1⟩ [True, True] (by kernel_rfl) ⟨trivial, trivial, trivial⟩ ?_
    refine endr (by kernel_rfl) ?_
    refine an ?_
    refine xw_true (by kernel_rfl) ?_
    refine xw_seq ?_
    refine reg ?_
    refine runk TT_ok [] 3 0 [4, 3, 2, 5] [0] ⟨[(4, .bool false), (3, .int .i64 0), (2, .int .i64 0), (5, .loc 0 0)], [(0, .cells [.int .i64 ((a / 4294967296) - 1), .int .i64 (a % 4294967296)] 117)], 1⟩ [] (by kernel_rfl) trivial ?_
    refine endr (by kernel_rfl) ?_
    refine an ?_
    refine xw_ret ?_
    refine an_ret ?_
    exact bk_ret (.tup [.int .i64 0, .int .i64 0, .bool false]) (.tup [.int .i64 0, .int .i64 0, .bool false]) (.tup [.int .i64 0, .int .i64 0, .bool false]) (by kernel_rfl) (by kernel_rfl) (wkd [(0 : Int) = 0, (0 : Int) = 0, false = false] (by kernel_rfl) ⟨rfl, rfl, rfl, trivial⟩) (Or.inr <| ⟨(by omega), rfl⟩)
  · replace h0 : ¬ ((((a / 4294967296) - 1) = (- 1)) ∧ ((a % 4294967296) = 0)) := by first | (simp; done) | simpa using h0
    refine runk TT_ok [(6, .bool (decide (((a / 4294967296) - 1) < 0)))] 5 4 [22, 5, 4, 3, 2] [0] ⟨[(22, .bool (decide (((a / 4294967296) - 1) < 0))), (5, .loc 0 0), (4, .bool false), (3, .int .i64 0), (2, .int .i64 0)], [(0, .cells [.int .i64 ((a / 4294967296) - 1), .int .i64 (a % 4294967296)] 117)], 1⟩ [True, (decide (((a / 4294967296) - 1) < 0)) = (decide (((a / 4294967296) - 1) < 0)), True] (by kernel_rfl) ⟨trivial, rfl, trivial, trivial⟩ ?_
    refine splitr 22 (x := (decide (((a / 4294967296) - 1) < 0))) (by kernel_rfl) (fun h1 => ?_) (fun h1 => ?_)
    · replace h1 : ((a / 4294967296) - 1) < 0 := of_decide_eq_true h1
      refine runk TT_ok [] 4 9 [26, 5, 4, 3, 2] [0] ⟨[(26, .bool true), (5, .loc 0 0), (4, .bool false), (3, .int .i64 0), (2, .int .i64 0)], [(0, .cells [.int .i64 ((a / 4294967296) - 1), .int .i64 (a % 4294967296)] 117)], 1⟩ [True] (by kernel_rfl) ⟨trivial, trivial⟩ ?_
      refine endr (by kernel_rfl) ?_
      refine an ?_
      refine xw_true (by kernel_rfl) ?_
      refine xw_seq ?_
      refine reg ?_
      refine runk TT_ok [] 3 0 [4, 3, 2, 5] [0] ⟨[(4, .bool false), (3, .int .i64 0), (2, .int .i64 0), (5, .loc 0 0)], [(0, .cells [.int .i64 ((a / 4294967296) - 1), .int .i64 (a % 4294967296)] 117)], 1⟩ [] (by kernel_rfl) trivial ?_
      refine endr (by kernel_rfl) ?_
      refine an ?_
      refine xw_ret ?_
      refine an_ret ?_
      exact bk_ret (.tup [.int .i64 0, .int .i64 0, .bool false]) (.tup [.int .i64 0, .int .i64 0, .bool false]) (.tup [.int .i64 0, .int .i64 0, .bool false]) (by kernel_rfl) (by kernel_rfl) (wkd [(0 : Int) = 0, (0 : Int) = 0, false = false] (by kernel_rfl) ⟨rfl, rfl, rfl, trivial⟩) (Or.inr <| ⟨(by omega), rfl⟩)
    · replace h1 : ¬ (((a / 4294967296) - 1) < 0) := of_decide_eq_false h1
      refine runk TT_ok [(11, .bool (decide (1 < ((a / 4294967296) - 1))))] 4 9 [26, 5, 4, 3, 2] [0] ⟨[(26, .bool (decide (1 < ((a / 4294967296) - 1)))), (5, .loc 0 0), (4, .bool false), (3, .int .i64 0), (2, .int .i64 0)], [(0, .cells [.int .i64 ((a / 4294967296) - 1), .int .i64 (a % 4294967296)] 117)], 1⟩ [True, (decide (1 < ((a / 4294967296) - 1))) = (decide (1 < ((a / 4294967296) - 1))), True] (by kernel_rfl) ⟨trivial, rfl, trivial, trivial⟩ ?_
      refine endr (by kernel_rfl) ?_
      refine an ?_
      refine xw_cond (b := (decide (1 < ((a / 4294967296) - 1)))) (by kernel_rfl) (fun h2 => ?_) (fun h2 => ?_)
      · replace h2 : 1 < ((a / 4294967296) - 1) := of_decide_eq_true h2
        refine xw_seq ?_
        refine reg ?_
        refine runk TT_ok [] 3 0 [4, 3, 2, 5] [0] ⟨[(4, .bool false), (3, .int .i64 0), (2, .int .i64 0), (5, .loc 0 0)], [(0, .cells [.int .i64 ((a / 4294967296) - 1), .int .i64 (a % 4294967296)] 117)], 1⟩ [] (by kernel_rfl) trivial ?_
        refine endr (by kernel_rfl) ?_
        refine an ?_
        refine xw_ret ?_
        refine an_ret ?_
        exact bk_ret (.tup [.int .i64 0, .int .i64 0, .bool false]) (.tup [.int .i64 0, .int .i64 0, .bool false]) (.tup [.int .i64 0, .int .i64 0, .bool false]) (by kernel_rfl) (by kernel_rfl) (wkd [(0 : Int) = 0, (0 : Int) = 0, false = false] (by kernel_rfl) ⟨rfl, rfl, rfl, trivial⟩) (Or.inr <| ⟨(by omega), rfl⟩)
      · replace h2 : ¬ (1 < ((a / 4294967296) - 1)) := of_decide_eq_false h2
        refine xw_skip ?_
        refine an ?_
        refine xw_seq ?_
        refine dregk hmix (by kernel_rfl) ?_
        refine qrun' TT_ok [] 7 0 [(4, .bool true), (3, .int .i64 (a % 4294967296)), (2, .int .i64 ((a / 4294967296) - 1)), (30, .int .i64 (a % 4294967296)), (29, .loc 0 1), (28, .int .i64 ((a / 4294967296) - 1)), (27, .loc 0 0), (26, .bool (decide (1 < ((a / 4294967296) - 1)))), (5, .loc 0 0), (4, .bool false), (3, .int .i64 0), (2, .int .i64 0)] [True, True] (by kernel_rfl) ⟨trivial, trivial, trivial⟩ ?_
        refine qend (by kernel_rfl) ?_
        refine an ?_
        refine xw_ret ?_
        exact bk_ret (.tup [.int .i64 ((a / 4294967296) - 1), .int .i64 (a % 4294967296), .bool true]) (.tup [.int .i64 ((a / 4294967296) - 1), .int .i64 (a % 4294967296), .bool true]) (.tup [.int .i64 (a / 4294967296 - 1), .int .i64 (a % 4294967296), .bool true]) (by kernel_rfl) (by kernel_rfl) (wkd [(((a / 4294967296) - 1) : Int) = (a / 4294967296 - 1), ((a % 4294967296) : Int) = (a % 4294967296), true = true] (by kernel_rfl) ⟨(by first | omega | grind), rfl, rfl, trivial⟩) (Or.inl <| ⟨(by omega), rfl⟩)

theorem pwhere_1 (a : Int) (hp0 : 0 ≤ a ∧ a ≤ 18446744073709551615) (hp1 : 1 ≤ a / 4294967296 ∧ a / 4294967296 ≤ 2) : Pub Try.prog 78 [.int .u64 a] (fun t => t = .tup [.int .i64 (a / 4294967296 - 1), .int .i64 (a % 4294967296), .bool true]) := by
  refine (pwhere a hp0).mono ?_
  rintro _ (⟨g0, rfl⟩ | ⟨g0, rfl⟩)
  · rfl
  · exfalso; first | omega | grind

theorem pwhere_2 (a : Int) (hp0 : 0 ≤ a ∧ a ≤ 18446744073709551615) (hp1 : ¬ (1 ≤ a / 4294967296 ∧ a / 4294967296 ≤ 2)) : Pub Try.prog 78 [.int .u64 a] (fun t => t = .tup [.int .i64 0, .int .i64 0, .bool false]) := by
  refine (pwhere a hp0).mono ?_
  rintro _ (⟨g0, rfl⟩ | ⟨g0, rfl⟩)
  · exfalso; first | omega | grind
  · rfl

theorem padd (a : Int) (b : Int) (hp0 : -9223372036854775808 ≤ a ∧ a ≤ 9223372036854775807) (hp1 : -9223372036854775808 ≤ b ∧ b ≤ 9223372036854775807) : Pub Try.prog 84 [.int .i64 a, .int .i64 b] (fun t => ((0 ≤ a ∧ 0 ≤ b ∧ a + b ≤ 9223372036854775807) ∧ t = .tup [.int .i64 (a + b), .bool true]) ∨ ((¬ (0 ≤ a ∧ 0 ≤ b ∧ a + b ≤ 9223372036854775807)) ∧ t = .tup [.int .i64 0, .bool false])) := by
  refine pub_of TT_ok Try.func84 rfl (by decide) (Nat.le_of_ble_eq_true (by kernel_rfl)) (by kernel_rfl) ?_
  refine xw_seq ?_
  refine reg ?_
  refine runk TT_ok [] 4 0 [5, 4, 3, 2] [1, 0] ⟨[(5, .bool false), (4, .int .i64 0), (3, .loc 1 0), (2, .loc 0 0)], [(1, .cells [.int .i64 b] 3), (0, .cells [.int .i64 a] 3)], 2⟩ [] (by kernel_rfl) trivial ?_
  refine endr (by kernel_rfl) ?_
  refine an ?_
  refine xw_seq ?_
  refine reg ?_
  refine runk TT_ok [] 2 0 [6, 5, 4, 3, 2] [1, 0] ⟨[(6, .fn 86 [] [.loc 0 0, .loc 1 0]), (5, .bool false), (4, .int .i64 0), (3, .loc 1 0), (2, .loc 0 0)], [(1, .cells [.int .i64 b] 3), (0, .cells [.int .i64 a] 3)], 2⟩ [] (by kernel_rfl) trivial ?_
  refine endr (by kernel_rfl) ?_
  refine an ?_
  refine xw_seq ?_
  refine xw_block ?_
  refine xw_seq ?_
  refine xw_block ?_
  refine xw_block ?_
  refine xw_seq ?_
  refine xw_seq ?_
  refine xw_seq ?_
  refine reg ?_
  refine runk TT_ok [] 1 0 [9, 5, 4, 3, 2] [1, 0] ⟨[(9, .fn 86 [] [.loc 0 0, .loc 1 0]), (5, .bool false), (4, .int .i64 0), (3, .loc 1 0), (2, .loc 0 0)], [(1, .cells [.int .i64 b] 3), (0, .cells [.int .i64 a] 3)], 2⟩ [] (by kernel_rfl) trivial ?_
  refine callx (f := 86) (args := [.loc 0 0, .loc 1 0]) (d := (some 10)) (by kernel_rfl) (xcall_of TT_ok Try.func86 rfl (by decide) (by decide) ?_)
  refine xw_seq ?_
  refine reg ?_
  refine runk TT_ok [] 1 0 [2, 0, 1] [1, 0] ⟨[(2, .bool false), (0, .loc 0 0), (1, .loc 1 0)], [(1, .cells [.int .i64 b] 3), (0, .cells [.int .i64 a] 3)], 2⟩ [] (by kernel_rfl) trivial ?_
  refine endr (by kernel_rfl) ?_
  refine an ?_
  refine xw_seq ?_
  refine reg ?_
  refine runk TT_ok [(1, .bool (decide (a < 0)))] 3 0 [5, 2, 1] [1, 0] ⟨[(5, .bool (decide (a < 0))), (2, .bool false), (1, .loc 1 0)], [(1, .cells [.int .i64 b] 3), (0, .cells [.int .i64 a] 3)], 2⟩ [True, (decide (a < 0)) = (decide (a < 0))] (by kernel_rfl) ⟨trivial, rfl, trivial⟩ ?_
  refine splitr 5 (x := (decide (a < 0))) (by kernel_rfl) (fun h0 => ?_) (fun h0 => ?_)
  · replace h0 : a < 0 := of_decide_eq_true h0
    refine runk TT_ok [] 4 3 [2] [1, 0] ⟨[(2, .bool true)], [(1, .cells [.int .i64 b] 3), (0, .cells [.int .i64 a] 3)], 2⟩ [True] (by kernel_rfl) ⟨trivial, trivial⟩ ?_
    refine endr (by kernel_rfl) ?_
    refine an ?_
    refine xw_ret ?_
    refine ⟨.bool true, by kernel_rfl, ?_⟩
    show XOi _ _ _ _ _ _ ⟨[(10, .bool true), (9, .fn 86 [] [.loc 0 0, .loc 1 0]), (5, .bool false), (4, .int .i64 0), (3, .loc 1 0), (2, .loc 0 0)], [(1, .cells [.int .i64 b] 3), (0, .cells [.int .i64 a] 3)], 2⟩
    refine runk TT_ok [] 1 2 [8, 5, 4, 3, 2] [1, 0] ⟨[(8, .bool true), (5, .bool false), (4, .int .i64 0), (3, .loc 1 0), (2, .loc 0 0)], [(1, .cells [.int .i64 b] 3), (0, .cells [.int .i64 a] 3)], 2⟩ [] (by kernel_rfl) trivial ?_
    refine endr (by kernel_rfl) ?_
    refine an ?_
    refine xw_true (by kernel_rfl) ?_
    refine xw_exit ?_
    refine an_exit ?_
    refine an_exit ?_
    refine ib_same ?_
    refine ib ?_
    refine an ?_
    refine xw_seq ?_
    refine xw_seq ?_
    refine reg ?_
    refine runk TT_ok [] 2 0 [5, 4, 3, 2] [1, 0] ⟨[(5, .bool false), (4, .int .i64 0), (3, .loc 1 0), (2, .loc 0 0)], [(1, .cells [.int .i64 b] 3), (0, .cells [.int .i64 a] 3)], 2⟩ [] (by kernel_rfl) trivial ?_
    refine endr (by kernel_rfl) ?_
    refine an ?_
    refine xw_ret ?_
    refine an_ret ?_
    refine ib_ret ?_
    refine an_ret ?_
    exact bk_ret (.tup [.int .i64 0, .bool false]) (.tup [.int .i64 0, .bool false]) (.tup [.int .i64 0, .bool false]) (by kernel_rfl) (by kernel_rfl) (wkd [(0 : Int) = 0, false = false] (by kernel_rfl) ⟨rfl, rfl, trivial⟩) (Or.inr <| ⟨(by omega), rfl⟩)
  · replace h0 : ¬ (a < 0) := of_decide_eq_false h0
    refine runk TT_ok [(4, .bool (decide (b < 0)))] 4 3 [2] [1, 0] ⟨[(2, .bool (decide (b < 0)))], [(1, .cells [.int .i64 b] 3), (0, .cells [.int .i64 a] 3)], 2⟩ [True, (decide (b < 0)) = (decide (b < 0)), True] (by kernel_rfl) ⟨trivial, rfl, trivial, trivial⟩ ?_
    refine endr (by kernel_rfl) ?_
    refine an ?_
    refine xw_ret ?_
    refine ⟨.bool (decide (b < 0)), by kernel_rfl, ?_⟩
    show XOi _ _ _ _ _ _ ⟨[(10, .bool (decide (b < 0))), (9, .fn 86 [] [.loc 0 0, .loc 1 0]), (5, .bool false), (4, .int .i64 0), (3, .loc 1 0), (2, .loc 0 0)], [(1, .cells [.int .i64 b] 3), (0, .cells [.int .i64 a] 3)], 2⟩
    refine runk TT_ok [] 1 2 [8, 5, 4, 3, 2] [1, 0] ⟨[(8, .bool (decide (b < 0))), (5, .bool false), (4, .int .i64 0), (3, .loc 1 0), (2, .loc 0 0)], [(1, .cells [.int .i64 b] 3), (0, .cells [.int .i64 a] 3)], 2⟩ [] (by kernel_rfl) trivial ?_
    refine endr (by kernel_rfl) ?_
    refine an ?_
    refine xw_cond (b := (decide (b < 0))) (by kernel_rfl) (fun h1 => ?_) (fun h1 => ?_)
    · replace h1 : b < 0 := of_decide_eq_true h1
      refine xw_exit ?_
      refine an_exit ?_
      refine an_exit ?_
      refine ib_same ?_
      refine ib ?_
      refine an ?_
      refine xw_seq ?_
      refine xw_seq ?_
      refine reg ?_
      refine runk TT_ok [] 2 0 [5, 4, 3, 2] [1, 0] ⟨[(5, .bool false), (4, .int .i64 0), (3, .loc 1 0), (2, .loc 0 0)], [(1, .cells [.int .i64 b] 3), (0, .cells [.int .i64 a] 3)], 2⟩ [] (by kernel_rfl) trivial ?_
      refine endr (by kernel_rfl) ?_
      refine an ?_
      refine xw_ret ?_
      refine an_ret ?_
      refine ib_ret ?_
      refine an_ret ?_
      exact bk_ret (.tup [.int .i64 0, .bool false]) (.tup [.int .i64 0, .bool false]) (.tup [.int .i64 0, .bool false]) (by kernel_rfl) (by kernel_rfl) (wkd [(0 : Int) = 0, false = false] (by kernel_rfl) ⟨rfl, rfl, trivial⟩) (Or.inr <| ⟨(by omega), rfl⟩)
    · replace h1 : ¬ (b < 0) := of_decide_eq_false h1
      refine xw_skip ?_
      refine an ?_
      refine xw_seq ?_
      refine reg ?_
      refine runk TT_ok [] 2 0 [13, 12, 5, 4, 3, 2] [1, 0] ⟨[(13, .int .i64 b), (12, .int .i64 a), (5, .bool false), (4, .int .i64 0), (3, .loc 1 0), (2, .loc 0 0)], [(1, .cells [.int .i64 b] 3), (0, .cells [.int .i64 a] 3)], 2⟩ [True, True] (by kernel_rfl) ⟨trivial, trivial, trivial⟩ ?_
      by_cases h2 : (a + b) ≤ 9223372036854775807
      · skip
        refine runk TT_ok [(2, .int .i64 (a + b)), (3, .bool false)] 3 2 [11, 5, 4, 3, 2] [1, 0] ⟨[(11, .bool false), (5, .bool false), (4, .int .i64 0), (3, .loc 1 0), (2, .loc 0 0)], [(1, .cells [.int .i64 b] 3), (0, .cells [.int .i64 a] 3)], 2⟩ [IntKind.i64.wrap (a + b) = (a + b), (decide ((a + b) < 0)) = false] (by kernel_rfl) ⟨i64_eq (by omega) (by omega), decide_eq_false (by omega), trivial⟩ ?_
        refine endr (by kernel_rfl) ?_
        refine an ?_
        refine xw_false (by kernel_rfl) ?_
        refine xw_skip ?_
        refine an ?_
        refine xw_exit ?_
        refine ib_exit (by kernel_rfl) ?_
        refine ib_exit (by kernel_rfl) ?_
        refine an_exit ?_
        refine ib_same ?_
        refine an ?_
        refine xw_seq ?_
        refine reg ?_
        refine runk TT_ok [(2, .int .i64 (a + b))] 5 0 [5, 4] [] ⟨[(5, .bool true), (4, .int .i64 (a + b))], [], 2⟩ [True, True, IntKind.i64.wrap (a + b) = (a + b)] (by kernel_rfl) ⟨trivial, trivial, i64_eq (by omega) (by omega), trivial⟩ ?_
        refine endr (by kernel_rfl) ?_
        refine an ?_
        refine xw_ret ?_
        exact bk_ret (.tup [.int .i64 (a + b), .bool true]) (.tup [.int .i64 (a + b), .bool true]) (.tup [.int .i64 (a + b), .bool true]) (by kernel_rfl) (by kernel_rfl) (wkd [((a + b) : Int) = (a + b), true = true] (by kernel_rfl) ⟨rfl, rfl, trivial⟩) (Or.inl <| ⟨(by omega), rfl⟩)
      · skip
        refine runk TT_ok [(2, .int .i64 ((a + b) - 18446744073709551616)), (3, .bool true)] 3 2 [11, 5, 4, 3, 2] [1, 0] ⟨[(11, .bool true), (5, .bool false), (4, .int .i64 0), (3, .loc 1 0), (2, .loc 0 0)], [(1, .cells [.int .i64 b] 3), (0, .cells [.int .i64 a] 3)], 2⟩ [IntKind.i64.wrap (a + b) = ((a + b) - 18446744073709551616), (decide (((a + b) - 18446744073709551616) < 0)) = true] (by kernel_rfl) ⟨i64_off (by omega) (by omega), decide_eq_true (by omega), trivial⟩ ?_
        refine endr (by kernel_rfl) ?_
        refine an ?_
        refine xw_true (by kernel_rfl) ?_
        refine xw_exit ?_
        refine an_exit ?_
        refine ib_exit (by kernel_rfl) ?_
        refine ib_same ?_
        refine an ?_
        refine xw_seq ?_
        refine xw_seq ?_
        refine reg ?_
        refine runk TT_ok [] 2 0 [5, 4, 3, 2] [1, 0] ⟨[(5, .bool false), (4, .int .i64 0), (3, .loc 1 0), (2, .loc 0 0)], [(1, .cells [.int .i64 b] 3), (0, .cells [.int .i64 a] 3)], 2⟩ [] (by kernel_rfl) trivial ?_
        refine endr (by kernel_rfl) ?_
        refine an ?_
        refine xw_ret ?_
        refine an_ret ?_
        refine ib_ret ?_
        refine an_ret ?_
        exact bk_ret (.tup [.int .i64 0, .bool false]) (.tup [.int .i64 0, .bool false]) (.tup [.int .i64 0, .bool false]) (by kernel_rfl) (by kernel_rfl) (wkd [(0 : Int) = 0, false = false] (by kernel_rfl) ⟨rfl, rfl, trivial⟩) (Or.inr <| ⟨(by omega), rfl⟩)

theorem padd_1 (a : Int) (b : Int) (hp0 : -9223372036854775808 ≤ a ∧ a ≤ 9223372036854775807) (hp1 : -9223372036854775808 ≤ b ∧ b ≤ 9223372036854775807) (hp2 : 0 ≤ a ∧ 0 ≤ b ∧ a + b ≤ 9223372036854775807) : Pub Try.prog 84 [.int .i64 a, .int .i64 b] (fun t => t = .tup [.int .i64 (a + b), .bool true]) := by
  refine (padd a b hp0 hp1).mono ?_
  rintro _ (⟨g0, rfl⟩ | ⟨g0, rfl⟩)
  · rfl
  · exfalso; first | omega | grind

theorem padd_2 (a : Int) (b : Int) (hp0 : -9223372036854775808 ≤ a ∧ a ≤ 9223372036854775807) (hp1 : -9223372036854775808 ≤ b ∧ b ≤ 9223372036854775807) (hp2 : ¬ (0 ≤ a ∧ 0 ≤ b ∧ a + b ≤ 9223372036854775807)) : Pub Try.prog 84 [.int .i64 a, .int .i64 b] (fun t => t = .tup [.int .i64 0, .bool false]) := by
  refine (padd a b hp0 hp1).mono ?_
  rintro _ (⟨g0, rfl⟩ | ⟨g0, rfl⟩)
  · exfalso; first | omega | grind
  · rfl

theorem bumpRow (s : Int) (a : Int) (l : Int) (n : Int) (m : Int) (hp0 : -9223372036854775808 ≤ s ∧ s ≤ 9223372036854775807) (hp1 : -9223372036854775808 ≤ a ∧ a ≤ 9223372036854775807) (hp2 : -9223372036854775808 ≤ l ∧ l ≤ 9223372036854775807) (hp3 : -9223372036854775808 ≤ n ∧ n ≤ 9223372036854775807) (hp4 : -9223372036854775808 ≤ m ∧ m ≤ 9223372036854775807) : Pub Try.prog 3 [.agg [.int .i64 s, .int .i64 a, .int .i64 l], .int .i64 n, .int .i64 m] (fun t => t = .bool true) := by
  refine pub_of TT_ok Try.func3 rfl (by decide) (Nat.le_of_ble_eq_true (by kernel_rfl)) (by kernel_rfl) ?_
  refine xw_seq ?_
  refine reg ?_
  refine runk TT_ok [] 2 0 [6, 3, 1, 2] [0] ⟨[(6, .bool false), (3, .loc 0 0), (1, .int .i64 n), (2, .int .i64 m)], [(0, .cells [.int .i64 s, .int .i64 a, .int .i64 l] 23)], 1⟩ [] (by kernel_rfl) trivial ?_
  refine endr (by kernel_rfl) ?_
  refine an ?_
  refine xw_seq ?_
  refine reg ?_
  refine pcall1 (args := []) (args' := []) (d := (some 14)) (sv := .bool true) (by kernel_rfl) (shown7 ) [] (by kernel_rfl) trivial (by kernel_rfl) ?_
  refine runk TT_ok [] 1 1 [7, 6, 3, 1, 2] [0] ⟨[(7, .bool true), (6, .bool false), (3, .loc 0 0), (1, .int .i64 n), (2, .int .i64 m)], [(0, .cells [.int .i64 s, .int .i64 a, .int .i64 l] 23)], 1⟩ [] (by kernel_rfl) trivial ?_
  refine endr (by kernel_rfl) ?_
  refine an ?_
  refine xw_seq ?_
  refine reg ?_
  refine runk TT_ok [] 2 0 [17, 16, 7, 6, 3, 1, 2] [0] ⟨[(17, .int .i64 n), (16, .agg [.int .i64 s, .int .i64 a, .int .i64 l]), (7, .bool true), (6, .bool false), (3, .loc 0 0), (1, .int .i64 n), (2, .int .i64 m)], [(0, .cells [.int .i64 s, .int .i64 a, .int .i64 l] 23)], 1⟩ [True] (by kernel_rfl) ⟨trivial, trivial⟩ ?_
  by_cases h0 : ((s = 0 ∨ s = 1) ∧ 0 ≤ a ∧ a ≤ l ∧ l ≤ 4096) ∧ (1 ≤ n) ∧ (n ≤ l - a)
  · skip
    refine pcall1 (args := [.agg [.int .i64 s, .int .i64 a, .int .i64 l], .int .i64 n]) (args' := [.agg [.int .i64 s, .int .i64 a, .int .i64 l], .int .i64 n]) (d := (some 18)) (sv := .tup [.agg [.int .i64 s, .int .i64 (a + n), .int .i64 l], .int .u64 ((s + 1) * 4294967296 + a), .int .i64 0]) (by kernel_rfl) (take_1 s a l n (by omega) (by omega) (by omega)) [(s : Int) = s, (a : Int) = a, (l : Int) = l, (n : Int) = n] (by kernel_rfl) ⟨rfl, rfl, rfl, rfl, trivial⟩ (by kernel_rfl) ?_
    refine runk TT_ok [] 8 3 [10, 9, 8, 7, 6, 3, 1, 2] [1, 0] ⟨[(10, .int .i64 0), (9, .int .u64 ((s + 1) * 4294967296 + a)), (8, .loc 1 0), (7, .bool true), (6, .bool false), (3, .loc 0 0), (1, .int .i64 n), (2, .int .i64 m)], [(1, .cells [.int .i64 s, .int .i64 (a + n), .int .i64 l] 23), (0, .cells [.int .i64 s, .int .i64 a, .int .i64 l] 23)], 2⟩ [True] (by kernel_rfl) ⟨trivial, trivial⟩ ?_
    refine endr (by kernel_rfl) ?_
    refine an ?_
    refine xw_seq ?_
    refine xw_seq ?_
    refine reg ?_
    refine runk TT_ok [(1, .bool false)] 2 0 [23, 9, 8, 7, 6, 3, 1, 2] [1, 0] ⟨[(23, .bool false), (9, .int .u64 ((s + 1) * 4294967296 + a)), (8, .loc 1 0), (7, .bool true), (6, .bool false), (3, .loc 0 0), (1, .int .i64 n), (2, .int .i64 m)], [(1, .cells [.int .i64 s, .int .i64 (a + n), .int .i64 l] 23), (0, .cells [.int .i64 s, .int .i64 a, .int .i64 l] 23)], 2⟩ [(0 != 0) = false] (by kernel_rfl) ⟨bne_eq_false_iff_eq.2 (by omega), trivial⟩ ?_
    refine endr (by kernel_rfl) ?_
    refine an ?_
    refine xw_false (by kernel_rfl) ?_
    refine xw_skip ?_
    refine an ?_
    refine xw_seq ?_
    refine reg ?_
    refine runk TT_ok [] 2 0 [36, 35, 9, 8, 7, 6, 3, 1, 2] [1, 0] ⟨[(36, .int .i64 m), (35, .agg [.int .i64 s, .int .i64 (a + n), .int .i64 l]), (9, .int .u64 ((s + 1) * 4294967296 + a)), (8, .loc 1 0), (7, .bool true), (6, .bool false), (3, .loc 0 0), (1, .int .i64 n), (2, .int .i64 m)], [(1, .cells [.int .i64 s, .int .i64 (a + n), .int .i64 l] 23), (0, .cells [.int .i64 s, .int .i64 a, .int .i64 l] 23)], 2⟩ [True] (by kernel_rfl) ⟨trivial, trivial⟩ ?_
    by_cases h1 : (1 ≤ m) ∧ (m ≤ l - (a + n))
    · skip
      refine pcall1 (args := [.agg [.int .i64 s, .int .i64 (a + n), .int .i64 l], .int .i64 m]) (args' := [.agg [.int .i64 s, .int .i64 (a + n), .int .i64 l], .int .i64 m]) (d := (some 37)) (sv := .tup [.agg [.int .i64 s, .int .i64 ((a + n) + m), .int .i64 l], .int .u64 ((s + 1) * 4294967296 + (a + n)), .int .i64 0]) (by kernel_rfl) (take_1 s (a + n) l m (by omega) (by omega) (by omega)) [(s : Int) = s, ((a + n) : Int) = (a + n), (l : Int) = l, (m : Int) = m] (by kernel_rfl) ⟨rfl, rfl, rfl, rfl, trivial⟩ (by kernel_rfl) ?_
      refine runk TT_ok [] 8 3 [13, 12, 11, 9, 8, 7, 6, 3, 1, 2] [2, 1, 0] ⟨[(13, .int .i64 0), (12, .int .u64 ((s + 1) * 4294967296 + (a + n))), (11, .loc 2 0), (9, .int .u64 ((s + 1) * 4294967296 + a)), (8, .loc 1 0), (7, .bool true), (6, .bool false), (3, .loc 0 0), (1, .int .i64 n), (2, .int .i64 m)], [(2, .cells [.int .i64 s, .int .i64 ((a + n) + m), .int .i64 l] 23), (1, .cells [.int .i64 s, .int .i64 (a + n), .int .i64 l] 23), (0, .cells [.int .i64 s, .int .i64 a, .int .i64 l] 23)], 3⟩ [True] (by kernel_rfl) ⟨trivial, trivial⟩ ?_
      refine endr (by kernel_rfl) ?_
      refine an ?_
      refine xw_seq ?_
      refine xw_seq ?_
      refine dregk hmix (by kernel_rfl) ?_
      refine qrun' TT_ok [] 1 0 [(41, .agg [.int .i64 s, .int .i64 (a + n), .int .i64 l]), (13, .int .i64 0), (12, .int .u64 ((s + 1) * 4294967296 + (a + n))), (11, .loc 2 0), (9, .int .u64 ((s + 1) * 4294967296 + a)), (8, .loc 1 0), (7, .bool true), (6, .bool false), (3, .loc 0 0), (1, .int .i64 n), (2, .int .i64 m)] [True] (by kernel_rfl) ⟨trivial, trivial⟩ ?_
      refine pqcall (args := [.agg [.int .i64 s, .int .i64 (a + n), .int .i64 l]]) (args' := [.agg [.int .i64 s, .int .i64 (a + n), .int .i64 l]]) (d := (some 42)) (sv := .int .i64 (l - (a + n))) (by kernel_rfl) (left_1 s (a + n) l (by omega)) [(s : Int) = s, ((a + n) : Int) = (a + n), (l : Int) = l] (by kernel_rfl) ⟨rfl, rfl, rfl, trivial⟩ (by kernel_rfl) ?_
      refine qrun' TT_ok [] 1 2 [(43, .agg [.int .i64 s, .int .i64 a, .int .i64 l]), (42, .int .i64 (l - (a + n))), (41, .agg [.int .i64 s, .int .i64 (a + n), .int .i64 l]), (13, .int .i64 0), (12, .int .u64 ((s + 1) * 4294967296 + (a + n))), (11, .loc 2 0), (9, .int .u64 ((s + 1) * 4294967296 + a)), (8, .loc 1 0), (7, .bool true), (6, .bool false), (3, .loc 0 0), (1, .int .i64 n), (2, .int .i64 m)] [True] (by kernel_rfl) ⟨trivial, trivial⟩ ?_
      refine pqcall (args := [.agg [.int .i64 s, .int .i64 a, .int .i64 l]]) (args' := [.agg [.int .i64 s, .int .i64 a, .int .i64 l]]) (d := (some 44)) (sv := .int .i64 (l - a)) (by kernel_rfl) (left_1 s a l (by omega)) [(s : Int) = s, (a : Int) = a, (l : Int) = l] (by kernel_rfl) ⟨rfl, rfl, rfl, trivial⟩ (by kernel_rfl) ?_
      refine qrun' TT_ok [(5, .int .i64 ((l - a) - n)), (6, .bool false)] 5 4 [(49, .agg [.int .i64 s, .int .i64 (a + n), .int .i64 l]), (48, .bool false), (47, .bool false), (46, .int .i64 ((l - a) - n)), (45, .int .i64 n), (44, .int .i64 (l - a)), (43, .agg [.int .i64 s, .int .i64 a, .int .i64 l]), (42, .int .i64 (l - (a + n))), (41, .agg [.int .i64 s, .int .i64 (a + n), .int .i64 l]), (13, .int .i64 0), (12, .int .u64 ((s + 1) * 4294967296 + (a + n))), (11, .loc 2 0), (9, .int .u64 ((s + 1) * 4294967296 + a)), (8, .loc 1 0), (7, .bool true), (6, .bool false), (3, .loc 0 0), (1, .int .i64 n), (2, .int .i64 m)] [IntKind.i64.wrap ((l - a) - n) = ((l - a) - n), ((l - (a + n)) != ((l - a) - n)) = false, True] (by kernel_rfl) ⟨i64_eq (by omega) (by omega), bne_eq_false_iff_eq.2 (by omega), trivial, trivial⟩ ?_
      refine pqcall (args := [.agg [.int .i64 s, .int .i64 (a + n), .int .i64 l]]) (args' := [.agg [.int .i64 s, .int .i64 (a + n), .int .i64 l]]) (d := (some 50)) (sv := .bool true) (by kernel_rfl) (right_1 s (a + n) l (by omega)) [(s : Int) = s, ((a + n) : Int) = (a + n), (l : Int) = l] (by kernel_rfl) ⟨rfl, rfl, rfl, trivial⟩ (by kernel_rfl) ?_
      refine qrun' TT_ok [] 2 10 [(52, .bool false), (51, .bool false), (50, .bool true), (49, .agg [.int .i64 s, .int .i64 (a + n), .int .i64 l]), (48, .bool false), (47, .bool false), (46, .int .i64 ((l - a) - n)), (45, .int .i64 n), (44, .int .i64 (l - a)), (43, .agg [.int .i64 s, .int .i64 a, .int .i64 l]), (42, .int .i64 (l - (a + n))), (41, .agg [.int .i64 s, .int .i64 (a + n), .int .i64 l]), (13, .int .i64 0), (12, .int .u64 ((s + 1) * 4294967296 + (a + n))), (11, .loc 2 0), (9, .int .u64 ((s + 1) * 4294967296 + a)), (8, .loc 1 0), (7, .bool true), (6, .bool false), (3, .loc 0 0), (1, .int .i64 n), (2, .int .i64 m)] [True] (by kernel_rfl) ⟨trivial, trivial⟩ ?_
      refine qend (by kernel_rfl) ?_
      refine an ?_
      refine xw_false (by kernel_rfl) ?_
      refine xw_skip ?_
      refine an ?_
      refine xw_seq ?_
      refine dregk hmix (by kernel_rfl) ?_
      refine qrun' TT_ok [(3, .bool false), (8, .int .i64 n), (9, .int .i64 (((s + 1) * 4294967296 + a) + n)), (10, .bool true)] 13 0 [(65, .agg [.int .i64 s, .int .i64 ((a + n) + m), .int .i64 l]), (64, .bool true), (63, .bool true), (62, .int .u64 (((s + 1) * 4294967296 + a) + n)), (61, .int .u64 n), (60, .int .i64 n), (59, .int .u64 ((s + 1) * 4294967296 + a)), (58, .int .u64 ((s + 1) * 4294967296 + (a + n))), (57, .bool false), (56, .bool false), (55, .int .i64 0), (54, .bool true), (53, .bool true), (52, .bool false), (51, .bool false), (50, .bool true), (49, .agg [.int .i64 s, .int .i64 (a + n), .int .i64 l]), (48, .bool false), (47, .bool false), (46, .int .i64 ((l - a) - n)), (45, .int .i64 n), (44, .int .i64 (l - a)), (43, .agg [.int .i64 s, .int .i64 a, .int .i64 l]), (42, .int .i64 (l - (a + n))), (41, .agg [.int .i64 s, .int .i64 (a + n), .int .i64 l]), (13, .int .i64 0), (12, .int .u64 ((s + 1) * 4294967296 + (a + n))), (11, .loc 2 0), (9, .int .u64 ((s + 1) * 4294967296 + a)), (8, .loc 1 0), (7, .bool true), (6, .bool false), (3, .loc 0 0), (1, .int .i64 n), (2, .int .i64 m)] [(0 != 0) = false, IntKind.u64.wrap n = n, IntKind.u64.wrap (((s + 1) * 4294967296 + a) + n) = (((s + 1) * 4294967296 + a) + n), (((s + 1) * 4294967296 + (a + n)) == (((s + 1) * 4294967296 + a) + n)) = true, True] (by kernel_rfl) ⟨bne_eq_false_iff_eq.2 (by omega), u64_in (by omega), u64_eq (by omega) (by omega), beq_iff_eq.2 (by omega), trivial, trivial⟩ ?_
      refine pqcall (args := [.agg [.int .i64 s, .int .i64 ((a + n) + m), .int .i64 l]]) (args' := [.agg [.int .i64 s, .int .i64 ((a + n) + m), .int .i64 l]]) (d := (some 66)) (sv := .int .i64 (l - ((a + n) + m))) (by kernel_rfl) (left_1 s ((a + n) + m) l (by omega)) [(s : Int) = s, (((a + n) + m) : Int) = ((a + n) + m), (l : Int) = l] (by kernel_rfl) ⟨rfl, rfl, rfl, trivial⟩ (by kernel_rfl) ?_
      refine qrun' TT_ok [] 1 14 [(67, .agg [.int .i64 s, .int .i64 (a + n), .int .i64 l]), (66, .int .i64 (l - ((a + n) + m))), (65, .agg [.int .i64 s, .int .i64 ((a + n) + m), .int .i64 l]), (64, .bool true), (63, .bool true), (62, .int .u64 (((s + 1) * 4294967296 + a) + n)), (61, .int .u64 n), (60, .int .i64 n), (59, .int .u64 ((s + 1) * 4294967296 + a)), (58, .int .u64 ((s + 1) * 4294967296 + (a + n))), (57, .bool false), (56, .bool false), (55, .int .i64 0), (54, .bool true), (53, .bool true), (52, .bool false), (51, .bool false), (50, .bool true), (49, .agg [.int .i64 s, .int .i64 (a + n), .int .i64 l]), (48, .bool false), (47, .bool false), (46, .int .i64 ((l - a) - n)), (45, .int .i64 n), (44, .int .i64 (l - a)), (43, .agg [.int .i64 s, .int .i64 a, .int .i64 l]), (42, .int .i64 (l - (a + n))), (41, .agg [.int .i64 s, .int .i64 (a + n), .int .i64 l]), (13, .int .i64 0), (12, .int .u64 ((s + 1) * 4294967296 + (a + n))), (11, .loc 2 0), (9, .int .u64 ((s + 1) * 4294967296 + a)), (8, .loc 1 0), (7, .bool true), (6, .bool false), (3, .loc 0 0), (1, .int .i64 n), (2, .int .i64 m)] [True] (by kernel_rfl) ⟨trivial, trivial⟩ ?_
      refine pqcall (args := [.agg [.int .i64 s, .int .i64 (a + n), .int .i64 l]]) (args' := [.agg [.int .i64 s, .int .i64 (a + n), .int .i64 l]]) (d := (some 68)) (sv := .int .i64 (l - (a + n))) (by kernel_rfl) (left_1 s (a + n) l (by omega)) [(s : Int) = s, ((a + n) : Int) = (a + n), (l : Int) = l] (by kernel_rfl) ⟨rfl, rfl, rfl, trivial⟩ (by kernel_rfl) ?_
      refine qrun' TT_ok [(17, .int .i64 ((l - (a + n)) - m)), (18, .bool true)] 7 16 [(6, .bool true), (74, .bool true), (73, .bool true), (72, .bool true), (71, .bool true), (70, .int .i64 ((l - (a + n)) - m)), (69, .int .i64 m), (68, .int .i64 (l - (a + n))), (67, .agg [.int .i64 s, .int .i64 (a + n), .int .i64 l]), (66, .int .i64 (l - ((a + n) + m))), (65, .agg [.int .i64 s, .int .i64 ((a + n) + m), .int .i64 l]), (64, .bool true), (63, .bool true), (62, .int .u64 (((s + 1) * 4294967296 + a) + n)), (61, .int .u64 n), (60, .int .i64 n), (59, .int .u64 ((s + 1) * 4294967296 + a)), (58, .int .u64 ((s + 1) * 4294967296 + (a + n))), (57, .bool false), (56, .bool false), (55, .int .i64 0), (54, .bool true), (53, .bool true), (52, .bool false), (51, .bool false), (50, .bool true), (49, .agg [.int .i64 s, .int .i64 (a + n), .int .i64 l]), (48, .bool false), (47, .bool false), (46, .int .i64 ((l - a) - n)), (45, .int .i64 n), (44, .int .i64 (l - a)), (43, .agg [.int .i64 s, .int .i64 a, .int .i64 l]), (42, .int .i64 (l - (a + n))), (41, .agg [.int .i64 s, .int .i64 (a + n), .int .i64 l]), (13, .int .i64 0), (12, .int .u64 ((s + 1) * 4294967296 + (a + n))), (11, .loc 2 0), (9, .int .u64 ((s + 1) * 4294967296 + a)), (8, .loc 1 0), (7, .bool true), (6, .bool false), (3, .loc 0 0), (1, .int .i64 n), (2, .int .i64 m)] [IntKind.i64.wrap ((l - (a + n)) - m) = ((l - (a + n)) - m), ((l - ((a + n) + m)) == ((l - (a + n)) - m)) = true, True, True, True] (by kernel_rfl) ⟨i64_eq (by omega) (by omega), beq_iff_eq.2 (by omega), trivial, trivial, trivial, trivial⟩ ?_
      refine qend (by kernel_rfl) ?_
      refine an ?_
      refine xw_ret ?_
      exact bk_ret (.bool true) (.bool true) (.bool true) (by kernel_rfl) (by kernel_rfl) (wkd [true = true] (by kernel_rfl) ⟨rfl, trivial⟩) rfl
    · skip
      by_cases h2 : (1 ≤ m) ∧ (l - (a + n) < m)
      · skip
        refine pcall1 (args := [.agg [.int .i64 s, .int .i64 (a + n), .int .i64 l], .int .i64 m]) (args' := [.agg [.int .i64 s, .int .i64 (a + n), .int .i64 l], .int .i64 m]) (d := (some 37)) (sv := .tup [.agg [.int .i64 s, .int .i64 (a + n), .int .i64 l], .int .u64 0, .int .i64 4]) (by kernel_rfl) (take_2 s (a + n) l m (by omega) (by omega) (by omega)) [(s : Int) = s, ((a + n) : Int) = (a + n), (l : Int) = l, (m : Int) = m] (by kernel_rfl) ⟨rfl, rfl, rfl, rfl, trivial⟩ (by kernel_rfl) ?_
        refine runk TT_ok [] 8 3 [13, 12, 11, 9, 8, 7, 6, 3, 1, 2] [2, 1, 0] ⟨[(13, .int .i64 4), (12, .int .u64 0), (11, .loc 2 0), (9, .int .u64 ((s + 1) * 4294967296 + a)), (8, .loc 1 0), (7, .bool true), (6, .bool false), (3, .loc 0 0), (1, .int .i64 n), (2, .int .i64 m)], [(2, .cells [.int .i64 s, .int .i64 (a + n), .int .i64 l] 23), (1, .cells [.int .i64 s, .int .i64 (a + n), .int .i64 l] 23), (0, .cells [.int .i64 s, .int .i64 a, .int .i64 l] 23)], 3⟩ [True] (by kernel_rfl) ⟨trivial, trivial⟩ ?_
        refine endr (by kernel_rfl) ?_
        refine an ?_
        refine xw_seq ?_
        refine xw_seq ?_
        refine dregk hmix (by kernel_rfl) ?_
        refine qrun' TT_ok [] 1 0 [(41, .agg [.int .i64 s, .int .i64 (a + n), .int .i64 l]), (13, .int .i64 4), (12, .int .u64 0), (11, .loc 2 0), (9, .int .u64 ((s + 1) * 4294967296 + a)), (8, .loc 1 0), (7, .bool true), (6, .bool false), (3, .loc 0 0), (1, .int .i64 n), (2, .int .i64 m)] [True] (by kernel_rfl) ⟨trivial, trivial⟩ ?_
        refine pqcall (args := [.agg [.int .i64 s, .int .i64 (a + n), .int .i64 l]]) (args' := [.agg [.int .i64 s, .int .i64 (a + n), .int .i64 l]]) (d := (some 42)) (sv := .int .i64 (l - (a + n))) (by kernel_rfl) (left_1 s (a + n) l (by omega)) [(s : Int) = s, ((a + n) : Int) = (a + n), (l : Int) = l] (by kernel_rfl) ⟨rfl, rfl, rfl, trivial⟩ (by kernel_rfl) ?_
        refine qrun' TT_ok [] 1 2 [(43, .agg [.int .i64 s, .int .i64 a, .int .i64 l]), (42, .int .i64 (l - (a + n))), (41, .agg [.int .i64 s, .int .i64 (a + n), .int .i64 l]), (13, .int .i64 4), (12, .int .u64 0), (11, .loc 2 0), (9, .int .u64 ((s + 1) * 4294967296 + a)), (8, .loc 1 0), (7, .bool true), (6, .bool false), (3, .loc 0 0), (1, .int .i64 n), (2, .int .i64 m)] [True] (by kernel_rfl) ⟨trivial, trivial⟩ ?_
        refine pqcall (args := [.agg [.int .i64 s, .int .i64 a, .int .i64 l]]) (args' := [.agg [.int .i64 s, .int .i64 a, .int .i64 l]]) (d := (some 44)) (sv := .int .i64 (l - a)) (by kernel_rfl) (left_1 s a l (by omega)) [(s : Int) = s, (a : Int) = a, (l : Int) = l] (by kernel_rfl) ⟨rfl, rfl, rfl, trivial⟩ (by kernel_rfl) ?_
        refine qrun' TT_ok [(5, .int .i64 ((l - a) - n)), (6, .bool false)] 5 4 [(49, .agg [.int .i64 s, .int .i64 (a + n), .int .i64 l]), (48, .bool false), (47, .bool false), (46, .int .i64 ((l - a) - n)), (45, .int .i64 n), (44, .int .i64 (l - a)), (43, .agg [.int .i64 s, .int .i64 a, .int .i64 l]), (42, .int .i64 (l - (a + n))), (41, .agg [.int .i64 s, .int .i64 (a + n), .int .i64 l]), (13, .int .i64 4), (12, .int .u64 0), (11, .loc 2 0), (9, .int .u64 ((s + 1) * 4294967296 + a)), (8, .loc 1 0), (7, .bool true), (6, .bool false), (3, .loc 0 0), (1, .int .i64 n), (2, .int .i64 m)] [IntKind.i64.wrap ((l - a) - n) = ((l - a) - n), ((l - (a + n)) != ((l - a) - n)) = false, True] (by kernel_rfl) ⟨i64_eq (by omega) (by omega), bne_eq_false_iff_eq.2 (by omega), trivial, trivial⟩ ?_
        refine pqcall (args := [.agg [.int .i64 s, .int .i64 (a + n), .int .i64 l]]) (args' := [.agg [.int .i64 s, .int .i64 (a + n), .int .i64 l]]) (d := (some 50)) (sv := .bool true) (by kernel_rfl) (right_1 s (a + n) l (by omega)) [(s : Int) = s, ((a + n) : Int) = (a + n), (l : Int) = l] (by kernel_rfl) ⟨rfl, rfl, rfl, trivial⟩ (by kernel_rfl) ?_
        refine qrun' TT_ok [] 2 10 [(52, .bool false), (51, .bool false), (50, .bool true), (49, .agg [.int .i64 s, .int .i64 (a + n), .int .i64 l]), (48, .bool false), (47, .bool false), (46, .int .i64 ((l - a) - n)), (45, .int .i64 n), (44, .int .i64 (l - a)), (43, .agg [.int .i64 s, .int .i64 a, .int .i64 l]), (42, .int .i64 (l - (a + n))), (41, .agg [.int .i64 s, .int .i64 (a + n), .int .i64 l]), (13, .int .i64 4), (12, .int .u64 0), (11, .loc 2 0), (9, .int .u64 ((s + 1) * 4294967296 + a)), (8, .loc 1 0), (7, .bool true), (6, .bool false), (3, .loc 0 0), (1, .int .i64 n), (2, .int .i64 m)] [True] (by kernel_rfl) ⟨trivial, trivial⟩ ?_
        refine qend (by kernel_rfl) ?_
        refine an ?_
        refine xw_false (by kernel_rfl) ?_
        refine xw_skip ?_
        refine an ?_
        refine xw_seq ?_
        refine dregk hmix (by kernel_rfl) ?_
        refine qrun' TT_ok [(3, .bool true)] 23 0 [(6, .bool true), (74, .bool true), (73, .bool true), (72, .tup []), (71, .tup []), (70, .tup []), (69, .tup []), (68, .tup []), (67, .tup []), (66, .tup []), (65, .tup []), (64, .tup []), (63, .tup []), (62, .tup []), (61, .tup []), (60, .tup []), (59, .tup []), (58, .tup []), (57, .bool true), (56, .bool true), (55, .int .i64 4), (54, .bool true), (53, .bool true), (52, .bool false), (51, .bool false), (50, .bool true), (49, .agg [.int .i64 s, .int .i64 (a + n), .int .i64 l]), (48, .bool false), (47, .bool false), (46, .int .i64 ((l - a) - n)), (45, .int .i64 n), (44, .int .i64 (l - a)), (43, .agg [.int .i64 s, .int .i64 a, .int .i64 l]), (42, .int .i64 (l - (a + n))), (41, .agg [.int .i64 s, .int .i64 (a + n), .int .i64 l]), (13, .int .i64 4), (12, .int .u64 0), (11, .loc 2 0), (9, .int .u64 ((s + 1) * 4294967296 + a)), (8, .loc 1 0), (7, .bool true), (6, .bool false), (3, .loc 0 0), (1, .int .i64 n), (2, .int .i64 m)] [(4 != 0) = true, True, True] (by kernel_rfl) ⟨bne_iff_ne.2 (by omega), trivial, trivial, trivial⟩ ?_
        refine qend (by kernel_rfl) ?_
        refine an ?_
        refine xw_ret ?_
        exact bk_ret (.bool true) (.bool true) (.bool true) (by kernel_rfl) (by kernel_rfl) (wkd [true = true] (by kernel_rfl) ⟨rfl, trivial⟩) rfl
      · skip
        refine pcall1 (args := [.agg [.int .i64 s, .int .i64 (a + n), .int .i64 l], .int .i64 m]) (args' := [.agg [.int .i64 s, .int .i64 (a + n), .int .i64 l], .int .i64 m]) (d := (some 37)) (sv := .tup [.agg [.int .i64 s, .int .i64 (a + n), .int .i64 l], .int .u64 0, .int .i64 1]) (by kernel_rfl) (take_3 s (a + n) l m (by omega)) [(s : Int) = s, ((a + n) : Int) = (a + n), (l : Int) = l, (m : Int) = m] (by kernel_rfl) ⟨rfl, rfl, rfl, rfl, trivial⟩ (by kernel_rfl) ?_
        refine runk TT_ok [] 8 3 [13, 12, 11, 9, 8, 7, 6, 3, 1, 2] [2, 1, 0] ⟨[(13, .int .i64 1), (12, .int .u64 0), (11, .loc 2 0), (9, .int .u64 ((s + 1) * 4294967296 + a)), (8, .loc 1 0), (7, .bool true), (6, .bool false), (3, .loc 0 0), (1, .int .i64 n), (2, .int .i64 m)], [(2, .cells [.int .i64 s, .int .i64 (a + n), .int .i64 l] 23), (1, .cells [.int .i64 s, .int .i64 (a + n), .int .i64 l] 23), (0, .cells [.int .i64 s, .int .i64 a, .int .i64 l] 23)], 3⟩ [True] (by kernel_rfl) ⟨trivial, trivial⟩ ?_
        refine endr (by kernel_rfl) ?_
        refine an ?_
        refine xw_seq ?_
        refine xw_seq ?_
        refine dregk hmix (by kernel_rfl) ?_
        refine qrun' TT_ok [] 1 0 [(41, .agg [.int .i64 s, .int .i64 (a + n), .int .i64 l]), (13, .int .i64 1), (12, .int .u64 0), (11, .loc 2 0), (9, .int .u64 ((s + 1) * 4294967296 + a)), (8, .loc 1 0), (7, .bool true), (6, .bool false), (3, .loc 0 0), (1, .int .i64 n), (2, .int .i64 m)] [True] (by kernel_rfl) ⟨trivial, trivial⟩ ?_
        refine pqcall (args := [.agg [.int .i64 s, .int .i64 (a + n), .int .i64 l]]) (args' := [.agg [.int .i64 s, .int .i64 (a + n), .int .i64 l]]) (d := (some 42)) (sv := .int .i64 (l - (a + n))) (by kernel_rfl) (left_1 s (a + n) l (by omega)) [(s : Int) = s, ((a + n) : Int) = (a + n), (l : Int) = l] (by kernel_rfl) ⟨rfl, rfl, rfl, trivial⟩ (by kernel_rfl) ?_
        refine qrun' TT_ok [] 1 2 [(43, .agg [.int .i64 s, .int .i64 a, .int .i64 l]), (42, .int .i64 (l - (a + n))), (41, .agg [.int .i64 s, .int .i64 (a + n), .int .i64 l]), (13, .int .i64 1), (12, .int .u64 0), (11, .loc 2 0), (9, .int .u64 ((s + 1) * 4294967296 + a)), (8, .loc 1 0), (7, .bool true), (6, .bool false), (3, .loc 0 0), (1, .int .i64 n), (2, .int .i64 m)] [True] (by kernel_rfl) ⟨trivial, trivial⟩ ?_
        refine pqcall (args := [.agg [.int .i64 s, .int .i64 a, .int .i64 l]]) (args' := [.agg [.int .i64 s, .int .i64 a, .int .i64 l]]) (d := (some 44)) (sv := .int .i64 (l - a)) (by kernel_rfl) (left_1 s a l (by omega)) [(s : Int) = s, (a : Int) = a, (l : Int) = l] (by kernel_rfl) ⟨rfl, rfl, rfl, trivial⟩ (by kernel_rfl) ?_
        refine qrun' TT_ok [(5, .int .i64 ((l - a) - n)), (6, .bool false)] 5 4 [(49, .agg [.int .i64 s, .int .i64 (a + n), .int .i64 l]), (48, .bool false), (47, .bool false), (46, .int .i64 ((l - a) - n)), (45, .int .i64 n), (44, .int .i64 (l - a)), (43, .agg [.int .i64 s, .int .i64 a, .int .i64 l]), (42, .int .i64 (l - (a + n))), (41, .agg [.int .i64 s, .int .i64 (a + n), .int .i64 l]), (13, .int .i64 1), (12, .int .u64 0), (11, .loc 2 0), (9, .int .u64 ((s + 1) * 4294967296 + a)), (8, .loc 1 0), (7, .bool true), (6, .bool false), (3, .loc 0 0), (1, .int .i64 n), (2, .int .i64 m)] [IntKind.i64.wrap ((l - a) - n) = ((l - a) - n), ((l - (a + n)) != ((l - a) - n)) = false, True] (by kernel_rfl) ⟨i64_eq (by omega) (by omega), bne_eq_false_iff_eq.2 (by omega), trivial, trivial⟩ ?_
        refine pqcall (args := [.agg [.int .i64 s, .int .i64 (a + n), .int .i64 l]]) (args' := [.agg [.int .i64 s, .int .i64 (a + n), .int .i64 l]]) (d := (some 50)) (sv := .bool true) (by kernel_rfl) (right_1 s (a + n) l (by omega)) [(s : Int) = s, ((a + n) : Int) = (a + n), (l : Int) = l] (by kernel_rfl) ⟨rfl, rfl, rfl, trivial⟩ (by kernel_rfl) ?_
        refine qrun' TT_ok [] 2 10 [(52, .bool false), (51, .bool false), (50, .bool true), (49, .agg [.int .i64 s, .int .i64 (a + n), .int .i64 l]), (48, .bool false), (47, .bool false), (46, .int .i64 ((l - a) - n)), (45, .int .i64 n), (44, .int .i64 (l - a)), (43, .agg [.int .i64 s, .int .i64 a, .int .i64 l]), (42, .int .i64 (l - (a + n))), (41, .agg [.int .i64 s, .int .i64 (a + n), .int .i64 l]), (13, .int .i64 1), (12, .int .u64 0), (11, .loc 2 0), (9, .int .u64 ((s + 1) * 4294967296 + a)), (8, .loc 1 0), (7, .bool true), (6, .bool false), (3, .loc 0 0), (1, .int .i64 n), (2, .int .i64 m)] [True] (by kernel_rfl) ⟨trivial, trivial⟩ ?_
        refine qend (by kernel_rfl) ?_
        refine an ?_
        refine xw_false (by kernel_rfl) ?_
        refine xw_skip ?_
        refine an ?_
        refine xw_seq ?_
        refine dregk hmix (by kernel_rfl) ?_
        refine qrun' TT_ok [(3, .bool true)] 23 0 [(6, .bool true), (74, .bool true), (73, .bool true), (72, .tup []), (71, .tup []), (70, .tup []), (69, .tup []), (68, .tup []), (67, .tup []), (66, .tup []), (65, .tup []), (64, .tup []), (63, .tup []), (62, .tup []), (61, .tup []), (60, .tup []), (59, .tup []), (58, .tup []), (57, .bool true), (56, .bool true), (55, .int .i64 1), (54, .bool true), (53, .bool true), (52, .bool false), (51, .bool false), (50, .bool true), (49, .agg [.int .i64 s, .int .i64 (a + n), .int .i64 l]), (48, .bool false), (47, .bool false), (46, .int .i64 ((l - a) - n)), (45, .int .i64 n), (44, .int .i64 (l - a)), (43, .agg [.int .i64 s, .int .i64 a, .int .i64 l]), (42, .int .i64 (l - (a + n))), (41, .agg [.int .i64 s, .int .i64 (a + n), .int .i64 l]), (13, .int .i64 1), (12, .int .u64 0), (11, .loc 2 0), (9, .int .u64 ((s + 1) * 4294967296 + a)), (8, .loc 1 0), (7, .bool true), (6, .bool false), (3, .loc 0 0), (1, .int .i64 n), (2, .int .i64 m)] [(1 != 0) = true, True, True] (by kernel_rfl) ⟨bne_iff_ne.2 (by omega), trivial, trivial, trivial⟩ ?_
        refine qend (by kernel_rfl) ?_
        refine an ?_
        refine xw_ret ?_
        exact bk_ret (.bool true) (.bool true) (.bool true) (by kernel_rfl) (by kernel_rfl) (wkd [true = true] (by kernel_rfl) ⟨rfl, trivial⟩) rfl
  · skip
    by_cases h1 : ((s = 0 ∨ s = 1) ∧ 0 ≤ a ∧ a ≤ l ∧ l ≤ 4096) ∧ (1 ≤ n) ∧ (l - a < n)
    · skip
      refine pcall1 (args := [.agg [.int .i64 s, .int .i64 a, .int .i64 l], .int .i64 n]) (args' := [.agg [.int .i64 s, .int .i64 a, .int .i64 l], .int .i64 n]) (d := (some 18)) (sv := .tup [.agg [.int .i64 s, .int .i64 a, .int .i64 l], .int .u64 0, .int .i64 4]) (by kernel_rfl) (take_2 s a l n (by omega) (by omega) (by omega)) [(s : Int) = s, (a : Int) = a, (l : Int) = l, (n : Int) = n] (by kernel_rfl) ⟨rfl, rfl, rfl, rfl, trivial⟩ (by kernel_rfl) ?_
      refine runk TT_ok [] 8 3 [10, 9, 8, 7, 6, 3, 1, 2] [1, 0] ⟨[(10, .int .i64 4), (9, .int .u64 0), (8, .loc 1 0), (7, .bool true), (6, .bool false), (3, .loc 0 0), (1, .int .i64 n), (2, .int .i64 m)], [(1, .cells [.int .i64 s, .int .i64 a, .int .i64 l] 23), (0, .cells [.int .i64 s, .int .i64 a, .int .i64 l] 23)], 2⟩ [True] (by kernel_rfl) ⟨trivial, trivial⟩ ?_
      refine endr (by kernel_rfl) ?_
      refine an ?_
      refine xw_seq ?_
      refine xw_seq ?_
      refine reg ?_
      refine runk TT_ok [(1, .bool true)] 2 0 [23, 9, 8, 7, 6, 3, 1, 2] [1, 0] ⟨[(23, .bool true), (9, .int .u64 0), (8, .loc 1 0), (7, .bool true), (6, .bool false), (3, .loc 0 0), (1, .int .i64 n), (2, .int .i64 m)], [(1, .cells [.int .i64 s, .int .i64 a, .int .i64 l] 23), (0, .cells [.int .i64 s, .int .i64 a, .int .i64 l] 23)], 2⟩ [(4 != 0) = true] (by kernel_rfl) ⟨bne_iff_ne.2 (by omega), trivial⟩ ?_
      refine endr (by kernel_rfl) ?_
      refine an ?_
      refine xw_true (by kernel_rfl) ?_
      refine xw_seq ?_
      refine reg ?_
      refine runk TT_ok [(4, .bool true), (8, .bool true)] 11 0 [6, 9, 8, 7, 3, 1, 2] [1, 0] ⟨[(6, .bool true), (9, .int .u64 0), (8, .loc 1 0), (7, .bool true), (3, .loc 0 0), (1, .int .i64 n), (2, .int .i64 m)], [(1, .cells [.int .i64 s, .int .i64 a, .int .i64 l] 23), (0, .cells [.int .i64 s, .int .i64 a, .int .i64 l] 23)], 2⟩ [True, True, ((s == s) && ((a == a) && ((l == l) && true))) = true, True, (0 == 0) = true, True] (by kernel_rfl) ⟨trivial, trivial, (by simp <;> omega), trivial, beq_iff_eq.2 (by omega), trivial, trivial⟩ ?_
      refine endr (by kernel_rfl) ?_
      refine an ?_
      refine xw_ret ?_
      refine an_ret ?_
      exact bk_ret (.bool true) (.bool true) (.bool true) (by kernel_rfl) (by kernel_rfl) (wkd [true = true] (by kernel_rfl) ⟨rfl, trivial⟩) rfl
    · skip
      refine pcall1 (args := [.agg [.int .i64 s, .int .i64 a, .int .i64 l], .int .i64 n]) (args' := [.agg [.int .i64 s, .int .i64 a, .int .i64 l], .int .i64 n]) (d := (some 18)) (sv := .tup [.agg [.int .i64 s, .int .i64 a, .int .i64 l], .int .u64 0, .int .i64 1]) (by kernel_rfl) (take_3 s a l n (by omega)) [(s : Int) = s, (a : Int) = a, (l : Int) = l, (n : Int) = n] (by kernel_rfl) ⟨rfl, rfl, rfl, rfl, trivial⟩ (by kernel_rfl) ?_
      refine runk TT_ok [] 8 3 [10, 9, 8, 7, 6, 3, 1, 2] [1, 0] ⟨[(10, .int .i64 1), (9, .int .u64 0), (8, .loc 1 0), (7, .bool true), (6, .bool false), (3, .loc 0 0), (1, .int .i64 n), (2, .int .i64 m)], [(1, .cells [.int .i64 s, .int .i64 a, .int .i64 l] 23), (0, .cells [.int .i64 s, .int .i64 a, .int .i64 l] 23)], 2⟩ [True] (by kernel_rfl) ⟨trivial, trivial⟩ ?_
      refine endr (by kernel_rfl) ?_
      refine an ?_
      refine xw_seq ?_
      refine xw_seq ?_
      refine reg ?_
      refine runk TT_ok [(1, .bool true)] 2 0 [23, 9, 8, 7, 6, 3, 1, 2] [1, 0] ⟨[(23, .bool true), (9, .int .u64 0), (8, .loc 1 0), (7, .bool true), (6, .bool false), (3, .loc 0 0), (1, .int .i64 n), (2, .int .i64 m)], [(1, .cells [.int .i64 s, .int .i64 a, .int .i64 l] 23), (0, .cells [.int .i64 s, .int .i64 a, .int .i64 l] 23)], 2⟩ [(1 != 0) = true] (by kernel_rfl) ⟨bne_iff_ne.2 (by omega), trivial⟩ ?_
      refine endr (by kernel_rfl) ?_
      refine an ?_
      refine xw_true (by kernel_rfl) ?_
      refine xw_seq ?_
      refine reg ?_
      refine runk TT_ok [(4, .bool true), (8, .bool true)] 11 0 [6, 9, 8, 7, 3, 1, 2] [1, 0] ⟨[(6, .bool true), (9, .int .u64 0), (8, .loc 1 0), (7, .bool true), (3, .loc 0 0), (1, .int .i64 n), (2, .int .i64 m)], [(1, .cells [.int .i64 s, .int .i64 a, .int .i64 l] 23), (0, .cells [.int .i64 s, .int .i64 a, .int .i64 l] 23)], 2⟩ [True, True, ((s == s) && ((a == a) && ((l == l) && true))) = true, True, (0 == 0) = true, True] (by kernel_rfl) ⟨trivial, trivial, (by simp <;> omega), trivial, beq_iff_eq.2 (by omega), trivial, trivial⟩ ?_
      refine endr (by kernel_rfl) ?_
      refine an ?_
      refine xw_ret ?_
      refine an_ret ?_
      exact bk_ret (.bool true) (.bool true) (.bool true) (by kernel_rfl) (by kernel_rfl) (wkd [true = true] (by kernel_rfl) ⟨rfl, trivial⟩) rfl

theorem bumpNew (s : Int) (w : Int) (hp0 : -9223372036854775808 ≤ s ∧ s ≤ 9223372036854775807) (hp1 : -9223372036854775808 ≤ w ∧ w ≤ 9223372036854775807) : Pub Try.prog 4 [.int .i64 s, .int .i64 w] (fun t => t = .bool true) := by
  refine pub_of TT_ok Try.func4 rfl (by decide) (Nat.le_of_ble_eq_true (by kernel_rfl)) (by kernel_rfl) ?_
  refine xw_seq ?_
  refine reg ?_
  refine runk TT_ok [] 1 0 [4, 0, 1] [] ⟨[(4, .bool false), (0, .int .i64 s), (1, .int .i64 w)], [], 0⟩ [] (by kernel_rfl) trivial ?_
  refine endr (by kernel_rfl) ?_
  refine an ?_
  refine xw_seq ?_
  refine reg ?_
  refine pcall1 (args := []) (args' := []) (d := (some 11)) (sv := .bool true) (by kernel_rfl) (shown7 ) [] (by kernel_rfl) trivial (by kernel_rfl) ?_
  refine runk TT_ok [] 1 1 [5, 4, 0, 1] [] ⟨[(5, .bool true), (4, .bool false), (0, .int .i64 s), (1, .int .i64 w)], [], 0⟩ [] (by kernel_rfl) trivial ?_
  refine endr (by kernel_rfl) ?_
  refine an ?_
  refine xw_seq ?_
  refine reg ?_
  refine runk TT_ok [] 2 0 [13, 12, 5, 4, 1] [] ⟨[(13, .int .i64 w), (12, .int .i64 s), (5, .bool true), (4, .bool false), (1, .int .i64 w)], [], 0⟩ [] (by kernel_rfl) trivial ?_
  by_cases h0 : s = 1
  · skip
    refine pcall1 (args := [.int .i64 s, .int .i64 w]) (args' := [.int .i64 s, .int .i64 w]) (d := (some 14)) (sv := .agg [.int .i64 1, .int .i64 0, .int .i64 (max w 0)]) (by kernel_rfl) (bnew_1 s w (by omega)) [(s : Int) = s, (w : Int) = w] (by kernel_rfl) ⟨rfl, rfl, trivial⟩ (by kernel_rfl) ?_
    refine runk TT_ok [] 2 3 [6, 5, 4, 1] [0] ⟨[(6, .loc 0 0), (5, .bool true), (4, .bool false), (1, .int .i64 w)], [(0, .cells [.int .i64 1, .int .i64 0, .int .i64 (max w 0)] 23)], 1⟩ [True] (by kernel_rfl) ⟨trivial, trivial⟩ ?_
    refine endr (by kernel_rfl) ?_
    refine an ?_
    refine xw_seq ?_
    refine xw_seq ?_
    refine reg ?_
    refine runk TT_ok [(1, .bool (decide (200 < w)))] 3 0 [17, 6, 5, 4, 1] [0] ⟨[(17, .bool (decide (200 < w))), (6, .loc 0 0), (5, .bool true), (4, .bool false), (1, .int .i64 w)], [(0, .cells [.int .i64 1, .int .i64 0, .int .i64 (max w 0)] 23)], 1⟩ [(decide (200 < w)) = (decide (200 < w))] (by kernel_rfl) ⟨rfl, trivial⟩ ?_
    refine splitr 17 (x := (decide (200 < w))) (by kernel_rfl) (fun h1 => ?_) (fun h1 => ?_)
    · replace h1 : 200 < w := of_decide_eq_true h1
      refine runk TT_ok [] 3 3 [20, 6, 5, 4, 1] [0] ⟨[(20, .bool true), (6, .loc 0 0), (5, .bool true), (4, .bool false), (1, .int .i64 w)], [(0, .cells [.int .i64 1, .int .i64 0, .int .i64 (max w 0)] 23)], 1⟩ [True] (by kernel_rfl) ⟨trivial, trivial⟩ ?_
      refine endr (by kernel_rfl) ?_
      refine an ?_
      refine xw_true (by kernel_rfl) ?_
      refine xw_seq ?_
      refine reg ?_
      refine runk TT_ok [(3, .bool false), (11, .bool (decide (4096 < w)))] 13 0 [33, 30, 22, 6, 5, 4, 1] [0] ⟨[(33, .bool (decide (4096 < w))), (30, .bool false), (22, .bool true), (6, .loc 0 0), (5, .bool true), (4, .bool false), (1, .int .i64 w)], [(0, .cells [.int .i64 1, .int .i64 0, .int .i64 (max w 0)] 23)], 1⟩ [(decide (w < 0)) = false, True, (decide (4096 < w)) = (decide (4096 < w))] (by kernel_rfl) ⟨decide_eq_false (by omega), trivial, rfl, trivial⟩ ?_
      refine splitr 33 (x := (decide (4096 < w))) (by kernel_rfl) (fun h2 => ?_) (fun h2 => ?_)
      · replace h2 : 4096 < w := of_decide_eq_true h2
        refine runk TT_ok [] 1 13 [34, 33, 30, 22, 6, 5, 4, 1] [0] ⟨[(34, .agg [.int .i64 1, .int .i64 0, .int .i64 (max w 0)]), (33, .bool true), (30, .bool false), (22, .bool true), (6, .loc 0 0), (5, .bool true), (4, .bool false), (1, .int .i64 w)], [(0, .cells [.int .i64 1, .int .i64 0, .int .i64 (max w 0)] 23)], 1⟩ [True] (by kernel_rfl) ⟨trivial, trivial⟩ ?_
        refine pcall1 (args := [.agg [.int .i64 1, .int .i64 0, .int .i64 (max w 0)]]) (args' := [.agg [.int .i64 1, .int .i64 0, .int .i64 (max w 0)]]) (d := (some 35)) (sv := .bool false) (by kernel_rfl) (right_2 1 0 (max w 0) (by omega)) [(1 : Int) = 1, (0 : Int) = 0, ((max w 0) : Int) = (max w 0)] (by kernel_rfl) ⟨rfl, rfl, rfl, trivial⟩ (by kernel_rfl) ?_
        refine runk TT_ok [] 19 15 [4, 6, 5, 1] [0] ⟨[(4, .bool true), (6, .loc 0 0), (5, .bool true), (1, .int .i64 w)], [(0, .cells [.int .i64 1, .int .i64 0, .int .i64 (max w 0)] 23)], 1⟩ [True, True, True, True] (by kernel_rfl) ⟨trivial, trivial, trivial, trivial, trivial⟩ ?_
        refine endr (by kernel_rfl) ?_
        refine an ?_
        refine xw_ret ?_
        refine an_ret ?_
        exact bk_ret (.bool true) (.bool true) (.bool true) (by kernel_rfl) (by kernel_rfl) (wkd [true = true] (by kernel_rfl) ⟨rfl, trivial⟩) rfl
      · replace h2 : ¬ (4096 < w) := of_decide_eq_false h2
        refine runk TT_ok [(20, .bool true), (23, .bool true)] 14 13 [47, 46, 39, 22, 6, 5, 4, 1] [0] ⟨[(47, .agg [.int .i64 1, .int .i64 0, .int .i64 (max w 0)]), (46, .bool true), (39, .bool false), (22, .bool true), (6, .loc 0 0), (5, .bool true), (4, .bool false), (1, .int .i64 w)], [(0, .cells [.int .i64 1, .int .i64 0, .int .i64 (max w 0)] 23)], 1⟩ [True, True, (decide (w ≤ 4096)) = true, (decide (200 < w)) = true, True, True] (by kernel_rfl) ⟨trivial, trivial, decide_eq_true (by omega), decide_eq_true (by omega), trivial, trivial, trivial⟩ ?_
        refine pcall1 (args := [.agg [.int .i64 1, .int .i64 0, .int .i64 (max w 0)]]) (args' := [.agg [.int .i64 1, .int .i64 0, .int .i64 (max w 0)]]) (d := (some 48)) (sv := .int .i64 ((max w 0) - 0)) (by kernel_rfl) (left_1 1 0 (max w 0) (by omega)) [(1 : Int) = 1, (0 : Int) = 0, ((max w 0) : Int) = (max w 0)] (by kernel_rfl) ⟨rfl, rfl, rfl, trivial⟩ (by kernel_rfl) ?_
        refine runk TT_ok [(29, .bool true)] 6 28 [4, 6, 5, 1] [0] ⟨[(4, .bool true), (6, .loc 0 0), (5, .bool true), (1, .int .i64 w)], [(0, .cells [.int .i64 1, .int .i64 0, .int .i64 (max w 0)] 23)], 1⟩ [(((max w 0) - 0) == w) = true, True, True, True] (by kernel_rfl) ⟨beq_iff_eq.2 (by omega), trivial, trivial, trivial, trivial⟩ ?_
        refine endr (by kernel_rfl) ?_
        refine an ?_
        refine xw_ret ?_
        refine an_ret ?_
        exact bk_ret (.bool true) (.bool true) (.bool true) (by kernel_rfl) (by kernel_rfl) (wkd [true = true] (by kernel_rfl) ⟨rfl, trivial⟩) rfl
    · replace h1 : ¬ (200 < w) := of_decide_eq_false h1
      refine runk TT_ok [(4, .bool (decide (w < 0)))] 3 3 [20, 6, 5, 4, 1] [0] ⟨[(20, .bool (decide (w < 0))), (6, .loc 0 0), (5, .bool true), (4, .bool false), (1, .int .i64 w)], [(0, .cells [.int .i64 1, .int .i64 0, .int .i64 (max w 0)] 23)], 1⟩ [(decide (w < 0)) = (decide (w < 0)), True] (by kernel_rfl) ⟨rfl, trivial, trivial⟩ ?_
      refine endr (by kernel_rfl) ?_
      refine an ?_
      refine xw_cond (b := (decide (w < 0))) (by kernel_rfl) (fun h2 => ?_) (fun h2 => ?_)
      · replace h2 : w < 0 := of_decide_eq_true h2
        refine xw_seq ?_
        refine reg ?_
        refine runk TT_ok [(3, .bool true)] 6 0 [26, 25, 22, 6, 5, 4, 1] [0] ⟨[(26, .agg [.int .i64 1, .int .i64 0, .int .i64 (max w 0)]), (25, .bool true), (22, .bool true), (6, .loc 0 0), (5, .bool true), (4, .bool false), (1, .int .i64 w)], [(0, .cells [.int .i64 1, .int .i64 0, .int .i64 (max w 0)] 23)], 1⟩ [(decide (w < 0)) = true, True] (by kernel_rfl) ⟨decide_eq_true (by omega), trivial, trivial⟩ ?_
        refine pcall1 (args := [.agg [.int .i64 1, .int .i64 0, .int .i64 (max w 0)]]) (args' := [.agg [.int .i64 1, .int .i64 0, .int .i64 (max w 0)]]) (d := (some 27)) (sv := .int .i64 ((max w 0) - 0)) (by kernel_rfl) (left_1 1 0 (max w 0) (by omega)) [(1 : Int) = 1, (0 : Int) = 0, ((max w 0) : Int) = (max w 0)] (by kernel_rfl) ⟨rfl, rfl, rfl, trivial⟩ (by kernel_rfl) ?_
        refine runk TT_ok [(7, .bool true)] 27 7 [4, 6, 5, 1] [0] ⟨[(4, .bool true), (6, .loc 0 0), (5, .bool true), (1, .int .i64 w)], [(0, .cells [.int .i64 1, .int .i64 0, .int .i64 (max w 0)] 23)], 1⟩ [(((max w 0) - 0) == 0) = true, True, True, True, True] (by kernel_rfl) ⟨beq_iff_eq.2 (by omega), trivial, trivial, trivial, trivial, trivial⟩ ?_
        refine endr (by kernel_rfl) ?_
        refine an ?_
        refine xw_ret ?_
        refine an_ret ?_
        exact bk_ret (.bool true) (.bool true) (.bool true) (by kernel_rfl) (by kernel_rfl) (wkd [true = true] (by kernel_rfl) ⟨rfl, trivial⟩) rfl
      · replace h2 : ¬ (w < 0) := of_decide_eq_false h2
        refine xw_skip ?_
        refine an ?_
        refine xw_seq ?_
        refine reg ?_
        refine runk TT_ok [] 1 0 [7, 6, 5, 4, 1] [0] ⟨[(7, .int .i64 0), (6, .loc 0 0), (5, .bool true), (4, .bool false), (1, .int .i64 w)], [(0, .cells [.int .i64 1, .int .i64 0, .int .i64 (max w 0)] 23)], 1⟩ [] (by kernel_rfl) trivial ?_
        refine endr (by kernel_rfl) ?_
        refine an ?_
        refine xw_seq ?_
        refine xw_block ?_
        refine xw_loop (α := {q : Int // (0 ≤ q) ∧ (q ≤ w)}) (fun p => ⟨[(7, .int .i64 p.1), (6, .loc 0 0), (5, .bool true), (4, .bool false), (1, .int .i64 w)], [(0, .cells [.int .i64 1, .int .i64 p.1, .int .i64 (max w 0)] 23)], 1⟩) (fun p => (w - p.1).toNat) ⟨0, ⟨(by omega), (by omega)⟩⟩ (le_of [] [(0 : Int) = 0, true = true, false = false, (w : Int) = w, (1 : Int) = 1, (0 : Int) = 0, ((max w 0) : Int) = (max w 0)] (by kernel_rfl) ⟨rfl, rfl, rfl, rfl, rfl, rfl, rfl, trivial⟩) ?_
        rintro ⟨n, h3, h4⟩
        show XW _ _ _ _ _ ⟨[(7, .int .i64 n), (6, .loc 0 0), (5, .bool true), (4, .bool false), (1, .int .i64 w)], [(0, .cells [.int .i64 1, .int .i64 n, .int .i64 (max w 0)] 23)], 1⟩
        refine xw_seq ?_
        refine xw_seq ?_
        refine reg ?_
        refine runk TT_ok [(2, .bool true)] 3 0 [56, 55, 54, 7, 6, 5, 4, 1] [0] ⟨[(56, .bool true), (55, .int .i64 w), (54, .int .i64 n), (7, .int .i64 n), (6, .loc 0 0), (5, .bool true), (4, .bool false), (1, .int .i64 w)], [(0, .cells [.int .i64 1, .int .i64 n, .int .i64 (max w 0)] 23)], 1⟩ [(decide (n ≤ w)) = true] (by kernel_rfl) ⟨decide_eq_true (by omega), trivial⟩ ?_
        refine endr (by kernel_rfl) ?_
        refine an ?_
        refine xw_true (by kernel_rfl) ?_
        refine xw_skip ?_
        refine an ?_
        refine xw_block ?_
        refine xw_seq ?_
        refine reg ?_
        refine runk TT_ok [] 1 0 [58, 56, 55, 54, 7, 6, 5, 4, 1] [0] ⟨[(58, .agg [.int .i64 1, .int .i64 n, .int .i64 (max w 0)]), (56, .bool true), (55, .int .i64 w), (54, .int .i64 n), (7, .int .i64 n), (6, .loc 0 0), (5, .bool true), (4, .bool false), (1, .int .i64 w)], [(0, .cells [.int .i64 1, .int .i64 n, .int .i64 (max w 0)] 23)], 1⟩ [True] (by kernel_rfl) ⟨trivial, trivial⟩ ?_
        by_cases h5 : 1 ≤ (max w 0) - n
        · skip
          refine pcall1 (args := [.agg [.int .i64 1, .int .i64 n, .int .i64 (max w 0)], .int .i64 1]) (args' := [.agg [.int .i64 1, .int .i64 n, .int .i64 (max w 0)], .int .i64 1]) (d := (some 59)) (sv := .tup [.agg [.int .i64 1, .int .i64 (n + 1), .int .i64 (max w 0)], .int .u64 ((1 + 1) * 4294967296 + n), .int .i64 0]) (by kernel_rfl) (take_1 1 n (max w 0) 1 (by omega) (by omega) (by omega)) [(1 : Int) = 1, (n : Int) = n, ((max w 0) : Int) = (max w 0), (1 : Int) = 1] (by kernel_rfl) ⟨rfl, rfl, rfl, rfl, trivial⟩ (by kernel_rfl) ?_
          refine runk TT_ok [] 8 2 [10, 8, 62, 61, 60, 57, 59, 58, 56, 55, 54, 7, 6, 5, 4, 1] [1, 0] ⟨[(10, .int .i64 0), (8, .loc 1 0), (62, .int .i64 0), (61, .int .u64 ((1 + 1) * 4294967296 + n)), (60, .agg [.int .i64 1, .int .i64 (n + 1), .int .i64 (max w 0)]), (57, .tup [.agg [.int .i64 1, .int .i64 (n + 1), .int .i64 (max w 0)], .int .u64 ((1 + 1) * 4294967296 + n), .int .i64 0]), (59, .tup [.agg [.int .i64 1, .int .i64 (n + 1), .int .i64 (max w 0)], .int .u64 ((1 + 1) * 4294967296 + n), .int .i64 0]), (58, .agg [.int .i64 1, .int .i64 n, .int .i64 (max w 0)]), (56, .bool true), (55, .int .i64 w), (54, .int .i64 n), (7, .int .i64 n), (6, .loc 0 0), (5, .bool true), (4, .bool false), (1, .int .i64 w)], [(1, .cells [.int .i64 1, .int .i64 (n + 1), .int .i64 (max w 0)] 23), (0, .cells [.int .i64 1, .int .i64 n, .int .i64 (max w 0)] 23)], 2⟩ [True] (by kernel_rfl) ⟨trivial, trivial⟩ ?_
          refine endr (by kernel_rfl) ?_
          refine an ?_
          refine xw_seq ?_
          refine xw_seq ?_
          refine reg ?_
          refine runk TT_ok [(1, .bool false)] 2 0 [64, 63, 10, 8, 62, 61, 60, 57, 59, 58, 56, 55, 54, 7, 6, 5, 4, 1] [1, 0] ⟨[(64, .bool false), (63, .int .i64 0), (10, .int .i64 0), (8, .loc 1 0), (62, .int .i64 0), (61, .int .u64 ((1 + 1) * 4294967296 + n)), (60, .agg [.int .i64 1, .int .i64 (n + 1), .int .i64 (max w 0)]), (57, .tup [.agg [.int .i64 1, .int .i64 (n + 1), .int .i64 (max w 0)], .int .u64 ((1 + 1) * 4294967296 + n), .int .i64 0]), (59, .tup [.agg [.int .i64 1, .int .i64 (n + 1), .int .i64 (max w 0)], .int .u64 ((1 + 1) * 4294967296 + n), .int .i64 0]), (58, .agg [.int .i64 1, .int .i64 n, .int .i64 (max w 0)]), (56, .bool true), (55, .int .i64 w), (54, .int .i64 n), (7, .int .i64 n), (6, .loc 0 0), (5, .bool true), (4, .bool false), (1, .int .i64 w)], [(1, .cells [.int .i64 1, .int .i64 (n + 1), .int .i64 (max w 0)] 23), (0, .cells [.int .i64 1, .int .i64 n, .int .i64 (max w 0)] 23)], 2⟩ [(0 != 0) = false] (by kernel_rfl) ⟨bne_eq_false_iff_eq.2 (by omega), trivial⟩ ?_
          refine endr (by kernel_rfl) ?_
          refine an ?_
          refine xw_false (by kernel_rfl) ?_
          refine xw_skip ?_
          refine an ?_
          refine xw_seq ?_
          refine reg ?_
          refine runk TT_ok [] 2 0 [65, 64, 63, 10, 8, 62, 61, 60, 57, 59, 58, 56, 55, 54, 7, 6, 5, 4, 1] [1, 0] ⟨[(65, .agg [.int .i64 1, .int .i64 (n + 1), .int .i64 (max w 0)]), (64, .bool false), (63, .int .i64 0), (10, .int .i64 0), (8, .loc 1 0), (62, .int .i64 0), (61, .int .u64 ((1 + 1) * 4294967296 + n)), (60, .agg [.int .i64 1, .int .i64 (n + 1), .int .i64 (max w 0)]), (57, .tup [.agg [.int .i64 1, .int .i64 (n + 1), .int .i64 (max w 0)], .int .u64 ((1 + 1) * 4294967296 + n), .int .i64 0]), (59, .tup [.agg [.int .i64 1, .int .i64 (n + 1), .int .i64 (max w 0)], .int .u64 ((1 + 1) * 4294967296 + n), .int .i64 0]), (58, .agg [.int .i64 1, .int .i64 n, .int .i64 (max w 0)]), (56, .bool true), (55, .int .i64 w), (54, .int .i64 n), (7, .int .i64 n), (6, .loc 0 0), (5, .bool true), (4, .bool false), (1, .int .i64 w)], [(1, .cells [.int .i64 1, .int .i64 (n + 1), .int .i64 (max w 0)] 23), (0, .cells [.int .i64 1, .int .i64 (n + 1), .int .i64 (max w 0)] 23)], 2⟩ [True, True] (by kernel_rfl) ⟨trivial, trivial, trivial⟩ ?_
          refine endr (by kernel_rfl) ?_
          refine an ?_
          refine reg ?_
          refine runk TT_ok [(1, .int .i64 (n + 1))] 3 0 [7, 67, 66, 65, 64, 63, 10, 8, 62, 61, 60, 57, 59, 58, 56, 55, 54, 6, 5, 4, 1] [1, 0] ⟨[(7, .int .i64 (n + 1)), (67, .int .i64 (n + 1)), (66, .int .i64 n), (65, .agg [.int .i64 1, .int .i64 (n + 1), .int .i64 (max w 0)]), (64, .bool false), (63, .int .i64 0), (10, .int .i64 0), (8, .loc 1 0), (62, .int .i64 0), (61, .int .u64 ((1 + 1) * 4294967296 + n)), (60, .agg [.int .i64 1, .int .i64 (n + 1), .int .i64 (max w 0)]), (57, .tup [.agg [.int .i64 1, .int .i64 (n + 1), .int .i64 (max w 0)], .int .u64 ((1 + 1) * 4294967296 + n), .int .i64 0]), (59, .tup [.agg [.int .i64 1, .int .i64 (n + 1), .int .i64 (max w 0)], .int .u64 ((1 + 1) * 4294967296 + n), .int .i64 0]), (58, .agg [.int .i64 1, .int .i64 n, .int .i64 (max w 0)]), (56, .bool true), (55, .int .i64 w), (54, .int .i64 n), (6, .loc 0 0), (5, .bool true), (4, .bool false), (1, .int .i64 w)], [(1, .cells [.int .i64 1, .int .i64 (n + 1), .int .i64 (max w 0)] 23), (0, .cells [.int .i64 1, .int .i64 (n + 1), .int .i64 (max w 0)] 23)], 2⟩ [IntKind.i64.wrap (n + 1) = (n + 1)] (by kernel_rfl) ⟨i64_eq (by omega) (by omega), trivial⟩ ?_
          refine endr (by kernel_rfl) ?_
          refine ib ?_
          exact ag ⟨(n + 1), ⟨(by omega), (by omega)⟩⟩ (le_of [] [((n + 1) : Int) = (n + 1), true = true, false = false, (w : Int) = w, (1 : Int) = 1, ((n + 1) : Int) = (n + 1), ((max w 0) : Int) = (max w 0)] (by kernel_rfl) ⟨rfl, rfl, rfl, rfl, rfl, rfl, rfl, trivial⟩) (by show (w - (n + 1)).toNat < (w - n).toNat; omega)
        · skip
          refine pcall1 (args := [.agg [.int .i64 1, .int .i64 n, .int .i64 (max w 0)], .int .i64 1]) (args' := [.agg [.int .i64 1, .int .i64 n, .int .i64 (max w 0)], .int .i64 1]) (d := (some 59)) (sv := .tup [.agg [.int .i64 1, .int .i64 n, .int .i64 (max w 0)], .int .u64 0, .int .i64 4]) (by kernel_rfl) (take_2 1 n (max w 0) 1 (by omega) (by omega) (by omega)) [(1 : Int) = 1, (n : Int) = n, ((max w 0) : Int) = (max w 0), (1 : Int) = 1] (by kernel_rfl) ⟨rfl, rfl, rfl, rfl, trivial⟩ (by kernel_rfl) ?_
          refine runk TT_ok [] 8 2 [10, 8, 62, 61, 60, 57, 59, 58, 56, 55, 54, 7, 6, 5, 4, 1] [1, 0] ⟨[(10, .int .i64 4), (8, .loc 1 0), (62, .int .i64 4), (61, .int .u64 0), (60, .agg [.int .i64 1, .int .i64 n, .int .i64 (max w 0)]), (57, .tup [.agg [.int .i64 1, .int .i64 n, .int .i64 (max w 0)], .int .u64 0, .int .i64 4]), (59, .tup [.agg [.int .i64 1, .int .i64 n, .int .i64 (max w 0)], .int .u64 0, .int .i64 4]), (58, .agg [.int .i64 1, .int .i64 n, .int .i64 (max w 0)]), (56, .bool true), (55, .int .i64 w), (54, .int .i64 n), (7, .int .i64 n), (6, .loc 0 0), (5, .bool true), (4, .bool false), (1, .int .i64 w)], [(1, .cells [.int .i64 1, .int .i64 n, .int .i64 (max w 0)] 23), (0, .cells [.int .i64 1, .int .i64 n, .int .i64 (max w 0)] 23)], 2⟩ [True] (by kernel_rfl) ⟨trivial, trivial⟩ ?_
          refine endr (by kernel_rfl) ?_
          refine an ?_
          refine xw_seq ?_
          refine xw_seq ?_
          refine reg ?_
          refine runk TT_ok [(1, .bool true)] 2 0 [64, 63, 10, 8, 62, 61, 60, 57, 59, 58, 56, 55, 54, 7, 6, 5, 4, 1] [1, 0] ⟨[(64, .bool true), (63, .int .i64 4), (10, .int .i64 4), (8, .loc 1 0), (62, .int .i64 4), (61, .int .u64 0), (60, .agg [.int .i64 1, .int .i64 n, .int .i64 (max w 0)]), (57, .tup [.agg [.int .i64 1, .int .i64 n, .int .i64 (max w 0)], .int .u64 0, .int .i64 4]), (59, .tup [.agg [.int .i64 1, .int .i64 n, .int .i64 (max w 0)], .int .u64 0, .int .i64 4]), (58, .agg [.int .i64 1, .int .i64 n, .int .i64 (max w 0)]), (56, .bool true), (55, .int .i64 w), (54, .int .i64 n), (7, .int .i64 n), (6, .loc 0 0), (5, .bool true), (4, .bool false), (1, .int .i64 w)], [(1, .cells [.int .i64 1, .int .i64 n, .int .i64 (max w 0)] 23), (0, .cells [.int .i64 1, .int .i64 n, .int .i64 (max w 0)] 23)], 2⟩ [(4 != 0) = true] (by kernel_rfl) ⟨bne_iff_ne.2 (by omega), trivial⟩ ?_
          refine endr (by kernel_rfl) ?_
          refine an ?_
          refine xw_true (by kernel_rfl) ?_
          refine xw_exit ?_
          refine an_exit ?_
          refine ib_exit (by kernel_rfl) ?_
          refine ag_exit ?_
          refine ib_same ?_
          refine an ?_
          refine xw_seq ?_
          refine reg ?_
          refine runk TT_ok [(4, .bool true)] 8 0 [75, 74, 4] [] ⟨[(75, .agg [.int .i64 1, .int .i64 n, .int .i64 (max w 0)]), (74, .bool true), (4, .bool false)], [], 2⟩ [(n == w) = true, True, True] (by kernel_rfl) ⟨beq_iff_eq.2 (by omega), trivial, trivial, trivial⟩ ?_
          refine pcall1 (args := [.agg [.int .i64 1, .int .i64 n, .int .i64 (max w 0)]]) (args' := [.agg [.int .i64 1, .int .i64 n, .int .i64 (max w 0)]]) (d := (some 76)) (sv := .int .i64 ((max w 0) - n)) (by kernel_rfl) (left_1 1 n (max w 0) (by omega)) [(1 : Int) = 1, (n : Int) = n, ((max w 0) : Int) = (max w 0)] (by kernel_rfl) ⟨rfl, rfl, rfl, trivial⟩ (by kernel_rfl) ?_
          refine runk TT_ok [(9, .bool true)] 3 9 [4] [] ⟨[(4, .bool true)], [], 2⟩ [(((max w 0) - n) == 0) = true, True] (by kernel_rfl) ⟨beq_iff_eq.2 (by omega), trivial, trivial⟩ ?_
          refine endr (by kernel_rfl) ?_
          refine an ?_
          refine xw_ret ?_
          exact bk_ret (.bool true) (.bool true) (.bool true) (by kernel_rfl) (by kernel_rfl) (wkd [true = true] (by kernel_rfl) ⟨rfl, trivial⟩) rfl
  · skip
    refine pcall1 (args := [.int .i64 s, .int .i64 w]) (args' := [.int .i64 s, .int .i64 w]) (d := (some 14)) (sv := .agg [.int .i64 0, .int .i64 0, .int .i64 (max w 0)]) (by kernel_rfl) (bnew_2 s w (by omega)) [(s : Int) = s, (w : Int) = w] (by kernel_rfl) ⟨rfl, rfl, trivial⟩ (by kernel_rfl) ?_
    refine runk TT_ok [] 2 3 [6, 5, 4, 1] [0] ⟨[(6, .loc 0 0), (5, .bool true), (4, .bool false), (1, .int .i64 w)], [(0, .cells [.int .i64 0, .int .i64 0, .int .i64 (max w 0)] 23)], 1⟩ [True] (by kernel_rfl) ⟨trivial, trivial⟩ ?_
    refine endr (by kernel_rfl) ?_
    refine an ?_
    refine xw_seq ?_
    refine xw_seq ?_
    refine reg ?_
    refine runk TT_ok [(1, .bool (decide (200 < w)))] 3 0 [17, 6, 5, 4, 1] [0] ⟨[(17, .bool (decide (200 < w))), (6, .loc 0 0), (5, .bool true), (4, .bool false), (1, .int .i64 w)], [(0, .cells [.int .i64 0, .int .i64 0, .int .i64 (max w 0)] 23)], 1⟩ [(decide (200 < w)) = (decide (200 < w))] (by kernel_rfl) ⟨rfl, trivial⟩ ?_
    refine splitr 17 (x := (decide (200 < w))) (by kernel_rfl) (fun h1 => ?_) (fun h1 => ?_)
    · replace h1 : 200 < w := of_decide_eq_true h1
      refine runk TT_ok [] 3 3 [20, 6, 5, 4, 1] [0] ⟨[(20, .bool true), (6, .loc 0 0), (5, .bool true), (4, .bool false), (1, .int .i64 w)], [(0, .cells [.int .i64 0, .int .i64 0, .int .i64 (max w 0)] 23)], 1⟩ [True] (by kernel_rfl) ⟨trivial, trivial⟩ ?_
      refine endr (by kernel_rfl) ?_
      refine an ?_
      refine xw_true (by kernel_rfl) ?_
      refine xw_seq ?_
      refine reg ?_
      refine runk TT_ok [(3, .bool false), (11, .bool (decide (4096 < w)))] 13 0 [33, 30, 22, 6, 5, 4, 1] [0] ⟨[(33, .bool (decide (4096 < w))), (30, .bool false), (22, .bool true), (6, .loc 0 0), (5, .bool true), (4, .bool false), (1, .int .i64 w)], [(0, .cells [.int .i64 0, .int .i64 0, .int .i64 (max w 0)] 23)], 1⟩ [(decide (w < 0)) = false, True, (decide (4096 < w)) = (decide (4096 < w))] (by kernel_rfl) ⟨decide_eq_false (by omega), trivial, rfl, trivial⟩ ?_
      refine splitr 33 (x := (decide (4096 < w))) (by kernel_rfl) (fun h2 => ?_) (fun h2 => ?_)
      · replace h2 : 4096 < w := of_decide_eq_true h2
        refine runk TT_ok [] 1 13 [34, 33, 30, 22, 6, 5, 4, 1] [0] ⟨[(34, .agg [.int .i64 0, .int .i64 0, .int .i64 (max w 0)]), (33, .bool true), (30, .bool false), (22, .bool true), (6, .loc 0 0), (5, .bool true), (4, .bool false), (1, .int .i64 w)], [(0, .cells [.int .i64 0, .int .i64 0, .int .i64 (max w 0)] 23)], 1⟩ [True] (by kernel_rfl) ⟨trivial, trivial⟩ ?_
        refine pcall1 (args := [.agg [.int .i64 0, .int .i64 0, .int .i64 (max w 0)]]) (args' := [.agg [.int .i64 0, .int .i64 0, .int .i64 (max w 0)]]) (d := (some 35)) (sv := .bool false) (by kernel_rfl) (right_2 0 0 (max w 0) (by omega)) [(0 : Int) = 0, (0 : Int) = 0, ((max w 0) : Int) = (max w 0)] (by kernel_rfl) ⟨rfl, rfl, rfl, trivial⟩ (by kernel_rfl) ?_
        refine runk TT_ok [] 19 15 [4, 6, 5, 1] [0] ⟨[(4, .bool true), (6, .loc 0 0), (5, .bool true), (1, .int .i64 w)], [(0, .cells [.int .i64 0, .int .i64 0, .int .i64 (max w 0)] 23)], 1⟩ [True, True, True, True] (by kernel_rfl) ⟨trivial, trivial, trivial, trivial, trivial⟩ ?_
        refine endr (by kernel_rfl) ?_
        refine an ?_
        refine xw_ret ?_
        refine an_ret ?_
        exact bk_ret (.bool true) (.bool true) (.bool true) (by kernel_rfl) (by kernel_rfl) (wkd [true = true] (by kernel_rfl) ⟨rfl, trivial⟩) rfl
      · replace h2 : ¬ (4096 < w) := of_decide_eq_false h2
        refine runk TT_ok [(20, .bool true), (23, .bool true)] 14 13 [47, 46, 39, 22, 6, 5, 4, 1] [0] ⟨[(47, .agg [.int .i64 0, .int .i64 0, .int .i64 (max w 0)]), (46, .bool true), (39, .bool false), (22, .bool true), (6, .loc 0 0), (5, .bool true), (4, .bool false), (1, .int .i64 w)], [(0, .cells [.int .i64 0, .int .i64 0, .int .i64 (max w 0)] 23)], 1⟩ [True, True, (decide (w ≤ 4096)) = true, (decide (200 < w)) = true, True, True] (by kernel_rfl) ⟨trivial, trivial, decide_eq_true (by omega), decide_eq_true (by omega), trivial, trivial, trivial⟩ ?_
        refine pcall1 (args := [.agg [.int .i64 0, .int .i64 0, .int .i64 (max w 0)]]) (args' := [.agg [.int .i64 0, .int .i64 0, .int .i64 (max w 0)]]) (d := (some 48)) (sv := .int .i64 ((max w 0) - 0)) (by kernel_rfl) (left_1 0 0 (max w 0) (by omega)) [(0 : Int) = 0, (0 : Int) = 0, ((max w 0) : Int) = (max w 0)] (by kernel_rfl) ⟨rfl, rfl, rfl, trivial⟩ (by kernel_rfl) ?_
        refine runk TT_ok [(29, .bool true)] 6 28 [4, 6, 5, 1] [0] ⟨[(4, .bool true), (6, .loc 0 0), (5, .bool true), (1, .int .i64 w)], [(0, .cells [.int .i64 0, .int .i64 0, .int .i64 (max w 0)] 23)], 1⟩ [(((max w 0) - 0) == w) = true, True, True, True] (by kernel_rfl) ⟨beq_iff_eq.2 (by omega), trivial, trivial, trivial, trivial⟩ ?_
        refine endr (by kernel_rfl) ?_
        refine an ?_
        refine xw_ret ?_
        refine an_ret ?_
        exact bk_ret (.bool true) (.bool true) (.bool true) (by kernel_rfl) (by kernel_rfl) (wkd [true = true] (by kernel_rfl) ⟨rfl, trivial⟩) rfl
    · replace h1 : ¬ (200 < w) := of_decide_eq_false h1
      refine runk TT_ok [(4, .bool (decide (w < 0)))] 3 3 [20, 6, 5, 4, 1] [0] ⟨[(20, .bool (decide (w < 0))), (6, .loc 0 0), (5, .bool true), (4, .bool false), (1, .int .i64 w)], [(0, .cells [.int .i64 0, .int .i64 0, .int .i64 (max w 0)] 23)], 1⟩ [(decide (w < 0)) = (decide (w < 0)), True] (by kernel_rfl) ⟨rfl, trivial, trivial⟩ ?_
      refine endr (by kernel_rfl) ?_
      refine an ?_
      refine xw_cond (b := (decide (w < 0))) (by kernel_rfl) (fun h2 => ?_) (fun h2 => ?_)
      · replace h2 : w < 0 := of_decide_eq_true h2
        refine xw_seq ?_
        refine reg ?_
        refine runk TT_ok [(3, .bool true)] 6 0 [26, 25, 22, 6, 5, 4, 1] [0] ⟨[(26, .agg [.int .i64 0, .int .i64 0, .int .i64 (max w 0)]), (25, .bool true), (22, .bool true), (6, .loc 0 0), (5, .bool true), (4, .bool false), (1, .int .i64 w)], [(0, .cells [.int .i64 0, .int .i64 0, .int .i64 (max w 0)] 23)], 1⟩ [(decide (w < 0)) = true, True] (by kernel_rfl) ⟨decide_eq_true (by omega), trivial, trivial⟩ ?_
        refine pcall1 (args := [.agg [.int .i64 0, .int .i64 0, .int .i64 (max w 0)]]) (args' := [.agg [.int .i64 0, .int .i64 0, .int .i64 (max w 0)]]) (d := (some 27)) (sv := .int .i64 ((max w 0) - 0)) (by kernel_rfl) (left_1 0 0 (max w 0) (by omega)) [(0 : Int) = 0, (0 : Int) = 0, ((max w 0) : Int) = (max w 0)] (by kernel_rfl) ⟨rfl, rfl, rfl, trivial⟩ (by kernel_rfl) ?_
        refine runk TT_ok [(7, .bool true)] 27 7 [4, 6, 5, 1] [0] ⟨[(4, .bool true), (6, .loc 0 0), (5, .bool true), (1, .int .i64 w)], [(0, .cells [.int .i64 0, .int .i64 0, .int .i64 (max w 0)] 23)], 1⟩ [(((max w 0) - 0) == 0) = true, True, True, True, True] (by kernel_rfl) ⟨beq_iff_eq.2 (by omega), trivial, trivial, trivial, trivial, trivial⟩ ?_
        refine endr (by kernel_rfl) ?_
        refine an ?_
        refine xw_ret ?_
        refine an_ret ?_
        exact bk_ret (.bool true) (.bool true) (.bool true) (by kernel_rfl) (by kernel_rfl) (wkd [true = true] (by kernel_rfl) ⟨rfl, trivial⟩) rfl
      · replace h2 : ¬ (w < 0) := of_decide_eq_false h2
        refine xw_skip ?_
        refine an ?_
        refine xw_seq ?_
        refine reg ?_
        refine runk TT_ok [] 1 0 [7, 6, 5, 4, 1] [0] ⟨[(7, .int .i64 0), (6, .loc 0 0), (5, .bool true), (4, .bool false), (1, .int .i64 w)], [(0, .cells [.int .i64 0, .int .i64 0, .int .i64 (max w 0)] 23)], 1⟩ [] (by kernel_rfl) trivial ?_
        refine endr (by kernel_rfl) ?_
        refine an ?_
        refine xw_seq ?_
        refine xw_block ?_
        refine xw_loop (α := {q : Int // (0 ≤ q) ∧ (q ≤ w)}) (fun p => ⟨[(7, .int .i64 p.1), (6, .loc 0 0), (5, .bool true), (4, .bool false), (1, .int .i64 w)], [(0, .cells [.int .i64 0, .int .i64 p.1, .int .i64 (max w 0)] 23)], 1⟩) (fun p => (w - p.1).toNat) ⟨0, ⟨(by omega), (by omega)⟩⟩ (le_of [] [(0 : Int) = 0, true = true, false = false, (w : Int) = w, (0 : Int) = 0, (0 : Int) = 0, ((max w 0) : Int) = (max w 0)] (by kernel_rfl) ⟨rfl, rfl, rfl, rfl, rfl, rfl, rfl, trivial⟩) ?_
        rintro ⟨n, h3, h4⟩
        show XW _ _ _ _ _ ⟨[(7, .int .i64 n), (6, .loc 0 0), (5, .bool true), (4, .bool false), (1, .int .i64 w)], [(0, .cells [.int .i64 0, .int .i64 n, .int .i64 (max w 0)] 23)], 1⟩
        refine xw_seq ?_
        refine xw_seq ?_
        refine reg ?_
        refine runk TT_ok [(2, .bool true)] 3 0 [56, 55, 54, 7, 6, 5, 4, 1] [0] ⟨[(56, .bool true), (55, .int .i64 w), (54, .int .i64 n), (7, .int .i64 n), (6, .loc 0 0), (5, .bool true), (4, .bool false), (1, .int .i64 w)], [(0, .cells [.int .i64 0, .int .i64 n, .int .i64 (max w 0)] 23)], 1⟩ [(decide (n ≤ w)) = true] (by kernel_rfl) ⟨decide_eq_true (by omega), trivial⟩ ?_
        refine endr (by kernel_rfl) ?_
        refine an ?_
        refine xw_true (by kernel_rfl) ?_
        refine xw_skip ?_
        refine an ?_
        refine xw_block ?_
        refine xw_seq ?_
        refine reg ?_
        refine runk TT_ok [] 1 0 [58, 56, 55, 54, 7, 6, 5, 4, 1] [0] ⟨[(58, .agg [.int .i64 0, .int .i64 n, .int .i64 (max w 0)]), (56, .bool true), (55, .int .i64 w), (54, .int .i64 n), (7, .int .i64 n), (6, .loc 0 0), (5, .bool true), (4, .bool false), (1, .int .i64 w)], [(0, .cells [.int .i64 0, .int .i64 n, .int .i64 (max w 0)] 23)], 1⟩ [True] (by kernel_rfl) ⟨trivial, trivial⟩ ?_
        by_cases h5 : 1 ≤ (max w 0) - n
        · skip
          refine pcall1 (args := [.agg [.int .i64 0, .int .i64 n, .int .i64 (max w 0)], .int .i64 1]) (args' := [.agg [.int .i64 0, .int .i64 n, .int .i64 (max w 0)], .int .i64 1]) (d := (some 59)) (sv := .tup [.agg [.int .i64 0, .int .i64 (n + 1), .int .i64 (max w 0)], .int .u64 ((0 + 1) * 4294967296 + n), .int .i64 0]) (by kernel_rfl) (take_1 0 n (max w 0) 1 (by omega) (by omega) (by omega)) [(0 : Int) = 0, (n : Int) = n, ((max w 0) : Int) = (max w 0), (1 : Int) = 1] (by kernel_rfl) ⟨rfl, rfl, rfl, rfl, trivial⟩ (by kernel_rfl) ?_
          refine runk TT_ok [] 8 2 [10, 8, 62, 61, 60, 57, 59, 58, 56, 55, 54, 7, 6, 5, 4, 1] [1, 0] ⟨[(10, .int .i64 0), (8, .loc 1 0), (62, .int .i64 0), (61, .int .u64 ((0 + 1) * 4294967296 + n)), (60, .agg [.int .i64 0, .int .i64 (n + 1), .int .i64 (max w 0)]), (57, .tup [.agg [.int .i64 0, .int .i64 (n + 1), .int .i64 (max w 0)], .int .u64 ((0 + 1) * 4294967296 + n), .int .i64 0]), (59, .tup [.agg [.int .i64 0, .int .i64 (n + 1), .int .i64 (max w 0)], .int .u64 ((0 + 1) * 4294967296 + n), .int .i64 0]), (58, .agg [.int .i64 0, .int .i64 n, .int .i64 (max w 0)]), (56, .bool true), (55, .int .i64 w), (54, .int .i64 n), (7, .int .i64 n), (6, .loc 0 0), (5, .bool true), (4, .bool false), (1, .int .i64 w)], [(1, .cells [.int .i64 0, .int .i64 (n + 1), .int .i64 (max w 0)] 23), (0, .cells [.int .i64 0, .int .i64 n, .int .i64 (max w 0)] 23)], 2⟩ [True] (by kernel_rfl) ⟨trivial, trivial⟩ ?_
          refine endr (by kernel_rfl) ?_
          refine an ?_
          refine xw_seq ?_
          refine xw_seq ?_
          refine reg ?_
          refine runk TT_ok [(1, .bool false)] 2 0 [64, 63, 10, 8, 62, 61, 60, 57, 59, 58, 56, 55, 54, 7, 6, 5, 4, 1] [1, 0] ⟨[(64, .bool false), (63, .int .i64 0), (10, .int .i64 0), (8, .loc 1 0), (62, .int .i64 0), (61, .int .u64 ((0 + 1) * 4294967296 + n)), (60, .agg [.int .i64 0, .int .i64 (n + 1), .int .i64 (max w 0)]), (57, .tup [.agg [.int .i64 0, .int .i64 (n + 1), .int .i64 (max w 0)], .int .u64 ((0 + 1) * 4294967296 + n), .int .i64 0]), (59, .tup [.agg [.int .i64 0, .int .i64 (n + 1), .int .i64 (max w 0)], .int .u64 ((0 + 1) * 4294967296 + n), .int .i64 0]), (58, .agg [.int .i64 0, .int .i64 n, .int .i64 (max w 0)]), (56, .bool true), (55, .int .i64 w), (54, .int .i64 n), (7, .int .i64 n), (6, .loc 0 0), (5, .bool true), (4, .bool false), (1, .int .i64 w)], [(1, .cells [.int .i64 0, .int .i64 (n + 1), .int .i64 (max w 0)] 23), (0, .cells [.int .i64 0, .int .i64 n, .int .i64 (max w 0)] 23)], 2⟩ [(0 != 0) = false] (by kernel_rfl) ⟨bne_eq_false_iff_eq.2 (by omega), trivial⟩ ?_
          refine endr (by kernel_rfl) ?_
          refine an ?_
          refine xw_false (by kernel_rfl) ?_
          refine xw_skip ?_
          refine an ?_
          refine xw_seq ?_
          refine reg ?_
          refine runk TT_ok [] 2 0 [65, 64, 63, 10, 8, 62, 61, 60, 57, 59, 58, 56, 55, 54, 7, 6, 5, 4, 1] [1, 0] ⟨[(65, .agg [.int .i64 0, .int .i64 (n + 1), .int .i64 (max w 0)]), (64, .bool false), (63, .int .i64 0), (10, .int .i64 0), (8, .loc 1 0), (62, .int .i64 0), (61, .int .u64 ((0 + 1) * 4294967296 + n)), (60, .agg [.int .i64 0, .int .i64 (n + 1), .int .i64 (max w 0)]), (57, .tup [.agg [.int .i64 0, .int .i64 (n + 1), .int .i64 (max w 0)], .int .u64 ((0 + 1) * 4294967296 + n), .int .i64 0]), (59, .tup [.agg [.int .i64 0, .int .i64 (n + 1), .int .i64 (max w 0)], .int .u64 ((0 + 1) * 4294967296 + n), .int .i64 0]), (58, .agg [.int .i64 0, .int .i64 n, .int .i64 (max w 0)]), (56, .bool true), (55, .int .i64 w), (54, .int .i64 n), (7, .int .i64 n), (6, .loc 0 0), (5, .bool true), (4, .bool false), (1, .int .i64 w)], [(1, .cells [.int .i64 0, .int .i64 (n + 1), .int .i64 (max w 0)] 23), (0, .cells [.int .i64 0, .int .i64 (n + 1), .int .i64 (max w 0)] 23)], 2⟩ [True, True] (by kernel_rfl) ⟨trivial, trivial, trivial⟩ ?_
          refine endr (by kernel_rfl) ?_
          refine an ?_
          refine reg ?_
          refine runk TT_ok [(1, .int .i64 (n + 1))] 3 0 [7, 67, 66, 65, 64, 63, 10, 8, 62, 61, 60, 57, 59, 58, 56, 55, 54, 6, 5, 4, 1] [1, 0] ⟨[(7, .int .i64 (n + 1)), (67, .int .i64 (n + 1)), (66, .int .i64 n), (65, .agg [.int .i64 0, .int .i64 (n + 1), .int .i64 (max w 0)]), (64, .bool false), (63, .int .i64 0), (10, .int .i64 0), (8, .loc 1 0), (62, .int .i64 0), (61, .int .u64 ((0 + 1) * 4294967296 + n)), (60, .agg [.int .i64 0, .int .i64 (n + 1), .int .i64 (max w 0)]), (57, .tup [.agg [.int .i64 0, .int .i64 (n + 1), .int .i64 (max w 0)], .int .u64 ((0 + 1) * 4294967296 + n), .int .i64 0]), (59, .tup [.agg [.int .i64 0, .int .i64 (n + 1), .int .i64 (max w 0)], .int .u64 ((0 + 1) * 4294967296 + n), .int .i64 0]), (58, .agg [.int .i64 0, .int .i64 n, .int .i64 (max w 0)]), (56, .bool true), (55, .int .i64 w), (54, .int .i64 n), (6, .loc 0 0), (5, .bool true), (4, .bool false), (1, .int .i64 w)], [(1, .cells [.int .i64 0, .int .i64 (n + 1), .int .i64 (max w 0)] 23), (0, .cells [.int .i64 0, .int .i64 (n + 1), .int .i64 (max w 0)] 23)], 2⟩ [IntKind.i64.wrap (n + 1) = (n + 1)] (by kernel_rfl) ⟨i64_eq (by omega) (by omega), trivial⟩ ?_
          refine endr (by kernel_rfl) ?_
          refine ib ?_
          exact ag ⟨(n + 1), ⟨(by omega), (by omega)⟩⟩ (le_of [] [((n + 1) : Int) = (n + 1), true = true, false = false, (w : Int) = w, (0 : Int) = 0, ((n + 1) : Int) = (n + 1), ((max w 0) : Int) = (max w 0)] (by kernel_rfl) ⟨rfl, rfl, rfl, rfl, rfl, rfl, rfl, trivial⟩) (by show (w - (n + 1)).toNat < (w - n).toNat; omega)
        · skip
          refine pcall1 (args := [.agg [.int .i64 0, .int .i64 n, .int .i64 (max w 0)], .int .i64 1]) (args' := [.agg [.int .i64 0, .int .i64 n, .int .i64 (max w 0)], .int .i64 1]) (d := (some 59)) (sv := .tup [.agg [.int .i64 0, .int .i64 n, .int .i64 (max w 0)], .int .u64 0, .int .i64 4]) (by kernel_rfl) (take_2 0 n (max w 0) 1 (by omega) (by omega) (by omega)) [(0 : Int) = 0, (n : Int) = n, ((max w 0) : Int) = (max w 0), (1 : Int) = 1] (by kernel_rfl) ⟨rfl, rfl, rfl, rfl, trivial⟩ (by kernel_rfl) ?_
          refine runk TT_ok [] 8 2 [10, 8, 62, 61, 60, 57, 59, 58, 56, 55, 54, 7, 6, 5, 4, 1] [1, 0] ⟨[(10, .int .i64 4), (8, .loc 1 0), (62, .int .i64 4), (61, .int .u64 0), (60, .agg [.int .i64 0, .int .i64 n, .int .i64 (max w 0)]), (57, .tup [.agg [.int .i64 0, .int .i64 n, .int .i64 (max w 0)], .int .u64 0, .int .i64 4]), (59, .tup [.agg [.int .i64 0, .int .i64 n, .int .i64 (max w 0)], .int .u64 0, .int .i64 4]), (58, .agg [.int .i64 0, .int .i64 n, .int .i64 (max w 0)]), (56, .bool true), (55, .int .i64 w), (54, .int .i64 n), (7, .int .i64 n), (6, .loc 0 0), (5, .bool true), (4, .bool false), (1, .int .i64 w)], [(1, .cells [.int .i64 0, .int .i64 n, .int .i64 (max w 0)] 23), (0, .cells [.int .i64 0, .int .i64 n, .int .i64 (max w 0)] 23)], 2⟩ [True] (by kernel_rfl) ⟨trivial, trivial⟩ ?_
          refine endr (by kernel_rfl) ?_
          refine an ?_
          refine xw_seq ?_
          refine xw_seq ?_
          refine reg ?_
          refine runk TT_ok [(1, .bool true)] 2 0 [64, 63, 10, 8, 62, 61, 60, 57, 59, 58, 56, 55, 54, 7, 6, 5, 4, 1] [1, 0] ⟨[(64, .bool true), (63, .int .i64 4), (10, .int .i64 4), (8, .loc 1 0), (62, .int .i64 4), (61, .int .u64 0), (60, .agg [.int .i64 0, .int .i64 n, .int .i64 (max w 0)]), (57, .tup [.agg [.int .i64 0, .int .i64 n, .int .i64 (max w 0)], .int .u64 0, .int .i64 4]), (59, .tup [.agg [.int .i64 0, .int .i64 n, .int .i64 (max w 0)], .int .u64 0, .int .i64 4]), (58, .agg [.int .i64 0, .int .i64 n, .int .i64 (max w 0)]), (56, .bool true), (55, .int .i64 w), (54, .int .i64 n), (7, .int .i64 n), (6, .loc 0 0), (5, .bool true), (4, .bool false), (1, .int .i64 w)], [(1, .cells [.int .i64 0, .int .i64 n, .int .i64 (max w 0)] 23), (0, .cells [.int .i64 0, .int .i64 n, .int .i64 (max w 0)] 23)], 2⟩ [(4 != 0) = true] (by kernel_rfl) ⟨bne_iff_ne.2 (by omega), trivial⟩ ?_
          refine endr (by kernel_rfl) ?_
          refine an ?_
          refine xw_true (by kernel_rfl) ?_
          refine xw_exit ?_
          refine an_exit ?_
          refine ib_exit (by kernel_rfl) ?_
          refine ag_exit ?_
          refine ib_same ?_
          refine an ?_
          refine xw_seq ?_
          refine reg ?_
          refine runk TT_ok [(4, .bool true)] 8 0 [75, 74, 4] [] ⟨[(75, .agg [.int .i64 0, .int .i64 n, .int .i64 (max w 0)]), (74, .bool true), (4, .bool false)], [], 2⟩ [(n == w) = true, True, True] (by kernel_rfl) ⟨beq_iff_eq.2 (by omega), trivial, trivial, trivial⟩ ?_
          refine pcall1 (args := [.agg [.int .i64 0, .int .i64 n, .int .i64 (max w 0)]]) (args' := [.agg [.int .i64 0, .int .i64 n, .int .i64 (max w 0)]]) (d := (some 76)) (sv := .int .i64 ((max w 0) - n)) (by kernel_rfl) (left_1 0 n (max w 0) (by omega)) [(0 : Int) = 0, (n : Int) = n, ((max w 0) : Int) = (max w 0)] (by kernel_rfl) ⟨rfl, rfl, rfl, trivial⟩ (by kernel_rfl) ?_
          refine runk TT_ok [(9, .bool true)] 3 9 [4] [] ⟨[(4, .bool true)], [], 2⟩ [(((max w 0) - n) == 0) = true, True] (by kernel_rfl) ⟨beq_iff_eq.2 (by omega), trivial, trivial⟩ ?_
          refine endr (by kernel_rfl) ?_
          refine an ?_
          refine xw_ret ?_
          exact bk_ret (.bool true) (.bool true) (.bool true) (by kernel_rfl) (by kernel_rfl) (wkd [true = true] (by kernel_rfl) ⟨rfl, trivial⟩) rfl

theorem bumpMost (s : Int) (a : Int) (l : Int) (n : Int) (hp0 : -9223372036854775808 ≤ s ∧ s ≤ 9223372036854775807) (hp1 : -9223372036854775808 ≤ a ∧ a ≤ 9223372036854775807) (hp2 : -9223372036854775808 ≤ l ∧ l ≤ 9223372036854775807) (hp3 : -9223372036854775808 ≤ n ∧ n ≤ 9223372036854775807) : Pub Try.prog 7 [.agg [.int .i64 s, .int .i64 a, .int .i64 l], .int .i64 n] (fun t => t = .bool true) := by
  refine pub_of TT_ok Try.func7 rfl (by decide) (Nat.le_of_ble_eq_true (by kernel_rfl)) (by kernel_rfl) ?_
  refine xw_seq ?_
  refine reg ?_
  refine runk TT_ok [] 2 0 [4, 2, 1] [0] ⟨[(4, .bool false), (2, .loc 0 0), (1, .int .i64 n)], [(0, .cells [.int .i64 s, .int .i64 a, .int .i64 l] 23)], 1⟩ [] (by kernel_rfl) trivial ?_
  refine endr (by kernel_rfl) ?_
  refine an ?_
  refine xw_seq ?_
  refine reg ?_
  refine pcall1 (args := []) (args' := []) (d := (some 13)) (sv := .bool true) (by kernel_rfl) (shown7 ) [] (by kernel_rfl) trivial (by kernel_rfl) ?_
  refine runk TT_ok [] 1 1 [5, 4, 2, 1] [0] ⟨[(5, .bool true), (4, .bool false), (2, .loc 0 0), (1, .int .i64 n)], [(0, .cells [.int .i64 s, .int .i64 a, .int .i64 l] 23)], 1⟩ [] (by kernel_rfl) trivial ?_
  refine endr (by kernel_rfl) ?_
  refine an ?_
  refine xw_seq ?_
  refine reg ?_
  refine runk TT_ok [] 2 0 [16, 15, 5, 4, 2, 1] [0] ⟨[(16, .int .i64 n), (15, .agg [.int .i64 s, .int .i64 a, .int .i64 l]), (5, .bool true), (4, .bool false), (2, .loc 0 0), (1, .int .i64 n)], [(0, .cells [.int .i64 s, .int .i64 a, .int .i64 l] 23)], 1⟩ [True] (by kernel_rfl) ⟨trivial, trivial⟩ ?_
  by_cases h0 : ((s = 0 ∨ s = 1) ∧ 0 ≤ a ∧ a ≤ l ∧ l ≤ 4096) ∧ (1 ≤ n) ∧ (n ≤ l - a)
  · skip
    refine pcall1 (args := [.agg [.int .i64 s, .int .i64 a, .int .i64 l], .int .i64 n]) (args' := [.agg [.int .i64 s, .int .i64 a, .int .i64 l], .int .i64 n]) (d := (some 17)) (sv := .tup [.agg [.int .i64 s, .int .i64 (a + n), .int .i64 l], .int .u64 ((s + 1) * 4294967296 + a), .int .i64 n]) (by kernel_rfl) (most_1 s a l n (by omega) (by omega) (by omega)) [(s : Int) = s, (a : Int) = a, (l : Int) = l, (n : Int) = n] (by kernel_rfl) ⟨rfl, rfl, rfl, rfl, trivial⟩ (by kernel_rfl) ?_
    refine runk TT_ok [] 8 3 [8, 7, 6, 5, 4, 2, 1] [1, 0] ⟨[(8, .int .i64 n), (7, .int .u64 ((s + 1) * 4294967296 + a)), (6, .loc 1 0), (5, .bool true), (4, .bool false), (2, .loc 0 0), (1, .int .i64 n)], [(1, .cells [.int .i64 s, .int .i64 (a + n), .int .i64 l] 23), (0, .cells [.int .i64 s, .int .i64 a, .int .i64 l] 23)], 2⟩ [True] (by kernel_rfl) ⟨trivial, trivial⟩ ?_
    refine endr (by kernel_rfl) ?_
    refine an ?_
    refine xw_seq ?_
    refine reg ?_
    refine runk TT_ok [] 1 0 [21, 8, 7, 6, 5, 4, 2, 1] [1, 0] ⟨[(21, .agg [.int .i64 s, .int .i64 a, .int .i64 l]), (8, .int .i64 n), (7, .int .u64 ((s + 1) * 4294967296 + a)), (6, .loc 1 0), (5, .bool true), (4, .bool false), (2, .loc 0 0), (1, .int .i64 n)], [(1, .cells [.int .i64 s, .int .i64 (a + n), .int .i64 l] 23), (0, .cells [.int .i64 s, .int .i64 a, .int .i64 l] 23)], 2⟩ [True] (by kernel_rfl) ⟨trivial, trivial⟩ ?_
    refine pcall1 (args := [.agg [.int .i64 s, .int .i64 a, .int .i64 l]]) (args' := [.agg [.int .i64 s, .int .i64 a, .int .i64 l]]) (d := (some 22)) (sv := .int .i64 (l - a)) (by kernel_rfl) (left_1 s a l (by omega)) [(s : Int) = s, (a : Int) = a, (l : Int) = l] (by kernel_rfl) ⟨rfl, rfl, rfl, trivial⟩ (by kernel_rfl) ?_
    refine runk TT_ok [] 1 2 [9, 8, 7, 6, 5, 4, 2, 1] [1, 0] ⟨[(9, .int .i64 (l - a)), (8, .int .i64 n), (7, .int .u64 ((s + 1) * 4294967296 + a)), (6, .loc 1 0), (5, .bool true), (4, .bool false), (2, .loc 0 0), (1, .int .i64 n)], [(1, .cells [.int .i64 s, .int .i64 (a + n), .int .i64 l] 23), (0, .cells [.int .i64 s, .int .i64 a, .int .i64 l] 23)], 2⟩ [] (by kernel_rfl) trivial ?_
    refine endr (by kernel_rfl) ?_
    refine an ?_
    refine xw_seq ?_
    refine xw_seq ?_
    refine reg ?_
    refine runk TT_ok [(1, .bool false)] 2 0 [24, 9, 8, 7, 6, 5, 4, 2, 1] [1, 0] ⟨[(24, .bool false), (9, .int .i64 (l - a)), (8, .int .i64 n), (7, .int .u64 ((s + 1) * 4294967296 + a)), (6, .loc 1 0), (5, .bool true), (4, .bool false), (2, .loc 0 0), (1, .int .i64 n)], [(1, .cells [.int .i64 s, .int .i64 (a + n), .int .i64 l] 23), (0, .cells [.int .i64 s, .int .i64 a, .int .i64 l] 23)], 2⟩ [(n == 0) = false] (by kernel_rfl) ⟨beq_eq_false_iff_ne.2 (by omega), trivial⟩ ?_
    refine endr (by kernel_rfl) ?_
    refine an ?_
    refine xw_false (by kernel_rfl) ?_
    refine xw_skip ?_
    refine an ?_
    refine xw_seq ?_
    refine reg ?_
    refine runk TT_ok [] 1 0 [44, 9, 8, 6, 5, 4, 2, 1] [1, 0] ⟨[(44, .int .u64 ((s + 1) * 4294967296 + a)), (9, .int .i64 (l - a)), (8, .int .i64 n), (6, .loc 1 0), (5, .bool true), (4, .bool false), (2, .loc 0 0), (1, .int .i64 n)], [(1, .cells [.int .i64 s, .int .i64 (a + n), .int .i64 l] 23), (0, .cells [.int .i64 s, .int .i64 a, .int .i64 l] 23)], 2⟩ [] (by kernel_rfl) trivial ?_
    refine pcall1 (args := [.int .u64 ((s + 1) * 4294967296 + a)]) (args' := [.int .u64 ((s + 1) * 4294967296 + a)]) (d := (some 45)) (sv := .tup [.int .i64 (((s + 1) * 4294967296 + a) / 4294967296 - 1), .int .i64 (((s + 1) * 4294967296 + a) % 4294967296), .bool true]) (by kernel_rfl) (rwhere_1 ((s + 1) * 4294967296 + a) (by omega) (by omega)) [(((s + 1) * 4294967296 + a) : Int) = ((s + 1) * 4294967296 + a)] (by kernel_rfl) ⟨rfl, trivial⟩ (by kernel_rfl) ?_
    refine runk TT_ok [] 7 2 [12, 11, 10, 9, 8, 6, 5, 4, 2, 1] [1, 0] ⟨[(12, .bool true), (11, .int .i64 (((s + 1) * 4294967296 + a) % 4294967296)), (10, .int .i64 (((s + 1) * 4294967296 + a) / 4294967296 - 1)), (9, .int .i64 (l - a)), (8, .int .i64 n), (6, .loc 1 0), (5, .bool true), (4, .bool false), (2, .loc 0 0), (1, .int .i64 n)], [(1, .cells [.int .i64 s, .int .i64 (a + n), .int .i64 l] 23), (0, .cells [.int .i64 s, .int .i64 a, .int .i64 l] 23)], 2⟩ [] (by kernel_rfl) trivial ?_
    refine endr (by kernel_rfl) ?_
    refine an ?_
    refine xw_seq ?_
    refine reg ?_
    refine runk TT_ok [(3, .bool true), (8, .bool true), (13, .bool true), (18, .bool true), (32, .bool true), (38, .bool true)] 42 0 [90, 89, 9, 8, 4] [] ⟨[(90, .agg [.int .i64 s, .int .i64 (a + n), .int .i64 l]), (89, .bool true), (9, .int .i64 (l - a)), (8, .int .i64 n), (4, .bool false)], [], 2⟩ [(decide (1 ≤ n)) = true, True, (decide (n ≤ n)) = true, True, (decide (n ≤ (l - a))) = true, True, (n == n) = true, True, True, True, True, ((((s + 1) * 4294967296 + a) / 4294967296 - 1) == s) = true, True, True, ((((s + 1) * 4294967296 + a) % 4294967296) == a) = true, True, True] (by kernel_rfl) ⟨decide_eq_true (by omega), trivial, decide_eq_true (by omega), trivial, decide_eq_true (by omega), trivial, beq_iff_eq.2 (by omega), trivial, trivial, trivial, trivial, beq_iff_eq.2 (by omega), trivial, trivial, beq_iff_eq.2 (by omega), trivial, trivial, trivial⟩ ?_
    refine pcall1 (args := [.agg [.int .i64 s, .int .i64 (a + n), .int .i64 l]]) (args' := [.agg [.int .i64 s, .int .i64 (a + n), .int .i64 l]]) (d := (some 91)) (sv := .int .i64 (l - (a + n))) (by kernel_rfl) (left_1 s (a + n) l (by omega)) [(s : Int) = s, ((a + n) : Int) = (a + n), (l : Int) = l] (by kernel_rfl) ⟨rfl, rfl, rfl, trivial⟩ (by kernel_rfl) ?_
    refine runk TT_ok [(45, .int .i64 ((l - a) - n)), (46, .bool true)] 6 43 [4] [] ⟨[(4, .bool true)], [], 2⟩ [IntKind.i64.wrap ((l - a) - n) = ((l - a) - n), ((l - (a + n)) == ((l - a) - n)) = true, True] (by kernel_rfl) ⟨i64_eq (by omega) (by omega), beq_iff_eq.2 (by omega), trivial, trivial⟩ ?_
    refine endr (by kernel_rfl) ?_
    refine an ?_
    refine xw_ret ?_
    exact bk_ret (.bool true) (.bool true) (.bool true) (by kernel_rfl) (by kernel_rfl) (wkd [true = true] (by kernel_rfl) ⟨rfl, trivial⟩) rfl
  · skip
    by_cases h1 : ((s = 0 ∨ s = 1) ∧ 0 ≤ a ∧ a ≤ l ∧ l ≤ 4096) ∧ (l - a < n) ∧ (0 < l - a)
    · skip
      refine pcall1 (args := [.agg [.int .i64 s, .int .i64 a, .int .i64 l], .int .i64 n]) (args' := [.agg [.int .i64 s, .int .i64 a, .int .i64 l], .int .i64 n]) (d := (some 17)) (sv := .tup [.agg [.int .i64 s, .int .i64 l, .int .i64 l], .int .u64 ((s + 1) * 4294967296 + a), .int .i64 (l - a)]) (by kernel_rfl) (most_2 s a l n (by omega) (by omega) (by omega)) [(s : Int) = s, (a : Int) = a, (l : Int) = l, (n : Int) = n] (by kernel_rfl) ⟨rfl, rfl, rfl, rfl, trivial⟩ (by kernel_rfl) ?_
      refine runk TT_ok [] 8 3 [8, 7, 6, 5, 4, 2, 1] [1, 0] ⟨[(8, .int .i64 (l - a)), (7, .int .u64 ((s + 1) * 4294967296 + a)), (6, .loc 1 0), (5, .bool true), (4, .bool false), (2, .loc 0 0), (1, .int .i64 n)], [(1, .cells [.int .i64 s, .int .i64 l, .int .i64 l] 23), (0, .cells [.int .i64 s, .int .i64 a, .int .i64 l] 23)], 2⟩ [True] (by kernel_rfl) ⟨trivial, trivial⟩ ?_
      refine endr (by kernel_rfl) ?_
      refine an ?_
      refine xw_seq ?_
      refine reg ?_
      refine runk TT_ok [] 1 0 [21, 8, 7, 6, 5, 4, 2, 1] [1, 0] ⟨[(21, .agg [.int .i64 s, .int .i64 a, .int .i64 l]), (8, .int .i64 (l - a)), (7, .int .u64 ((s + 1) * 4294967296 + a)), (6, .loc 1 0), (5, .bool true), (4, .bool false), (2, .loc 0 0), (1, .int .i64 n)], [(1, .cells [.int .i64 s, .int .i64 l, .int .i64 l] 23), (0, .cells [.int .i64 s, .int .i64 a, .int .i64 l] 23)], 2⟩ [True] (by kernel_rfl) ⟨trivial, trivial⟩ ?_
      refine pcall1 (args := [.agg [.int .i64 s, .int .i64 a, .int .i64 l]]) (args' := [.agg [.int .i64 s, .int .i64 a, .int .i64 l]]) (d := (some 22)) (sv := .int .i64 (l - a)) (by kernel_rfl) (left_1 s a l (by omega)) [(s : Int) = s, (a : Int) = a, (l : Int) = l] (by kernel_rfl) ⟨rfl, rfl, rfl, trivial⟩ (by kernel_rfl) ?_
      refine runk TT_ok [] 1 2 [9, 8, 7, 6, 5, 4, 2, 1] [1, 0] ⟨[(9, .int .i64 (l - a)), (8, .int .i64 (l - a)), (7, .int .u64 ((s + 1) * 4294967296 + a)), (6, .loc 1 0), (5, .bool true), (4, .bool false), (2, .loc 0 0), (1, .int .i64 n)], [(1, .cells [.int .i64 s, .int .i64 l, .int .i64 l] 23), (0, .cells [.int .i64 s, .int .i64 a, .int .i64 l] 23)], 2⟩ [] (by kernel_rfl) trivial ?_
      refine endr (by kernel_rfl) ?_
      refine an ?_
      refine xw_seq ?_
      refine xw_seq ?_
      refine reg ?_
      refine runk TT_ok [(1, .bool false)] 2 0 [24, 9, 8, 7, 6, 5, 4, 2, 1] [1, 0] ⟨[(24, .bool false), (9, .int .i64 (l - a)), (8, .int .i64 (l - a)), (7, .int .u64 ((s + 1) * 4294967296 + a)), (6, .loc 1 0), (5, .bool true), (4, .bool false), (2, .loc 0 0), (1, .int .i64 n)], [(1, .cells [.int .i64 s, .int .i64 l, .int .i64 l] 23), (0, .cells [.int .i64 s, .int .i64 a, .int .i64 l] 23)], 2⟩ [((l - a) == 0) = false] (by kernel_rfl) ⟨beq_eq_false_iff_ne.2 (by omega), trivial⟩ ?_
      refine endr (by kernel_rfl) ?_
      refine an ?_
      refine xw_false (by kernel_rfl) ?_
      refine xw_skip ?_
      refine an ?_
      refine xw_seq ?_
      refine reg ?_
      refine runk TT_ok [] 1 0 [44, 9, 8, 6, 5, 4, 2, 1] [1, 0] ⟨[(44, .int .u64 ((s + 1) * 4294967296 + a)), (9, .int .i64 (l - a)), (8, .int .i64 (l - a)), (6, .loc 1 0), (5, .bool true), (4, .bool false), (2, .loc 0 0), (1, .int .i64 n)], [(1, .cells [.int .i64 s, .int .i64 l, .int .i64 l] 23), (0, .cells [.int .i64 s, .int .i64 a, .int .i64 l] 23)], 2⟩ [] (by kernel_rfl) trivial ?_
      refine pcall1 (args := [.int .u64 ((s + 1) * 4294967296 + a)]) (args' := [.int .u64 ((s + 1) * 4294967296 + a)]) (d := (some 45)) (sv := .tup [.int .i64 (((s + 1) * 4294967296 + a) / 4294967296 - 1), .int .i64 (((s + 1) * 4294967296 + a) % 4294967296), .bool true]) (by kernel_rfl) (rwhere_1 ((s + 1) * 4294967296 + a) (by omega) (by omega)) [(((s + 1) * 4294967296 + a) : Int) = ((s + 1) * 4294967296 + a)] (by kernel_rfl) ⟨rfl, trivial⟩ (by kernel_rfl) ?_
      refine runk TT_ok [] 7 2 [12, 11, 10, 9, 8, 6, 5, 4, 2, 1] [1, 0] ⟨[(12, .bool true), (11, .int .i64 (((s + 1) * 4294967296 + a) % 4294967296)), (10, .int .i64 (((s + 1) * 4294967296 + a) / 4294967296 - 1)), (9, .int .i64 (l - a)), (8, .int .i64 (l - a)), (6, .loc 1 0), (5, .bool true), (4, .bool false), (2, .loc 0 0), (1, .int .i64 n)], [(1, .cells [.int .i64 s, .int .i64 l, .int .i64 l] 23), (0, .cells [.int .i64 s, .int .i64 a, .int .i64 l] 23)], 2⟩ [] (by kernel_rfl) trivial ?_
      refine endr (by kernel_rfl) ?_
      refine an ?_
      refine xw_seq ?_
      refine reg ?_
      refine runk TT_ok [(3, .bool true), (8, .bool true), (13, .bool true), (18, .bool false), (22, .bool true), (32, .bool true), (38, .bool true)] 42 0 [90, 89, 9, 8, 4] [] ⟨[(90, .agg [.int .i64 s, .int .i64 l, .int .i64 l]), (89, .bool true), (9, .int .i64 (l - a)), (8, .int .i64 (l - a)), (4, .bool false)], [], 2⟩ [(decide (1 ≤ (l - a))) = true, True, (decide ((l - a) ≤ n)) = true, True, (decide ((l - a) ≤ (l - a))) = true, True, ((l - a) == n) = false, ((l - a) == (l - a)) = true, True, True, True, True, ((((s + 1) * 4294967296 + a) / 4294967296 - 1) == s) = true, True, True, ((((s + 1) * 4294967296 + a) % 4294967296) == a) = true, True, True] (by kernel_rfl) ⟨decide_eq_true (by omega), trivial, decide_eq_true (by omega), trivial, decide_eq_true (by omega), trivial, beq_eq_false_iff_ne.2 (by omega), beq_iff_eq.2 (by omega), trivial, trivial, trivial, trivial, beq_iff_eq.2 (by omega), trivial, trivial, beq_iff_eq.2 (by omega), trivial, trivial, trivial⟩ ?_
      refine pcall1 (args := [.agg [.int .i64 s, .int .i64 l, .int .i64 l]]) (args' := [.agg [.int .i64 s, .int .i64 l, .int .i64 l]]) (d := (some 91)) (sv := .int .i64 (l - l)) (by kernel_rfl) (left_1 s l l (by omega)) [(s : Int) = s, (l : Int) = l, (l : Int) = l] (by kernel_rfl) ⟨rfl, rfl, rfl, trivial⟩ (by kernel_rfl) ?_
      refine runk TT_ok [(45, .int .i64 ((l - a) - (l - a))), (46, .bool true)] 6 43 [4] [] ⟨[(4, .bool true)], [], 2⟩ [IntKind.i64.wrap ((l - a) - (l - a)) = ((l - a) - (l - a)), ((l - l) == ((l - a) - (l - a))) = true, True] (by kernel_rfl) ⟨i64_eq (by omega) (by omega), beq_iff_eq.2 (by omega), trivial, trivial⟩ ?_
      refine endr (by kernel_rfl) ?_
      refine an ?_
      refine xw_ret ?_
      exact bk_ret (.bool true) (.bool true) (.bool true) (by kernel_rfl) (by kernel_rfl) (wkd [true = true] (by kernel_rfl) ⟨rfl, trivial⟩) rfl
    · skip
      refine pcall1 (args := [.agg [.int .i64 s, .int .i64 a, .int .i64 l], .int .i64 n]) (args' := [.agg [.int .i64 s, .int .i64 a, .int .i64 l], .int .i64 n]) (d := (some 17)) (sv := .tup [.agg [.int .i64 s, .int .i64 a, .int .i64 l], .int .u64 0, .int .i64 0]) (by kernel_rfl) (most_3 s a l n (by omega)) [(s : Int) = s, (a : Int) = a, (l : Int) = l, (n : Int) = n] (by kernel_rfl) ⟨rfl, rfl, rfl, rfl, trivial⟩ (by kernel_rfl) ?_
      refine runk TT_ok [] 8 3 [8, 7, 6, 5, 4, 2, 1] [1, 0] ⟨[(8, .int .i64 0), (7, .int .u64 0), (6, .loc 1 0), (5, .bool true), (4, .bool false), (2, .loc 0 0), (1, .int .i64 n)], [(1, .cells [.int .i64 s, .int .i64 a, .int .i64 l] 23), (0, .cells [.int .i64 s, .int .i64 a, .int .i64 l] 23)], 2⟩ [True] (by kernel_rfl) ⟨trivial, trivial⟩ ?_
      refine endr (by kernel_rfl) ?_
      refine an ?_
      refine xw_seq ?_
      refine reg ?_
      refine runk TT_ok [] 1 0 [21, 8, 7, 6, 5, 4, 2, 1] [1, 0] ⟨[(21, .agg [.int .i64 s, .int .i64 a, .int .i64 l]), (8, .int .i64 0), (7, .int .u64 0), (6, .loc 1 0), (5, .bool true), (4, .bool false), (2, .loc 0 0), (1, .int .i64 n)], [(1, .cells [.int .i64 s, .int .i64 a, .int .i64 l] 23), (0, .cells [.int .i64 s, .int .i64 a, .int .i64 l] 23)], 2⟩ [True] (by kernel_rfl) ⟨trivial, trivial⟩ ?_
      by_cases h2 : (s = 0 ∨ s = 1) ∧ 0 ≤ a ∧ a ≤ l ∧ l ≤ 4096
      · skip
        refine pcall1 (args := [.agg [.int .i64 s, .int .i64 a, .int .i64 l]]) (args' := [.agg [.int .i64 s, .int .i64 a, .int .i64 l]]) (d := (some 22)) (sv := .int .i64 (l - a)) (by kernel_rfl) (left_1 s a l (by omega)) [(s : Int) = s, (a : Int) = a, (l : Int) = l] (by kernel_rfl) ⟨rfl, rfl, rfl, trivial⟩ (by kernel_rfl) ?_
        refine runk TT_ok [] 1 2 [9, 8, 7, 6, 5, 4, 2, 1] [1, 0] ⟨[(9, .int .i64 (l - a)), (8, .int .i64 0), (7, .int .u64 0), (6, .loc 1 0), (5, .bool true), (4, .bool false), (2, .loc 0 0), (1, .int .i64 n)], [(1, .cells [.int .i64 s, .int .i64 a, .int .i64 l] 23), (0, .cells [.int .i64 s, .int .i64 a, .int .i64 l] 23)], 2⟩ [] (by kernel_rfl) trivial ?_
        refine endr (by kernel_rfl) ?_
        refine an ?_
        refine xw_seq ?_
        refine xw_seq ?_
        refine reg ?_
        refine runk TT_ok [(1, .bool true)] 2 0 [24, 9, 8, 7, 6, 5, 4, 2, 1] [1, 0] ⟨[(24, .bool true), (9, .int .i64 (l - a)), (8, .int .i64 0), (7, .int .u64 0), (6, .loc 1 0), (5, .bool true), (4, .bool false), (2, .loc 0 0), (1, .int .i64 n)], [(1, .cells [.int .i64 s, .int .i64 a, .int .i64 l] 23), (0, .cells [.int .i64 s, .int .i64 a, .int .i64 l] 23)], 2⟩ [(0 == 0) = true] (by kernel_rfl) ⟨beq_iff_eq.2 (by omega), trivial⟩ ?_
        refine endr (by kernel_rfl) ?_
        refine an ?_
        refine xw_true (by kernel_rfl) ?_
        refine xw_seq ?_
        refine reg ?_
        refine runk TT_ok [(4, .bool true), (8, .bool true), (12, .bool ((l - a) == 0))] 14 0 [38, 35, 9, 8, 7, 6, 5, 4, 2, 1] [1, 0] ⟨[(38, .bool ((l - a) == 0)), (35, .bool true), (9, .int .i64 (l - a)), (8, .int .i64 0), (7, .int .u64 0), (6, .loc 1 0), (5, .bool true), (4, .bool false), (2, .loc 0 0), (1, .int .i64 n)], [(1, .cells [.int .i64 s, .int .i64 a, .int .i64 l] 23), (0, .cells [.int .i64 s, .int .i64 a, .int .i64 l] 23)], 2⟩ [True, True, ((s == s) && ((a == a) && ((l == l) && true))) = true, True, (0 == 0) = true, True, ((l - a) == 0) = ((l - a) == 0)] (by kernel_rfl) ⟨trivial, trivial, (by simp <;> omega), trivial, beq_iff_eq.2 (by omega), trivial, rfl, trivial⟩ ?_
        refine splitr 38 (x := ((l - a) == 0)) (by kernel_rfl) (fun h3 => ?_) (fun h3 => ?_)
        · replace h3 : (l - a) = 0 := eq_of_beq h3
          refine runk TT_ok [] 5 14 [4, 9, 8, 7, 6, 5, 2, 1] [1, 0] ⟨[(4, .bool true), (9, .int .i64 (l - a)), (8, .int .i64 0), (7, .int .u64 0), (6, .loc 1 0), (5, .bool true), (2, .loc 0 0), (1, .int .i64 n)], [(1, .cells [.int .i64 s, .int .i64 a, .int .i64 l] 23), (0, .cells [.int .i64 s, .int .i64 a, .int .i64 l] 23)], 2⟩ [True, True] (by kernel_rfl) ⟨trivial, trivial, trivial⟩ ?_
          refine endr (by kernel_rfl) ?_
          refine an ?_
          refine xw_ret ?_
          refine an_ret ?_
          exact bk_ret (.bool true) (.bool true) (.bool true) (by kernel_rfl) (by kernel_rfl) (wkd [true = true] (by kernel_rfl) ⟨rfl, trivial⟩) rfl
        · replace h3 : (l - a) ≠ 0 := ne_of_beq_false h3
          refine runk TT_ok [(15, .bool true)] 5 14 [4, 9, 8, 7, 6, 5, 2, 1] [1, 0] ⟨[(4, .bool true), (9, .int .i64 (l - a)), (8, .int .i64 0), (7, .int .u64 0), (6, .loc 1 0), (5, .bool true), (2, .loc 0 0), (1, .int .i64 n)], [(1, .cells [.int .i64 s, .int .i64 a, .int .i64 l] 23), (0, .cells [.int .i64 s, .int .i64 a, .int .i64 l] 23)], 2⟩ [(decide (n < 1)) = true, True, True] (by kernel_rfl) ⟨decide_eq_true (by omega), trivial, trivial, trivial⟩ ?_
          refine endr (by kernel_rfl) ?_
          refine an ?_
          refine xw_ret ?_
          refine an_ret ?_
          exact bk_ret (.bool true) (.bool true) (.bool true) (by kernel_rfl) (by kernel_rfl) (wkd [true = true] (by kernel_rfl) ⟨rfl, trivial⟩) rfl
      · skip
        refine pcall1 (args := [.agg [.int .i64 s, .int .i64 a, .int .i64 l]]) (args' := [.agg [.int .i64 s, .int .i64 a, .int .i64 l]]) (d := (some 22)) (sv := .int .i64 0) (by kernel_rfl) (left_2 s a l (by omega)) [(s : Int) = s, (a : Int) = a, (l : Int) = l] (by kernel_rfl) ⟨rfl, rfl, rfl, trivial⟩ (by kernel_rfl) ?_
        refine runk TT_ok [] 1 2 [9, 8, 7, 6, 5, 4, 2, 1] [1, 0] ⟨[(9, .int .i64 0), (8, .int .i64 0), (7, .int .u64 0), (6, .loc 1 0), (5, .bool true), (4, .bool false), (2, .loc 0 0), (1, .int .i64 n)], [(1, .cells [.int .i64 s, .int .i64 a, .int .i64 l] 23), (0, .cells [.int .i64 s, .int .i64 a, .int .i64 l] 23)], 2⟩ [] (by kernel_rfl) trivial ?_
        refine endr (by kernel_rfl) ?_
        refine an ?_
        refine xw_seq ?_
        refine xw_seq ?_
        refine reg ?_
        refine runk TT_ok [(1, .bool true)] 2 0 [24, 9, 8, 7, 6, 5, 4, 2, 1] [1, 0] ⟨[(24, .bool true), (9, .int .i64 0), (8, .int .i64 0), (7, .int .u64 0), (6, .loc 1 0), (5, .bool true), (4, .bool false), (2, .loc 0 0), (1, .int .i64 n)], [(1, .cells [.int .i64 s, .int .i64 a, .int .i64 l] 23), (0, .cells [.int .i64 s, .int .i64 a, .int .i64 l] 23)], 2⟩ [(0 == 0) = true] (by kernel_rfl) ⟨beq_iff_eq.2 (by omega), trivial⟩ ?_
        refine endr (by kernel_rfl) ?_
        refine an ?_
        refine xw_true (by kernel_rfl) ?_
        refine xw_seq ?_
        refine reg ?_
        refine runk TT_ok [(4, .bool true), (8, .bool true), (12, .bool true)] 19 0 [4, 9, 8, 7, 6, 5, 2, 1] [1, 0] ⟨[(4, .bool true), (9, .int .i64 0), (8, .int .i64 0), (7, .int .u64 0), (6, .loc 1 0), (5, .bool true), (2, .loc 0 0), (1, .int .i64 n)], [(1, .cells [.int .i64 s, .int .i64 a, .int .i64 l] 23), (0, .cells [.int .i64 s, .int .i64 a, .int .i64 l] 23)], 2⟩ [True, True, ((s == s) && ((a == a) && ((l == l) && true))) = true, True, (0 == 0) = true, True, (0 == 0) = true, True, True] (by kernel_rfl) ⟨trivial, trivial, (by simp <;> omega), trivial, beq_iff_eq.2 (by omega), trivial, beq_iff_eq.2 (by omega), trivial, trivial, trivial⟩ ?_
        refine endr (by kernel_rfl) ?_
        refine an ?_
        refine xw_ret ?_
        refine an_ret ?_
        exact bk_ret (.bool true) (.bool true) (.bool true) (by kernel_rfl) (by kernel_rfl) (wkd [true = true] (by kernel_rfl) ⟨rfl, trivial⟩) rfl

theorem bumpRefuses (s : Int) (a : Int) (l : Int) (n : Int) (hp0 : -9223372036854775808 ≤ s ∧ s ≤ 9223372036854775807) (hp1 : -9223372036854775808 ≤ a ∧ a ≤ 9223372036854775807) (hp2 : -9223372036854775808 ≤ l ∧ l ≤ 9223372036854775807) (hp3 : -9223372036854775808 ≤ n ∧ n ≤ 9223372036854775807) : Pub Try.prog 5 [.agg [.int .i64 s, .int .i64 a, .int .i64 l], .int .i64 n] (fun t => t = .bool true) := by
  refine pub_of TT_ok Try.func5 rfl (by decide) (Nat.le_of_ble_eq_true (by kernel_rfl)) (by kernel_rfl) ?_
  refine xw_seq ?_
  refine reg ?_
  refine runk TT_ok [] 2 0 [4, 2, 1] [0] ⟨[(4, .bool false), (2, .loc 0 0), (1, .int .i64 n)], [(0, .cells [.int .i64 s, .int .i64 a, .int .i64 l] 23)], 1⟩ [] (by kernel_rfl) trivial ?_
  refine endr (by kernel_rfl) ?_
  refine an ?_
  refine xw_seq ?_
  refine reg ?_
  refine pcall1 (args := []) (args' := []) (d := (some 9)) (sv := .bool true) (by kernel_rfl) (shown7 ) [] (by kernel_rfl) trivial (by kernel_rfl) ?_
  refine runk TT_ok [] 1 1 [5, 4, 2, 1] [0] ⟨[(5, .bool true), (4, .bool false), (2, .loc 0 0), (1, .int .i64 n)], [(0, .cells [.int .i64 s, .int .i64 a, .int .i64 l] 23)], 1⟩ [] (by kernel_rfl) trivial ?_
  refine endr (by kernel_rfl) ?_
  refine an ?_
  refine xw_seq ?_
  refine reg ?_
  refine runk TT_ok [] 2 0 [12, 11, 5, 4, 2, 1] [0] ⟨[(12, .int .i64 n), (11, .agg [.int .i64 s, .int .i64 a, .int .i64 l]), (5, .bool true), (4, .bool false), (2, .loc 0 0), (1, .int .i64 n)], [(0, .cells [.int .i64 s, .int .i64 a, .int .i64 l] 23)], 1⟩ [True] (by kernel_rfl) ⟨trivial, trivial⟩ ?_
  by_cases h0 : ((s = 0 ∨ s = 1) ∧ 0 ≤ a ∧ a ≤ l ∧ l ≤ 4096) ∧ (1 ≤ n) ∧ (n ≤ l - a)
  · skip
    refine pcall1 (args := [.agg [.int .i64 s, .int .i64 a, .int .i64 l], .int .i64 n]) (args' := [.agg [.int .i64 s, .int .i64 a, .int .i64 l], .int .i64 n]) (d := (some 13)) (sv := .tup [.agg [.int .i64 s, .int .i64 (a + n), .int .i64 l], .int .u64 ((s + 1) * 4294967296 + a), .int .i64 0]) (by kernel_rfl) (take_1 s a l n (by omega) (by omega) (by omega)) [(s : Int) = s, (a : Int) = a, (l : Int) = l, (n : Int) = n] (by kernel_rfl) ⟨rfl, rfl, rfl, rfl, trivial⟩ (by kernel_rfl) ?_
    refine runk TT_ok [] 8 3 [8, 7, 6, 5, 4, 2, 1] [1, 0] ⟨[(8, .int .i64 0), (7, .int .u64 ((s + 1) * 4294967296 + a)), (6, .loc 1 0), (5, .bool true), (4, .bool false), (2, .loc 0 0), (1, .int .i64 n)], [(1, .cells [.int .i64 s, .int .i64 (a + n), .int .i64 l] 23), (0, .cells [.int .i64 s, .int .i64 a, .int .i64 l] 23)], 2⟩ [True] (by kernel_rfl) ⟨trivial, trivial⟩ ?_
    refine endr (by kernel_rfl) ?_
    refine an ?_
    refine xw_seq ?_
    refine xw_seq ?_
    refine reg ?_
    refine runk TT_ok [(1, .bool true)] 2 0 [18, 8, 7, 6, 5, 4, 2, 1] [1, 0] ⟨[(18, .bool true), (8, .int .i64 0), (7, .int .u64 ((s + 1) * 4294967296 + a)), (6, .loc 1 0), (5, .bool true), (4, .bool false), (2, .loc 0 0), (1, .int .i64 n)], [(1, .cells [.int .i64 s, .int .i64 (a + n), .int .i64 l] 23), (0, .cells [.int .i64 s, .int .i64 a, .int .i64 l] 23)], 2⟩ [(0 == 0) = true] (by kernel_rfl) ⟨beq_iff_eq.2 (by omega), trivial⟩ ?_
    refine endr (by kernel_rfl) ?_
    refine an ?_
    refine xw_true (by kernel_rfl) ?_
    refine xw_seq ?_
    refine reg ?_
    refine runk TT_ok [(3, .bool true)] 8 0 [26, 25, 24, 8, 7, 6, 5, 4, 2, 1] [1, 0] ⟨[(26, .agg [.int .i64 s, .int .i64 a, .int .i64 l]), (25, .int .i64 n), (24, .bool true), (8, .int .i64 0), (7, .int .u64 ((s + 1) * 4294967296 + a)), (6, .loc 1 0), (5, .bool true), (4, .bool false), (2, .loc 0 0), (1, .int .i64 n)], [(1, .cells [.int .i64 s, .int .i64 (a + n), .int .i64 l] 23), (0, .cells [.int .i64 s, .int .i64 a, .int .i64 l] 23)], 2⟩ [(decide (1 ≤ n)) = true, True, True] (by kernel_rfl) ⟨decide_eq_true (by omega), trivial, trivial, trivial⟩ ?_
    refine pcall1 (args := [.agg [.int .i64 s, .int .i64 a, .int .i64 l]]) (args' := [.agg [.int .i64 s, .int .i64 a, .int .i64 l]]) (d := (some 27)) (sv := .int .i64 (l - a)) (by kernel_rfl) (left_1 s a l (by omega)) [(s : Int) = s, (a : Int) = a, (l : Int) = l] (by kernel_rfl) ⟨rfl, rfl, rfl, trivial⟩ (by kernel_rfl) ?_
    refine runk TT_ok [(9, .bool true)] 4 9 [31, 30, 8, 7, 6, 5, 4, 2, 1] [1, 0] ⟨[(31, .agg [.int .i64 s, .int .i64 a, .int .i64 l]), (30, .bool true), (8, .int .i64 0), (7, .int .u64 ((s + 1) * 4294967296 + a)), (6, .loc 1 0), (5, .bool true), (4, .bool false), (2, .loc 0 0), (1, .int .i64 n)], [(1, .cells [.int .i64 s, .int .i64 (a + n), .int .i64 l] 23), (0, .cells [.int .i64 s, .int .i64 a, .int .i64 l] 23)], 2⟩ [(decide (n ≤ (l - a))) = true, True, True] (by kernel_rfl) ⟨decide_eq_true (by omega), trivial, trivial, trivial⟩ ?_
    refine pcall1 (args := [.agg [.int .i64 s, .int .i64 a, .int .i64 l]]) (args' := [.agg [.int .i64 s, .int .i64 a, .int .i64 l]]) (d := (some 32)) (sv := .bool true) (by kernel_rfl) (right_1 s a l (by omega)) [(s : Int) = s, (a : Int) = a, (l : Int) = l] (by kernel_rfl) ⟨rfl, rfl, rfl, trivial⟩ (by kernel_rfl) ?_
    refine runk TT_ok [] 2 14 [4, 8, 7, 6, 5, 2, 1] [1, 0] ⟨[(4, .bool true), (8, .int .i64 0), (7, .int .u64 ((s + 1) * 4294967296 + a)), (6, .loc 1 0), (5, .bool true), (2, .loc 0 0), (1, .int .i64 n)], [(1, .cells [.int .i64 s, .int .i64 (a + n), .int .i64 l] 23), (0, .cells [.int .i64 s, .int .i64 a, .int .i64 l] 23)], 2⟩ [True] (by kernel_rfl) ⟨trivial, trivial⟩ ?_
    refine endr (by kernel_rfl) ?_
    refine an ?_
    refine xw_ret ?_
    refine an_ret ?_
    exact bk_ret (.bool true) (.bool true) (.bool true) (by kernel_rfl) (by kernel_rfl) (wkd [true = true] (by kernel_rfl) ⟨rfl, trivial⟩) rfl
  · skip
    by_cases h1 : ((s = 0 ∨ s = 1) ∧ 0 ≤ a ∧ a ≤ l ∧ l ≤ 4096) ∧ (1 ≤ n) ∧ (l - a < n)
    · skip
      refine pcall1 (args := [.agg [.int .i64 s, .int .i64 a, .int .i64 l], .int .i64 n]) (args' := [.agg [.int .i64 s, .int .i64 a, .int .i64 l], .int .i64 n]) (d := (some 13)) (sv := .tup [.agg [.int .i64 s, .int .i64 a, .int .i64 l], .int .u64 0, .int .i64 4]) (by kernel_rfl) (take_2 s a l n (by omega) (by omega) (by omega)) [(s : Int) = s, (a : Int) = a, (l : Int) = l, (n : Int) = n] (by kernel_rfl) ⟨rfl, rfl, rfl, rfl, trivial⟩ (by kernel_rfl) ?_
      refine runk TT_ok [] 8 3 [8, 7, 6, 5, 4, 2, 1] [1, 0] ⟨[(8, .int .i64 4), (7, .int .u64 0), (6, .loc 1 0), (5, .bool true), (4, .bool false), (2, .loc 0 0), (1, .int .i64 n)], [(1, .cells [.int .i64 s, .int .i64 a, .int .i64 l] 23), (0, .cells [.int .i64 s, .int .i64 a, .int .i64 l] 23)], 2⟩ [True] (by kernel_rfl) ⟨trivial, trivial⟩ ?_
      refine endr (by kernel_rfl) ?_
      refine an ?_
      refine xw_seq ?_
      refine xw_seq ?_
      refine reg ?_
      refine runk TT_ok [(1, .bool false)] 2 0 [18, 8, 7, 6, 5, 4, 2, 1] [1, 0] ⟨[(18, .bool false), (8, .int .i64 4), (7, .int .u64 0), (6, .loc 1 0), (5, .bool true), (4, .bool false), (2, .loc 0 0), (1, .int .i64 n)], [(1, .cells [.int .i64 s, .int .i64 a, .int .i64 l] 23), (0, .cells [.int .i64 s, .int .i64 a, .int .i64 l] 23)], 2⟩ [(4 == 0) = false] (by kernel_rfl) ⟨beq_eq_false_iff_ne.2 (by omega), trivial⟩ ?_
      refine endr (by kernel_rfl) ?_
      refine an ?_
      refine xw_false (by kernel_rfl) ?_
      refine xw_skip ?_
      refine an ?_
      refine xw_seq ?_
      refine reg ?_
      refine runk TT_ok [(4, .bool true), (8, .bool true), (12, .bool false)] 14 0 [47, 46, 44, 8, 4, 2, 1] [0] ⟨[(47, .agg [.int .i64 s, .int .i64 a, .int .i64 l]), (46, .bool false), (44, .bool true), (8, .int .i64 4), (4, .bool false), (2, .loc 0 0), (1, .int .i64 n)], [(0, .cells [.int .i64 s, .int .i64 a, .int .i64 l] 23)], 2⟩ [True, True, ((s == s) && ((a == a) && ((l == l) && true))) = true, True, (0 == 0) = true, True, (4 == 1) = false, True] (by kernel_rfl) ⟨trivial, trivial, (by simp <;> omega), trivial, beq_iff_eq.2 (by omega), trivial, beq_eq_false_iff_ne.2 (by omega), trivial, trivial⟩ ?_
      refine pcall1 (args := [.agg [.int .i64 s, .int .i64 a, .int .i64 l]]) (args' := [.agg [.int .i64 s, .int .i64 a, .int .i64 l]]) (d := (some 48)) (sv := .bool true) (by kernel_rfl) (right_1 s a l (by omega)) [(s : Int) = s, (a : Int) = a, (l : Int) = l] (by kernel_rfl) ⟨rfl, rfl, rfl, trivial⟩ (by kernel_rfl) ?_
      refine runk TT_ok [(18, .bool false), (20, .bool true), (24, .bool true)] 11 15 [59, 58, 56, 4, 2, 1] [0] ⟨[(59, .agg [.int .i64 s, .int .i64 a, .int .i64 l]), (58, .bool true), (56, .bool true), (4, .bool false), (2, .loc 0 0), (1, .int .i64 n)], [(0, .cells [.int .i64 s, .int .i64 a, .int .i64 l] 23)], 2⟩ [(decide (n < 1)) = false, True, (false == false) = true, True, (4 == 4) = true, True] (by kernel_rfl) ⟨decide_eq_false (by omega), trivial, rfl, trivial, beq_iff_eq.2 (by omega), trivial, trivial⟩ ?_
      refine pcall1 (args := [.agg [.int .i64 s, .int .i64 a, .int .i64 l]]) (args' := [.agg [.int .i64 s, .int .i64 a, .int .i64 l]]) (d := (some 60)) (sv := .bool true) (by kernel_rfl) (right_1 s a l (by omega)) [(s : Int) = s, (a : Int) = a, (l : Int) = l] (by kernel_rfl) ⟨rfl, rfl, rfl, trivial⟩ (by kernel_rfl) ?_
      refine runk TT_ok [] 3 27 [63, 62, 61, 58, 56, 4] [] ⟨[(63, .agg [.int .i64 s, .int .i64 a, .int .i64 l]), (62, .int .i64 n), (61, .bool true), (58, .bool true), (56, .bool true), (4, .bool false)], [], 2⟩ [True] (by kernel_rfl) ⟨trivial, trivial⟩ ?_
      refine pcall1 (args := [.agg [.int .i64 s, .int .i64 a, .int .i64 l]]) (args' := [.agg [.int .i64 s, .int .i64 a, .int .i64 l]]) (d := (some 64)) (sv := .int .i64 (l - a)) (by kernel_rfl) (left_1 s a l (by omega)) [(s : Int) = s, (a : Int) = a, (l : Int) = l] (by kernel_rfl) ⟨rfl, rfl, rfl, trivial⟩ (by kernel_rfl) ?_
      refine runk TT_ok [(31, .bool true), (33, .bool true)] 5 31 [4] [] ⟨[(4, .bool true)], [], 2⟩ [(decide ((l - a) < n)) = true, True, (true == true) = true, True] (by kernel_rfl) ⟨decide_eq_true (by omega), trivial, rfl, trivial, trivial⟩ ?_
      refine endr (by kernel_rfl) ?_
      refine an ?_
      refine xw_ret ?_
      exact bk_ret (.bool true) (.bool true) (.bool true) (by kernel_rfl) (by kernel_rfl) (wkd [true = true] (by kernel_rfl) ⟨rfl, trivial⟩) rfl
    · skip
      refine pcall1 (args := [.agg [.int .i64 s, .int .i64 a, .int .i64 l], .int .i64 n]) (args' := [.agg [.int .i64 s, .int .i64 a, .int .i64 l], .int .i64 n]) (d := (some 13)) (sv := .tup [.agg [.int .i64 s, .int .i64 a, .int .i64 l], .int .u64 0, .int .i64 1]) (by kernel_rfl) (take_3 s a l n (by omega)) [(s : Int) = s, (a : Int) = a, (l : Int) = l, (n : Int) = n] (by kernel_rfl) ⟨rfl, rfl, rfl, rfl, trivial⟩ (by kernel_rfl) ?_
      refine runk TT_ok [] 8 3 [8, 7, 6, 5, 4, 2, 1] [1, 0] ⟨[(8, .int .i64 1), (7, .int .u64 0), (6, .loc 1 0), (5, .bool true), (4, .bool false), (2, .loc 0 0), (1, .int .i64 n)], [(1, .cells [.int .i64 s, .int .i64 a, .int .i64 l] 23), (0, .cells [.int .i64 s, .int .i64 a, .int .i64 l] 23)], 2⟩ [True] (by kernel_rfl) ⟨trivial, trivial⟩ ?_
      refine endr (by kernel_rfl) ?_
      refine an ?_
      refine xw_seq ?_
      refine xw_seq ?_
      refine reg ?_
      refine runk TT_ok [(1, .bool false)] 2 0 [18, 8, 7, 6, 5, 4, 2, 1] [1, 0] ⟨[(18, .bool false), (8, .int .i64 1), (7, .int .u64 0), (6, .loc 1 0), (5, .bool true), (4, .bool false), (2, .loc 0 0), (1, .int .i64 n)], [(1, .cells [.int .i64 s, .int .i64 a, .int .i64 l] 23), (0, .cells [.int .i64 s, .int .i64 a, .int .i64 l] 23)], 2⟩ [(1 == 0) = false] (by kernel_rfl) ⟨beq_eq_false_iff_ne.2 (by omega), trivial⟩ ?_
      refine endr (by kernel_rfl) ?_
      refine an ?_
      refine xw_false (by kernel_rfl) ?_
      refine xw_skip ?_
      refine an ?_
      refine xw_seq ?_
      refine reg ?_
      refine runk TT_ok [(4, .bool true), (8, .bool true), (12, .bool true)] 14 0 [47, 46, 44, 8, 4, 2, 1] [0] ⟨[(47, .agg [.int .i64 s, .int .i64 a, .int .i64 l]), (46, .bool true), (44, .bool true), (8, .int .i64 1), (4, .bool false), (2, .loc 0 0), (1, .int .i64 n)], [(0, .cells [.int .i64 s, .int .i64 a, .int .i64 l] 23)], 2⟩ [True, True, ((s == s) && ((a == a) && ((l == l) && true))) = true, True, (0 == 0) = true, True, (1 == 1) = true, True] (by kernel_rfl) ⟨trivial, trivial, (by simp <;> omega), trivial, beq_iff_eq.2 (by omega), trivial, beq_iff_eq.2 (by omega), trivial, trivial⟩ ?_
      by_cases h2 : (s = 0 ∨ s = 1) ∧ 0 ≤ a ∧ a ≤ l ∧ l ≤ 4096
      · skip
        refine pcall1 (args := [.agg [.int .i64 s, .int .i64 a, .int .i64 l]]) (args' := [.agg [.int .i64 s, .int .i64 a, .int .i64 l]]) (d := (some 48)) (sv := .bool true) (by kernel_rfl) (right_1 s a l (by omega)) [(s : Int) = s, (a : Int) = a, (l : Int) = l] (by kernel_rfl) ⟨rfl, rfl, rfl, trivial⟩ (by kernel_rfl) ?_
        refine runk TT_ok [(18, .bool true), (20, .bool true), (24, .bool false)] 11 15 [59, 58, 56, 4, 2, 1] [0] ⟨[(59, .agg [.int .i64 s, .int .i64 a, .int .i64 l]), (58, .bool false), (56, .bool true), (4, .bool false), (2, .loc 0 0), (1, .int .i64 n)], [(0, .cells [.int .i64 s, .int .i64 a, .int .i64 l] 23)], 2⟩ [(decide (n < 1)) = true, True, (true == true) = true, True, (1 == 4) = false, True] (by kernel_rfl) ⟨decide_eq_true (by omega), trivial, rfl, trivial, beq_eq_false_iff_ne.2 (by omega), trivial, trivial⟩ ?_
        refine pcall1 (args := [.agg [.int .i64 s, .int .i64 a, .int .i64 l]]) (args' := [.agg [.int .i64 s, .int .i64 a, .int .i64 l]]) (d := (some 60)) (sv := .bool true) (by kernel_rfl) (right_1 s a l (by omega)) [(s : Int) = s, (a : Int) = a, (l : Int) = l] (by kernel_rfl) ⟨rfl, rfl, rfl, trivial⟩ (by kernel_rfl) ?_
        refine runk TT_ok [] 3 27 [63, 62, 61, 58, 56, 4] [] ⟨[(63, .agg [.int .i64 s, .int .i64 a, .int .i64 l]), (62, .int .i64 n), (61, .bool true), (58, .bool false), (56, .bool true), (4, .bool false)], [], 2⟩ [True] (by kernel_rfl) ⟨trivial, trivial⟩ ?_
        refine pcall1 (args := [.agg [.int .i64 s, .int .i64 a, .int .i64 l]]) (args' := [.agg [.int .i64 s, .int .i64 a, .int .i64 l]]) (d := (some 64)) (sv := .int .i64 (l - a)) (by kernel_rfl) (left_1 s a l (by omega)) [(s : Int) = s, (a : Int) = a, (l : Int) = l] (by kernel_rfl) ⟨rfl, rfl, rfl, trivial⟩ (by kernel_rfl) ?_
        refine runk TT_ok [(31, .bool false), (33, .bool true)] 5 31 [4] [] ⟨[(4, .bool true)], [], 2⟩ [(decide ((l - a) < n)) = false, True, (false == false) = true, True] (by kernel_rfl) ⟨decide_eq_false (by omega), trivial, rfl, trivial, trivial⟩ ?_
        refine endr (by kernel_rfl) ?_
        refine an ?_
        refine xw_ret ?_
        exact bk_ret (.bool true) (.bool true) (.bool true) (by kernel_rfl) (by kernel_rfl) (wkd [true = true] (by kernel_rfl) ⟨rfl, trivial⟩) rfl
      · skip
        refine pcall1 (args := [.agg [.int .i64 s, .int .i64 a, .int .i64 l]]) (args' := [.agg [.int .i64 s, .int .i64 a, .int .i64 l]]) (d := (some 48)) (sv := .bool false) (by kernel_rfl) (right_2 s a l (by omega)) [(s : Int) = s, (a : Int) = a, (l : Int) = l] (by kernel_rfl) ⟨rfl, rfl, rfl, trivial⟩ (by kernel_rfl) ?_
        refine runk TT_ok [(20, .bool true), (24, .bool false)] 11 15 [59, 58, 56, 4, 2, 1] [0] ⟨[(59, .agg [.int .i64 s, .int .i64 a, .int .i64 l]), (58, .bool false), (56, .bool true), (4, .bool false), (2, .loc 0 0), (1, .int .i64 n)], [(0, .cells [.int .i64 s, .int .i64 a, .int .i64 l] 23)], 2⟩ [True, (true == true) = true, True, (1 == 4) = false, True] (by kernel_rfl) ⟨trivial, rfl, trivial, beq_eq_false_iff_ne.2 (by omega), trivial, trivial⟩ ?_
        refine pcall1 (args := [.agg [.int .i64 s, .int .i64 a, .int .i64 l]]) (args' := [.agg [.int .i64 s, .int .i64 a, .int .i64 l]]) (d := (some 60)) (sv := .bool false) (by kernel_rfl) (right_2 s a l (by omega)) [(s : Int) = s, (a : Int) = a, (l : Int) = l] (by kernel_rfl) ⟨rfl, rfl, rfl, trivial⟩ (by kernel_rfl) ?_
        refine runk TT_ok [(33, .bool true)] 9 27 [4] [] ⟨[(4, .bool true)], [], 2⟩ [True, (false == false) = true, True] (by kernel_rfl) ⟨trivial, rfl, trivial, trivial⟩ ?_
        refine endr (by kernel_rfl) ?_
        refine an ?_
        refine xw_ret ?_
        exact bk_ret (.bool true) (.bool true) (.bool true) (by kernel_rfl) (by kernel_rfl) (wkd [true = true] (by kernel_rfl) ⟨rfl, trivial⟩) rfl

end Go.Proofs.Ytiilcckpoibhhaa.X
