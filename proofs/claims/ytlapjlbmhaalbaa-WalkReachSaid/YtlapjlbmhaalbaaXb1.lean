/- Contracts of Go functions: what each returns, for every input that its premises name; no memory of the caller is touched. Printed by a program. -/
import Derived.Test.YtlapjlbmhaalbaaXt
import Derived.Test.YtlapjlbmhaalbaaXq2
namespace Go.Proofs.Ytlapjlbmhaalbaa.X
open Go Go.RowKit
set_option linter.unusedVariables false      -- a premise may serve only to tell which way is taken
theorem addr (s a : Int) : Pub Try.prog 33 [.i s, .i a] (fun rv => ((0 ≤ s ∧ s ≤ 1 ∧ 0 ≤ a ∧ a ≤ 4294967295) ∧ rv = .u ((s + 1) * 4294967296 + a)) ∨ ((¬ (0 ≤ s ∧ s ≤ 1 ∧ 0 ≤ a ∧ a ≤ 4294967295)) ∧ rv = .u 0)) := by
 refine pub_of TT_ok Try.func33 rfl (by decide) (Nat.le_of_ble_eq_true (by kernel_rfl)) (by kernel_rfl) ?_
 refine rg [] 1 ⟨[(4, .u 0), (0, .i s), (1, .i a)], [], 0⟩ [] trivial ?_
 refine xw_seq ?_
 refine xw_seq ?_
 refine reg ?_
 refine rk [(1, .bool (decide (s < 0)))] 3 0 ⟨[(7, .bool (decide (s < 0))), (4, .u 0), (0, .i s), (1, .i a)], [], 0⟩ [(decide (s < 0)) = (decide (s < 0))] ⟨rfl, trivial⟩ ?_
 refine splitr 7 (x := (decide (s < 0))) (by kernel_rfl) (fun h0 => ?_) (fun h0 => ?_)
 ·
  replace h0 : s < 0 := of_decide_eq_true h0
  refine rk [] 11 3 ⟨[(18, .t), (4, .u 0), (0, .i s), (1, .i a)], [], 0⟩ [True, True, True] ⟨trivial, trivial, trivial, trivial⟩ ?_
  refine en ?_
  refine an ?_
  refine ct ?_
  refine rg [] 1 ⟨[(4, .u 0), (0, .i s), (1, .i a)], [], 0⟩ [] trivial ?_
  refine xw_ret ?_
  refine an_ret ?_
  exact bs (.u 0) (Or.inr <| ⟨(by omega), rfl⟩)
 ·
  replace h0 : ¬ (s < 0) := of_decide_eq_false h0
  refine rk [(4, .bool (decide (1 < s)))] 4 3 ⟨[(11, .bool (decide (1 < s))), (4, .u 0), (0, .i s), (1, .i a)], [], 0⟩ [(decide (1 < s)) = (decide (1 < s)), True] ⟨rfl, trivial, trivial⟩ ?_
  refine splitr 11 (x := (decide (1 < s))) (by kernel_rfl) (fun h1 => ?_) (fun h1 => ?_)
  ·
   replace h1 : 1 < s := of_decide_eq_true h1
   refine rk [] 7 7 ⟨[(18, .t), (4, .u 0), (0, .i s), (1, .i a)], [], 0⟩ [True, True] ⟨trivial, trivial, trivial⟩ ?_
   refine en ?_
   refine an ?_
   refine ct ?_
   refine rg [] 1 ⟨[(4, .u 0), (0, .i s), (1, .i a)], [], 0⟩ [] trivial ?_
   refine xw_ret ?_
   refine an_ret ?_
   exact bs (.u 0) (Or.inr <| ⟨(by omega), rfl⟩)
  ·
   replace h1 : ¬ (1 < s) := of_decide_eq_false h1
   refine rk [(8, .bool (decide (a < 0)))] 4 7 ⟨[(15, .bool (decide (a < 0))), (4, .u 0), (0, .i s), (1, .i a)], [], 0⟩ [(decide (a < 0)) = (decide (a < 0)), True] ⟨rfl, trivial, trivial⟩ ?_
   refine splitr 15 (x := (decide (a < 0))) (by kernel_rfl) (fun h2 => ?_) (fun h2 => ?_)
   ·
    replace h2 : a < 0 := of_decide_eq_true h2
    refine rk [] 3 11 ⟨[(18, .t), (4, .u 0), (0, .i s), (1, .i a)], [], 0⟩ [True] ⟨trivial, trivial⟩ ?_
    refine en ?_
    refine an ?_
    refine ct ?_
    refine rg [] 1 ⟨[(4, .u 0), (0, .i s), (1, .i a)], [], 0⟩ [] trivial ?_
    refine xw_ret ?_
    refine an_ret ?_
    exact bs (.u 0) (Or.inr <| ⟨(by omega), rfl⟩)
   ·
    replace h2 : ¬ (a < 0) := of_decide_eq_false h2
    refine rk [(12, .bool (decide (4294967295 < a)))] 3 11 ⟨[(18, .bool (decide (4294967295 < a))), (4, .u 0), (0, .i s), (1, .i a)], [], 0⟩ [(decide (4294967295 < a)) = (decide (4294967295 < a)), True] ⟨rfl, trivial, trivial⟩ ?_
    refine en ?_
    refine an ?_
    refine xw_cond (b := (decide (4294967295 < a))) (by kernel_rfl) (fun h3 => ?_) (fun h3 => ?_)
    ·
     replace h3 : 4294967295 < a := of_decide_eq_true h3
     refine rg [] 1 ⟨[(4, .u 0), (0, .i s), (1, .i a)], [], 0⟩ [] trivial ?_
     refine xw_ret ?_
     refine an_ret ?_
     exact bs (.u 0) (Or.inr <| ⟨(by omega), rfl⟩)
    ·
     replace h3 : ¬ (4294967295 < a) := of_decide_eq_false h3
     refine xw_skip ?_
     refine an ?_
     refine rg [(1, .i (s + 1)), (2, .i (s + 1)), (3, .i ((s + 1) * 4294967296)), (5, .i a), (6, .i (((s + 1) * 4294967296) + a))] 8 ⟨[(4, .u (((s + 1) * 4294967296) + a))], [], 0⟩ [IntKind.i64.wrap (s + 1) = (s + 1), IntKind.u64.wrap (s + 1) = (s + 1), (0 : Int) ≤ 32 ∧ IntKind.u64.wrap ((s + 1) * 2 ^ min (32 : Int).toNat IntKind.u64.bits) = ((s + 1) * 4294967296), IntKind.u64.wrap a = a, IntKind.u64.wrap (BitVec.ofInt 64 ((s + 1) * 4294967296) ||| BitVec.ofInt 64 a).toNat = (((s + 1) * 4294967296) + a)] ⟨i64_eq (by omega) (by omega), u64_in (by omega), ⟨by omega, u64_eq rfl (by omega)⟩, u64_in (by omega), or_eq2 (q := (1 + s)) 32 4294967296 rfl (by omega) (by omega) (by omega) (by omega) (by omega), trivial⟩ ?_
     refine xw_ret ?_
     exact br (.u (((s + 1) * 4294967296) + a)) (.u ((s + 1) * 4294967296 + a)) (wkd [((((s + 1) * 4294967296) + a) : Int) = ((s + 1) * 4294967296 + a)] (by kernel_rfl) ⟨(by omega), trivial⟩) (Or.inl <| ⟨(by omega), rfl⟩)

theorem addr_1 (s a : Int) (hp0 : 0 ≤ s ∧ s ≤ 1 ∧ 0 ≤ a ∧ a ≤ 4294967295) : Pub Try.prog 33 [.i s, .i a] (fun rv => rv = .u ((s + 1) * 4294967296 + a)) := by
  refine (addr s a ).mono ?_
  rintro _ (⟨g0, rfl⟩ | ⟨g0, rfl⟩)
  all_goals first | rfl | (exfalso; first | omega | grind)

theorem rwhere (a : Int) (hp0 : 0 ≤ a ∧ a ≤ 18446744073709551615) : Pub Try.prog 50 [.u a] (fun rv => ((1 ≤ a / 4294967296 ∧ a / 4294967296 ≤ 2) ∧ rv = .tup [.i (a / 4294967296 - 1), .i (a % 4294967296), .t]) ∨ ((¬ (1 ≤ a / 4294967296 ∧ a / 4294967296 ≤ 2)) ∧ rv = .tup [.i 0, .i 0, .f])) := by
 refine pub_of TT_ok Try.func50 rfl (by decide) (Nat.le_of_ble_eq_true (by kernel_rfl)) (by kernel_rfl) ?_
 refine rg [] 3 ⟨[(4, .f), (3, .i 0), (2, .i 0), (0, .u a)], [], 0⟩ [] trivial ?_
 refine rg [(1, .i (a / 4294967296))] 3 ⟨[(5, .u (a / 4294967296)), (4, .f), (3, .i 0), (2, .i 0), (0, .u a)], [], 0⟩ [(4294967296 : Int) ≠ 0 ∧ IntKind.u64.wrap (a.tdiv 4294967296) = (a / 4294967296)] ⟨⟨by omega, u64_tdiv (by omega) (by omega) (by omega)⟩, trivial⟩ ?_
 refine xw_seq ?_
 refine xw_seq ?_
 refine reg ?_
 refine rk [(1, .bool ((a / 4294967296) != 1))] 3 0 ⟨[(10, .bool ((a / 4294967296) != 1)), (5, .u (a / 4294967296)), (4, .f), (3, .i 0), (2, .i 0), (0, .u a)], [], 0⟩ [((a / 4294967296) != 1) = ((a / 4294967296) != 1)] ⟨rfl, trivial⟩ ?_
 refine splitr 10 (x := ((a / 4294967296) != 1)) (by kernel_rfl) (fun h0 => ?_) (fun h0 => ?_)
 ·
  replace h0 : (a / 4294967296) ≠ 1 := bne_iff_ne.1 h0
  refine rk [(4, .bool ((a / 4294967296) != 2))] 3 3 ⟨[(13, .bool ((a / 4294967296) != 2)), (5, .u (a / 4294967296)), (4, .f), (3, .i 0), (2, .i 0), (0, .u a)], [], 0⟩ [((a / 4294967296) != 2) = ((a / 4294967296) != 2), True] ⟨rfl, trivial, trivial⟩ ?_
  refine en ?_
  refine an ?_
  refine xw_cond (b := ((a / 4294967296) != 2)) (by kernel_rfl) (fun h1 => ?_) (fun h1 => ?_)
  ·
   replace h1 : (a / 4294967296) ≠ 2 := bne_iff_ne.1 h1
   refine rg [] 3 ⟨[(4, .f), (3, .i 0), (2, .i 0), (5, .u (a / 4294967296)), (0, .u a)], [], 0⟩ [] trivial ?_
   refine xw_ret ?_
   refine an_ret ?_
   exact bs (.tup [.i 0, .i 0, .f]) (Or.inr <| ⟨(by omega), rfl⟩)
  ·
   replace h1 : (a / 4294967296) = 2 := bne_eq_false_iff_eq.1 h1
   refine xw_skip ?_
   refine an ?_
   refine rg [(1, .i (a / 4294967296)), (2, .i ((a / 4294967296) - 1)), (4, .i (a % 4294967296)), (5, .i (a % 4294967296))] 9 ⟨[(4, .t), (3, .i (a % 4294967296)), (2, .i ((a / 4294967296) - 1))], [], 0⟩ [IntKind.i64.wrap (a / 4294967296) = (a / 4294967296), IntKind.i64.wrap ((a / 4294967296) - 1) = ((a / 4294967296) - 1), (4294967296 : Int) ≠ 0 ∧ a.tmod 4294967296 = (a % 4294967296), IntKind.i64.wrap (a % 4294967296) = (a % 4294967296)] ⟨i64_in (by omega), i64_eq (by omega) (by omega), ⟨by omega, tmod_eq (by omega)⟩, i64_in (by omega), trivial⟩ ?_
   refine xw_ret ?_
   exact br (.tup [.i ((a / 4294967296) - 1), .i (a % 4294967296), .t]) (.tup [.i (a / 4294967296 - 1), .i (a % 4294967296), .t]) (wkd [(((a / 4294967296) - 1) : Int) = (a / 4294967296 - 1), ((a % 4294967296) : Int) = (a % 4294967296), true = true] (by kernel_rfl) ⟨(by omega), rfl, rfl, trivial⟩) (Or.inl <| ⟨(by omega), rfl⟩)
 ·
  replace h0 : (a / 4294967296) = 1 := bne_eq_false_iff_eq.1 h0
  refine rk [] 3 3 ⟨[(13, .f), (5, .u (a / 4294967296)), (4, .f), (3, .i 0), (2, .i 0), (0, .u a)], [], 0⟩ [True] ⟨trivial, trivial⟩ ?_
  refine en ?_
  refine an ?_
  refine cf ?_
  refine xw_skip ?_
  refine an ?_
  refine rg [(1, .i (a / 4294967296)), (2, .i ((a / 4294967296) - 1)), (4, .i (a % 4294967296)), (5, .i (a % 4294967296))] 9 ⟨[(4, .t), (3, .i (a % 4294967296)), (2, .i ((a / 4294967296) - 1))], [], 0⟩ [IntKind.i64.wrap (a / 4294967296) = (a / 4294967296), IntKind.i64.wrap ((a / 4294967296) - 1) = ((a / 4294967296) - 1), (4294967296 : Int) ≠ 0 ∧ a.tmod 4294967296 = (a % 4294967296), IntKind.i64.wrap (a % 4294967296) = (a % 4294967296)] ⟨i64_in (by omega), i64_eq (by omega) (by omega), ⟨by omega, tmod_eq (by omega)⟩, i64_in (by omega), trivial⟩ ?_
  refine xw_ret ?_
  exact br (.tup [.i ((a / 4294967296) - 1), .i (a % 4294967296), .t]) (.tup [.i (a / 4294967296 - 1), .i (a % 4294967296), .t]) (wkd [(((a / 4294967296) - 1) : Int) = (a / 4294967296 - 1), ((a % 4294967296) : Int) = (a % 4294967296), true = true] (by kernel_rfl) ⟨(by omega), rfl, rfl, trivial⟩) (Or.inl <| ⟨(by omega), rfl⟩)

theorem rwhere_1 (a : Int) (hp0 : 0 ≤ a ∧ a ≤ 18446744073709551615) (hp1 : 1 ≤ a / 4294967296 ∧ a / 4294967296 ≤ 2) : Pub Try.prog 50 [.u a] (fun rv => rv = .tup [.i (a / 4294967296 - 1), .i (a % 4294967296), .t]) := by
  refine (rwhere a hp0).mono ?_
  rintro _ (⟨g0, rfl⟩ | ⟨g0, rfl⟩)
  all_goals first | rfl | (exfalso; first | omega | grind)

theorem rwhere_2 (a : Int) (hp0 : 0 ≤ a ∧ a ≤ 18446744073709551615) (hp1 : ¬ (1 ≤ a / 4294967296 ∧ a / 4294967296 ≤ 2)) : Pub Try.prog 50 [.u a] (fun rv => rv = .tup [.i 0, .i 0, .f]) := by
  refine (rwhere a hp0).mono ?_
  rintro _ (⟨g0, rfl⟩ | ⟨g0, rfl⟩)
  all_goals first | rfl | (exfalso; first | omega | grind)

theorem pwhere (a : Int) (hp0 : 0 ≤ a ∧ a ≤ 18446744073709551615) : Pub Try.prog 57 [.u a] (fun rv => ((1 ≤ a / 4294967296 ∧ a / 4294967296 ≤ 2) ∧ rv = .tup [.i (a / 4294967296 - 1), .i (a % 4294967296), .t]) ∨ ((¬ (1 ≤ a / 4294967296 ∧ a / 4294967296 ≤ 2)) ∧ rv = .tup [.i 0, .i 0, .f])) := by
 refine pub_of TT_ok Try.func57 rfl (by decide) (Nat.le_of_ble_eq_true (by kernel_rfl)) (by kernel_rfl) ?_
 refine rg [] 3 ⟨[(4, .f), (3, .i 0), (2, .i 0), (0, .u a)], [], 0⟩ [] trivial ?_
 refine rg [(1, .i (a / 4294967296)), (2, .i (a / 4294967296)), (3, .i ((a / 4294967296) - 1)), (5, .i (a % 4294967296)), (6, .i (a % 4294967296))] 10 ⟨[(5, .p 0), (4, .f), (3, .i 0), (2, .i 0)], [(0, .cells [.i ((a / 4294967296) - 1), .i (a % 4294967296)] 101)], 1⟩ [(0 : Int) ≤ 32 ∧ a.fdiv (2 ^ min (32 : Int).toNat IntKind.u64.bits) = (a / 4294967296), IntKind.i64.wrap (a / 4294967296) = (a / 4294967296), IntKind.i64.wrap ((a / 4294967296) - 1) = ((a / 4294967296) - 1), IntKind.u64.wrap (BitVec.ofInt 64 a &&& BitVec.ofInt 64 4294967295).toNat = (a % 4294967296), IntKind.i64.wrap (a % 4294967296) = (a % 4294967296), True] ⟨⟨by omega, shr_eq rfl⟩, i64_in (by omega), i64_eq (by omega) (by omega), and_eq 32 4294967296 (by decide) rfl (by omega) (by omega) (by omega), i64_in (by omega), trivial, trivial⟩ ?_
 refine xw_seq ?_
 refine xw_seq ?_
 refine reg ?_
 refine rk [(2, .bool ((((a / 4294967296) - 1) == (-1)) && (((a % 4294967296) == 0) && true)))] 4 0 ⟨[(17, .bool ((((a / 4294967296) - 1) == (-1)) && (((a % 4294967296) == 0) && true))), (5, .p 0), (4, .f), (3, .i 0), (2, .i 0)], [(0, .cells [.i ((a / 4294967296) - 1), .i (a % 4294967296)] 101)], 1⟩ [True, ((((a / 4294967296) - 1) == (-1)) && (((a % 4294967296) == 0) && true)) = ((((a / 4294967296) - 1) == (-1)) && (((a % 4294967296) == 0) && true))] ⟨trivial, rfl, trivial⟩ ?_
 refine splitr 17 (x := ((((a / 4294967296) - 1) == (-1)) && (((a % 4294967296) == 0) && true))) (by kernel_rfl) (fun h0 => ?_) (fun h0 => ?_)
 ·
  replace h0 : (((a / 4294967296) - 1) = (- 1)) ∧ ((a % 4294967296) = 0) := by first | (simp; done) | simpa using h0
  refine rk [] 9 4 ⟨[(26, .t), (5, .p 0), (4, .f), (3, .i 0), (2, .i 0)], [(0, .cells [.i ((a / 4294967296) - 1), .i (a % 4294967296)] 101)], 1⟩ [True, True] ⟨trivial, trivial, trivial⟩ ?_
  refine en ?_
  refine an ?_
  refine ct ?_
  refine rg [] 3 ⟨[(4, .f), (3, .i 0), (2, .i 0), (5, .p 0)], [(0, .cells [.i ((a / 4294967296) - 1), .i (a % 4294967296)] 101)], 1⟩ [] trivial ?_
  refine xw_ret ?_
  refine an_ret ?_
  exact bs (.tup [.i 0, .i 0, .f]) (Or.inr <| ⟨(by omega), rfl⟩)
 ·
  replace h0 : ¬ ((((a / 4294967296) - 1) = (- 1)) ∧ ((a % 4294967296) = 0)) := by first | (simp; done) | simpa using h0 | (simp at h0; omega)
  refine rk [(6, .bool (decide (((a / 4294967296) - 1) < 0)))] 5 4 ⟨[(22, .bool (decide (((a / 4294967296) - 1) < 0))), (5, .p 0), (4, .f), (3, .i 0), (2, .i 0)], [(0, .cells [.i ((a / 4294967296) - 1), .i (a % 4294967296)] 101)], 1⟩ [True, (decide (((a / 4294967296) - 1) < 0)) = (decide (((a / 4294967296) - 1) < 0)), True] ⟨trivial, rfl, trivial, trivial⟩ ?_
  refine splitr 22 (x := (decide (((a / 4294967296) - 1) < 0))) (by kernel_rfl) (fun h1 => ?_) (fun h1 => ?_)
  ·
   replace h1 : ((a / 4294967296) - 1) < 0 := of_decide_eq_true h1
   refine rk [] 4 9 ⟨[(26, .t), (5, .p 0), (4, .f), (3, .i 0), (2, .i 0)], [(0, .cells [.i ((a / 4294967296) - 1), .i (a % 4294967296)] 101)], 1⟩ [True] ⟨trivial, trivial⟩ ?_
   refine en ?_
   refine an ?_
   refine ct ?_
   refine rg [] 3 ⟨[(4, .f), (3, .i 0), (2, .i 0), (5, .p 0)], [(0, .cells [.i ((a / 4294967296) - 1), .i (a % 4294967296)] 101)], 1⟩ [] trivial ?_
   refine xw_ret ?_
   refine an_ret ?_
   exact bs (.tup [.i 0, .i 0, .f]) (Or.inr <| ⟨(by omega), rfl⟩)
  ·
   replace h1 : ¬ (((a / 4294967296) - 1) < 0) := of_decide_eq_false h1
   refine rk [(11, .bool (decide (1 < ((a / 4294967296) - 1))))] 4 9 ⟨[(26, .bool (decide (1 < ((a / 4294967296) - 1)))), (5, .p 0), (4, .f), (3, .i 0), (2, .i 0)], [(0, .cells [.i ((a / 4294967296) - 1), .i (a % 4294967296)] 101)], 1⟩ [True, (decide (1 < ((a / 4294967296) - 1))) = (decide (1 < ((a / 4294967296) - 1))), True] ⟨trivial, rfl, trivial, trivial⟩ ?_
   refine en ?_
   refine an ?_
   refine xw_cond (b := (decide (1 < ((a / 4294967296) - 1)))) (by kernel_rfl) (fun h2 => ?_) (fun h2 => ?_)
   ·
    replace h2 : 1 < ((a / 4294967296) - 1) := of_decide_eq_true h2
    refine rg [] 3 ⟨[(4, .f), (3, .i 0), (2, .i 0), (5, .p 0)], [(0, .cells [.i ((a / 4294967296) - 1), .i (a % 4294967296)] 101)], 1⟩ [] trivial ?_
    refine xw_ret ?_
    refine an_ret ?_
    exact bs (.tup [.i 0, .i 0, .f]) (Or.inr <| ⟨(by omega), rfl⟩)
   ·
    replace h2 : ¬ (1 < ((a / 4294967296) - 1)) := of_decide_eq_false h2
    refine xw_skip ?_
    refine an ?_
    refine xw_seq ?_
    refine dregk hmix (by kernel_rfl) ?_
    refine qr [] 7 0 [(4, .t), (3, .i (a % 4294967296)), (2, .i ((a / 4294967296) - 1)), (30, .i (a % 4294967296)), (29, .loc 0 1), (28, .i ((a / 4294967296) - 1)), (27, .p 0), (26, .bool (decide (1 < ((a / 4294967296) - 1)))), (5, .p 0), (4, .f), (3, .i 0), (2, .i 0)] [True, True] ⟨trivial, trivial, trivial⟩ ?_
    refine qen ?_
    refine an ?_
    refine xw_ret ?_
    exact br (.tup [.i ((a / 4294967296) - 1), .i (a % 4294967296), .t]) (.tup [.i (a / 4294967296 - 1), .i (a % 4294967296), .t]) (wkd [(((a / 4294967296) - 1) : Int) = (a / 4294967296 - 1), ((a % 4294967296) : Int) = (a % 4294967296), true = true] (by kernel_rfl) ⟨(by omega), rfl, rfl, trivial⟩) (Or.inl <| ⟨(by omega), rfl⟩)

theorem pwhere_1 (a : Int) (hp0 : 0 ≤ a ∧ a ≤ 18446744073709551615) (hp1 : 1 ≤ a / 4294967296 ∧ a / 4294967296 ≤ 2) : Pub Try.prog 57 [.u a] (fun rv => rv = .tup [.i (a / 4294967296 - 1), .i (a % 4294967296), .t]) := by
  refine (pwhere a hp0).mono ?_
  rintro _ (⟨g0, rfl⟩ | ⟨g0, rfl⟩)
  all_goals first | rfl | (exfalso; first | omega | grind)

theorem pwhere_2 (a : Int) (hp0 : 0 ≤ a ∧ a ≤ 18446744073709551615) (hp1 : ¬ (1 ≤ a / 4294967296 ∧ a / 4294967296 ≤ 2)) : Pub Try.prog 57 [.u a] (fun rv => rv = .tup [.i 0, .i 0, .f]) := by
  refine (pwhere a hp0).mono ?_
  rintro _ (⟨g0, rfl⟩ | ⟨g0, rfl⟩)
  all_goals first | rfl | (exfalso; first | omega | grind)

theorem padd (a b : Int) (hp0 : -9223372036854775808 ≤ a ∧ a ≤ 9223372036854775807) (hp1 : -9223372036854775808 ≤ b ∧ b ≤ 9223372036854775807) : Pub Try.prog 64 [.i a, .i b] (fun rv => ((0 ≤ a ∧ 0 ≤ b ∧ a + b ≤ 9223372036854775807) ∧ rv = .tup [.i (a + b), .t]) ∨ ((¬ (0 ≤ a ∧ 0 ≤ b ∧ a + b ≤ 9223372036854775807)) ∧ rv = .tup [.i 0, .f])) := by
 refine pub_of TT_ok Try.func64 rfl (by decide) (Nat.le_of_ble_eq_true (by kernel_rfl)) (by kernel_rfl) ?_
 refine rg [] 4 ⟨[(5, .f), (4, .i 0), (3, .p 1), (2, .p 0)], [(1, .cells [.i b] 3), (0, .cells [.i a] 3)], 2⟩ [] trivial ?_
 refine rg [] 2 ⟨[(6, .fn 65 [] [.p 0, .p 1]), (5, .f), (4, .i 0), (3, .p 1), (2, .p 0)], [(1, .cells [.i b] 3), (0, .cells [.i a] 3)], 2⟩ [] trivial ?_
 refine xw_seq ?_
 refine xw_block ?_
 refine xw_seq ?_
 refine xw_block ?_
 refine xw_block ?_
 refine xw_seq ?_
 refine xw_seq ?_
 refine xw_seq ?_
 refine reg ?_
 refine rk [] 1 0 ⟨[(9, .fn 65 [] [.p 0, .p 1]), (5, .f), (4, .i 0), (3, .p 1), (2, .p 0)], [(1, .cells [.i b] 3), (0, .cells [.i a] 3)], 2⟩ [] trivial ?_
 refine callx (f := 65) (args := [.p 0, .p 1]) (d := (some 10)) (by kernel_rfl) (xcall_of TT_ok Try.func65 rfl (by decide) (Nat.le_of_ble_eq_true (by kernel_rfl)) ?_)
 refine rg [] 1 ⟨[(2, .f), (0, .p 0), (1, .p 1)], [(1, .cells [.i b] 3), (0, .cells [.i a] 3)], 2⟩ [] trivial ?_
 refine xw_seq ?_
 refine reg ?_
 refine rk [(1, .bool (decide (a < 0)))] 3 0 ⟨[(5, .bool (decide (a < 0))), (2, .f), (1, .p 1)], [(1, .cells [.i b] 3), (0, .cells [.i a] 3)], 2⟩ [True, (decide (a < 0)) = (decide (a < 0))] ⟨trivial, rfl, trivial⟩ ?_
 refine splitr 5 (x := (decide (a < 0))) (by kernel_rfl) (fun h0 => ?_) (fun h0 => ?_)
 ·
  replace h0 : a < 0 := of_decide_eq_true h0
  refine rk [] 4 3 ⟨[(2, .t)], [(1, .cells [.i b] 3), (0, .cells [.i a] 3)], 2⟩ [True] ⟨trivial, trivial⟩ ?_
  refine en ?_
  refine an ?_
  refine xw_ret ?_
  refine ⟨.t, by kernel_rfl, ?_⟩
  show XOi _ _ _ _ _ _ _ ⟨[(10, .bool true), (9, .fn 65 [] [.loc 0 0, .loc 1 0]), (5, .bool false), (4, .int .i64 0), (3, .loc 1 0), (2, .loc 0 0)], [(1, .cells [.int .i64 b] 3), (0, .cells [.int .i64 a] 3)], 2⟩
  refine rk [] 1 2 ⟨[(8, .t), (5, .f), (4, .i 0), (3, .p 1), (2, .p 0)], [(1, .cells [.i b] 3), (0, .cells [.i a] 3)], 2⟩ [] trivial ?_
  refine en ?_
  refine an ?_
  refine ct ?_
  refine xw_exit ?_
  refine an_exit ?_
  refine an_exit ?_
  refine ib_same ?_
  refine ib ?_
  refine an ?_
  refine xw_seq ?_
  refine rg [] 2 ⟨[(5, .f), (4, .i 0), (3, .p 1), (2, .p 0)], [(1, .cells [.i b] 3), (0, .cells [.i a] 3)], 2⟩ [] trivial ?_
  refine xw_ret ?_
  refine an_ret ?_
  refine ib_ret ?_
  refine an_ret ?_
  exact bs (.tup [.i 0, .f]) (Or.inr <| ⟨(by omega), rfl⟩)
 ·
  replace h0 : ¬ (a < 0) := of_decide_eq_false h0
  refine rk [(4, .bool (decide (b < 0)))] 4 3 ⟨[(2, .bool (decide (b < 0)))], [(1, .cells [.i b] 3), (0, .cells [.i a] 3)], 2⟩ [True, (decide (b < 0)) = (decide (b < 0)), True] ⟨trivial, rfl, trivial, trivial⟩ ?_
  refine en ?_
  refine an ?_
  refine xw_ret ?_
  refine ⟨.bool (decide (b < 0)), by kernel_rfl, ?_⟩
  show XOi _ _ _ _ _ _ _ ⟨[(10, .bool (decide (b < 0))), (9, .fn 65 [] [.loc 0 0, .loc 1 0]), (5, .bool false), (4, .int .i64 0), (3, .loc 1 0), (2, .loc 0 0)], [(1, .cells [.int .i64 b] 3), (0, .cells [.int .i64 a] 3)], 2⟩
  refine rk [] 1 2 ⟨[(8, .bool (decide (b < 0))), (5, .f), (4, .i 0), (3, .p 1), (2, .p 0)], [(1, .cells [.i b] 3), (0, .cells [.i a] 3)], 2⟩ [] trivial ?_
  refine en ?_
  refine an ?_
  refine xw_cond (b := (decide (b < 0))) (by kernel_rfl) (fun h1 => ?_) (fun h1 => ?_)
  ·
   replace h1 : b < 0 := of_decide_eq_true h1
   refine xw_exit ?_
   refine an_exit ?_
   refine an_exit ?_
   refine ib_same ?_
   refine ib ?_
   refine an ?_
   refine xw_seq ?_
   refine rg [] 2 ⟨[(5, .f), (4, .i 0), (3, .p 1), (2, .p 0)], [(1, .cells [.i b] 3), (0, .cells [.i a] 3)], 2⟩ [] trivial ?_
   refine xw_ret ?_
   refine an_ret ?_
   refine ib_ret ?_
   refine an_ret ?_
   exact bs (.tup [.i 0, .f]) (Or.inr <| ⟨(by omega), rfl⟩)
  ·
   replace h1 : ¬ (b < 0) := of_decide_eq_false h1
   refine xw_skip ?_
   refine an ?_
   refine xw_seq ?_
   refine reg ?_
   refine rk [] 2 0 ⟨[(13, .i b), (12, .i a), (5, .f), (4, .i 0), (3, .p 1), (2, .p 0)], [(1, .cells [.i b] 3), (0, .cells [.i a] 3)], 2⟩ [True, True] ⟨trivial, trivial, trivial⟩ ?_
   by_cases h2 : (a + b) ≤ 9223372036854775807
   ·
    refine rk [(2, .i (a + b)), (3, .f)] 3 2 ⟨[(11, .f), (5, .f), (4, .i 0), (3, .p 1), (2, .p 0)], [(1, .cells [.i b] 3), (0, .cells [.i a] 3)], 2⟩ [IntKind.i64.wrap (a + b) = (a + b), (decide ((a + b) < 0)) = false] ⟨i64_eq (by omega) (by omega), decide_eq_false (by omega), trivial⟩ ?_
    refine en ?_
    refine an ?_
    refine cf ?_
    refine xw_skip ?_
    refine an ?_
    refine xw_exit ?_
    refine ib_exit (by kernel_rfl) ?_
    refine ib_exit (by kernel_rfl) ?_
    refine an_exit ?_
    refine ib_same ?_
    refine an ?_
    refine rg [(2, .i (a + b))] 5 ⟨[(5, .t), (4, .i (a + b))], [], 2⟩ [True, True, IntKind.i64.wrap (a + b) = (a + b)] ⟨trivial, trivial, i64_eq (by omega) (by omega), trivial⟩ ?_
    refine xw_ret ?_
    exact bs (.tup [.i (a + b), .t]) (Or.inl <| ⟨(by omega), rfl⟩)
   ·
    refine rk [(2, .i ((a + b) - 18446744073709551616)), (3, .t)] 3 2 ⟨[(11, .t), (5, .f), (4, .i 0), (3, .p 1), (2, .p 0)], [(1, .cells [.i b] 3), (0, .cells [.i a] 3)], 2⟩ [IntKind.i64.wrap (a + b) = ((a + b) - 18446744073709551616), (decide (((a + b) - 18446744073709551616) < 0)) = true] ⟨i64_off (by omega) (by omega), decide_eq_true (by omega), trivial⟩ ?_
    refine en ?_
    refine an ?_
    refine ct ?_
    refine xw_exit ?_
    refine an_exit ?_
    refine ib_exit (by kernel_rfl) ?_
    refine ib_same ?_
    refine an ?_
    refine xw_seq ?_
    refine rg [] 2 ⟨[(5, .f), (4, .i 0), (3, .p 1), (2, .p 0)], [(1, .cells [.i b] 3), (0, .cells [.i a] 3)], 2⟩ [] trivial ?_
    refine xw_ret ?_
    refine an_ret ?_
    refine ib_ret ?_
    refine an_ret ?_
    exact bs (.tup [.i 0, .f]) (Or.inr <| ⟨(by omega), rfl⟩)

theorem padd_1 (a b : Int) (hp0 : -9223372036854775808 ≤ a ∧ a ≤ 9223372036854775807) (hp1 : -9223372036854775808 ≤ b ∧ b ≤ 9223372036854775807) (hp2 : 0 ≤ a ∧ 0 ≤ b ∧ a + b ≤ 9223372036854775807) : Pub Try.prog 64 [.i a, .i b] (fun rv => rv = .tup [.i (a + b), .t]) := by
  refine (padd a b hp0 hp1).mono ?_
  rintro _ (⟨g0, rfl⟩ | ⟨g0, rfl⟩)
  all_goals first | rfl | (exfalso; first | omega | grind)

theorem padd_2 (a b : Int) (hp0 : -9223372036854775808 ≤ a ∧ a ≤ 9223372036854775807) (hp1 : -9223372036854775808 ≤ b ∧ b ≤ 9223372036854775807) (hp2 : ¬ (0 ≤ a ∧ 0 ≤ b ∧ a + b ≤ 9223372036854775807)) : Pub Try.prog 64 [.i a, .i b] (fun rv => rv = .tup [.i 0, .f]) := by
  refine (padd a b hp0 hp1).mono ?_
  rintro _ (⟨g0, rfl⟩ | ⟨g0, rfl⟩)
  all_goals first | rfl | (exfalso; first | omega | grind)

theorem fits (a n w : Int) (hp0 : -9223372036854775808 ≤ a ∧ a ≤ 9223372036854775807) (hp1 : -9223372036854775808 ≤ n ∧ n ≤ 9223372036854775807) (hp2 : -9223372036854775808 ≤ w ∧ w ≤ 9223372036854775807) : Pub Try.prog 58 [.i a, .i n, .i w] (fun rv => ((0 ≤ a ∧ 0 ≤ n ∧ a + n ≤ w) ∧ rv = .t) ∨ ((¬ (0 ≤ a ∧ 0 ≤ n ∧ a + n ≤ w)) ∧ rv = .f)) := by
 refine pub_of TT_ok Try.func58 rfl (by decide) (Nat.le_of_ble_eq_true (by kernel_rfl)) (by kernel_rfl) ?_
 refine rg [] 1 ⟨[(6, .f), (0, .i a), (1, .i n), (2, .i w)], [], 0⟩ [] trivial ?_
 refine xw_seq ?_
 refine reg ?_
 refine rk [] 2 0 ⟨[(11, .i n), (10, .i a), (6, .f), (2, .i w)], [], 0⟩ [] trivial ?_
 by_cases h0 : 0 ≤ a ∧ 0 ≤ n ∧ a + n ≤ 9223372036854775807
 ·
  refine pc (padd_1 a n ‹_› ‹_› ‹_›) ?_
  refine rk [] 5 3 ⟨[(8, .t), (7, .i (a + n)), (6, .f), (2, .i w)], [], 0⟩ [] trivial ?_
  refine en ?_
  refine an ?_
  refine rg [(4, .bool (decide ((a + n) ≤ w)))] 7 ⟨[(6, .bool (decide ((a + n) ≤ w)))], [], 0⟩ [(decide ((a + n) ≤ w)) = (decide ((a + n) ≤ w)), True] ⟨rfl, trivial, trivial⟩ ?_
  refine xw_ret ?_
  by_cases h1 : (a + n) ≤ w
  ·
   exact br (.bool (decide ((a + n) ≤ w))) (.t) (wkd [(decide ((a + n) ≤ w)) = true] (by kernel_rfl) ⟨(by first | exact decide_eq_true (by omega) | exact decide_eq_false (by omega) | (simp; done) | (simp; omega) | (simp_all; done) | (simp_all; omega) | grind), trivial⟩) (Or.inl <| ⟨(by omega), rfl⟩)
  ·
   exact br (.bool (decide ((a + n) ≤ w))) (.f) (wkd [(decide ((a + n) ≤ w)) = false] (by kernel_rfl) ⟨(by first | exact decide_eq_true (by omega) | exact decide_eq_false (by omega) | (simp; done) | (simp; omega) | (simp_all; done) | (simp_all; omega) | grind), trivial⟩) (Or.inr <| ⟨(by omega), rfl⟩)
 ·
  refine pc (padd_2 a n ‹_› ‹_› ‹_›) ?_
  refine rk [] 5 3 ⟨[(8, .f), (7, .i 0), (6, .f), (2, .i w)], [], 0⟩ [] trivial ?_
  refine en ?_
  refine an ?_
  refine rg [] 7 ⟨[(6, .f)], [], 0⟩ [True] ⟨trivial, trivial⟩ ?_
  refine xw_ret ?_
  exact bs (.f) (Or.inr <| ⟨(by omega), rfl⟩)

theorem fits_1 (a n w : Int) (hp0 : -9223372036854775808 ≤ a ∧ a ≤ 9223372036854775807) (hp1 : -9223372036854775808 ≤ n ∧ n ≤ 9223372036854775807) (hp2 : -9223372036854775808 ≤ w ∧ w ≤ 9223372036854775807) (hp3 : 0 ≤ a ∧ 0 ≤ n ∧ a + n ≤ w) : Pub Try.prog 58 [.i a, .i n, .i w] (fun rv => rv = .t) := by
  refine (fits a n w hp0 hp1 hp2).mono ?_
  rintro _ (⟨g0, rfl⟩ | ⟨g0, rfl⟩)
  all_goals first | rfl | (exfalso; first | omega | grind)

theorem fits_2 (a n w : Int) (hp0 : -9223372036854775808 ≤ a ∧ a ≤ 9223372036854775807) (hp1 : -9223372036854775808 ≤ n ∧ n ≤ 9223372036854775807) (hp2 : -9223372036854775808 ≤ w ∧ w ≤ 9223372036854775807) (hp3 : ¬ (0 ≤ a ∧ 0 ≤ n ∧ a + n ≤ w)) : Pub Try.prog 58 [.i a, .i n, .i w] (fun rv => rv = .f) := by
  refine (fits a n w hp0 hp1 hp2).mono ?_
  rintro _ (⟨g0, rfl⟩ | ⟨g0, rfl⟩)
  all_goals first | rfl | (exfalso; first | omega | grind)

theorem rpower (n : Int) (hp0 : 0 ≤ n ∧ n ≤ 63) : Pub Try.prog 54 [.i n] (fun rv => rv = .u (2 ^ (Int.toNat n))) := by
 refine pub_of TT_ok Try.func54 rfl (by decide) (Nat.le_of_ble_eq_true (by kernel_rfl)) (by kernel_rfl) ?_
 refine rg [] 1 ⟨[(2, .u 0), (0, .i n)], [], 0⟩ [] trivial ?_
 refine rg [] 1 ⟨[(3, .u 1), (2, .u 0), (0, .i n)], [], 0⟩ [] trivial ?_
 refine xw_seq ?_
 refine rg [] 1 ⟨[(4, .i 0), (3, .u 1), (2, .u 0), (0, .i n)], [], 0⟩ [] trivial ?_
 refine xw_block ?_
 refine xw_loop (α := {q : Int × Int // (0 ≤ q.1) ∧ (q.1 ≤ n) ∧ (q.2 = 2 ^ (Int.toNat q.1)) ∧ (1 ≤ q.2) ∧ (q.2 ≤ 9223372036854775808) ∧ ((q.1 = 63 ∨ q.2 * 4 ≤ 18446744073709551616))}) (fun p => ⟨[(4, .i p.1.1), (3, .u p.1.2), (2, .u 0), (0, .i n)], [], 0⟩) (fun p => (n - p.1.1).toNat) ⟨(0, 1), ⟨(by omega), (by omega), (by first | omega | (simp; done) | exact pow_step (by omega) (by assumption) | exact pow_b1 (by omega) (by omega) (by assumption) | exact pow_b2 (by omega) (by omega) (by assumption)), (by omega), (by omega), (by omega)⟩⟩ (le_of [] [(0 : Int) = 0, (1 : Int) = 1, (0 : Int) = 0, (n : Int) = n] (by kernel_rfl) ⟨rfl, rfl, rfl, rfl, trivial⟩) ?_
 rintro ⟨⟨i, v⟩, h0, h1, h2, h3, h4, h5⟩
 try dsimp only at h0 h1 h2 h3 h4 h5
 show XW _ _ _ _ _ _ ⟨[(4, .int .i64 i), (3, .int .u64 v), (2, .int .u64 0), (0, .int .i64 n)], [], 0⟩
 refine xw_seq ?_
 refine rg [(2, .bool (decide (i < n)))] 3 ⟨[(7, .bool (decide (i < n))), (4, .i i), (3, .u v), (2, .u 0), (0, .i n)], [], 0⟩ [(decide (i < n)) = (decide (i < n))] ⟨rfl, trivial⟩ ?_
 refine xw_cond (b := (decide (i < n))) (by kernel_rfl) (fun h6 => ?_) (fun h6 => ?_)
 ·
  replace h6 : i < n := of_decide_eq_true h6
  refine xw_skip ?_
  refine an ?_
  refine xw_seq ?_
  refine xw_block ?_
  refine re [(2, .i (v + v))] 4 ⟨[(3, .u (v + v)), (4, .i i), (2, .u 0), (0, .i n)], [], 0⟩ [IntKind.u64.wrap (v + v) = (v + v)] ⟨u64_eq (by omega) (by omega), trivial⟩ ?_
  refine ib ?_
  refine an ?_
  refine re [(1, .i (i + 1))] 3 ⟨[(4, .i (i + 1)), (3, .u (v + v)), (2, .u 0), (0, .i n)], [], 0⟩ [IntKind.i64.wrap (i + 1) = (i + 1)] ⟨i64_eq (by omega) (by omega), trivial⟩ ?_
  exact ag ⟨((i + 1), (v + v)), ⟨(by omega), (by omega), (by first | omega | (simp; done) | exact pow_step (by omega) (by assumption) | exact pow_b1 (by omega) (by omega) (by assumption) | exact pow_b2 (by omega) (by omega) (by assumption)), (by omega), (by omega), (by first | omega | (simp; done) | exact pow_step (by omega) (by assumption) | exact pow_b1 (by omega) (by omega) (by assumption) | exact pow_b2 (by omega) (by omega) (by assumption))⟩⟩ (le_of [] [((i + 1) : Int) = (i + 1), ((v + v) : Int) = (v + v), (0 : Int) = 0, (n : Int) = n] (by kernel_rfl) ⟨rfl, rfl, rfl, rfl, trivial⟩) (by show (n - (i + 1)).toNat < (n - i).toNat; omega)
 ·
  replace h6 : ¬ (i < n) := of_decide_eq_false h6
  refine xw_exit ?_
  refine an_exit ?_
  refine ag_exit ?_
  refine ib_same ?_
  refine an ?_
  refine rg [] 2 ⟨[(2, .u v)], [], 0⟩ [] trivial ?_
  refine xw_ret ?_
  exact br (.u v) (.u (2 ^ (Int.toNat n))) (wkd [(v : Int) = (2 ^ (Int.toNat n))] (by kernel_rfl) ⟨(by first | omega | (subst_vars; congr 2; omega) | grind), trivial⟩) rfl

theorem hright_e (t l m : Int) (hp0 : -9223372036854775808 ≤ t ∧ t ≤ 9223372036854775807) (hp1 : -9223372036854775808 ≤ l ∧ l ≤ 9223372036854775807) (hp2 : 0 ≤ m ∧ m ≤ 18446744073709551615) : Pub Try.prog 56 [.agg [.i t, .i l, .u m]] (fun rv => rv = .i (headErr t l m)) := by
 refine pub_of TT_ok Try.func56 rfl (by decide) (Nat.le_of_ble_eq_true (by kernel_rfl)) (by kernel_rfl) ?_
 refine rg [] 2 ⟨[(2, .i 0), (1, .p 0)], [(0, .cells [.i t, .i l, .u m] 49)], 1⟩ [] trivial ?_
 refine rg [(2, .bool (t == 255))] 5 ⟨[(3, .p 1), (2, .i 0), (1, .p 0)], [(1, .cells [.bool (t == 255)] 4), (0, .cells [.i t, .i l, .u m] 49)], 2⟩ [True, (t == 255) = (t == 255), True] ⟨trivial, rfl, trivial, trivial⟩ ?_
 refine rg [] 2 ⟨[(4, .fn 63 [] [.p 1]), (3, .p 1), (2, .i 0), (1, .p 0)], [(1, .cells [.bool (t == 255)] 4), (0, .cells [.i t, .i l, .u m] 49)], 2⟩ [] trivial ?_
 refine rg [] 3 ⟨[(5, .i l), (4, .fn 63 [] [.p 1]), (3, .p 1), (2, .i 0), (1, .p 0)], [(1, .cells [.bool (t == 255)] 4), (0, .cells [.i t, .i l, .u m] 49)], 2⟩ [True] ⟨trivial, trivial⟩ ?_
 refine rg [] 1 ⟨[(6, .i 0), (5, .i l), (4, .fn 63 [] [.p 1]), (3, .p 1), (2, .i 0), (1, .p 0)], [(1, .cells [.bool (t == 255)] 4), (0, .cells [.i t, .i l, .u m] 49)], 2⟩ [] trivial ?_
 refine xw_seq ?_
 refine xw_block ?_
 refine xw_seq ?_
 refine xw_block ?_
 refine xw_seq ?_
 refine xw_block ?_
 refine xw_seq ?_
 refine xw_block ?_
 refine xw_seq ?_
 refine xw_block ?_
 refine xw_seq ?_
 refine xw_seq ?_
 refine xw_seq ?_
 refine reg ?_
 refine rk [] 3 0 ⟨[(16, .bool (!(t == 255))), (6, .i 0), (5, .i l), (4, .fn 63 [] [.p 1]), (3, .p 1), (2, .i 0), (1, .p 0)], [(1, .cells [.bool (t == 255)] 4), (0, .cells [.i t, .i l, .u m] 49)], 2⟩ [True] ⟨trivial, trivial⟩ ?_
 refine splitr 16 (x := (!(t == 255))) (by kernel_rfl) (fun h0 => ?_) (fun h0 => ?_)
 ·
  replace h0 : t ≠ 255 := by first | (simp; done) | simpa using h0 | (simp at h0; omega)
  refine rk [(5, .bool (decide (t < 1)))] 4 3 ⟨[(20, .bool (decide (t < 1))), (16, .t), (6, .i 0), (5, .i l), (4, .fn 63 [] [.p 1]), (3, .p 1), (2, .i 0), (1, .p 0)], [(1, .cells [.bool (t == 255)] 4), (0, .cells [.i t, .i l, .u m] 49)], 2⟩ [True, (decide (t < 1)) = (decide (t < 1))] ⟨trivial, rfl, trivial⟩ ?_
  refine splitr 20 (x := (decide (t < 1))) (by kernel_rfl) (fun h1 => ?_) (fun h1 => ?_)
  ·
   replace h1 : t < 1 := of_decide_eq_true h1
   refine rk [] 11 7 ⟨[(13, .t), (6, .i 0), (5, .i l), (4, .fn 63 [] [.p 1]), (3, .p 1), (2, .i 0), (1, .p 0)], [(1, .cells [.bool (t == 255)] 4), (0, .cells [.i t, .i l, .u m] 49)], 2⟩ [True, True, True] ⟨trivial, trivial, trivial, trivial⟩ ?_
   refine en ?_
   refine an ?_
   refine ct ?_
   refine xw_exit ?_
   refine an_exit ?_
   refine an_exit ?_
   refine ib_same ?_
   refine an ?_
   refine xw_seq ?_
   refine rg [] 1 ⟨[(2, .i 1), (6, .i 0), (5, .i l), (1, .p 0)], [(0, .cells [.i t, .i l, .u m] 49)], 2⟩ [] trivial ?_
   refine xw_ret ?_
   refine an_ret ?_
   refine ib_ret ?_
   refine an_ret ?_
   refine ib_ret ?_
   refine an_ret ?_
   refine ib_ret ?_
   refine an_ret ?_
   refine ib_ret ?_
   refine an_ret ?_
   exact br (.i 1) (.i (headErr t l m)) (wkd [(1 : Int) = (headErr t l m)] (by kernel_rfl) ⟨(by have hz := @shr_zero l m; simp only [headErr]; first | (simp_all; done) | (simp_all; omega) | grind), trivial⟩) rfl
  ·
   replace h1 : ¬ (t < 1) := of_decide_eq_false h1
   refine rk [(9, .bool (decide (200 < t)))] 6 7 ⟨[(26, .bool (decide (200 < t))), (6, .i 0), (5, .i l), (4, .fn 63 [] [.p 1]), (3, .p 1), (2, .i 0), (1, .p 0)], [(1, .cells [.bool (t == 255)] 4), (0, .cells [.i t, .i l, .u m] 49)], 2⟩ [True, (decide (200 < t)) = (decide (200 < t)), True, True] ⟨trivial, rfl, trivial, trivial, trivial⟩ ?_
   refine splitr 26 (x := (decide (200 < t))) (by kernel_rfl) (fun h2 => ?_) (fun h2 => ?_)
   ·
    replace h2 : 200 < t := of_decide_eq_true h2
    refine rk [] 5 13 ⟨[(13, .t), (6, .i 0), (5, .i l), (4, .fn 63 [] [.p 1]), (3, .p 1), (2, .i 0), (1, .p 0)], [(1, .cells [.bool (t == 255)] 4), (0, .cells [.i t, .i l, .u m] 49)], 2⟩ [True] ⟨trivial, trivial⟩ ?_
    refine en ?_
    refine an ?_
    refine ct ?_
    refine xw_exit ?_
    refine an_exit ?_
    refine an_exit ?_
    refine ib_same ?_
    refine an ?_
    refine xw_seq ?_
    refine rg [] 1 ⟨[(2, .i 1), (6, .i 0), (5, .i l), (1, .p 0)], [(0, .cells [.i t, .i l, .u m] 49)], 2⟩ [] trivial ?_
    refine xw_ret ?_
    refine an_ret ?_
    refine ib_ret ?_
    refine an_ret ?_
    refine ib_ret ?_
    refine an_ret ?_
    refine ib_ret ?_
    refine an_ret ?_
    refine ib_ret ?_
    refine an_ret ?_
    exact br (.i 1) (.i (headErr t l m)) (wkd [(1 : Int) = (headErr t l m)] (by kernel_rfl) ⟨(by have hz := @shr_zero l m; simp only [headErr]; first | (simp_all; done) | (simp_all; omega) | grind), trivial⟩) rfl
   ·
    replace h2 : ¬ (200 < t) := of_decide_eq_false h2
    refine rk [(15, .bool (decide (l < 0)))] 5 13 ⟨[(13, .bool (decide (l < 0))), (6, .i 0), (5, .i l), (4, .fn 63 [] [.p 1]), (3, .p 1), (2, .i 0), (1, .p 0)], [(1, .cells [.bool (t == 255)] 4), (0, .cells [.i t, .i l, .u m] 49)], 2⟩ [True, (decide (l < 0)) = (decide (l < 0)), True] ⟨trivial, rfl, trivial, trivial⟩ ?_
    refine en ?_
    refine an ?_
    refine xw_cond (b := (decide (l < 0))) (by kernel_rfl) (fun h3 => ?_) (fun h3 => ?_)
    ·
     replace h3 : l < 0 := of_decide_eq_true h3
     refine xw_exit ?_
     refine an_exit ?_
     refine an_exit ?_
     refine ib_same ?_
     refine an ?_
     refine xw_seq ?_
     refine rg [] 1 ⟨[(2, .i 1), (6, .i 0), (5, .i l), (1, .p 0)], [(0, .cells [.i t, .i l, .u m] 49)], 2⟩ [] trivial ?_
     refine xw_ret ?_
     refine an_ret ?_
     refine ib_ret ?_
     refine an_ret ?_
     refine ib_ret ?_
     refine an_ret ?_
     refine ib_ret ?_
     refine an_ret ?_
     refine ib_ret ?_
     refine an_ret ?_
     exact br (.i 1) (.i (headErr t l m)) (wkd [(1 : Int) = (headErr t l m)] (by kernel_rfl) ⟨(by have hz := @shr_zero l m; simp only [headErr]; first | (simp_all; done) | (simp_all; omega) | grind), trivial⟩) rfl
    ·
     replace h3 : ¬ (l < 0) := of_decide_eq_false h3
     refine xw_skip ?_
     refine an ?_
     refine xw_seq ?_
     refine xw_seq ?_
     refine dregk hmix (by kernel_rfl) ?_
     refine qr [] 3 0 [(34, .fn 63 [] [.p 1]), (33, .i l), (32, .loc 0 1), (13, .bool (decide (l < 0))), (6, .i 0), (5, .i l), (4, .fn 63 [] [.p 1]), (3, .p 1), (2, .i 0), (1, .p 0)] [True] ⟨trivial, trivial⟩ ?_
     refine qinl (f := 63) (args := [.p 1]) (d := (some 35)) (sv := .i 16) (by kernel_rfl) (xcall_of TT_ok Try.func63 rfl (by decide) (Nat.le_of_ble_eq_true (by kernel_rfl)) ?_) ?_
     ·
      refine rg [] 1 ⟨[(1, .i 0), (0, .p 1)], [(1, .cells [.bool (t == 255)] 4), (0, .cells [.i t, .i l, .u m] 49)], 2⟩ [] trivial ?_
      refine xw_seq ?_
      refine rg [] 1 ⟨[(2, .bool (t == 255)), (1, .i 0)], [(1, .cells [.bool (t == 255)] 4), (0, .cells [.i t, .i l, .u m] 49)], 2⟩ [True] ⟨trivial, trivial⟩ ?_
      refine xw_cond (b := (t == 255)) (by kernel_rfl) (fun h4 => ?_) (fun h4 => ?_)
      ·
       replace h4 : t = 255 := eq_of_beq h4
       exfalso; first | omega | (simp_all; done) | (simp_all; omega) | grind
      ·
       replace h4 : t ≠ 255 := ne_of_beq_false h4
       refine xw_skip ?_
       refine an ?_
       refine rg [] 1 ⟨[(1, .i 16)], [(1, .cells [.bool (t == 255)] 4), (0, .cells [.i t, .i l, .u m] 49)], 2⟩ [] trivial ?_
       refine xw_ret ?_
       exact ⟨.int .i64 16, by kernel_rfl, rfl, rfl, rfl⟩
     ·
      refine qr [(4, .bool (decide (16 < l)))] 2 4 [(31, .bool (decide (16 < l))), (36, .bool (decide (16 < l))), (35, .i 16), (34, .fn 63 [] [.p 1]), (33, .i l), (32, .loc 0 1), (13, .bool (decide (l < 0))), (6, .i 0), (5, .i l), (4, .fn 63 [] [.p 1]), (3, .p 1), (2, .i 0), (1, .p 0)] [(decide (16 < l)) = (decide (16 < l))] ⟨rfl, trivial⟩ ?_
      refine qen ?_
      refine an ?_
      refine xw_cond (b := (decide (16 < l))) (by kernel_rfl) (fun h4 => ?_) (fun h4 => ?_)
      ·
       replace h4 : 16 < l := of_decide_eq_true h4
       refine xw_exit ?_
       refine an_exit ?_
       refine an_exit ?_
       refine ib_exit (by kernel_rfl) ?_
       refine an_exit ?_
       refine ib_same ?_
       refine an ?_
       refine xw_seq ?_
       refine rg [] 1 ⟨[(2, .i 3), (6, .i 0), (5, .i l), (1, .p 0)], [(0, .cells [.i t, .i l, .u m] 49)], 2⟩ [] trivial ?_
       refine xw_ret ?_
       refine an_ret ?_
       refine ib_ret ?_
       refine an_ret ?_
       refine ib_ret ?_
       refine an_ret ?_
       refine ib_ret ?_
       refine an_ret ?_
       exact br (.i 3) (.i (headErr t l m)) (wkd [(3 : Int) = (headErr t l m)] (by kernel_rfl) ⟨(by have hz := @shr_zero l m; simp only [headErr]; first | (simp_all; done) | (simp_all; omega) | grind), trivial⟩) rfl
      ·
       replace h4 : ¬ (16 < l) := of_decide_eq_false h4
       refine xw_skip ?_
       refine an ?_
       refine rg [] 2 ⟨[(37, .bool (t == 255)), (6, .i 0), (5, .i l), (2, .i 0), (1, .p 0)], [(0, .cells [.i t, .i l, .u m] 49)], 2⟩ [True] ⟨trivial, trivial⟩ ?_
       refine xw_cond (b := (t == 255)) (by kernel_rfl) (fun h5 => ?_) (fun h5 => ?_)
       ·
        replace h5 : t = 255 := eq_of_beq h5
        exfalso; first | omega | (simp_all; done) | (simp_all; omega) | grind
       ·
        replace h5 : t ≠ 255 := ne_of_beq_false h5
        refine xw_skip ?_
        refine an ?_
        refine xw_exit ?_
        refine ib_exit (by kernel_rfl) ?_
        refine an_exit ?_
        refine ib_exit (by kernel_rfl) ?_
        refine an_exit ?_
        refine ib_exit (by kernel_rfl) ?_
        refine an_exit ?_
        refine ib_same ?_
        refine an ?_
        refine xw_seq ?_
        refine xw_seq ?_
        refine reg ?_
        refine rk [(3, .i (m.fdiv (2 ^ min (l : Int).toNat IntKind.u64.bits)))] 4 0 ⟨[(42, .u (m.fdiv (2 ^ min (l : Int).toNat IntKind.u64.bits))), (6, .i 0), (2, .i 0)], [], 2⟩ [True, (0 : Int) ≤ l ∧ (m.fdiv (2 ^ min (l : Int).toNat IntKind.u64.bits)) = (m.fdiv (2 ^ min (l : Int).toNat IntKind.u64.bits))] ⟨trivial, ⟨by omega, rfl⟩, trivial⟩ ?_
        have h6 : 0 ≤ (m.fdiv (2 ^ min (l : Int).toNat IntKind.u64.bits)) ∧ (m.fdiv (2 ^ min (l : Int).toNat IntKind.u64.bits)) ≤ m := shr_le (by omega)
        refine rk [(4, .bool ((m.fdiv (2 ^ min (l : Int).toNat IntKind.u64.bits)) != 0))] 1 4 ⟨[(43, .bool ((m.fdiv (2 ^ min (l : Int).toNat IntKind.u64.bits)) != 0)), (6, .i 0), (2, .i 0)], [], 2⟩ [((m.fdiv (2 ^ min (l : Int).toNat IntKind.u64.bits)) != 0) = ((m.fdiv (2 ^ min (l : Int).toNat IntKind.u64.bits)) != 0)] ⟨rfl, trivial⟩ ?_
        refine en ?_
        refine an ?_
        refine xw_cond (b := ((m.fdiv (2 ^ min (l : Int).toNat IntKind.u64.bits)) != 0)) (by kernel_rfl) (fun h7 => ?_) (fun h7 => ?_)
        ·
         replace h7 : (m.fdiv (2 ^ min (l : Int).toNat IntKind.u64.bits)) ≠ 0 := bne_iff_ne.1 h7
         refine re [] 1 ⟨[(6, .i 8), (2, .i 0)], [], 2⟩ [] trivial ?_
         refine an ?_
         refine xw_exit ?_
         refine ib_same ?_
         refine an ?_
         refine rg [] 2 ⟨[(2, .i 8)], [], 2⟩ [] trivial ?_
         refine xw_ret ?_
         exact br (.i 8) (.i (headErr t l m)) (wkd [(8 : Int) = (headErr t l m)] (by kernel_rfl) ⟨(by have hz := @shr_zero l m; simp only [headErr]; first | (simp_all; done) | (simp_all; omega) | grind), trivial⟩) rfl
        ·
         replace h7 : (m.fdiv (2 ^ min (l : Int).toNat IntKind.u64.bits)) = 0 := bne_eq_false_iff_eq.1 h7
         refine xw_skip ?_
         refine an ?_
         refine xw_exit ?_
         refine ib_same ?_
         refine an ?_
         refine rg [] 2 ⟨[(2, .i 0)], [], 2⟩ [] trivial ?_
         refine xw_ret ?_
         exact br (.i 0) (.i (headErr t l m)) (wkd [(0 : Int) = (headErr t l m)] (by kernel_rfl) ⟨(by have hz := @shr_zero l m; simp only [headErr]; first | (simp_all; done) | (simp_all; omega) | grind), trivial⟩) rfl
 ·
  replace h0 : t = 255 := by first | (simp; done) | simpa using h0
  refine rk [(15, .bool (decide (l < 0)))] 15 3 ⟨[(13, .bool (decide (l < 0))), (6, .i 0), (5, .i l), (4, .fn 63 [] [.p 1]), (3, .p 1), (2, .i 0), (1, .p 0)], [(1, .cells [.bool (t == 255)] 4), (0, .cells [.i t, .i l, .u m] 49)], 2⟩ [True, True, (decide (l < 0)) = (decide (l < 0)), True] ⟨trivial, trivial, rfl, trivial, trivial⟩ ?_
  refine en ?_
  refine an ?_
  refine xw_cond (b := (decide (l < 0))) (by kernel_rfl) (fun h1 => ?_) (fun h1 => ?_)
  ·
   replace h1 : l < 0 := of_decide_eq_true h1
   refine xw_exit ?_
   refine an_exit ?_
   refine an_exit ?_
   refine ib_same ?_
   refine an ?_
   refine xw_seq ?_
   refine rg [] 1 ⟨[(2, .i 1), (6, .i 0), (5, .i l), (1, .p 0)], [(0, .cells [.i t, .i l, .u m] 49)], 2⟩ [] trivial ?_
   refine xw_ret ?_
   refine an_ret ?_
   refine ib_ret ?_
   refine an_ret ?_
   refine ib_ret ?_
   refine an_ret ?_
   refine ib_ret ?_
   refine an_ret ?_
   refine ib_ret ?_
   refine an_ret ?_
   exact br (.i 1) (.i (headErr t l m)) (wkd [(1 : Int) = (headErr t l m)] (by kernel_rfl) ⟨(by have hz := @shr_zero l m; simp only [headErr]; first | (simp_all; done) | (simp_all; omega) | grind), trivial⟩) rfl
  ·
   replace h1 : ¬ (l < 0) := of_decide_eq_false h1
   refine xw_skip ?_
   refine an ?_
   refine xw_seq ?_
   refine xw_seq ?_
   refine dregk hmix (by kernel_rfl) ?_
   refine qr [] 3 0 [(34, .fn 63 [] [.p 1]), (33, .i l), (32, .loc 0 1), (13, .bool (decide (l < 0))), (6, .i 0), (5, .i l), (4, .fn 63 [] [.p 1]), (3, .p 1), (2, .i 0), (1, .p 0)] [True] ⟨trivial, trivial⟩ ?_
   refine qinl (f := 63) (args := [.p 1]) (d := (some 35)) (sv := .i 65535) (by kernel_rfl) (xcall_of TT_ok Try.func63 rfl (by decide) (Nat.le_of_ble_eq_true (by kernel_rfl)) ?_) ?_
   ·
    refine rg [] 1 ⟨[(1, .i 0), (0, .p 1)], [(1, .cells [.bool (t == 255)] 4), (0, .cells [.i t, .i l, .u m] 49)], 2⟩ [] trivial ?_
    refine xw_seq ?_
    refine rg [] 1 ⟨[(2, .bool (t == 255)), (1, .i 0)], [(1, .cells [.bool (t == 255)] 4), (0, .cells [.i t, .i l, .u m] 49)], 2⟩ [True] ⟨trivial, trivial⟩ ?_
    refine xw_cond (b := (t == 255)) (by kernel_rfl) (fun h2 => ?_) (fun h2 => ?_)
    ·
     replace h2 : t = 255 := eq_of_beq h2
     refine rg [] 1 ⟨[(1, .i 65535)], [(1, .cells [.bool (t == 255)] 4), (0, .cells [.i t, .i l, .u m] 49)], 2⟩ [] trivial ?_
     refine xw_ret ?_
     refine an_ret ?_
     exact ⟨.int .i64 65535, by kernel_rfl, rfl, rfl, rfl⟩
    ·
     replace h2 : t ≠ 255 := ne_of_beq_false h2
     exfalso; first | omega | (simp_all; done) | (simp_all; omega) | grind
   ·
    refine qr [(4, .bool (decide (65535 < l)))] 2 4 [(31, .bool (decide (65535 < l))), (36, .bool (decide (65535 < l))), (35, .i 65535), (34, .fn 63 [] [.p 1]), (33, .i l), (32, .loc 0 1), (13, .bool (decide (l < 0))), (6, .i 0), (5, .i l), (4, .fn 63 [] [.p 1]), (3, .p 1), (2, .i 0), (1, .p 0)] [(decide (65535 < l)) = (decide (65535 < l))] ⟨rfl, trivial⟩ ?_
    refine qen ?_
    refine an ?_
    refine xw_cond (b := (decide (65535 < l))) (by kernel_rfl) (fun h2 => ?_) (fun h2 => ?_)
    ·
     replace h2 : 65535 < l := of_decide_eq_true h2
     refine xw_exit ?_
     refine an_exit ?_
     refine an_exit ?_
     refine ib_exit (by kernel_rfl) ?_
     refine an_exit ?_
     refine ib_same ?_
     refine an ?_
     refine xw_seq ?_
     refine rg [] 1 ⟨[(2, .i 3), (6, .i 0), (5, .i l), (1, .p 0)], [(0, .cells [.i t, .i l, .u m] 49)], 2⟩ [] trivial ?_
     refine xw_ret ?_
     refine an_ret ?_
     refine ib_ret ?_
     refine an_ret ?_
     refine ib_ret ?_
     refine an_ret ?_
     refine ib_ret ?_
     refine an_ret ?_
     exact br (.i 3) (.i (headErr t l m)) (wkd [(3 : Int) = (headErr t l m)] (by kernel_rfl) ⟨(by have hz := @shr_zero l m; simp only [headErr]; first | (simp_all; done) | (simp_all; omega) | grind), trivial⟩) rfl
    ·
     replace h2 : ¬ (65535 < l) := of_decide_eq_false h2
     refine xw_skip ?_
     refine an ?_
     refine rg [] 2 ⟨[(37, .bool (t == 255)), (6, .i 0), (5, .i l), (2, .i 0), (1, .p 0)], [(0, .cells [.i t, .i l, .u m] 49)], 2⟩ [True] ⟨trivial, trivial⟩ ?_
     refine xw_cond (b := (t == 255)) (by kernel_rfl) (fun h3 => ?_) (fun h3 => ?_)
     ·
      replace h3 : t = 255 := eq_of_beq h3
      refine xw_exit ?_
      refine an_exit ?_
      refine ib_exit (by kernel_rfl) ?_
      refine an_exit ?_
      refine ib_exit (by kernel_rfl) ?_
      refine an_exit ?_
      refine ib_same ?_
      refine an ?_
      refine re [] 1 ⟨[(5, .i 0), (6, .i 0), (2, .i 0), (1, .p 0)], [(0, .cells [.i t, .i l, .u m] 49)], 2⟩ [] trivial ?_
      refine ib ?_
      refine an ?_
      refine xw_seq ?_
      refine rg [(3, .i (m / 1)), (4, .bool ((m / 1) != 0))] 5 ⟨[(43, .bool ((m / 1) != 0)), (6, .i 0), (2, .i 0)], [], 2⟩ [True, (0 : Int) ≤ 0 ∧ m.fdiv (2 ^ min (0 : Int).toNat IntKind.u64.bits) = (m / 1), ((m / 1) != 0) = ((m / 1) != 0)] ⟨trivial, ⟨by omega, shr_eq rfl⟩, rfl, trivial⟩ ?_
      refine xw_cond (b := ((m / 1) != 0)) (by kernel_rfl) (fun h4 => ?_) (fun h4 => ?_)
      ·
       replace h4 : (m / 1) ≠ 0 := bne_iff_ne.1 h4
       refine re [] 1 ⟨[(6, .i 8), (2, .i 0)], [], 2⟩ [] trivial ?_
       refine an ?_
       refine xw_exit ?_
       refine ib_same ?_
       refine an ?_
       refine rg [] 2 ⟨[(2, .i 8)], [], 2⟩ [] trivial ?_
       refine xw_ret ?_
       exact br (.i 8) (.i (headErr t l m)) (wkd [(8 : Int) = (headErr t l m)] (by kernel_rfl) ⟨(by have hz := @shr_zero l m; simp only [headErr]; first | (simp_all; done) | (simp_all; omega) | grind), trivial⟩) rfl
      ·
       replace h4 : (m / 1) = 0 := bne_eq_false_iff_eq.1 h4
       refine xw_skip ?_
       refine an ?_
       refine xw_exit ?_
       refine ib_same ?_
       refine an ?_
       refine rg [] 2 ⟨[(2, .i 0)], [], 2⟩ [] trivial ?_
       refine xw_ret ?_
       exact br (.i 0) (.i (headErr t l m)) (wkd [(0 : Int) = (headErr t l m)] (by kernel_rfl) ⟨(by have hz := @shr_zero l m; simp only [headErr]; first | (simp_all; done) | (simp_all; omega) | grind), trivial⟩) rfl
     ·
      replace h3 : t ≠ 255 := ne_of_beq_false h3
      exfalso; first | omega | (simp_all; done) | (simp_all; omega) | grind

theorem hright (t l m : Int) (hp0 : -9223372036854775808 ≤ t ∧ t ≤ 9223372036854775807) (hp1 : -9223372036854775808 ≤ l ∧ l ≤ 9223372036854775807) (hp2 : 0 ≤ m ∧ m ≤ 18446744073709551615) : Pub Try.prog 56 [.agg [.i t, .i l, .u m]] (fun rv => (((t = 255 ∧ 0 ≤ l ∧ l ≤ 65535 ∧ m = 0) ∨ (1 ≤ t ∧ t ≤ 200 ∧ 0 ≤ l ∧ l ≤ 16 ∧ m < 2 ^ (Int.toNat l) ∧ m < 65536)) ∧ rv = .i 0) ∨ ((¬ ((t = 255 ∧ 0 ≤ l ∧ l ≤ 65535 ∧ m = 0) ∨ (1 ≤ t ∧ t ≤ 200 ∧ 0 ≤ l ∧ l ≤ 16 ∧ m < 2 ^ (Int.toNat l) ∧ m < 65536))) ∧ rv = .i (headErr t l m))) :=
  (hright_e t l m hp0 hp1 hp2).mono fun rv h => by
    rcases headErr_cases t l m hp2.1 with ⟨h1, h2⟩ | ⟨h1, h2⟩
    · exact .inl ⟨h1, by rw [h, h2]⟩
    · exact .inr ⟨h1, h⟩

theorem hright_1 (t l m : Int) (hp0 : -9223372036854775808 ≤ t ∧ t ≤ 9223372036854775807) (hp1 : -9223372036854775808 ≤ l ∧ l ≤ 9223372036854775807) (hp2 : 0 ≤ m ∧ m ≤ 18446744073709551615) (hp3 : (t = 255 ∧ 0 ≤ l ∧ l ≤ 65535 ∧ m = 0) ∨ (1 ≤ t ∧ t ≤ 200 ∧ 0 ≤ l ∧ l ≤ 16 ∧ m < 2 ^ (Int.toNat l) ∧ m < 65536)) : Pub Try.prog 56 [.agg [.i t, .i l, .u m]] (fun rv => rv = .i 0) := by
  refine (hright t l m hp0 hp1 hp2).mono ?_
  rintro _ (⟨g0, rfl⟩ | ⟨g0, rfl⟩)
  all_goals first | rfl | (exfalso; first | omega | grind)

theorem hright_2 (t l m : Int) (hp0 : -9223372036854775808 ≤ t ∧ t ≤ 9223372036854775807) (hp1 : -9223372036854775808 ≤ l ∧ l ≤ 9223372036854775807) (hp2 : 0 ≤ m ∧ m ≤ 18446744073709551615) (hp3 : ¬ ((t = 255 ∧ 0 ≤ l ∧ l ≤ 65535 ∧ m = 0) ∨ (1 ≤ t ∧ t ≤ 200 ∧ 0 ≤ l ∧ l ≤ 16 ∧ m < 2 ^ (Int.toNat l) ∧ m < 65536))) : Pub Try.prog 56 [.agg [.i t, .i l, .u m]] (fun rv => rv = .i (headErr t l m)) := by
  refine (hright t l m hp0 hp1 hp2).mono ?_
  rintro _ (⟨g0, rfl⟩ | ⟨g0, rfl⟩)
  all_goals first | rfl | (exfalso; first | omega | grind)

theorem rhright_e (t l m : Int) (hp0 : -9223372036854775808 ≤ t ∧ t ≤ 9223372036854775807) (hp1 : -9223372036854775808 ≤ l ∧ l ≤ 9223372036854775807) (hp2 : 0 ≤ m ∧ m ≤ 18446744073709551615) : Pub Try.prog 48 [.agg [.i t, .i l, .u m]] (fun rv => rv = .i (headErr t l m)) := by
 refine pub_of TT_ok Try.func48 rfl (by decide) (Nat.le_of_ble_eq_true (by kernel_rfl)) (by kernel_rfl) ?_
 refine rg [] 2 ⟨[(2, .i 0), (1, .p 0)], [(0, .cells [.i t, .i l, .u m] 49)], 1⟩ [] trivial ?_
 refine xw_seq ?_
 refine xw_seq ?_
 refine reg ?_
 refine rk [(2, .bool (t != 255))] 4 0 ⟨[(6, .bool (t != 255)), (2, .i 0), (1, .p 0)], [(0, .cells [.i t, .i l, .u m] 49)], 1⟩ [True, (t != 255) = (t != 255)] ⟨trivial, rfl, trivial⟩ ?_
 refine splitr 6 (x := (t != 255)) (by kernel_rfl) (fun h0 => ?_) (fun h0 => ?_)
 ·
  replace h0 : t ≠ 255 := bne_iff_ne.1 h0
  refine rk [(6, .bool (decide (t < 1)))] 4 4 ⟨[(10, .bool (decide (t < 1))), (6, .t), (2, .i 0), (1, .p 0)], [(0, .cells [.i t, .i l, .u m] 49)], 1⟩ [True, (decide (t < 1)) = (decide (t < 1))] ⟨trivial, rfl, trivial⟩ ?_
  refine splitr 10 (x := (decide (t < 1))) (by kernel_rfl) (fun h1 => ?_) (fun h1 => ?_)
  ·
   replace h1 : t < 1 := of_decide_eq_true h1
   refine rk [] 10 8 ⟨[(20, .t), (2, .i 0), (1, .p 0)], [(0, .cells [.i t, .i l, .u m] 49)], 1⟩ [True, True, True] ⟨trivial, trivial, trivial, trivial⟩ ?_
   refine en ?_
   refine an ?_
   refine ct ?_
   refine rg [] 1 ⟨[(2, .i 1), (1, .p 0)], [(0, .cells [.i t, .i l, .u m] 49)], 1⟩ [] trivial ?_
   refine xw_ret ?_
   refine an_ret ?_
   exact br (.i 1) (.i (headErr t l m)) (wkd [(1 : Int) = (headErr t l m)] (by kernel_rfl) ⟨(by have hz := @shr_zero l m; simp only [headErr]; first | (simp_all; done) | (simp_all; omega) | grind), trivial⟩) rfl
  ·
   replace h1 : ¬ (t < 1) := of_decide_eq_false h1
   refine rk [(10, .bool (decide (200 < t)))] 6 8 ⟨[(16, .bool (decide (200 < t))), (2, .i 0), (1, .p 0)], [(0, .cells [.i t, .i l, .u m] 49)], 1⟩ [True, (decide (200 < t)) = (decide (200 < t)), True, True] ⟨trivial, rfl, trivial, trivial, trivial⟩ ?_
   refine splitr 16 (x := (decide (200 < t))) (by kernel_rfl) (fun h2 => ?_) (fun h2 => ?_)
   ·
    replace h2 : 200 < t := of_decide_eq_true h2
    refine rk [] 4 14 ⟨[(20, .t), (2, .i 0), (1, .p 0)], [(0, .cells [.i t, .i l, .u m] 49)], 1⟩ [True] ⟨trivial, trivial⟩ ?_
    refine en ?_
    refine an ?_
    refine ct ?_
    refine rg [] 1 ⟨[(2, .i 1), (1, .p 0)], [(0, .cells [.i t, .i l, .u m] 49)], 1⟩ [] trivial ?_
    refine xw_ret ?_
    refine an_ret ?_
    exact br (.i 1) (.i (headErr t l m)) (wkd [(1 : Int) = (headErr t l m)] (by kernel_rfl) ⟨(by have hz := @shr_zero l m; simp only [headErr]; first | (simp_all; done) | (simp_all; omega) | grind), trivial⟩) rfl
   ·
    replace h2 : ¬ (200 < t) := of_decide_eq_false h2
    refine rk [(16, .bool (decide (l < 0)))] 4 14 ⟨[(20, .bool (decide (l < 0))), (2, .i 0), (1, .p 0)], [(0, .cells [.i t, .i l, .u m] 49)], 1⟩ [True, (decide (l < 0)) = (decide (l < 0)), True] ⟨trivial, rfl, trivial, trivial⟩ ?_
    refine en ?_
    refine an ?_
    refine xw_cond (b := (decide (l < 0))) (by kernel_rfl) (fun h3 => ?_) (fun h3 => ?_)
    ·
     replace h3 : l < 0 := of_decide_eq_true h3
     refine rg [] 1 ⟨[(2, .i 1), (1, .p 0)], [(0, .cells [.i t, .i l, .u m] 49)], 1⟩ [] trivial ?_
     refine xw_ret ?_
     refine an_ret ?_
     exact br (.i 1) (.i (headErr t l m)) (wkd [(1 : Int) = (headErr t l m)] (by kernel_rfl) ⟨(by have hz := @shr_zero l m; simp only [headErr]; first | (simp_all; done) | (simp_all; omega) | grind), trivial⟩) rfl
    ·
     replace h3 : ¬ (l < 0) := of_decide_eq_false h3
     refine xw_skip ?_
     refine an ?_
     refine xw_seq ?_
     refine rg [(2, .f)] 3 ⟨[(23, .f), (2, .i 0), (1, .p 0)], [(0, .cells [.i t, .i l, .u m] 49)], 1⟩ [True, (t == 255) = false] ⟨trivial, beq_eq_false_iff_ne.2 (by omega), trivial⟩ ?_
     refine cf ?_
     refine xw_skip ?_
     refine an ?_
     refine xw_seq ?_
     refine rg [(2, .bool (decide (16 < l)))] 3 ⟨[(32, .bool (decide (16 < l))), (2, .i 0), (1, .p 0)], [(0, .cells [.i t, .i l, .u m] 49)], 1⟩ [True, (decide (16 < l)) = (decide (16 < l))] ⟨trivial, rfl, trivial⟩ ?_
     refine xw_cond (b := (decide (16 < l))) (by kernel_rfl) (fun h4 => ?_) (fun h4 => ?_)
     ·
      replace h4 : 16 < l := of_decide_eq_true h4
      refine rg [] 1 ⟨[(2, .i 3), (1, .p 0)], [(0, .cells [.i t, .i l, .u m] 49)], 1⟩ [] trivial ?_
      refine xw_ret ?_
      refine an_ret ?_
      exact br (.i 3) (.i (headErr t l m)) (wkd [(3 : Int) = (headErr t l m)] (by kernel_rfl) ⟨(by have hz := @shr_zero l m; simp only [headErr]; first | (simp_all; done) | (simp_all; omega) | grind), trivial⟩) rfl
     ·
      replace h4 : ¬ (16 < l) := of_decide_eq_false h4
      refine xw_skip ?_
      refine an ?_
      refine xw_seq ?_
      refine xw_seq ?_
      refine dregk hmix (by kernel_rfl) ?_
      refine qr [] 4 0 [(36, .i l), (35, .loc 0 1), (34, .u m), (33, .loc 0 2), (32, .bool (decide (16 < l))), (2, .i 0), (1, .p 0)] [True, True] ⟨trivial, trivial, trivial⟩ ?_
      refine qc (rpower l (by omega)) ?_
      have h5 : (1 : Int) ≤ (2 ^ (Int.toNat l)) := one_le_pow _
      refine qr [(5, .bool (decide ((2 ^ (Int.toNat l)) ≤ m)))] 1 5 [(38, .bool (decide ((2 ^ (Int.toNat l)) ≤ m))), (37, .u (2 ^ (Int.toNat l))), (36, .i l), (35, .loc 0 1), (34, .u m), (33, .loc 0 2), (32, .bool (decide (16 < l))), (2, .i 0), (1, .p 0)] [(decide ((2 ^ (Int.toNat l)) ≤ m)) = (decide ((2 ^ (Int.toNat l)) ≤ m))] ⟨rfl, trivial⟩ ?_
      refine qen ?_
      refine an ?_
      refine xw_cond (b := (decide ((2 ^ (Int.toNat l)) ≤ m))) (by kernel_rfl) (fun h6 => ?_) (fun h6 => ?_)
      ·
       replace h6 : (2 ^ (Int.toNat l)) ≤ m := of_decide_eq_true h6
       refine rg [] 1 ⟨[(2, .i 8)], [], 1⟩ [] trivial ?_
       refine xw_ret ?_
       refine an_ret ?_
       exact br (.i 8) (.i (headErr t l m)) (wkd [(8 : Int) = (headErr t l m)] (by kernel_rfl) ⟨(by have hz := @shr_zero l m; simp only [headErr]; first | (simp_all; done) | (simp_all; omega) | grind), trivial⟩) rfl
      ·
       replace h6 : ¬ ((2 ^ (Int.toNat l)) ≤ m) := of_decide_eq_false h6
       refine xw_skip ?_
       refine an ?_
       refine rg [] 1 ⟨[(2, .i 0)], [], 1⟩ [] trivial ?_
       refine xw_ret ?_
       exact br (.i 0) (.i (headErr t l m)) (wkd [(0 : Int) = (headErr t l m)] (by kernel_rfl) ⟨(by have hz := @shr_zero l m; simp only [headErr]; first | (simp_all; done) | (simp_all; omega) | grind), trivial⟩) rfl
 ·
  replace h0 : t = 255 := bne_eq_false_iff_eq.1 h0
  refine rk [(16, .bool (decide (l < 0)))] 14 4 ⟨[(20, .bool (decide (l < 0))), (2, .i 0), (1, .p 0)], [(0, .cells [.i t, .i l, .u m] 49)], 1⟩ [True, True, (decide (l < 0)) = (decide (l < 0)), True] ⟨trivial, trivial, rfl, trivial, trivial⟩ ?_
  refine en ?_
  refine an ?_
  refine xw_cond (b := (decide (l < 0))) (by kernel_rfl) (fun h1 => ?_) (fun h1 => ?_)
  ·
   replace h1 : l < 0 := of_decide_eq_true h1
   refine rg [] 1 ⟨[(2, .i 1), (1, .p 0)], [(0, .cells [.i t, .i l, .u m] 49)], 1⟩ [] trivial ?_
   refine xw_ret ?_
   refine an_ret ?_
   exact br (.i 1) (.i (headErr t l m)) (wkd [(1 : Int) = (headErr t l m)] (by kernel_rfl) ⟨(by have hz := @shr_zero l m; simp only [headErr]; first | (simp_all; done) | (simp_all; omega) | grind), trivial⟩) rfl
  ·
   replace h1 : ¬ (l < 0) := of_decide_eq_false h1
   refine xw_skip ?_
   refine an ?_
   refine xw_seq ?_
   refine rg [(2, .t)] 3 ⟨[(23, .t), (2, .i 0), (1, .p 0)], [(0, .cells [.i t, .i l, .u m] 49)], 1⟩ [True, (t == 255) = true] ⟨trivial, beq_iff_eq.2 (by omega), trivial⟩ ?_
   refine ct ?_
   refine xw_seq ?_
   refine rg [(2, .bool (decide (65535 < l)))] 3 ⟨[(26, .bool (decide (65535 < l))), (2, .i 0), (1, .p 0)], [(0, .cells [.i t, .i l, .u m] 49)], 1⟩ [True, (decide (65535 < l)) = (decide (65535 < l))] ⟨trivial, rfl, trivial⟩ ?_
   refine xw_cond (b := (decide (65535 < l))) (by kernel_rfl) (fun h2 => ?_) (fun h2 => ?_)
   ·
    replace h2 : 65535 < l := of_decide_eq_true h2
    refine rg [] 1 ⟨[(2, .i 3), (1, .p 0)], [(0, .cells [.i t, .i l, .u m] 49)], 1⟩ [] trivial ?_
    refine xw_ret ?_
    refine an_ret ?_
    refine an_ret ?_
    exact br (.i 3) (.i (headErr t l m)) (wkd [(3 : Int) = (headErr t l m)] (by kernel_rfl) ⟨(by have hz := @shr_zero l m; simp only [headErr]; first | (simp_all; done) | (simp_all; omega) | grind), trivial⟩) rfl
   ·
    replace h2 : ¬ (65535 < l) := of_decide_eq_false h2
    refine xw_skip ?_
    refine an ?_
    refine xw_seq ?_
    refine rg [(2, .bool (m != 0))] 3 ⟨[(29, .bool (m != 0)), (2, .i 0), (1, .p 0)], [(0, .cells [.i t, .i l, .u m] 49)], 1⟩ [True, (m != 0) = (m != 0)] ⟨trivial, rfl, trivial⟩ ?_
    refine xw_cond (b := (m != 0)) (by kernel_rfl) (fun h3 => ?_) (fun h3 => ?_)
    ·
     replace h3 : m ≠ 0 := bne_iff_ne.1 h3
     refine rg [] 1 ⟨[(2, .i 8), (1, .p 0)], [(0, .cells [.i t, .i l, .u m] 49)], 1⟩ [] trivial ?_
     refine xw_ret ?_
     refine an_ret ?_
     refine an_ret ?_
     exact br (.i 8) (.i (headErr t l m)) (wkd [(8 : Int) = (headErr t l m)] (by kernel_rfl) ⟨(by have hz := @shr_zero l m; simp only [headErr]; first | (simp_all; done) | (simp_all; omega) | grind), trivial⟩) rfl
    ·
     replace h3 : m = 0 := bne_eq_false_iff_eq.1 h3
     refine xw_skip ?_
     refine an ?_
     refine rg [] 1 ⟨[(2, .i 0), (1, .p 0)], [(0, .cells [.i t, .i l, .u m] 49)], 1⟩ [] trivial ?_
     refine xw_ret ?_
     refine an_ret ?_
     exact br (.i 0) (.i (headErr t l m)) (wkd [(0 : Int) = (headErr t l m)] (by kernel_rfl) ⟨(by have hz := @shr_zero l m; simp only [headErr]; first | (simp_all; done) | (simp_all; omega) | grind), trivial⟩) rfl

theorem rhright (t l m : Int) (hp0 : -9223372036854775808 ≤ t ∧ t ≤ 9223372036854775807) (hp1 : -9223372036854775808 ≤ l ∧ l ≤ 9223372036854775807) (hp2 : 0 ≤ m ∧ m ≤ 18446744073709551615) : Pub Try.prog 48 [.agg [.i t, .i l, .u m]] (fun rv => (((t = 255 ∧ 0 ≤ l ∧ l ≤ 65535 ∧ m = 0) ∨ (1 ≤ t ∧ t ≤ 200 ∧ 0 ≤ l ∧ l ≤ 16 ∧ m < 2 ^ (Int.toNat l) ∧ m < 65536)) ∧ rv = .i 0) ∨ ((¬ ((t = 255 ∧ 0 ≤ l ∧ l ≤ 65535 ∧ m = 0) ∨ (1 ≤ t ∧ t ≤ 200 ∧ 0 ≤ l ∧ l ≤ 16 ∧ m < 2 ^ (Int.toNat l) ∧ m < 65536))) ∧ rv = .i (headErr t l m))) :=
  (rhright_e t l m hp0 hp1 hp2).mono fun rv h => by
    rcases headErr_cases t l m hp2.1 with ⟨h1, h2⟩ | ⟨h1, h2⟩
    · exact .inl ⟨h1, by rw [h, h2]⟩
    · exact .inr ⟨h1, h⟩

theorem rhright_1 (t l m : Int) (hp0 : -9223372036854775808 ≤ t ∧ t ≤ 9223372036854775807) (hp1 : -9223372036854775808 ≤ l ∧ l ≤ 9223372036854775807) (hp2 : 0 ≤ m ∧ m ≤ 18446744073709551615) (hp3 : (t = 255 ∧ 0 ≤ l ∧ l ≤ 65535 ∧ m = 0) ∨ (1 ≤ t ∧ t ≤ 200 ∧ 0 ≤ l ∧ l ≤ 16 ∧ m < 2 ^ (Int.toNat l) ∧ m < 65536)) : Pub Try.prog 48 [.agg [.i t, .i l, .u m]] (fun rv => rv = .i 0) := by
  refine (rhright t l m hp0 hp1 hp2).mono ?_
  rintro _ (⟨g0, rfl⟩ | ⟨g0, rfl⟩)
  all_goals first | rfl | (exfalso; first | omega | grind)

theorem rhright_2 (t l m : Int) (hp0 : -9223372036854775808 ≤ t ∧ t ≤ 9223372036854775807) (hp1 : -9223372036854775808 ≤ l ∧ l ≤ 9223372036854775807) (hp2 : 0 ≤ m ∧ m ≤ 18446744073709551615) (hp3 : ¬ ((t = 255 ∧ 0 ≤ l ∧ l ≤ 65535 ∧ m = 0) ∨ (1 ≤ t ∧ t ≤ 200 ∧ 0 ≤ l ∧ l ≤ 16 ∧ m < 2 ^ (Int.toNat l) ∧ m < 65536))) : Pub Try.prog 48 [.agg [.i t, .i l, .u m]] (fun rv => rv = .i (headErr t l m)) := by
  refine (rhright t l m hp0 hp1 hp2).mono ?_
  rintro _ (⟨g0, rfl⟩ | ⟨g0, rfl⟩)
  all_goals first | rfl | (exfalso; first | omega | grind)

theorem pobject (l : Int) (hp0 : -9223372036854775808 ≤ l ∧ l ≤ 9223372036854775807) : Pub Try.prog 51 [.i l] (fun rv => ((l < 0) ∧ rv = .tup [.i 0, .i 1]) ∨ ((16 < l) ∧ rv = .tup [.i 0, .i 3]) ∨ ((0 ≤ l) ∧ (l ≤ 16) ∧ rv = .tup [.i (l + 2), .i 0])) := by
 refine pub_of TT_ok Try.func51 rfl (by decide) (Nat.le_of_ble_eq_true (by kernel_rfl)) (by kernel_rfl) ?_
 refine rg [] 2 ⟨[(3, .i 0), (2, .i 0), (0, .i l)], [], 0⟩ [] trivial ?_
 refine xw_seq ?_
 refine xw_block ?_
 refine rg [(1, .bool (decide (l < 0)))] 3 ⟨[(4, .bool (decide (l < 0))), (3, .i 0), (2, .i 0), (0, .i l)], [], 0⟩ [(decide (l < 0)) = (decide (l < 0))] ⟨rfl, trivial⟩ ?_
 refine xw_cond (b := (decide (l < 0))) (by kernel_rfl) (fun h0 => ?_) (fun h0 => ?_)
 ·
  replace h0 : l < 0 := of_decide_eq_true h0
  refine rg [] 2 ⟨[(3, .i 1), (2, .i 0), (0, .i l)], [], 0⟩ [] trivial ?_
  refine xw_ret ?_
  refine ib_ret ?_
  refine an_ret ?_
  exact bs (.tup [.i 0, .i 1]) (Or.inl <| ⟨(by omega), rfl⟩)
 ·
  replace h0 : ¬ (l < 0) := of_decide_eq_false h0
  refine rg [(1, .bool (decide (16 < l)))] 3 ⟨[(7, .bool (decide (16 < l))), (3, .i 0), (2, .i 0), (0, .i l)], [], 0⟩ [(decide (16 < l)) = (decide (16 < l))] ⟨rfl, trivial⟩ ?_
  refine xw_cond (b := (decide (16 < l))) (by kernel_rfl) (fun h1 => ?_) (fun h1 => ?_)
  ·
   replace h1 : 16 < l := of_decide_eq_true h1
   refine rg [] 2 ⟨[(3, .i 3), (2, .i 0), (0, .i l)], [], 0⟩ [] trivial ?_
   refine xw_ret ?_
   refine ib_ret ?_
   refine an_ret ?_
   exact bs (.tup [.i 0, .i 3]) (Or.inr <| Or.inl <| ⟨(by omega), rfl⟩)
  ·
   replace h1 : ¬ (16 < l) := of_decide_eq_false h1
   refine xw_skip ?_
   refine ib ?_
   refine an ?_
   refine rg [(1, .i (l + 2))] 4 ⟨[(3, .i 0), (2, .i (l + 2))], [], 0⟩ [IntKind.i64.wrap (l + 2) = (l + 2)] ⟨i64_eq (by omega) (by omega), trivial⟩ ?_
   refine xw_ret ?_
   exact bs (.tup [.i (l + 2), .i 0]) (Or.inr <| Or.inr <| ⟨(by omega), (by omega), rfl⟩)

theorem pobject_3 (l : Int) (hp0 : -9223372036854775808 ≤ l ∧ l ≤ 9223372036854775807) (hp1 : 0 ≤ l) (hp2 : l ≤ 16) : Pub Try.prog 51 [.i l] (fun rv => rv = .tup [.i (l + 2), .i 0]) := by
  refine (pobject l hp0).mono ?_
  rintro _ (⟨g0, rfl⟩ | ⟨g0, rfl⟩ | ⟨g0, g1, rfl⟩)
  all_goals first | rfl | (exfalso; first | omega | grind)

theorem hwords (t l m : Int) (hp0 : -9223372036854775808 ≤ t ∧ t ≤ 9223372036854775807) (hp1 : -9223372036854775808 ≤ l ∧ l ≤ 9223372036854775807) (hp2 : 0 ≤ m ∧ m ≤ 18446744073709551615) (hp3 : 0 ≤ l ∧ l ≤ 65535 ∧ (t = 255 ∨ l ≤ 16)) : Pub Try.prog 34 [.agg [.i t, .i l, .u m]] (fun rv => ((t = 255) ∧ rv = .i (l + 1)) ∨ ((¬ (t = 255)) ∧ rv = .i (l + 2))) := by
 refine pub_of TT_ok Try.func34 rfl (by decide) (Nat.le_of_ble_eq_true (by kernel_rfl)) (by kernel_rfl) ?_
 refine rg [] 2 ⟨[(2, .i 0), (1, .p 0)], [(0, .cells [.i t, .i l, .u m] 49)], 1⟩ [] trivial ?_
 refine xw_seq ?_
 refine rg [(2, .bool (t == 255))] 3 ⟨[(7, .bool (t == 255)), (2, .i 0), (1, .p 0)], [(0, .cells [.i t, .i l, .u m] 49)], 1⟩ [True, (t == 255) = (t == 255)] ⟨trivial, rfl, trivial⟩ ?_
 refine xw_cond (b := (t == 255)) (by kernel_rfl) (fun h0 => ?_) (fun h0 => ?_)
 ·
  replace h0 : t = 255 := eq_of_beq h0
  refine rg [(2, .i (l + 1))] 4 ⟨[(2, .i (l + 1)), (1, .p 0)], [(0, .cells [.i t, .i l, .u m] 49)], 1⟩ [True, IntKind.i64.wrap (l + 1) = (l + 1)] ⟨trivial, i64_eq (by omega) (by omega), trivial⟩ ?_
  refine xw_ret ?_
  refine an_ret ?_
  exact bs (.i (l + 1)) (Or.inl <| ⟨(by omega), rfl⟩)
 ·
  replace h0 : t ≠ 255 := ne_of_beq_false h0
  refine xw_skip ?_
  refine an ?_
  refine xw_seq ?_
  refine reg ?_
  refine rk [] 2 0 ⟨[(13, .i l), (2, .i 0)], [], 1⟩ [True] ⟨trivial, trivial⟩ ?_
  refine pc (pobject_3 l ‹_› (by omega) (by omega)) ?_
  refine rk [] 5 3 ⟨[(3, .i (l + 2)), (2, .i 0)], [], 1⟩ [] trivial ?_
  refine en ?_
  refine an ?_
  refine rg [] 2 ⟨[(2, .i (l + 2))], [], 1⟩ [] trivial ?_
  refine xw_ret ?_
  exact bs (.i (l + 2)) (Or.inr <| ⟨(by omega), rfl⟩)

theorem hwords_1 (t l m : Int) (hp0 : -9223372036854775808 ≤ t ∧ t ≤ 9223372036854775807) (hp1 : -9223372036854775808 ≤ l ∧ l ≤ 9223372036854775807) (hp2 : 0 ≤ m ∧ m ≤ 18446744073709551615) (hp3 : 0 ≤ l ∧ l ≤ 65535 ∧ (t = 255 ∨ l ≤ 16)) (hp4 : t = 255) : Pub Try.prog 34 [.agg [.i t, .i l, .u m]] (fun rv => rv = .i (l + 1)) := by
  refine (hwords t l m hp0 hp1 hp2 hp3).mono ?_
  rintro _ (⟨g0, rfl⟩ | ⟨g0, rfl⟩)
  all_goals first | rfl | (exfalso; first | omega | grind)

theorem hwords_2 (t l m : Int) (hp0 : -9223372036854775808 ≤ t ∧ t ≤ 9223372036854775807) (hp1 : -9223372036854775808 ≤ l ∧ l ≤ 9223372036854775807) (hp2 : 0 ≤ m ∧ m ≤ 18446744073709551615) (hp3 : 0 ≤ l ∧ l ≤ 65535 ∧ (t = 255 ∨ l ≤ 16)) (hp4 : ¬ (t = 255)) : Pub Try.prog 34 [.agg [.i t, .i l, .u m]] (fun rv => rv = .i (l + 2)) := by
  refine (hwords t l m hp0 hp1 hp2 hp3).mono ?_
  rintro _ (⟨g0, rfl⟩ | ⟨g0, rfl⟩)
  all_goals first | rfl | (exfalso; first | omega | grind)

theorem rhwords (t l m : Int) (hp0 : -9223372036854775808 ≤ t ∧ t ≤ 9223372036854775807) (hp1 : -9223372036854775808 ≤ l ∧ l ≤ 9223372036854775807) (hp2 : 0 ≤ m ∧ m ≤ 18446744073709551615) (hp3 : 0 ≤ l ∧ l ≤ 65535 ∧ (t = 255 ∨ l ≤ 16)) : Pub Try.prog 31 [.agg [.i t, .i l, .u m]] (fun rv => ((t = 255) ∧ rv = .i (l + 1)) ∨ ((¬ (t = 255)) ∧ rv = .i (l + 2))) := by
 refine pub_of TT_ok Try.func31 rfl (by decide) (Nat.le_of_ble_eq_true (by kernel_rfl)) (by kernel_rfl) ?_
 refine rg [] 2 ⟨[(2, .i 0), (1, .p 0)], [(0, .cells [.i t, .i l, .u m] 49)], 1⟩ [] trivial ?_
 refine xw_seq ?_
 refine rg [(2, .bool (t == 255))] 3 ⟨[(5, .bool (t == 255)), (2, .i 0), (1, .p 0)], [(0, .cells [.i t, .i l, .u m] 49)], 1⟩ [True, (t == 255) = (t == 255)] ⟨trivial, rfl, trivial⟩ ?_
 refine xw_cond (b := (t == 255)) (by kernel_rfl) (fun h0 => ?_) (fun h0 => ?_)
 ·
  replace h0 : t = 255 := eq_of_beq h0
  refine rg [(2, .i (1 + l))] 4 ⟨[(2, .i (1 + l)), (1, .p 0)], [(0, .cells [.i t, .i l, .u m] 49)], 1⟩ [True, IntKind.i64.wrap (1 + l) = (1 + l)] ⟨trivial, i64_eq (by omega) (by omega), trivial⟩ ?_
  refine xw_ret ?_
  refine an_ret ?_
  exact br (.i (1 + l)) (.i (l + 1)) (wkd [((1 + l) : Int) = (l + 1)] (by kernel_rfl) ⟨(by omega), trivial⟩) (Or.inl <| ⟨(by omega), rfl⟩)
 ·
  replace h0 : t ≠ 255 := ne_of_beq_false h0
  refine xw_skip ?_
  refine an ?_
  refine rg [(2, .i (2 + l))] 4 ⟨[(2, .i (2 + l))], [], 1⟩ [True, IntKind.i64.wrap (2 + l) = (2 + l)] ⟨trivial, i64_eq (by omega) (by omega), trivial⟩ ?_
  refine xw_ret ?_
  exact br (.i (2 + l)) (.i (l + 2)) (wkd [((2 + l) : Int) = (l + 2)] (by kernel_rfl) ⟨(by omega), trivial⟩) (Or.inr <| ⟨(by omega), rfl⟩)

theorem rhwords_1 (t l m : Int) (hp0 : -9223372036854775808 ≤ t ∧ t ≤ 9223372036854775807) (hp1 : -9223372036854775808 ≤ l ∧ l ≤ 9223372036854775807) (hp2 : 0 ≤ m ∧ m ≤ 18446744073709551615) (hp3 : 0 ≤ l ∧ l ≤ 65535 ∧ (t = 255 ∨ l ≤ 16)) (hp4 : t = 255) : Pub Try.prog 31 [.agg [.i t, .i l, .u m]] (fun rv => rv = .i (l + 1)) := by
  refine (rhwords t l m hp0 hp1 hp2 hp3).mono ?_
  rintro _ (⟨g0, rfl⟩ | ⟨g0, rfl⟩)
  all_goals first | rfl | (exfalso; first | omega | grind)

theorem rhwords_2 (t l m : Int) (hp0 : -9223372036854775808 ≤ t ∧ t ≤ 9223372036854775807) (hp1 : -9223372036854775808 ≤ l ∧ l ≤ 9223372036854775807) (hp2 : 0 ≤ m ∧ m ≤ 18446744073709551615) (hp3 : 0 ≤ l ∧ l ≤ 65535 ∧ (t = 255 ∨ l ≤ 16)) (hp4 : ¬ (t = 255)) : Pub Try.prog 31 [.agg [.i t, .i l, .u m]] (fun rv => rv = .i (l + 2)) := by
  refine (rhwords t l m hp0 hp1 hp2 hp3).mono ?_
  rintro _ (⟨g0, rfl⟩ | ⟨g0, rfl⟩)
  all_goals first | rfl | (exfalso; first | omega | grind)

theorem rhword (t l m : Int) (hp0 : -9223372036854775808 ≤ t ∧ t ≤ 9223372036854775807) (hp1 : -9223372036854775808 ≤ l ∧ l ≤ 9223372036854775807) (hp2 : 0 ≤ m ∧ m ≤ 18446744073709551615) : Pub Try.prog 29 [.agg [.i t, .i l, .u m]] (fun rv => (((t = 255 ∧ 0 ≤ l ∧ l ≤ 65535 ∧ m = 0) ∨ (1 ≤ t ∧ t ≤ 200 ∧ 0 ≤ l ∧ l ≤ 16 ∧ m < 2 ^ (Int.toNat l) ∧ m < 65536)) ∧ rv = .tup [.u (t * 72057594037927936 + l * 4294967296 + m), .i 0]) ∨ ((¬ ((t = 255 ∧ 0 ≤ l ∧ l ≤ 65535 ∧ m = 0) ∨ (1 ≤ t ∧ t ≤ 200 ∧ 0 ≤ l ∧ l ≤ 16 ∧ m < 2 ^ (Int.toNat l) ∧ m < 65536))) ∧ rv = .tup [.u 0, .i (headErr t l m)])) := by
 refine pub_of TT_ok Try.func29 rfl (by decide) (Nat.le_of_ble_eq_true (by kernel_rfl)) (by kernel_rfl) ?_
 refine rg [] 3 ⟨[(3, .i 0), (2, .u 0), (1, .p 0)], [(0, .cells [.i t, .i l, .u m] 49)], 1⟩ [] trivial ?_
 refine xw_seq ?_
 refine reg ?_
 refine rk [] 1 0 ⟨[(5, .agg [.i t, .i l, .u m]), (3, .i 0), (2, .u 0), (1, .p 0)], [(0, .cells [.i t, .i l, .u m] 49)], 1⟩ [True] ⟨trivial, trivial⟩ ?_
 by_cases h0 : (t = 255 ∧ 0 ≤ l ∧ l ≤ 65535 ∧ m = 0) ∨ (1 ≤ t ∧ t ≤ 200 ∧ 0 ≤ l ∧ l ≤ 16 ∧ m < 2 ^ (Int.toNat l) ∧ m < 65536)
 ·
  refine pc (rhright_1 t l m ‹_› ‹_› ‹_› ‹_›) ?_
  refine rk [] 1 2 ⟨[(4, .i 0), (3, .i 0), (2, .u 0), (1, .p 0)], [(0, .cells [.i t, .i l, .u m] 49)], 1⟩ [] trivial ?_
  refine en ?_
  refine an ?_
  refine xw_seq ?_
  refine rg [(1, .f)] 2 ⟨[(8, .f), (4, .i 0), (3, .i 0), (2, .u 0), (1, .p 0)], [(0, .cells [.i t, .i l, .u m] 49)], 1⟩ [(0 != 0) = false] ⟨bne_eq_false_iff_eq.2 (by omega), trivial⟩ ?_
  refine cf ?_
  refine xw_skip ?_
  refine an ?_
  refine rg [(2, .i t), (3, .i (t * 16777216)), (6, .i l), (7, .i ((t * 16777216) + l)), (8, .i (((t * 16777216) + l) * 4294967296)), (11, .i ((((t * 16777216) + l) * 4294967296) + m))] 14 ⟨[(3, .i 0), (2, .u ((((t * 16777216) + l) * 4294967296) + m))], [], 1⟩ [True, IntKind.u64.wrap t = t, IntKind.u64.wrap (t * 16777216) = (t * 16777216), True, IntKind.u64.wrap l = l, IntKind.u64.wrap ((t * 16777216) + l) = ((t * 16777216) + l), IntKind.u64.wrap (((t * 16777216) + l) * 4294967296) = (((t * 16777216) + l) * 4294967296), True, IntKind.u64.wrap ((((t * 16777216) + l) * 4294967296) + m) = ((((t * 16777216) + l) * 4294967296) + m)] ⟨trivial, u64_in (by omega), u64_eq (by omega) (by omega), trivial, u64_in (by omega), u64_eq (by omega) (by omega), u64_eq (by omega) (by omega), trivial, u64_eq (by omega) (by omega), trivial⟩ ?_
  refine xw_ret ?_
  exact br (.tup [.u ((((t * 16777216) + l) * 4294967296) + m), .i 0]) (.tup [.u (t * 72057594037927936 + l * 4294967296 + m), .i 0]) (wkd [(((((t * 16777216) + l) * 4294967296) + m) : Int) = (t * 72057594037927936 + l * 4294967296 + m), (0 : Int) = 0] (by kernel_rfl) ⟨(by omega), rfl, trivial⟩) (Or.inl <| ⟨(by omega), rfl⟩)
 ·
  refine pc (rhright_2 t l m ‹_› ‹_› ‹_› ‹_›) ?_
  have h1 : (headErr t l m) ≠ 0 := headErr_ne (by omega) (by omega)
  refine rk [] 1 2 ⟨[(4, .i (headErr t l m)), (3, .i 0), (2, .u 0), (1, .p 0)], [(0, .cells [.i t, .i l, .u m] 49)], 1⟩ [] trivial ?_
  refine en ?_
  refine an ?_
  refine xw_seq ?_
  refine rg [(1, .t)] 2 ⟨[(8, .t), (4, .i (headErr t l m)), (3, .i 0), (2, .u 0), (1, .p 0)], [(0, .cells [.i t, .i l, .u m] 49)], 1⟩ [((headErr t l m) != 0) = true] ⟨bne_iff_ne.2 (by omega), trivial⟩ ?_
  refine ct ?_
  refine rg [] 3 ⟨[(3, .i (headErr t l m)), (2, .u 0), (1, .p 0)], [(0, .cells [.i t, .i l, .u m] 49)], 1⟩ [] trivial ?_
  refine xw_ret ?_
  refine an_ret ?_
  exact bs (.tup [.u 0, .i (headErr t l m)]) (Or.inr <| ⟨(by omega), rfl⟩)

theorem rhword_1 (t l m : Int) (hp0 : -9223372036854775808 ≤ t ∧ t ≤ 9223372036854775807) (hp1 : -9223372036854775808 ≤ l ∧ l ≤ 9223372036854775807) (hp2 : 0 ≤ m ∧ m ≤ 18446744073709551615) (hp3 : (t = 255 ∧ 0 ≤ l ∧ l ≤ 65535 ∧ m = 0) ∨ (1 ≤ t ∧ t ≤ 200 ∧ 0 ≤ l ∧ l ≤ 16 ∧ m < 2 ^ (Int.toNat l) ∧ m < 65536)) : Pub Try.prog 29 [.agg [.i t, .i l, .u m]] (fun rv => rv = .tup [.u (t * 72057594037927936 + l * 4294967296 + m), .i 0]) := by
  refine (rhword t l m hp0 hp1 hp2).mono ?_
  rintro _ (⟨g0, rfl⟩ | ⟨g0, rfl⟩)
  all_goals first | rfl | (exfalso; first | omega | grind)

theorem rhword_2 (t l m : Int) (hp0 : -9223372036854775808 ≤ t ∧ t ≤ 9223372036854775807) (hp1 : -9223372036854775808 ≤ l ∧ l ≤ 9223372036854775807) (hp2 : 0 ≤ m ∧ m ≤ 18446744073709551615) (hp3 : ¬ ((t = 255 ∧ 0 ≤ l ∧ l ≤ 65535 ∧ m = 0) ∨ (1 ≤ t ∧ t ≤ 200 ∧ 0 ≤ l ∧ l ≤ 16 ∧ m < 2 ^ (Int.toNat l) ∧ m < 65536))) : Pub Try.prog 29 [.agg [.i t, .i l, .u m]] (fun rv => rv = .tup [.u 0, .i (headErr t l m)]) := by
  refine (rhword t l m hp0 hp1 hp2).mono ?_
  rintro _ (⟨g0, rfl⟩ | ⟨g0, rfl⟩)
  all_goals first | rfl | (exfalso; first | omega | grind)

theorem htake (w : Int) (hp0 : 0 ≤ w ∧ w ≤ 18446744073709551615) : Pub Try.prog 45 [.u w] (fun rv => ((((w / 72057594037927936) = 255 ∧ 0 ≤ ((w / 4294967296) % 16777216) ∧ ((w / 4294967296) % 16777216) ≤ 65535 ∧ (w % 4294967296) = 0) ∨ (1 ≤ (w / 72057594037927936) ∧ (w / 72057594037927936) ≤ 200 ∧ 0 ≤ ((w / 4294967296) % 16777216) ∧ ((w / 4294967296) % 16777216) ≤ 16 ∧ (w % 4294967296) < 2 ^ (Int.toNat ((w / 4294967296) % 16777216)) ∧ (w % 4294967296) < 65536)) ∧ rv = .tup [.agg [.i (w / 72057594037927936), .i ((w / 4294967296) % 16777216), .u (w % 4294967296)], .i 0]) ∨ ((¬ (((w / 72057594037927936) = 255 ∧ 0 ≤ ((w / 4294967296) % 16777216) ∧ ((w / 4294967296) % 16777216) ≤ 65535 ∧ (w % 4294967296) = 0) ∨ (1 ≤ (w / 72057594037927936) ∧ (w / 72057594037927936) ≤ 200 ∧ 0 ≤ ((w / 4294967296) % 16777216) ∧ ((w / 4294967296) % 16777216) ≤ 16 ∧ (w % 4294967296) < 2 ^ (Int.toNat ((w / 4294967296) % 16777216)) ∧ (w % 4294967296) < 65536))) ∧ rv = .tup [.agg [.i 0, .i 0, .u 0], .i 10])) := by
 refine pub_of TT_ok Try.func45 rfl (by decide) (Nat.le_of_ble_eq_true (by kernel_rfl)) (by kernel_rfl) ?_
 refine rg [] 2 ⟨[(3, .i 0), (2, .p 0), (0, .u w)], [(0, .cells [.i 0, .i 0, .u 0] 49)], 1⟩ [] trivial ?_
 refine rg [(1, .i (w / 72057594037927936)), (2, .i (w / 72057594037927936)), (4, .i (w / 4294967296)), (5, .i ((w / 4294967296) % 16777216)), (6, .i ((w / 4294967296) % 16777216)), (8, .i (w % 4294967296))] 12 ⟨[(4, .p 1), (3, .i 0), (2, .p 0)], [(1, .cells [.i (w / 72057594037927936), .i ((w / 4294967296) % 16777216), .u (w % 4294967296)] 49), (0, .cells [.i 0, .i 0, .u 0] 49)], 2⟩ [(0 : Int) ≤ 56 ∧ w.fdiv (2 ^ min (56 : Int).toNat IntKind.u64.bits) = (w / 72057594037927936), IntKind.i64.wrap (w / 72057594037927936) = (w / 72057594037927936), (0 : Int) ≤ 32 ∧ w.fdiv (2 ^ min (32 : Int).toNat IntKind.u64.bits) = (w / 4294967296), IntKind.u64.wrap (BitVec.ofInt 64 (w / 4294967296) &&& BitVec.ofInt 64 16777215).toNat = ((w / 4294967296) % 16777216), IntKind.i64.wrap ((w / 4294967296) % 16777216) = ((w / 4294967296) % 16777216), IntKind.u64.wrap (BitVec.ofInt 64 w &&& BitVec.ofInt 64 4294967295).toNat = (w % 4294967296), True] ⟨⟨by omega, shr_eq rfl⟩, i64_in (by omega), ⟨by omega, shr_eq rfl⟩, and_eq 24 16777216 (by decide) rfl (by omega) (by omega) (by omega), i64_in (by omega), and_eq 32 4294967296 (by decide) rfl (by omega) (by omega) (by omega), trivial, trivial⟩ ?_
 refine xw_seq ?_
 refine xw_seq ?_
 refine reg ?_
 refine rk [] 1 0 ⟨[(15, .agg [.i (w / 72057594037927936), .i ((w / 4294967296) % 16777216), .u (w % 4294967296)]), (4, .p 1), (3, .i 0), (2, .p 0)], [(1, .cells [.i (w / 72057594037927936), .i ((w / 4294967296) % 16777216), .u (w % 4294967296)] 49), (0, .cells [.i 0, .i 0, .u 0] 49)], 2⟩ [True] ⟨trivial, trivial⟩ ?_
 by_cases h0 : ((w / 72057594037927936) = 255 ∧ 0 ≤ ((w / 4294967296) % 16777216) ∧ ((w / 4294967296) % 16777216) ≤ 65535 ∧ (w % 4294967296) = 0) ∨ (1 ≤ (w / 72057594037927936) ∧ (w / 72057594037927936) ≤ 200 ∧ 0 ≤ ((w / 4294967296) % 16777216) ∧ ((w / 4294967296) % 16777216) ≤ 16 ∧ (w % 4294967296) < 2 ^ (Int.toNat ((w / 4294967296) % 16777216)) ∧ (w % 4294967296) < 65536)
 ·
  refine pc (hright_1 (w / 72057594037927936) ((w / 4294967296) % 16777216) (w % 4294967296) (by omega) (by omega) (by omega) ‹_›) ?_
  refine rk [(2, .f)] 1 2 ⟨[(17, .f), (4, .p 1), (3, .i 0), (2, .p 0)], [(1, .cells [.i (w / 72057594037927936), .i ((w / 4294967296) % 16777216), .u (w % 4294967296)] 49), (0, .cells [.i 0, .i 0, .u 0] 49)], 2⟩ [(0 != 0) = false] ⟨bne_eq_false_iff_eq.2 (by omega), trivial⟩ ?_
  refine en ?_
  refine an ?_
  refine cf ?_
  refine xw_skip ?_
  refine an ?_
  refine rg [] 3 ⟨[(3, .i 0), (2, .p 0)], [(0, .cells [.i (w / 72057594037927936), .i ((w / 4294967296) % 16777216), .u (w % 4294967296)] 49)], 2⟩ [True, True] ⟨trivial, trivial, trivial⟩ ?_
  refine xw_ret ?_
  exact bs (.tup [.agg [.i (w / 72057594037927936), .i ((w / 4294967296) % 16777216), .u (w % 4294967296)], .i 0]) (Or.inl <| ⟨(by omega), rfl⟩)
 ·
  refine pc (hright_2 (w / 72057594037927936) ((w / 4294967296) % 16777216) (w % 4294967296) (by omega) (by omega) (by omega) ‹_›) ?_
  have h1 : (headErr (w / 72057594037927936) ((w / 4294967296) % 16777216) (w % 4294967296)) ≠ 0 := headErr_ne (by omega) (by omega)
  refine rk [(2, .t)] 1 2 ⟨[(17, .t), (4, .p 1), (3, .i 0), (2, .p 0)], [(1, .cells [.i (w / 72057594037927936), .i ((w / 4294967296) % 16777216), .u (w % 4294967296)] 49), (0, .cells [.i 0, .i 0, .u 0] 49)], 2⟩ [((headErr (w / 72057594037927936) ((w / 4294967296) % 16777216) (w % 4294967296)) != 0) = true] ⟨bne_iff_ne.2 (by omega), trivial⟩ ?_
  refine en ?_
  refine an ?_
  refine ct ?_
  refine rg [] 3 ⟨[(3, .i 10), (4, .p 1), (2, .p 0)], [(1, .cells [.i (w / 72057594037927936), .i ((w / 4294967296) % 16777216), .u (w % 4294967296)] 49), (0, .cells [.i 0, .i 0, .u 0] 49)], 2⟩ [True] ⟨trivial, trivial⟩ ?_
  refine xw_ret ?_
  refine an_ret ?_
  exact bs (.tup [.agg [.i 0, .i 0, .u 0], .i 10]) (Or.inr <| ⟨(by omega), rfl⟩)

theorem htake_1 (w : Int) (hp0 : 0 ≤ w ∧ w ≤ 18446744073709551615) (hp1 : ((w / 72057594037927936) = 255 ∧ 0 ≤ ((w / 4294967296) % 16777216) ∧ ((w / 4294967296) % 16777216) ≤ 65535 ∧ (w % 4294967296) = 0) ∨ (1 ≤ (w / 72057594037927936) ∧ (w / 72057594037927936) ≤ 200 ∧ 0 ≤ ((w / 4294967296) % 16777216) ∧ ((w / 4294967296) % 16777216) ≤ 16 ∧ (w % 4294967296) < 2 ^ (Int.toNat ((w / 4294967296) % 16777216)) ∧ (w % 4294967296) < 65536)) : Pub Try.prog 45 [.u w] (fun rv => rv = .tup [.agg [.i (w / 72057594037927936), .i ((w / 4294967296) % 16777216), .u (w % 4294967296)], .i 0]) := by
  refine (htake w hp0).mono ?_
  rintro _ (⟨g0, rfl⟩ | ⟨g0, rfl⟩)
  all_goals first | rfl | (exfalso; first | omega | grind)

theorem htake_2 (w : Int) (hp0 : 0 ≤ w ∧ w ≤ 18446744073709551615) (hp1 : ¬ (((w / 72057594037927936) = 255 ∧ 0 ≤ ((w / 4294967296) % 16777216) ∧ ((w / 4294967296) % 16777216) ≤ 65535 ∧ (w % 4294967296) = 0) ∨ (1 ≤ (w / 72057594037927936) ∧ (w / 72057594037927936) ≤ 200 ∧ 0 ≤ ((w / 4294967296) % 16777216) ∧ ((w / 4294967296) % 16777216) ≤ 16 ∧ (w % 4294967296) < 2 ^ (Int.toNat ((w / 4294967296) % 16777216)) ∧ (w % 4294967296) < 65536))) : Pub Try.prog 45 [.u w] (fun rv => rv = .tup [.agg [.i 0, .i 0, .u 0], .i 10]) := by
  refine (htake w hp0).mono ?_
  rintro _ (⟨g0, rfl⟩ | ⟨g0, rfl⟩)
  all_goals first | rfl | (exfalso; first | omega | grind)

theorem rhtake (w : Int) (hp0 : 0 ≤ w ∧ w ≤ 18446744073709551615) : Pub Try.prog 40 [.u w] (fun rv => ((((w / 72057594037927936) = 255 ∧ 0 ≤ ((w / 4294967296) % 16777216) ∧ ((w / 4294967296) % 16777216) ≤ 65535 ∧ (w % 4294967296) = 0) ∨ (1 ≤ (w / 72057594037927936) ∧ (w / 72057594037927936) ≤ 200 ∧ 0 ≤ ((w / 4294967296) % 16777216) ∧ ((w / 4294967296) % 16777216) ≤ 16 ∧ (w % 4294967296) < 2 ^ (Int.toNat ((w / 4294967296) % 16777216)) ∧ (w % 4294967296) < 65536)) ∧ rv = .tup [.agg [.i (w / 72057594037927936), .i ((w / 4294967296) % 16777216), .u (w % 4294967296)], .i 0]) ∨ ((¬ (((w / 72057594037927936) = 255 ∧ 0 ≤ ((w / 4294967296) % 16777216) ∧ ((w / 4294967296) % 16777216) ≤ 65535 ∧ (w % 4294967296) = 0) ∨ (1 ≤ (w / 72057594037927936) ∧ (w / 72057594037927936) ≤ 200 ∧ 0 ≤ ((w / 4294967296) % 16777216) ∧ ((w / 4294967296) % 16777216) ≤ 16 ∧ (w % 4294967296) < 2 ^ (Int.toNat ((w / 4294967296) % 16777216)) ∧ (w % 4294967296) < 65536))) ∧ rv = .tup [.agg [.i 0, .i 0, .u 0], .i 10])) := by
 refine pub_of TT_ok Try.func40 rfl (by decide) (Nat.le_of_ble_eq_true (by kernel_rfl)) (by kernel_rfl) ?_
 refine rg [] 2 ⟨[(3, .i 0), (2, .p 0), (0, .u w)], [(0, .cells [.i 0, .i 0, .u 0] 49)], 1⟩ [] trivial ?_
 refine rg [(1, .i (w / 72057594037927936)), (2, .i (w / 72057594037927936)), (4, .i (w / 4294967296)), (5, .i ((w / 4294967296) % 16777216)), (6, .i ((w / 4294967296) % 16777216)), (8, .i (w % 4294967296))] 12 ⟨[(4, .p 1), (3, .i 0), (2, .p 0)], [(1, .cells [.i (w / 72057594037927936), .i ((w / 4294967296) % 16777216), .u (w % 4294967296)] 49), (0, .cells [.i 0, .i 0, .u 0] 49)], 2⟩ [(72057594037927936 : Int) ≠ 0 ∧ IntKind.u64.wrap (w.tdiv 72057594037927936) = (w / 72057594037927936), IntKind.i64.wrap (w / 72057594037927936) = (w / 72057594037927936), (4294967296 : Int) ≠ 0 ∧ IntKind.u64.wrap (w.tdiv 4294967296) = (w / 4294967296), (16777216 : Int) ≠ 0 ∧ (w / 4294967296).tmod 16777216 = ((w / 4294967296) % 16777216), IntKind.i64.wrap ((w / 4294967296) % 16777216) = ((w / 4294967296) % 16777216), (4294967296 : Int) ≠ 0 ∧ w.tmod 4294967296 = (w % 4294967296), True] ⟨⟨by omega, u64_tdiv (by omega) (by omega) (by omega)⟩, i64_in (by omega), ⟨by omega, u64_tdiv (by omega) (by omega) (by omega)⟩, ⟨by omega, tmod_eq (by omega)⟩, i64_in (by omega), ⟨by omega, tmod_eq (by omega)⟩, trivial, trivial⟩ ?_
 refine xw_seq ?_
 refine xw_seq ?_
 refine reg ?_
 refine rk [] 1 0 ⟨[(15, .agg [.i (w / 72057594037927936), .i ((w / 4294967296) % 16777216), .u (w % 4294967296)]), (4, .p 1), (3, .i 0), (2, .p 0)], [(1, .cells [.i (w / 72057594037927936), .i ((w / 4294967296) % 16777216), .u (w % 4294967296)] 49), (0, .cells [.i 0, .i 0, .u 0] 49)], 2⟩ [True] ⟨trivial, trivial⟩ ?_
 by_cases h0 : ((w / 72057594037927936) = 255 ∧ 0 ≤ ((w / 4294967296) % 16777216) ∧ ((w / 4294967296) % 16777216) ≤ 65535 ∧ (w % 4294967296) = 0) ∨ (1 ≤ (w / 72057594037927936) ∧ (w / 72057594037927936) ≤ 200 ∧ 0 ≤ ((w / 4294967296) % 16777216) ∧ ((w / 4294967296) % 16777216) ≤ 16 ∧ (w % 4294967296) < 2 ^ (Int.toNat ((w / 4294967296) % 16777216)) ∧ (w % 4294967296) < 65536)
 ·
  refine pc (rhright_1 (w / 72057594037927936) ((w / 4294967296) % 16777216) (w % 4294967296) (by omega) (by omega) (by omega) ‹_›) ?_
  refine rk [(2, .f)] 1 2 ⟨[(17, .f), (4, .p 1), (3, .i 0), (2, .p 0)], [(1, .cells [.i (w / 72057594037927936), .i ((w / 4294967296) % 16777216), .u (w % 4294967296)] 49), (0, .cells [.i 0, .i 0, .u 0] 49)], 2⟩ [(0 != 0) = false] ⟨bne_eq_false_iff_eq.2 (by omega), trivial⟩ ?_
  refine en ?_
  refine an ?_
  refine cf ?_
  refine xw_skip ?_
  refine an ?_
  refine rg [] 3 ⟨[(3, .i 0), (2, .p 0)], [(0, .cells [.i (w / 72057594037927936), .i ((w / 4294967296) % 16777216), .u (w % 4294967296)] 49)], 2⟩ [True, True] ⟨trivial, trivial, trivial⟩ ?_
  refine xw_ret ?_
  exact bs (.tup [.agg [.i (w / 72057594037927936), .i ((w / 4294967296) % 16777216), .u (w % 4294967296)], .i 0]) (Or.inl <| ⟨(by omega), rfl⟩)
 ·
  refine pc (rhright_2 (w / 72057594037927936) ((w / 4294967296) % 16777216) (w % 4294967296) (by omega) (by omega) (by omega) ‹_›) ?_
  have h1 : (headErr (w / 72057594037927936) ((w / 4294967296) % 16777216) (w % 4294967296)) ≠ 0 := headErr_ne (by omega) (by omega)
  refine rk [(2, .t)] 1 2 ⟨[(17, .t), (4, .p 1), (3, .i 0), (2, .p 0)], [(1, .cells [.i (w / 72057594037927936), .i ((w / 4294967296) % 16777216), .u (w % 4294967296)] 49), (0, .cells [.i 0, .i 0, .u 0] 49)], 2⟩ [((headErr (w / 72057594037927936) ((w / 4294967296) % 16777216) (w % 4294967296)) != 0) = true] ⟨bne_iff_ne.2 (by omega), trivial⟩ ?_
  refine en ?_
  refine an ?_
  refine ct ?_
  refine rg [] 3 ⟨[(3, .i 10), (4, .p 1), (2, .p 0)], [(1, .cells [.i (w / 72057594037927936), .i ((w / 4294967296) % 16777216), .u (w % 4294967296)] 49), (0, .cells [.i 0, .i 0, .u 0] 49)], 2⟩ [True] ⟨trivial, trivial⟩ ?_
  refine xw_ret ?_
  refine an_ret ?_
  exact bs (.tup [.agg [.i 0, .i 0, .u 0], .i 10]) (Or.inr <| ⟨(by omega), rfl⟩)

theorem rhtake_1 (w : Int) (hp0 : 0 ≤ w ∧ w ≤ 18446744073709551615) (hp1 : ((w / 72057594037927936) = 255 ∧ 0 ≤ ((w / 4294967296) % 16777216) ∧ ((w / 4294967296) % 16777216) ≤ 65535 ∧ (w % 4294967296) = 0) ∨ (1 ≤ (w / 72057594037927936) ∧ (w / 72057594037927936) ≤ 200 ∧ 0 ≤ ((w / 4294967296) % 16777216) ∧ ((w / 4294967296) % 16777216) ≤ 16 ∧ (w % 4294967296) < 2 ^ (Int.toNat ((w / 4294967296) % 16777216)) ∧ (w % 4294967296) < 65536)) : Pub Try.prog 40 [.u w] (fun rv => rv = .tup [.agg [.i (w / 72057594037927936), .i ((w / 4294967296) % 16777216), .u (w % 4294967296)], .i 0]) := by
  refine (rhtake w hp0).mono ?_
  rintro _ (⟨g0, rfl⟩ | ⟨g0, rfl⟩)
  all_goals first | rfl | (exfalso; first | omega | grind)

theorem rhtake_2 (w : Int) (hp0 : 0 ≤ w ∧ w ≤ 18446744073709551615) (hp1 : ¬ (((w / 72057594037927936) = 255 ∧ 0 ≤ ((w / 4294967296) % 16777216) ∧ ((w / 4294967296) % 16777216) ≤ 65535 ∧ (w % 4294967296) = 0) ∨ (1 ≤ (w / 72057594037927936) ∧ (w / 72057594037927936) ≤ 200 ∧ 0 ≤ ((w / 4294967296) % 16777216) ∧ ((w / 4294967296) % 16777216) ≤ 16 ∧ (w % 4294967296) < 2 ^ (Int.toNat ((w / 4294967296) % 16777216)) ∧ (w % 4294967296) < 65536))) : Pub Try.prog 40 [.u w] (fun rv => rv = .tup [.agg [.i 0, .i 0, .u 0], .i 10]) := by
  refine (rhtake w hp0).mono ?_
  rintro _ (⟨g0, rfl⟩ | ⟨g0, rfl⟩)
  all_goals first | rfl | (exfalso; first | omega | grind)

theorem hpointer (t l m i : Int) (hp0 : -9223372036854775808 ≤ t ∧ t ≤ 9223372036854775807) (hp1 : -9223372036854775808 ≤ l ∧ l ≤ 9223372036854775807) (hp2 : 0 ≤ m ∧ m ≤ 18446744073709551615) : Pub Try.prog 60 [.agg [.i t, .i l, .u m], .i i] (fun rv => rv = .bool (isPtr l m i)) := by
 refine pub_of TT_ok Try.func60 rfl (by decide) (Nat.le_of_ble_eq_true (by kernel_rfl)) (by kernel_rfl) ?_
 refine rg [] 2 ⟨[(4, .f), (2, .p 0), (1, .i i)], [(0, .cells [.i t, .i l, .u m] 49)], 1⟩ [] trivial ?_
 refine xw_seq ?_
 refine reg ?_
 refine rk [(1, .bool (decide (0 ≤ i)))] 3 0 ⟨[(7, .bool (decide (0 ≤ i))), (4, .f), (2, .p 0), (1, .i i)], [(0, .cells [.i t, .i l, .u m] 49)], 1⟩ [(decide (0 ≤ i)) = (decide (0 ≤ i))] ⟨rfl, trivial⟩ ?_
 refine splitr 7 (x := (decide (0 ≤ i))) (by kernel_rfl) (fun h0 => ?_) (fun h0 => ?_)
 ·
  replace h0 : 0 ≤ i := of_decide_eq_true h0
  refine rk [(6, .bool (decide (i < l)))] 6 3 ⟨[(13, .bool (decide (i < l))), (4, .f), (2, .p 0), (1, .i i)], [(0, .cells [.i t, .i l, .u m] 49)], 1⟩ [True, (decide (i < l)) = (decide (i < l)), True] ⟨trivial, rfl, trivial, trivial⟩ ?_
  refine splitr 13 (x := (decide (i < l))) (by kernel_rfl) (fun h1 => ?_) (fun h1 => ?_)
  ·
   replace h1 : i < l := of_decide_eq_true h1
   refine rk [(10, .bool (decide (i < 64)))] 4 9 ⟨[(17, .bool (decide (i < 64))), (4, .f), (2, .p 0), (1, .i i)], [(0, .cells [.i t, .i l, .u m] 49)], 1⟩ [(decide (i < 64)) = (decide (i < 64)), True] ⟨rfl, trivial, trivial⟩ ?_
   refine splitr 17 (x := (decide (i < 64))) (by kernel_rfl) (fun h2 => ?_) (fun h2 => ?_)
   ·
    replace h2 : i < 64 := of_decide_eq_true h2
    refine rk [(16, .i (m.fdiv (2 ^ min (i : Int).toNat IntKind.u64.bits)))] 4 13 ⟨[(21, .u (m.fdiv (2 ^ min (i : Int).toNat IntKind.u64.bits))), (17, .t), (4, .f)], [], 1⟩ [True, (0 : Int) ≤ i ∧ (m.fdiv (2 ^ min (i : Int).toNat IntKind.u64.bits)) = (m.fdiv (2 ^ min (i : Int).toNat IntKind.u64.bits))] ⟨trivial, ⟨by omega, rfl⟩, trivial⟩ ?_
    have h3 : 0 ≤ (m.fdiv (2 ^ min (i : Int).toNat IntKind.u64.bits)) ∧ (m.fdiv (2 ^ min (i : Int).toNat IntKind.u64.bits)) ≤ m := shr_le (by omega)
    refine rk [(17, .i ((m.fdiv (2 ^ min (i : Int).toNat IntKind.u64.bits)) % 2)), (18, .bool (((m.fdiv (2 ^ min (i : Int).toNat IntKind.u64.bits)) % 2) == 1))] 4 17 ⟨[(4, .bool (((m.fdiv (2 ^ min (i : Int).toNat IntKind.u64.bits)) % 2) == 1))], [], 1⟩ [IntKind.u64.wrap (BitVec.ofInt 64 (m.fdiv (2 ^ min (i : Int).toNat IntKind.u64.bits)) &&& BitVec.ofInt 64 1).toNat = ((m.fdiv (2 ^ min (i : Int).toNat IntKind.u64.bits)) % 2), (((m.fdiv (2 ^ min (i : Int).toNat IntKind.u64.bits)) % 2) == 1) = (((m.fdiv (2 ^ min (i : Int).toNat IntKind.u64.bits)) % 2) == 1), True] ⟨and_eq 1 2 (by decide) rfl (by omega) (by omega) (by omega), rfl, trivial, trivial⟩ ?_
    refine en ?_
    refine an ?_
    refine xw_ret ?_
    by_cases h4 : ((m.fdiv (2 ^ min (i : Int).toNat IntKind.u64.bits)) % 2) = 1
    ·
     exact br (.bool (((m.fdiv (2 ^ min (i : Int).toNat IntKind.u64.bits)) % 2) == 1)) (.bool (isPtr l m i)) (wkd [(((m.fdiv (2 ^ min (i : Int).toNat IntKind.u64.bits)) % 2) == 1) = (isPtr l m i)] (by kernel_rfl) ⟨(by have hq := @ptr_eq m i; simp only [isPtr]; first | (symm; apply decide_eq_true; simp_all; done) | (symm; apply decide_eq_false; simp_all; done) | (symm; apply decide_eq_false; omega) | grind), trivial⟩) rfl
    ·
     exact br (.bool (((m.fdiv (2 ^ min (i : Int).toNat IntKind.u64.bits)) % 2) == 1)) (.bool (isPtr l m i)) (wkd [(((m.fdiv (2 ^ min (i : Int).toNat IntKind.u64.bits)) % 2) == 1) = (isPtr l m i)] (by kernel_rfl) ⟨(by have hq := @ptr_eq m i; simp only [isPtr]; first | (symm; apply decide_eq_true; simp_all; done) | (symm; apply decide_eq_false; simp_all; done) | (symm; apply decide_eq_false; omega) | grind), trivial⟩) rfl
   ·
    replace h2 : ¬ (i < 64) := of_decide_eq_false h2
    refine rk [] 8 13 ⟨[(4, .f)], [], 1⟩ [True] ⟨trivial, trivial⟩ ?_
    refine en ?_
    refine an ?_
    refine xw_ret ?_
    exact br (.f) (.bool (isPtr l m i)) (wkd [false = (isPtr l m i)] (by kernel_rfl) ⟨(by have hq := @ptr_eq m i; simp only [isPtr]; first | (symm; apply decide_eq_true; simp_all; done) | (symm; apply decide_eq_false; simp_all; done) | (symm; apply decide_eq_false; omega) | grind), trivial⟩) rfl
  ·
   replace h1 : ¬ (i < l) := of_decide_eq_false h1
   refine rk [] 12 9 ⟨[(4, .f)], [], 1⟩ [True, True] ⟨trivial, trivial, trivial⟩ ?_
   refine en ?_
   refine an ?_
   refine xw_ret ?_
   exact br (.f) (.bool (isPtr l m i)) (wkd [false = (isPtr l m i)] (by kernel_rfl) ⟨(by have hq := @ptr_eq m i; simp only [isPtr]; first | (symm; apply decide_eq_true; simp_all; done) | (symm; apply decide_eq_false; simp_all; done) | (symm; apply decide_eq_false; omega) | grind), trivial⟩) rfl
 ·
  replace h0 : ¬ (0 ≤ i) := of_decide_eq_false h0
  refine rk [] 18 3 ⟨[(4, .f)], [], 1⟩ [True, True, True] ⟨trivial, trivial, trivial, trivial⟩ ?_
  refine en ?_
  refine an ?_
  refine xw_ret ?_
  exact br (.f) (.bool (isPtr l m i)) (wkd [false = (isPtr l m i)] (by kernel_rfl) ⟨(by have hq := @ptr_eq m i; simp only [isPtr]; first | (symm; apply decide_eq_true; simp_all; done) | (symm; apply decide_eq_false; simp_all; done) | (symm; apply decide_eq_false; omega) | grind), trivial⟩) rfl

theorem rhpointer (t l m i : Int) (hp0 : -9223372036854775808 ≤ t ∧ t ≤ 9223372036854775807) (hp1 : -9223372036854775808 ≤ l ∧ l ≤ 9223372036854775807) (hp2 : 0 ≤ m ∧ m ≤ 18446744073709551615) : Pub Try.prog 41 [.agg [.i t, .i l, .u m], .i i] (fun rv => rv = .bool (isPtr l m i)) := by
 refine pub_of TT_ok Try.func41 rfl (by decide) (Nat.le_of_ble_eq_true (by kernel_rfl)) (by kernel_rfl) ?_
 refine rg [] 2 ⟨[(4, .f), (2, .p 0), (1, .i i)], [(0, .cells [.i t, .i l, .u m] 49)], 1⟩ [] trivial ?_
 refine xw_seq ?_
 refine xw_seq ?_
 refine reg ?_
 refine rk [(1, .bool (decide (i < 0)))] 3 0 ⟨[(7, .bool (decide (i < 0))), (4, .f), (2, .p 0), (1, .i i)], [(0, .cells [.i t, .i l, .u m] 49)], 1⟩ [(decide (i < 0)) = (decide (i < 0))] ⟨rfl, trivial⟩ ?_
 refine splitr 7 (x := (decide (i < 0))) (by kernel_rfl) (fun h0 => ?_) (fun h0 => ?_)
 ·
  replace h0 : i < 0 := of_decide_eq_true h0
  refine rk [] 9 3 ⟨[(16, .t), (4, .f), (2, .p 0), (1, .i i)], [(0, .cells [.i t, .i l, .u m] 49)], 1⟩ [True, True] ⟨trivial, trivial, trivial⟩ ?_
  refine en ?_
  refine an ?_
  refine ct ?_
  refine rg [] 1 ⟨[(4, .f), (2, .p 0), (1, .i i)], [(0, .cells [.i t, .i l, .u m] 49)], 1⟩ [] trivial ?_
  refine xw_ret ?_
  refine an_ret ?_
  exact br (.f) (.bool (isPtr l m i)) (wkd [false = (isPtr l m i)] (by kernel_rfl) ⟨(by have hq := @ptr_eq m i; simp only [isPtr]; first | (symm; apply decide_eq_true; simp_all; done) | (symm; apply decide_eq_false; simp_all; done) | (symm; apply decide_eq_false; omega) | grind), trivial⟩) rfl
 ·
  replace h0 : ¬ (i < 0) := of_decide_eq_false h0
  refine rk [(6, .bool (decide (l ≤ i)))] 6 3 ⟨[(13, .bool (decide (l ≤ i))), (4, .f), (2, .p 0), (1, .i i)], [(0, .cells [.i t, .i l, .u m] 49)], 1⟩ [True, (decide (l ≤ i)) = (decide (l ≤ i)), True] ⟨trivial, rfl, trivial, trivial⟩ ?_
  refine splitr 13 (x := (decide (l ≤ i))) (by kernel_rfl) (fun h1 => ?_) (fun h1 => ?_)
  ·
   replace h1 : l ≤ i := of_decide_eq_true h1
   refine rk [] 3 9 ⟨[(16, .t), (4, .f), (2, .p 0), (1, .i i)], [(0, .cells [.i t, .i l, .u m] 49)], 1⟩ [True] ⟨trivial, trivial⟩ ?_
   refine en ?_
   refine an ?_
   refine ct ?_
   refine rg [] 1 ⟨[(4, .f), (2, .p 0), (1, .i i)], [(0, .cells [.i t, .i l, .u m] 49)], 1⟩ [] trivial ?_
   refine xw_ret ?_
   refine an_ret ?_
   exact br (.f) (.bool (isPtr l m i)) (wkd [false = (isPtr l m i)] (by kernel_rfl) ⟨(by have hq := @ptr_eq m i; simp only [isPtr]; first | (symm; apply decide_eq_true; simp_all; done) | (symm; apply decide_eq_false; simp_all; done) | (symm; apply decide_eq_false; omega) | grind), trivial⟩) rfl
  ·
   replace h1 : ¬ (l ≤ i) := of_decide_eq_false h1
   refine rk [(10, .bool (decide (63 < i)))] 3 9 ⟨[(16, .bool (decide (63 < i))), (4, .f), (2, .p 0), (1, .i i)], [(0, .cells [.i t, .i l, .u m] 49)], 1⟩ [(decide (63 < i)) = (decide (63 < i)), True] ⟨rfl, trivial, trivial⟩ ?_
   refine en ?_
   refine an ?_
   refine xw_cond (b := (decide (63 < i))) (by kernel_rfl) (fun h2 => ?_) (fun h2 => ?_)
   ·
    replace h2 : 63 < i := of_decide_eq_true h2
    refine rg [] 1 ⟨[(4, .f), (2, .p 0), (1, .i i)], [(0, .cells [.i t, .i l, .u m] 49)], 1⟩ [] trivial ?_
    refine xw_ret ?_
    refine an_ret ?_
    exact br (.f) (.bool (isPtr l m i)) (wkd [false = (isPtr l m i)] (by kernel_rfl) ⟨(by have hq := @ptr_eq m i; simp only [isPtr]; first | (symm; apply decide_eq_true; simp_all; done) | (symm; apply decide_eq_false; simp_all; done) | (symm; apply decide_eq_false; omega) | grind), trivial⟩) rfl
   ·
    replace h2 : ¬ (63 < i) := of_decide_eq_false h2
    refine xw_skip ?_
    refine an ?_
    refine xw_seq ?_
    refine dregk hmix (by kernel_rfl) ?_
    refine qr [] 3 0 [(19, .i i), (18, .u m), (17, .loc 0 2), (16, .bool (decide (63 < i))), (4, .f), (2, .p 0), (1, .i i)] [True] ⟨trivial, trivial⟩ ?_
    refine qc (rpower i (by omega)) ?_
    have h3 : (1 : Int) ≤ (2 ^ (Int.toNat i)) := one_le_pow _
    refine qr [(4, .i (m / (2 ^ (Int.toNat i))))] 1 4 [(21, .u (m / (2 ^ (Int.toNat i)))), (20, .u (2 ^ (Int.toNat i))), (19, .i i), (18, .u m), (17, .loc 0 2), (16, .bool (decide (63 < i))), (4, .f), (2, .p 0), (1, .i i)] [((2 ^ (Int.toNat i)) : Int) ≠ 0 ∧ IntKind.u64.wrap (m.tdiv (2 ^ (Int.toNat i))) = (m / (2 ^ (Int.toNat i)))] ⟨⟨by omega, u64_tdiv (by omega) (by omega) (by omega)⟩, trivial⟩ ?_
    have h4 : 0 ≤ (m / (2 ^ (Int.toNat i))) ∧ (m / (2 ^ (Int.toNat i))) ≤ m := div_le (by omega) (by omega)
    refine qr [(5, .i ((m / (2 ^ (Int.toNat i))) % 2)), (6, .bool (((m / (2 ^ (Int.toNat i))) % 2) == 1))] 3 5 [(4, .bool (((m / (2 ^ (Int.toNat i))) % 2) == 1)), (23, .bool (((m / (2 ^ (Int.toNat i))) % 2) == 1)), (22, .u ((m / (2 ^ (Int.toNat i))) % 2)), (21, .u (m / (2 ^ (Int.toNat i)))), (20, .u (2 ^ (Int.toNat i))), (19, .i i), (18, .u m), (17, .loc 0 2), (16, .bool (decide (63 < i))), (4, .f), (2, .p 0), (1, .i i)] [(2 : Int) ≠ 0 ∧ (m / (2 ^ (Int.toNat i))).tmod 2 = ((m / (2 ^ (Int.toNat i))) % 2), (((m / (2 ^ (Int.toNat i))) % 2) == 1) = (((m / (2 ^ (Int.toNat i))) % 2) == 1)] ⟨⟨by omega, tmod_eq (by omega)⟩, rfl, trivial⟩ ?_
    refine qen ?_
    refine an ?_
    refine xw_ret ?_
    by_cases h5 : ((m / (2 ^ (Int.toNat i))) % 2) = 1
    ·
     exact br (.bool (((m / (2 ^ (Int.toNat i))) % 2) == 1)) (.bool (isPtr l m i)) (wkd [(((m / (2 ^ (Int.toNat i))) % 2) == 1) = (isPtr l m i)] (by kernel_rfl) ⟨(by have hq := @ptr_eq m i; simp only [isPtr]; first | (symm; apply decide_eq_true; simp_all; done) | (symm; apply decide_eq_false; simp_all; done) | (symm; apply decide_eq_false; omega) | grind), trivial⟩) rfl
    ·
     exact br (.bool (((m / (2 ^ (Int.toNat i))) % 2) == 1)) (.bool (isPtr l m i)) (wkd [(((m / (2 ^ (Int.toNat i))) % 2) == 1) = (isPtr l m i)] (by kernel_rfl) ⟨(by have hq := @ptr_eq m i; simp only [isPtr]; first | (symm; apply decide_eq_true; simp_all; done) | (symm; apply decide_eq_false; simp_all; done) | (symm; apply decide_eq_false; omega) | grind), trivial⟩) rfl

end Go.Proofs.Ytlapjlbmhaalbaa.X
