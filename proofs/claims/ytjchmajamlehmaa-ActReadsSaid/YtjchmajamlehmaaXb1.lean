/- Contracts of Go functions: what each returns, for every input that its premises name; no memory of the caller is touched. Printed by a program. -/
import Derived.Test.YtjchmajamlehmaaXt
import Derived.Test.YtjchmajamlehmaaXq2
namespace Go.Proofs.Ytjchmajamlehmaa.X
open Go Go.RowKit
set_option linter.unusedVariables false      -- a premise may serve only to tell which way is taken
theorem addr (s a : Int) : Pub Try.prog 62 [.i s, .i a] (fun rv => ((0 ≤ s ∧ s ≤ 1 ∧ 0 ≤ a ∧ a ≤ 4294967295) ∧ rv = .u ((s + 1) * 4294967296 + a)) ∨ ((¬ (0 ≤ s ∧ s ≤ 1 ∧ 0 ≤ a ∧ a ≤ 4294967295)) ∧ rv = .u 0)) := by
 refine pub_of TT_ok Try.func62 rfl (by decide) (Nat.le_of_ble_eq_true (by kernel_rfl)) (by kernel_rfl) ?_
 refine rgi [] 1 [4, 0, 1] [] [] trivial ?_
 refine xw_seq ?_
 refine xw_seq ?_
 refine reg ?_
 refine rki [(1, .bool (decide (s < 0)))] 3 0 [7, 4, 0, 1] [] [sm (decide (s < 0))] ⟨rfl, trivial⟩ ?_
 refine splitr 7 (x := (decide (s < 0))) (by kernel_rfl) (fun h0 => ?_) (fun h0 => ?_)
 ·
  replace h0 : s < 0 := of_decide_eq_true h0
  refine rki [] 11 3 [18, 4, 0, 1] [] [True, True, True] ⟨trivial, trivial, trivial, trivial⟩ ?_
  refine en ?_
  refine an ?_
  refine ct ?_
  refine rg [] 1 ⟨[(4, .u 0), (0, .i s), (1, .i a)], [], 0⟩ [] trivial ?_
  refine xw_ret ?_
  refine an_ret ?_
  exact bs (.u 0) (Or.inr <| ⟨(by omega), rfl⟩)
 ·
  replace h0 : ¬ (s < 0) := of_decide_eq_false h0
  refine rki [(4, .bool (decide (1 < s)))] 4 3 [11, 4, 0, 1] [] [sm (decide (1 < s)), True] ⟨rfl, trivial, trivial⟩ ?_
  refine splitr 11 (x := (decide (1 < s))) (by kernel_rfl) (fun h1 => ?_) (fun h1 => ?_)
  ·
   replace h1 : 1 < s := of_decide_eq_true h1
   refine rk [] 7 7 ⟨[(18, .t), (4, .u 0), (0, .i s), (1, .i a)], [], 0⟩ [True, True] ⟨trivial, trivial, trivial⟩ ?_
   refine en ?_
   refine an ?_
   refine ct ?_
   refine rgi [] 1 [4, 0, 1] [] [] trivial ?_
   refine xw_ret ?_
   refine an_ret ?_
   exact bs (.u 0) (Or.inr <| ⟨(by omega), rfl⟩)
  ·
   replace h1 : ¬ (1 < s) := of_decide_eq_false h1
   refine rk [(8, .bool (decide (a < 0)))] 4 7 ⟨[(15, .bool (decide (a < 0))), (4, .u 0), (0, .i s), (1, .i a)], [], 0⟩ [sm (decide (a < 0)), True] ⟨rfl, trivial, trivial⟩ ?_
   refine splitr 15 (x := (decide (a < 0))) (by kernel_rfl) (fun h2 => ?_) (fun h2 => ?_)
   ·
    replace h2 : a < 0 := of_decide_eq_true h2
    refine rki [] 3 11 [18, 4, 0, 1] [] [True] ⟨trivial, trivial⟩ ?_
    refine en ?_
    refine an ?_
    refine ct ?_
    refine rgi [] 1 [4, 0, 1] [] [] trivial ?_
    refine xw_ret ?_
    refine an_ret ?_
    exact bs (.u 0) (Or.inr <| ⟨(by omega), rfl⟩)
   ·
    replace h2 : ¬ (a < 0) := of_decide_eq_false h2
    refine rki [(12, .bool (decide (4294967295 < a)))] 3 11 [18, 4, 0, 1] [] [sm (decide (4294967295 < a)), True] ⟨rfl, trivial, trivial⟩ ?_
    refine en ?_
    refine an ?_
    refine xw_cond (b := (decide (4294967295 < a))) (by kernel_rfl) (fun h3 => ?_) (fun h3 => ?_)
    ·
     replace h3 : 4294967295 < a := of_decide_eq_true h3
     refine rgi [] 1 [4, 0, 1] [] [] trivial ?_
     refine xw_ret ?_
     refine an_ret ?_
     exact bs (.u 0) (Or.inr <| ⟨(by omega), rfl⟩)
    ·
     replace h3 : ¬ (4294967295 < a) := of_decide_eq_false h3
     refine xw_skip ?_
     refine an ?_
     refine rgi [(1, .i (s + 1)), (2, .i (s + 1)), (3, .i ((s + 1) * 4294967296)), (5, .i a), (6, .i (((s + 1) * 4294967296) + a))] 8 [4] [] [IntKind.i64.wrap (s + 1) = (s + 1), IntKind.u64.wrap (s + 1) = (s + 1), (0 : Int) ≤ 32 ∧ IntKind.u64.wrap ((s + 1) * 2 ^ min (32 : Int).toNat IntKind.u64.bits) = ((s + 1) * 4294967296), IntKind.u64.wrap a = a, IntKind.u64.wrap (BitVec.ofInt 64 ((s + 1) * 4294967296) ||| BitVec.ofInt 64 a).toNat = (((s + 1) * 4294967296) + a)] ⟨i64_eq (by omega) (by omega), u64_in (by omega), ⟨by omega, u64_eq rfl (by omega)⟩, u64_in (by omega), or_eq2 (q := (1 + s)) 32 4294967296 rfl (by omega) (by omega) (by omega) (by omega) (by omega), trivial⟩ ?_
     refine xw_ret ?_
     exact br (.u (((s + 1) * 4294967296) + a)) (.u ((s + 1) * 4294967296 + a)) (wkd [((((s + 1) * 4294967296) + a) : Int) = ((s + 1) * 4294967296 + a)] (by kernel_rfl) ⟨(by omega), trivial⟩) (Or.inl <| ⟨(by omega), rfl⟩)

theorem addr_1 (s a : Int) (hp0 : 0 ≤ s ∧ s ≤ 1 ∧ 0 ≤ a ∧ a ≤ 4294967295) : Pub Try.prog 62 [.i s, .i a] (fun rv => rv = .u ((s + 1) * 4294967296 + a)) := by
  refine (addr s a ).mono ?_
  rintro _ (⟨g0, rfl⟩ | ⟨g0, rfl⟩)
  all_goals first | rfl | (exfalso; first | omega | grind)

theorem pwhere (a : Int) (hp0 : 0 ≤ a ∧ a ≤ 18446744073709551615) : Pub Try.prog 84 [.u a] (fun rv => ((1 ≤ a / 4294967296 ∧ a / 4294967296 ≤ 2) ∧ rv = .tup [.i (a / 4294967296 - 1), .i (a % 4294967296), .t]) ∨ ((¬ (1 ≤ a / 4294967296 ∧ a / 4294967296 ≤ 2)) ∧ rv = .tup [.i 0, .i 0, .f])) := by
 refine pub_of TT_ok Try.func84 rfl (by decide) (Nat.le_of_ble_eq_true (by kernel_rfl)) (by kernel_rfl) ?_
 refine rgi [] 3 [4, 3, 2, 0] [] [] trivial ?_
 refine rgi [(1, .i (a / 4294967296)), (2, .i (a / 4294967296)), (3, .i ((a / 4294967296) - 1)), (5, .i (a % 4294967296)), (6, .i (a % 4294967296))] 10 [5, 4, 3, 2] [0] [(0 : Int) ≤ 32 ∧ a.fdiv (2 ^ min (32 : Int).toNat IntKind.u64.bits) = (a / 4294967296), IntKind.i64.wrap (a / 4294967296) = (a / 4294967296), IntKind.i64.wrap ((a / 4294967296) - 1) = ((a / 4294967296) - 1), IntKind.u64.wrap (BitVec.ofInt 64 a &&& BitVec.ofInt 64 4294967295).toNat = (a % 4294967296), IntKind.i64.wrap (a % 4294967296) = (a % 4294967296), True] ⟨⟨by omega, shr_eq rfl⟩, i64_in (by omega), i64_eq (by omega) (by omega), and_eq 32 4294967296 (by decide) rfl (by omega) (by omega) (by omega), i64_in (by omega), trivial, trivial⟩ ?_
 refine xw_seq ?_
 refine xw_seq ?_
 refine reg ?_
 refine rki [(2, .bool ((((a / 4294967296) - 1) == (-1)) && (((a % 4294967296) == 0) && true)))] 4 0 [17, 5, 4, 3, 2] [0] [True, sm ((((a / 4294967296) - 1) == (-1)) && (((a % 4294967296) == 0) && true))] ⟨trivial, rfl, trivial⟩ ?_
 refine splitr 17 (x := ((((a / 4294967296) - 1) == (-1)) && (((a % 4294967296) == 0) && true))) (by kernel_rfl) (fun h0 => ?_) (fun h0 => ?_)
 ·
  replace h0 : (((a / 4294967296) - 1) = (- 1)) ∧ ((a % 4294967296) = 0) := by first | (simp; done) | simpa using h0
  refine rk [] 9 4 ⟨[(26, .t), (5, .p 0), (4, .f), (3, .i 0), (2, .i 0)], [(0, .cells [.i ((a / 4294967296) - 1), .i (a % 4294967296)] 146)], 1⟩ [True, True] ⟨trivial, trivial, trivial⟩ ?_
  refine en ?_
  refine an ?_
  refine ct ?_
  refine rgi [] 3 [4, 3, 2, 5] [0] [] trivial ?_
  refine xw_ret ?_
  refine an_ret ?_
  exact bs (.tup [.i 0, .i 0, .f]) (Or.inr <| ⟨(by omega), rfl⟩)
 ·
  replace h0 : ¬ ((((a / 4294967296) - 1) = (- 1)) ∧ ((a % 4294967296) = 0)) := by first | (simp; done) | simpa using h0 | (simp at h0; omega)
  refine rk [(6, .bool (decide (((a / 4294967296) - 1) < 0)))] 5 4 ⟨[(22, .bool (decide (((a / 4294967296) - 1) < 0))), (5, .p 0), (4, .f), (3, .i 0), (2, .i 0)], [(0, .cells [.i ((a / 4294967296) - 1), .i (a % 4294967296)] 146)], 1⟩ [True, sm (decide (((a / 4294967296) - 1) < 0)), True] ⟨trivial, rfl, trivial, trivial⟩ ?_
  refine splitr 22 (x := (decide (((a / 4294967296) - 1) < 0))) (by kernel_rfl) (fun h1 => ?_) (fun h1 => ?_)
  ·
   replace h1 : ((a / 4294967296) - 1) < 0 := of_decide_eq_true h1
   refine rki [] 4 9 [26, 5, 4, 3, 2] [0] [True] ⟨trivial, trivial⟩ ?_
   refine en ?_
   refine an ?_
   refine ct ?_
   refine rgi [] 3 [4, 3, 2, 5] [0] [] trivial ?_
   refine xw_ret ?_
   refine an_ret ?_
   exact bs (.tup [.i 0, .i 0, .f]) (Or.inr <| ⟨(by omega), rfl⟩)
  ·
   replace h1 : ¬ (((a / 4294967296) - 1) < 0) := of_decide_eq_false h1
   refine rki [(11, .bool (decide (1 < ((a / 4294967296) - 1))))] 4 9 [26, 5, 4, 3, 2] [0] [True, sm (decide (1 < ((a / 4294967296) - 1))), True] ⟨trivial, rfl, trivial, trivial⟩ ?_
   refine en ?_
   refine an ?_
   refine xw_cond (b := (decide (1 < ((a / 4294967296) - 1)))) (by kernel_rfl) (fun h2 => ?_) (fun h2 => ?_)
   ·
    replace h2 : 1 < ((a / 4294967296) - 1) := of_decide_eq_true h2
    refine rgi [] 3 [4, 3, 2, 5] [0] [] trivial ?_
    refine xw_ret ?_
    refine an_ret ?_
    exact bs (.tup [.i 0, .i 0, .f]) (Or.inr <| ⟨(by omega), rfl⟩)
   ·
    replace h2 : ¬ (1 < ((a / 4294967296) - 1)) := of_decide_eq_false h2
    refine xw_skip ?_
    refine an ?_
    refine xw_seq ?_
    refine dregk hmix (by kernel_rfl) ?_
    refine qri [] 7 0 [True, True] ⟨trivial, trivial, trivial⟩ ?_
    refine qen ?_
    refine an ?_
    refine xw_ret ?_
    exact br (.tup [.i ((a / 4294967296) - 1), .i (a % 4294967296), .t]) (.tup [.i (a / 4294967296 - 1), .i (a % 4294967296), .t]) (wkd [(((a / 4294967296) - 1) : Int) = (a / 4294967296 - 1), ((a % 4294967296) : Int) = (a % 4294967296), true = true] (by kernel_rfl) ⟨(by omega), rfl, rfl, trivial⟩) (Or.inl <| ⟨(by omega), rfl⟩)

theorem pwhere_1 (a : Int) (hp0 : 0 ≤ a ∧ a ≤ 18446744073709551615) (hp1 : 1 ≤ a / 4294967296 ∧ a / 4294967296 ≤ 2) : Pub Try.prog 84 [.u a] (fun rv => rv = .tup [.i (a / 4294967296 - 1), .i (a % 4294967296), .t]) := by
  refine (pwhere a hp0).mono ?_
  rintro _ (⟨g0, rfl⟩ | ⟨g0, rfl⟩)
  all_goals first | rfl | (exfalso; first | omega | grind)

theorem pwhere_2 (a : Int) (hp0 : 0 ≤ a ∧ a ≤ 18446744073709551615) (hp1 : ¬ (1 ≤ a / 4294967296 ∧ a / 4294967296 ≤ 2)) : Pub Try.prog 84 [.u a] (fun rv => rv = .tup [.i 0, .i 0, .f]) := by
  refine (pwhere a hp0).mono ?_
  rintro _ (⟨g0, rfl⟩ | ⟨g0, rfl⟩)
  all_goals first | rfl | (exfalso; first | omega | grind)

theorem padd (a b : Int) (hp0 : -9223372036854775808 ≤ a ∧ a ≤ 9223372036854775807) (hp1 : -9223372036854775808 ≤ b ∧ b ≤ 9223372036854775807) : Pub Try.prog 92 [.i a, .i b] (fun rv => ((0 ≤ a ∧ 0 ≤ b ∧ a + b ≤ 9223372036854775807) ∧ rv = .tup [.i (a + b), .t]) ∨ ((¬ (0 ≤ a ∧ 0 ≤ b ∧ a + b ≤ 9223372036854775807)) ∧ rv = .tup [.i 0, .f])) := by
 refine pub_of TT_ok Try.func92 rfl (by decide) (Nat.le_of_ble_eq_true (by kernel_rfl)) (by kernel_rfl) ?_
 refine rgi [] 4 [5, 4, 3, 2] [1, 0] [] trivial ?_
 refine rgi [] 2 [6, 5, 4, 3, 2] [1, 0] [] trivial ?_
 refine xw_seq ?_
 refine xw_block ?_
 refine xw_seq ?_
 refine xw_block ?_
 refine xw_block ?_
 refine xw_seq ?_
 refine xw_seq ?_
 refine xw_seq ?_
 refine reg ?_
 refine rki [] 1 0 [9, 5, 4, 3, 2] [1, 0] [] trivial ?_
 refine callx (f := 94) (args := [.p 0, .p 1]) (d := (some 10)) (by kernel_rfl) (xcall_of TT_ok Try.func94 rfl (by decide) (Nat.le_of_ble_eq_true (by kernel_rfl)) ?_)
 refine rg [] 1 ⟨[(2, .f), (0, .p 0), (1, .p 1)], [(1, .cells [.i b] 3), (0, .cells [.i a] 3)], 2⟩ [] trivial ?_
 refine xw_seq ?_
 refine reg ?_
 refine rki [(1, .bool (decide (a < 0)))] 3 0 [5, 2, 1] [1, 0] [True, sm (decide (a < 0))] ⟨trivial, rfl, trivial⟩ ?_
 refine splitr 5 (x := (decide (a < 0))) (by kernel_rfl) (fun h0 => ?_) (fun h0 => ?_)
 ·
  replace h0 : a < 0 := of_decide_eq_true h0
  refine rki [] 4 3 [2] [1, 0] [True] ⟨trivial, trivial⟩ ?_
  refine en ?_
  refine an ?_
  refine xw_ret ?_
  refine ⟨.t, by kernel_rfl, ?_⟩
  refine rk [] 1 2 ⟨[(8, .t), (5, .f), (4, .i 0), (3, .p 1), (2, .p 0)], [(1, .cells [.i b] 3), (0, .cells [.i a] 3)], 2⟩ [] trivial ?_
  refine en ?_
  refine an ?_
  refine ct ?_
  refine xw_exit ?_
  refine an_exit ?_
  refine an_exit ?_
  refine ib_same ?_
  refine ib ?_
  refine an ?_
  refine xw_seq ?_
  refine rgi [] 2 [5, 4, 3, 2] [1, 0] [] trivial ?_
  refine xw_ret ?_
  refine an_ret ?_
  refine ib_ret ?_
  refine an_ret ?_
  exact bs (.tup [.i 0, .f]) (Or.inr <| ⟨(by omega), rfl⟩)
 ·
  replace h0 : ¬ (a < 0) := of_decide_eq_false h0
  refine rki [(4, .bool (decide (b < 0)))] 4 3 [2] [1, 0] [True, sm (decide (b < 0)), True] ⟨trivial, rfl, trivial, trivial⟩ ?_
  refine en ?_
  refine an ?_
  refine xw_ret ?_
  refine ⟨.bool (decide (b < 0)), by kernel_rfl, ?_⟩
  refine rk [] 1 2 ⟨[(8, .bool (decide (b < 0))), (5, .f), (4, .i 0), (3, .p 1), (2, .p 0)], [(1, .cells [.i b] 3), (0, .cells [.i a] 3)], 2⟩ [] trivial ?_
  refine en ?_
  refine an ?_
  refine xw_cond (b := (decide (b < 0))) (by kernel_rfl) (fun h1 => ?_) (fun h1 => ?_)
  ·
   replace h1 : b < 0 := of_decide_eq_true h1
   refine xw_exit ?_
   refine an_exit ?_
   refine an_exit ?_
   refine ib_same ?_
   refine ib ?_
   refine an ?_
   refine xw_seq ?_
   refine rgi [] 2 [5, 4, 3, 2] [1, 0] [] trivial ?_
   refine xw_ret ?_
   refine an_ret ?_
   refine ib_ret ?_
   refine an_ret ?_
   exact bs (.tup [.i 0, .f]) (Or.inr <| ⟨(by omega), rfl⟩)
  ·
   replace h1 : ¬ (b < 0) := of_decide_eq_false h1
   refine xw_skip ?_
   refine an ?_
   refine xw_seq ?_
   refine reg ?_
   refine rki [] 2 0 [13, 12, 5, 4, 3, 2] [1, 0] [True, True] ⟨trivial, trivial, trivial⟩ ?_
   by_cases h2 : (a + b) ≤ 9223372036854775807
   ·
    refine rki [(2, .i (a + b)), (3, .f)] 3 2 [11, 5, 4, 3, 2] [1, 0] [IntKind.i64.wrap (a + b) = (a + b), (decide ((a + b) < 0)) = false] ⟨i64_eq (by omega) (by omega), decide_eq_false (by omega), trivial⟩ ?_
    refine en ?_
    refine an ?_
    refine cf ?_
    refine xw_skip ?_
    refine an ?_
    refine xw_exit ?_
    refine ib_exit (by kernel_rfl) ?_
    refine ib_exit (by kernel_rfl) ?_
    refine an_exit ?_
    refine ib_same ?_
    refine an ?_
    refine rgi [(2, .i (a + b))] 5 [5, 4] [] [True, True, IntKind.i64.wrap (a + b) = (a + b)] ⟨trivial, trivial, i64_eq (by omega) (by omega), trivial⟩ ?_
    refine xw_ret ?_
    exact bs (.tup [.i (a + b), .t]) (Or.inl <| ⟨(by omega), rfl⟩)
   ·
    refine rki [(2, .i ((a + b) - 18446744073709551616)), (3, .t)] 3 2 [11, 5, 4, 3, 2] [1, 0] [IntKind.i64.wrap (a + b) = ((a + b) - 18446744073709551616), (decide (((a + b) - 18446744073709551616) < 0)) = true] ⟨i64_off (by omega) (by omega), decide_eq_true (by omega), trivial⟩ ?_
    refine en ?_
    refine an ?_
    refine ct ?_
    refine xw_exit ?_
    refine an_exit ?_
    refine ib_exit (by kernel_rfl) ?_
    refine ib_same ?_
    refine an ?_
    refine xw_seq ?_
    refine rgi [] 2 [5, 4, 3, 2] [1, 0] [] trivial ?_
    refine xw_ret ?_
    refine an_ret ?_
    refine ib_ret ?_
    refine an_ret ?_
    exact bs (.tup [.i 0, .f]) (Or.inr <| ⟨(by omega), rfl⟩)

theorem padd_1 (a b : Int) (hp0 : -9223372036854775808 ≤ a ∧ a ≤ 9223372036854775807) (hp1 : -9223372036854775808 ≤ b ∧ b ≤ 9223372036854775807) (hp2 : 0 ≤ a ∧ 0 ≤ b ∧ a + b ≤ 9223372036854775807) : Pub Try.prog 92 [.i a, .i b] (fun rv => rv = .tup [.i (a + b), .t]) := by
  refine (padd a b hp0 hp1).mono ?_
  rintro _ (⟨g0, rfl⟩ | ⟨g0, rfl⟩)
  all_goals first | rfl | (exfalso; first | omega | grind)

theorem padd_2 (a b : Int) (hp0 : -9223372036854775808 ≤ a ∧ a ≤ 9223372036854775807) (hp1 : -9223372036854775808 ≤ b ∧ b ≤ 9223372036854775807) (hp2 : ¬ (0 ≤ a ∧ 0 ≤ b ∧ a + b ≤ 9223372036854775807)) : Pub Try.prog 92 [.i a, .i b] (fun rv => rv = .tup [.i 0, .f]) := by
  refine (padd a b hp0 hp1).mono ?_
  rintro _ (⟨g0, rfl⟩ | ⟨g0, rfl⟩)
  all_goals first | rfl | (exfalso; first | omega | grind)

theorem fits (a n w : Int) (hp0 : -9223372036854775808 ≤ a ∧ a ≤ 9223372036854775807) (hp1 : -9223372036854775808 ≤ n ∧ n ≤ 9223372036854775807) (hp2 : -9223372036854775808 ≤ w ∧ w ≤ 9223372036854775807) : Pub Try.prog 85 [.i a, .i n, .i w] (fun rv => ((0 ≤ a ∧ 0 ≤ n ∧ a + n ≤ w) ∧ rv = .t) ∨ ((¬ (0 ≤ a ∧ 0 ≤ n ∧ a + n ≤ w)) ∧ rv = .f)) := by
 refine pub_of TT_ok Try.func85 rfl (by decide) (Nat.le_of_ble_eq_true (by kernel_rfl)) (by kernel_rfl) ?_
 refine rgi [] 1 [6, 0, 1, 2] [] [] trivial ?_
 refine xw_seq ?_
 refine reg ?_
 refine rki [] 2 0 [11, 10, 6, 2] [] [] trivial ?_
 by_cases h0 : 0 ≤ a ∧ 0 ≤ n ∧ a + n ≤ 9223372036854775807
 ·
  refine pc (padd_1 a n ‹_› ‹_› ‹_›) ?_
  refine rki [] 5 3 [8, 7, 6, 2] [] [] trivial ?_
  refine en ?_
  refine an ?_
  refine rg [(4, .bool (decide ((a + n) ≤ w)))] 7 ⟨[(6, .bool (decide ((a + n) ≤ w)))], [], 0⟩ [sm (decide ((a + n) ≤ w)), True] ⟨rfl, trivial, trivial⟩ ?_
  refine xw_ret ?_
  by_cases h1 : (a + n) ≤ w
  ·
   exact br (.bool (decide ((a + n) ≤ w))) (.t) (wkd [(decide ((a + n) ≤ w)) = true] (by kernel_rfl) ⟨(by first | exact decide_eq_true (by omega) | exact decide_eq_false (by omega) | (simp; done) | (simp; omega) | (simp_all; done) | (simp_all; omega) | grind), trivial⟩) (Or.inl <| ⟨(by omega), rfl⟩)
  ·
   exact br (.bool (decide ((a + n) ≤ w))) (.f) (wkd [(decide ((a + n) ≤ w)) = false] (by kernel_rfl) ⟨(by first | exact decide_eq_true (by omega) | exact decide_eq_false (by omega) | (simp; done) | (simp; omega) | (simp_all; done) | (simp_all; omega) | grind), trivial⟩) (Or.inr <| ⟨(by omega), rfl⟩)
 ·
  refine pc (padd_2 a n ‹_› ‹_› ‹_›) ?_
  refine rki [] 5 3 [8, 7, 6, 2] [] [] trivial ?_
  refine en ?_
  refine an ?_
  refine rg [] 7 ⟨[(6, .f)], [], 0⟩ [True] ⟨trivial, trivial⟩ ?_
  refine xw_ret ?_
  exact bs (.f) (Or.inr <| ⟨(by omega), rfl⟩)

theorem fits_1 (a n w : Int) (hp0 : -9223372036854775808 ≤ a ∧ a ≤ 9223372036854775807) (hp1 : -9223372036854775808 ≤ n ∧ n ≤ 9223372036854775807) (hp2 : -9223372036854775808 ≤ w ∧ w ≤ 9223372036854775807) (hp3 : 0 ≤ a ∧ 0 ≤ n ∧ a + n ≤ w) : Pub Try.prog 85 [.i a, .i n, .i w] (fun rv => rv = .t) := by
  refine (fits a n w hp0 hp1 hp2).mono ?_
  rintro _ (⟨g0, rfl⟩ | ⟨g0, rfl⟩)
  all_goals first | rfl | (exfalso; first | omega | grind)

theorem fits_2 (a n w : Int) (hp0 : -9223372036854775808 ≤ a ∧ a ≤ 9223372036854775807) (hp1 : -9223372036854775808 ≤ n ∧ n ≤ 9223372036854775807) (hp2 : -9223372036854775808 ≤ w ∧ w ≤ 9223372036854775807) (hp3 : ¬ (0 ≤ a ∧ 0 ≤ n ∧ a + n ≤ w)) : Pub Try.prog 85 [.i a, .i n, .i w] (fun rv => rv = .f) := by
  refine (fits a n w hp0 hp1 hp2).mono ?_
  rintro _ (⟨g0, rfl⟩ | ⟨g0, rfl⟩)
  all_goals first | rfl | (exfalso; first | omega | grind)

theorem hright_e (t l m : Int) (hp0 : -9223372036854775808 ≤ t ∧ t ≤ 9223372036854775807) (hp1 : -9223372036854775808 ≤ l ∧ l ≤ 9223372036854775807) (hp2 : 0 ≤ m ∧ m ≤ 18446744073709551615) : Pub Try.prog 47 [.agg [.i t, .i l, .u m]] (fun rv => rv = .i (headErr t l m)) := by
 refine pub_of TT_ok Try.func47 rfl (by decide) (Nat.le_of_ble_eq_true (by kernel_rfl)) (by kernel_rfl) ?_
 refine rgi [] 2 [2, 1] [0] [] trivial ?_
 refine rgi [(2, .bool (t == 255))] 5 [3, 2, 1] [1, 0] [True, sm (t == 255), True] ⟨trivial, rfl, trivial, trivial⟩ ?_
 refine rgi [] 2 [4, 3, 2, 1] [1, 0] [] trivial ?_
 refine rg [] 3 ⟨[(5, .i l), (4, .fn 57 [] [.p 1]), (3, .p 1), (2, .i 0), (1, .p 0)], [(1, .cells [.bool (t == 255)] 4), (0, .cells [.i t, .i l, .u m] 49)], 2⟩ [True] ⟨trivial, trivial⟩ ?_
 refine rgi [] 1 [6, 5, 4, 3, 2, 1] [1, 0] [] trivial ?_
 refine xw_seq ?_
 refine xw_block ?_
 refine xw_seq ?_
 refine xw_block ?_
 refine xw_seq ?_
 refine xw_block ?_
 refine xw_seq ?_
 refine xw_block ?_
 refine xw_seq ?_
 refine xw_block ?_
 refine xw_seq ?_
 refine xw_seq ?_
 refine xw_seq ?_
 refine reg ?_
 refine rki [] 3 0 [16, 6, 5, 4, 3, 2, 1] [1, 0] [True] ⟨trivial, trivial⟩ ?_
 refine splitr 16 (x := (!(t == 255))) (by kernel_rfl) (fun h0 => ?_) (fun h0 => ?_)
 ·
  replace h0 : t ≠ 255 := by first | (simp; done) | simpa using h0 | (simp at h0; omega)
  refine rki [(5, .bool (decide (t < 1)))] 4 3 [20, 16, 6, 5, 4, 3, 2, 1] [1, 0] [True, sm (decide (t < 1))] ⟨trivial, rfl, trivial⟩ ?_
  refine splitr 20 (x := (decide (t < 1))) (by kernel_rfl) (fun h1 => ?_) (fun h1 => ?_)
  ·
   replace h1 : t < 1 := of_decide_eq_true h1
   refine rk [] 11 7 ⟨[(13, .t), (6, .i 0), (5, .i l), (4, .fn 57 [] [.p 1]), (3, .p 1), (2, .i 0), (1, .p 0)], [(1, .cells [.bool (t == 255)] 4), (0, .cells [.i t, .i l, .u m] 49)], 2⟩ [True, True, True] ⟨trivial, trivial, trivial, trivial⟩ ?_
   refine en ?_
   refine an ?_
   refine ct ?_
   refine xw_exit ?_
   refine an_exit ?_
   refine an_exit ?_
   refine ib_same ?_
   refine an ?_
   refine xw_seq ?_
   refine rgi [] 1 [2, 6, 5, 1] [0] [] trivial ?_
   refine xw_ret ?_
   refine an_ret ?_
   refine ib_ret ?_
   refine an_ret ?_
   refine ib_ret ?_
   refine an_ret ?_
   refine ib_ret ?_
   refine an_ret ?_
   refine ib_ret ?_
   refine an_ret ?_
   exact br (.i 1) (.i (headErr t l m)) (wkd [(1 : Int) = (headErr t l m)] (by kernel_rfl) ⟨(by have hz := @shr_zero l m; simp only [headErr]; first | (simp_all; done) | (simp_all; omega) | grind), trivial⟩) rfl
  ·
   replace h1 : ¬ (t < 1) := of_decide_eq_false h1
   refine rk [(9, .bool (decide (200 < t)))] 6 7 ⟨[(26, .bool (decide (200 < t))), (6, .i 0), (5, .i l), (4, .fn 57 [] [.p 1]), (3, .p 1), (2, .i 0), (1, .p 0)], [(1, .cells [.bool (t == 255)] 4), (0, .cells [.i t, .i l, .u m] 49)], 2⟩ [True, sm (decide (200 < t)), True, True] ⟨trivial, rfl, trivial, trivial, trivial⟩ ?_
   refine splitr 26 (x := (decide (200 < t))) (by kernel_rfl) (fun h2 => ?_) (fun h2 => ?_)
   ·
    replace h2 : 200 < t := of_decide_eq_true h2
    refine rki [] 5 13 [13, 6, 5, 4, 3, 2, 1] [1, 0] [True] ⟨trivial, trivial⟩ ?_
    refine en ?_
    refine an ?_
    refine ct ?_
    refine xw_exit ?_
    refine an_exit ?_
    refine an_exit ?_
    refine ib_same ?_
    refine an ?_
    refine xw_seq ?_
    refine rgi [] 1 [2, 6, 5, 1] [0] [] trivial ?_
    refine xw_ret ?_
    refine an_ret ?_
    refine ib_ret ?_
    refine an_ret ?_
    refine ib_ret ?_
    refine an_ret ?_
    refine ib_ret ?_
    refine an_ret ?_
    refine ib_ret ?_
    refine an_ret ?_
    exact br (.i 1) (.i (headErr t l m)) (wkd [(1 : Int) = (headErr t l m)] (by kernel_rfl) ⟨(by have hz := @shr_zero l m; simp only [headErr]; first | (simp_all; done) | (simp_all; omega) | grind), trivial⟩) rfl
   ·
    replace h2 : ¬ (200 < t) := of_decide_eq_false h2
    refine rki [(15, .bool (decide (l < 0)))] 5 13 [13, 6, 5, 4, 3, 2, 1] [1, 0] [True, sm (decide (l < 0)), True] ⟨trivial, rfl, trivial, trivial⟩ ?_
    refine en ?_
    refine an ?_
    refine xw_cond (b := (decide (l < 0))) (by kernel_rfl) (fun h3 => ?_) (fun h3 => ?_)
    ·
     replace h3 : l < 0 := of_decide_eq_true h3
     refine xw_exit ?_
     refine an_exit ?_
     refine an_exit ?_
     refine ib_same ?_
     refine an ?_
     refine xw_seq ?_
     refine rgi [] 1 [2, 6, 5, 1] [0] [] trivial ?_
     refine xw_ret ?_
     refine an_ret ?_
     refine ib_ret ?_
     refine an_ret ?_
     refine ib_ret ?_
     refine an_ret ?_
     refine ib_ret ?_
     refine an_ret ?_
     refine ib_ret ?_
     refine an_ret ?_
     exact br (.i 1) (.i (headErr t l m)) (wkd [(1 : Int) = (headErr t l m)] (by kernel_rfl) ⟨(by have hz := @shr_zero l m; simp only [headErr]; first | (simp_all; done) | (simp_all; omega) | grind), trivial⟩) rfl
    ·
     replace h3 : ¬ (l < 0) := of_decide_eq_false h3
     refine xw_skip ?_
     refine an ?_
     refine xw_seq ?_
     refine xw_seq ?_
     refine dregk hmix (by kernel_rfl) ?_
     refine qri [] 3 0 [True] ⟨trivial, trivial⟩ ?_
     refine qinl (f := 57) (args := [.p 1]) (d := (some 35)) (sv := .i 16) (by kernel_rfl) (xcall_of TT_ok Try.func57 rfl (by decide) (Nat.le_of_ble_eq_true (by kernel_rfl)) ?_) ?_
     ·
      refine rgi [] 1 [1, 0] [1, 0] [] trivial ?_
      refine xw_seq ?_
      refine rg [] 1 ⟨[(2, .bool (t == 255)), (1, .i 0)], [(1, .cells [.bool (t == 255)] 4), (0, .cells [.i t, .i l, .u m] 49)], 2⟩ [True] ⟨trivial, trivial⟩ ?_
      refine xw_cond (b := (t == 255)) (by kernel_rfl) (fun h4 => ?_) (fun h4 => ?_)
      ·
       replace h4 : t = 255 := eq_of_beq h4
       exfalso; first | omega | (simp_all; done) | (simp_all; omega) | grind
      ·
       replace h4 : t ≠ 255 := ne_of_beq_false h4
       refine xw_skip ?_
       refine an ?_
       refine rgi [] 1 [1] [1, 0] [] trivial ?_
       refine xw_ret ?_
       exact ⟨.i 16, by kernel_rfl, rfl, rfl, rfl⟩
     ·
      refine qri [(4, .bool (decide (16 < l)))] 2 4 [sm (decide (16 < l))] ⟨rfl, trivial⟩ ?_
      refine qen ?_
      refine an ?_
      refine xw_cond (b := (decide (16 < l))) (by kernel_rfl) (fun h4 => ?_) (fun h4 => ?_)
      ·
       replace h4 : 16 < l := of_decide_eq_true h4
       refine xw_exit ?_
       refine an_exit ?_
       refine an_exit ?_
       refine ib_exit (by kernel_rfl) ?_
       refine an_exit ?_
       refine ib_same ?_
       refine an ?_
       refine xw_seq ?_
       refine rg [] 1 ⟨[(2, .i 3), (6, .i 0), (5, .i l), (1, .p 0)], [(0, .cells [.i t, .i l, .u m] 49)], 2⟩ [] trivial ?_
       refine xw_ret ?_
       refine an_ret ?_
       refine ib_ret ?_
       refine an_ret ?_
       refine ib_ret ?_
       refine an_ret ?_
       refine ib_ret ?_
       refine an_ret ?_
       exact br (.i 3) (.i (headErr t l m)) (wkd [(3 : Int) = (headErr t l m)] (by kernel_rfl) ⟨(by have hz := @shr_zero l m; simp only [headErr]; first | (simp_all; done) | (simp_all; omega) | grind), trivial⟩) rfl
      ·
       replace h4 : ¬ (16 < l) := of_decide_eq_false h4
       refine xw_skip ?_
       refine an ?_
       refine rg [] 2 ⟨[(37, .bool (t == 255)), (6, .i 0), (5, .i l), (2, .i 0), (1, .p 0)], [(0, .cells [.i t, .i l, .u m] 49)], 2⟩ [True] ⟨trivial, trivial⟩ ?_
       refine xw_cond (b := (t == 255)) (by kernel_rfl) (fun h5 => ?_) (fun h5 => ?_)
       ·
        replace h5 : t = 255 := eq_of_beq h5
        exfalso; first | omega | (simp_all; done) | (simp_all; omega) | grind
       ·
        replace h5 : t ≠ 255 := ne_of_beq_false h5
        refine xw_skip ?_
        refine an ?_
        refine xw_exit ?_
        refine ib_exit (by kernel_rfl) ?_
        refine an_exit ?_
        refine ib_exit (by kernel_rfl) ?_
        refine an_exit ?_
        refine ib_exit (by kernel_rfl) ?_
        refine an_exit ?_
        refine ib_same ?_
        refine an ?_
        refine xw_seq ?_
        refine xw_seq ?_
        refine reg ?_
        refine rki [(3, .i (m.fdiv (2 ^ min (l : Int).toNat IntKind.u64.bits)))] 4 0 [42, 6, 2] [] [True, (0 : Int) ≤ l ∧ (m.fdiv (2 ^ min (l : Int).toNat IntKind.u64.bits)) = (m.fdiv (2 ^ min (l : Int).toNat IntKind.u64.bits))] ⟨trivial, ⟨by omega, rfl⟩, trivial⟩ ?_
        have h6 : 0 ≤ (m.fdiv (2 ^ min (l : Int).toNat IntKind.u64.bits)) ∧ (m.fdiv (2 ^ min (l : Int).toNat IntKind.u64.bits)) ≤ m := shr_le (by omega)
        refine rki [(4, .bool ((m.fdiv (2 ^ min (l : Int).toNat IntKind.u64.bits)) != 0))] 1 4 [43, 6, 2] [] [sm ((m.fdiv (2 ^ min (l : Int).toNat IntKind.u64.bits)) != 0)] ⟨rfl, trivial⟩ ?_
        refine en ?_
        refine an ?_
        refine xw_cond (b := ((m.fdiv (2 ^ min (l : Int).toNat IntKind.u64.bits)) != 0)) (by kernel_rfl) (fun h7 => ?_) (fun h7 => ?_)
        ·
         replace h7 : (m.fdiv (2 ^ min (l : Int).toNat IntKind.u64.bits)) ≠ 0 := bne_iff_ne.1 h7
         refine rei [] 1 [6, 2] [] [] trivial ?_
         refine an ?_
         refine xw_exit ?_
         refine ib_same ?_
         refine an ?_
         refine rg [] 2 ⟨[(2, .i 8)], [], 2⟩ [] trivial ?_
         refine xw_ret ?_
         exact br (.i 8) (.i (headErr t l m)) (wkd [(8 : Int) = (headErr t l m)] (by kernel_rfl) ⟨(by have hz := @shr_zero l m; simp only [headErr]; first | (simp_all; done) | (simp_all; omega) | grind), trivial⟩) rfl
        ·
         replace h7 : (m.fdiv (2 ^ min (l : Int).toNat IntKind.u64.bits)) = 0 := bne_eq_false_iff_eq.1 h7
         refine xw_skip ?_
         refine an ?_
         refine xw_exit ?_
         refine ib_same ?_
         refine an ?_
         refine rgi [] 2 [2] [] [] trivial ?_
         refine xw_ret ?_
         exact br (.i 0) (.i (headErr t l m)) (wkd [(0 : Int) = (headErr t l m)] (by kernel_rfl) ⟨(by have hz := @shr_zero l m; simp only [headErr]; first | (simp_all; done) | (simp_all; omega) | grind), trivial⟩) rfl
 ·
  replace h0 : t = 255 := by first | (simp; done) | simpa using h0
  refine rki [(15, .bool (decide (l < 0)))] 15 3 [13, 6, 5, 4, 3, 2, 1] [1, 0] [True, True, sm (decide (l < 0)), True] ⟨trivial, trivial, rfl, trivial, trivial⟩ ?_
  refine en ?_
  refine an ?_
  refine xw_cond (b := (decide (l < 0))) (by kernel_rfl) (fun h1 => ?_) (fun h1 => ?_)
  ·
   replace h1 : l < 0 := of_decide_eq_true h1
   refine xw_exit ?_
   refine an_exit ?_
   refine an_exit ?_
   refine ib_same ?_
   refine an ?_
   refine xw_seq ?_
   refine rg [] 1 ⟨[(2, .i 1), (6, .i 0), (5, .i l), (1, .p 0)], [(0, .cells [.i t, .i l, .u m] 49)], 2⟩ [] trivial ?_
   refine xw_ret ?_
   refine an_ret ?_
   refine ib_ret ?_
   refine an_ret ?_
   refine ib_ret ?_
   refine an_ret ?_
   refine ib_ret ?_
   refine an_ret ?_
   refine ib_ret ?_
   refine an_ret ?_
   exact br (.i 1) (.i (headErr t l m)) (wkd [(1 : Int) = (headErr t l m)] (by kernel_rfl) ⟨(by have hz := @shr_zero l m; simp only [headErr]; first | (simp_all; done) | (simp_all; omega) | grind), trivial⟩) rfl
  ·
   replace h1 : ¬ (l < 0) := of_decide_eq_false h1
   refine xw_skip ?_
   refine an ?_
   refine xw_seq ?_
   refine xw_seq ?_
   refine dregk hmix (by kernel_rfl) ?_
   refine qri [] 3 0 [True] ⟨trivial, trivial⟩ ?_
   refine qinl (f := 57) (args := [.p 1]) (d := (some 35)) (sv := .i 65535) (by kernel_rfl) (xcall_of TT_ok Try.func57 rfl (by decide) (Nat.le_of_ble_eq_true (by kernel_rfl)) ?_) ?_
   ·
    refine rg [] 1 ⟨[(1, .i 0), (0, .p 1)], [(1, .cells [.bool (t == 255)] 4), (0, .cells [.i t, .i l, .u m] 49)], 2⟩ [] trivial ?_
    refine xw_seq ?_
    refine rgi [] 1 [2, 1] [1, 0] [True] ⟨trivial, trivial⟩ ?_
    refine xw_cond (b := (t == 255)) (by kernel_rfl) (fun h2 => ?_) (fun h2 => ?_)
    ·
     replace h2 : t = 255 := eq_of_beq h2
     refine rgi [] 1 [1] [1, 0] [] trivial ?_
     refine xw_ret ?_
     refine an_ret ?_
     exact ⟨.i 65535, by kernel_rfl, rfl, rfl, rfl⟩
    ·
     replace h2 : t ≠ 255 := ne_of_beq_false h2
     exfalso; first | omega | (simp_all; done) | (simp_all; omega) | grind
   ·
    refine qri [(4, .bool (decide (65535 < l)))] 2 4 [sm (decide (65535 < l))] ⟨rfl, trivial⟩ ?_
    refine qen ?_
    refine an ?_
    refine xw_cond (b := (decide (65535 < l))) (by kernel_rfl) (fun h2 => ?_) (fun h2 => ?_)
    ·
     replace h2 : 65535 < l := of_decide_eq_true h2
     refine xw_exit ?_
     refine an_exit ?_
     refine an_exit ?_
     refine ib_exit (by kernel_rfl) ?_
     refine an_exit ?_
     refine ib_same ?_
     refine an ?_
     refine xw_seq ?_
     refine rg [] 1 ⟨[(2, .i 3), (6, .i 0), (5, .i l), (1, .p 0)], [(0, .cells [.i t, .i l, .u m] 49)], 2⟩ [] trivial ?_
     refine xw_ret ?_
     refine an_ret ?_
     refine ib_ret ?_
     refine an_ret ?_
     refine ib_ret ?_
     refine an_ret ?_
     refine ib_ret ?_
     refine an_ret ?_
     exact br (.i 3) (.i (headErr t l m)) (wkd [(3 : Int) = (headErr t l m)] (by kernel_rfl) ⟨(by have hz := @shr_zero l m; simp only [headErr]; first | (simp_all; done) | (simp_all; omega) | grind), trivial⟩) rfl
    ·
     replace h2 : ¬ (65535 < l) := of_decide_eq_false h2
     refine xw_skip ?_
     refine an ?_
     refine rg [] 2 ⟨[(37, .bool (t == 255)), (6, .i 0), (5, .i l), (2, .i 0), (1, .p 0)], [(0, .cells [.i t, .i l, .u m] 49)], 2⟩ [True] ⟨trivial, trivial⟩ ?_
     refine xw_cond (b := (t == 255)) (by kernel_rfl) (fun h3 => ?_) (fun h3 => ?_)
     ·
      replace h3 : t = 255 := eq_of_beq h3
      refine xw_exit ?_
      refine an_exit ?_
      refine ib_exit (by kernel_rfl) ?_
      refine an_exit ?_
      refine ib_exit (by kernel_rfl) ?_
      refine an_exit ?_
      refine ib_same ?_
      refine an ?_
      refine rei [] 1 [5, 6, 2, 1] [0] [] trivial ?_
      refine ib ?_
      refine an ?_
      refine xw_seq ?_
      refine rgi [(3, .i (m / 1)), (4, .bool ((m / 1) != 0))] 5 [43, 6, 2] [] [True, (0 : Int) ≤ 0 ∧ m.fdiv (2 ^ min (0 : Int).toNat IntKind.u64.bits) = (m / 1), sm ((m / 1) != 0)] ⟨trivial, ⟨by omega, shr_eq rfl⟩, rfl, trivial⟩ ?_
      refine xw_cond (b := ((m / 1) != 0)) (by kernel_rfl) (fun h4 => ?_) (fun h4 => ?_)
      ·
       replace h4 : (m / 1) ≠ 0 := bne_iff_ne.1 h4
       refine rei [] 1 [6, 2] [] [] trivial ?_
       refine an ?_
       refine xw_exit ?_
       refine ib_same ?_
       refine an ?_
       refine rg [] 2 ⟨[(2, .i 8)], [], 2⟩ [] trivial ?_
       refine xw_ret ?_
       exact br (.i 8) (.i (headErr t l m)) (wkd [(8 : Int) = (headErr t l m)] (by kernel_rfl) ⟨(by have hz := @shr_zero l m; simp only [headErr]; first | (simp_all; done) | (simp_all; omega) | grind), trivial⟩) rfl
      ·
       replace h4 : (m / 1) = 0 := bne_eq_false_iff_eq.1 h4
       refine xw_skip ?_
       refine an ?_
       refine xw_exit ?_
       refine ib_same ?_
       refine an ?_
       refine rgi [] 2 [2] [] [] trivial ?_
       refine xw_ret ?_
       exact br (.i 0) (.i (headErr t l m)) (wkd [(0 : Int) = (headErr t l m)] (by kernel_rfl) ⟨(by have hz := @shr_zero l m; simp only [headErr]; first | (simp_all; done) | (simp_all; omega) | grind), trivial⟩) rfl
     ·
      replace h3 : t ≠ 255 := ne_of_beq_false h3
      exfalso; first | omega | (simp_all; done) | (simp_all; omega) | grind

theorem hright (t l m : Int) (hp0 : -9223372036854775808 ≤ t ∧ t ≤ 9223372036854775807) (hp1 : -9223372036854775808 ≤ l ∧ l ≤ 9223372036854775807) (hp2 : 0 ≤ m ∧ m ≤ 18446744073709551615) : Pub Try.prog 47 [.agg [.i t, .i l, .u m]] (fun rv => (((t = 255 ∧ 0 ≤ l ∧ l ≤ 65535 ∧ m = 0) ∨ (1 ≤ t ∧ t ≤ 200 ∧ 0 ≤ l ∧ l ≤ 16 ∧ m < 2 ^ (Int.toNat l) ∧ m < 65536)) ∧ rv = .i 0) ∨ ((¬ ((t = 255 ∧ 0 ≤ l ∧ l ≤ 65535 ∧ m = 0) ∨ (1 ≤ t ∧ t ≤ 200 ∧ 0 ≤ l ∧ l ≤ 16 ∧ m < 2 ^ (Int.toNat l) ∧ m < 65536))) ∧ rv = .i (headErr t l m))) :=
  (hright_e t l m hp0 hp1 hp2).mono fun rv h => by
    rcases headErr_cases t l m hp2.1 with ⟨h1, h2⟩ | ⟨h1, h2⟩
    · exact .inl ⟨h1, by rw [h, h2]⟩
    · exact .inr ⟨h1, h⟩

theorem hright_1 (t l m : Int) (hp0 : -9223372036854775808 ≤ t ∧ t ≤ 9223372036854775807) (hp1 : -9223372036854775808 ≤ l ∧ l ≤ 9223372036854775807) (hp2 : 0 ≤ m ∧ m ≤ 18446744073709551615) (hp3 : (t = 255 ∧ 0 ≤ l ∧ l ≤ 65535 ∧ m = 0) ∨ (1 ≤ t ∧ t ≤ 200 ∧ 0 ≤ l ∧ l ≤ 16 ∧ m < 2 ^ (Int.toNat l) ∧ m < 65536)) : Pub Try.prog 47 [.agg [.i t, .i l, .u m]] (fun rv => rv = .i 0) := by
  refine (hright t l m hp0 hp1 hp2).mono ?_
  rintro _ (⟨g0, rfl⟩ | ⟨g0, rfl⟩)
  all_goals first | rfl | (exfalso; first | omega | grind)

theorem hright_2 (t l m : Int) (hp0 : -9223372036854775808 ≤ t ∧ t ≤ 9223372036854775807) (hp1 : -9223372036854775808 ≤ l ∧ l ≤ 9223372036854775807) (hp2 : 0 ≤ m ∧ m ≤ 18446744073709551615) (hp3 : ¬ ((t = 255 ∧ 0 ≤ l ∧ l ≤ 65535 ∧ m = 0) ∨ (1 ≤ t ∧ t ≤ 200 ∧ 0 ≤ l ∧ l ≤ 16 ∧ m < 2 ^ (Int.toNat l) ∧ m < 65536))) : Pub Try.prog 47 [.agg [.i t, .i l, .u m]] (fun rv => rv = .i (headErr t l m)) := by
  refine (hright t l m hp0 hp1 hp2).mono ?_
  rintro _ (⟨g0, rfl⟩ | ⟨g0, rfl⟩)
  all_goals first | rfl | (exfalso; first | omega | grind)

theorem pobject (l : Int) (hp0 : -9223372036854775808 ≤ l ∧ l ≤ 9223372036854775807) : Pub Try.prog 77 [.i l] (fun rv => ((l < 0) ∧ rv = .tup [.i 0, .i 1]) ∨ ((16 < l) ∧ rv = .tup [.i 0, .i 3]) ∨ ((0 ≤ l) ∧ (l ≤ 16) ∧ rv = .tup [.i (l + 2), .i 0])) := by
 refine pub_of TT_ok Try.func77 rfl (by decide) (Nat.le_of_ble_eq_true (by kernel_rfl)) (by kernel_rfl) ?_
 refine rgi [] 2 [3, 2, 0] [] [] trivial ?_
 refine xw_seq ?_
 refine xw_block ?_
 refine rgi [(1, .bool (decide (l < 0)))] 3 [4, 3, 2, 0] [] [sm (decide (l < 0))] ⟨rfl, trivial⟩ ?_
 refine xw_cond (b := (decide (l < 0))) (by kernel_rfl) (fun h0 => ?_) (fun h0 => ?_)
 ·
  replace h0 : l < 0 := of_decide_eq_true h0
  refine rgi [] 2 [3, 2, 0] [] [] trivial ?_
  refine xw_ret ?_
  refine ib_ret ?_
  refine an_ret ?_
  exact bs (.tup [.i 0, .i 1]) (Or.inl <| ⟨(by omega), rfl⟩)
 ·
  replace h0 : ¬ (l < 0) := of_decide_eq_false h0
  refine rgi [(1, .bool (decide (16 < l)))] 3 [7, 3, 2, 0] [] [sm (decide (16 < l))] ⟨rfl, trivial⟩ ?_
  refine xw_cond (b := (decide (16 < l))) (by kernel_rfl) (fun h1 => ?_) (fun h1 => ?_)
  ·
   replace h1 : 16 < l := of_decide_eq_true h1
   refine rg [] 2 ⟨[(3, .i 3), (2, .i 0), (0, .i l)], [], 0⟩ [] trivial ?_
   refine xw_ret ?_
   refine ib_ret ?_
   refine an_ret ?_
   exact bs (.tup [.i 0, .i 3]) (Or.inr <| Or.inl <| ⟨(by omega), rfl⟩)
  ·
   replace h1 : ¬ (16 < l) := of_decide_eq_false h1
   refine xw_skip ?_
   refine ib ?_
   refine an ?_
   refine rg [(1, .i (l + 2))] 4 ⟨[(3, .i 0), (2, .i (l + 2))], [], 0⟩ [IntKind.i64.wrap (l + 2) = (l + 2)] ⟨i64_eq (by omega) (by omega), trivial⟩ ?_
   refine xw_ret ?_
   exact bs (.tup [.i (l + 2), .i 0]) (Or.inr <| Or.inr <| ⟨(by omega), (by omega), rfl⟩)

theorem pobject_3 (l : Int) (hp0 : -9223372036854775808 ≤ l ∧ l ≤ 9223372036854775807) (hp1 : 0 ≤ l) (hp2 : l ≤ 16) : Pub Try.prog 77 [.i l] (fun rv => rv = .tup [.i (l + 2), .i 0]) := by
  refine (pobject l hp0).mono ?_
  rintro _ (⟨g0, rfl⟩ | ⟨g0, rfl⟩ | ⟨g0, g1, rfl⟩)
  all_goals first | rfl | (exfalso; first | omega | grind)

theorem hwords (t l m : Int) (hp0 : -9223372036854775808 ≤ t ∧ t ≤ 9223372036854775807) (hp1 : -9223372036854775808 ≤ l ∧ l ≤ 9223372036854775807) (hp2 : 0 ≤ m ∧ m ≤ 18446744073709551615) (hp3 : 0 ≤ l ∧ l ≤ 65535 ∧ (t = 255 ∨ l ≤ 16)) : Pub Try.prog 58 [.agg [.i t, .i l, .u m]] (fun rv => ((t = 255) ∧ rv = .i (l + 1)) ∨ ((¬ (t = 255)) ∧ rv = .i (l + 2))) := by
 refine pub_of TT_ok Try.func58 rfl (by decide) (Nat.le_of_ble_eq_true (by kernel_rfl)) (by kernel_rfl) ?_
 refine rgi [] 2 [2, 1] [0] [] trivial ?_
 refine xw_seq ?_
 refine rgi [(2, .bool (t == 255))] 3 [7, 2, 1] [0] [True, sm (t == 255)] ⟨trivial, rfl, trivial⟩ ?_
 refine xw_cond (b := (t == 255)) (by kernel_rfl) (fun h0 => ?_) (fun h0 => ?_)
 ·
  replace h0 : t = 255 := eq_of_beq h0
  refine rgi [(2, .i (l + 1))] 4 [2, 1] [0] [True, IntKind.i64.wrap (l + 1) = (l + 1)] ⟨trivial, i64_eq (by omega) (by omega), trivial⟩ ?_
  refine xw_ret ?_
  refine an_ret ?_
  exact bs (.i (l + 1)) (Or.inl <| ⟨(by omega), rfl⟩)
 ·
  replace h0 : t ≠ 255 := ne_of_beq_false h0
  refine xw_skip ?_
  refine an ?_
  refine xw_seq ?_
  refine reg ?_
  refine rki [] 2 0 [13, 2] [] [True] ⟨trivial, trivial⟩ ?_
  refine pc (pobject_3 l ‹_› (by omega) (by omega)) ?_
  refine rk [] 5 3 ⟨[(3, .i (l + 2)), (2, .i 0)], [], 1⟩ [] trivial ?_
  refine en ?_
  refine an ?_
  refine rgi [] 2 [2] [] [] trivial ?_
  refine xw_ret ?_
  exact bs (.i (l + 2)) (Or.inr <| ⟨(by omega), rfl⟩)

theorem hwords_1 (t l m : Int) (hp0 : -9223372036854775808 ≤ t ∧ t ≤ 9223372036854775807) (hp1 : -9223372036854775808 ≤ l ∧ l ≤ 9223372036854775807) (hp2 : 0 ≤ m ∧ m ≤ 18446744073709551615) (hp3 : 0 ≤ l ∧ l ≤ 65535 ∧ (t = 255 ∨ l ≤ 16)) (hp4 : t = 255) : Pub Try.prog 58 [.agg [.i t, .i l, .u m]] (fun rv => rv = .i (l + 1)) := by
  refine (hwords t l m hp0 hp1 hp2 hp3).mono ?_
  rintro _ (⟨g0, rfl⟩ | ⟨g0, rfl⟩)
  all_goals first | rfl | (exfalso; first | omega | grind)

theorem hwords_2 (t l m : Int) (hp0 : -9223372036854775808 ≤ t ∧ t ≤ 9223372036854775807) (hp1 : -9223372036854775808 ≤ l ∧ l ≤ 9223372036854775807) (hp2 : 0 ≤ m ∧ m ≤ 18446744073709551615) (hp3 : 0 ≤ l ∧ l ≤ 65535 ∧ (t = 255 ∨ l ≤ 16)) (hp4 : ¬ (t = 255)) : Pub Try.prog 58 [.agg [.i t, .i l, .u m]] (fun rv => rv = .i (l + 2)) := by
  refine (hwords t l m hp0 hp1 hp2 hp3).mono ?_
  rintro _ (⟨g0, rfl⟩ | ⟨g0, rfl⟩)
  all_goals first | rfl | (exfalso; first | omega | grind)

theorem hword (t l m : Int) (hp0 : -9223372036854775808 ≤ t ∧ t ≤ 9223372036854775807) (hp1 : -9223372036854775808 ≤ l ∧ l ≤ 9223372036854775807) (hp2 : 0 ≤ m ∧ m ≤ 18446744073709551615) : Pub Try.prog 78 [.agg [.i t, .i l, .u m]] (fun rv => (((t = 255 ∧ 0 ≤ l ∧ l ≤ 65535 ∧ m = 0) ∨ (1 ≤ t ∧ t ≤ 200 ∧ 0 ≤ l ∧ l ≤ 16 ∧ m < 2 ^ (Int.toNat l) ∧ m < 65536)) ∧ rv = .tup [.u (t * 72057594037927936 + l * 4294967296 + m), .i 0]) ∨ ((¬ ((t = 255 ∧ 0 ≤ l ∧ l ≤ 65535 ∧ m = 0) ∨ (1 ≤ t ∧ t ≤ 200 ∧ 0 ≤ l ∧ l ≤ 16 ∧ m < 2 ^ (Int.toNat l) ∧ m < 65536))) ∧ rv = .tup [.u 0, .i (headErr t l m)])) := by
 refine pub_of TT_ok Try.func78 rfl (by decide) (Nat.le_of_ble_eq_true (by kernel_rfl)) (by kernel_rfl) ?_
 refine rgi [] 3 [3, 2, 1] [0] [] trivial ?_
 refine xw_seq ?_
 refine xw_seq ?_
 refine reg ?_
 refine rki [] 1 0 [5, 3, 2, 1] [0] [True] ⟨trivial, trivial⟩ ?_
 by_cases h0 : (t = 255 ∧ 0 ≤ l ∧ l ≤ 65535 ∧ m = 0) ∨ (1 ≤ t ∧ t ≤ 200 ∧ 0 ≤ l ∧ l ≤ 16 ∧ m < 2 ^ (Int.toNat l) ∧ m < 65536)
 ·
  refine pc (hright_1 t l m ‹_› ‹_› ‹_› ‹_›) ?_
  refine rki [] 1 2 [4, 3, 2, 1] [0] [] trivial ?_
  refine en ?_
  refine an ?_
  refine rg [(1, .f)] 2 ⟨[(8, .f), (4, .i 0), (3, .i 0), (2, .u 0), (1, .p 0)], [(0, .cells [.i t, .i l, .u m] 49)], 1⟩ [(0 != 0) = false] ⟨bne_eq_false_iff_eq.2 (by omega), trivial⟩ ?_
  refine cf ?_
  refine xw_skip ?_
  refine an ?_
  refine rgi [(2, .i t), (3, .i (t * 72057594037927936)), (6, .i l), (7, .i (l * 4294967296)), (8, .i ((t * 72057594037927936) + (l * 4294967296))), (11, .i (((t * 72057594037927936) + (l * 4294967296)) + m))] 14 [3, 2] [] [True, IntKind.u64.wrap t = t, (0 : Int) ≤ 56 ∧ IntKind.u64.wrap (t * 2 ^ min (56 : Int).toNat IntKind.u64.bits) = (t * 72057594037927936), True, IntKind.u64.wrap l = l, (0 : Int) ≤ 32 ∧ IntKind.u64.wrap (l * 2 ^ min (32 : Int).toNat IntKind.u64.bits) = (l * 4294967296), IntKind.u64.wrap (BitVec.ofInt 64 (t * 72057594037927936) ||| BitVec.ofInt 64 (l * 4294967296)).toNat = ((t * 72057594037927936) + (l * 4294967296)), True, IntKind.u64.wrap (BitVec.ofInt 64 ((t * 72057594037927936) + (l * 4294967296)) ||| BitVec.ofInt 64 m).toNat = (((t * 72057594037927936) + (l * 4294967296)) + m)] ⟨trivial, u64_in (by omega), ⟨by omega, u64_eq rfl (by omega)⟩, trivial, u64_in (by omega), ⟨by omega, u64_eq rfl (by omega)⟩, or_eq2 (q := (t * 256)) 48 281474976710656 rfl (by omega) (by omega) (by omega) (by omega) (by omega), trivial, or_eq2 (q := (l * 65536 + t * 1099511627776)) 16 65536 rfl (by omega) (by omega) (by omega) (by omega) (by omega), trivial⟩ ?_
  refine xw_ret ?_
  exact br (.tup [.u (((t * 72057594037927936) + (l * 4294967296)) + m), .i 0]) (.tup [.u (t * 72057594037927936 + l * 4294967296 + m), .i 0]) (wkd [((((t * 72057594037927936) + (l * 4294967296)) + m) : Int) = (t * 72057594037927936 + l * 4294967296 + m), (0 : Int) = 0] (by kernel_rfl) ⟨(by omega), rfl, trivial⟩) (Or.inl <| ⟨(by omega), rfl⟩)
 ·
  refine pc (hright_2 t l m ‹_› ‹_› ‹_› ‹_›) ?_
  have h1 : (headErr t l m) ≠ 0 := headErr_ne (by omega) (by omega)
  refine rki [] 1 2 [4, 3, 2, 1] [0] [] trivial ?_
  refine en ?_
  refine an ?_
  refine rg [(1, .t)] 2 ⟨[(8, .t), (4, .i (headErr t l m)), (3, .i 0), (2, .u 0), (1, .p 0)], [(0, .cells [.i t, .i l, .u m] 49)], 1⟩ [((headErr t l m) != 0) = true] ⟨bne_iff_ne.2 (by omega), trivial⟩ ?_
  refine ct ?_
  refine rgi [] 3 [3, 2, 1] [0] [] trivial ?_
  refine xw_ret ?_
  refine an_ret ?_
  exact bs (.tup [.u 0, .i (headErr t l m)]) (Or.inr <| ⟨(by omega), rfl⟩)

theorem hword_1 (t l m : Int) (hp0 : -9223372036854775808 ≤ t ∧ t ≤ 9223372036854775807) (hp1 : -9223372036854775808 ≤ l ∧ l ≤ 9223372036854775807) (hp2 : 0 ≤ m ∧ m ≤ 18446744073709551615) (hp3 : (t = 255 ∧ 0 ≤ l ∧ l ≤ 65535 ∧ m = 0) ∨ (1 ≤ t ∧ t ≤ 200 ∧ 0 ≤ l ∧ l ≤ 16 ∧ m < 2 ^ (Int.toNat l) ∧ m < 65536)) : Pub Try.prog 78 [.agg [.i t, .i l, .u m]] (fun rv => rv = .tup [.u (t * 72057594037927936 + l * 4294967296 + m), .i 0]) := by
  refine (hword t l m hp0 hp1 hp2).mono ?_
  rintro _ (⟨g0, rfl⟩ | ⟨g0, rfl⟩)
  all_goals first | rfl | (exfalso; first | omega | grind)

theorem hword_2 (t l m : Int) (hp0 : -9223372036854775808 ≤ t ∧ t ≤ 9223372036854775807) (hp1 : -9223372036854775808 ≤ l ∧ l ≤ 9223372036854775807) (hp2 : 0 ≤ m ∧ m ≤ 18446744073709551615) (hp3 : ¬ ((t = 255 ∧ 0 ≤ l ∧ l ≤ 65535 ∧ m = 0) ∨ (1 ≤ t ∧ t ≤ 200 ∧ 0 ≤ l ∧ l ≤ 16 ∧ m < 2 ^ (Int.toNat l) ∧ m < 65536))) : Pub Try.prog 78 [.agg [.i t, .i l, .u m]] (fun rv => rv = .tup [.u 0, .i (headErr t l m)]) := by
  refine (hword t l m hp0 hp1 hp2).mono ?_
  rintro _ (⟨g0, rfl⟩ | ⟨g0, rfl⟩)
  all_goals first | rfl | (exfalso; first | omega | grind)

theorem htake (w : Int) (hp0 : 0 ≤ w ∧ w ≤ 18446744073709551615) : Pub Try.prog 70 [.u w] (fun rv => ((((w / 72057594037927936) = 255 ∧ 0 ≤ ((w / 4294967296) % 16777216) ∧ ((w / 4294967296) % 16777216) ≤ 65535 ∧ (w % 4294967296) = 0) ∨ (1 ≤ (w / 72057594037927936) ∧ (w / 72057594037927936) ≤ 200 ∧ 0 ≤ ((w / 4294967296) % 16777216) ∧ ((w / 4294967296) % 16777216) ≤ 16 ∧ (w % 4294967296) < 2 ^ (Int.toNat ((w / 4294967296) % 16777216)) ∧ (w % 4294967296) < 65536)) ∧ rv = .tup [.agg [.i (w / 72057594037927936), .i ((w / 4294967296) % 16777216), .u (w % 4294967296)], .i 0]) ∨ ((¬ (((w / 72057594037927936) = 255 ∧ 0 ≤ ((w / 4294967296) % 16777216) ∧ ((w / 4294967296) % 16777216) ≤ 65535 ∧ (w % 4294967296) = 0) ∨ (1 ≤ (w / 72057594037927936) ∧ (w / 72057594037927936) ≤ 200 ∧ 0 ≤ ((w / 4294967296) % 16777216) ∧ ((w / 4294967296) % 16777216) ≤ 16 ∧ (w % 4294967296) < 2 ^ (Int.toNat ((w / 4294967296) % 16777216)) ∧ (w % 4294967296) < 65536))) ∧ rv = .tup [.agg [.i 0, .i 0, .u 0], .i 10])) := by
 refine pub_of TT_ok Try.func70 rfl (by decide) (Nat.le_of_ble_eq_true (by kernel_rfl)) (by kernel_rfl) ?_
 refine rgi [] 2 [3, 2, 0] [0] [] trivial ?_
 refine rgi [(1, .i (w / 72057594037927936)), (2, .i (w / 72057594037927936)), (4, .i (w / 4294967296)), (5, .i ((w / 4294967296) % 16777216)), (6, .i ((w / 4294967296) % 16777216)), (8, .i (w % 4294967296))] 12 [4, 3, 2] [1, 0] [(0 : Int) ≤ 56 ∧ w.fdiv (2 ^ min (56 : Int).toNat IntKind.u64.bits) = (w / 72057594037927936), IntKind.i64.wrap (w / 72057594037927936) = (w / 72057594037927936), (0 : Int) ≤ 32 ∧ w.fdiv (2 ^ min (32 : Int).toNat IntKind.u64.bits) = (w / 4294967296), IntKind.u64.wrap (BitVec.ofInt 64 (w / 4294967296) &&& BitVec.ofInt 64 16777215).toNat = ((w / 4294967296) % 16777216), IntKind.i64.wrap ((w / 4294967296) % 16777216) = ((w / 4294967296) % 16777216), IntKind.u64.wrap (BitVec.ofInt 64 w &&& BitVec.ofInt 64 4294967295).toNat = (w % 4294967296), True] ⟨⟨by omega, shr_eq rfl⟩, i64_in (by omega), ⟨by omega, shr_eq rfl⟩, and_eq 24 16777216 (by decide) rfl (by omega) (by omega) (by omega), i64_in (by omega), and_eq 32 4294967296 (by decide) rfl (by omega) (by omega) (by omega), trivial, trivial⟩ ?_
 refine xw_seq ?_
 refine xw_seq ?_
 refine reg ?_
 refine rki [] 1 0 [15, 4, 3, 2] [1, 0] [True] ⟨trivial, trivial⟩ ?_
 by_cases h0 : ((w / 72057594037927936) = 255 ∧ 0 ≤ ((w / 4294967296) % 16777216) ∧ ((w / 4294967296) % 16777216) ≤ 65535 ∧ (w % 4294967296) = 0) ∨ (1 ≤ (w / 72057594037927936) ∧ (w / 72057594037927936) ≤ 200 ∧ 0 ≤ ((w / 4294967296) % 16777216) ∧ ((w / 4294967296) % 16777216) ≤ 16 ∧ (w % 4294967296) < 2 ^ (Int.toNat ((w / 4294967296) % 16777216)) ∧ (w % 4294967296) < 65536)
 ·
  refine pc (hright_1 (w / 72057594037927936) ((w / 4294967296) % 16777216) (w % 4294967296) (by omega) (by omega) (by omega) ‹_›) ?_
  refine rk [(2, .f)] 1 2 ⟨[(17, .f), (4, .p 1), (3, .i 0), (2, .p 0)], [(1, .cells [.i (w / 72057594037927936), .i ((w / 4294967296) % 16777216), .u (w % 4294967296)] 49), (0, .cells [.i 0, .i 0, .u 0] 49)], 2⟩ [(0 != 0) = false] ⟨bne_eq_false_iff_eq.2 (by omega), trivial⟩ ?_
  refine en ?_
  refine an ?_
  refine cf ?_
  refine xw_skip ?_
  refine an ?_
  refine rgi [] 3 [3, 2] [0] [True, True] ⟨trivial, trivial, trivial⟩ ?_
  refine xw_ret ?_
  exact bs (.tup [.agg [.i (w / 72057594037927936), .i ((w / 4294967296) % 16777216), .u (w % 4294967296)], .i 0]) (Or.inl <| ⟨(by omega), rfl⟩)
 ·
  refine pc (hright_2 (w / 72057594037927936) ((w / 4294967296) % 16777216) (w % 4294967296) (by omega) (by omega) (by omega) ‹_›) ?_
  have h1 : (headErr (w / 72057594037927936) ((w / 4294967296) % 16777216) (w % 4294967296)) ≠ 0 := headErr_ne (by omega) (by omega)
  refine rk [(2, .t)] 1 2 ⟨[(17, .t), (4, .p 1), (3, .i 0), (2, .p 0)], [(1, .cells [.i (w / 72057594037927936), .i ((w / 4294967296) % 16777216), .u (w % 4294967296)] 49), (0, .cells [.i 0, .i 0, .u 0] 49)], 2⟩ [((headErr (w / 72057594037927936) ((w / 4294967296) % 16777216) (w % 4294967296)) != 0) = true] ⟨bne_iff_ne.2 (by omega), trivial⟩ ?_
  refine en ?_
  refine an ?_
  refine ct ?_
  refine rgi [] 3 [3, 4, 2] [1, 0] [True] ⟨trivial, trivial⟩ ?_
  refine xw_ret ?_
  refine an_ret ?_
  exact bs (.tup [.agg [.i 0, .i 0, .u 0], .i 10]) (Or.inr <| ⟨(by omega), rfl⟩)

theorem htake_1 (w : Int) (hp0 : 0 ≤ w ∧ w ≤ 18446744073709551615) (hp1 : ((w / 72057594037927936) = 255 ∧ 0 ≤ ((w / 4294967296) % 16777216) ∧ ((w / 4294967296) % 16777216) ≤ 65535 ∧ (w % 4294967296) = 0) ∨ (1 ≤ (w / 72057594037927936) ∧ (w / 72057594037927936) ≤ 200 ∧ 0 ≤ ((w / 4294967296) % 16777216) ∧ ((w / 4294967296) % 16777216) ≤ 16 ∧ (w % 4294967296) < 2 ^ (Int.toNat ((w / 4294967296) % 16777216)) ∧ (w % 4294967296) < 65536)) : Pub Try.prog 70 [.u w] (fun rv => rv = .tup [.agg [.i (w / 72057594037927936), .i ((w / 4294967296) % 16777216), .u (w % 4294967296)], .i 0]) := by
  refine (htake w hp0).mono ?_
  rintro _ (⟨g0, rfl⟩ | ⟨g0, rfl⟩)
  all_goals first | rfl | (exfalso; first | omega | grind)

theorem htake_2 (w : Int) (hp0 : 0 ≤ w ∧ w ≤ 18446744073709551615) (hp1 : ¬ (((w / 72057594037927936) = 255 ∧ 0 ≤ ((w / 4294967296) % 16777216) ∧ ((w / 4294967296) % 16777216) ≤ 65535 ∧ (w % 4294967296) = 0) ∨ (1 ≤ (w / 72057594037927936) ∧ (w / 72057594037927936) ≤ 200 ∧ 0 ≤ ((w / 4294967296) % 16777216) ∧ ((w / 4294967296) % 16777216) ≤ 16 ∧ (w % 4294967296) < 2 ^ (Int.toNat ((w / 4294967296) % 16777216)) ∧ (w % 4294967296) < 65536))) : Pub Try.prog 70 [.u w] (fun rv => rv = .tup [.agg [.i 0, .i 0, .u 0], .i 10]) := by
  refine (htake w hp0).mono ?_
  rintro _ (⟨g0, rfl⟩ | ⟨g0, rfl⟩)
  all_goals first | rfl | (exfalso; first | omega | grind)

theorem hpointer (t l m i : Int) (hp0 : -9223372036854775808 ≤ t ∧ t ≤ 9223372036854775807) (hp1 : -9223372036854775808 ≤ l ∧ l ≤ 9223372036854775807) (hp2 : 0 ≤ m ∧ m ≤ 18446744073709551615) : Pub Try.prog 87 [.agg [.i t, .i l, .u m], .i i] (fun rv => rv = .bool (isPtr l m i)) := by
 refine pub_of TT_ok Try.func87 rfl (by decide) (Nat.le_of_ble_eq_true (by kernel_rfl)) (by kernel_rfl) ?_
 refine rgi [] 2 [4, 2, 1] [0] [] trivial ?_
 refine xw_seq ?_
 refine reg ?_
 refine rki [(1, .bool (decide (0 ≤ i)))] 3 0 [7, 4, 2, 1] [0] [sm (decide (0 ≤ i))] ⟨rfl, trivial⟩ ?_
 refine splitr 7 (x := (decide (0 ≤ i))) (by kernel_rfl) (fun h0 => ?_) (fun h0 => ?_)
 ·
  replace h0 : 0 ≤ i := of_decide_eq_true h0
  refine rki [(6, .bool (decide (i < l)))] 6 3 [13, 4, 2, 1] [0] [True, sm (decide (i < l)), True] ⟨trivial, rfl, trivial, trivial⟩ ?_
  refine splitr 13 (x := (decide (i < l))) (by kernel_rfl) (fun h1 => ?_) (fun h1 => ?_)
  ·
   replace h1 : i < l := of_decide_eq_true h1
   refine rk [(10, .bool (decide (i < 64)))] 4 9 ⟨[(17, .bool (decide (i < 64))), (4, .f), (2, .p 0), (1, .i i)], [(0, .cells [.i t, .i l, .u m] 49)], 1⟩ [sm (decide (i < 64)), True] ⟨rfl, trivial, trivial⟩ ?_
   refine splitr 17 (x := (decide (i < 64))) (by kernel_rfl) (fun h2 => ?_) (fun h2 => ?_)
   ·
    replace h2 : i < 64 := of_decide_eq_true h2
    refine rki [(16, .i (m.fdiv (2 ^ min (i : Int).toNat IntKind.u64.bits)))] 4 13 [21, 17, 4] [] [True, (0 : Int) ≤ i ∧ (m.fdiv (2 ^ min (i : Int).toNat IntKind.u64.bits)) = (m.fdiv (2 ^ min (i : Int).toNat IntKind.u64.bits))] ⟨trivial, ⟨by omega, rfl⟩, trivial⟩ ?_
    have h3 : 0 ≤ (m.fdiv (2 ^ min (i : Int).toNat IntKind.u64.bits)) ∧ (m.fdiv (2 ^ min (i : Int).toNat IntKind.u64.bits)) ≤ m := shr_le (by omega)
    refine rki [(17, .i ((m.fdiv (2 ^ min (i : Int).toNat IntKind.u64.bits)) % 2)), (18, .bool (((m.fdiv (2 ^ min (i : Int).toNat IntKind.u64.bits)) % 2) == 1))] 4 17 [4] [] [IntKind.u64.wrap (BitVec.ofInt 64 (m.fdiv (2 ^ min (i : Int).toNat IntKind.u64.bits)) &&& BitVec.ofInt 64 1).toNat = ((m.fdiv (2 ^ min (i : Int).toNat IntKind.u64.bits)) % 2), sm (((m.fdiv (2 ^ min (i : Int).toNat IntKind.u64.bits)) % 2) == 1), True] ⟨and_eq 1 2 (by decide) rfl (by omega) (by omega) (by omega), rfl, trivial, trivial⟩ ?_
    refine en ?_
    refine an ?_
    refine xw_ret ?_
    by_cases h4 : ((m.fdiv (2 ^ min (i : Int).toNat IntKind.u64.bits)) % 2) = 1
    ·
     exact br (.bool (((m.fdiv (2 ^ min (i : Int).toNat IntKind.u64.bits)) % 2) == 1)) (.bool (isPtr l m i)) (wkd [(((m.fdiv (2 ^ min (i : Int).toNat IntKind.u64.bits)) % 2) == 1) = (isPtr l m i)] (by kernel_rfl) ⟨(by have hq := @ptr_eq m i; simp only [isPtr]; first | (symm; apply decide_eq_true; simp_all; done) | (symm; apply decide_eq_false; simp_all; done) | (symm; apply decide_eq_false; omega) | grind), trivial⟩) rfl
    ·
     exact br (.bool (((m.fdiv (2 ^ min (i : Int).toNat IntKind.u64.bits)) % 2) == 1)) (.bool (isPtr l m i)) (wkd [(((m.fdiv (2 ^ min (i : Int).toNat IntKind.u64.bits)) % 2) == 1) = (isPtr l m i)] (by kernel_rfl) ⟨(by have hq := @ptr_eq m i; simp only [isPtr]; first | (symm; apply decide_eq_true; simp_all; done) | (symm; apply decide_eq_false; simp_all; done) | (symm; apply decide_eq_false; omega) | grind), trivial⟩) rfl
   ·
    replace h2 : ¬ (i < 64) := of_decide_eq_false h2
    refine rki [] 8 13 [4] [] [True] ⟨trivial, trivial⟩ ?_
    refine en ?_
    refine an ?_
    refine xw_ret ?_
    exact br (.f) (.bool (isPtr l m i)) (wkd [false = (isPtr l m i)] (by kernel_rfl) ⟨(by have hq := @ptr_eq m i; simp only [isPtr]; first | (symm; apply decide_eq_true; simp_all; done) | (symm; apply decide_eq_false; simp_all; done) | (symm; apply decide_eq_false; omega) | grind), trivial⟩) rfl
  ·
   replace h1 : ¬ (i < l) := of_decide_eq_false h1
   refine rk [] 12 9 ⟨[(4, .f)], [], 1⟩ [True, True] ⟨trivial, trivial, trivial⟩ ?_
   refine en ?_
   refine an ?_
   refine xw_ret ?_
   exact br (.f) (.bool (isPtr l m i)) (wkd [false = (isPtr l m i)] (by kernel_rfl) ⟨(by have hq := @ptr_eq m i; simp only [isPtr]; first | (symm; apply decide_eq_true; simp_all; done) | (symm; apply decide_eq_false; simp_all; done) | (symm; apply decide_eq_false; omega) | grind), trivial⟩) rfl
 ·
  replace h0 : ¬ (0 ≤ i) := of_decide_eq_false h0
  refine rki [] 18 3 [4] [] [True, True, True] ⟨trivial, trivial, trivial, trivial⟩ ?_
  refine en ?_
  refine an ?_
  refine xw_ret ?_
  exact br (.f) (.bool (isPtr l m i)) (wkd [false = (isPtr l m i)] (by kernel_rfl) ⟨(by have hq := @ptr_eq m i; simp only [isPtr]; first | (symm; apply decide_eq_true; simp_all; done) | (symm; apply decide_eq_false; simp_all; done) | (symm; apply decide_eq_false; omega) | grind), trivial⟩) rfl

end Go.Proofs.Ytjchmajamlehmaa.X
